/-
  No cell of these rows narrows 'for every input' (looked for: loops, veiled, ifaces, maps, wideKeys, modest, calm, conditions, laid).
  DERIVED. THE GIVEN ROWS OF THIS SEAT. 4 by the template 'for every input the law returns true; each argument reads behind the call as it read before'; 0 by the template 'total and deterministic' (their statements: YtjemjopjiohcoaaTotals.lean).
  GIVEN WITH THE SEED: the statements are not yours to turn. If you find one false, say at which input.
  Laid BY PROGRAM, IN A SANDBOX (cutbox-rows.mjs): the forced cells as the released guide's own fill.sh prints them over the translation 9e283b2214e05c2d… (all of the seat's roots in one cut). By AI agents, Wed Nov 11 2026. No macro, syntax, notation, axiom, sorry.
-/
import Derived.Test.YtjemjopjiohcoaaChecked
import GoSem.Claim
import GoSem.ClaimJoined
import GoSem.ClaimMapViews
import Derived.JoinedTies
import Derived.KernelRfl
namespace Go.Proofs.Ytjemjopjiohcoaa
/- THE CELL 'sum', in the pinned program and in every row, IS THE sha256 OF THE DUMP (.gsa) THAT YtjemjopjiohcoaaProg.lean LOADS. Nothing in Lean hashes anything: it is a label: what it is worth is what the hold of that sum in a sandbox is worth. -/
noncomputable def Try.pinned : Pinned := { name := "ytjemjopjiohcoaa", sum := "9e283b2214e05c2dcddbdaa04a387cfdc17eeefafefb64ba260f3aecba705995", checked := Try.checked }
namespace Rows
def none {H : Type} : Left H := { results := [], args := [] }

/-- 'palinodelaw05.ClassTells': WHATEVER THE INPUT: true; the input reads as it did. -/
def classTellsSpec : ChangeSpec := { name := "classTells", fn := fun _ => fun
  | [d1, d2] => { results := [.lit (.bool true)], args := [d1, d2] }
  | _ => none }
def classTellsRow : OpenClaim := { program := "ytjemjopjiohcoaa", sum := "9e283b2214e05c2dcddbdaa04a387cfdc17eeefafefb64ba260f3aecba705995", func := "palinode/palinodelaw05.ClassTells", spec := "classTells", apart := false }
def ClassTellsSaid : Prop := classTellsRow.holds Try.pinned (OpenSpec.ofChange classTellsSpec)

/-- ITS FALSE NEIGHBOUR: 'it returns false'. Refute it at one input. -/
def classTellsWrong : ChangeSpec := { name := "classTells", fn := fun _ => fun
  | [d1, d2] => { results := [.lit (.bool false)], args := [d1, d2] }
  | _ => none }
def ClassTellsWrongFalsely : Prop := classTellsRow.holds Try.pinned (OpenSpec.ofChange classTellsWrong)

/-- 'palinodelaw05.ClassUnions': WHATEVER THE INPUT: true; the input reads as it did. -/
def classUnionsSpec : ChangeSpec := { name := "classUnions", fn := fun _ => fun
  | [d1, d2] => { results := [.lit (.bool true)], args := [d1, d2] }
  | _ => none }
def classUnionsRow : OpenClaim := { program := "ytjemjopjiohcoaa", sum := "9e283b2214e05c2dcddbdaa04a387cfdc17eeefafefb64ba260f3aecba705995", func := "palinode/palinodelaw05.ClassUnions", spec := "classUnions", apart := false }
def ClassUnionsSaid : Prop := classUnionsRow.holds Try.pinned (OpenSpec.ofChange classUnionsSpec)

/-- ITS FALSE NEIGHBOUR: 'it returns false'. Refute it at one input. -/
def classUnionsWrong : ChangeSpec := { name := "classUnions", fn := fun _ => fun
  | [d1, d2] => { results := [.lit (.bool false)], args := [d1, d2] }
  | _ => none }
def ClassUnionsWrongFalsely : Prop := classUnionsRow.holds Try.pinned (OpenSpec.ofChange classUnionsWrong)

/-- 'palinodelaw05.ClassBack': WHATEVER THE INPUT: true; the input reads as it did. -/
def classBackSpec : ChangeSpec := { name := "classBack", fn := fun _ => fun
  | [d1, d2] => { results := [.lit (.bool true)], args := [d1, d2] }
  | _ => none }
def classBackRow : OpenClaim := { program := "ytjemjopjiohcoaa", sum := "9e283b2214e05c2dcddbdaa04a387cfdc17eeefafefb64ba260f3aecba705995", func := "palinode/palinodelaw05.ClassBack", spec := "classBack", apart := false }
def ClassBackSaid : Prop := classBackRow.holds Try.pinned (OpenSpec.ofChange classBackSpec)

/-- ITS FALSE NEIGHBOUR: 'it returns false'. Refute it at one input. -/
def classBackWrong : ChangeSpec := { name := "classBack", fn := fun _ => fun
  | [d1, d2] => { results := [.lit (.bool false)], args := [d1, d2] }
  | _ => none }
def ClassBackWrongFalsely : Prop := classBackRow.holds Try.pinned (OpenSpec.ofChange classBackWrong)

/-- 'palinodelaw05.ClassMakes': WHATEVER THE INPUT: true; the input reads as it did. -/
def classMakesSpec : ChangeSpec := { name := "classMakes", fn := fun _ => fun
  | [d1, d2, d3, d4] => { results := [.lit (.bool true)], args := [d1, d2, d3, d4] }
  | _ => none }
def classMakesRow : OpenClaim := { program := "ytjemjopjiohcoaa", sum := "9e283b2214e05c2dcddbdaa04a387cfdc17eeefafefb64ba260f3aecba705995", func := "palinode/palinodelaw05.ClassMakes", spec := "classMakes", apart := false }
def ClassMakesSaid : Prop := classMakesRow.holds Try.pinned (OpenSpec.ofChange classMakesSpec)

/-- ITS FALSE NEIGHBOUR: 'it returns false'. Refute it at one input. -/
def classMakesWrong : ChangeSpec := { name := "classMakes", fn := fun _ => fun
  | [d1, d2, d3, d4] => { results := [.lit (.bool false)], args := [d1, d2, d3, d4] }
  | _ => none }
def ClassMakesWrongFalsely : Prop := classMakesRow.holds Try.pinned (OpenSpec.ofChange classMakesWrong)

/- THE SECOND FORM. 'bulk': how many values and letters a reading holds, each counted each time it is reached (what is shared counts as often as it is met; a slice's spare places count too). A statement '..UptoSaid' is the law's where the arguments, and the package variables that the reading takes, are together of bulk at most 1048576: NARROWER than '..Said'. Prove '..Said' where nothing that the law and all that it calls make is longer than what came in: it says more and counts as full. Else prove '..UptoSaid'. A law counts once. -/
mutual
def uptoBulk {H : Type} : DataW H → Nat
  | .lit (.string bytes) => bytes.length + 1
  | .lit _ => 1
  | .nil => 1
  | .ptr d => uptoBulk d + 1
  | .slice elems spare => uptoBulkAll elems + uptoBulkAll spare + 1
  | .agg parts => uptoBulkAll parts + 1
  | .iface _ d => uptoBulk d + 1
  | .map entries => uptoBulkEntries entries + 1
  | .held _ => 1
def uptoBulkAll {H : Type} : List (DataW H) → Nat
  | [] => 0
  | d :: r => uptoBulk d + uptoBulkAll r
def uptoBulkEntries {H : Type} : List (Lit × DataW H) → Nat
  | [] => 0
  | x :: r => uptoBulkEntry x + uptoBulkEntries r
def uptoBulkEntry {H : Type} : Lit × DataW H → Nat
  | (.string bytes, d) => bytes.length + uptoBulk d + 1
  | (_, d) => uptoBulk d + 1
 end
def uptoSmall : (H : Type) → List (DataW H) → Bool := fun _ ds => decide (uptoBulkAll ds ≤ 1048576)
def OpenSpec.upto (s : _root_.Go.ChangeSpec) : _root_.Go.OpenSpec := { _root_.Go.OpenSpec.ofChange s with cond := some uptoSmall }

/-- 'palinodelaw05.ClassTells', WHERE WHAT IT READS IS OF BULK AT MOST 1048576: true; the input reads as it did. -/
def classTellsUptoRow : OpenClaim := { program := "ytjemjopjiohcoaa", sum := "9e283b2214e05c2dcddbdaa04a387cfdc17eeefafefb64ba260f3aecba705995", func := "palinode/palinodelaw05.ClassTells", spec := "classTells", apart := false, narrowed := true }
def ClassTellsUptoSaid : Prop := classTellsUptoRow.holds Try.pinned (OpenSpec.upto classTellsSpec)

/-- 'palinodelaw05.ClassUnions', WHERE WHAT IT READS IS OF BULK AT MOST 1048576: true; the input reads as it did. -/
def classUnionsUptoRow : OpenClaim := { program := "ytjemjopjiohcoaa", sum := "9e283b2214e05c2dcddbdaa04a387cfdc17eeefafefb64ba260f3aecba705995", func := "palinode/palinodelaw05.ClassUnions", spec := "classUnions", apart := false, narrowed := true }
def ClassUnionsUptoSaid : Prop := classUnionsUptoRow.holds Try.pinned (OpenSpec.upto classUnionsSpec)

/-- 'palinodelaw05.ClassBack', WHERE WHAT IT READS IS OF BULK AT MOST 1048576: true; the input reads as it did. -/
def classBackUptoRow : OpenClaim := { program := "ytjemjopjiohcoaa", sum := "9e283b2214e05c2dcddbdaa04a387cfdc17eeefafefb64ba260f3aecba705995", func := "palinode/palinodelaw05.ClassBack", spec := "classBack", apart := false, narrowed := true }
def ClassBackUptoSaid : Prop := classBackUptoRow.holds Try.pinned (OpenSpec.upto classBackSpec)

/-- 'palinodelaw05.ClassMakes', WHERE WHAT IT READS IS OF BULK AT MOST 1048576: true; the input reads as it did. -/
def classMakesUptoRow : OpenClaim := { program := "ytjemjopjiohcoaa", sum := "9e283b2214e05c2dcddbdaa04a387cfdc17eeefafefb64ba260f3aecba705995", func := "palinode/palinodelaw05.ClassMakes", spec := "classMakes", apart := false, narrowed := true }
def ClassMakesUptoSaid : Prop := classMakesUptoRow.holds Try.pinned (OpenSpec.upto classMakesSpec)

end Rows
end Go.Proofs.Ytjemjopjiohcoaa
