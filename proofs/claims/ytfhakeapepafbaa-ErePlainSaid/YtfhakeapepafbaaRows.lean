/-
  No cell of these rows narrows 'for every input' (looked for: loops, veiled, ifaces, maps, wideKeys, modest, calm, conditions, laid).
  DERIVED. THE GIVEN ROWS OF THIS SEAT. 4 by the template 'for every input the law returns true; each argument reads behind the call as it read before'; 0 by the template 'total and deterministic' (their statements: YtfhakeapepafbaaTotals.lean).
  GIVEN WITH THE SEED: the statements are not yours to turn. If you find one false, say at which input.
  Laid BY PROGRAM, IN A SANDBOX (cutbox-rows.mjs): the forced cells as the released guide's own fill.sh prints them over the translation 3b55640734e358d3… (all of the seat's roots in one cut). By AI agents, Wed Nov 11 2026. No macro, syntax, notation, axiom, sorry.
-/
import Derived.Test.YtfhakeapepafbaaChecked
import GoSem.Claim
import GoSem.ClaimJoined
import GoSem.ClaimMapViews
import Derived.JoinedTies
import Derived.KernelRfl
namespace Go.Proofs.Ytfhakeapepafbaa
/- THE CELL 'sum', in the pinned program and in every row, IS THE sha256 OF THE DUMP (.gsa) THAT YtfhakeapepafbaaProg.lean LOADS. Nothing in Lean hashes anything: it is a label: what it is worth is what the hold of that sum in a sandbox is worth. -/
noncomputable def Try.pinned : Pinned := { name := "ytfhakeapepafbaa", sum := "3b55640734e358d3dfb42ffe7b6ab34b29f0c88cc2c82bfde8cc2e117c10ac94", checked := Try.checked }
namespace Rows
def none {H : Type} : Left H := { results := [], args := [] }

/-- 'palinodelaw09.EreReads': WHATEVER THE INPUT: true; the input reads as it did. -/
def ereReadsSpec : ChangeSpec := { name := "ereReads", fn := fun _ => fun
  | [d] => { results := [.lit (.bool true)], args := [d] }
  | _ => none }
def ereReadsRow : OpenClaim := { program := "ytfhakeapepafbaa", sum := "3b55640734e358d3dfb42ffe7b6ab34b29f0c88cc2c82bfde8cc2e117c10ac94", func := "palinode/palinodelaw09.EreReads", spec := "ereReads", inPlace := ["internal/bytealg.IndexByte", "internal/bytealg.Index"], unfollowed := true, recurses := true, named := ["internal/bytealg.MaxLen"], apart := false }
def EreReadsSaid : Prop := ereReadsRow.holds Try.pinned (OpenSpec.ofChange ereReadsSpec)

/-- ITS FALSE NEIGHBOUR: 'it returns false'. Refute it at one input. -/
def ereReadsWrong : ChangeSpec := { name := "ereReads", fn := fun _ => fun
  | [d] => { results := [.lit (.bool false)], args := [d] }
  | _ => none }
def EreReadsWrongFalsely : Prop := ereReadsRow.holds Try.pinned (OpenSpec.ofChange ereReadsWrong)

/-- 'palinodelaw09.EreAlts': WHATEVER THE INPUT: true; the input reads as it did. -/
def ereAltsSpec : ChangeSpec := { name := "ereAlts", fn := fun _ => fun
  | [d1, d2] => { results := [.lit (.bool true)], args := [d1, d2] }
  | _ => none }
def ereAltsRow : OpenClaim := { program := "ytfhakeapepafbaa", sum := "3b55640734e358d3dfb42ffe7b6ab34b29f0c88cc2c82bfde8cc2e117c10ac94", func := "palinode/palinodelaw09.EreAlts", spec := "ereAlts", inPlace := ["internal/bytealg.IndexByte", "internal/bytealg.Index"], unfollowed := true, recurses := true, named := ["internal/bytealg.MaxLen"], apart := false }
def EreAltsSaid : Prop := ereAltsRow.holds Try.pinned (OpenSpec.ofChange ereAltsSpec)

/-- ITS FALSE NEIGHBOUR: 'it returns false'. Refute it at one input. -/
def ereAltsWrong : ChangeSpec := { name := "ereAlts", fn := fun _ => fun
  | [d1, d2] => { results := [.lit (.bool false)], args := [d1, d2] }
  | _ => none }
def EreAltsWrongFalsely : Prop := ereAltsRow.holds Try.pinned (OpenSpec.ofChange ereAltsWrong)

/-- 'palinodelaw09.EreShort': WHATEVER THE INPUT: true; the input reads as it did. -/
def ereShortSpec : ChangeSpec := { name := "ereShort", fn := fun _ => fun
  | [d1, d2] => { results := [.lit (.bool true)], args := [d1, d2] }
  | _ => none }
def ereShortRow : OpenClaim := { program := "ytfhakeapepafbaa", sum := "3b55640734e358d3dfb42ffe7b6ab34b29f0c88cc2c82bfde8cc2e117c10ac94", func := "palinode/palinodelaw09.EreShort", spec := "ereShort", inPlace := ["internal/bytealg.IndexByte", "internal/bytealg.Index"], unfollowed := true, recurses := true, named := ["internal/bytealg.MaxLen"], apart := false }
def EreShortSaid : Prop := ereShortRow.holds Try.pinned (OpenSpec.ofChange ereShortSpec)

/-- ITS FALSE NEIGHBOUR: 'it returns false'. Refute it at one input. -/
def ereShortWrong : ChangeSpec := { name := "ereShort", fn := fun _ => fun
  | [d1, d2] => { results := [.lit (.bool false)], args := [d1, d2] }
  | _ => none }
def EreShortWrongFalsely : Prop := ereShortRow.holds Try.pinned (OpenSpec.ofChange ereShortWrong)

/-- 'palinodelaw09.ErePlain': WHATEVER THE INPUT: true; the input reads as it did. -/
def erePlainSpec : ChangeSpec := { name := "erePlain", fn := fun _ => fun
  | [d] => { results := [.lit (.bool true)], args := [d] }
  | _ => none }
def erePlainRow : OpenClaim := { program := "ytfhakeapepafbaa", sum := "3b55640734e358d3dfb42ffe7b6ab34b29f0c88cc2c82bfde8cc2e117c10ac94", func := "palinode/palinodelaw09.ErePlain", spec := "erePlain", inPlace := ["internal/bytealg.IndexByte", "internal/bytealg.Index"], unfollowed := true, recurses := true, named := ["internal/bytealg.MaxLen"], apart := false }
def ErePlainSaid : Prop := erePlainRow.holds Try.pinned (OpenSpec.ofChange erePlainSpec)

/-- ITS FALSE NEIGHBOUR: 'it returns false'. Refute it at one input. -/
def erePlainWrong : ChangeSpec := { name := "erePlain", fn := fun _ => fun
  | [d] => { results := [.lit (.bool false)], args := [d] }
  | _ => none }
def ErePlainWrongFalsely : Prop := erePlainRow.holds Try.pinned (OpenSpec.ofChange erePlainWrong)

/- THE SECOND FORM. 'bulk': how many values and letters a reading holds, each counted each time it is reached (what is shared counts as often as it is met; a slice's spare places count too). A statement '..UptoSaid' is the law's where the arguments, and the package variables that the reading takes, are together of bulk at most 1048576: NARROWER than '..Said'. Prove '..Said' where nothing that the law and all that it calls make is longer than what came in: it says more and counts as full. Else prove '..UptoSaid'. A law counts once. -/
mutual
def uptoBulk {H : Type} : DataW H → Nat
  | .lit (.string bytes) => bytes.length + 1
  | .lit _ => 1
  | .nil => 1
  | .ptr d => uptoBulk d + 1
  | .slice elems spare => uptoBulkAll elems + uptoBulkAll spare + 1
  | .agg parts => uptoBulkAll parts + 1
  | .iface _ d => uptoBulk d + 1
  | .map entries => uptoBulkEntries entries + 1
  | .held _ => 1
def uptoBulkAll {H : Type} : List (DataW H) → Nat
  | [] => 0
  | d :: r => uptoBulk d + uptoBulkAll r
def uptoBulkEntries {H : Type} : List (Lit × DataW H) → Nat
  | [] => 0
  | x :: r => uptoBulkEntry x + uptoBulkEntries r
def uptoBulkEntry {H : Type} : Lit × DataW H → Nat
  | (.string bytes, d) => bytes.length + uptoBulk d + 1
  | (_, d) => uptoBulk d + 1
 end
def uptoSmall : (H : Type) → List (DataW H) → Bool := fun _ ds => decide (uptoBulkAll ds ≤ 1048576)
def OpenSpec.upto (s : _root_.Go.ChangeSpec) : _root_.Go.OpenSpec := { _root_.Go.OpenSpec.ofChange s with cond := some uptoSmall }

/-- 'palinodelaw09.EreReads', WHERE WHAT IT READS IS OF BULK AT MOST 1048576: true; the input reads as it did. -/
def ereReadsUptoRow : OpenClaim := { program := "ytfhakeapepafbaa", sum := "3b55640734e358d3dfb42ffe7b6ab34b29f0c88cc2c82bfde8cc2e117c10ac94", func := "palinode/palinodelaw09.EreReads", spec := "ereReads", inPlace := ["internal/bytealg.IndexByte", "internal/bytealg.Index"], unfollowed := true, recurses := true, named := ["internal/bytealg.MaxLen"], apart := false, narrowed := true }
def EreReadsUptoSaid : Prop := ereReadsUptoRow.holds Try.pinned (OpenSpec.upto ereReadsSpec)

/-- 'palinodelaw09.EreAlts', WHERE WHAT IT READS IS OF BULK AT MOST 1048576: true; the input reads as it did. -/
def ereAltsUptoRow : OpenClaim := { program := "ytfhakeapepafbaa", sum := "3b55640734e358d3dfb42ffe7b6ab34b29f0c88cc2c82bfde8cc2e117c10ac94", func := "palinode/palinodelaw09.EreAlts", spec := "ereAlts", inPlace := ["internal/bytealg.IndexByte", "internal/bytealg.Index"], unfollowed := true, recurses := true, named := ["internal/bytealg.MaxLen"], apart := false, narrowed := true }
def EreAltsUptoSaid : Prop := ereAltsUptoRow.holds Try.pinned (OpenSpec.upto ereAltsSpec)

/-- 'palinodelaw09.EreShort', WHERE WHAT IT READS IS OF BULK AT MOST 1048576: true; the input reads as it did. -/
def ereShortUptoRow : OpenClaim := { program := "ytfhakeapepafbaa", sum := "3b55640734e358d3dfb42ffe7b6ab34b29f0c88cc2c82bfde8cc2e117c10ac94", func := "palinode/palinodelaw09.EreShort", spec := "ereShort", inPlace := ["internal/bytealg.IndexByte", "internal/bytealg.Index"], unfollowed := true, recurses := true, named := ["internal/bytealg.MaxLen"], apart := false, narrowed := true }
def EreShortUptoSaid : Prop := ereShortUptoRow.holds Try.pinned (OpenSpec.upto ereShortSpec)

/-- 'palinodelaw09.ErePlain', WHERE WHAT IT READS IS OF BULK AT MOST 1048576: true; the input reads as it did. -/
def erePlainUptoRow : OpenClaim := { program := "ytfhakeapepafbaa", sum := "3b55640734e358d3dfb42ffe7b6ab34b29f0c88cc2c82bfde8cc2e117c10ac94", func := "palinode/palinodelaw09.ErePlain", spec := "erePlain", inPlace := ["internal/bytealg.IndexByte", "internal/bytealg.Index"], unfollowed := true, recurses := true, named := ["internal/bytealg.MaxLen"], apart := false, narrowed := true }
def ErePlainUptoSaid : Prop := erePlainUptoRow.holds Try.pinned (OpenSpec.upto erePlainSpec)

end Rows
end Go.Proofs.Ytfhakeapepafbaa
