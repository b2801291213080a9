/-
  No cell of these rows narrows 'for every input' (looked for: loops, veiled, ifaces, maps, wideKeys, modest, calm, conditions, laid).
  DERIVED. THE GIVEN ROWS OF THIS SEAT. 4 by the template 'for every input the law returns true; each argument reads behind the call as it read before'; 0 by the template 'total and deterministic' (their statements: YtljlaggehilpfaaTotals.lean).
  GIVEN WITH THE SEED: the statements are not yours to turn. If you find one false, say at which input.
  Laid BY PROGRAM, IN A SANDBOX (cutbox-rows.mjs): the forced cells as the released guide's own fill.sh prints them over the translation 6415088a8ac1d601… (all of the seat's roots in one cut). By AI agents, Wed Nov 11 2026. No macro, syntax, notation, axiom, sorry.
-/
import Derived.Test.YtljlaggehilpfaaChecked
import GoSem.Claim
import GoSem.ClaimJoined
import GoSem.ClaimMapViews
import Derived.JoinedTies
import Derived.KernelRfl
namespace Go.Proofs.Ytljlaggehilpfaa
/- THE CELL 'sum', in the pinned program and in every row, IS THE sha256 OF THE DUMP (.gsa) THAT YtljlaggehilpfaaProg.lean LOADS. Nothing in Lean hashes anything: it is a label: what it is worth is what the hold of that sum in a sandbox is worth. -/
noncomputable def Try.pinned : Pinned := { name := "ytljlaggehilpfaa", sum := "6415088a8ac1d601b6cd9f5828ef1c54766f2295bed31ca146620a270e3a471e", checked := Try.checked }
namespace Rows
def none {H : Type} : Left H := { results := [], args := [] }

/-- 'palinodelaw03.FilesNames': WHATEVER THE INPUT: true; the input reads as it did. -/
def filesNamesSpec : ChangeSpec := { name := "filesNames", fn := fun _ => fun
  | [d1, d2] => { results := [.lit (.bool true)], args := [d1, d2] }
  | _ => none }
def filesNamesRow : OpenClaim := { program := "ytljlaggehilpfaa", sum := "6415088a8ac1d601b6cd9f5828ef1c54766f2295bed31ca146620a270e3a471e", func := "palinode/palinodelaw03.FilesNames", spec := "filesNames", unfollowed := true, recurses := true, apart := false }
def FilesNamesSaid : Prop := filesNamesRow.holds Try.pinned (OpenSpec.ofChange filesNamesSpec)

/-- ITS FALSE NEIGHBOUR: 'it returns false'. Refute it at one input. -/
def filesNamesWrong : ChangeSpec := { name := "filesNames", fn := fun _ => fun
  | [d1, d2] => { results := [.lit (.bool false)], args := [d1, d2] }
  | _ => none }
def FilesNamesWrongFalsely : Prop := filesNamesRow.holds Try.pinned (OpenSpec.ofChange filesNamesWrong)

/-- 'palinodelaw03.FilesFull': WHATEVER THE INPUT: true; the input reads as it did. -/
def filesFullSpec : ChangeSpec := { name := "filesFull", fn := fun _ => fun
  | [d1, d2] => { results := [.lit (.bool true)], args := [d1, d2] }
  | _ => none }
def filesFullRow : OpenClaim := { program := "ytljlaggehilpfaa", sum := "6415088a8ac1d601b6cd9f5828ef1c54766f2295bed31ca146620a270e3a471e", func := "palinode/palinodelaw03.FilesFull", spec := "filesFull", unfollowed := true, recurses := true, apart := false }
def FilesFullSaid : Prop := filesFullRow.holds Try.pinned (OpenSpec.ofChange filesFullSpec)

/-- ITS FALSE NEIGHBOUR: 'it returns false'. Refute it at one input. -/
def filesFullWrong : ChangeSpec := { name := "filesFull", fn := fun _ => fun
  | [d1, d2] => { results := [.lit (.bool false)], args := [d1, d2] }
  | _ => none }
def FilesFullWrongFalsely : Prop := filesFullRow.holds Try.pinned (OpenSpec.ofChange filesFullWrong)

/-- 'palinodelaw03.FilesBack': WHATEVER THE INPUT: true; the input reads as it did. -/
def filesBackSpec : ChangeSpec := { name := "filesBack", fn := fun _ => fun
  | [d1, d2, d3] => { results := [.lit (.bool true)], args := [d1, d2, d3] }
  | _ => none }
def filesBackRow : OpenClaim := { program := "ytljlaggehilpfaa", sum := "6415088a8ac1d601b6cd9f5828ef1c54766f2295bed31ca146620a270e3a471e", func := "palinode/palinodelaw03.FilesBack", spec := "filesBack", unfollowed := true, recurses := true, apart := false }
def FilesBackSaid : Prop := filesBackRow.holds Try.pinned (OpenSpec.ofChange filesBackSpec)

/-- ITS FALSE NEIGHBOUR: 'it returns false'. Refute it at one input. -/
def filesBackWrong : ChangeSpec := { name := "filesBack", fn := fun _ => fun
  | [d1, d2, d3] => { results := [.lit (.bool false)], args := [d1, d2, d3] }
  | _ => none }
def FilesBackWrongFalsely : Prop := filesBackRow.holds Try.pinned (OpenSpec.ofChange filesBackWrong)

/-- 'palinodelaw03.FilesPlay': WHATEVER THE INPUT: true; the input reads as it did. -/
def filesPlaySpec : ChangeSpec := { name := "filesPlay", fn := fun _ => fun
  | [d1, d2] => { results := [.lit (.bool true)], args := [d1, d2] }
  | _ => none }
def filesPlayRow : OpenClaim := { program := "ytljlaggehilpfaa", sum := "6415088a8ac1d601b6cd9f5828ef1c54766f2295bed31ca146620a270e3a471e", func := "palinode/palinodelaw03.FilesPlay", spec := "filesPlay", unfollowed := true, recurses := true, apart := false }
def FilesPlaySaid : Prop := filesPlayRow.holds Try.pinned (OpenSpec.ofChange filesPlaySpec)

/-- ITS FALSE NEIGHBOUR: 'it returns false'. Refute it at one input. -/
def filesPlayWrong : ChangeSpec := { name := "filesPlay", fn := fun _ => fun
  | [d1, d2] => { results := [.lit (.bool false)], args := [d1, d2] }
  | _ => none }
def FilesPlayWrongFalsely : Prop := filesPlayRow.holds Try.pinned (OpenSpec.ofChange filesPlayWrong)

/- THE SECOND FORM. 'bulk': how many values and letters a reading holds, each counted each time it is reached (what is shared counts as often as it is met; a slice's spare places count too). A statement '..UptoSaid' is the law's where the arguments, and the package variables that the reading takes, are together of bulk at most 1048576: NARROWER than '..Said'. Prove '..Said' where nothing that the law and all that it calls make is longer than what came in: it says more and counts as full. Else prove '..UptoSaid'. A law counts once. -/
mutual
def uptoBulk {H : Type} : DataW H → Nat
  | .lit (.string bytes) => bytes.length + 1
  | .lit _ => 1
  | .nil => 1
  | .ptr d => uptoBulk d + 1
  | .slice elems spare => uptoBulkAll elems + uptoBulkAll spare + 1
  | .agg parts => uptoBulkAll parts + 1
  | .iface _ d => uptoBulk d + 1
  | .map entries => uptoBulkEntries entries + 1
  | .held _ => 1
def uptoBulkAll {H : Type} : List (DataW H) → Nat
  | [] => 0
  | d :: r => uptoBulk d + uptoBulkAll r
def uptoBulkEntries {H : Type} : List (Lit × DataW H) → Nat
  | [] => 0
  | x :: r => uptoBulkEntry x + uptoBulkEntries r
def uptoBulkEntry {H : Type} : Lit × DataW H → Nat
  | (.string bytes, d) => bytes.length + uptoBulk d + 1
  | (_, d) => uptoBulk d + 1
 end
def uptoSmall : (H : Type) → List (DataW H) → Bool := fun _ ds => decide (uptoBulkAll ds ≤ 1048576)
def OpenSpec.upto (s : _root_.Go.ChangeSpec) : _root_.Go.OpenSpec := { _root_.Go.OpenSpec.ofChange s with cond := some uptoSmall }

/-- 'palinodelaw03.FilesNames', WHERE WHAT IT READS IS OF BULK AT MOST 1048576: true; the input reads as it did. -/
def filesNamesUptoRow : OpenClaim := { program := "ytljlaggehilpfaa", sum := "6415088a8ac1d601b6cd9f5828ef1c54766f2295bed31ca146620a270e3a471e", func := "palinode/palinodelaw03.FilesNames", spec := "filesNames", unfollowed := true, recurses := true, apart := false, narrowed := true }
def FilesNamesUptoSaid : Prop := filesNamesUptoRow.holds Try.pinned (OpenSpec.upto filesNamesSpec)

/-- 'palinodelaw03.FilesFull', WHERE WHAT IT READS IS OF BULK AT MOST 1048576: true; the input reads as it did. -/
def filesFullUptoRow : OpenClaim := { program := "ytljlaggehilpfaa", sum := "6415088a8ac1d601b6cd9f5828ef1c54766f2295bed31ca146620a270e3a471e", func := "palinode/palinodelaw03.FilesFull", spec := "filesFull", unfollowed := true, recurses := true, apart := false, narrowed := true }
def FilesFullUptoSaid : Prop := filesFullUptoRow.holds Try.pinned (OpenSpec.upto filesFullSpec)

/-- 'palinodelaw03.FilesBack', WHERE WHAT IT READS IS OF BULK AT MOST 1048576: true; the input reads as it did. -/
def filesBackUptoRow : OpenClaim := { program := "ytljlaggehilpfaa", sum := "6415088a8ac1d601b6cd9f5828ef1c54766f2295bed31ca146620a270e3a471e", func := "palinode/palinodelaw03.FilesBack", spec := "filesBack", unfollowed := true, recurses := true, apart := false, narrowed := true }
def FilesBackUptoSaid : Prop := filesBackUptoRow.holds Try.pinned (OpenSpec.upto filesBackSpec)

/-- 'palinodelaw03.FilesPlay', WHERE WHAT IT READS IS OF BULK AT MOST 1048576: true; the input reads as it did. -/
def filesPlayUptoRow : OpenClaim := { program := "ytljlaggehilpfaa", sum := "6415088a8ac1d601b6cd9f5828ef1c54766f2295bed31ca146620a270e3a471e", func := "palinode/palinodelaw03.FilesPlay", spec := "filesPlay", unfollowed := true, recurses := true, apart := false, narrowed := true }
def FilesPlayUptoSaid : Prop := filesPlayUptoRow.holds Try.pinned (OpenSpec.upto filesPlaySpec)

end Rows
end Go.Proofs.Ytljlaggehilpfaa
