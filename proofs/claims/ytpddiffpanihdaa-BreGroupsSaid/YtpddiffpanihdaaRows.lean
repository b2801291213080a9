/-
  No cell of these rows narrows 'for every input' (looked for: loops, veiled, ifaces, maps, wideKeys, modest, calm, conditions, laid).
  DERIVED. THE GIVEN ROWS OF THIS SEAT. 4 by the template 'for every input the law returns true; each argument reads behind the call as it read before'; 0 by the template 'total and deterministic' (their statements: YtpddiffpanihdaaTotals.lean).
  GIVEN WITH THE SEED: the statements are not yours to turn. If you find one false, say at which input.
  Laid BY PROGRAM, IN A SANDBOX (cutbox-rows.mjs): the forced cells as the released guide's own fill.sh prints them over the translation 4457cc5e875a9521… (all of the seat's roots in one cut). By AI agents, Wed Nov 11 2026. No macro, syntax, notation, axiom, sorry.
-/
import Derived.Test.YtpddiffpanihdaaChecked
import GoSem.Claim
import GoSem.ClaimJoined
import GoSem.ClaimMapViews
import Derived.JoinedTies
import Derived.KernelRfl
namespace Go.Proofs.Ytpddiffpanihdaa
/- THE CELL 'sum', in the pinned program and in every row, IS THE sha256 OF THE DUMP (.gsa) THAT YtpddiffpanihdaaProg.lean LOADS. Nothing in Lean hashes anything: it is a label: what it is worth is what the hold of that sum in a sandbox is worth. -/
noncomputable def Try.pinned : Pinned := { name := "ytpddiffpanihdaa", sum := "4457cc5e875a95216b422bc44249fddaf11403cfda63e8df17a24c242f5b1e3a", checked := Try.checked }
namespace Rows
def none {H : Type} : Left H := { results := [], args := [] }

/-- 'palinodelaw08.BreReads': WHATEVER THE INPUT: true; the input reads as it did. -/
def breReadsSpec : ChangeSpec := { name := "breReads", fn := fun _ => fun
  | [d] => { results := [.lit (.bool true)], args := [d] }
  | _ => none }
def breReadsRow : OpenClaim := { program := "ytpddiffpanihdaa", sum := "4457cc5e875a95216b422bc44249fddaf11403cfda63e8df17a24c242f5b1e3a", func := "palinode/palinodelaw08.BreReads", spec := "breReads", inPlace := ["internal/bytealg.IndexByte", "internal/bytealg.Index"], unfollowed := true, recurses := true, named := ["internal/bytealg.MaxLen"], apart := false }
def BreReadsSaid : Prop := breReadsRow.holds Try.pinned (OpenSpec.ofChange breReadsSpec)

/-- ITS FALSE NEIGHBOUR: 'it returns false'. Refute it at one input. -/
def breReadsWrong : ChangeSpec := { name := "breReads", fn := fun _ => fun
  | [d] => { results := [.lit (.bool false)], args := [d] }
  | _ => none }
def BreReadsWrongFalsely : Prop := breReadsRow.holds Try.pinned (OpenSpec.ofChange breReadsWrong)

/-- 'palinodelaw08.BreLong': WHATEVER THE INPUT: true; the input reads as it did. -/
def breLongSpec : ChangeSpec := { name := "breLong", fn := fun _ => fun
  | [d1, d2] => { results := [.lit (.bool true)], args := [d1, d2] }
  | _ => none }
def breLongRow : OpenClaim := { program := "ytpddiffpanihdaa", sum := "4457cc5e875a95216b422bc44249fddaf11403cfda63e8df17a24c242f5b1e3a", func := "palinode/palinodelaw08.BreLong", spec := "breLong", inPlace := ["internal/bytealg.IndexByte", "internal/bytealg.Index"], unfollowed := true, recurses := true, named := ["internal/bytealg.MaxLen"], apart := false }
def BreLongSaid : Prop := breLongRow.holds Try.pinned (OpenSpec.ofChange breLongSpec)

/-- ITS FALSE NEIGHBOUR: 'it returns false'. Refute it at one input. -/
def breLongWrong : ChangeSpec := { name := "breLong", fn := fun _ => fun
  | [d1, d2] => { results := [.lit (.bool false)], args := [d1, d2] }
  | _ => none }
def BreLongWrongFalsely : Prop := breLongRow.holds Try.pinned (OpenSpec.ofChange breLongWrong)

/-- 'palinodelaw08.BrePlain': WHATEVER THE INPUT: true; the input reads as it did. -/
def brePlainSpec : ChangeSpec := { name := "brePlain", fn := fun _ => fun
  | [d] => { results := [.lit (.bool true)], args := [d] }
  | _ => none }
def brePlainRow : OpenClaim := { program := "ytpddiffpanihdaa", sum := "4457cc5e875a95216b422bc44249fddaf11403cfda63e8df17a24c242f5b1e3a", func := "palinode/palinodelaw08.BrePlain", spec := "brePlain", inPlace := ["internal/bytealg.IndexByte", "internal/bytealg.Index"], unfollowed := true, recurses := true, named := ["internal/bytealg.MaxLen"], apart := false }
def BrePlainSaid : Prop := brePlainRow.holds Try.pinned (OpenSpec.ofChange brePlainSpec)

/-- ITS FALSE NEIGHBOUR: 'it returns false'. Refute it at one input. -/
def brePlainWrong : ChangeSpec := { name := "brePlain", fn := fun _ => fun
  | [d] => { results := [.lit (.bool false)], args := [d] }
  | _ => none }
def BrePlainWrongFalsely : Prop := brePlainRow.holds Try.pinned (OpenSpec.ofChange brePlainWrong)

/-- 'palinodelaw08.BreGroups': WHATEVER THE INPUT: true; the input reads as it did. -/
def breGroupsSpec : ChangeSpec := { name := "breGroups", fn := fun _ => fun
  | [d1, d2] => { results := [.lit (.bool true)], args := [d1, d2] }
  | _ => none }
def breGroupsRow : OpenClaim := { program := "ytpddiffpanihdaa", sum := "4457cc5e875a95216b422bc44249fddaf11403cfda63e8df17a24c242f5b1e3a", func := "palinode/palinodelaw08.BreGroups", spec := "breGroups", inPlace := ["internal/bytealg.IndexByte", "internal/bytealg.Index"], unfollowed := true, recurses := true, named := ["internal/bytealg.MaxLen"], apart := false }
def BreGroupsSaid : Prop := breGroupsRow.holds Try.pinned (OpenSpec.ofChange breGroupsSpec)

/-- ITS FALSE NEIGHBOUR: 'it returns false'. Refute it at one input. -/
def breGroupsWrong : ChangeSpec := { name := "breGroups", fn := fun _ => fun
  | [d1, d2] => { results := [.lit (.bool false)], args := [d1, d2] }
  | _ => none }
def BreGroupsWrongFalsely : Prop := breGroupsRow.holds Try.pinned (OpenSpec.ofChange breGroupsWrong)

/- THE SECOND FORM. 'bulk': how many values and letters a reading holds, each counted each time it is reached (what is shared counts as often as it is met; a slice's spare places count too). A statement '..UptoSaid' is the law's where the arguments, and the package variables that the reading takes, are together of bulk at most 1048576: NARROWER than '..Said'. Prove '..Said' where nothing that the law and all that it calls make is longer than what came in: it says more and counts as full. Else prove '..UptoSaid'. A law counts once. -/
mutual
def uptoBulk {H : Type} : DataW H → Nat
  | .lit (.string bytes) => bytes.length + 1
  | .lit _ => 1
  | .nil => 1
  | .ptr d => uptoBulk d + 1
  | .slice elems spare => uptoBulkAll elems + uptoBulkAll spare + 1
  | .agg parts => uptoBulkAll parts + 1
  | .iface _ d => uptoBulk d + 1
  | .map entries => uptoBulkEntries entries + 1
  | .held _ => 1
def uptoBulkAll {H : Type} : List (DataW H) → Nat
  | [] => 0
  | d :: r => uptoBulk d + uptoBulkAll r
def uptoBulkEntries {H : Type} : List (Lit × DataW H) → Nat
  | [] => 0
  | x :: r => uptoBulkEntry x + uptoBulkEntries r
def uptoBulkEntry {H : Type} : Lit × DataW H → Nat
  | (.string bytes, d) => bytes.length + uptoBulk d + 1
  | (_, d) => uptoBulk d + 1
 end
def uptoSmall : (H : Type) → List (DataW H) → Bool := fun _ ds => decide (uptoBulkAll ds ≤ 1048576)
def OpenSpec.upto (s : _root_.Go.ChangeSpec) : _root_.Go.OpenSpec := { _root_.Go.OpenSpec.ofChange s with cond := some uptoSmall }

/-- 'palinodelaw08.BreReads', WHERE WHAT IT READS IS OF BULK AT MOST 1048576: true; the input reads as it did. -/
def breReadsUptoRow : OpenClaim := { program := "ytpddiffpanihdaa", sum := "4457cc5e875a95216b422bc44249fddaf11403cfda63e8df17a24c242f5b1e3a", func := "palinode/palinodelaw08.BreReads", spec := "breReads", inPlace := ["internal/bytealg.IndexByte", "internal/bytealg.Index"], unfollowed := true, recurses := true, named := ["internal/bytealg.MaxLen"], apart := false, narrowed := true }
def BreReadsUptoSaid : Prop := breReadsUptoRow.holds Try.pinned (OpenSpec.upto breReadsSpec)

/-- 'palinodelaw08.BreLong', WHERE WHAT IT READS IS OF BULK AT MOST 1048576: true; the input reads as it did. -/
def breLongUptoRow : OpenClaim := { program := "ytpddiffpanihdaa", sum := "4457cc5e875a95216b422bc44249fddaf11403cfda63e8df17a24c242f5b1e3a", func := "palinode/palinodelaw08.BreLong", spec := "breLong", inPlace := ["internal/bytealg.IndexByte", "internal/bytealg.Index"], unfollowed := true, recurses := true, named := ["internal/bytealg.MaxLen"], apart := false, narrowed := true }
def BreLongUptoSaid : Prop := breLongUptoRow.holds Try.pinned (OpenSpec.upto breLongSpec)

/-- 'palinodelaw08.BrePlain', WHERE WHAT IT READS IS OF BULK AT MOST 1048576: true; the input reads as it did. -/
def brePlainUptoRow : OpenClaim := { program := "ytpddiffpanihdaa", sum := "4457cc5e875a95216b422bc44249fddaf11403cfda63e8df17a24c242f5b1e3a", func := "palinode/palinodelaw08.BrePlain", spec := "brePlain", inPlace := ["internal/bytealg.IndexByte", "internal/bytealg.Index"], unfollowed := true, recurses := true, named := ["internal/bytealg.MaxLen"], apart := false, narrowed := true }
def BrePlainUptoSaid : Prop := brePlainUptoRow.holds Try.pinned (OpenSpec.upto brePlainSpec)

/-- 'palinodelaw08.BreGroups', WHERE WHAT IT READS IS OF BULK AT MOST 1048576: true; the input reads as it did. -/
def breGroupsUptoRow : OpenClaim := { program := "ytpddiffpanihdaa", sum := "4457cc5e875a95216b422bc44249fddaf11403cfda63e8df17a24c242f5b1e3a", func := "palinode/palinodelaw08.BreGroups", spec := "breGroups", inPlace := ["internal/bytealg.IndexByte", "internal/bytealg.Index"], unfollowed := true, recurses := true, named := ["internal/bytealg.MaxLen"], apart := false, narrowed := true }
def BreGroupsUptoSaid : Prop := breGroupsUptoRow.holds Try.pinned (OpenSpec.upto breGroupsSpec)

end Rows
end Go.Proofs.Ytpddiffpanihdaa
