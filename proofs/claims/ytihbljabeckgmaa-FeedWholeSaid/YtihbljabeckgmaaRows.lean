/-
  No cell of these rows narrows 'for every input' (looked for: loops, veiled, ifaces, maps, wideKeys, modest, calm, conditions, laid).
  DERIVED. THE GIVEN ROWS OF THIS SEAT. 5 by the template 'for every input the law returns true; each argument reads behind the call as it read before'; 0 by the template 'total and deterministic' (their statements: YtihbljabeckgmaaTotals.lean).
  GIVEN WITH THE SEED: the statements are not yours to turn. If you find one false, say at which input.
  Laid BY PROGRAM, IN A SANDBOX (cutbox-rows.mjs): the forced cells as the released guide's own fill.sh prints them over the translation bf04ab0f4147301d… (all of the seat's roots in one cut). By AI agents, Wed Nov 11 2026. No macro, syntax, notation, axiom, sorry.
-/
import Derived.Test.YtihbljabeckgmaaChecked
import GoSem.Claim
import GoSem.ClaimJoined
import GoSem.ClaimMapViews
import Derived.JoinedTies
import Derived.KernelRfl
namespace Go.Proofs.Ytihbljabeckgmaa
/- THE CELL 'sum', in the pinned program and in every row, IS THE sha256 OF THE DUMP (.gsa) THAT YtihbljabeckgmaaProg.lean LOADS. Nothing in Lean hashes anything: it is a label: what it is worth is what the hold of that sum in a sandbox is worth. -/
noncomputable def Try.pinned : Pinned := { name := "ytihbljabeckgmaa", sum := "bf04ab0f4147301ddc550ec2b186caf8081e0e9c520fec8189a75a29d6ed3cd9", checked := Try.checked }
namespace Rows
def none {H : Type} : Left H := { results := [], args := [] }

/-- 'palinodelaw18.FeedWhole': WHATEVER THE INPUT: true; the input reads as it did. -/
def feedWholeSpec : ChangeSpec := { name := "feedWhole", fn := fun _ => fun
  | [d1, d2] => { results := [.lit (.bool true)], args := [d1, d2] }
  | _ => none }
def feedWholeRow : OpenClaim := { program := "ytihbljabeckgmaa", sum := "bf04ab0f4147301ddc550ec2b186caf8081e0e9c520fec8189a75a29d6ed3cd9", func := "palinode/palinodelaw18.FeedWhole", spec := "feedWhole", inPlace := ["internal/bytealg.IndexByte"], unfollowed := true, recurses := true, apart := false }
def FeedWholeSaid : Prop := feedWholeRow.holds Try.pinned (OpenSpec.ofChange feedWholeSpec)

/-- ITS FALSE NEIGHBOUR: 'it returns false'. Refute it at one input. -/
def feedWholeWrong : ChangeSpec := { name := "feedWhole", fn := fun _ => fun
  | [d1, d2] => { results := [.lit (.bool false)], args := [d1, d2] }
  | _ => none }
def FeedWholeWrongFalsely : Prop := feedWholeRow.holds Try.pinned (OpenSpec.ofChange feedWholeWrong)

/-- 'palinodelaw18.FeedStays': WHATEVER THE INPUT: true; the input reads as it did. -/
def feedStaysSpec : ChangeSpec := { name := "feedStays", fn := fun _ => fun
  | [d1, d2] => { results := [.lit (.bool true)], args := [d1, d2] }
  | _ => none }
def feedStaysRow : OpenClaim := { program := "ytihbljabeckgmaa", sum := "bf04ab0f4147301ddc550ec2b186caf8081e0e9c520fec8189a75a29d6ed3cd9", func := "palinode/palinodelaw18.FeedStays", spec := "feedStays", inPlace := ["internal/bytealg.IndexByte"], unfollowed := true, recurses := true, apart := false }
def FeedStaysSaid : Prop := feedStaysRow.holds Try.pinned (OpenSpec.ofChange feedStaysSpec)

/-- ITS FALSE NEIGHBOUR: 'it returns false'. Refute it at one input. -/
def feedStaysWrong : ChangeSpec := { name := "feedStays", fn := fun _ => fun
  | [d1, d2] => { results := [.lit (.bool false)], args := [d1, d2] }
  | _ => none }
def FeedStaysWrongFalsely : Prop := feedStaysRow.holds Try.pinned (OpenSpec.ofChange feedStaysWrong)

/-- 'palinodelaw18.FeedNext': WHATEVER THE INPUT: true; the input reads as it did. -/
def feedNextSpec : ChangeSpec := { name := "feedNext", fn := fun _ => fun
  | [d1, d2, d3] => { results := [.lit (.bool true)], args := [d1, d2, d3] }
  | _ => none }
def feedNextRow : OpenClaim := { program := "ytihbljabeckgmaa", sum := "bf04ab0f4147301ddc550ec2b186caf8081e0e9c520fec8189a75a29d6ed3cd9", func := "palinode/palinodelaw18.FeedNext", spec := "feedNext", inPlace := ["internal/bytealg.IndexByte"], unfollowed := true, recurses := true, apart := false }
def FeedNextSaid : Prop := feedNextRow.holds Try.pinned (OpenSpec.ofChange feedNextSpec)

/-- ITS FALSE NEIGHBOUR: 'it returns false'. Refute it at one input. -/
def feedNextWrong : ChangeSpec := { name := "feedNext", fn := fun _ => fun
  | [d1, d2, d3] => { results := [.lit (.bool false)], args := [d1, d2, d3] }
  | _ => none }
def FeedNextWrongFalsely : Prop := feedNextRow.holds Try.pinned (OpenSpec.ofChange feedNextWrong)

/-- 'palinodelaw18.FeedPlays': WHATEVER THE INPUT: true; the input reads as it did. -/
def feedPlaysSpec : ChangeSpec := { name := "feedPlays", fn := fun _ => fun
  | [d1, d2, d3, d4] => { results := [.lit (.bool true)], args := [d1, d2, d3, d4] }
  | _ => none }
def feedPlaysRow : OpenClaim := { program := "ytihbljabeckgmaa", sum := "bf04ab0f4147301ddc550ec2b186caf8081e0e9c520fec8189a75a29d6ed3cd9", func := "palinode/palinodelaw18.FeedPlays", spec := "feedPlays", inPlace := ["internal/bytealg.IndexByte"], unfollowed := true, recurses := true, apart := false }
def FeedPlaysSaid : Prop := feedPlaysRow.holds Try.pinned (OpenSpec.ofChange feedPlaysSpec)

/-- ITS FALSE NEIGHBOUR: 'it returns false'. Refute it at one input. -/
def feedPlaysWrong : ChangeSpec := { name := "feedPlays", fn := fun _ => fun
  | [d1, d2, d3, d4] => { results := [.lit (.bool false)], args := [d1, d2, d3, d4] }
  | _ => none }
def FeedPlaysWrongFalsely : Prop := feedPlaysRow.holds Try.pinned (OpenSpec.ofChange feedPlaysWrong)

/-- 'palinodelaw18.FeedLast': WHATEVER THE INPUT: true; the input reads as it did. -/
def feedLastSpec : ChangeSpec := { name := "feedLast", fn := fun _ => fun
  | [d1, d2] => { results := [.lit (.bool true)], args := [d1, d2] }
  | _ => none }
def feedLastRow : OpenClaim := { program := "ytihbljabeckgmaa", sum := "bf04ab0f4147301ddc550ec2b186caf8081e0e9c520fec8189a75a29d6ed3cd9", func := "palinode/palinodelaw18.FeedLast", spec := "feedLast", inPlace := ["internal/bytealg.IndexByte"], unfollowed := true, recurses := true, apart := false }
def FeedLastSaid : Prop := feedLastRow.holds Try.pinned (OpenSpec.ofChange feedLastSpec)

/-- ITS FALSE NEIGHBOUR: 'it returns false'. Refute it at one input. -/
def feedLastWrong : ChangeSpec := { name := "feedLast", fn := fun _ => fun
  | [d1, d2] => { results := [.lit (.bool false)], args := [d1, d2] }
  | _ => none }
def FeedLastWrongFalsely : Prop := feedLastRow.holds Try.pinned (OpenSpec.ofChange feedLastWrong)

/- THE SECOND FORM. 'bulk': how many values and letters a reading holds, each counted each time it is reached (what is shared counts as often as it is met; a slice's spare places count too). A statement '..UptoSaid' is the law's where the arguments, and the package variables that the reading takes, are together of bulk at most 1048576: NARROWER than '..Said'. Prove '..Said' where nothing that the law and all that it calls make is longer than what came in: it says more and counts as full. Else prove '..UptoSaid'. A law counts once. -/
mutual
def uptoBulk {H : Type} : DataW H → Nat
  | .lit (.string bytes) => bytes.length + 1
  | .lit _ => 1
  | .nil => 1
  | .ptr d => uptoBulk d + 1
  | .slice elems spare => uptoBulkAll elems + uptoBulkAll spare + 1
  | .agg parts => uptoBulkAll parts + 1
  | .iface _ d => uptoBulk d + 1
  | .map entries => uptoBulkEntries entries + 1
  | .held _ => 1
def uptoBulkAll {H : Type} : List (DataW H) → Nat
  | [] => 0
  | d :: r => uptoBulk d + uptoBulkAll r
def uptoBulkEntries {H : Type} : List (Lit × DataW H) → Nat
  | [] => 0
  | x :: r => uptoBulkEntry x + uptoBulkEntries r
def uptoBulkEntry {H : Type} : Lit × DataW H → Nat
  | (.string bytes, d) => bytes.length + uptoBulk d + 1
  | (_, d) => uptoBulk d + 1
 end
def uptoSmall : (H : Type) → List (DataW H) → Bool := fun _ ds => decide (uptoBulkAll ds ≤ 1048576)
def OpenSpec.upto (s : _root_.Go.ChangeSpec) : _root_.Go.OpenSpec := { _root_.Go.OpenSpec.ofChange s with cond := some uptoSmall }

/-- 'palinodelaw18.FeedWhole', WHERE WHAT IT READS IS OF BULK AT MOST 1048576: true; the input reads as it did. -/
def feedWholeUptoRow : OpenClaim := { program := "ytihbljabeckgmaa", sum := "bf04ab0f4147301ddc550ec2b186caf8081e0e9c520fec8189a75a29d6ed3cd9", func := "palinode/palinodelaw18.FeedWhole", spec := "feedWhole", inPlace := ["internal/bytealg.IndexByte"], unfollowed := true, recurses := true, apart := false, narrowed := true }
def FeedWholeUptoSaid : Prop := feedWholeUptoRow.holds Try.pinned (OpenSpec.upto feedWholeSpec)

/-- 'palinodelaw18.FeedStays', WHERE WHAT IT READS IS OF BULK AT MOST 1048576: true; the input reads as it did. -/
def feedStaysUptoRow : OpenClaim := { program := "ytihbljabeckgmaa", sum := "bf04ab0f4147301ddc550ec2b186caf8081e0e9c520fec8189a75a29d6ed3cd9", func := "palinode/palinodelaw18.FeedStays", spec := "feedStays", inPlace := ["internal/bytealg.IndexByte"], unfollowed := true, recurses := true, apart := false, narrowed := true }
def FeedStaysUptoSaid : Prop := feedStaysUptoRow.holds Try.pinned (OpenSpec.upto feedStaysSpec)

/-- 'palinodelaw18.FeedNext', WHERE WHAT IT READS IS OF BULK AT MOST 1048576: true; the input reads as it did. -/
def feedNextUptoRow : OpenClaim := { program := "ytihbljabeckgmaa", sum := "bf04ab0f4147301ddc550ec2b186caf8081e0e9c520fec8189a75a29d6ed3cd9", func := "palinode/palinodelaw18.FeedNext", spec := "feedNext", inPlace := ["internal/bytealg.IndexByte"], unfollowed := true, recurses := true, apart := false, narrowed := true }
def FeedNextUptoSaid : Prop := feedNextUptoRow.holds Try.pinned (OpenSpec.upto feedNextSpec)

/-- 'palinodelaw18.FeedPlays', WHERE WHAT IT READS IS OF BULK AT MOST 1048576: true; the input reads as it did. -/
def feedPlaysUptoRow : OpenClaim := { program := "ytihbljabeckgmaa", sum := "bf04ab0f4147301ddc550ec2b186caf8081e0e9c520fec8189a75a29d6ed3cd9", func := "palinode/palinodelaw18.FeedPlays", spec := "feedPlays", inPlace := ["internal/bytealg.IndexByte"], unfollowed := true, recurses := true, apart := false, narrowed := true }
def FeedPlaysUptoSaid : Prop := feedPlaysUptoRow.holds Try.pinned (OpenSpec.upto feedPlaysSpec)

/-- 'palinodelaw18.FeedLast', WHERE WHAT IT READS IS OF BULK AT MOST 1048576: true; the input reads as it did. -/
def feedLastUptoRow : OpenClaim := { program := "ytihbljabeckgmaa", sum := "bf04ab0f4147301ddc550ec2b186caf8081e0e9c520fec8189a75a29d6ed3cd9", func := "palinode/palinodelaw18.FeedLast", spec := "feedLast", inPlace := ["internal/bytealg.IndexByte"], unfollowed := true, recurses := true, apart := false, narrowed := true }
def FeedLastUptoSaid : Prop := feedLastUptoRow.holds Try.pinned (OpenSpec.upto feedLastSpec)

end Rows
end Go.Proofs.Ytihbljabeckgmaa
