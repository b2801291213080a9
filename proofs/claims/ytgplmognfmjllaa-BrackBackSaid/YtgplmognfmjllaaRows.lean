/-
  No cell of these rows narrows 'for every input' (looked for: loops, veiled, ifaces, maps, wideKeys, modest, calm, conditions, laid).
  DERIVED. THE GIVEN ROWS OF THIS SEAT. 3 by the template 'for every input the law returns true; each argument reads behind the call as it read before'; 0 by the template 'total and deterministic' (their statements: YtgplmognfmjllaaTotals.lean).
  GIVEN WITH THE SEED: the statements are not yours to turn. If you find one false, say at which input.
  Laid BY PROGRAM, IN A SANDBOX (cutbox-rows.mjs): the forced cells as the released guide's own fill.sh prints them over the translation d5f0b5777e1fac64… (all of the seat's roots in one cut). By AI agents, Wed Nov 11 2026. No macro, syntax, notation, axiom, sorry.
-/
import Derived.Test.YtgplmognfmjllaaChecked
import GoSem.Claim
import GoSem.ClaimJoined
import GoSem.ClaimMapViews
import Derived.JoinedTies
import Derived.KernelRfl
namespace Go.Proofs.Ytgplmognfmjllaa
/- THE CELL 'sum', in the pinned program and in every row, IS THE sha256 OF THE DUMP (.gsa) THAT YtgplmognfmjllaaProg.lean LOADS. Nothing in Lean hashes anything: it is a label: what it is worth is what the hold of that sum in a sandbox is worth. -/
noncomputable def Try.pinned : Pinned := { name := "ytgplmognfmjllaa", sum := "d5f0b5777e1fac644778e28abc528aa6059f9177c6702fc7754d11dc04052fd5", checked := Try.checked }
namespace Rows
def none {H : Type} : Left H := { results := [], args := [] }

/-- 'palinodelaw07.BrackNot': WHATEVER THE INPUT: true; the input reads as it did. -/
def brackNotSpec : ChangeSpec := { name := "brackNot", fn := fun _ => fun
  | [d] => { results := [.lit (.bool true)], args := [d] }
  | _ => none }
def brackNotRow : OpenClaim := { program := "ytgplmognfmjllaa", sum := "d5f0b5777e1fac644778e28abc528aa6059f9177c6702fc7754d11dc04052fd5", func := "palinode/palinodelaw07.BrackNot", spec := "brackNot", inPlace := ["internal/bytealg.IndexByte", "internal/bytealg.Index"], named := ["internal/bytealg.MaxLen"], apart := false }
def BrackNotSaid : Prop := brackNotRow.holds Try.pinned (OpenSpec.ofChange brackNotSpec)

/-- ITS FALSE NEIGHBOUR: 'it returns false'. Refute it at one input. -/
def brackNotWrong : ChangeSpec := { name := "brackNot", fn := fun _ => fun
  | [d] => { results := [.lit (.bool false)], args := [d] }
  | _ => none }
def BrackNotWrongFalsely : Prop := brackNotRow.holds Try.pinned (OpenSpec.ofChange brackNotWrong)

/-- 'palinodelaw07.BrackShort': WHATEVER THE INPUT: true; the input reads as it did. -/
def brackShortSpec : ChangeSpec := { name := "brackShort", fn := fun _ => fun
  | [d1, d2, d3] => { results := [.lit (.bool true)], args := [d1, d2, d3] }
  | _ => none }
def brackShortRow : OpenClaim := { program := "ytgplmognfmjllaa", sum := "d5f0b5777e1fac644778e28abc528aa6059f9177c6702fc7754d11dc04052fd5", func := "palinode/palinodelaw07.BrackShort", spec := "brackShort", inPlace := ["internal/bytealg.IndexByte", "internal/bytealg.Index"], named := ["internal/bytealg.MaxLen"], apart := false }
def BrackShortSaid : Prop := brackShortRow.holds Try.pinned (OpenSpec.ofChange brackShortSpec)

/-- ITS FALSE NEIGHBOUR: 'it returns false'. Refute it at one input. -/
def brackShortWrong : ChangeSpec := { name := "brackShort", fn := fun _ => fun
  | [d1, d2, d3] => { results := [.lit (.bool false)], args := [d1, d2, d3] }
  | _ => none }
def BrackShortWrongFalsely : Prop := brackShortRow.holds Try.pinned (OpenSpec.ofChange brackShortWrong)

/-- 'palinodelaw07.BrackBack': WHATEVER THE INPUT: true; the input reads as it did. -/
def brackBackSpec : ChangeSpec := { name := "brackBack", fn := fun _ => fun
  | [d1, d2] => { results := [.lit (.bool true)], args := [d1, d2] }
  | _ => none }
def brackBackRow : OpenClaim := { program := "ytgplmognfmjllaa", sum := "d5f0b5777e1fac644778e28abc528aa6059f9177c6702fc7754d11dc04052fd5", func := "palinode/palinodelaw07.BrackBack", spec := "brackBack", inPlace := ["internal/bytealg.IndexByte", "internal/bytealg.Index"], named := ["internal/bytealg.MaxLen"], apart := false }
def BrackBackSaid : Prop := brackBackRow.holds Try.pinned (OpenSpec.ofChange brackBackSpec)

/-- ITS FALSE NEIGHBOUR: 'it returns false'. Refute it at one input. -/
def brackBackWrong : ChangeSpec := { name := "brackBack", fn := fun _ => fun
  | [d1, d2] => { results := [.lit (.bool false)], args := [d1, d2] }
  | _ => none }
def BrackBackWrongFalsely : Prop := brackBackRow.holds Try.pinned (OpenSpec.ofChange brackBackWrong)

/- THE SECOND FORM. 'bulk': how many values and letters a reading holds, each counted each time it is reached (what is shared counts as often as it is met; a slice's spare places count too). A statement '..UptoSaid' is the law's where the arguments, and the package variables that the reading takes, are together of bulk at most 1048576: NARROWER than '..Said'. Prove '..Said' where nothing that the law and all that it calls make is longer than what came in: it says more and counts as full. Else prove '..UptoSaid'. A law counts once. -/
mutual
def uptoBulk {H : Type} : DataW H → Nat
  | .lit (.string bytes) => bytes.length + 1
  | .lit _ => 1
  | .nil => 1
  | .ptr d => uptoBulk d + 1
  | .slice elems spare => uptoBulkAll elems + uptoBulkAll spare + 1
  | .agg parts => uptoBulkAll parts + 1
  | .iface _ d => uptoBulk d + 1
  | .map entries => uptoBulkEntries entries + 1
  | .held _ => 1
def uptoBulkAll {H : Type} : List (DataW H) → Nat
  | [] => 0
  | d :: r => uptoBulk d + uptoBulkAll r
def uptoBulkEntries {H : Type} : List (Lit × DataW H) → Nat
  | [] => 0
  | x :: r => uptoBulkEntry x + uptoBulkEntries r
def uptoBulkEntry {H : Type} : Lit × DataW H → Nat
  | (.string bytes, d) => bytes.length + uptoBulk d + 1
  | (_, d) => uptoBulk d + 1
 end
def uptoSmall : (H : Type) → List (DataW H) → Bool := fun _ ds => decide (uptoBulkAll ds ≤ 1048576)
def OpenSpec.upto (s : _root_.Go.ChangeSpec) : _root_.Go.OpenSpec := { _root_.Go.OpenSpec.ofChange s with cond := some uptoSmall }

/-- 'palinodelaw07.BrackNot', WHERE WHAT IT READS IS OF BULK AT MOST 1048576: true; the input reads as it did. -/
def brackNotUptoRow : OpenClaim := { program := "ytgplmognfmjllaa", sum := "d5f0b5777e1fac644778e28abc528aa6059f9177c6702fc7754d11dc04052fd5", func := "palinode/palinodelaw07.BrackNot", spec := "brackNot", inPlace := ["internal/bytealg.IndexByte", "internal/bytealg.Index"], named := ["internal/bytealg.MaxLen"], apart := false, narrowed := true }
def BrackNotUptoSaid : Prop := brackNotUptoRow.holds Try.pinned (OpenSpec.upto brackNotSpec)

/-- 'palinodelaw07.BrackShort', WHERE WHAT IT READS IS OF BULK AT MOST 1048576: true; the input reads as it did. -/
def brackShortUptoRow : OpenClaim := { program := "ytgplmognfmjllaa", sum := "d5f0b5777e1fac644778e28abc528aa6059f9177c6702fc7754d11dc04052fd5", func := "palinode/palinodelaw07.BrackShort", spec := "brackShort", inPlace := ["internal/bytealg.IndexByte", "internal/bytealg.Index"], named := ["internal/bytealg.MaxLen"], apart := false, narrowed := true }
def BrackShortUptoSaid : Prop := brackShortUptoRow.holds Try.pinned (OpenSpec.upto brackShortSpec)

/-- 'palinodelaw07.BrackBack', WHERE WHAT IT READS IS OF BULK AT MOST 1048576: true; the input reads as it did. -/
def brackBackUptoRow : OpenClaim := { program := "ytgplmognfmjllaa", sum := "d5f0b5777e1fac644778e28abc528aa6059f9177c6702fc7754d11dc04052fd5", func := "palinode/palinodelaw07.BrackBack", spec := "brackBack", inPlace := ["internal/bytealg.IndexByte", "internal/bytealg.Index"], named := ["internal/bytealg.MaxLen"], apart := false, narrowed := true }
def BrackBackUptoSaid : Prop := brackBackUptoRow.holds Try.pinned (OpenSpec.upto brackBackSpec)

end Rows
end Go.Proofs.Ytgplmognfmjllaa
