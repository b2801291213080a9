/-
  No cell of these rows narrows 'for every input' (looked for: loops, veiled, ifaces, maps, wideKeys, modest, calm, conditions, laid).
  DERIVED. THE GIVEN ROWS OF THIS SEAT. 4 by the template 'for every input the law returns true; each argument reads behind the call as it read before'; 0 by the template 'total and deterministic' (their statements: YtefpkpiadnpkeaaTotals.lean).
  GIVEN WITH THE SEED: the statements are not yours to turn. If you find one false, say at which input.
  Laid BY PROGRAM, IN A SANDBOX (cutbox-rows.mjs): the forced cells as the released guide's own fill.sh prints them over the translation dca4d57bc750c526… (all of the seat's roots in one cut). By AI agents, Wed Nov 11 2026. No macro, syntax, notation, axiom, sorry.
-/
import Derived.Test.YtefpkpiadnpkeaaChecked
import GoSem.Claim
import GoSem.ClaimJoined
import GoSem.ClaimMapViews
import Derived.JoinedTies
import Derived.KernelRfl
namespace Go.Proofs.Ytefpkpiadnpkeaa
/- THE CELL 'sum', in the pinned program and in every row, IS THE sha256 OF THE DUMP (.gsa) THAT YtefpkpiadnpkeaaProg.lean LOADS. Nothing in Lean hashes anything: it is a label: what it is worth is what the hold of that sum in a sandbox is worth. -/
noncomputable def Try.pinned : Pinned := { name := "ytefpkpiadnpkeaa", sum := "dca4d57bc750c52610bfa75bfedd932db25d3e82f78dc20d28a34e179b851f4a", checked := Try.checked }
namespace Rows
def none {H : Type} : Left H := { results := [], args := [] }

/-- 'palinodelaw04.ShowFolds': WHATEVER THE INPUT: true; the input reads as it did. -/
def showFoldsSpec : ChangeSpec := { name := "showFolds", fn := fun _ => fun
  | [d1, d2] => { results := [.lit (.bool true)], args := [d1, d2] }
  | _ => none }
def showFoldsRow : OpenClaim := { program := "ytefpkpiadnpkeaa", sum := "dca4d57bc750c52610bfa75bfedd932db25d3e82f78dc20d28a34e179b851f4a", func := "palinode/palinodelaw04.ShowFolds", spec := "showFolds", inPlace := ["internal/abi.NoEscape", "internal/bytealg.MakeNoZero"], apart := false }
def ShowFoldsSaid : Prop := showFoldsRow.holds Try.pinned (OpenSpec.ofChange showFoldsSpec)

/-- ITS FALSE NEIGHBOUR: 'it returns false'. Refute it at one input. -/
def showFoldsWrong : ChangeSpec := { name := "showFolds", fn := fun _ => fun
  | [d1, d2] => { results := [.lit (.bool false)], args := [d1, d2] }
  | _ => none }
def ShowFoldsWrongFalsely : Prop := showFoldsRow.holds Try.pinned (OpenSpec.ofChange showFoldsWrong)

/-- 'palinodelaw04.ShowRows': WHATEVER THE INPUT: true; the input reads as it did. -/
def showRowsSpec : ChangeSpec := { name := "showRows", fn := fun _ => fun
  | [d] => { results := [.lit (.bool true)], args := [d] }
  | _ => none }
def showRowsRow : OpenClaim := { program := "ytefpkpiadnpkeaa", sum := "dca4d57bc750c52610bfa75bfedd932db25d3e82f78dc20d28a34e179b851f4a", func := "palinode/palinodelaw04.ShowRows", spec := "showRows", inPlace := ["internal/abi.NoEscape", "internal/bytealg.MakeNoZero"], apart := false }
def ShowRowsSaid : Prop := showRowsRow.holds Try.pinned (OpenSpec.ofChange showRowsSpec)

/-- ITS FALSE NEIGHBOUR: 'it returns false'. Refute it at one input. -/
def showRowsWrong : ChangeSpec := { name := "showRows", fn := fun _ => fun
  | [d] => { results := [.lit (.bool false)], args := [d] }
  | _ => none }
def ShowRowsWrongFalsely : Prop := showRowsRow.holds Try.pinned (OpenSpec.ofChange showRowsWrong)

/-- 'palinodelaw04.ShowQuotes': WHATEVER THE INPUT: true; the input reads as it did. -/
def showQuotesSpec : ChangeSpec := { name := "showQuotes", fn := fun _ => fun
  | [d1, d2, d3] => { results := [.lit (.bool true)], args := [d1, d2, d3] }
  | _ => none }
def showQuotesRow : OpenClaim := { program := "ytefpkpiadnpkeaa", sum := "dca4d57bc750c52610bfa75bfedd932db25d3e82f78dc20d28a34e179b851f4a", func := "palinode/palinodelaw04.ShowQuotes", spec := "showQuotes", inPlace := ["internal/abi.NoEscape", "internal/bytealg.MakeNoZero", "internal/bytealg.IndexByteString"], apart := false }
def ShowQuotesSaid : Prop := showQuotesRow.holds Try.pinned (OpenSpec.ofChange showQuotesSpec)

/-- ITS FALSE NEIGHBOUR: 'it returns false'. Refute it at one input. -/
def showQuotesWrong : ChangeSpec := { name := "showQuotes", fn := fun _ => fun
  | [d1, d2, d3] => { results := [.lit (.bool false)], args := [d1, d2, d3] }
  | _ => none }
def ShowQuotesWrongFalsely : Prop := showQuotesRow.holds Try.pinned (OpenSpec.ofChange showQuotesWrong)

/-- 'palinodelaw04.ShowUnquotes': WHATEVER THE INPUT: true; the input reads as it did. -/
def showUnquotesSpec : ChangeSpec := { name := "showUnquotes", fn := fun _ => fun
  | [d1, d2] => { results := [.lit (.bool true)], args := [d1, d2] }
  | _ => none }
def showUnquotesRow : OpenClaim := { program := "ytefpkpiadnpkeaa", sum := "dca4d57bc750c52610bfa75bfedd932db25d3e82f78dc20d28a34e179b851f4a", func := "palinode/palinodelaw04.ShowUnquotes", spec := "showUnquotes", inPlace := ["internal/abi.NoEscape", "internal/bytealg.MakeNoZero", "internal/bytealg.IndexByteString"], apart := false }
def ShowUnquotesSaid : Prop := showUnquotesRow.holds Try.pinned (OpenSpec.ofChange showUnquotesSpec)

/-- ITS FALSE NEIGHBOUR: 'it returns false'. Refute it at one input. -/
def showUnquotesWrong : ChangeSpec := { name := "showUnquotes", fn := fun _ => fun
  | [d1, d2] => { results := [.lit (.bool false)], args := [d1, d2] }
  | _ => none }
def ShowUnquotesWrongFalsely : Prop := showUnquotesRow.holds Try.pinned (OpenSpec.ofChange showUnquotesWrong)

/- THE SECOND FORM. 'bulk': how many values and letters a reading holds, each counted each time it is reached (what is shared counts as often as it is met; a slice's spare places count too). A statement '..UptoSaid' is the law's where the arguments, and the package variables that the reading takes, are together of bulk at most 1048576: NARROWER than '..Said'. Prove '..Said' where nothing that the law and all that it calls make is longer than what came in: it says more and counts as full. Else prove '..UptoSaid'. A law counts once. -/
mutual
def uptoBulk {H : Type} : DataW H → Nat
  | .lit (.string bytes) => bytes.length + 1
  | .lit _ => 1
  | .nil => 1
  | .ptr d => uptoBulk d + 1
  | .slice elems spare => uptoBulkAll elems + uptoBulkAll spare + 1
  | .agg parts => uptoBulkAll parts + 1
  | .iface _ d => uptoBulk d + 1
  | .map entries => uptoBulkEntries entries + 1
  | .held _ => 1
def uptoBulkAll {H : Type} : List (DataW H) → Nat
  | [] => 0
  | d :: r => uptoBulk d + uptoBulkAll r
def uptoBulkEntries {H : Type} : List (Lit × DataW H) → Nat
  | [] => 0
  | x :: r => uptoBulkEntry x + uptoBulkEntries r
def uptoBulkEntry {H : Type} : Lit × DataW H → Nat
  | (.string bytes, d) => bytes.length + uptoBulk d + 1
  | (_, d) => uptoBulk d + 1
 end
def uptoSmall : (H : Type) → List (DataW H) → Bool := fun _ ds => decide (uptoBulkAll ds ≤ 1048576)
def OpenSpec.upto (s : _root_.Go.ChangeSpec) : _root_.Go.OpenSpec := { _root_.Go.OpenSpec.ofChange s with cond := some uptoSmall }

/-- 'palinodelaw04.ShowFolds', WHERE WHAT IT READS IS OF BULK AT MOST 1048576: true; the input reads as it did. -/
def showFoldsUptoRow : OpenClaim := { program := "ytefpkpiadnpkeaa", sum := "dca4d57bc750c52610bfa75bfedd932db25d3e82f78dc20d28a34e179b851f4a", func := "palinode/palinodelaw04.ShowFolds", spec := "showFolds", inPlace := ["internal/abi.NoEscape", "internal/bytealg.MakeNoZero"], apart := false, narrowed := true }
def ShowFoldsUptoSaid : Prop := showFoldsUptoRow.holds Try.pinned (OpenSpec.upto showFoldsSpec)

/-- 'palinodelaw04.ShowRows', WHERE WHAT IT READS IS OF BULK AT MOST 1048576: true; the input reads as it did. -/
def showRowsUptoRow : OpenClaim := { program := "ytefpkpiadnpkeaa", sum := "dca4d57bc750c52610bfa75bfedd932db25d3e82f78dc20d28a34e179b851f4a", func := "palinode/palinodelaw04.ShowRows", spec := "showRows", inPlace := ["internal/abi.NoEscape", "internal/bytealg.MakeNoZero"], apart := false, narrowed := true }
def ShowRowsUptoSaid : Prop := showRowsUptoRow.holds Try.pinned (OpenSpec.upto showRowsSpec)

/-- 'palinodelaw04.ShowQuotes', WHERE WHAT IT READS IS OF BULK AT MOST 1048576: true; the input reads as it did. -/
def showQuotesUptoRow : OpenClaim := { program := "ytefpkpiadnpkeaa", sum := "dca4d57bc750c52610bfa75bfedd932db25d3e82f78dc20d28a34e179b851f4a", func := "palinode/palinodelaw04.ShowQuotes", spec := "showQuotes", inPlace := ["internal/abi.NoEscape", "internal/bytealg.MakeNoZero", "internal/bytealg.IndexByteString"], apart := false, narrowed := true }
def ShowQuotesUptoSaid : Prop := showQuotesUptoRow.holds Try.pinned (OpenSpec.upto showQuotesSpec)

/-- 'palinodelaw04.ShowUnquotes', WHERE WHAT IT READS IS OF BULK AT MOST 1048576: true; the input reads as it did. -/
def showUnquotesUptoRow : OpenClaim := { program := "ytefpkpiadnpkeaa", sum := "dca4d57bc750c52610bfa75bfedd932db25d3e82f78dc20d28a34e179b851f4a", func := "palinode/palinodelaw04.ShowUnquotes", spec := "showUnquotes", inPlace := ["internal/abi.NoEscape", "internal/bytealg.MakeNoZero", "internal/bytealg.IndexByteString"], apart := false, narrowed := true }
def ShowUnquotesUptoSaid : Prop := showUnquotesUptoRow.holds Try.pinned (OpenSpec.upto showUnquotesSpec)

end Rows
end Go.Proofs.Ytefpkpiadnpkeaa
