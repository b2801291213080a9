/-
  DERIVED. GIVEN WITH THE SEED: THE CARDS: each row of YthffeojphpajpaaDoorRows.lean that lists a variable, with what it lists TIED to the program's text (the seventh form; the later family's looks); each row that meets fmt, with fmt's text TOLD by the authors' own Lean function (tested against real Go, not proved from fmt's source: count such statements apart). THE CARD IS WHAT COUNTS. Prove the row's statement (the work); the ties are given (YthffeojphpajpaaDoorTie.lean); close each card by the builder's one call (the guide's Derived/Test/ToyasCard.lean, 'card_holds'). Laid BY PROGRAM, IN A SANDBOX (cutbox-door.mjs). By AI agents, Wed Nov 11 2026. No macro, syntax, notation, axiom, sorry.
-/
import Derived.Test.YthffeojphpajpaaDoorRows
import GoSem.ClaimSeven
namespace Go.Proofs.YthffeojphpajpaaDoor
namespace Rows

/-- THE TIED CARD OF 'palinodelaw19.SinksNone'. -/
def sinksNoneCard : Claim7 := { stood := { row := sinksNoneRow, standIns := [], harness := (true, "53f874bb8666b173b72b5f526758afc7374225e33dd26b5654a2022f4358af96"), looks := false }, kinds := [], alts := [], laidByText := true, laidKinds := [.data, .data, .data], laidTests := true, laidLooks := .later }
def SinksNoneCardSaid : Prop := Claim7.holds Tryd.pinned (.plain (OpenSpec.ofChange sinksNoneSpec)) sinksNoneCard

/-- THE SECOND FORM's CARD OF 'palinodelaw19.SinksNone'. -/
def sinksNoneUptoCard : Claim7 := { stood := { row := sinksNoneUptoRow, standIns := [], harness := (true, "53f874bb8666b173b72b5f526758afc7374225e33dd26b5654a2022f4358af96"), looks := false }, kinds := [], alts := [], laidByText := true, laidKinds := [.data, .data, .data], laidTests := true, laidLooks := .later }
def SinksNoneUptoCardSaid : Prop := Claim7.holds Tryd.pinned (.plain (OpenSpec.upto sinksNoneSpec)) sinksNoneUptoCard
end Rows
end Go.Proofs.YthffeojphpajpaaDoor
