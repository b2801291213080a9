/-
  DERIVED. GIVEN WITH THE SEED: THE CARDS: each row of YtnbceeholnkfeaaGreatDoorRows.lean that lists a variable, with what it lists TIED to the program's text (the seventh form; the later family's looks); each row that meets fmt, with fmt's text TOLD by the authors' own Lean function (tested against real Go, not proved from fmt's source: count such statements apart). THE CARD IS WHAT COUNTS. Prove the row's statement (the work); the ties are given (YtnbceeholnkfeaaGreatDoorTie.lean); close each card by the builder's one call (the guide's Derived/Test/ToyasCard.lean, 'card_holds'). Laid BY PROGRAM, IN A SANDBOX (cutbox-door.mjs). By AI agents, Wed Nov 11 2026. No macro, syntax, notation, axiom, sorry.
-/
import Derived.Test.YtnbceeholnkfeaaGreatDoorRows
import GoSem.ClaimSeven
namespace Go.Proofs.YtnbceeholnkfeaaGreatDoor
namespace Rows

/-- THE TIED CARD OF 'palinodelaw10.RetextParses'. -/
def retextParsesCard : Claim7 := { stood := { row := retextParsesRow, standIns := [], harness := (true, "34bf59c361b0e3fd4533a3883f32a66d074bf48402eafc414f1c8da8cf51a716"), looks := false }, kinds := [], alts := [], laidByText := true, laidKinds := [.data, .data, .data], laidTests := true, laidLooks := .later }
def RetextParsesCardSaid : Prop := Claim7.holds Tryz.pinned (.plain (OpenSpec.ofChange retextParsesSpec)) retextParsesCard

/-- THE TIED CARD OF 'palinodelaw10.RetextBack'. -/
def retextBackCard : Claim7 := { stood := { row := retextBackRow, standIns := [], harness := (true, "34bf59c361b0e3fd4533a3883f32a66d074bf48402eafc414f1c8da8cf51a716"), looks := false }, kinds := [], alts := [], laidByText := true, laidKinds := [.data, .data, .data], laidTests := true, laidLooks := .later }
def RetextBackCardSaid : Prop := Claim7.holds Tryz.pinned (.plain (OpenSpec.ofChange retextBackSpec)) retextBackCard

/-- THE TIED CARD OF 'palinodelaw10.RetextSound'. -/
def retextSoundCard : Claim7 := { stood := { row := retextSoundRow, standIns := [], harness := (true, "34bf59c361b0e3fd4533a3883f32a66d074bf48402eafc414f1c8da8cf51a716"), looks := false }, kinds := [], alts := [], laidByText := true, laidKinds := [.data, .data, .data], laidTests := true, laidLooks := .later }
def RetextSoundCardSaid : Prop := Claim7.holds Tryz.pinned (.plain (OpenSpec.ofChange retextSoundSpec)) retextSoundCard

/-- THE TIED CARD OF 'palinodelaw10.RetextNone'. -/
def retextNoneCard : Claim7 := { stood := { row := retextNoneRow, standIns := [], harness := (true, "34bf59c361b0e3fd4533a3883f32a66d074bf48402eafc414f1c8da8cf51a716"), looks := false }, kinds := [], alts := [], laidByText := true, laidKinds := [.data, .data, .data], laidTests := true, laidLooks := .later }
def RetextNoneCardSaid : Prop := Claim7.holds Tryz.pinned (.plain (OpenSpec.ofChange retextNoneSpec)) retextNoneCard

/-- THE SECOND FORM's CARD OF 'palinodelaw10.RetextParses'. -/
def retextParsesUptoCard : Claim7 := { stood := { row := retextParsesUptoRow, standIns := [], harness := (true, "34bf59c361b0e3fd4533a3883f32a66d074bf48402eafc414f1c8da8cf51a716"), looks := false }, kinds := [], alts := [], laidByText := true, laidKinds := [.data, .data, .data], laidTests := true, laidLooks := .later }
def RetextParsesUptoCardSaid : Prop := Claim7.holds Tryz.pinned (.plain (OpenSpec.upto retextParsesSpec)) retextParsesUptoCard

/-- THE SECOND FORM's CARD OF 'palinodelaw10.RetextBack'. -/
def retextBackUptoCard : Claim7 := { stood := { row := retextBackUptoRow, standIns := [], harness := (true, "34bf59c361b0e3fd4533a3883f32a66d074bf48402eafc414f1c8da8cf51a716"), looks := false }, kinds := [], alts := [], laidByText := true, laidKinds := [.data, .data, .data], laidTests := true, laidLooks := .later }
def RetextBackUptoCardSaid : Prop := Claim7.holds Tryz.pinned (.plain (OpenSpec.upto retextBackSpec)) retextBackUptoCard

/-- THE SECOND FORM's CARD OF 'palinodelaw10.RetextSound'. -/
def retextSoundUptoCard : Claim7 := { stood := { row := retextSoundUptoRow, standIns := [], harness := (true, "34bf59c361b0e3fd4533a3883f32a66d074bf48402eafc414f1c8da8cf51a716"), looks := false }, kinds := [], alts := [], laidByText := true, laidKinds := [.data, .data, .data], laidTests := true, laidLooks := .later }
def RetextSoundUptoCardSaid : Prop := Claim7.holds Tryz.pinned (.plain (OpenSpec.upto retextSoundSpec)) retextSoundUptoCard

/-- THE SECOND FORM's CARD OF 'palinodelaw10.RetextNone'. -/
def retextNoneUptoCard : Claim7 := { stood := { row := retextNoneUptoRow, standIns := [], harness := (true, "34bf59c361b0e3fd4533a3883f32a66d074bf48402eafc414f1c8da8cf51a716"), looks := false }, kinds := [], alts := [], laidByText := true, laidKinds := [.data, .data, .data], laidTests := true, laidLooks := .later }
def RetextNoneUptoCardSaid : Prop := Claim7.holds Tryz.pinned (.plain (OpenSpec.upto retextNoneSpec)) retextNoneUptoCard
end Rows
end Go.Proofs.YtnbceeholnkfeaaGreatDoor
