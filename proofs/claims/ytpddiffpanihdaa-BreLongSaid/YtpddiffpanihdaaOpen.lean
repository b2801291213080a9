
/- How the data that come in are read: from the form's own reading to typed lists. -/
import Derived.Test.YtpddiffpanihdaaMem
import Derived.Deep.Slices
import Derived.Deep.Fields
import Derived.ChangeSame
namespace Go.Proofs.Ytpddiffpanihdaa
open Go.RowKit Go.Deep Go.ChangeShapes Go.WideShapes

/-- Whatever reads at a type is a datum of ours. -/
structure Opens (P : Program) (α : Type) [Rp α] (t : TypeId) : Prop where
  out : ∀ {H : Type} {enc : TypeId × Value → H} {w : World} {base : Nat} {spare : Nat → Bool} {held : Bool} (fuel : Nat) (cs : List Value) (x : DataW H × List MemPlace),
    DataW.trod enc P w base spare held fuel t cs = some x → ∃ y : α, Rp.rep (fun b => b < w.heap.size) w cs y
/-- Fields, from an offset on. -/
structure OpensF (P : Program) (α : Type) [Rp α] (fs : List Field) (off : Nat) : Prop where
  out : ∀ {H : Type} {enc : TypeId × Value → H} {w : World} {base : Nat} {spare : Nat → Bool} {held : Bool} (n : Nat) (cs : List Value), cs.length = off + Rp.size α →
    (∀ f ∈ fs, ∃ x, DataW.trod enc P w base spare held n f.type ((cs.drop f.offset).take (P.cellsOf f.type)) = some x) → ∃ y : α, Rp.rep (fun b => b < w.heap.size) w (cs.drop off) y

section
variable {P : Program} {α β : Type} [Rp α] [Rp β]
theorem u8_of_wf {n : Int} (hw : (Lit.int .u8 n).wf = true) : 0 ≤ n ∧ n ≤ 255 := by
  simp only [Lit.wf, Bool.and_eq_true, decide_eq_true_eq] at hw
  have e1 : IntKind.u8.min = 0 := by decide
  have e2 : IntKind.u8.max = 255 := by decide
  rw [e1, e2] at hw
  exact hw
end
end Go.Proofs.Ytpddiffpanihdaa
