/- Loops, round by round. -/
import Derived.Test.YtfhakeapepafbaaPl
namespace Go.Proofs.Ytfhakeapepafbaa
/-- A loop, round by round. -/
def LT {S : Type} (F : (S → Prop) → S → Prop) : Nat → S → Prop
  | 0 => fun _ => False
  | n + 1 => fun s => LT F n s ∨ F (LT F n) s
theorem lt_iff {S : Type} (F : (S → Prop) → S → Prop) (n : Nat) (s : S) : LT F n s ↔ ∃ m, m < n ∧ F (LT F m) s := by
  induction n with
  | zero => exact ⟨fun h => h.elim, fun ⟨m, h, _⟩ => by omega⟩
  | succ n ih =>
    constructor
    · rintro (h | h)
      · obtain ⟨m, h1, h2⟩ := ih.1 h; exact ⟨m, by omega, h2⟩
      · exact ⟨n, by omega, h⟩
    · rintro ⟨m, h1, h2⟩
      rcases (by omega : m < n ∨ m = n) with h3 | rfl
      · exact .inl (ih.2 ⟨m, h3, h2⟩)
      · exact .inr h2
theorem loop_it {S : Type} {F : (S → Prop) → S → Prop} {s : S} (n : Nat) (h : F (LT F n) s) : LoopR F s := ⟨fun s m => F (LT F m) s, ⟨n, h⟩, fun s m h => by
  have e : (fun s' => ∃ m', m' < m ∧ F (LT F m') s') = LT F m := funext fun s' => propext (lt_iff F m s').symm
  show F (fun s' => ∃ m', m' < m ∧ F (LT F m') s') s
  rw [e]; exact h⟩
end Go.Proofs.Ytfhakeapepafbaa
