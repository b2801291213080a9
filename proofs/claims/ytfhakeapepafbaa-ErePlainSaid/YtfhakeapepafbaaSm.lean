/- Taken over from other chapters' plain texts. -/
import Derived.Test.YtfhakeapepafbaaTrQ
namespace Go.Proofs.Ytfhakeapepafbaa
set_option synthInstance.maxSize 4000 in
theorem refsame_ok (a b : List (Int × Int × Int × Int × Int × Int × (Arr 4 (UInt64)))) (g g' : Int) (hl : a.length ≤ 1000000) : palinoderef06_Same_R (a, g) (b, g') (decide (g = g' ∧ a = b)) := by
  refine split_ (fun h => ?_) fun h0 => split_ (fun h => ?_) fun h => ?_
  · exact decide_eq_false fun e : g = g' ∧ a = b => h e.1
  · exact decide_eq_false fun e : g = g' ∧ a = b => h (by rw [e.2])
  · have hg : g = g' := Decidable.of_not_not h0
    have hlen : a.length = b.length := by simp only at h; omega
    refine loop_ (fun st m => ∃ k : Nat, k ≤ a.length ∧ m = a.length - k ∧ st = (k : Int) ∧ a.take k = b.take k) _ ⟨0, by omega, rfl, rfl, rfl⟩ ?_
    rintro st m ⟨k, hk, rfl, rfl, h2⟩
    refine split_ (fun h3 => ?_) fun h3 => ?_
    · simp only at h3
      refine at_ (by omega) (by simpa using h3) fun x hx => at_ (by omega) (by simp only; omega) fun y hy => ?_
      rw [Int.toNat_natCast] at hx hy
      simp only at hx hy
      refine split_ (fun h4 => ?_) fun h4 => ?_
      · refine decide_eq_false fun e : g = g' ∧ a = b => h4 ?_
        rw [e.2, hy] at hx
        exact (Option.some.inj hx).symm
      · have hxy : x = y := Decidable.of_not_not h4
        refine inR_ (by omega) ⟨a.length - (k + 1), by omega, k + 1, by omega, rfl, by simp, ?_⟩
        rw [List.take_add_one, List.take_add_one, h2, hx, hy, hxy]
    · simp only at h3
      rw [List.take_of_length_le (by omega), List.take_of_length_le (by omega)] at h2
      exact decide_eq_true (p := g = g' ∧ a = b) ⟨hg, h2⟩
end Go.Proofs.Ytfhakeapepafbaa
