/- Two regular expressions are compared as the document says. -/
import Derived.Test.YtfcdelokijnkoaaPl
import Derived.Test.YtfcdelokijnkoaaGKL1
namespace Go.Proofs.Ytfcdelokijnkoaa
theorem trawake : palinodelaw06_awake_R true := palinodelaw06_awake_ok (fuel := 60) (by kernel_rfl)
set_option synthInstance.maxSize 4000 in
theorem equal_ok (a b : List (Int × Int × Int × Int × Int × Int × (Arr 4 (UInt64)))) (hl : a.length ≤ 1000000) : slices_Equal_R a b (decide (a = b)) := by
  refine split_ (fun h => ?_) fun h => ?_
  · exact decide_eq_false fun e : a = b => h (by rw [e])
  · have hlen : a.length = b.length := by omega
    refine loop_ (fun st m => ∃ k : Nat, k ≤ a.length ∧ m = a.length - k ∧ st = (k : Int) ∧ a.take k = b.take k) _ ⟨0, by omega, rfl, rfl, rfl⟩ ?_
    rintro st m ⟨k, hk, rfl, rfl, h2⟩
    refine split_ (fun h3 => ?_) fun h3 => ?_
    · refine at_ (by omega) (by omega) fun x hx => at_ (by omega) (by omega) fun y hy => ?_
      rw [Int.toNat_natCast] at hx hy
      refine split_ (fun h4 => ?_) fun h4 => ?_
      · refine decide_eq_false fun e : a = b => h4 ?_
        rw [e, hy] at hx
        exact (Option.some.inj hx).symm
      · have hxy : x = y := Decidable.of_not_not h4
        refine inR_ (by omega) ⟨a.length - (k + 1), by omega, k + 1, by omega, rfl, by simp, ?_⟩
        rw [List.take_add_one, List.take_add_one, h2, hx, hy, hxy]
    · rw [List.take_of_length_le (by omega), List.take_of_length_le (by omega)] at h2
      exact (decide_eq_true h2).symm ▸ rfl
set_option synthInstance.maxSize 4000 in
theorem refsame_ok (a b : List (Int × Int × Int × Int × Int × Int × (Arr 4 (UInt64)))) (g g' : Int) (hl : a.length ≤ 1000000) : palinoderef06_Same_R (a, g) (b, g') (decide (g = g' ∧ a = b)) := by
  refine split_ (fun h => ?_) fun h0 => split_ (fun h => ?_) fun h => ?_
  · exact decide_eq_false fun e : g = g' ∧ a = b => h e.1
  · exact decide_eq_false fun e : g = g' ∧ a = b => h (by rw [e.2])
  · have hg : g = g' := Decidable.of_not_not h0
    have hlen : a.length = b.length := by simp only at h; omega
    refine loop_ (fun st m => ∃ k : Nat, k ≤ a.length ∧ m = a.length - k ∧ st = (k : Int) ∧ a.take k = b.take k) _ ⟨0, by omega, rfl, rfl, rfl⟩ ?_
    rintro st m ⟨k, hk, rfl, rfl, h2⟩
    refine split_ (fun h3 => ?_) fun h3 => ?_
    · simp only at h3
      refine at_ (by omega) (by simpa using h3) fun x hx => at_ (by omega) (by simp only; omega) fun y hy => ?_
      rw [Int.toNat_natCast] at hx hy
      simp only at hx hy
      refine split_ (fun h4 => ?_) fun h4 => ?_
      · refine decide_eq_false fun e : g = g' ∧ a = b => h4 ?_
        rw [e.2, hy] at hx
        exact (Option.some.inj hx).symm
      · have hxy : x = y := Decidable.of_not_not h4
        refine inR_ (by omega) ⟨a.length - (k + 1), by omega, k + 1, by omega, rfl, by simp, ?_⟩
        rw [List.take_add_one, List.take_add_one, h2, hx, hy, hxy]
    · simp only at h3
      rw [List.take_of_length_le (by omega), List.take_of_length_le (by omega)] at h2
      exact decide_eq_true (p := g = g' ∧ a = b) ⟨hg, h2⟩
set_option synthInstance.maxSize 4000 in
theorem same_ok (a b : List (Int × Int × Int × Int × Int × Int × (Arr 4 (UInt64)))) (g g' : Int) (hl : a.length ≤ 1000000) : tree_Same_R (a, g) (b, g') (decide (g = g' ∧ a = b)) := by
  refine split_ (fun h => ?_) fun h => ?_
  · refine ⟨_, equal_ok a b hl, ?_⟩
    have h : g = g' := h
    simp [h]
  · exact decide_eq_false fun e : g = g' ∧ a = b => h e.1
set_option synthInstance.maxSize 4000 in
theorem treesame_law (a b : (List (Int × Int × Int × Int × Int × Int × (Arr 4 (UInt64)))) × Int) : palinodelaw06_TreeSame_R a b true := by
  obtain ⟨a, g⟩ := a
  obtain ⟨b, g'⟩ := b
  show palinodelaw06_TreeSame_j1 (a, g) (b, g') _ true
  refine split_ (fun h => ⟨true, trawake, rfl⟩) fun h => ?_
  have hl : a.length ≤ 1000000 := by
    simp only [Bool.or_eq_true, decide_eq_true_eq, not_or] at h; omega
  refine ⟨_, same_ok a b g g' hl, _, refsame_ok a b g g' hl, split_ (fun _ => ?_) fun h => absurd (beq_self_eq_true _) h⟩
  refine ⟨_, same_ok a a g g hl, split_ (fun _ => ⟨true, trawake, rfl⟩) fun h => absurd (decide_eq_true ⟨rfl, rfl⟩) h⟩
end Go.Proofs.Ytfcdelokijnkoaa
