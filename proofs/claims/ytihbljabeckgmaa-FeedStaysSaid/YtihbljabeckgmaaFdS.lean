/- Lines of what is open come as they were. -/
import Derived.Test.YtihbljabeckgmaaFdC
import Derived.Test.YtihbljabeckgmaaGKL2
namespace Go.Proofs.Ytihbljabeckgmaa
theorem stays_next (st : Fst) (fs : List FL) (ins : List ByteArray) (h : st.2.2.2.2 ≠ []) : nextF st fs ins = ((cutF st.2.2.2.2).1, (st.1, st.2.1, st.2.1, st.2.2.2.1, (cutF st.2.2.2.2).2), true) := by
  unfold nextF fin
  rw [adv_app fs _ _ _ _ _ h]
  simp only [h, if_false]
theorem next_cur (st : Fst) (fs : List FL) (ins : List ByteArray) (h : (nextF st fs ins).2.2 = true) : (nextF st fs ins).2.1.2.2.1 = (nextF st fs ins).2.1.2.1 := by
  unfold nextF fin at h ⊢
  split
  · rename_i h2; rw [if_pos h2] at h; cases h
  · rfl
theorem stays_law (fs : List FL) (o : Opt) (hwf : ∀ f ∈ fs, f.2.length ≤ 9223372036854775807) : palinodelaw18_FeedStays_R fs o true := by
  refine ⟨_, great_ok fs o hwf, split_ (fun h => ⟨true, fdawake, rfl⟩) fun hg => ?_⟩
  obtain ⟨h1, h2, h3⟩ := great_no hg
  obtain ⟨l1, l2⟩ := next_len (B := 1000) (fs := fs) (by omega) (0, -1, -1, 0, []) o.2.2.2.2 (by simp)
  refine ⟨_, rfl, _, next_ok _ fs o (by omega) (by omega) (by omega) (by simp), split_ (fun h => ⟨true, fdawake, rfl⟩) fun h => ?_⟩
  rw [Bool.or_eq_true, not_or] at h
  obtain ⟨hok, hr⟩ := h
  have hok : (nextF (0, -1, -1, 0, []) fs o.2.2.2.2).2.2 = true := by simpa using hok
  have hc := next_cur _ _ _ hok
  generalize (nextF (0, -1, -1, 0, []) fs o.2.2.2.2).2.1 = st at *
  have hr : st.2.2.2.2 ≠ [] := fun e => hr (by rw [e]; rfl)
  have e1 := stays_next st fs o.2.2.2.2 hr
  have e2 := stays_next st [] o.2.2.2.2 hr
  have n1 := next_ok st fs o (by omega) (by omega) (by omega) l2
  have n2 := next_ok st [] o (by simp) (by simp [big]) (by omega) l2
  rw [e1] at n1
  rw [e2] at n2
  have hl := cut_len st.2.2.2.2
  exact ⟨_, n1, _, n2, split_ (fun _ => split_ (fun _ => ⟨true, lsame_t _ (by simp only; omega), split_ (fun _ => ⟨true, ssame_ok _ (by simp only; omega), split_ (fun _ => split_ (fun _ => ⟨true, fdawake, rfl⟩) fun h => absurd hc.symm h) fun h => absurd rfl h⟩) fun h => absurd rfl h⟩) fun h => absurd rfl h) fun h => absurd rfl h⟩
end Go.Proofs.Ytihbljabeckgmaa
