/- Which line is the last one. -/
import Derived.Test.YtihbljabeckgmaaFdC
import Derived.Test.YtihbljabeckgmaaGKL4
namespace Go.Proofs.Ytihbljabeckgmaa
theorem adv_nil_iff (fs : List FL) : ∀ (l : List ByteArray) (n o m : Int) (r : List UInt8), (adv fs l n o m r).2.2.2 = [] ↔ r = [] ∧ l.any (hasB fs) = false
  | [], _, _, _, r => by simp [adv_nil]
  | s :: l, n, o, m, r => by
    by_cases hr : r = []
    · cases hl : lookL fs s with
      | some b =>
        rw [adv_s hl _ _ _ _ hr, adv_nil_iff fs l]
        have hb : hasB fs s = decide (0 < b.length) := by unfold hasB; rw [hl]; rfl
        rw [List.any_cons, hb, Bool.or_eq_false_iff, decide_eq_false_iff_not]
        constructor
        · rintro ⟨h1, h2⟩; exact ⟨hr, by rw [h1]; simp, h2⟩
        · rintro ⟨_, h1, h2⟩; exact ⟨List.eq_nil_of_length_eq_zero (by omega), h2⟩
      | none =>
        rw [adv_n hl _ _ _ _ hr, adv_nil_iff fs l]
        have hb : hasB fs s = false := by unfold hasB; rw [hl]; rfl
        rw [List.any_cons, hb, Bool.false_or]
    · rw [adv_app fs _ _ _ _ _ hr]
      simp [hr]
theorem next_ok_iff (st : Fst) (fs : List FL) (ins : List ByteArray) : (nextF st fs ins).2.2 = false ↔ st.2.2.2.2 = [] ∧ (leftL st.1 ins).any (hasB fs) = false := by
  unfold nextF fin
  rw [← adv_nil_iff fs (leftL st.1 ins) st.1 st.2.1 st.2.2.2.1]
  split
  · rename_i h; simp [h]
  · rename_i h; simp [h]
theorem next_none (st : Fst) (fs : List FL) (ins : List ByteArray) (h : (nextF st fs ins).2.2 = false) : (nextF st fs ins).1.1 = [] := by
  unfold nextF fin at h ⊢
  split
  · rfl
  · rename_i h2; rw [if_neg h2] at h; cases h
theorem next_cur (st : Fst) (fs : List FL) (ins : List ByteArray) (h : (nextF st fs ins).2.2 = true) : (nextF st fs ins).2.1.2.2.1 = (nextF st fs ins).2.1.2.1 := by
  unfold nextF fin at h ⊢
  split
  · rename_i h2; rw [if_pos h2] at h; cases h
  · rfl
theorem stays_next (st : Fst) (fs : List FL) (ins : List ByteArray) (h : st.2.2.2.2 ≠ []) : nextF st fs ins = ((cutF st.2.2.2.2).1, (st.1, st.2.1, st.2.1, st.2.2.2.1, (cutF st.2.2.2.2).2), true) := by
  unfold nextF fin
  rw [adv_app fs _ _ _ _ _ h]
  simp only [h, if_false]
theorem last_law (fs : List FL) (o : Opt) (hwf : ∀ f ∈ fs, f.2.length ≤ 9223372036854775807) : palinodelaw18_FeedLast_R fs o true := by
  refine ⟨_, great_ok fs o hwf, split_ (fun _ => ⟨true, fdawake, rfl⟩) fun hg => ?_⟩
  obtain ⟨h1, h2, h3⟩ := great_no hg
  refine ⟨_, rfl, loop_ (fun s m => ∃ (i : Nat) (x : Fst), i ≤ 100 ∧ m = 100 - i ∧ s = ((i : Int), x.1, x.2.1, x.2.2.1, x.2.2.2.1, x.2.2.2.2) ∧ x.2.2.2.2.length ≤ 1000) 100 ⟨0, (0, -1, -1, 0, []), by omega, rfl, rfl, by simp⟩ ?_⟩
  rintro _ m ⟨i, x, hi, rfl, rfl, hx⟩
  refine split_ (fun hlt => ⟨_, next_ok x fs o (by omega) (by omega) (by omega) hx, ?_⟩) fun _ => ⟨true, fdawake, rfl⟩
  have hlt : (i : Int) < 100 := hlt
  obtain ⟨l1, l2⟩ := next_len (B := 1000) (fs := fs) (by omega) x o.2.2.2.2 hx
  have body : palinodelaw18_FeedLast_j3 (nextF x fs o.2.2.2.2) fs o i (fun s' => ∃ m', m' < 100 - i ∧ ∃ (i : Nat) (x : Fst), i ≤ 100 ∧ m' = 100 - i ∧ s' = ((i : Int), x.1, x.2.1, x.2.2.1, x.2.2.2.1, x.2.2.2.2) ∧ x.2.2.2.2.length ≤ 1000) true := by
    refine split_ (fun hno => split_ (fun _ => ⟨true, fdawake, rfl⟩) fun h => absurd ?_ h) fun hyes => ?_
    · rw [next_none x fs o.2.2.2.2 (by simpa using hno)]; rfl
    have hcur := next_cur x fs o.2.2.2.2 (Decidable.of_not_not hyes)
    generalize nextF x fs o.2.2.2.2 = q at *
    have on : palinodelaw18_FeedLast_j2 i (fun s' => ∃ m', m' < 100 - i ∧ ∃ (i : Nat) (x : Fst), i ≤ 100 ∧ m' = 100 - i ∧ s' = ((i : Int), x.1, x.2.1, x.2.2.1, x.2.2.2.1, x.2.2.2.2) ∧ x.2.2.2.2.length ≤ 1000) q.2.1.1 q.2.1.2.1 q.2.1.2.2.1 q.2.1.2.2.2.1 q.2.1.2.2.2.2 true :=
      inR_ (by omega) ⟨100 - (i + 1), by omega, i + 1, q.2.1, by omega, rfl, rfl, l2⟩
    refine ⟨_, next_ok q.2.1 fs o (by omega) (by omega) (by omega) l2, _, last_ok q.2.1 fs o (by omega) (by omega), split_ (fun hs => ?_) fun _ => on⟩
    have hfalse : ∀ b : Bool, b = false → palinodelaw18_FeedLast_j5 i (fun s' => ∃ m', m' < 100 - i ∧ ∃ (i : Nat) (x : Fst), i ≤ 100 ∧ m' = 100 - i ∧ s' = ((i : Int), x.1, x.2.1, x.2.2.1, x.2.2.2.1, x.2.2.2.2) ∧ x.2.2.2.2.length ≤ 1000) q b true := fun b hb => split_ (fun h => absurd h (by rw [hb]; decide)) fun _ => on
    refine hfalse _ ?_
    by_cases hr : q.2.1.2.2.2.2 = []
    · have hl : lastF q.2.1 fs o = true := by
        unfold lastF
        rw [if_neg (by rw [hr]; simp)]
        rcases Bool.eq_false_or_eq_true o.2.1 with h | h
        · rw [if_pos h]
        · rw [h, Bool.false_or] at hs
          rw [if_neg (by rw [h]; decide), if_pos hs]
      rw [hl, hr]
      cases (nextF q.2.1 fs o.2.2.2.2).2.2 <;> rfl
    · have hl : lastF q.2.1 fs o = false := by
        unfold lastF
        rw [if_pos (List.length_pos_iff.2 hr)]
      rw [hl, stays_next q.2.1 fs o.2.2.2.2 hr]
      have hn : ¬ ((q.2.1.2.2.2.2.length : Int) = 0) := fun e => hr (List.eq_nil_of_length_eq_zero (by omega))
      simp only [Bool.not_true, cond_false, decide_eq_false hn]
      simp [hcur]
  refine split_ (fun hs => split_ (fun hp => ⟨_, last_ok x fs o (by omega) (by omega), split_ (fun he => ?_) fun _ => body⟩) fun _ => body) fun _ => body
  exfalso
  have he := eq_of_beq he
  by_cases hr : x.2.2.2.2 = []
  · have hl : lastF x fs o = !((leftL x.1 o.2.2.2.2).any (hasB fs)) := by
      unfold lastF
      rw [if_neg (by rw [hr]; simp), if_neg hs, if_neg hp]
    rw [hl] at he
    cases hb : (leftL x.1 o.2.2.2.2).any (hasB fs) with
    | false =>
      have := (next_ok_iff x fs o.2.2.2.2).2 ⟨hr, hb⟩
      rw [this, hb] at he
      cases he
    | true =>
      rw [hb] at he
      have := (next_ok_iff x fs o.2.2.2.2).1 he.symm
      rw [hb] at this
      cases this.2
  · have hl : lastF x fs o = false := by
      unfold lastF
      rw [if_pos (List.length_pos_iff.2 hr)]
    rw [hl, stays_next x fs o.2.2.2.2 hr] at he
    cases he
end Go.Proofs.Ytihbljabeckgmaa
