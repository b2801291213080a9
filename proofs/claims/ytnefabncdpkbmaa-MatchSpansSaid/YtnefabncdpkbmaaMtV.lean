/- The law MatchSpans. -/
import Derived.Test.YtnefabncdpkbmaaMtE
import Derived.Test.YtnefabncdpkbmaaGKL2
namespace Go.Proofs.Ytnefabncdpkbmaa
theorem matchspans_law (x : List ND × Int) (tx : List UInt8) (a : Int) : palinodelaw11_MatchSpans_R x tx a true := by
  obtain ⟨re, g⟩ := x
  unfold palinodelaw11_MatchSpans_R palinodelaw11_MatchSpans_j1
  refine split_ (fun _ => ⟨_, awake_ok, rfl⟩) fun h => ?_
  simp only [Bool.or_eq_true, decide_eq_true_eq, not_or] at h
  obtain ⟨h1, h2⟩ := h
  refine ⟨_, at_ok re g tx a 2000 (by omega) (by omega), ?_⟩
  have key : ((atM re g tx a 2000).2.2.2 = 0 ∧ (atM re g tx a 2000).2.1 = true → HOk g tx a (atM re g tx a 2000).1) ∧ (¬ ((atM re g tx a 2000).2.2.2 = 0 ∧ (atM re g tx a 2000).2.1 = true) → (atM re g tx a 2000).1 = Arr.rep 10 (0, 0)) := by
    unfold atM
    split
    · exact ⟨fun q => absurd q.2 (by decide), fun _ => rfl⟩
    · rename_i hb
      cases hr : rightB re g with
      | false => exact absurd (.inr (.inr (.inr hr))) hb
      | true =>
        obtain ⟨hn, g0, g9, hl⟩ := right_nodes hr
        have ha : 0 ≤ a := Int.not_lt.1 fun q => hb (.inl q)
        have ha2 : a ≤ tx.length := Int.not_lt.1 fun q => hb (.inr (.inl q))
        exact run_s hn ha _ _ (start_s hl ha ha2)
  generalize atM re g tx a 2000 = y at key
  unfold palinodelaw11_MatchSpans_j2
  refine split_ (fun h => ?_) fun h => ?_
  · refine split_ (fun _ => ⟨_, awake_ok, rfl⟩) fun q => absurd (key.2 fun hk => ?_) q
    rw [hk.2] at h
    simp [hk.1] at h
  have hk : y.2.2.2 = 0 ∧ y.2.1 = true := by
    simpa using h
  obtain ⟨to, k1, k2, k3, k4⟩ := key.1 hk
  have at0 : ∀ {P : Int × Int → Prop}, P (a, to) → (0 ≤ (0 : Int) ∧ (0 : Int) < 10) ∧ ∃ x : Int × Int, y.1.l[(0 : Int).toNat]? = some x ∧ P x := fun hp => ⟨by omega, _, k1, hp⟩
  refine at0 (split_ (fun q => absurd rfl q) fun _ => at0 (split_ (fun q => absurd q (by show ¬ to < a; omega)) fun _ => at0 (split_ (fun q => absurd q (by show ¬ (tx.length : Int) < to; omega)) fun _ => ?_)))
  refine loop_ (fun x m => ∃ i : Nat, x = (i : Int) ∧ 1 ≤ i ∧ i ≤ 10 ∧ 10 - i = m) 9 ⟨1, rfl, by omega, by omega, rfl⟩ ?_
  rintro _ m ⟨i, rfl, hi1, hi, rfl⟩
  unfold palinodelaw11_MatchSpans_l3
  refine split_ (fun hlt => ?_) fun _ => ⟨_, awake_ok, rfl⟩
  refine atA (by omega) (by omega) fun x hx => ?_
  have next : palinodelaw11_MatchSpans_j5 (i : Int) (fun s' => ∃ m', m' < 10 - i ∧ ∃ i : Nat, s' = (i : Int) ∧ 1 ≤ i ∧ i ≤ 10 ∧ 10 - i = m') false true := by
    unfold palinodelaw11_MatchSpans_j5
    exact split_ (fun q => by cases q) fun _ => inR_ (by omega) ⟨10 - (i + 1), by omega, i + 1, by omega, by omega, by omega, rfl⟩
  unfold palinodelaw11_MatchSpans_j4
  refine split_ (fun hnn => ?_) fun _ => next
  have hx' : y.1.l[i]? = some x := hx
  rcases k4 i x hi1 hx' with e | ⟨q1, q2, q3, q4⟩
  · rw [e] at hnn; exact absurd (by decide) hnn
  refine split_ (fun q => absurd q (by show ¬ g < (i : Int); omega)) fun _ => split_ (fun q => absurd q (by omega)) fun _ => split_ (fun q => absurd q (by omega)) fun _ => at0 ?_
  rw [decide_eq_false (by show ¬ to < x.2; omega)]
  exact next
end Go.Proofs.Ytnefabncdpkbmaa
