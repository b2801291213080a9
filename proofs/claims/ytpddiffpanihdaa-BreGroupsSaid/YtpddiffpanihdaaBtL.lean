/- The law of groups round a basic regular expression. -/
import Derived.Test.YtpddiffpanihdaaBtG
import Derived.Test.YtpddiffpanihdaaGKL1
namespace Go.Proofs.Ytpddiffpanihdaa
theorem rep2_er (b : List UInt8) (k lo hi : Int) (s : Pz) (a : Nat) : ∀ y ∈ (rep2 b k lo hi s a).2.1, y.2 ≠ 0 := by
  unfold rep2
  split
  · intro y hy
    obtain rfl := List.mem_singleton.1 hy
    show (13 : Int) ≠ 0
    decide
  · intro y hy; cases hy
theorem no_er {s : Pz} {e : Int} (he : e ≠ 0) : ∀ y ∈ (noR s e).2.1, y.2 ≠ 0 := fun y hy => by
  obtain rfl := List.mem_singleton.1 hy
  exact he
theorem repeat_er (b : List UInt8) (k : Int) (s : Pz) : ∀ y ∈ (repeatF b k s).2.1, y.2 ≠ 0 := by
  unfold repeatF
  split
  · intro y hy; cases hy
  · split
    · exact no_er (by decide)
    · split
      · split
        · exact rep2_er _ _ _ _ _ _
        · split
          · exact rep2_er _ _ _ _ _ _
          · exact no_er (by decide)
      · exact rep2_er _ _ _ _ _ _
theorem reps_er (b : List UInt8) : ∀ (n : Nat) (k : Int) (w : List (Int × Int)) (s : Pz), (∀ y ∈ w, y.2 ≠ 0) → ∀ y ∈ (repsF b n k w s).2.1, y.2 ≠ 0 := by
  have hend : ∀ (k : Int) (w : List (Int × Int)) (s : Pz), (∀ y ∈ w, y.2 ≠ 0) → ∀ y ∈ (endRp k w s).2.1, y.2 ≠ 0 := fun k w s hw => by
    unfold endRp
    dsimp only
    split
    · intro y hy
      obtain rfl := List.mem_singleton.1 hy
      show (8 : Int) ≠ 0
      decide
    · exact hw
  intro n
  induction n with
  | zero => exact hend
  | succ n ih =>
    intro k w s hw
    unfold repsF
    split
    · exact ih _ _ _ (repeat_er b k s)
    · exact hend k w s hw
/-- What is wrong has a number that is not 0. -/
theorem go_er (b : List UInt8) : ∀ (n : Nat) (j : Job) (q : Res), go b n j = some q → ∀ y ∈ q.2.1, y.2 ≠ 0 := by
  intro n
  induction n with
  | zero => intro j q h; cases h
  | succ n ih =>
    intro j q h
    have none_ : ∀ x : Int × Pz, ∀ y ∈ (okR x).2.1, y.2 ≠ 0 := fun x y hy => by cases hy
    cases j with
    | branch inner s =>
      unfold go at h
      split at h
      · split at h
        · injection h with h; subst h; exact no_er (by decide)
        · exact ih _ _ h
      · exact ih _ _ h
    | loop inner l f s =>
      unfold go at h
      split at h
      · cases hg : go b n (.piece f s) with
        | none => rw [hg] at h; cases h
        | some q1 =>
          have h1 := ih _ _ hg
          obtain ⟨k, w, s'⟩ := q1
          rw [hg] at h
          dsimp only at h
          split at h
          · exact ih _ _ h
          · injection h with h; subst h; exact h1
      · injection h with h
        subst h
        unfold branchE
        split
        · exact no_er (by decide)
        · split
          · exact no_er (by decide)
          · exact none_ _
    | piece f s =>
      unfold go at h
      split at h
      · injection h with h; subst h; exact no_er (by decide)
      · split at h
        · injection h with h; subst h
          exact reps_er b _ _ _ _ (none_ _)
        · cases hg : go b n (.atom s) with
          | none => rw [hg] at h; cases h
          | some q1 =>
            rw [hg] at h
            injection h with h
            subst h
            exact reps_er b _ _ _ _ (ih _ _ hg)
    | atom s =>
      unfold go at h
      cases hc : b[s.p]? with
      | none => rw [hc] at h; cases h
      | some c =>
        rw [hc] at h
        dsimp only at h
        split at h
        · exact ih _ _ h
        · split at h
          · injection h with h; subst h; exact none_ _
          · split at h
            · split at h
              · injection h with h; subst h; exact none_ _
              · rename_i h0
                injection h with h; subst h; exact no_er h0
            · split at h
              · injection h with h; subst h; exact none_ _
              · injection h with h; subst h; exact none_ _
    | escape s =>
      unfold go at h
      cases hc : b[s.p + 1]? with
      | none => rw [hc] at h; injection h with h; subst h; exact no_er (by decide)
      | some c =>
        rw [hc] at h
        dsimp only at h
        split at h
        · exact ih _ _ h
        · split at h
          · split at h
            · injection h with h; subst h; exact none_ _
            · injection h with h; subst h; exact no_er (by decide)
          · split at h
            · injection h with h; subst h; exact none_ _
            · split at h
              · injection h with h; subst h; exact no_er (by decide)
              · injection h with h; subst h; exact none_ _
    | group s =>
      unfold go at h
      split at h
      · injection h with h; subst h; exact no_er (by decide)
      · cases hg : go b n (.branch true { s with g := s.g + 1, p := s.p + 2 }) with
        | none => rw [hg] at h; cases h
        | some q1 =>
          have h1 := ih _ _ hg
          obtain ⟨k, w, s'⟩ := q1
          rw [hg] at h
          dsimp only at h
          split at h
          · injection h with h; subst h; exact none_ _
          · injection h with h; subst h; exact h1
theorem btawake : palinodelaw08_awake_R true := by
  obtain ⟨q1, h1⟩ := go_ex [97, 42] 100 (.branch false pz0) ⟨Nat.zero_le _, Nat.zero_le _, trivial⟩ trivial (by decide) (by decide)
  obtain ⟨q2, h2⟩ := go_ex [42, 97] 100 (.branch false pz0) ⟨Nat.zero_le _, Nat.zero_le _, trivial⟩ trivial (by decide) (by decide)
  obtain ⟨q3, h3⟩ := go_ex [92, 40, 97, 92, 41, 92, 49] 100 (.branch false pz0) ⟨Nat.zero_le _, Nat.zero_le _, trivial⟩ trivial (by decide) (by decide)
  obtain ⟨q4, h4⟩ := go_ex [97, 98, 92, 40] 100 (.branch false pz0) ⟨Nat.zero_le _, Nat.zero_le _, trivial⟩ trivial (by decide) (by decide)
  have e1 : (go [97, 42] 100 (.branch false pz0)).map (fun q => (decide ((finB q).2.2 = 0) && (decide ((finB q).1.1.length = 2) && ((finB q).1.1.map (·.1))[1]? == some 4))) = some true := by kernel_rfl
  have e2 : (go [42, 97] 100 (.branch false pz0)).map (fun q => (decide ((finB q).2.2 = 0) && decide (((finB q).1.1.length : Int) = 3))) = some true := by kernel_rfl
  have e3 : (go [92, 40, 97, 92, 41, 92, 49] 100 (.branch false pz0)).map (fun q => (decide ((finB q).2.2 = 0) && decide ((finB q).1.2 = 1))) = some true := by kernel_rfl
  have e4 : (go [97, 98, 92, 40] 100 (.branch false pz0)).map (fun q => (decide ((finB q).2.2 = 14) && decide ((finB q).2.1 = 4))) = some true := by kernel_rfl
  rw [h1] at e1; rw [h2] at e2; rw [h3] at e3; rw [h4] at e4
  simp only [Option.map_some, Option.some.injEq, Bool.and_eq_true, decide_eq_true_eq, beq_iff_eq] at e1 e2 e3 e4
  refine ⟨_, parseB_ok _ (by decide) 100 (by decide) q1 h1, _, parseB_ok _ (by decide) 100 (by decide) q2 h2, _, parseB_ok _ (by decide) 100 (by decide) q3 h3, _, parseB_ok _ (by decide) 100 (by decide) q4 h4, ?_⟩
  obtain ⟨a1, a2, a3⟩ := e1
  refine split_ (fun _ => split_ (fun _ => ?_) fun h => absurd (by omega) h) fun h => absurd a1 h
  obtain ⟨x, hx⟩ : ∃ x, (finB q1).1.1[1]? = some x := ⟨_, List.getElem?_eq_getElem (by omega)⟩
  refine ⟨by decide, x, hx, ?_⟩
  rw [List.getElem?_map, hx] at a3
  have a3 : x.1 = 4 := by simpa using a3
  show true = _
  rw [decide_eq_true a3, decide_eq_true e2.1, decide_eq_true e2.2, decide_eq_true e3.1, decide_eq_true e3.2, decide_eq_true e4.1, decide_eq_true e4.2]
  rfl
def opens : List UInt8 := [92, 40, 92, 40, 92, 40, 92, 40, 92, 40, 92, 40, 92, 40, 92, 40, 92, 40, 92, 40, 97]
theorem opens_at : ∀ i, i < 10 → opens[2 * i]? = some 92 ∧ opens[2 * i + 1]? = some 40 := by decide
theorem breGroups_law (b : List UInt8) (n : UInt8) : palinodelaw08_BreGroups_R b n true := by
  refine split_ (fun _ => ⟨true, btawake, rfl⟩) fun h => ⟨by decide, ?_⟩
  have hb : b.length ≤ 60 := by omega
  obtain ⟨q, hq⟩ := go_ex b 1000 (.branch false pz0) ⟨Nat.zero_le _, Nat.zero_le _, trivial⟩ trivial (by show 6 * (b.length - 0) + 5 ≤ 1000; omega) (by omega)
  refine ⟨_, parseB_ok b (by omega) 1000 (by omega) q hq, split_ (fun _ => ⟨true, btawake, rfl⟩) fun h0 => ?_⟩
  rw [Bool.or_eq_true, not_or] at h0
  have h1 : (finB q).2.2 = 0 := Decidable.not_not.1 fun e => h0.1 (by rw [decide_eq_false e]; rfl)
  have h2 : ¬ (0 : Int) < (finB q).1.2 := fun e => h0.2 (decide_eq_true e)
  have hw : q.2.1 = [] := by
    cases hc : q.2.1 with
    | nil => rfl
    | cons y t =>
      unfold finB at h1
      rw [hc] at h1
      exact absurd h1 (go_er b _ _ _ hq y (by rw [hc]; exact List.mem_cons_self))
  have hfin : finB q = ((q.2.2.L, (q.2.2.g : Int)), 0, 0) := by unfold finB; rw [hw]
  rw [hfin] at h2 ⊢
  have hg : q.2.2.g = 0 := by
    have h2 : ¬ (0 : Int) < (q.2.2.g : Int) := h2
    omega
  obtain ⟨_, f2, f3, f4⟩ := fin_right hq hw
  have hj : JobAt b (.branch false pz0) := ⟨Nat.zero_le _, Nat.zero_le _, trivial⟩
  have hcnt := go_cnt b _ _ _ hq hj hw
  have hat := (go_at b _ _ _ hq hj hw).1.2.1
  have hcnt : q.2.2.L.length + 2 * 0 + 1 ≤ 0 + 2 * q.2.2.p + 2 := hcnt
  obtain ⟨K, hK, hK9⟩ : ∃ K : Nat, ((n.toNat : Int)).tmod 10 = (K : Int) ∧ K ≤ 9 := ⟨n.toNat % 10, rfl, by omega⟩
  refine room_ (by show 0 + b.length ≤ _; omega) (by omega) ?_
  refine loop_ (fun (st : List UInt8 × Int) m => ∃ k : Nat, k ≤ K ∧ m = K - k ∧ st = (wrapT b k, (k : Int))) K ⟨0, Nat.zero_le _, rfl, rfl⟩ ?_
  rintro _ m ⟨k, hk, rfl, rfl⟩
  show palinodelaw08_BreGroups_l2 n ((q.2.2.L, (q.2.2.g : Int)), 0, 0) _ (wrapT b k) (k : Int) true
  have wl := wrap_len b k
  unfold palinodelaw08_BreGroups_l2
  simp only [hK]
  refine split_ (fun h3 => ?_) fun h3 => ?_
  · refine room_ (by show 2 + (wrapT b k).length ≤ _; omega) (by omega) (room_ (by show ([92, 40] ++ wrapT b k).length + 2 ≤ _; rw [List.length_append]; show 2 + (wrapT b k).length + 2 ≤ _; omega) (by omega) (inR_ (by omega) ⟨K - (k + 1), by omega, k + 1, by omega, rfl, rfl⟩))
  · obtain rfl : k = K := by omega
    obtain ⟨i, s1, w1, w2, w3⟩ := wrap_ok hq hw hg (by omega) (by omega) k (by omega) hK9
    obtain ⟨i2, s2, w4⟩ := wrap_err hq hw hg (by omega) (by omega) k (by omega) hK9 opens_at
    refine ⟨_, parseB_ok _ (by omega) _ (by omega) _ w1, room_ (by show 0 + (wrapT b k).length ≤ _; omega) (by omega) (room_ (by show ([] ++ wrapT b k).length + 21 ≤ _; rw [List.nil_append]; omega) (by omega) ⟨_, parseB_ok (wrapT b k ++ opens) (by rw [List.length_append]; show _ + 21 ≤ _; omega) _ (by omega) _ w4, ?_⟩)⟩
    show (((0 : Int) = 0 → _) ∧ _)
    refine split_ (fun _ => split_ (fun _ => inR_ ?_ (split_ (fun _ => split_ (fun _ => inR_ (by omega) (inR_ (by omega) (inR_ (by omega) (split_ (fun _ => ⟨true, btawake, rfl⟩) fun h => absurd ?_ h)))) fun h => absurd rfl h) fun h => absurd ?_ h)) fun h => absurd ?_ h) fun h => absurd rfl h
    · show -9223372036854775808 ≤ (q.2.2.L.length : Int) + (k : Int) ∧ (q.2.2.L.length : Int) + (k : Int) ≤ 9223372036854775807
      omega
    · show ((wrapT b k).length : Int) + 2 * ((9 - k : Nat) : Int) = ((wrapT b k).length : Int) + 2 * (9 - (k : Int))
      omega
    · show (s1.L.length : Int) = (q.2.2.L.length : Int) + (k : Int)
      omega
    · show (s1.g : Int) = (k : Int)
      omega
end Go.Proofs.Ytpddiffpanihdaa
