/- Basic regular expressions: more fuel, the same answer; groups begun are not undone; a text within another. -/
import Derived.Test.YtpddiffpanihdaaBpF
namespace Go.Proofs.Ytpddiffpanihdaa
theorem go_mono1 (b : List UInt8) : ∀ (n : Nat) (j : Job) (q : Res), go b n j = some q → go b (n + 1) j = some q := by
  intro n
  induction n with
  | zero => intro j q h; cases h
  | succ n ih =>
    intro j q h
    cases j with
    | branch inner s =>
      unfold go at h ⊢
      split at h
      · rename_i h1
        rw [if_pos h1]
        split at h
        · rename_i h2
          rw [if_pos h2]; exact h
        · rename_i h2
          rw [if_neg h2]; exact ih _ _ h
      · rename_i h1
        rw [if_neg h1]; exact ih _ _ h
    | loop inner l f s =>
      unfold go at h ⊢
      split at h
      · rename_i h1
        rw [if_pos h1]
        cases hg : go b n (.piece f s) with
        | none => rw [hg] at h; cases h
        | some q1 =>
          obtain ⟨k, w, s'⟩ := q1
          rw [hg] at h
          rw [ih _ _ hg]
          dsimp only at h ⊢
          split at h
          · rename_i h2
            rw [if_pos h2]; exact ih _ _ h
          · rename_i h2
            rw [if_neg h2]; exact h
      · rename_i h1
        rw [if_neg h1]; exact h
    | piece f s =>
      unfold go at h ⊢
      split at h
      · rename_i h1
        rw [if_pos h1]; exact h
      · rename_i h1
        rw [if_neg h1]
        split at h
        · rename_i h2
          rw [if_pos h2]; exact h
        · rename_i h2
          rw [if_neg h2]
          cases hg : go b n (.atom s) with
          | none => rw [hg] at h; cases h
          | some q1 =>
            rw [hg] at h
            rw [ih _ _ hg]; exact h
    | atom s =>
      unfold go at h ⊢
      cases hc : b[s.p]? with
      | none => rw [hc] at h; cases h
      | some c =>
        rw [hc] at h
        dsimp only at h ⊢
        by_cases h1 : c.toNat = 92
        · rw [if_pos h1] at h ⊢; exact ih _ _ h
        · rw [if_neg h1] at h ⊢; exact h
    | escape s =>
      unfold go at h ⊢
      cases hc : b[s.p + 1]? with
      | none => rw [hc] at h; exact h
      | some c =>
        rw [hc] at h
        dsimp only at h ⊢
        by_cases h1 : c.toNat = 40
        · rw [if_pos h1] at h ⊢; exact ih _ _ h
        · rw [if_neg h1] at h ⊢; exact h
    | group s =>
      unfold go at h ⊢
      split at h
      · rename_i h1
        rw [if_pos h1]; exact h
      · rename_i h1
        rw [if_neg h1]
        cases hg : go b n (.branch true { s with g := s.g + 1, p := s.p + 2 }) with
        | none => rw [hg] at h; cases h
        | some q1 =>
          rw [hg] at h
          rw [ih _ _ hg]; exact h
theorem go_mono {b : List UInt8} {n m : Nat} (h : n ≤ m) {j : Job} {q : Res} (hq : go b n j = some q) : go b m j = some q := by
  induction m with
  | zero => obtain rfl : n = 0 := by omega
            exact hq
  | succ m ih =>
    rcases (by omega : n ≤ m ∨ n = m + 1) with h1 | rfl
    · exact go_mono1 b m j q (ih h1)
    · exact hq
/-! ## Groups begun are not undone; those that have not begun have not ended -/
def SG (s s' : Pz) : Prop := s'.g = s.g ∧ s'.cl = s.cl
/-- No group is begun, or the count rises. -/
def GU (s s' : Pz) : Prop := s.g ≤ s'.g ∧ (s'.g = s.g → s'.cl = s.cl)
theorem gu_of {s s' : Pz} (h : SG s s') : GU s s' := ⟨by rw [h.1]; exact Nat.le_refl _, fun _ => h.2⟩
theorem gu_trans {s s' s'' : Pz} (h : GU s s') (k : GU s' s'') : GU s s'' := by
  have := h.1
  have := k.1
  exact ⟨by omega, fun e => (k.2 (by omega)).trans (h.2 (by omega))⟩
theorem sg_put (nd : ND) {s s1 : Pz} (h : SG s s1) : SG s (okR (putS nd s1)).2.2 := by
  obtain ⟨_, e2, e3⟩ := put_st nd s1
  unfold SG
  show (putS nd s1).2.g = _ ∧ (putS nd s1).2.cl = _
  rw [e2, e3]; exact h
theorem sg_rep2 (b : List UInt8) (k lo hi : Int) (s : Pz) (a : Nat) : SG s (rep2 b k lo hi s a).2.2 := by
  unfold rep2
  split
  · exact ⟨rfl, rfl⟩
  · exact sg_put _ ⟨rfl, rfl⟩
theorem sg_repeat (b : List UInt8) (k : Int) (s : Pz) : SG s (repeatF b k s).2.2 := by
  unfold repeatF
  split
  · exact sg_put _ ⟨rfl, rfl⟩
  · split
    · exact ⟨rfl, rfl⟩
    · split
      · split
        · exact sg_rep2 _ _ _ _ _ _
        · split
          · exact sg_rep2 _ _ _ _ _ _
          · exact ⟨rfl, rfl⟩
      · exact sg_rep2 _ _ _ _ _ _
theorem sg_reps (b : List UInt8) : ∀ (n : Nat) (k : Int) (w : List (Int × Int)) (s : Pz), SG s (repsF b n k w s).2.2 := by
  intro n
  induction n with
  | zero => intro k w s; exact ⟨rfl, rfl⟩
  | succ n ih =>
    intro k w s
    unfold repsF
    split
    · obtain ⟨h1, h2⟩ := ih (repeatF b k s).1 (repeatF b k s).2.1 (repeatF b k s).2.2
      obtain ⟨h3, h4⟩ := sg_repeat b k s
      exact ⟨h1.trans h3, h2.trans h4⟩
    · exact ⟨rfl, rfl⟩
theorem go_gu (b : List UInt8) : ∀ (n : Nat) (j : Job) (q : Res), go b n j = some q → GU j.s q.2.2 := by
  intro n
  induction n with
  | zero => intro j q h; cases h
  | succ n ih =>
    intro j q h
    cases j with
    | branch inner s =>
      unfold go at h
      split at h
      · split at h
        · injection h with h; subst h; exact gu_of (sg_put (7, 0, 0, 0, 0, 0, setZ) (s1 := adv s 1) ⟨rfl, rfl⟩)
        · exact gu_trans (gu_of (sg_put (7, 0, 0, 0, 0, 0, setZ) (s1 := adv s 1) ⟨rfl, rfl⟩)) (ih _ _ h)
      · exact ih (.loop inner [] true s) q h
    | loop inner l f s =>
      unfold go at h
      split at h
      · cases hg : go b n (.piece f s) with
        | none => rw [hg] at h; cases h
        | some q1 =>
          have h1 := ih _ _ hg
          obtain ⟨k, w, s'⟩ := q1
          rw [hg] at h
          dsimp only at h
          split at h
          · exact gu_trans h1 (ih _ _ h)
          · injection h with h; subst h; exact h1
      · injection h with h
        subst h
        unfold branchE
        obtain ⟨_, e2, e3⟩ := cat_st l s
        split
        · exact gu_of ⟨rfl, rfl⟩
        · split
          · exact gu_of ⟨e2, e3⟩
          · exact gu_of ⟨e2, e3⟩
    | piece f s =>
      unfold go at h
      split at h
      · injection h with h; subst h; exact gu_of ⟨rfl, rfl⟩
      · split at h
        · injection h with h; subst h
          have h1 : SG s (oneR 42 s).2.2 := sg_put _ ⟨rfl, rfl⟩
          have h2 : SG (oneR 42 s).2.2 (repsR b (oneR 42 s)).2.2 := sg_reps _ _ _ _ _
          exact gu_of ⟨h2.1.trans h1.1, h2.2.trans h1.2⟩
        · cases hg : go b n (.atom s) with
          | none => rw [hg] at h; cases h
          | some q1 =>
            rw [hg] at h
            injection h with h
            subst h
            exact gu_trans (ih (.atom s) _ hg) (gu_of (sg_reps _ _ _ _ _))
    | atom s =>
      unfold go at h
      cases hc : b[s.p]? with
      | none => rw [hc] at h; cases h
      | some c =>
        rw [hc] at h
        dsimp only at h
        split at h
        · exact ih (.escape s) q h
        · split at h
          · injection h with h; subst h; exact gu_of (sg_put _ ⟨rfl, rfl⟩)
          · split at h
            · split at h
              · injection h with h; subst h; exact gu_of (sg_put _ ⟨rfl, rfl⟩)
              · injection h with h; subst h; exact gu_of ⟨rfl, rfl⟩
            · split at h
              · injection h with h; subst h; exact gu_of (sg_put _ ⟨rfl, rfl⟩)
              · injection h with h; subst h; exact gu_of (sg_put _ ⟨rfl, rfl⟩)
    | escape s =>
      unfold go at h
      cases hc : b[s.p + 1]? with
      | none => rw [hc] at h; injection h with h; subst h; exact gu_of ⟨rfl, rfl⟩
      | some c =>
        rw [hc] at h
        dsimp only at h
        split at h
        · exact ih (.group s) q h
        · split at h
          · split at h
            · injection h with h; subst h; exact gu_of (sg_put _ ⟨rfl, rfl⟩)
            · injection h with h; subst h; exact gu_of ⟨rfl, rfl⟩
          · split at h
            · injection h with h; subst h; exact gu_of (sg_put _ ⟨rfl, rfl⟩)
            · split at h
              · injection h with h; subst h; exact gu_of ⟨rfl, rfl⟩
              · injection h with h; subst h; exact gu_of (sg_put _ ⟨rfl, rfl⟩)
    | group s =>
      unfold go at h
      split at h
      · injection h with h; subst h; exact gu_of ⟨rfl, rfl⟩
      · cases hg : go b n (.branch true { s with g := s.g + 1, p := s.p + 2 }) with
        | none => rw [hg] at h; cases h
        | some q1 =>
          have h1 : s.g + 1 ≤ q1.2.2.g := (ih _ _ hg).1
          obtain ⟨k, w, s'⟩ := q1
          have h1 : s.g + 1 ≤ s'.g := h1
          rw [hg] at h
          dsimp only at h
          split at h
          · injection h with h
            subst h
            obtain ⟨_, e2, _⟩ := put_st (5, k, 0, 0, 0, ((s.g + 1 : Nat) : Int), setZ) { s' with p := s'.p + 2, cl := Arr.set s'.cl (s.g + 1) true }
            have e2 : (okR (putS (5, k, 0, 0, 0, ((s.g + 1 : Nat) : Int), setZ) { s' with p := s'.p + 2, cl := Arr.set s'.cl (s.g + 1) true })).2.2.g = s'.g := e2
            exact ⟨by show s.g ≤ _; rw [e2]; omega, fun e => by have e : _ = s.g := e; rw [e2] at e; omega⟩
          · injection h with h
            subst h
            exact ⟨by show s.g ≤ s'.g; omega, fun e => by have e : s'.g = s.g := e; omega⟩
end Go.Proofs.Ytpddiffpanihdaa
