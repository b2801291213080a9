/- Where the parser of basic regular expressions stands behind what it has read. -/
import Derived.Test.YtpddiffpanihdaaBpB
import Derived.Test.YtpddiffpanihdaaBrA
namespace Go.Proofs.Ytpddiffpanihdaa
theorem has_len {b : List UInt8} {p : Nat} {l : List UInt8} (h : hasS b p l = true) (hl : l ≠ []) : p + l.length ≤ b.length := by
  have h := congrArg List.length (of_decide_eq_true h)
  rw [List.length_take, List.length_drop] at h
  have : l.length ≠ 0 := by simpa using hl
  omega
theorem put_st (n : ND) (s : Pz) : (putS n s).2.p = s.p ∧ (putS n s).2.g = s.g ∧ (putS n s).2.cl = s.cl := by
  unfold putS
  split
  · exact ⟨rfl, rfl, rfl⟩
  · split <;> exact ⟨rfl, rfl, rfl⟩
theorem fold_st (kind : Int) : ∀ (l : List Int) (x : Int) (s : Pz), (foldS kind l x s).2.p = s.p ∧ (foldS kind l x s).2.g = s.g ∧ (foldS kind l x s).2.cl = s.cl
  | [], x, s => ⟨rfl, rfl, rfl⟩
  | y :: t, x, s => by
    rw [fold_cons]
    split
    · exact ⟨rfl, rfl, rfl⟩
    · obtain ⟨h1, h2, h3⟩ := fold_st kind t (putS (kind, x, y, 0, 0, 0, setZ) s).1 (putS (kind, x, y, 0, 0, 0, setZ) s).2
      obtain ⟨k1, k2, k3⟩ := put_st (kind, x, y, 0, 0, 0, setZ) s
      exact ⟨h1.trans k1, h2.trans k2, h3.trans k3⟩
theorem cat_st (l : List Int) (s : Pz) : (catS l s).2.p = s.p ∧ (catS l s).2.g = s.g ∧ (catS l s).2.cl = s.cl := by
  cases l with
  | nil => exact put_st _ s
  | cons x t =>
    rw [cat_cons]
    split
    · exact ⟨rfl, rfl, rfl⟩
    · exact fold_st 2 t x s
theorem numL_len : ∀ (l : List UInt8) (n : Int) (gr : Bool), (numL n gr l).2.1 ≤ l.length
  | [], _, _ => Nat.le_refl _
  | c :: t, n, gr => by
    rw [numL_cons]
    split
    · exact Nat.succ_le_succ (numL_len t _ _)
    · exact Nat.zero_le _
theorem num_next {b : List UInt8} {p : Nat} (h : (numR b p).2.2 = 0) (hp : p ≤ b.length) : ∃ q : Nat, (numR b p).2.1 = (q : Int) ∧ p + 1 ≤ q ∧ q ≤ b.length := by
  have := numL_len (b.drop p) 0 false
  rw [List.length_drop] at this
  unfold numR at h ⊢
  split at h
  · cases h
  · rename_i h1
    split at h
    · cases h
    · rename_i h2
      rw [if_neg h1, if_neg h2]
      exact ⟨_, rfl, by omega, by omega⟩
theorem parse_next {b : List UInt8} {p : Nat} (h : (parseR b p).2.2 = 0) (hp : p ≤ b.length) : ∃ q : Nat, (parseR b p).2.1 = (q : Int) ∧ p + 1 ≤ q ∧ q ≤ b.length := by
  have key : ∀ (no : Bool) (a : Nat), a ≤ b.length → p ≤ a → (endR no a (loopT ((b.drop a).length + 1) true (b.drop a) z4 0)).2.2 = 0 → ∃ q : Nat, (endR no a (loopT ((b.drop a).length + 1) true (b.drop a) z4 0)).2.1 = (q : Int) ∧ p + 1 ≤ q ∧ q ≤ b.length := fun no a ha hpa h => by
    cases hl : loopT ((b.drop a).length + 1) true (b.drop a) z4 0 with
    | error e =>
      rw [hl] at h
      exact absurd h (loop_err _ _ _ _ _ _ hl)
    | ok x =>
      obtain ⟨S, L⟩ := x
      obtain ⟨h1, h2, _⟩ := loop_local (b.drop a) S L hl
      rw [List.length_drop] at h2
      exact ⟨a + L, rfl, by omega, by omega⟩
  unfold parseR at h ⊢
  split at h
  · rename_i h1
    rw [if_pos h1]
    refine key true (p + 1) ?_ (by omega) h
    cases hd : b.drop p with
    | nil => rw [hd] at h1; cases h1
    | cons x t => have := congrArg List.length hd; rw [List.length_drop] at this; simp at this; omega
  · rename_i h1
    rw [if_neg h1]
    exact key false p hp (by omega) h
/-- Behind what it has read. -/
def At (b : List UInt8) (p : Nat) (s : Pz) : Prop := p ≤ s.p ∧ s.p ≤ b.length ∧ s.g ≤ 9
theorem okR_at {b : List UInt8} {n : ND} {s : Pz} {p : Nat} (h : At b p s) : At b p (okR (putS n s)).2.2 := by
  obtain ⟨h1, h2, _⟩ := put_st n s
  show p ≤ (putS n s).2.p ∧ (putS n s).2.p ≤ b.length ∧ (putS n s).2.g ≤ 9
  rw [h1, h2]; exact h
theorem rep2_at {b : List UInt8} {k lo hi : Int} {s : Pz} {a p : Nat} (hp : p ≤ a) (hg : s.g ≤ 9) (h : (rep2 b k lo hi s a).2.1 = []) : At b p (rep2 b k lo hi s a).2.2 := by
  unfold rep2 at h ⊢
  split at h
  · cases h
  · rename_i h1
    rw [if_neg h1]
    have h2 : hasS b a [92, 125] = true := by
      cases hh : hasS b a [92, 125] with
      | true => rfl
      | false => rw [hh] at h1; exact absurd rfl h1
    have := has_len h2 (by simp)
    exact okR_at ⟨by show p ≤ a + 2; omega, this, hg⟩
theorem repeat_at {b : List UInt8} {k : Int} {s : Pz} (hp : s.p ≤ b.length) (hg : s.g ≤ 9) (hm : hasS b s.p [42] = true ∨ hasS b s.p [92, 123] = true) (h : (repeatF b k s).2.1 = []) : At b (s.p + 1) (repeatF b k s).2.2 := by
  unfold repeatF at h ⊢
  by_cases h1 : hasS b s.p [42] = true
  · rw [if_pos h1] at h ⊢
    exact okR_at ⟨Nat.le_refl _, has_len h1 (by simp), hg⟩
  · rw [if_neg h1] at h ⊢
    have hp2 : s.p + 2 ≤ b.length := has_len (hm.resolve_left h1) (by simp)
    by_cases h2 : (numR b (s.p + 2)).2.2 ≠ 0
    · rw [if_pos h2] at h; cases h
    · rw [if_neg h2] at h ⊢
      obtain ⟨q, hq, hq1, hq2⟩ := num_next (Decidable.not_not.1 h2) hp2
      rw [hq, Int.toNat_natCast] at h ⊢
      by_cases h3 : b[q]? = some 44
      · rw [if_pos h3] at h ⊢
        have hql : q < b.length := (List.getElem?_eq_some_iff.1 h3).1
        by_cases h4 : (numR b (q + 1)).2.2 = 0
        · rw [if_pos h4] at h ⊢
          obtain ⟨z, hz, hz1, hz2⟩ := num_next h4 hql
          rw [hz, Int.toNat_natCast] at h ⊢
          exact rep2_at (by omega) hg h
        · rw [if_neg h4] at h ⊢
          by_cases h5 : (numR b (q + 1)).2.2 = 9
          · rw [if_pos h5] at h ⊢
            exact rep2_at (by omega) hg h
          · rw [if_neg h5] at h; cases h
      · rw [if_neg h3] at h ⊢
        exact rep2_at (by omega) hg h
theorem more_has {b : List UInt8} {k : Int} {w : List (Int × Int)} {s : Pz} (h : moreR b k w s = true) : w = [] ∧ 0 ≤ k ∧ (hasS b s.p [42] = true ∨ hasS b s.p [92, 123] = true) := by
  unfold moreR at h
  simp only [Bool.and_eq_true, Bool.or_eq_true, decide_eq_true_eq, List.isEmpty_iff] at h
  exact h
theorem reps_at {b : List UInt8} : ∀ (n : Nat) (k : Int) (w : List (Int × Int)) (s : Pz) (p : Nat), (w = [] → At b p s) → (repsF b n k w s).2.1 = [] → At b p (repsF b n k w s).2.2 := by
  have hend : ∀ (k : Int) (w : List (Int × Int)) (s : Pz) (p : Nat), (w = [] → At b p s) → (endRp k w s).2.1 = [] → At b p (endRp k w s).2.2 := fun k w s p hs h => by
    refine hs ?_
    unfold endRp at h
    dsimp only at h
    split at h
    · cases h
    · exact h
  intro n
  induction n with
  | zero => exact hend
  | succ n ih =>
    intro k w s p hs h
    unfold repsF at h ⊢
    split at h
    · rename_i h1
      rw [if_pos h1]
      obtain ⟨hw, _, hm⟩ := more_has h1
      obtain ⟨a1, a2, a3⟩ := hs hw
      exact ih _ _ _ p (fun hr => by obtain ⟨c1, c2, c3⟩ := repeat_at a2 a3 hm hr; exact ⟨by omega, c2, c3⟩) h
    · rename_i h1
      rw [if_neg h1]
      exact hend k w s p hs h
def Job.s : Job → Pz
  | .branch _ s | .loop _ _ _ s | .piece _ s | .atom s | .escape s | .group s => s
/-- Where a job may begin. -/
def JobAt (b : List UInt8) (j : Job) : Prop := j.s.p ≤ b.length ∧ j.s.g ≤ 9 ∧ match j with | .group s => s.p + 2 ≤ b.length | .escape s => s.p + 1 ≤ b.length | _ => True
/-- How much a job reads at least; where a branch ends. -/
def JobEnd (b : List UInt8) (j : Job) (s : Pz) : Prop := match j with
  | .branch inner _ | .loop inner _ _ _ => if inner = true then hasS b s.p [92, 41] = true else s.p = b.length
  | _ => j.s.p + 1 ≤ s.p
theorem go_at (b : List UInt8) : ∀ (n : Nat) (j : Job) (r : Res), go b n j = some r → JobAt b j → r.2.1 = [] → At b j.s.p r.2.2 ∧ JobEnd b j r.2.2 := by
  intro n
  induction n with
  | zero => intro j r h; cases h
  | succ n ih =>
    intro j r h hj hw
    obtain ⟨j1, j2, j3⟩ := hj
    cases j with
    | branch inner s =>
      have j1 : s.p ≤ b.length := j1
      have j2 : s.g ≤ 9 := j2
      unfold go at h
      split at h
      · rename_i h1
        have hl := has_len h1 (by simp)
        split at h
        · cases h; cases hw
        · obtain ⟨a1, a2, _⟩ := put_st (7, 0, 0, 0, 0, 0, setZ) (adv s 1)
          obtain ⟨⟨c1, c2⟩, c3⟩ := ih _ r h ⟨by show (putS _ (adv s 1)).2.p ≤ _; rw [a1]; exact hl, by show (putS _ (adv s 1)).2.g ≤ _; rw [a2]; exact j2, trivial⟩ hw
          have c1 : (putS _ (adv s 1)).2.p ≤ _ := c1
          rw [a1] at c1
          exact ⟨⟨by show s.p ≤ _; have : (adv s 1).p = s.p + 1 := rfl; omega, c2⟩, c3⟩
      · exact ih (.loop inner [] true s) r h ⟨j1, j2, trivial⟩ hw
    | loop inner l first s =>
      have j1 : s.p ≤ b.length := j1
      have j2 : s.g ≤ 9 := j2
      unfold go at h
      split at h
      · cases hg : go b n (.piece first s) with
        | none => rw [hg] at h; cases h
        | some q =>
          obtain ⟨k, w, s'⟩ := q
          rw [hg] at h
          dsimp only at h
          split at h
          · rename_i hwe
            obtain ⟨⟨c1, c2, c3⟩, _⟩ := ih _ _ hg ⟨j1, j2, trivial⟩ (List.isEmpty_iff.1 hwe)
            obtain ⟨⟨d1, d2⟩, d3⟩ := ih _ r h ⟨c2, c3, trivial⟩ hw
            exact ⟨⟨Nat.le_trans c1 d1, d2⟩, d3⟩
          · rename_i hwe
            cases h
            exact absurd (List.isEmpty_iff.2 hw) hwe
      · rename_i h1
        injection h with h
        subst h
        unfold branchE at hw ⊢
        split at hw
        · cases hw
        · rename_i h2
          rw [if_neg h2]
          split at hw
          · cases hw
          · rename_i h3
            rw [if_neg h3]
            obtain ⟨a1, a2, _⟩ := cat_st l s
            refine ⟨⟨by show s.p ≤ (catS l s).2.p; omega, by show (catS l s).2.p ≤ _; omega, by show (catS l s).2.g ≤ _; omega⟩, ?_⟩
            show if inner = true then hasS b (catS l s).2.p [92, 41] = true else (catS l s).2.p = b.length
            rw [a1]
            cases inner with
            | true =>
              rw [if_pos rfl]
              cases hh : hasS b s.p [92, 41] with
              | true => rfl
              | false =>
                refine absurd ?_ h2
                rw [decide_eq_true (by have : ¬ s.p < b.length := fun hl => h1 ⟨hl, hh⟩; omega)]; rfl
            | false =>
              rw [if_neg (by simp)]
              by_cases hp : (s.p : Int) = (b.length : Int)
              · omega
              · refine absurd ?_ h2
                rw [decide_eq_false hp]; rfl
    | piece first s =>
      have j1 : s.p ≤ b.length := j1
      have j2 : s.g ≤ 9 := j2
      unfold go at h
      split at h
      · cases h; cases hw
      · split at h
        · rename_i h1
          injection h with h
          subst h
          have := has_len h1.2 (by simp)
          obtain ⟨c1, c2⟩ := reps_at (b := b) (b.length + 1) (oneR 42 s).1 (oneR 42 s).2.1 (oneR 42 s).2.2 (s.p + 1) (fun _ => okR_at ⟨Nat.le_refl _, this, j2⟩) hw
          exact ⟨⟨by show s.p ≤ _; exact Nat.le_trans (Nat.le_succ _) c1, c2⟩, c1⟩
        · cases hg : go b n (.atom s) with
          | none => rw [hg] at h; cases h
          | some q =>
            rw [hg] at h
            injection h with h
            subst h
            obtain ⟨c1, c2⟩ := reps_at (b := b) (b.length + 1) q.1 q.2.1 q.2.2 (s.p + 1) (fun hq => by obtain ⟨⟨_, d2⟩, d3⟩ := ih _ q hg ⟨j1, j2, trivial⟩ hq; exact ⟨d3, d2⟩) hw
            exact ⟨⟨by show s.p ≤ _; exact Nat.le_trans (Nat.le_succ _) c1, c2⟩, c1⟩
    | atom s =>
      have j1 : s.p ≤ b.length := j1
      have j2 : s.g ≤ 9 := j2
      unfold go at h
      cases hc : b[s.p]? with
      | none => rw [hc] at h; cases h
      | some c =>
        rw [hc] at h
        dsimp only at h
        have hl : s.p < b.length := (List.getElem?_eq_some_iff.1 hc).1
        have hone : ∀ (n : ND) (q : Nat), s.p + 1 ≤ q → q ≤ b.length → At b s.p (okR (putS n { s with p := q })).2.2 ∧ s.p + 1 ≤ (okR (putS n { s with p := q })).2.2.p := fun n q h1 h2 => by
          have := okR_at (b := b) (n := n) (s := { s with p := q }) (p := s.p + 1) ⟨h1, h2, j2⟩
          exact ⟨⟨Nat.le_trans (Nat.le_succ _) this.1, this.2⟩, this.1⟩
        split at h
        · exact ih (.escape s) r h ⟨j1, j2, hl⟩ hw
        · split at h
          · injection h with h; subst h; exact hone _ _ (Nat.le_refl _) hl
          · split at h
            · split at h
              · rename_i h0
                injection h with h; subst h
                obtain ⟨q, hq, hq1, hq2⟩ := parse_next h0 hl
                exact hone _ _ (by rw [hq]; omega) (by rw [hq]; omega)
              · injection h with h; subst h; cases hw
            · split at h
              · injection h with h; subst h; exact hone _ _ (Nat.le_refl _) hl
              · injection h with h; subst h; exact hone _ _ (Nat.le_refl _) hl
    | escape s =>
      have j1 : s.p ≤ b.length := j1
      have j2 : s.g ≤ 9 := j2
      unfold go at h
      cases hc : b[s.p + 1]? with
      | none => rw [hc] at h; injection h with h; subst h; cases hw
      | some c =>
        rw [hc] at h
        dsimp only at h
        have hl : s.p + 1 < b.length := (List.getElem?_eq_some_iff.1 hc).1
        have hone : ∀ (n : ND) (q : Nat), s.p + 1 ≤ q → q ≤ b.length → At b s.p (okR (putS n { s with p := q })).2.2 ∧ s.p + 1 ≤ (okR (putS n { s with p := q })).2.2.p := fun n q h1 h2 => by
          have := okR_at (b := b) (n := n) (s := { s with p := q }) (p := s.p + 1) ⟨h1, h2, j2⟩
          exact ⟨⟨Nat.le_trans (Nat.le_succ _) this.1, this.2⟩, this.1⟩
        split at h
        · exact ih (.group s) r h ⟨j1, j2, hl⟩ hw
        · split at h
          · split at h
            · injection h with h; subst h; exact hone _ _ (by omega) hl
            · injection h with h; subst h; cases hw
          · split at h
            · injection h with h; subst h; exact hone _ (s.p + 1 + 1) (by omega) hl
            · split at h
              · injection h with h; subst h; cases hw
              · injection h with h; subst h; exact hone _ (s.p + 1 + 1) (by omega) hl
    | group s =>
      have j1 : s.p ≤ b.length := j1
      have j2 : s.g ≤ 9 := j2
      have j3 : s.p + 2 ≤ b.length := j3
      unfold go at h
      split at h
      · injection h with h; subst h; cases hw
      · rename_i h9
        cases hg : go b n (.branch true { s with g := s.g + 1, p := s.p + 2 }) with
        | none => rw [hg] at h; cases h
        | some q =>
          obtain ⟨k, w, s'⟩ := q
          rw [hg] at h
          dsimp only at h
          split at h
          · rename_i hwe
            injection h with h
            subst h
            obtain ⟨⟨c1, c2, c3⟩, c4⟩ := ih _ _ hg ⟨j3, by show s.g + 1 ≤ 9; omega, trivial⟩ (List.isEmpty_iff.1 hwe)
            have c1 : s.p + 2 ≤ s'.p := c1
            have c4 : hasS b s'.p [92, 41] = true := c4
            have c5 : s'.p + 2 ≤ b.length := has_len c4 (by simp)
            have := okR_at (b := b) (n := (5, k, 0, 0, 0, ((s.g + 1 : Nat) : Int), setZ)) (s := { s' with p := s'.p + 2, cl := Arr.set s'.cl (s.g + 1) true }) (p := s.p + 1) ⟨by show s.p + 1 ≤ s'.p + 2; omega, c5, c3⟩
            exact ⟨⟨Nat.le_trans (Nat.le_succ _) this.1, this.2⟩, this.1⟩
          · rename_i hwe
            injection h with h
            subst h
            exact absurd (List.isEmpty_iff.2 hw) hwe
end Go.Proofs.Ytpddiffpanihdaa
