/- Basic regular expressions: how many nodes a text has; its reading ends. -/
import Derived.Test.YtpddiffpanihdaaBtF
namespace Go.Proofs.Ytpddiffpanihdaa
theorem put_cnt (nd : ND) (s : Pz) : (putS nd s).2.L.length ≤ s.L.length + 1 := by
  unfold putS
  split
  · exact Nat.le_succ _
  · split
    · simp
    · exact Nat.le_succ _
theorem fold_cnt (kind : Int) : ∀ (l : List Int) (x : Int) (s : Pz), (foldS kind l x s).2.L.length ≤ s.L.length + l.length
  | [], x, s => Nat.le_refl _
  | y :: t, x, s => by
    rw [fold_cons]
    split
    · exact Nat.le_add_right _ _
    · have h1 := fold_cnt kind t (putS (kind, x, y, 0, 0, 0, setZ) s).1 (putS (kind, x, y, 0, 0, 0, setZ) s).2
      have h2 := put_cnt (kind, x, y, 0, 0, 0, setZ) s
      rw [List.length_cons]; omega
theorem cat_cnt (l : List Int) (s : Pz) : (catS l s).2.L.length ≤ s.L.length + l.length + 1 := by
  cases l with
  | nil => exact put_cnt _ s
  | cons x t =>
    rw [cat_cons, List.length_cons]
    split
    · exact Nat.le_add_right s.L.length (t.length + 1 + 1)
    · have := fold_cnt 2 t x s
      omega
theorem rep2_cnt (b : List UInt8) (k lo hi : Int) (s : Pz) (a : Nat) : (rep2 b k lo hi s a).2.2.L.length ≤ s.L.length + 1 := by
  unfold rep2
  split
  · exact Nat.le_succ _
  · exact put_cnt _ { s with p := a + 2 }
theorem repeat_cnt (b : List UInt8) (k : Int) (s : Pz) : (repeatF b k s).2.2.L.length ≤ s.L.length + 1 := by
  unfold repeatF
  split
  · exact put_cnt _ (adv s 1)
  · split
    · exact Nat.le_succ _
    · split
      · split
        · exact rep2_cnt _ _ _ _ _ _
        · split
          · exact rep2_cnt _ _ _ _ _ _
          · exact Nat.le_succ _
      · exact rep2_cnt _ _ _ _ _ _
theorem reps_cnt {b : List UInt8} : ∀ (n : Nat) (k : Int) (s : Pz), s.p ≤ b.length → s.g ≤ 9 → (repsF b n k [] s).2.1 = [] → (repsF b n k [] s).2.2.L.length + 2 * s.p ≤ s.L.length + 2 * (repsF b n k [] s).2.2.p := by
  intro n
  induction n with
  | zero => intro k s _ _ _; exact Nat.le_refl _
  | succ n ih =>
    intro k s hp hg h
    unfold repsF at h ⊢
    by_cases hm : moreR b k [] s = true
    · rw [if_pos hm] at h ⊢
      obtain ⟨_, _, hh⟩ := more_has hm
      have hwe : (repeatF b k s).2.1 = [] := Decidable.not_not.1 fun hne => by
        rw [reps_err _ _ _ _ hne] at h
        exact hne h
      rw [hwe] at h ⊢
      obtain ⟨a1, a2, a3⟩ := repeat_at hp hg hh hwe
      have h1 := ih _ _ a2 a3 h
      have h2 := repeat_cnt b k s
      omega
    · rw [if_neg hm]
      exact Nat.le_refl _
/-- How many nodes a job's list stands for. -/
def Job.c : Job → Nat
  | .branch _ _ => 2
  | .loop _ l _ _ => l.length + 2
  | _ => 0
theorem go_cnt (b : List UInt8) : ∀ (n : Nat) (j : Job) (q : Res), go b n j = some q → JobAt b j → q.2.1 = [] → q.2.2.L.length + 2 * j.s.p + 1 ≤ j.s.L.length + 2 * q.2.2.p + j.c := by
  intro n
  induction n with
  | zero => intro j q h; cases h
  | succ n ih =>
    intro j q h hj hw
    obtain ⟨j1, j2, j3⟩ := hj
    have put1 : ∀ (nd : ND) (s s1 : Pz), s1.L.length ≤ s.L.length → s.p + 1 ≤ s1.p → (okR (putS nd s1)).2.2.L.length + 2 * s.p + 1 ≤ s.L.length + 2 * (okR (putS nd s1)).2.2.p + 0 := fun nd s s1 h1 h2 => by
      have c1 := put_cnt nd s1
      have c2 := (put_st nd s1).1
      have c1 : (okR (putS nd s1)).2.2.L.length ≤ s1.L.length + 1 := c1
      have c2 : (okR (putS nd s1)).2.2.p = s1.p := c2
      omega
    cases j with
    | branch inner s =>
      have j1 : s.p ≤ b.length := j1
      have j2 : s.g ≤ 9 := j2
      show q.2.2.L.length + 2 * s.p + 1 ≤ s.L.length + 2 * q.2.2.p + 2
      unfold go at h
      split at h
      · rename_i h1
        have hl := has_len h1 (by simp)
        have hl : s.p + 1 ≤ b.length := hl
        split at h
        · injection h with h; subst h; cases hw
        · obtain ⟨a1, a2, _⟩ := put_st (7, 0, 0, 0, 0, 0, setZ) (adv s 1)
          have a1 : (putS (7, 0, 0, 0, 0, 0, setZ) (adv s 1)).2.p = s.p + 1 := a1
          have a2 : (putS (7, 0, 0, 0, 0, 0, setZ) (adv s 1)).2.g = s.g := a2
          have c1 := put_cnt (7, 0, 0, 0, 0, 0, setZ) (adv s 1)
          have c1 : (putS (7, 0, 0, 0, 0, 0, setZ) (adv s 1)).2.L.length ≤ s.L.length + 1 := c1
          have := ih _ q h ⟨by show (putS _ (adv s 1)).2.p ≤ _; rw [a1]; exact hl, by show (putS _ (adv s 1)).2.g ≤ _; rw [a2]; exact j2, trivial⟩ hw
          have this : q.2.2.L.length + 2 * (putS (7, 0, 0, 0, 0, 0, setZ) (adv s 1)).2.p + 1 ≤ (putS (7, 0, 0, 0, 0, 0, setZ) (adv s 1)).2.L.length + 2 * q.2.2.p + (1 + 2) := this
          omega
      · have := ih (.loop inner [] true s) q h ⟨j1, j2, trivial⟩ hw
        exact this
    | loop inner l first s =>
      have j1 : s.p ≤ b.length := j1
      have j2 : s.g ≤ 9 := j2
      show q.2.2.L.length + 2 * s.p + 1 ≤ s.L.length + 2 * q.2.2.p + (l.length + 2)
      unfold go at h
      split at h
      · cases hg : go b n (.piece first s) with
        | none => rw [hg] at h; cases h
        | some q1 =>
          obtain ⟨k, w, s'⟩ := q1
          rw [hg] at h
          dsimp only at h
          split at h
          · rename_i hwe
            have hw0 := List.isEmpty_iff.1 hwe
            obtain ⟨⟨c1, c2, c3⟩, _⟩ := go_at b n _ _ hg ⟨j1, j2, trivial⟩ hw0
            have h1 := ih _ _ hg ⟨j1, j2, trivial⟩ hw0
            have h1 : s'.L.length + 2 * s.p + 1 ≤ s.L.length + 2 * s'.p + 0 := h1
            have h2 := ih _ q h ⟨c2, c3, trivial⟩ hw
            have h2 : q.2.2.L.length + 2 * s'.p + 1 ≤ s'.L.length + 2 * q.2.2.p + ((l ++ [k]).length + 2) := h2
            rw [List.length_append, List.length_singleton] at h2
            omega
          · rename_i hwe
            injection h with h; subst h
            exact absurd (List.isEmpty_iff.2 hw) hwe
      · injection h with h
        subst h
        rw [(branchE_yes hw).2]
        have c1 := cat_cnt l s
        have c2 := (cat_st l s).1
        show (catS l s).2.L.length + _ + 1 ≤ _ + 2 * (catS l s).2.p + _
        omega
    | piece first s =>
      have j1 : s.p ≤ b.length := j1
      have j2 : s.g ≤ 9 := j2
      show q.2.2.L.length + 2 * s.p + 1 ≤ s.L.length + 2 * q.2.2.p + 0
      have key : ∀ q1 : Res, q1.2.2.L.length + 2 * s.p + 1 ≤ s.L.length + 2 * q1.2.2.p + 0 → (q1.2.1 = [] → q1.2.2.p ≤ b.length ∧ q1.2.2.g ≤ 9) → (repsR b q1).2.1 = [] → (repsR b q1).2.2.L.length + 2 * s.p + 1 ≤ s.L.length + 2 * (repsR b q1).2.2.p + 0 := fun q1 h1 h2 h3 => by
        obtain ⟨w0, _⟩ := reps_succ h3
        obtain ⟨e1, e2⟩ := h2 w0
        obtain ⟨k, w, s1⟩ := q1
        have w0 : w = [] := w0
        subst w0
        have := reps_cnt (b := b) (b.length + 1) k s1 e1 e2 h3
        have h1 : s1.L.length + 2 * s.p + 1 ≤ s.L.length + 2 * s1.p + 0 := h1
        show (repsF b (b.length + 1) k [] s1).2.2.L.length + _ + 1 ≤ _ + 2 * (repsF b (b.length + 1) k [] s1).2.2.p + 0
        omega
      unfold go at h
      split at h
      · injection h with h; subst h; cases hw
      · split at h
        · rename_i h1
          injection h with h
          subst h
          have hl := has_len h1.2 (by simp)
          have hl : s.p + 1 ≤ b.length := hl
          obtain ⟨a1, a2, _⟩ := put_st (setN (ofS [42])) (adv s 1)
          exact key (oneR 42 s) (put1 _ s (adv s 1) (Nat.le_refl _) (Nat.le_refl _)) (fun _ => ⟨by show (putS _ (adv s 1)).2.p ≤ _; rw [a1]; exact hl, by show (putS _ (adv s 1)).2.g ≤ _; rw [a2]; exact j2⟩) hw
        · cases hg : go b n (.atom s) with
          | none => rw [hg] at h; cases h
          | some q1 =>
            rw [hg] at h
            injection h with h
            subst h
            obtain ⟨w0, _⟩ := reps_succ hw
            refine key q1 (ih _ q1 hg ⟨j1, j2, trivial⟩ w0) (fun _ => ?_) hw
            obtain ⟨⟨_, c2, c3⟩, _⟩ := go_at b n _ _ hg ⟨j1, j2, trivial⟩ w0
            exact ⟨c2, c3⟩
    | atom s =>
      have j1 : s.p ≤ b.length := j1
      have j2 : s.g ≤ 9 := j2
      show q.2.2.L.length + 2 * s.p + 1 ≤ s.L.length + 2 * q.2.2.p + 0
      unfold go at h
      cases hc : b[s.p]? with
      | none => rw [hc] at h; cases h
      | some c =>
        rw [hc] at h
        dsimp only at h
        have hl : s.p < b.length := (List.getElem?_eq_some_iff.1 hc).1
        split at h
        · exact ih (.escape s) q h ⟨j1, j2, hl⟩ hw
        · split at h
          · injection h with h; subst h; exact put1 _ s (adv s 1) (Nat.le_refl _) (Nat.le_refl _)
          · split at h
            · split at h
              · rename_i h0
                injection h with h; subst h
                obtain ⟨z, hz, hz1, hz2⟩ := parse_next h0 hl
                exact put1 _ s { s with p := _ } (Nat.le_refl _) (by show s.p + 1 ≤ (parseR b (s.p + 1)).2.1.toNat; rw [hz]; omega)
              · injection h with h; subst h; cases hw
            · split at h
              · injection h with h; subst h; exact put1 _ s (adv s 1) (Nat.le_refl _) (Nat.le_refl _)
              · injection h with h; subst h; exact put1 _ s (adv s 1) (Nat.le_refl _) (Nat.le_refl _)
    | escape s =>
      have j1 : s.p ≤ b.length := j1
      have j2 : s.g ≤ 9 := j2
      show q.2.2.L.length + 2 * s.p + 1 ≤ s.L.length + 2 * q.2.2.p + 0
      unfold go at h
      cases hc : b[s.p + 1]? with
      | none => rw [hc] at h; injection h with h; subst h; cases hw
      | some c =>
        rw [hc] at h
        dsimp only at h
        have hl : s.p + 1 < b.length := (List.getElem?_eq_some_iff.1 hc).1
        split at h
        · exact ih (.group s) q h ⟨j1, j2, hl⟩ hw
        · split at h
          · split at h
            · injection h with h; subst h; exact put1 _ s (adv s 2) (Nat.le_refl _) (Nat.le_succ _)
            · injection h with h; subst h; cases hw
          · split at h
            · injection h with h; subst h; exact put1 _ s (adv (adv s 1) 1) (Nat.le_refl _) (Nat.le_succ _)
            · split at h
              · injection h with h; subst h; cases hw
              · injection h with h; subst h; exact put1 _ s (adv (adv s 1) 1) (Nat.le_refl _) (Nat.le_succ _)
    | group s =>
      have j1 : s.p ≤ b.length := j1
      have j2 : s.g ≤ 9 := j2
      have j3 : s.p + 2 ≤ b.length := j3
      show q.2.2.L.length + 2 * s.p + 1 ≤ s.L.length + 2 * q.2.2.p + 0
      unfold go at h
      split at h
      · injection h with h; subst h; cases hw
      · rename_i h9
        cases hg : go b n (.branch true { s with g := s.g + 1, p := s.p + 2 }) with
        | none => rw [hg] at h; cases h
        | some q1 =>
          obtain ⟨k, w, s'⟩ := q1
          rw [hg] at h
          dsimp only at h
          split at h
          · rename_i hwe
            injection h with h
            subst h
            have h1 := ih _ _ hg ⟨j3, by show s.g + 1 ≤ 9; omega, trivial⟩ (List.isEmpty_iff.1 hwe)
            have h1 : s'.L.length + 2 * (s.p + 2) + 1 ≤ s.L.length + 2 * s'.p + 2 := h1
            have c1 := put_cnt (5, k, 0, 0, 0, ((s.g + 1 : Nat) : Int), setZ) { s' with p := s'.p + 2, cl := Arr.set s'.cl (s.g + 1) true }
            have c2 := (put_st (5, k, 0, 0, 0, ((s.g + 1 : Nat) : Int), setZ) { s' with p := s'.p + 2, cl := Arr.set s'.cl (s.g + 1) true }).1
            have c1 : (okR (putS (5, k, 0, 0, 0, ((s.g + 1 : Nat) : Int), setZ) { s' with p := s'.p + 2, cl := Arr.set s'.cl (s.g + 1) true })).2.2.L.length ≤ s'.L.length + 1 := c1
            have c2 : (okR (putS (5, k, 0, 0, 0, ((s.g + 1 : Nat) : Int), setZ) { s' with p := s'.p + 2, cl := Arr.set s'.cl (s.g + 1) true })).2.2.p = s'.p + 2 := c2
            omega
          · rename_i hwe
            injection h with h
            subst h
            have hw : w = [] := hw
            exact absurd (List.isEmpty_iff.2 hw) hwe
/-- How many calls deep a job is at most. -/
def need (b : List UInt8) (j : Job) : Nat := 6 * (b.length - j.s.p) + match j with | .group _ => 0 | .escape _ => 1 | .atom _ => 2 | .piece _ _ => 3 | .loop _ _ _ _ => 4 | .branch _ _ => 5
theorem go_ex (b : List UInt8) : ∀ (n : Nat) (j : Job), JobAt b j → (match j with | .piece _ s | .atom s => s.p < b.length | _ => True) → need b j ≤ n → 1 ≤ n → ∃ q, go b n j = some q := by
  intro n
  induction n with
  | zero => intro j _ _ _ h; omega
  | succ n ih =>
    intro j hj hl hn _
    have hj0 := hj
    obtain ⟨j1, j2, j3⟩ := hj
    cases j with
    | branch inner s =>
      have j1 : s.p ≤ b.length := j1
      have j2 : s.g ≤ 9 := j2
      have hn : 6 * (b.length - s.p) + 5 ≤ n + 1 := hn
      unfold go
      split
      · rename_i h1
        have h1 : s.p + 1 ≤ b.length := has_len h1 (by simp)
        obtain ⟨q1, q2, _⟩ := put_st (7, 0, 0, 0, 0, 0, setZ) (adv s 1)
        have q1 : (putS (7, 0, 0, 0, 0, 0, setZ) (adv s 1)).2.p = s.p + 1 := q1
        have q2 : (putS (7, 0, 0, 0, 0, 0, setZ) (adv s 1)).2.g = s.g := q2
        split
        · exact ⟨_, rfl⟩
        · exact ih (.loop inner _ true _) ⟨by show (putS _ (adv s 1)).2.p ≤ _; rw [q1]; exact h1, by show (putS _ (adv s 1)).2.g ≤ _; rw [q2]; exact j2, trivial⟩ trivial (by show 6 * (b.length - (putS _ (adv s 1)).2.p) + 4 ≤ n; rw [q1]; omega) (by omega)
      · exact ih (.loop inner [] true s) ⟨j1, j2, trivial⟩ trivial (by show 6 * (b.length - s.p) + 4 ≤ n; omega) (by omega)
    | loop inner l f s =>
      have j1 : s.p ≤ b.length := j1
      have j2 : s.g ≤ 9 := j2
      have hn : 6 * (b.length - s.p) + 4 ≤ n + 1 := hn
      unfold go
      split
      · rename_i h1
        have h1 : s.p < b.length := h1.1
        obtain ⟨⟨k, w, s'⟩, hq⟩ := ih (.piece f s) ⟨j1, j2, trivial⟩ h1 (by show 6 * (b.length - s.p) + 3 ≤ n; omega) (by omega)
        rw [hq]
        dsimp only
        split
        · rename_i hw
          obtain ⟨⟨c1, c2, c3⟩, c4⟩ := go_at b n _ _ hq ⟨j1, j2, trivial⟩ (List.isEmpty_iff.1 hw)
          have c2 : s'.p ≤ b.length := c2
          have c4 : s.p + 1 ≤ s'.p := c4
          exact ih (.loop inner (l ++ [k]) false s') ⟨c2, c3, trivial⟩ trivial (by show 6 * (b.length - s'.p) + 4 ≤ n; omega) (by omega)
        · exact ⟨_, rfl⟩
      · exact ⟨_, rfl⟩
    | piece f s =>
      have j1 : s.p ≤ b.length := j1
      have j2 : s.g ≤ 9 := j2
      have hl : s.p < b.length := hl
      have hn : 6 * (b.length - s.p) + 3 ≤ n + 1 := hn
      unfold go
      split
      · exact ⟨_, rfl⟩
      · split
        · exact ⟨_, rfl⟩
        · obtain ⟨q, hq⟩ := ih (.atom s) ⟨j1, j2, trivial⟩ hl (by show 6 * (b.length - s.p) + 2 ≤ n; omega) (by omega)
          rw [hq]
          exact ⟨_, rfl⟩
    | atom s =>
      have j1 : s.p ≤ b.length := j1
      have j2 : s.g ≤ 9 := j2
      have hl : s.p < b.length := hl
      have hn : 6 * (b.length - s.p) + 2 ≤ n + 1 := hn
      unfold go
      rw [List.getElem?_eq_getElem hl]
      dsimp only
      split
      · exact ih (.escape s) ⟨j1, j2, hl⟩ trivial (by show 6 * (b.length - s.p) + 1 ≤ n; omega) (by omega)
      · split
        · exact ⟨_, rfl⟩
        · split
          · split
            · exact ⟨_, rfl⟩
            · exact ⟨_, rfl⟩
          · split
            · exact ⟨_, rfl⟩
            · exact ⟨_, rfl⟩
    | escape s =>
      have j1 : s.p ≤ b.length := j1
      have j2 : s.g ≤ 9 := j2
      have j3 : s.p + 1 ≤ b.length := j3
      have hn : 6 * (b.length - s.p) + 1 ≤ n + 1 := hn
      unfold go
      cases hc : b[s.p + 1]? with
      | none => exact ⟨_, rfl⟩
      | some c =>
        have hl := (List.getElem?_eq_some_iff.1 hc).1
        dsimp only
        split
        · exact ih (.group s) ⟨j1, j2, hl⟩ trivial (by show 6 * (b.length - s.p) + 0 ≤ n; omega) (by omega)
        · split
          · split
            · exact ⟨_, rfl⟩
            · exact ⟨_, rfl⟩
          · split
            · exact ⟨_, rfl⟩
            · split
              · exact ⟨_, rfl⟩
              · exact ⟨_, rfl⟩
    | group s =>
      have j1 : s.p ≤ b.length := j1
      have j2 : s.g ≤ 9 := j2
      have j3 : s.p + 2 ≤ b.length := j3
      have hn : 6 * (b.length - s.p) + 0 ≤ n + 1 := hn
      unfold go
      split
      · exact ⟨_, rfl⟩
      · rename_i h9
        obtain ⟨⟨k, w, s'⟩, hq⟩ := ih (.branch true { s with g := s.g + 1, p := s.p + 2 }) ⟨j3, by show s.g + 1 ≤ 9; omega, trivial⟩ trivial (by show 6 * (b.length - (s.p + 2)) + 5 ≤ n; omega) (by omega)
        rw [hq]
        dsimp only
        split
        · exact ⟨_, rfl⟩
        · exact ⟨_, rfl⟩
end Go.Proofs.Ytpddiffpanihdaa
