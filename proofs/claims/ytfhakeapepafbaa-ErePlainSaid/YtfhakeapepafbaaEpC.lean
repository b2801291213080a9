/- Extended regular expressions: where the parser stands behind a job, how many nodes it has put; it comes to an end. -/
import Derived.Test.YtfhakeapepafbaaEpB
namespace Go.Proofs.Ytfhakeapepafbaa
def At9 (b : List UInt8) (p : Nat) (s : Pz) : Prop := p ≤ s.p ∧ s.p ≤ b.length ∧ s.g ≤ 9
theorem okE_s (x : Int × Pz) : (okE x).2.2 = x.2 := by unfold okE; split <;> rfl
theorem okE_pos {x : Int × Pz} (h : (okE x).2.1 = 0) : 0 ≤ x.1 ∧ okE x = (x.1, 0, x.2) := by
  unfold okE at h ⊢
  split at h
  · cases h
  · rename_i h1
    rw [if_neg h1]
    exact ⟨by omega, rfl⟩
theorem okE_neg {x : Int × Pz} (h : x.1 < 0) : okE x = (-1, 8, x.2) := if_pos h
theorem put_len (n : ND) (s : Pz) : (putS n s).2.L.length ≤ s.L.length + 1 := by
  unfold putS
  split
  · exact Nat.le_succ _
  · split
    · simp
    · exact Nat.le_succ _
theorem fold_len (kind : Int) : ∀ (t : List Int) (x : Int) (s : Pz), (foldS kind t x s).2.L.length ≤ s.L.length + t.length
  | [], x, s => Nat.le_refl _
  | y :: t, x, s => by
    rw [fold_cons]
    split
    · exact Nat.le_add_right _ _
    · have h1 := fold_len kind t (putS (kind, x, y, 0, 0, 0, setZ) s).1 (putS (kind, x, y, 0, 0, 0, setZ) s).2
      have h2 := put_len (kind, x, y, 0, 0, 0, setZ) s
      simp only [List.length_cons]; omega
theorem cat_len {l : List Int} (s : Pz) (hl : l ≠ []) : (catS l s).2.L.length + 1 ≤ s.L.length + l.length := by
  cases l with
  | nil => exact absurd rfl hl
  | cons x t =>
    have h1 := fold_len 2 t x s
    show (if x < 0 ∨ (s.L.length : Int) ≤ x then (-1, s) else foldS 2 t x s : Int × Pz).2.L.length + 1 ≤ _
    by_cases h : x < 0 ∨ (s.L.length : Int) ≤ x
    · rw [if_pos h]; simp only [List.length_cons]; omega
    · rw [if_neg h]; simp only [List.length_cons]; omega
theorem alt_cons (x : Int) (t : List Int) (s : Pz) : altS (x :: t) s = if x < 0 ∨ (s.L.length : Int) ≤ x then (-1, s) else foldS 3 t x s := rfl
theorem alt_st (l : List Int) (s : Pz) : (altS l s).2.p = s.p ∧ (altS l s).2.g = s.g ∧ (altS l s).2.cl = s.cl := by
  cases l with
  | nil => exact ⟨rfl, rfl, rfl⟩
  | cons x t =>
    rw [alt_cons]
    split
    · exact ⟨rfl, rfl, rfl⟩
    · exact fold_st 3 t x s
theorem alt_len {l : List Int} (s : Pz) (hl : l ≠ []) : (altS l s).2.L.length + 1 ≤ s.L.length + l.length := by
  cases l with
  | nil => exact absurd rfl hl
  | cons x t =>
    have h1 := fold_len 3 t x s
    show (if x < 0 ∨ (s.L.length : Int) ≤ x then (-1, s) else foldS 3 t x s : Int × Pz).2.L.length + 1 ≤ _
    by_cases h : x < 0 ∨ (s.L.length : Int) ≤ x
    · rw [if_pos h]; simp only [List.length_cons]; omega
    · rw [if_neg h]; simp only [List.length_cons]; omega
/-- Behind what it has read; how many nodes more there are. -/
def Go9 (b : List UInt8) (p : Nat) (L : Nat) (q : R9) : Prop := At9 b p q.2.2 ∧ q.2.2.L.length + 2 * p ≤ L + 2 * q.2.2.p
theorem okE_at {b : List UInt8} {n : ND} {s : Pz} {p L : Nat} (h : At9 b p s) (hL : s.L.length + 1 + 2 * p ≤ L + 2 * s.p) : Go9 b p L (okE (putS n s)) := by
  obtain ⟨h1, h2, _⟩ := put_st n s
  have h3 := put_len n s
  unfold Go9 At9
  rw [okE_s, h1, h2]
  exact ⟨h, by omega⟩
theorem intvE_at {b : List UInt8} {k lo hi : Int} {s : Pz} {a : Nat} (hp : s.p + 1 ≤ a) (hg : s.g ≤ 9) (h : (intvE b k lo hi s a).2.1 = 0) : Go9 b (s.p + 1) (s.L.length + 1) (intvE b k lo hi s a) := by
  unfold intvE at h ⊢
  split at h
  · rename_i h1
    rw [if_pos h1]
    have := (List.getElem?_eq_some_iff.1 h1.1).1
    exact okE_at ⟨by show s.p + 1 ≤ a + 1; omega, this, hg⟩ (by show s.L.length + 1 + 2 * (s.p + 1) ≤ s.L.length + 1 + 2 * (a + 1); omega)
  · cases h
theorem rep9_at {b : List UInt8} {k : Int} {s : Pz} (hp : s.p < b.length) (hg : s.g ≤ 9) (h : (rep9 b k s).2.1 = 0) : Go9 b (s.p + 1) (s.L.length + 1) (rep9 b k s) := by
  have hl : At9 b (s.p + 1) (adv s 1) := ⟨Nat.le_refl _, hp, hg⟩
  have hL : (adv s 1).L.length + 1 + 2 * (s.p + 1) ≤ s.L.length + 1 + 2 * (adv s 1).p := by show s.L.length + 1 + 2 * (s.p + 1) ≤ s.L.length + 1 + 2 * (s.p + 1); omega
  unfold rep9 at h ⊢
  by_cases h1 : b[s.p]? = some 43
  · rw [if_pos h1]; exact okE_at hl hL
  rw [if_neg h1] at h ⊢
  by_cases h1 : b[s.p]? = some 63
  · rw [if_pos h1]; exact okE_at hl hL
  rw [if_neg h1] at h ⊢
  by_cases h1 : b[s.p]? = some 123
  · rw [if_pos h1] at h ⊢
    unfold intv9 at h ⊢
    by_cases h2 : (numR b (s.p + 1)).2.2 ≠ 0
    · rw [if_pos h2] at h; cases h
    rw [if_neg h2] at h ⊢
    obtain ⟨z, hz, hz1, hz2⟩ := num_next (Decidable.not_not.1 h2) hp
    rw [hz, Int.toNat_natCast] at h ⊢
    by_cases h3 : b[z]? = some 44
    · rw [if_pos h3] at h ⊢
      have hl := (List.getElem?_eq_some_iff.1 h3).1
      by_cases h4 : (numR b (z + 1)).2.2 = 0
      · rw [if_pos h4] at h ⊢
        obtain ⟨w, hw, hw1, hw2⟩ := num_next h4 hl
        rw [hw, Int.toNat_natCast] at h ⊢
        exact intvE_at (by omega) hg h
      · rw [if_neg h4] at h ⊢
        by_cases h5 : (numR b (z + 1)).2.2 = 9
        · rw [if_pos h5] at h ⊢
          exact intvE_at (by omega) hg h
        · rw [if_neg h5] at h; cases h
    · rw [if_neg h3] at h ⊢
      exact intvE_at (by omega) hg h
  · rw [if_neg h1]; exact okE_at hl hL
theorem isRep_lt {b : List UInt8} {p : Nat} (h : isRep b p = true) : p < b.length := by
  unfold isRep at h
  split at h
  · cases h
  · rename_i c hc
    exact (List.getElem?_eq_some_iff.1 hc).1
theorem reps9_at {b : List UInt8} {p L : Nat} : ∀ (n : Nat) (k e : Int) (s : Pz), (e = 0 → At9 b p s ∧ s.L.length + 1 + 2 * p ≤ L + 2 * s.p) → (reps9 b n k e s).2.1 = 0 → At9 b p (reps9 b n k e s).2.2 ∧ (reps9 b n k e s).2.2.L.length + 1 + 2 * p ≤ L + 2 * (reps9 b n k e s).2.2.p := by
  intro n
  induction n with
  | zero => intro k e s h h0; exact h h0
  | succ n ih =>
    intro k e s h h0
    unfold reps9 at h0 ⊢
    split at h0
    · rename_i h1
      rw [if_pos h1]
      obtain ⟨h1, h2⟩ := h1
      obtain ⟨a1, a2⟩ := h h1
      refine ih _ _ _ (fun h3 => ?_) h0
      obtain ⟨⟨c1, c2, c3⟩, c4⟩ := rep9_at (isRep_lt h2) a1.2.2 h3
      obtain ⟨d1, _, _⟩ := a1
      exact ⟨⟨by omega, c2, c3⟩, by omega⟩
    · rename_i h1
      rw [if_neg h1]
      exact h h0
theorem esc9_at {b : List UInt8} {s : Pz} (hp : s.p < b.length) (hg : s.g ≤ 9) (h : (esc9 b s).2.1 = 0) : Go9 b (s.p + 1) (s.L.length + 1) (esc9 b s) := by
  have key : ∀ nd, s.p + 1 < b.length → Go9 b (s.p + 1) (s.L.length + 1) (okE (putS nd (adv s 2))) := fun nd hl => okE_at ⟨by show s.p + 1 ≤ s.p + 2; omega, by show s.p + 2 ≤ b.length; omega, hg⟩ (by show s.L.length + 1 + 2 * (s.p + 1) ≤ s.L.length + 1 + 2 * (s.p + 2); omega)
  unfold esc9 at h ⊢
  cases hc : b[s.p + 1]? with
  | none => rw [hc] at h; cases h
  | some c =>
    rw [hc] at h
    have hl := (List.getElem?_eq_some_iff.1 hc).1
    dsimp only at h ⊢
    split at h
    · rename_i h1
      rw [if_pos h1]
      split at h
      · rename_i h2
        rw [if_pos h2]; exact key _ hl
      · cases h
    · rename_i h1
      rw [if_neg h1]
      split at h
      · cases h
      · rename_i h2
        rw [if_neg h2]; exact key _ hl
theorem leaf9_at {b : List UInt8} {s : Pz} {c : UInt8} (hp : s.p < b.length) (hg : s.g ≤ 9) (h : (leaf9 b s c).2.1 = 0) : Go9 b (s.p + 1) (s.L.length + 1) (leaf9 b s c) := by
  have hl : At9 b (s.p + 1) (adv s 1) := ⟨Nat.le_refl _, hp, hg⟩
  have hL : (adv s 1).L.length + 1 + 2 * (s.p + 1) ≤ s.L.length + 1 + 2 * (adv s 1).p := by show s.L.length + 1 + 2 * (s.p + 1) ≤ s.L.length + 1 + 2 * (s.p + 1); omega
  unfold leaf9 at h ⊢
  by_cases h1 : c = 92
  · rw [if_pos h1] at h ⊢; exact esc9_at hp hg h
  rw [if_neg h1] at h ⊢
  by_cases h1 : c = 46
  · rw [if_pos h1]; exact okE_at hl hL
  rw [if_neg h1] at h ⊢
  by_cases h1 : c = 91
  · rw [if_pos h1] at h ⊢
    by_cases h2 : (parseR b (s.p + 1)).2.2 = 0
    · rw [if_pos h2]
      obtain ⟨z, hz, hz1, hz2⟩ := parse_next h2 hp
      rw [hz, Int.toNat_natCast]
      exact okE_at ⟨by show s.p + 1 ≤ z; omega, hz2, hg⟩ (by show s.L.length + 1 + 2 * (s.p + 1) ≤ s.L.length + 1 + 2 * z; omega)
    · rw [if_neg h2] at h; exact absurd h h2
  · rw [if_neg h1]; exact okE_at hl hL
def J9.s : J9 → Pz
  | .alts _ s | .altl _ _ _ s | .branch _ s | .brl _ _ _ s | .piece s | .atom s | .group s => s
/-- Where a job may begin. -/
def J9At (b : List UInt8) : J9 → Prop
  | .altl _ l e s => l ≠ [] ∧ (e = 0 → s.p ≤ b.length ∧ s.g ≤ 9)
  | .brl _ _ e s => e = 0 → s.p ≤ b.length ∧ s.g ≤ 9
  | .group s | .atom s | .piece s => s.p < b.length ∧ s.g ≤ 9
  | .alts _ s | .branch _ s => s.p ≤ b.length ∧ s.g ≤ 9
/-- Where it ends: a piece has read at least one byte; nodes are less than twice the bytes. -/
def J9End (b : List UInt8) : J9 → R9 → Prop
  | .altl x l _ s, q => At9 b s.p q.2.2 ∧ q.2.2.L.length + 1 + 2 * s.p ≤ s.L.length + 2 * q.2.2.p + l.length ∧ (x = true → b[q.2.2.p]? = some 41)
  | .brl _ l _ s, q => At9 b s.p q.2.2 ∧ q.2.2.L.length + 1 + 2 * s.p ≤ s.L.length + 2 * q.2.2.p + l.length
  | .alts x s, q => At9 b s.p q.2.2 ∧ q.2.2.L.length + 1 + 2 * s.p ≤ s.L.length + 2 * q.2.2.p ∧ (x = true → b[q.2.2.p]? = some 41)
  | .branch _ s, q => At9 b s.p q.2.2 ∧ q.2.2.L.length + 1 + 2 * s.p ≤ s.L.length + 2 * q.2.2.p
  | .piece s, q | .atom s, q | .group s, q => At9 b (s.p + 1) q.2.2 ∧ q.2.2.L.length + 1 + 2 * s.p ≤ s.L.length + 2 * q.2.2.p
theorem bind_some {α β : Type} {x : Option α} {f : α → Option β} {y : β} (h : x.bind f = some y) : ∃ a, x = some a ∧ f a = some y := by
  cases x with
  | none => cases h
  | some a => exact ⟨a, rfl, h⟩
theorem map_some {α β : Type} {x : Option α} {f : α → β} {y : β} (h : x.map f = some y) : ∃ a, x = some a ∧ f a = y := by
  cases x with
  | none => cases h
  | some a => exact ⟨a, rfl, Option.some.inj h⟩
theorem moreB_iff {b : List UInt8} {x : Bool} {e : Int} {s : Pz} : moreB b x e s = true ↔ e = 0 ∧ s.p < b.length ∧ b[s.p]? ≠ some 124 ∧ ¬ (x = true ∧ b[s.p]? = some 41) := by
  unfold moreB
  simp only [Bool.and_eq_true, decide_eq_true_eq, Bool.not_eq_true', Bool.and_eq_false_iff, decide_eq_false_iff_not]
  constructor
  · rintro ⟨h1, h2, h3, h4⟩
    exact ⟨h1, h2, h3, fun ⟨e1, e2⟩ => h4.elim (fun h4 => by rw [e1] at h4; cases h4) fun h4 => h4 e2⟩
  · rintro ⟨h1, h2, h3, h4⟩
    refine ⟨h1, h2, h3, ?_⟩
    cases x with
    | false => exact .inl rfl
    | true => exact .inr fun e => h4 ⟨rfl, e⟩
theorem J9End_altl {b : List UInt8} {x : Bool} {l : List Int} {e : Int} {s : Pz} {q : R9} (h : At9 b s.p q.2.2 ∧ q.2.2.L.length + 1 + 2 * s.p ≤ s.L.length + 2 * q.2.2.p + l.length ∧ (x = true → b[q.2.2.p]? = some 41)) : J9End b (.altl x l e s) q := h
theorem J9End_brl {b : List UInt8} {x : Bool} {l : List Int} {e : Int} {s : Pz} {q : R9} (h : At9 b s.p q.2.2 ∧ q.2.2.L.length + 1 + 2 * s.p ≤ s.L.length + 2 * q.2.2.p + l.length) : J9End b (.brl x l e s) q := h
theorem go9_at (b : List UInt8) : ∀ (n : Nat) (j : J9) (q : R9), go9 b n j = some q → J9At b j → q.2.1 = 0 → J9End b j q := by
  intro n
  induction n with
  | zero => intro j q h; cases h
  | succ n ih =>
    intro j q h hj hw
    cases j with
    | alts x s =>
      obtain ⟨q1, h1, h2⟩ := bind_some h
      have hj1 : J9At b (.branch x s) := hj
      have h0 : q1.2.1 = 0 → At9 b s.p q1.2.2 ∧ q1.2.2.L.length + 1 + 2 * s.p ≤ s.L.length + 2 * q1.2.2.p := ih _ _ h1 hj1
      have hj2 : J9At b (.altl x [q1.1] q1.2.1 q1.2.2) := ⟨by simp, fun e => (h0 e).1.2⟩
      obtain ⟨c1, c2, c3⟩ := ih _ _ h2 hj2 hw
      by_cases he : q1.2.1 = 0
      · obtain ⟨⟨d1, d2, d3⟩, d4⟩ := h0 he
        refine ⟨⟨Nat.le_trans d1 c1.1, c1.2⟩, ?_, c3⟩
        simp only [List.length_cons, List.length_nil] at c2
        omega
      · exfalso
        cases n with
        | zero => cases h2
        | succ n =>
          unfold go9 at h2
          rw [if_neg (fun e => he e.1)] at h2
          injection h2 with h2
          subst h2
          unfold altE at hw
          rw [if_pos he] at hw
          exact he hw
    | altl x l e s =>
      obtain ⟨hl, hj⟩ := hj
      unfold go9 at h
      split at h
      · rename_i h0
        obtain ⟨e0, h124⟩ := h0
        obtain ⟨j1, j2⟩ := hj e0
        have hp := (List.getElem?_eq_some_iff.1 h124).1
        obtain ⟨q1, h1, h2⟩ := bind_some h
        have hj1 : J9At b (.branch x (adv s 1)) := ⟨hp, j2⟩
        have h0 : q1.2.1 = 0 → At9 b (s.p + 1) q1.2.2 ∧ q1.2.2.L.length + 1 + 2 * (s.p + 1) ≤ s.L.length + 2 * q1.2.2.p := ih _ _ h1 hj1
        have hj2 : J9At b (.altl x (l ++ [q1.1]) q1.2.1 q1.2.2) := ⟨by simp, fun e => (h0 e).1.2⟩
        obtain ⟨c1, c2, c3⟩ := ih _ _ h2 hj2 hw
        by_cases he : q1.2.1 = 0
        · obtain ⟨⟨d1, d2, d3⟩, d4⟩ := h0 he
          obtain ⟨c0, c1⟩ := c1
          refine ⟨⟨by omega, c1⟩, ?_, c3⟩
          simp only [List.length_append, List.length_cons, List.length_nil] at c2
          omega
        · exfalso
          cases n with
          | zero => cases h2
          | succ n =>
            unfold go9 at h2
            rw [if_neg (fun e => he e.1)] at h2
            injection h2 with h2
            subst h2
            unfold altE at hw
            rw [if_pos he] at hw
            exact he hw
      · injection h with h
        subst h
        unfold altE at hw ⊢
        by_cases he : e ≠ 0
        · rw [if_pos he] at hw; exact absurd hw he
        rw [if_neg he] at hw ⊢
        obtain ⟨j1, j2⟩ := hj (Decidable.not_not.1 he)
        split at hw
        · cases hw
        · rename_i h2
          rw [if_neg h2]
          obtain ⟨a1, a2, _⟩ := alt_st l s
          have a3 := alt_len s hl
          refine J9End_altl ?_
          unfold At9
          rw [okE_s, a1, a2]
          exact ⟨⟨Nat.le_refl _, j1, j2⟩, by omega, fun hx => Decidable.not_not.1 fun h3 => h2 ⟨hx, h3⟩⟩
    | branch x s =>
      have := ih (.brl x [] 0 s) q h (fun _ => hj) hw
      exact this
    | brl x l e s =>
      unfold go9 at h
      split at h
      · rename_i h0
        obtain ⟨e0, hp, _⟩ := moreB_iff.1 h0
        obtain ⟨j1, j2⟩ := hj e0
        obtain ⟨q1, h1, h2⟩ := bind_some h
        have hj1 : J9At b (.piece s) := ⟨hp, j2⟩
        have h0 : q1.2.1 = 0 → At9 b (s.p + 1) q1.2.2 ∧ q1.2.2.L.length + 1 + 2 * s.p ≤ s.L.length + 2 * q1.2.2.p := ih _ _ h1 hj1
        have hj2 : J9At b (.brl x (l ++ [q1.1]) q1.2.1 q1.2.2) := fun e => (h0 e).1.2
        obtain ⟨c1, c2⟩ := ih _ _ h2 hj2 hw
        by_cases he : q1.2.1 = 0
        · obtain ⟨⟨d1, d2, d3⟩, d4⟩ := h0 he
          obtain ⟨c0, c1⟩ := c1
          refine ⟨⟨by omega, c1⟩, ?_⟩
          simp only [List.length_append, List.length_cons, List.length_nil] at c2
          omega
        · exfalso
          cases n with
          | zero => cases h2
          | succ n =>
            unfold go9 at h2
            rw [if_neg (fun e => he (moreB_iff.1 e).1)] at h2
            injection h2 with h2
            subst h2
            unfold brE at hw
            rw [if_pos he] at hw
            exact he hw
      · injection h with h
        subst h
        unfold brE at hw ⊢
        by_cases he : e ≠ 0
        · rw [if_pos he] at hw; exact absurd hw he
        rw [if_neg he] at hw ⊢
        obtain ⟨j1, j2⟩ := hj (Decidable.not_not.1 he)
        split at hw
        · cases hw
        · rename_i h2
          rw [if_neg h2]
          obtain ⟨a1, a2, _⟩ := cat_st l s
          have a3 := cat_len s h2
          refine J9End_brl ?_
          unfold At9
          rw [okE_s, a1, a2]
          exact ⟨⟨Nat.le_refl _, j1, j2⟩, by omega⟩
    | piece s =>
      obtain ⟨j1, j2⟩ := hj
      have fin : Go9 b (s.p + 1) (s.L.length + 1) q → J9End b (.piece s) q := fun ⟨c1, c2⟩ => ⟨c1, by omega⟩
      have hl : At9 b (s.p + 1) (adv s 1) := ⟨Nat.le_refl _, j1, j2⟩
      have hL : (adv s 1).L.length + 1 + 2 * (s.p + 1) ≤ s.L.length + 1 + 2 * (adv s 1).p := by show s.L.length + 1 + 2 * (s.p + 1) ≤ s.L.length + 1 + 2 * (s.p + 1); omega
      unfold go9 at h
      cases hc : b[s.p]? with
      | none => rw [hc] at h; cases h
      | some c =>
        rw [hc] at h
        dsimp only at h
        split at h
        · injection h with h; subst h; exact fin (okE_at hl hL)
        · split at h
          · injection h with h; subst h; exact fin (okE_at hl hL)
          · obtain ⟨q1, h1, rfl⟩ := map_some h
            have h0 : q1.2.1 = 0 → At9 b (s.p + 1) q1.2.2 ∧ q1.2.2.L.length + 1 + 2 * s.p ≤ s.L.length + 2 * q1.2.2.p := ih _ _ h1 ⟨j1, j2⟩
            have := reps9_at (p := s.p + 1) (L := s.L.length + 2) (b.length + 1) q1.1 q1.2.1 q1.2.2 (fun e => ⟨(h0 e).1, by have := (h0 e).2; omega⟩) hw
            exact ⟨this.1, by have := this.2; omega⟩
    | atom s =>
      obtain ⟨j1, j2⟩ := hj
      unfold go9 at h
      cases hc : b[s.p]? with
      | none => rw [hc] at h; cases h
      | some c =>
        rw [hc] at h
        dsimp only at h
        split at h
        · injection h with h; subst h; cases hw
        · split at h
          · injection h with h; subst h; cases hw
          · split at h
            · exact ih (.group s) q h ⟨j1, j2⟩ hw
            · injection h with h
              subst h
              obtain ⟨c1, c2⟩ := leaf9_at j1 j2 hw
              exact ⟨c1, by omega⟩
    | group s =>
      obtain ⟨j1, j2⟩ := hj
      unfold go9 at h
      split at h
      · injection h with h; subst h; cases hw
      · rename_i h9
        obtain ⟨q1, h1, rfl⟩ := map_some h
        have hj1 : J9At b (.alts true { s with g := s.g + 1, p := s.p + 1 }) := ⟨j1, by show s.g + 1 ≤ 9; omega⟩
        unfold grpE at hw ⊢
        by_cases he : q1.2.1 ≠ 0
        · rw [if_pos he] at hw; exact absurd hw he
        rw [if_neg he] at hw ⊢
        have he := Decidable.not_not.1 he
        obtain ⟨⟨d1, d2, d3⟩, d4, d5⟩ : At9 b (s.p + 1) q1.2.2 ∧ q1.2.2.L.length + 1 + 2 * (s.p + 1) ≤ s.L.length + 2 * q1.2.2.p ∧ (true = true → b[q1.2.2.p]? = some 41) := ih _ _ h1 hj1 he
        have d5 := (List.getElem?_eq_some_iff.1 (d5 rfl)).1
        obtain ⟨c1, c2⟩ := okE_at (b := b) (n := (5, q1.1, 0, 0, 0, ((s.g + 1 : Nat) : Int), setZ)) (s := { q1.2.2 with p := q1.2.2.p + 1, cl := Arr.set q1.2.2.cl (s.g + 1) true }) (p := s.p + 1) (L := s.L.length + 1) ⟨by show s.p + 1 ≤ q1.2.2.p + 1; omega, d5, d3⟩ (by show q1.2.2.L.length + 1 + 2 * (s.p + 1) ≤ s.L.length + 1 + 2 * (q1.2.2.p + 1); omega)
        exact ⟨c1, by omega⟩
/-- How many calls deep a job is at most. -/
def need9 (b : List UInt8) (j : J9) : Nat := 7 * (b.length - j.s.p) + match j with | .group _ => 1 | .atom _ => 2 | .piece _ => 3 | .brl _ _ _ _ => 4 | .altl _ _ _ _ => 4 | .branch _ _ => 5 | .alts _ _ => 6
theorem go9_no (b : List UInt8) (n : Nat) (x : Bool) (l : List Int) (e : Int) (s : Pz) (h : e ≠ 0) : go9 b (n + 1) (.altl x l e s) = some (-1, e, s) ∧ go9 b (n + 1) (.brl x l e s) = some (-1, e, s) := by
  constructor
  · unfold go9
    rw [if_neg (fun e => h e.1)]
    unfold altE
    rw [if_pos h]
  · unfold go9
    rw [if_neg (fun e => h (moreB_iff.1 e).1)]
    unfold brE
    rw [if_pos h]
theorem go9_ex (b : List UInt8) : ∀ (n : Nat) (j : J9), J9At b j → need9 b j ≤ n → ∃ q, go9 b n j = some q := by
  intro n
  induction n with
  | zero => intro j _ h; exfalso; unfold need9 at h; cases j <;> dsimp only at h <;> omega
  | succ n ih =>
    intro j hj hn
    cases j with
    | alts x s =>
      have hn : 7 * (b.length - s.p) + 6 ≤ n + 1 := hn
      obtain ⟨q1, h1⟩ := ih (.branch x s) hj (by show 7 * (b.length - s.p) + 5 ≤ n; omega)
      show ∃ q, (go9 b n (.branch x s)).bind _ = some q
      rw [h1]
      by_cases he : q1.2.1 = 0
      · obtain ⟨⟨d1, d2, d3⟩, _⟩ : At9 b s.p q1.2.2 ∧ _ := go9_at b n _ q1 h1 hj he
        exact ih (.altl x [q1.1] q1.2.1 q1.2.2) ⟨by simp, fun _ => ⟨d2, d3⟩⟩ (by show 7 * (b.length - q1.2.2.p) + 4 ≤ n; omega)
      · obtain ⟨m, rfl⟩ : ∃ m, n = m + 1 := ⟨n - 1, by omega⟩
        exact ⟨_, (go9_no b m x _ _ _ he).1⟩
    | altl x l e s =>
      have hn : 7 * (b.length - s.p) + 4 ≤ n + 1 := hn
      obtain ⟨hl, hj⟩ := hj
      unfold go9
      split
      · rename_i h0
        obtain ⟨e0, h124⟩ := h0
        obtain ⟨j1, j2⟩ := hj e0
        have hp := (List.getElem?_eq_some_iff.1 h124).1
        have hj1 : J9At b (.branch x (adv s 1)) := ⟨hp, j2⟩
        obtain ⟨q1, h1⟩ := ih (.branch x (adv s 1)) hj1 (by show 7 * (b.length - (s.p + 1)) + 5 ≤ n; omega)
        rw [h1]
        by_cases he : q1.2.1 = 0
        · obtain ⟨⟨d1, d2, d3⟩, _⟩ : At9 b (s.p + 1) q1.2.2 ∧ _ := go9_at b n _ q1 h1 hj1 he
          exact ih (.altl x (l ++ [q1.1]) q1.2.1 q1.2.2) ⟨by simp, fun _ => ⟨d2, d3⟩⟩ (by show 7 * (b.length - q1.2.2.p) + 4 ≤ n; omega)
        · obtain ⟨m, rfl⟩ : ∃ m, n = m + 1 := ⟨n - 1, by omega⟩
          exact ⟨_, (go9_no b m x _ _ _ he).1⟩
      · exact ⟨_, rfl⟩
    | branch x s =>
      have hn : 7 * (b.length - s.p) + 5 ≤ n + 1 := hn
      exact ih (.brl x [] 0 s) (fun _ => hj) (by show 7 * (b.length - s.p) + 4 ≤ n; omega)
    | brl x l e s =>
      have hn : 7 * (b.length - s.p) + 4 ≤ n + 1 := hn
      unfold go9
      split
      · rename_i h0
        obtain ⟨e0, hp, _⟩ := moreB_iff.1 h0
        obtain ⟨j1, j2⟩ := hj e0
        have hj1 : J9At b (.piece s) := ⟨hp, j2⟩
        obtain ⟨q1, h1⟩ := ih (.piece s) hj1 (by show 7 * (b.length - s.p) + 3 ≤ n; omega)
        rw [h1]
        by_cases he : q1.2.1 = 0
        · obtain ⟨⟨d1, d2, d3⟩, _⟩ : At9 b (s.p + 1) q1.2.2 ∧ _ := go9_at b n _ q1 h1 hj1 he
          exact ih (.brl x (l ++ [q1.1]) q1.2.1 q1.2.2) (fun _ => ⟨d2, d3⟩) (by show 7 * (b.length - q1.2.2.p) + 4 ≤ n; omega)
        · obtain ⟨m, rfl⟩ : ∃ m, n = m + 1 := ⟨n - 1, by omega⟩
          exact ⟨_, (go9_no b m x _ _ _ he).2⟩
      · exact ⟨_, rfl⟩
    | piece s =>
      have hn : 7 * (b.length - s.p) + 3 ≤ n + 1 := hn
      obtain ⟨j1, j2⟩ := hj
      unfold go9
      rw [List.getElem?_eq_getElem j1]
      dsimp only
      split
      · exact ⟨_, rfl⟩
      · split
        · exact ⟨_, rfl⟩
        · obtain ⟨q1, h1⟩ := ih (.atom s) ⟨j1, j2⟩ (by show 7 * (b.length - s.p) + 2 ≤ n; omega)
          rw [h1]; exact ⟨_, rfl⟩
    | atom s =>
      have hn : 7 * (b.length - s.p) + 2 ≤ n + 1 := hn
      obtain ⟨j1, j2⟩ := hj
      unfold go9
      rw [List.getElem?_eq_getElem j1]
      dsimp only
      split
      · exact ⟨_, rfl⟩
      · split
        · exact ⟨_, rfl⟩
        · split
          · exact ih (.group s) ⟨j1, j2⟩ (by show 7 * (b.length - s.p) + 1 ≤ n; omega)
          · exact ⟨_, rfl⟩
    | group s =>
      have hn : 7 * (b.length - s.p) + 1 ≤ n + 1 := hn
      obtain ⟨j1, j2⟩ := hj
      unfold go9
      split
      · exact ⟨_, rfl⟩
      · obtain ⟨q1, h1⟩ := ih (.alts true { s with g := s.g + 1, p := s.p + 1 }) ⟨j1, by show s.g + 1 ≤ 9; omega⟩ (by show 7 * (b.length - (s.p + 1)) + 6 ≤ n; omega)
        rw [h1]; exact ⟨_, rfl⟩
end Go.Proofs.Ytfhakeapepafbaa
