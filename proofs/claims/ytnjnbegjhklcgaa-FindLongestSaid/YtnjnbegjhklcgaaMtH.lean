
/- Which match is the best: an order. -/
import Derived.Test.YtnjnbegjhklcgaaMtG
namespace Go.Proofs.Ytnjnbegjhklcgaa
def encS (x : Int × Int) : Int := if x.1 < 0 then 0 else 1 + (1099511627776 - x.1) * 1099511627776 + x.2
def encL (h : Sp) : Nat → Nat → List Int
  | 0, _ => []
  | k + 1, i => encS (h.l.getD i (0, 0)) :: encL h k (i + 1)
def keyL (h : Sp) : List Int := (h.l.getD 0 (0, 0)).2 :: encL h 9 1
theorem sp_get (h : Sp) {i : Nat} (hi : i < 10) : h.l[i]? = some (h.l.getD i (0, 0)) := by
  rw [List.getD_eq_getElem?_getD, List.getElem?_eq_getElem (by rw [h.len]; exact hi)]; rfl
def SV (x : Int × Int) : Prop := x = (-1, -1) ∨ (0 ≤ x.1 ∧ x.1 ≤ x.2 ∧ x.2 ≤ 1000000000)
theorem enc_inj {x y : Int × Int} (hx : SV x) (hy : SV y) (h : encS x = encS y) : x = y := by
  obtain ⟨x1, x2⟩ := x
  obtain ⟨y1, y2⟩ := y
  unfold encS at h
  rcases hx with hx | ⟨a1, a2, a3⟩ <;> rcases hy with hy | ⟨b1, b2, b3⟩
  · rw [hx, hy]
  · injection hx with e1 e2
    simp only at h b1 b2 b3
    rw [if_pos (by omega), if_neg (by omega)] at h
    omega
  · injection hy with e1 e2
    simp only at h a1 a2 a3
    rw [if_neg (by omega), if_pos (by omega)] at h
    omega
  · simp only at h a1 a2 a3 b1 b2 b3
    rw [if_neg (by omega), if_neg (by omega)] at h
    have : x1 = y1 := by omega
    have : x2 = y2 := by omega
    subst_vars; rfl
theorem enc_lt {x y : Int × Int} (hx : SV x) (hy : SV y) (hne : x ≠ y) :
    ((if x.1 < 0 ∨ y.1 < 0 then (if y.1 < 0 then decide (0 ≤ x.1) else false) else if x.1 = y.1 then decide (y.2 < x.2) else decide (x.1 < y.1)) = true) ↔ encS y < encS x := by
  obtain ⟨x1, x2⟩ := x
  obtain ⟨y1, y2⟩ := y
  unfold encS
  rcases hx with hx | ⟨a1, a2, a3⟩ <;> rcases hy with hy | ⟨b1, b2, b3⟩
  · exact absurd (hx.trans hy.symm) hne
  · injection hx with e1 e2
    simp only at b1 b2 b3 ⊢
    rw [if_pos (by omega), if_neg (by omega : ¬ y1 < 0), if_neg (by omega : ¬ y1 < 0), if_pos (by omega : x1 < 0)]
    constructor
    · intro h; cases h
    · intro h; omega
  · injection hy with e1 e2
    simp only at a1 a2 a3 ⊢
    rw [if_pos (by omega), if_pos (by omega : y1 < 0), if_pos (by omega : y1 < 0), if_neg (by omega : ¬ x1 < 0)]
    constructor
    · intro _; omega
    · intro _; exact decide_eq_true a1
  · simp only at a1 a2 a3 b1 b2 b3 ⊢
    rw [if_neg (by omega), if_neg (by omega : ¬ y1 < 0), if_neg (by omega : ¬ x1 < 0)]
    by_cases e : x1 = y1
    · rw [if_pos e, decide_eq_true_eq]; omega
    · rw [if_neg e, decide_eq_true_eq]; omega
/-- Spans that may be. -/
def HV (h : Sp) : Prop := ∀ i x, 1 ≤ i → h.l[i]? = some x → SV x
theorem from_lt {a b : Sp} (ha : HV a) (hb : HV b) : ∀ k i, 1 ≤ i → i + k = 10 → (betterFrom a b k i = true ↔ encL b k i < encL a k i)
  | 0, _, _, _ => by
    show (false = true) ↔ ([] : List Int) < []
    exact ⟨fun h => absurd h (by decide), fun h => absurd h (List.not_lt_nil _)⟩
  | k + 1, i, h1, h2 => by
    have ea := sp_get a (i := i) (by omega)
    have eb := sp_get b (i := i) (by omega)
    have va := ha i _ h1 ea
    have vb := hb i _ h1 eb
    show (betterFrom a b (k + 1) i = true) ↔ (encS (b.l.getD i (0, 0)) :: encL b k (i + 1)) < (encS (a.l.getD i (0, 0)) :: encL a k (i + 1))
    rw [List.cons_lt_cons_iff, betterFrom, ea, eb]
    generalize a.l.getD i (0, 0) = x at *
    generalize b.l.getD i (0, 0) = y at *
    simp only
    by_cases e : x = y
    · rw [if_pos e, from_lt ha hb k (i + 1) (by omega) (by omega), e]
      exact ⟨fun h => .inr ⟨rfl, h⟩, fun h => h.elim (fun h => absurd h (Int.lt_irrefl _)) fun h => h.2⟩
    · rw [if_neg e, enc_lt va vb e]
      exact ⟨.inl, fun h => h.elim id fun h => absurd (enc_inj va vb h.1.symm) e⟩
theorem better_lt {a b : Sp} (ha : HV a) (hb : HV b) : betterM a b = true ↔ keyL b < keyL a := by
  have ea := sp_get a (i := 0) (by omega)
  have eb := sp_get b (i := 0) (by omega)
  unfold betterM keyL
  rw [ea, eb, List.cons_lt_cons_iff]
  generalize a.l.getD 0 (0, 0) = x
  generalize b.l.getD 0 (0, 0) = y
  simp only
  by_cases e : x.2 = y.2
  · rw [if_pos e, from_lt ha hb 9 1 (by omega) (by omega), e]
    exact ⟨fun h => .inr ⟨rfl, h⟩, fun h => h.elim (fun h => absurd h (Int.lt_irrefl _)) fun h => h.2⟩
  · rw [if_neg e, decide_eq_true_eq]
    exact ⟨.inl, fun h => h.elim id fun h => absurd h.1.symm e⟩
theorem encL_inj {a b : Sp} (ha : HV a) (hb : HV b) : ∀ k i, 1 ≤ i → i + k = 10 → encL a k i = encL b k i → ∀ j, i ≤ j → j < 10 → a.l[j]? = b.l[j]?
  | 0, _, _, h, _, j, h1, h2 => by omega
  | k + 1, i, h1, h2, he, j, hj, hj2 => by
    injection he with e1 e2
    rcases Nat.lt_or_ge i j with h | h
    · exact encL_inj ha hb k (i + 1) (by omega) (by omega) e2 j (by omega) hj2
    · obtain rfl : j = i := by omega
      have ea := sp_get a (i := j) hj2
      have eb := sp_get b (i := j) hj2
      rw [ea, eb, enc_inj (ha j _ h1 ea) (hb j _ h1 eb) e1]
theorem hok_v {g : Int} {tx : List UInt8} {a0 : Int} {h : Sp} (htx : tx.length ≤ 1000000000) (ha : 0 ≤ a0) (hh : HOk g tx a0 h) : HV h := by
  obtain ⟨to, h1, h2, h3, h4⟩ := hh
  intro i x hi hx
  exact (h4 i x hi hx).imp id fun ⟨q1, q2, q3, q4⟩ => ⟨by omega, q3, by omega⟩
theorem key_inj {g : Int} {tx : List UInt8} {a0 : Int} {a b : Sp} (htx : tx.length ≤ 1000000000) (h0 : 0 ≤ a0) (ha : HOk g tx a0 a) (hb : HOk g tx a0 b) (h : keyL a = keyL b) : a = b := by
  have va := hok_v htx h0 ha
  have vb := hok_v htx h0 hb
  obtain ⟨ta, a1, _⟩ := ha
  obtain ⟨tb, b1, _⟩ := hb
  injection h with e1 e2
  apply Arr.ext
  apply List.ext_getElem?
  intro j
  rcases Nat.lt_or_ge j 10 with hj | hj
  · rcases Nat.eq_zero_or_pos j with rfl | h0
    · rw [List.getD_eq_getElem?_getD, List.getD_eq_getElem?_getD, a1, b1] at e1
      rw [a1, b1, show ta = tb from e1]
    · exact encL_inj va vb 9 1 (by omega) (by omega) e2 j h0 hj
  · rw [List.getElem?_eq_none (by rw [a.len]; omega), List.getElem?_eq_none (by rw [b.len]; omega)]
/-- The better of two does not hang on which comes first. -/
theorem note_comm {g : Int} {tx : List UInt8} {a0 : Int} {b : Bst} {x y : Sp} (htx : tx.length ≤ 1000000000) (h0 : 0 ≤ a0) (hb : b.1 = true → HOk g tx a0 b.2) (hx : HOk g tx a0 x) (hy : HOk g tx a0 y) :
    note (note b x) y = note (note b y) x := by
  have vx := hok_v htx h0 hx
  have vy := hok_v htx h0 hy
  have bxy := better_lt vx vy
  have byx := better_lt vy vx
  have kxy := key_inj htx h0 hx hy
  have tri : keyL x < keyL y ∨ keyL x = keyL y ∨ keyL y < keyL x := by
    by_cases h1 : keyL x < keyL y
    · exact .inl h1
    · by_cases h2 : keyL y < keyL x
      · exact .inr (.inr h2)
      · exact .inr (.inl (List.le_antisymm (List.not_lt.1 h2) (List.not_lt.1 h1)))
  have asym : ∀ {p q : List Int}, p < q → ¬ q < p := fun h1 h2 => List.lt_irrefl _ (List.lt_trans h1 h2)
  obtain ⟨any, best⟩ := b
  cases any with
  | false =>
    have n1 : ∀ z, note (false, best) z = (true, z) := fun z => by unfold note; rw [if_neg (fun q => by cases q.1)]
    rw [n1, n1]
    unfold note
    simp only [true_and]
    rcases tri with h | h | h
    · rw [if_neg (by rw [byx.2 h]; decide), if_pos (Bool.eq_false_iff.2 fun q => asym h (bxy.1 q))]
    · rw [kxy h]
    · rw [if_pos (Bool.eq_false_iff.2 fun q => asym h (byx.1 q)), if_neg (by rw [bxy.2 h]; decide)]
  | true =>
    have vb := hok_v htx h0 (hb rfl)
    have nt : ∀ c z, HV c → HV z → note (true, c) z = if keyL c < keyL z then (true, z) else (true, c) := by
      intro c z vc vz
      unfold note
      by_cases h : keyL c < keyL z
      · rw [if_pos h, if_neg (fun q => by have := q.2; rw [show betterM z c = true from (better_lt vz vc).2 h] at this; cases this)]
      · rw [if_neg h, if_pos ⟨rfl, Bool.eq_false_iff.2 fun q => h ((better_lt vz vc).1 q)⟩]
    rw [nt _ _ vb vx, nt _ _ vb vy]
    by_cases h1 : keyL best < keyL x <;> by_cases h2 : keyL best < keyL y
    · rw [if_pos h1, if_pos h2, nt _ _ vx vy, nt _ _ vy vx]
      rcases tri with h | h | h
      · rw [if_pos h, if_neg (asym h)]
      · rw [kxy h]
      · rw [if_neg (asym h), if_pos h]
    · rw [if_pos h1, if_neg h2, nt _ _ vx vy, nt _ _ vb vx, if_pos h1, if_neg]
      intro h
      exact h2 (List.lt_trans h1 h)
    · rw [if_neg h1, if_pos h2, nt _ _ vb vy, nt _ _ vy vx, if_pos h2, if_neg]
      intro h
      exact h1 (List.lt_trans h2 h)
    · rw [if_neg h1, if_neg h2, nt _ _ vb vy, nt _ _ vb vx, if_neg h1, if_neg h2]
theorem note_ok {P : Sp → Prop} {b : Bst} {x : Sp} (hb : b.1 = true → P b.2) (hx : P x) : (note b x).1 = true → P (note b x).2 := by
  unfold note
  split
  · exact hb
  · exact fun _ => hx
theorem notes_perm {g : Int} {tx : List UInt8} {a0 : Int} (htx : tx.length ≤ 1000000000) (h0 : 0 ≤ a0) {l m : List Sp} (hp : l.Perm m) : ∀ b : Bst, (b.1 = true → HOk g tx a0 b.2) → (∀ h ∈ l, HOk g tx a0 h) → l.foldl note b = m.foldl note b := by
  induction hp with
  | nil => exact fun _ _ _ => rfl
  | cons x _ ih => exact fun b hb hl => ih _ (note_ok hb (hl x (List.mem_cons_self ..))) fun h hh => hl h (List.mem_cons_of_mem _ hh)
  | swap x y l =>
    intro b hb hl
    show l.foldl note (note (note b y) x) = l.foldl note (note (note b x) y)
    rw [note_comm htx h0 hb (hl y (List.mem_cons_self ..)) (hl x (List.mem_cons_of_mem _ (List.mem_cons_self ..)))]
  | trans h1 _ ih1 ih2 => exact fun b hb hl => (ih1 b hb hl).trans (ih2 b hb fun h hh => hl h (h1.mem_iff.2 hh))
end Go.Proofs.Ytnjnbegjhklcgaa
