/- A text within another is read alike. -/
import Derived.Test.YtfhakeapepafbaaEpG
namespace Go.Proofs.Ytfhakeapepafbaa
/-- The text t1 stands in t2 at d; behind it is the end, or a bar. -/
structure In9 (t1 t2 rest : List UInt8) (d : Nat) : Prop where
  le : d ≤ t2.length
  eq : t2.drop d = t1 ++ rest
  tl : rest = [] ∨ ∃ t, rest = 124 :: t
section
variable {t1 t2 rest : List UInt8} {d n0 : Nat} (H : In9 t1 t2 rest d)
include H
theorem in_drop {p : Nat} (hp : p ≤ t1.length) : t2.drop (d + p) = t1.drop p ++ rest := by
  rw [← List.drop_drop, H.eq, List.drop_append, show p - t1.length = 0 by omega, List.drop_zero]
theorem in_len : t2.length = d + t1.length + rest.length := by
  have := congrArg List.length H.eq
  rw [List.length_drop, List.length_append] at this
  have := H.le
  omega
theorem in_at {p : Nat} (hp : p < t1.length) : t2[d + p]? = t1[p]? := by
  have := congrArg (fun l => l[p]?) H.eq
  rw [List.getElem?_drop, List.getElem?_append_left hp] at this
  exact this
theorem in_end : t2[d + t1.length]? = none ∨ t2[d + t1.length]? = some 124 := by
  have := congrArg (fun l => l[t1.length]?) H.eq
  rw [List.getElem?_drop, List.getElem?_append_right (Nat.le_refl _), Nat.sub_self] at this
  rw [this]
  rcases H.tl with h | ⟨t, h⟩ <;> rw [h]
  · exact .inl rfl
  · exact .inr rfl
theorem in_some {p : Nat} {c : UInt8} (h : t1[p]? = some c) : t2[d + p]? = some c := by
  rw [in_at H (List.getElem?_eq_some_iff.1 h).1]; exact h
theorem in_is {p : Nat} (hp : p ≤ t1.length) {c : UInt8} (hc : c ≠ 124) : t2[d + p]? = some c ↔ t1[p]? = some c := by
  rcases (by omega : p < t1.length ∨ p = t1.length) with h | rfl
  · rw [in_at H h]
  · constructor
    · intro e
      rcases in_end H with h | h
      · rw [h] at e; cases e
      · rw [h] at e; injection e with e; exact absurd e.symm hc
    · intro e
      rw [List.getElem?_eq_none (Nat.le_refl _)] at e; cases e
omit H in
theorem numL_app {r : List UInt8} (hr : ∀ x t, r = x :: t → ¬ (48 ≤ x.toNat ∧ x.toNat ≤ 57)) : ∀ (l : List UInt8) (n : Int) (gr : Bool), numL n gr (l ++ r) = numL n gr l
  | [], n, gr => by
    cases r with
    | nil => rfl
    | cons x t =>
      rw [List.nil_append, numL_cons, if_neg (hr x t rfl)]; rfl
  | c :: l, n, gr => by
    rw [List.cons_append, numL_cons, numL_cons]
    by_cases h : 48 ≤ c.toNat ∧ c.toNat ≤ 57
    · rw [if_pos h, if_pos h, numL_app hr l]
    · rw [if_neg h, if_neg h]
theorem in_num {p : Nat} (hp : p ≤ t1.length) : (numR t2 (d + p)).1 = (numR t1 p).1 ∧ (numR t2 (d + p)).2.2 = (numR t1 p).2.2 ∧ ((numR t1 p).2.2 = 0 → (numR t2 (d + p)).2.1 = (d : Int) + (numR t1 p).2.1) := by
  unfold numR
  rw [in_drop H hp, numL_app (fun x t e => by
    rcases H.tl with h | ⟨t', h⟩
    · rw [h] at e; cases e
    · rw [h] at e; injection e with e; subst e; decide)]
  split
  · exact ⟨rfl, rfl, fun h => by cases h⟩
  · split
    · exact ⟨rfl, rfl, fun h => by cases h⟩
    · refine ⟨rfl, rfl, fun _ => ?_⟩
      show ((d + p + _ : Nat) : Int) = (d : Int) + ((p + _ : Nat) : Int)
      omega
theorem in_parse {p : Nat} (hp : p ≤ t1.length) (h : (parseR t1 p).2.2 = 0) : parseR t2 (d + p) = ((parseR t1 p).1, (d : Int) + (parseR t1 p).2.1, 0) := by
  have key : ∀ a, a ≤ t1.length → (endR (isNot (t1.drop p)) a (loopT ((t1.drop a).length + 1) true (t1.drop a) z4 0)).2.2 = 0 → t1.drop a ≠ [] ∧ endR (isNot (t1.drop p)) (d + a) (loopT ((t2.drop (d + a)).length + 1) true (t2.drop (d + a)) z4 0) = ((endR (isNot (t1.drop p)) a (loopT ((t1.drop a).length + 1) true (t1.drop a) z4 0)).1, (d : Int) + (endR (isNot (t1.drop p)) a (loopT ((t1.drop a).length + 1) true (t1.drop a) z4 0)).2.1, 0) := fun a ha h => by
    cases hl : loopT ((t1.drop a).length + 1) true (t1.drop a) z4 0 with
    | error e =>
      rw [hl] at h
      exact absurd h (loop_err _ _ _ _ _ _ hl)
    | ok x =>
      obtain ⟨S, L⟩ := x
      obtain ⟨h1, h2, h3, _⟩ := loop_local (t1.drop a) S L hl
      refine ⟨fun e => by rw [e] at h2; simp at h2; omega, ?_⟩
      rw [h3 (t2.drop (d + a)) (by rw [in_drop H ha, List.take_append, show L - (t1.drop a).length = 0 by omega, List.take_zero, List.append_nil])]
      show (_, ((d + a + L : Nat) : Int), (0 : Int)) = (_, (d : Int) + ((a + L : Nat) : Int), (0 : Int))
      rw [show ((d + a + L : Nat) : Int) = (d : Int) + ((a + L : Nat) : Int) by omega]
      rfl
  have hnot : t1.drop p ≠ [] → isNot (t2.drop (d + p)) = isNot (t1.drop p) := fun hne => by
    rw [in_drop H hp]
    cases hd : t1.drop p with
    | nil => exact absurd hd hne
    | cons x t => rfl
  unfold parseR at h ⊢
  by_cases hn : isNot (t1.drop p) = true
  · rw [if_pos hn] at h ⊢
    have hne : t1.drop p ≠ [] := fun e => by rw [e] at hn; cases hn
    have hlt : p < t1.length := by
      rcases Nat.lt_or_ge p t1.length with h | h
      · exact h
      · exact absurd (List.drop_eq_nil_of_le h) hne
    rw [if_pos (by rw [hnot hne]; exact hn)]
    rw [hn] at key
    exact (key (p + 1) hlt h).2
  · rw [if_neg hn] at h ⊢
    have hf : isNot (t1.drop p) = false := by simpa using hn
    rw [hf] at key
    obtain ⟨hne, hk⟩ := key p hp h
    rw [if_neg (by rw [hnot hne]; exact hn)]
    exact hk
omit H in
/-- Alike, but for the place and for the nodes that were put before. -/
def RlA (t1 : List UInt8) (d n0 : Nat) (s1 s2 : Pz) : Prop := s2.p = d + s1.p ∧ s1.p ≤ t1.length ∧ s2.g = s1.g ∧ (∀ i : Nat, 1 ≤ i → s2.cl.l[i]? = s1.cl.l[i]?) ∧ s2.L.length = n0 + s1.L.length ∧ (n0 = 0 → s2.L = s1.L)
omit H in
def RA (t1 : List UInt8) (d n0 : Nat) (q1 q2 : R9) : Prop := q2.2.1 = 0 ∧ q2.1 = q1.1 + (n0 : Int) ∧ RlA t1 d n0 q1.2.2 q2.2.2
omit H in
theorem ra_put {nd nd' : ND} {s1 s2 : Pz} (h : (okE (putS nd s1)).2.1 = 0) (hR : RlA t1 d n0 s1 s2) (hl : n0 + s1.L.length < 1000) (hn : isNodeB nd s1.L.length s1.g = true → isNodeB nd' ((n0 + s1.L.length : Nat) : Int) s1.g = true) (he : n0 = 0 → nd' = nd) : RA t1 d n0 (okE (putS nd s1)) (okE (putS nd' s2)) := by
  obtain ⟨h1, h2⟩ := okE_pos h
  obtain ⟨p1, p2, p3⟩ := put_pos h1
  obtain ⟨e1, e2, e3, e4, e5, e6⟩ := hR
  rw [h2, p3, put_good (by omega) (by rw [e5, e3]; exact hn p2)]
  refine ⟨rfl, by show (s2.L.length : Int) = (s1.L.length : Int) + (n0 : Int); omega, e1, e2, e3, e4, by show (s2.L ++ [nd']).length = n0 + (s1.L ++ [nd]).length; simp; omega, fun h0 => ?_⟩
  show s2.L ++ [nd'] = s1.L ++ [nd]
  rw [e6 h0, he h0]
omit H in
theorem node_one {nd : ND} {a a' g : Int} (hp : partsL nd = []) (h : isNodeB nd a g = true) : isNodeB nd a' g = true := by
  unfold isNodeB at h ⊢
  rw [hp] at h ⊢
  exact h
omit H in
theorem node_rep_of {k lo hi a g : Int} (h : isNodeB (4, k, 0, lo, hi, 0, setZ) a g = true) : isTimesB lo hi = true := by
  unfold isNodeB at h
  simp only [Bool.and_eq_true, Bool.or_eq_true, decide_eq_true_eq, Bool.not_eq_true', decide_eq_false_iff_not] at h
  exact h.1.2.resolve_left fun hn => hn trivial
omit H in
theorem ra_rep {k lo hi : Int} {s1 s2 : Pz} (h : (okE (putS (4, k, 0, lo, hi, 0, setZ) s1)).2.1 = 0) (hR : RlA t1 d n0 s1 s2) (hl : n0 + s1.L.length < 1000) : RA t1 d n0 (okE (putS (4, k, 0, lo, hi, 0, setZ) s1)) (okE (putS (4, k + (n0 : Int), 0, lo, hi, 0, setZ) s2)) :=
  ra_put h hR hl (fun hn => by
    have := (node_parts hn).1 k (by simp [partsL])
    exact node_rep _ ⟨by omega, by omega⟩ (node_rep_of hn)) fun h0 => by subst h0; simp
omit H in
theorem ra_fold {kind : Int} (hkd : kind = 2 ∨ kind = 3) : ∀ (t : List Int) (x : Int) (s1 s2 : Pz), RlA t1 d n0 s1 s2 → n0 + s1.L.length + t.length ≤ 1000 → 0 ≤ x → 0 ≤ (foldS kind t x s1).1 → (foldS kind (t.map (· + (n0 : Int))) (x + (n0 : Int)) s2).1 = (foldS kind t x s1).1 + (n0 : Int) ∧ RlA t1 d n0 (foldS kind t x s1).2 (foldS kind (t.map (· + (n0 : Int))) (x + (n0 : Int)) s2).2
  | [], x, s1, s2, hR, _, _, _ => ⟨rfl, hR⟩
  | y :: t, x, s1, s2, hR, hl, hx, hs => by
    simp only [List.length_cons] at hl
    rw [List.map_cons, fold_cons, fold_cons, if_neg (by omega)] at *
    rw [if_neg (by omega)]
    by_cases hp : 0 ≤ (putS (kind, x, y, 0, 0, 0, setZ) s1).1
    · have hok := okE_yes hp
      have := ra_put (nd' := (kind, x + (n0 : Int), y + (n0 : Int), 0, 0, 0, setZ)) (by rw [hok]) hR (by omega) (fun hn => by
        have h1 := (node_parts hn).1
        have e : partsL (kind, x, y, 0, 0, 0, setZ) = [x, y] := by rcases hkd with rfl | rfl <;> rfl
        have hx := h1 x (by rw [e]; simp)
        have hy := h1 y (by rw [e]; simp)
        exact node_two _ hkd ⟨by omega, by omega⟩ ⟨by omega, by omega⟩) fun h0 => by subst h0; simp
      obtain ⟨r1, r2, r3⟩ := this
      obtain ⟨c1, c2⟩ := okE_pos r1
      rw [c2, hok] at r2 r3
      have r2 : (putS (kind, x + (n0 : Int), y + (n0 : Int), 0, 0, 0, setZ) s2).1 = (putS (kind, x, y, 0, 0, 0, setZ) s1).1 + (n0 : Int) := r2
      rw [r2]
      have h5 := put_len (kind, x, y, 0, 0, 0, setZ) s1
      exact ra_fold hkd t _ _ _ r3 (by omega) hp hs
    · rw [put_neg hp, fold_m1] at hs
      exact absurd hs (by decide)
omit H in
theorem ra_cat {l : List Int} {s1 s2 : Pz} (hl : l ≠ []) (h : (okE (catS l s1)).2.1 = 0) (hR : RlA t1 d n0 s1 s2) (hb : n0 + s1.L.length + l.length ≤ 1000) : RA t1 d n0 (okE (catS l s1)) (okE (catS (l.map (· + (n0 : Int))) s2)) := by
  obtain ⟨h1, h2⟩ := okE_pos h
  rw [h2]
  cases l with
  | nil => exact absurd rfl hl
  | cons x t =>
    simp only [List.length_cons] at hb
    rw [List.map_cons]
    rw [cat_cons] at h1 ⊢
    rw [cat_cons]
    by_cases hx : x < 0 ∨ (s1.L.length : Int) ≤ x
    · rw [if_pos hx] at h1; exact absurd h1 (by show ¬ (0 : Int) ≤ -1; decide)
    · have e5 := hR.2.2.2.2.1
      rw [if_neg hx] at h1 ⊢
      rw [if_neg (by omega)]
      obtain ⟨r1, r2⟩ := ra_fold (.inl rfl) t x s1 s2 hR (by omega) (by omega) h1
      rw [okE_yes (by rw [r1]; omega)]
      exact ⟨rfl, r1, r2⟩
omit H in
theorem ra_alt {l : List Int} {s1 s2 : Pz} (hl : l ≠ []) (h : (okE (altS l s1)).2.1 = 0) (hR : RlA t1 d n0 s1 s2) (hb : n0 + s1.L.length + l.length ≤ 1000) : RA t1 d n0 (okE (altS l s1)) (okE (altS (l.map (· + (n0 : Int))) s2)) := by
  obtain ⟨h1, h2⟩ := okE_pos h
  rw [h2]
  cases l with
  | nil => exact absurd rfl hl
  | cons x t =>
    simp only [List.length_cons] at hb
    rw [List.map_cons]
    rw [alt_cons] at h1 ⊢
    rw [alt_cons]
    by_cases hx : x < 0 ∨ (s1.L.length : Int) ≤ x
    · rw [if_pos hx] at h1; exact absurd h1 (by show ¬ (0 : Int) ≤ -1; decide)
    · have e5 := hR.2.2.2.2.1
      rw [if_neg hx] at h1 ⊢
      rw [if_neg (by omega)]
      obtain ⟨r1, r2⟩ := ra_fold (.inr rfl) t x s1 s2 hR (by omega) (by omega) h1
      rw [okE_yes (by rw [r1]; omega)]
      exact ⟨rfl, r1, r2⟩
end
end Go.Proofs.Ytfhakeapepafbaa
