/- Basic regular expressions: a text within another is read alike. -/
import Derived.Test.YtpddiffpanihdaaBtA
namespace Go.Proofs.Ytpddiffpanihdaa
/-- The text t1 stands in t2 at d; behind it a group ends or begins. -/
structure In8 (t1 t2 : List UInt8) (y : UInt8) (d : Nat) : Prop where
  le : d ≤ t2.length
  eq : ∃ r, t2.drop d = t1 ++ 92 :: y :: r
  hy : y = 40 ∨ y = 41
theorem has_iff (b : List UInt8) (p : Nat) (l : List UInt8) : hasS b p l = true ↔ ∀ i, i < l.length → b[p + i]? = l[i]? := by
  unfold hasS
  rw [decide_eq_true_eq]
  constructor
  · intro h i hi
    have := congrArg (fun q => q[i]?) h
    simp only [List.getElem?_take, if_pos hi, List.getElem?_drop] at this
    exact this
  · intro h
    apply List.ext_getElem?
    intro i
    rw [List.getElem?_take]
    split
    · rename_i hi
      rw [List.getElem?_drop]; exact h i hi
    · rename_i hi
      rw [List.getElem?_eq_none (by omega)]
section
variable {t1 t2 : List UInt8} {y : UInt8} {d g0 : Nat} (H : In8 t1 t2 y d)
include H
theorem b8_len : d + t1.length + 2 ≤ t2.length := by
  obtain ⟨r, h⟩ := H.eq
  have := congrArg List.length h
  rw [List.length_drop, List.length_append] at this
  have h2 := H.le
  simp only [List.length_cons] at this
  omega
theorem b8_at {p : Nat} (hp : p < t1.length) : t2[d + p]? = t1[p]? := by
  obtain ⟨r, h⟩ := H.eq
  have := congrArg (fun l => l[p]?) h
  rw [List.getElem?_drop, List.getElem?_append_left hp] at this
  exact this
theorem b8_end : t2[d + t1.length]? = some 92 ∧ t2[d + t1.length + 1]? = some y := by
  obtain ⟨r, h⟩ := H.eq
  have h1 := congrArg (fun l => l[t1.length]?) h
  have h2 := congrArg (fun l => l[t1.length + 1]?) h
  rw [List.getElem?_drop, List.getElem?_append_right (Nat.le_refl _), Nat.sub_self] at h1
  rw [List.getElem?_drop, List.getElem?_append_right (by omega), show t1.length + 1 - t1.length = 1 by omega] at h2
  exact ⟨h1, h2⟩
theorem b8_some {p : Nat} {c : UInt8} (h : t1[p]? = some c) : t2[d + p]? = some c := by
  rw [b8_at H (List.getElem?_eq_some_iff.1 h).1]; exact h
theorem b8_is {p : Nat} (hp : p ≤ t1.length) {c : UInt8} (hc : c ≠ 92) : t2[d + p]? = some c ↔ t1[p]? = some c := by
  rcases (by omega : p < t1.length ∨ p = t1.length) with h | rfl
  · rw [b8_at H h]
  · rw [(b8_end H).1, List.getElem?_eq_none (Nat.le_refl _)]
    exact ⟨fun e => by injection e with e; exact absurd e.symm hc, fun e => by cases e⟩
theorem b8_has1 {p : Nat} (hp : p ≤ t1.length) {c : UInt8} (hc : c ≠ 92) : hasS t2 (d + p) [c] = hasS t1 p [c] := by
  rw [Bool.eq_iff_iff, has_iff, has_iff]
  have := b8_is H hp hc
  constructor
  · intro h i hi
    have hi : i = 0 := by simp at hi; exact hi
    subst hi
    exact this.1 (h 0 (by simp))
  · intro h i hi
    have hi : i = 0 := by simp at hi; exact hi
    subst hi
    exact this.2 (h 0 (by simp))
/-- Two bytes of which the first is a backslash, the second not what may stand behind t1. -/
theorem b8_has2 {p : Nat} (hp : p ≤ t1.length) {c : UInt8} (hc : c ≠ 92) (hy : c ≠ y) : hasS t2 (d + p) [92, c] = hasS t1 p [92, c] := by
  rw [Bool.eq_iff_iff, has_iff, has_iff]
  have two : ∀ {b : List UInt8} {q : Nat}, (∀ i, i < ([92, c] : List UInt8).length → b[q + i]? = ([92, c] : List UInt8)[i]?) ↔ b[q]? = some 92 ∧ b[q + 1]? = some c := fun {b q} => by
    constructor
    · intro h
      exact ⟨h 0 (by simp), h 1 (by simp)⟩
    · rintro ⟨h1, h2⟩ i hi
      rcases (by simp at hi; omega : i = 0 ∨ i = 1) with rfl | rfl
      · exact h1
      · exact h2
  rw [two, two]
  rcases (by omega : p + 1 ≤ t1.length ∨ p = t1.length) with h | rfl
  · rw [b8_at H (p := p) (by omega), show d + p + 1 = d + (p + 1) by omega, b8_is H h hc]
  · rw [(b8_end H).2]
    constructor
    · rintro ⟨_, h⟩
      injection h with h
      exact absurd h.symm hy
    · rintro ⟨h, _⟩
      rw [List.getElem?_eq_none (Nat.le_refl _)] at h; cases h
end
/-- Alike, but for the place; m: the nodes are the same, too. -/
def RG (t1 : List UInt8) (d g0 : Nat) (m : Prop) (s1 s2 : Pz) : Prop := s2.p = d + s1.p ∧ s1.p ≤ t1.length ∧ s2.cl = s1.cl ∧ s2.g = s1.g + g0 ∧ s2.L.length = s1.L.length ∧ (m → s2.L = s1.L)
theorem rg_put {t1 : List UInt8} {d g0 : Nat} {m : Prop} {nd nd' : ND} {s1 s2 : Pz} (h : 0 ≤ (putS nd s1).1) (hR : RG t1 d g0 m s1 s2) (hn : isNodeB nd s1.L.length s1.g = true → isNodeB nd' s1.L.length s1.g = true) (he : m → nd' = nd) :
    ∃ s2', okR (putS nd' s2) = ((putS nd s1).1, [], s2') ∧ RG t1 d g0 m (putS nd s1).2 s2' := by
  obtain ⟨p1, p2, p3⟩ := put_pos h
  obtain ⟨e1, e2, e3, e4, e5, e6⟩ := hR
  have : putS nd' s2 = ((s2.L.length : Int), { s2 with L := s2.L ++ [nd'] }) := by
    unfold putS
    rw [if_neg (by omega), if_pos (by rw [e5]; exact node_mono (hn p2) (by omega))]
  rw [this, p3]
  refine ⟨{ s2 with L := s2.L ++ [nd'] }, by rw [e5]; rfl, e1, e2, e3, e4, by show (s2.L ++ [nd']).length = (s1.L ++ [nd]).length; simp [e5], fun hm => ?_⟩
  show s2.L ++ [nd'] = s1.L ++ [nd]
  rw [e6 hm, he hm]
section
variable {t1 t2 : List UInt8} {y : UInt8} {d g0 : Nat} (H : In8 t1 t2 y d)
include H
theorem b8_drop {p : Nat} (hp : p ≤ t1.length) : ∃ r, t2.drop (d + p) = t1.drop p ++ 92 :: r := by
  obtain ⟨r, h⟩ := H.eq
  exact ⟨y :: r, by rw [← List.drop_drop, h, List.drop_append, show p - t1.length = 0 by omega, List.drop_zero]⟩
omit H in
theorem numL_app8 {r : List UInt8} : ∀ (l : List UInt8) (n : Int) (gr : Bool), numL n gr (l ++ 92 :: r) = numL n gr l
  | [], n, gr => by rw [List.nil_append, numL_cons, if_neg (by decide)]; rfl
  | c :: l, n, gr => by
    rw [List.cons_append, numL_cons, numL_cons]
    by_cases h : 48 ≤ c.toNat ∧ c.toNat ≤ 57
    · rw [if_pos h, if_pos h, numL_app8 l]
    · rw [if_neg h, if_neg h]
theorem b8_num {p : Nat} (hp : p ≤ t1.length) : (numR t2 (d + p)).1 = (numR t1 p).1 ∧ (numR t2 (d + p)).2.2 = (numR t1 p).2.2 ∧ ((numR t1 p).2.2 = 0 → (numR t2 (d + p)).2.1 = (d : Int) + (numR t1 p).2.1) := by
  obtain ⟨r, hr⟩ := b8_drop H hp
  unfold numR
  rw [hr, numL_app8]
  split
  · exact ⟨rfl, rfl, fun h => by cases h⟩
  · split
    · exact ⟨rfl, rfl, fun h => by cases h⟩
    · refine ⟨rfl, rfl, fun _ => ?_⟩
      show ((d + p + _ : Nat) : Int) = (d : Int) + ((p + _ : Nat) : Int)
      omega
theorem b8_parse {p : Nat} (hp : p ≤ t1.length) (h : (parseR t1 p).2.2 = 0) : parseR t2 (d + p) = ((parseR t1 p).1, (d : Int) + (parseR t1 p).2.1, 0) := by
  have key : ∀ a, a ≤ t1.length → (endR (isNot (t1.drop p)) a (loopT ((t1.drop a).length + 1) true (t1.drop a) z4 0)).2.2 = 0 → t1.drop a ≠ [] ∧ endR (isNot (t1.drop p)) (d + a) (loopT ((t2.drop (d + a)).length + 1) true (t2.drop (d + a)) z4 0) = ((endR (isNot (t1.drop p)) a (loopT ((t1.drop a).length + 1) true (t1.drop a) z4 0)).1, (d : Int) + (endR (isNot (t1.drop p)) a (loopT ((t1.drop a).length + 1) true (t1.drop a) z4 0)).2.1, 0) := fun a ha h => by
    cases hl : loopT ((t1.drop a).length + 1) true (t1.drop a) z4 0 with
    | error e =>
      rw [hl] at h
      exact absurd h (loop_err _ _ _ _ _ _ hl)
    | ok x =>
      obtain ⟨S, L⟩ := x
      obtain ⟨h1, h2, h3, _⟩ := loop_local (t1.drop a) S L hl
      refine ⟨fun e => by rw [e] at h2; simp at h2; omega, ?_⟩
      obtain ⟨r, hr⟩ := b8_drop H ha
      rw [h3 (t2.drop (d + a)) (by rw [hr, List.take_append, show L - (t1.drop a).length = 0 by omega, List.take_zero, List.append_nil])]
      show (_, ((d + a + L : Nat) : Int), (0 : Int)) = (_, (d : Int) + ((a + L : Nat) : Int), (0 : Int))
      rw [show ((d + a + L : Nat) : Int) = (d : Int) + ((a + L : Nat) : Int) by omega]
      rfl
  have hnot : t1.drop p ≠ [] → isNot (t2.drop (d + p)) = isNot (t1.drop p) := fun hne => by
    obtain ⟨r, hr⟩ := b8_drop H hp
    rw [hr]
    cases hd : t1.drop p with
    | nil => exact absurd hd hne
    | cons x t => rfl
  unfold parseR at h ⊢
  by_cases hn : isNot (t1.drop p) = true
  · rw [if_pos hn] at h ⊢
    have hne : t1.drop p ≠ [] := fun e => by rw [e] at hn; cases hn
    have hlt : p < t1.length := by
      rcases Nat.lt_or_ge p t1.length with h | h
      · exact h
      · exact absurd (List.drop_eq_nil_of_le h) hne
    rw [if_pos (by rw [hnot hne]; exact hn)]
    rw [hn] at key
    exact (key (p + 1) hlt h).2
  · rw [if_neg hn] at h ⊢
    have hf : isNot (t1.drop p) = false := by simpa using hn
    rw [hf] at key
    obtain ⟨hne, hk⟩ := key p hp h
    rw [if_neg (by rw [hnot hne]; exact hn)]
    exact hk
theorem b8_125 {p : Nat} (hp : p ≤ t1.length) : hasS t2 (d + p) [92, 125] = hasS t1 p [92, 125] := b8_has2 H hp (by decide) (by rcases H.hy with h | h <;> (rw [h]; decide))
theorem b8_123 {p : Nat} (hp : p ≤ t1.length) : hasS t2 (d + p) [92, 123] = hasS t1 p [92, 123] := b8_has2 H hp (by decide) (by rcases H.hy with h | h <;> (rw [h]; decide))
/-- A repetition. -/
theorem rg_repeat {m : Prop} {k : Int} {s1 s2 : Pz} (hR : RG t1 d g0 m s1 s2) (hp : hasS t1 s1.p [42] = true ∨ hasS t1 s1.p [92, 123] = true) (hw : (repeatF t1 k s1).2.1 = []) (hk : 0 ≤ (repeatF t1 k s1).1) :
    ∃ s2', repeatF t2 k s2 = ((repeatF t1 k s1).1, [], s2') ∧ RG t1 d g0 m (repeatF t1 k s1).2.2 s2' := by
  have e1 := hR.1
  unfold repeatF at hw hk ⊢
  rw [e1, b8_has1 H hR.2.1 (by decide)]
  by_cases h1 : hasS t1 s1.p [42] = true
  · rw [if_pos h1] at hw hk ⊢
    rw [if_pos h1]
    have hl : s1.p + 1 ≤ t1.length := has_len h1 (by simp)
    exact rg_put hk ⟨by show s2.p + 1 = d + (s1.p + 1); omega, hl, hR.2.2⟩ id fun _ => rfl
  rw [if_neg h1] at hw hk ⊢
  rw [if_neg h1]
  have hl : s1.p + 2 ≤ t1.length := has_len (hp.resolve_left h1) (by simp)
  have fin : ∀ (lo hi : Int) (a : Nat), a ≤ t1.length → (rep2 t1 k lo hi s1 a).2.1 = [] → 0 ≤ (rep2 t1 k lo hi s1 a).1 → ∃ s2', rep2 t2 k lo hi s2 (d + a) = ((rep2 t1 k lo hi s1 a).1, [], s2') ∧ RG t1 d g0 m (rep2 t1 k lo hi s1 a).2.2 s2' := fun lo hi a ha hw hk => by
    unfold rep2 at hw hk ⊢
    rw [b8_125 H ha]
    split at hw
    · cases hw
    · rename_i h2
      rw [if_neg h2] at hk ⊢
      rw [if_neg h2]
      have h3 : hasS t1 a [92, 125] = true := by
        cases hh : hasS t1 a [92, 125] with
        | true => rfl
        | false => rw [hh] at h2; exact absurd rfl h2
      have := has_len h3 (by simp)
      exact rg_put hk ⟨by show d + a + 2 = d + (a + 2); omega, this, hR.2.2⟩ id fun _ => rfl
  obtain ⟨n1, n2, n3⟩ := b8_num H hl
  rw [show d + (s1.p + 2) = d + s1.p + 2 by omega] at n1 n2 n3
  rw [n1, n2]
  by_cases h2 : (numR t1 (s1.p + 2)).2.2 ≠ 0
  · rw [if_pos h2] at hw; cases hw
  rw [if_neg h2] at hw hk ⊢
  rw [if_neg h2]
  obtain ⟨z, hz, hz1, hz2⟩ := num_next (Decidable.not_not.1 h2) hl
  rw [n3 (Decidable.not_not.1 h2), hz, show ((d : Int) + (z : Int)).toNat = d + z by omega]
  rw [hz, Int.toNat_natCast] at hw hk
  rw [Int.toNat_natCast]
  have i44 := b8_is H hz2 (c := 44) (by decide)
  by_cases h3 : t1[z]? = some 44
  · rw [if_pos h3] at hw hk ⊢
    rw [if_pos (i44.2 h3)]
    have hzl := (List.getElem?_eq_some_iff.1 h3).1
    obtain ⟨m1, m2, m3⟩ := b8_num H (p := z + 1) hzl
    rw [show d + (z + 1) = d + z + 1 by omega] at m1 m2 m3
    rw [m1, m2]
    by_cases h4 : (numR t1 (z + 1)).2.2 = 0
    · rw [if_pos h4] at hw hk ⊢
      rw [if_pos h4]
      obtain ⟨w, hw', hw1, hw2⟩ := num_next h4 hzl
      rw [m3 h4, hw', show ((d : Int) + (w : Int)).toNat = d + w by omega]
      rw [hw', Int.toNat_natCast] at hw hk
      rw [Int.toNat_natCast]
      exact fin _ _ w hw2 hw hk
    · rw [if_neg h4] at hw hk ⊢
      rw [if_neg h4]
      by_cases h5 : (numR t1 (z + 1)).2.2 = 9
      · rw [if_pos h5] at hw hk ⊢
        rw [if_pos h5]
        exact fin _ _ (z + 1) hzl hw hk
      · rw [if_neg h5] at hw; cases hw
  · rw [if_neg h3] at hw hk ⊢
    rw [if_neg (fun e => h3 (i44.1 e))]
    exact fin _ _ z hz2 hw hk
end
end Go.Proofs.Ytpddiffpanihdaa
