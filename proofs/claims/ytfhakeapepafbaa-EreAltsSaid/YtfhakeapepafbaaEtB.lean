/- A text within another is read alike: job by job. -/
import Derived.Test.YtfhakeapepafbaaEtA
namespace Go.Proofs.Ytfhakeapepafbaa
def J9.mv (n0 : Nat) : J9 → Pz → J9
  | .alts x _, s => .alts x s
  | .altl x l e _, s => .altl x (l.map (· + (n0 : Int))) e s
  | .branch x _, s => .branch x s
  | .brl x l e _, s => .brl x (l.map (· + (n0 : Int))) e s
  | .piece _, s => .piece s
  | .atom _, s => .atom s
  | .group _, s => .group s
def J9.l : J9 → List Int
  | .altl _ l _ _ | .brl _ l _ _ => l
  | _ => []
def J9.inn : J9 → Prop
  | .altl x _ _ _ | .alts x _ => x = true
  | _ => True
section
variable {t1 t2 rest : List UInt8} {d n0 : Nat} (H : In9 t1 t2 rest d)
include H
theorem ra_at {s1 s2 : Pz} (hR : RlA t1 d n0 s1 s2) {c : UInt8} (h : t1[s1.p]? = some c) : t2[s2.p]? = some c := by rw [hR.1]; exact in_some H h
theorem ra_is {s1 s2 : Pz} (hR : RlA t1 d n0 s1 s2) {c : UInt8} (hc : c ≠ 124) : t2[s2.p]? = some c ↔ t1[s1.p]? = some c := by rw [hR.1]; exact in_is H hR.2.1 hc
theorem ra_more {x : Bool} {s1 s2 : Pz} (hR : RlA t1 d n0 s1 s2) : moreB t2 x 0 s2 = moreB t1 x 0 s1 := by
  have hl := in_len H
  have i41 := ra_is H hR (c := 41) (by decide)
  obtain ⟨e1, e2, _⟩ := hR
  rw [Bool.eq_iff_iff, moreB_iff, moreB_iff]
  constructor
  · rintro ⟨h1, h2, h3, h4⟩
    have hp : s1.p < t1.length := by
      rcases (by omega : s1.p < t1.length ∨ s1.p = t1.length) with h | h
      · exact h
      · exfalso
        rw [e1, h] at h2 h3
        rcases in_end H with h5 | h5
        · rw [List.getElem?_eq_none_iff] at h5; omega
        · exact h3 h5
    exact ⟨rfl, hp, fun e => h3 (by rw [e1]; exact in_some H e), fun e => h4 ⟨e.1, i41.2 e.2⟩⟩
  · rintro ⟨h1, h2, h3, h4⟩
    refine ⟨rfl, by omega, fun e => h3 ?_, fun e => h4 ⟨e.1, i41.1 e.2⟩⟩
    rw [e1, in_at H h2] at e; exact e
theorem ra_rep9 {k : Int} {s1 s2 : Pz} (hR : RlA t1 d n0 s1 s2) (hp : s1.p < t1.length) (hl : n0 + s1.L.length < 1000) (h : (rep9 t1 k s1).2.1 = 0) : RA t1 d n0 (rep9 t1 k s1) (rep9 t2 (k + (n0 : Int)) s2) := by
  have i43 := ra_is H hR (c := 43) (by decide)
  have i63 := ra_is H hR (c := 63) (by decide)
  have i123 := ra_is H hR (c := 123) (by decide)
  have e1 := hR.1
  have one : RlA t1 d n0 (adv s1 1) (adv s2 1) := ⟨by show s2.p + 1 = d + (s1.p + 1); omega, hp, hR.2.2⟩
  unfold rep9 at h ⊢
  by_cases h1 : t1[s1.p]? = some 43
  · rw [if_pos h1] at h ⊢
    rw [if_pos (i43.2 h1)]
    exact ra_rep h one hl
  rw [if_neg h1] at h ⊢
  rw [if_neg (fun e => h1 (i43.1 e))]
  by_cases h1 : t1[s1.p]? = some 63
  · rw [if_pos h1] at h ⊢
    rw [if_pos (i63.2 h1)]
    exact ra_rep h one hl
  rw [if_neg h1] at h ⊢
  rw [if_neg (fun e => h1 (i63.1 e))]
  by_cases h1 : t1[s1.p]? = some 123
  · rw [if_pos h1] at h ⊢
    rw [if_pos (i123.2 h1)]
    -- what stands behind an interval
    have fin : ∀ (lo hi : Int) (a : Nat), a ≤ t1.length → (intvE t1 k lo hi s1 a).2.1 = 0 → RA t1 d n0 (intvE t1 k lo hi s1 a) (intvE t2 (k + (n0 : Int)) lo hi s2 (d + a)) := fun lo hi a ha h => by
      unfold intvE at h ⊢
      split at h
      · rename_i h2
        rw [if_pos h2, if_pos ⟨in_some H h2.1, h2.2⟩]
        have hal := (List.getElem?_eq_some_iff.1 h2.1).1
        exact ra_rep h ⟨by show d + a + 1 = d + (a + 1); omega, hal, hR.2.2⟩ hl
      · cases h
    unfold intv9 at h ⊢
    obtain ⟨n1, n2, n3⟩ := in_num H (p := s1.p + 1) hp
    rw [show d + (s1.p + 1) = s2.p + 1 by omega] at n1 n2 n3
    rw [n1, n2]
    by_cases h2 : (numR t1 (s1.p + 1)).2.2 ≠ 0
    · rw [if_pos h2] at h; cases h
    rw [if_neg h2] at h ⊢
    rw [if_neg h2]
    obtain ⟨z, hz, hz1, hz2⟩ := num_next (Decidable.not_not.1 h2) hp
    rw [n3 (Decidable.not_not.1 h2), hz, show ((d : Int) + (z : Int)).toNat = d + z by omega]
    rw [hz, Int.toNat_natCast] at h
    rw [Int.toNat_natCast]
    have i44 := in_is H hz2 (c := 44) (by decide)
    by_cases h3 : t1[z]? = some 44
    · rw [if_pos h3] at h ⊢
      rw [if_pos (i44.2 h3)]
      have hzl := (List.getElem?_eq_some_iff.1 h3).1
      obtain ⟨m1, m2, m3⟩ := in_num H (p := z + 1) hzl
      rw [show d + (z + 1) = d + z + 1 by omega] at m1 m2 m3
      rw [m1, m2]
      by_cases h4 : (numR t1 (z + 1)).2.2 = 0
      · rw [if_pos h4] at h ⊢
        rw [if_pos h4]
        obtain ⟨w, hw, hw1, hw2⟩ := num_next h4 hzl
        rw [m3 h4, hw, show ((d : Int) + (w : Int)).toNat = d + w by omega]
        rw [hw, Int.toNat_natCast] at h
        rw [Int.toNat_natCast]
        exact fin _ _ w hw2 h
      · rw [if_neg h4] at h ⊢
        rw [if_neg h4]
        by_cases h5 : (numR t1 (z + 1)).2.2 = 9
        · rw [if_pos h5] at h ⊢
          rw [if_pos h5]
          exact fin _ _ (z + 1) hzl h
        · rw [if_neg h5] at h; cases h
    · rw [if_neg h3] at h ⊢
      rw [if_neg (fun e => h3 (i44.1 e))]
      exact fin _ _ z hz2 h
  · rw [if_neg h1] at h ⊢
    rw [if_neg (fun e => h1 (i123.1 e))]
    exact ra_rep h one hl
theorem ra_isRep {s1 s2 : Pz} (hR : RlA t1 d n0 s1 s2) : isRep t2 s2.p = isRep t1 s1.p := by
  have i1 := ra_is H hR (c := 42) (by decide)
  have i2 := ra_is H hR (c := 43) (by decide)
  have i3 := ra_is H hR (c := 63) (by decide)
  have i4 := ra_is H hR (c := 123) (by decide)
  rw [Bool.eq_iff_iff, isRep_iff, isRep_iff, i1, i2, i3, i4]
theorem ra_reps : ∀ (m1 m2 : Nat) (k e : Int) (s1 s2 : Pz), e = 0 → RlA t1 d n0 s1 s2 → s1.g ≤ 9 → t1.length - s1.p < m1 → t1.length - s1.p < m2 → n0 + s1.L.length + 2 * (t1.length - s1.p) ≤ 1000 → (reps9 t1 m1 k e s1).2.1 = 0 → RA t1 d n0 (reps9 t1 m1 k e s1) (reps9 t2 m2 (k + (n0 : Int)) e s2) := by
  intro m1
  induction m1 with
  | zero => intro m2 k e s1 s2 _ _ _ h; omega
  | succ m1 ih =>
    intro m2 k e s1 s2 he hR hg h1 h2 hl h
    subst he
    obtain ⟨m2, rfl⟩ : ∃ m, m2 = m + 1 := ⟨m2 - 1, by omega⟩
    have hir := ra_isRep H hR
    unfold reps9 at h ⊢
    rw [hir]
    by_cases hr : (0 : Int) = 0 ∧ isRep t1 s1.p = true
    · rw [if_pos hr] at h ⊢
      rw [if_pos hr]
      have hp := isRep_lt hr.2
      by_cases he : (rep9 t1 k s1).2.1 = 0
      · obtain ⟨r1, r2, r3⟩ := ra_rep9 H (k := k) hR hp (by omega) he
        obtain ⟨⟨a1, a2, a3⟩, a4⟩ := rep9_at hp hg he
        rw [r1, r2]
        rw [he] at h ⊢
        exact ih m2 _ 0 _ _ rfl r3 a3 (by omega) (by omega) (by omega) h
      · rw [reps_no he] at h
        exact absurd h he
    · rw [if_neg hr] at h ⊢
      rw [if_neg hr]
      exact ⟨rfl, rfl, hR⟩
theorem ra_leaf {s1 s2 : Pz} {c : UInt8} (hc : t1[s1.p]? = some c) (hR : RlA t1 d n0 s1 s2) (hl : n0 + s1.L.length < 1000) (h : (leaf9 t1 s1 c).2.1 = 0) : RA t1 d n0 (leaf9 t1 s1 c) (leaf9 t2 s2 c) := by
  have hp := (List.getElem?_eq_some_iff.1 hc).1
  have e1 := hR.1
  have one : RlA t1 d n0 (adv s1 1) (adv s2 1) := ⟨by show s2.p + 1 = d + (s1.p + 1); omega, hp, hR.2.2⟩
  have leaf : ∀ {nd : ND} {s1 s2 : Pz}, partsL nd = [] → RlA t1 d n0 s1 s2 → n0 + s1.L.length < 1000 → (okE (putS nd s1)).2.1 = 0 → RA t1 d n0 (okE (putS nd s1)) (okE (putS nd s2)) := fun {nd s1 s2} hn hR hl h => ra_put h hR hl (fun h => node_one hn h) fun _ => rfl
  unfold leaf9 at h ⊢
  by_cases h1 : c = 92
  · rw [if_pos h1] at h ⊢
    rw [if_pos h1]
    unfold esc9 at h ⊢
    cases hd : t1[s1.p + 1]? with
    | none => rw [hd] at h; cases h
    | some x =>
      have hd2 : t2[s2.p + 1]? = some x := by rw [show s2.p + 1 = d + (s1.p + 1) by omega]; exact in_some H hd
      have hpl := (List.getElem?_eq_some_iff.1 hd).1
      rw [hd] at h
      rw [hd2]
      dsimp only at h ⊢
      have two : RlA t1 d n0 (adv s1 2) (adv s2 2) := ⟨by show s2.p + 2 = d + (s1.p + 2); omega, hpl, hR.2.2⟩
      by_cases h2 : 49 ≤ x.toNat ∧ x.toNat ≤ 57
      · rw [if_pos h2] at h ⊢
        rw [if_pos h2, hR.2.2.2.1 (x.toNat - 48) (by omega)]
        by_cases h3 : s1.cl.l[x.toNat - 48]? = some true
        · rw [if_pos h3] at h ⊢
          rw [if_pos h3]
          exact leaf rfl two hl h
        · rw [if_neg h3] at h; cases h
      · rw [if_neg h2] at h ⊢
        rw [if_neg h2]
        by_cases h3 : alnB x.toNat = true ∧ x.toNat ≠ 110
        · rw [if_pos h3] at h; cases h
        · rw [if_neg h3] at h ⊢
          rw [if_neg h3]
          exact leaf rfl two hl h
  rw [if_neg h1] at h ⊢
  rw [if_neg h1]
  by_cases h1 : c = 46
  · rw [if_pos h1] at h ⊢
    rw [if_pos h1]
    exact leaf rfl one hl h
  rw [if_neg h1] at h ⊢
  rw [if_neg h1]
  by_cases h1 : c = 91
  · rw [if_pos h1] at h ⊢
    rw [if_pos h1]
    by_cases h2 : (parseR t1 (s1.p + 1)).2.2 = 0
    · rw [if_pos h2] at h ⊢
      obtain ⟨z, hz, hz1, hz2⟩ := parse_next h2 hp
      have := in_parse H (p := s1.p + 1) hp h2
      rw [show d + (s1.p + 1) = s2.p + 1 by omega] at this
      rw [this, if_pos rfl, hz]
      rw [hz, Int.toNat_natCast] at h
      dsimp only
      rw [Int.toNat_natCast]
      exact leaf (s1 := { s1 with p := z }) (s2 := { s2 with p := ((d : Int) + (z : Int)).toNat }) rfl ⟨by show ((d : Int) + (z : Int)).toNat = d + z; omega, hz2, hR.2.2⟩ hl h
    · rw [if_neg h2] at h; exact absurd h h2
  · rw [if_neg h1] at h ⊢
    rw [if_neg h1]
    exact leaf rfl one hl h
theorem ra_go : ∀ (n : Nat) (j : J9) (s2 : Pz) (q1 : R9), go9 t1 n j = some q1 → q1.2.1 = 0 → J9At t1 j → j.inn → RlA t1 d n0 j.s s2 → n0 + j.s.L.length + 2 * (t1.length - j.s.p) + j.l.length ≤ 1000 → ∃ q2, go9 t2 n (j.mv n0 s2) = some q2 ∧ RA t1 d n0 q1 q2 := by
  intro n
  induction n with
  | zero => intro j s2 q1 h; cases h
  | succ n ih =>
    intro j s2 q h hw hj hi hR hl
    have mapc : ∀ (l : List Int) (k : Int), (l ++ [k]).map (· + (n0 : Int)) = l.map (· + (n0 : Int)) ++ [k + (n0 : Int)] := fun l k => by simp
    cases j with
    | alts x s =>
      obtain ⟨q1, h1, h2⟩ := bind_some h
      have he := go9_end (.inl h2) hw
      have hjb : J9At t1 (.branch x s) := hj
      have hl : n0 + s.L.length + 2 * (t1.length - s.p) + 0 ≤ 1000 := hl
      obtain ⟨⟨a1, a2, a3⟩, a4⟩ : At9 t1 s.p q1.2.2 ∧ q1.2.2.L.length + 1 + 2 * s.p ≤ s.L.length + 2 * q1.2.2.p := go9_at t1 n _ q1 h1 hjb he
      obtain ⟨q1', g1, r1, r2, r3⟩ := ih (.branch x s) s2 q1 h1 he hjb trivial hR hl
      obtain ⟨q2, g2, r⟩ := ih (.altl x [q1.1] q1.2.1 q1.2.2) q1'.2.2 q h2 hw ⟨by simp, fun _ => ⟨a2, a3⟩⟩ hi r3 (by show n0 + q1.2.2.L.length + 2 * (t1.length - q1.2.2.p) + 1 ≤ 1000; omega)
      refine ⟨q2, ?_, r⟩
      show (go9 t2 n (.branch x s2)).bind _ = _
      rw [show go9 t2 n (.branch x s2) = some q1' from g1]
      show go9 t2 n (.altl x [q1'.1] q1'.2.1 q1'.2.2) = _
      rw [r1, r2, ← he]; exact g2
    | altl x l e s =>
      have he := go9_end (.inl h) hw
      subst he
      obtain ⟨hj1, hj2⟩ := hj
      obtain ⟨j1, j2⟩ := hj2 rfl
      have hi : x = true := hi
      have hR : RlA t1 d n0 s s2 := hR
      have hl : n0 + s.L.length + 2 * (t1.length - s.p) + l.length ≤ 1000 := hl
      unfold go9 at h
      split at h
      · rename_i h0
        have hp := (List.getElem?_eq_some_iff.1 h0.2).1
        obtain ⟨q1, h1, h2⟩ := bind_some h
        have he := go9_end (.inl h2) hw
        have hjb : J9At t1 (.branch x (adv s 1)) := ⟨hp, j2⟩
        obtain ⟨⟨a1, a2, a3⟩, a4⟩ : At9 t1 (s.p + 1) q1.2.2 ∧ q1.2.2.L.length + 1 + 2 * (s.p + 1) ≤ s.L.length + 2 * q1.2.2.p := go9_at t1 n _ q1 h1 hjb he
        obtain ⟨q1', g1, r1, r2, r3⟩ := ih (.branch x (adv s 1)) (adv s2 1) q1 h1 he hjb trivial ⟨by have := hR.1; show s2.p + 1 = d + (s.p + 1); omega, hp, hR.2.2⟩ (by show n0 + s.L.length + 2 * (t1.length - (s.p + 1)) + 0 ≤ 1000; omega)
        obtain ⟨q2, g2, r⟩ := ih (.altl x (l ++ [q1.1]) q1.2.1 q1.2.2) q1'.2.2 q h2 hw ⟨by simp, fun _ => ⟨a2, a3⟩⟩ hi r3 (by show n0 + q1.2.2.L.length + 2 * (t1.length - q1.2.2.p) + (l ++ [q1.1]).length ≤ 1000; simp only [List.length_append, List.length_cons, List.length_nil]; omega)
        refine ⟨q2, ?_, r⟩
        show (if (0 : Int) = 0 ∧ t2[s2.p]? = some 124 then (go9 t2 n (.branch x (adv s2 1))).bind fun q => go9 t2 n (.altl x (l.map (· + (n0 : Int)) ++ [q.1]) q.2.1 q.2.2) else some (altE t2 x (l.map (· + (n0 : Int))) 0 s2)) = some q2
        rw [if_pos ⟨rfl, ra_at H hR h0.2⟩, show go9 t2 n (.branch x (adv s2 1)) = some q1' from g1]
        show go9 t2 n (.altl x (l.map (· + (n0 : Int)) ++ [q1'.1]) q1'.2.1 q1'.2.2) = _
        rw [r1, r2, ← he, ← mapc]; exact g2
      · rename_i h0
        injection h with h
        subst h
        unfold altE at hw ⊢
        rw [if_neg (show ¬ ((0 : Int) ≠ 0) from fun h => h rfl)] at hw ⊢
        by_cases h4 : x = true ∧ t1[s.p]? ≠ some 41
        · rw [if_pos h4] at hw; cases hw
        · rw [if_neg h4] at hw ⊢
          have h41 : t1[s.p]? = some 41 := Decidable.not_not.1 fun e => h4 ⟨hi, e⟩
          have h41' := ra_at H hR h41
          refine ⟨okE (altS (l.map (· + (n0 : Int))) s2), ?_, ra_alt hj1 hw hR (by omega)⟩
          show (if (0 : Int) = 0 ∧ t2[s2.p]? = some 124 then (go9 t2 n (.branch x (adv s2 1))).bind fun q => go9 t2 n (.altl x (l.map (· + (n0 : Int)) ++ [q.1]) q.2.1 q.2.2) else some (altE t2 x (l.map (· + (n0 : Int))) 0 s2)) = _
          rw [if_neg (fun e => by rw [h41'] at e; exact absurd e.2 (by decide))]
          unfold altE
          rw [if_neg (show ¬ ((0 : Int) ≠ 0) from fun h => h rfl), if_neg (fun e => e.2 h41')]
    | branch x s => exact ih (.brl x [] 0 s) s2 q h hw (fun _ => hj) trivial hR hl
    | brl x l e s =>
      have he := go9_end (.inr h) hw
      subst he
      obtain ⟨j1, j2⟩ := hj rfl
      have hR : RlA t1 d n0 s s2 := hR
      have hl : n0 + s.L.length + 2 * (t1.length - s.p) + l.length ≤ 1000 := hl
      have hm := ra_more H (x := x) hR
      unfold go9 at h
      split at h
      · rename_i h0
        obtain ⟨_, hp, _⟩ := moreB_iff.1 h0
        obtain ⟨q1, h1, h2⟩ := bind_some h
        have he := go9_end (.inr h2) hw
        have hjb : J9At t1 (.piece s) := ⟨hp, j2⟩
        obtain ⟨⟨a1, a2, a3⟩, a4⟩ : At9 t1 (s.p + 1) q1.2.2 ∧ q1.2.2.L.length + 1 + 2 * s.p ≤ s.L.length + 2 * q1.2.2.p := go9_at t1 n _ q1 h1 hjb he
        obtain ⟨q1', g1, r1, r2, r3⟩ := ih (.piece s) s2 q1 h1 he hjb trivial hR (by show n0 + s.L.length + 2 * (t1.length - s.p) + 0 ≤ 1000; omega)
        obtain ⟨q2, g2, r⟩ := ih (.brl x (l ++ [q1.1]) q1.2.1 q1.2.2) q1'.2.2 q h2 hw (fun _ => ⟨a2, a3⟩) trivial r3 (by show n0 + q1.2.2.L.length + 2 * (t1.length - q1.2.2.p) + (l ++ [q1.1]).length ≤ 1000; simp only [List.length_append, List.length_cons, List.length_nil]; omega)
        refine ⟨q2, ?_, r⟩
        show (if moreB t2 x 0 s2 = true then (go9 t2 n (.piece s2)).bind fun q => go9 t2 n (.brl x (l.map (· + (n0 : Int)) ++ [q.1]) q.2.1 q.2.2) else some (brE (l.map (· + (n0 : Int))) 0 s2)) = some q2
        rw [hm, if_pos h0, show go9 t2 n (.piece s2) = some q1' from g1]
        show go9 t2 n (.brl x (l.map (· + (n0 : Int)) ++ [q1'.1]) q1'.2.1 q1'.2.2) = _
        rw [r1, r2, ← he, ← mapc]; exact g2
      · rename_i h0
        injection h with h
        subst h
        unfold brE at hw ⊢
        rw [if_neg (show ¬ ((0 : Int) ≠ 0) from fun h => h rfl)] at hw ⊢
        by_cases h4 : l = []
        · rw [if_pos h4] at hw; cases hw
        · rw [if_neg h4] at hw ⊢
          refine ⟨okE (catS (l.map (· + (n0 : Int))) s2), ?_, ra_cat h4 hw hR (by omega)⟩
          show (if moreB t2 x 0 s2 = true then (go9 t2 n (.piece s2)).bind fun q => go9 t2 n (.brl x (l.map (· + (n0 : Int)) ++ [q.1]) q.2.1 q.2.2) else some (brE (l.map (· + (n0 : Int))) 0 s2)) = _
          rw [hm, if_neg h0]
          unfold brE
          rw [if_neg (show ¬ ((0 : Int) ≠ 0) from fun h => h rfl), if_neg (by simpa using h4)]
    | piece s =>
      obtain ⟨j1, j2⟩ := hj
      have j1 : s.p < t1.length := j1
      have hR : RlA t1 d n0 s s2 := hR
      have hl : n0 + s.L.length + 2 * (t1.length - s.p) + 0 ≤ 1000 := hl
      obtain ⟨c, hc⟩ : ∃ c, t1[s.p]? = some c := ⟨_, List.getElem?_eq_getElem j1⟩
      have hc2 := ra_at H hR hc
      have one : RlA t1 d n0 (adv s 1) (adv s2 1) := ⟨by have := hR.1; show s2.p + 1 = d + (s.p + 1); omega, j1, hR.2.2⟩
      unfold go9 at h
      rw [hc] at h
      dsimp only at h
      have g : ∀ q2, (if c = 94 then some (okE (putS (7, 0, 0, 0, 0, 0, setZ) (adv s2 1)))
          else if c = 36 then some (okE (putS (8, 0, 0, 0, 0, 0, setZ) (adv s2 1)))
          else (go9 t2 n (.atom s2)).map fun q => reps9 t2 (t2.length + 1) q.1 q.2.1 q.2.2) = some q2 → go9 t2 (n + 1) ((J9.piece s).mv n0 s2) = some q2 := fun q2 hq => by
        show go9 t2 (n + 1) (.piece s2) = _
        unfold go9
        rw [hc2]; exact hq
      by_cases h94 : c = 94
      · rw [if_pos h94] at h
        injection h with h
        subst h
        exact ⟨_, g _ (by rw [if_pos h94]), ra_put hw one (by show n0 + s.L.length < 1000; omega) (fun h => node_one rfl h) fun _ => rfl⟩
      rw [if_neg h94] at h
      by_cases h36 : c = 36
      · rw [if_pos h36] at h
        injection h with h
        subst h
        exact ⟨_, g _ (by rw [if_neg h94, if_pos h36]), ra_put hw one (by show n0 + s.L.length < 1000; omega) (fun h => node_one rfl h) fun _ => rfl⟩
      rw [if_neg h36] at h
      obtain ⟨q1, h1, rfl⟩ := map_some h
      have hja : J9At t1 (.atom s) := ⟨j1, j2⟩
      have he : q1.2.1 = 0 := Decidable.not_not.1 fun he => by rw [reps_no he] at hw; exact he hw
      obtain ⟨⟨a1, a2, a3⟩, a4⟩ : At9 t1 (s.p + 1) q1.2.2 ∧ q1.2.2.L.length + 1 + 2 * s.p ≤ s.L.length + 2 * q1.2.2.p := go9_at t1 n _ q1 h1 hja he
      obtain ⟨q1', g1, r1, r2, r3⟩ := ih (.atom s) s2 q1 h1 he hja trivial hR hl
      have hlen := in_len H
      refine ⟨reps9 t2 (t2.length + 1) q1'.1 q1'.2.1 q1'.2.2, g _ ?_, ?_⟩
      · rw [if_neg h94, if_neg h36, show go9 t2 n (.atom s2) = some q1' from g1]; rfl
      · rw [r1, r2, ← he]
        exact ra_reps H (t1.length + 1) (t2.length + 1) q1.1 q1.2.1 q1.2.2 q1'.2.2 he r3 a3 (by omega) (by omega) (by omega) hw
    | atom s =>
      obtain ⟨j1, j2⟩ := hj
      have j1 : s.p < t1.length := j1
      have hR : RlA t1 d n0 s s2 := hR
      have hl : n0 + s.L.length + 2 * (t1.length - s.p) + 0 ≤ 1000 := hl
      obtain ⟨c, hc⟩ : ∃ c, t1[s.p]? = some c := ⟨_, List.getElem?_eq_getElem j1⟩
      have hc2 := ra_at H hR hc
      unfold go9 at h
      rw [hc] at h
      dsimp only at h
      by_cases hr : repC c
      · rw [if_pos hr] at h; injection h with h; subst h; cases hw
      rw [if_neg hr] at h
      by_cases h41 : c = 41
      · rw [if_pos h41] at h; injection h with h; subst h; cases hw
      rw [if_neg h41] at h
      have g : ∀ q2, (if c = 40 then go9 t2 n (.group s2) else some (leaf9 t2 s2 c)) = some q2 → go9 t2 (n + 1) ((J9.atom s).mv n0 s2) = some q2 := fun q2 hq => by
        show go9 t2 (n + 1) (.atom s2) = _
        unfold go9
        rw [hc2]
        dsimp only
        rw [if_neg hr, if_neg h41]; exact hq
      by_cases h40 : c = 40
      · rw [if_pos h40] at h
        obtain ⟨q2, g1, r⟩ := ih (.group s) s2 q h hw ⟨j1, j2⟩ trivial hR hl
        exact ⟨q2, g _ (by rw [if_pos h40]; exact g1), r⟩
      · rw [if_neg h40] at h
        injection h with h
        subst h
        exact ⟨_, g _ (by rw [if_neg h40]), ra_leaf H hc hR (by omega) hw⟩
    | group s =>
      obtain ⟨j1, j2⟩ := hj
      have j1 : s.p < t1.length := j1
      have j2 : s.g ≤ 9 := j2
      have hR : RlA t1 d n0 s s2 := hR
      have hl : n0 + s.L.length + 2 * (t1.length - s.p) + 0 ≤ 1000 := hl
      unfold go9 at h
      split at h
      · injection h with h; subst h; cases hw
      · rename_i h9
        obtain ⟨q1, h1, rfl⟩ := map_some h
        have he : q1.2.1 = 0 := Decidable.not_not.1 fun he => by unfold grpE at hw; rw [if_pos he] at hw; exact he hw
        have hj1 : J9At t1 (.alts true { s with g := s.g + 1, p := s.p + 1 }) := ⟨j1, by show s.g + 1 ≤ 9; omega⟩
        obtain ⟨⟨a1, a2, a3⟩, a4, a5⟩ : At9 t1 (s.p + 1) q1.2.2 ∧ q1.2.2.L.length + 1 + 2 * (s.p + 1) ≤ s.L.length + 2 * q1.2.2.p ∧ (true = true → t1[q1.2.2.p]? = some 41) := go9_at t1 n _ q1 h1 hj1 he
        have a5 := (List.getElem?_eq_some_iff.1 (a5 rfl)).1
        obtain ⟨e1, e2, e3, e4, e5, e6⟩ := hR
        obtain ⟨q1', g1, r1, r2, r3⟩ := ih (.alts true { s with g := s.g + 1, p := s.p + 1 }) { s2 with g := s2.g + 1, p := s2.p + 1 } q1 h1 he hj1 rfl ⟨by show s2.p + 1 = d + (s.p + 1); omega, j1, by show s2.g + 1 = s.g + 1; omega, e4, e5, e6⟩ (by show n0 + s.L.length + 2 * (t1.length - (s.p + 1)) + 0 ≤ 1000; omega)
        refine ⟨grpE s2.g q1', ?_, ?_⟩
        · show go9 t2 (n + 1) (.group s2) = _
          unfold go9
          rw [if_neg (by omega), show go9 t2 n (.alts true { s2 with g := s2.g + 1, p := s2.p + 1 }) = some q1' from g1]
          rfl
        · unfold grpE at hw ⊢
          rw [if_neg (fun h => h he)] at hw ⊢
          rw [if_neg (fun h => h r1), r2, e3]
          obtain ⟨f1, f2, f3, f4, f5, f6⟩ := r3
          refine ra_put hw ⟨by show q1'.2.2.p + 1 = d + (q1.2.2.p + 1); omega, a5, f3, fun i hi => ?_, f5, f6⟩ (by show n0 + q1.2.2.L.length < 1000; omega) (fun hn => ?_) fun h0 => by subst h0; simp
          · show (q1'.2.2.cl.l.set (s.g + 1) true)[i]? = (q1.2.2.cl.l.set (s.g + 1) true)[i]?
            rw [List.getElem?_set, List.getElem?_set, q1'.2.2.cl.len, q1.2.2.cl.len, f4 i hi]
          · obtain ⟨p1, p2⟩ := node_parts hn
            have h1 := p1 q1.1 (by simp [partsL])
            exact node_grp ⟨by omega, by have := h1.2; show _ < ((n0 + q1.2.2.L.length : Nat) : Int); have h2 : q1.1 < (q1.2.2.L.length : Int) := h1.2; omega⟩ (p2 rfl)
end
end Go.Proofs.Ytfhakeapepafbaa
