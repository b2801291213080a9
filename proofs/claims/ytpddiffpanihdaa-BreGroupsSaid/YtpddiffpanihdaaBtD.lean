/- Basic regular expressions: a text within another: a piece, the pieces of a branch. -/
import Derived.Test.YtpddiffpanihdaaBtC
namespace Go.Proofs.Ytpddiffpanihdaa
theorem reps_err {b : List UInt8} : ∀ (n : Nat) (k : Int) (w : List (Int × Int)) (s : Pz), w ≠ [] → repsF b n k w s = (k, w, s) := by
  intro n k w s hw
  have hm : moreR b k w s = false := by
    unfold moreR
    cases w with
    | nil => exact absurd rfl hw
    | cons e t => rfl
  have he : endRp k w s = (k, w, s) := by
    unfold endRp
    cases w with
    | nil => exact absurd rfl hw
    | cons e t => rfl
  cases n with
  | zero => exact he
  | succ n => unfold repsF; rw [hm, if_neg (by decide)]; exact he
theorem reps_succ {b : List UInt8} {q : Res} (h : (repsR b q).2.1 = []) : q.2.1 = [] ∧ 0 ≤ q.1 := by
  obtain ⟨k, w, s⟩ := q
  have hw : w = [] := by
    refine Decidable.not_not.1 fun hw => ?_
    have : repsR b (k, w, s) = (k, w, s) := reps_err _ k w s hw
    rw [this] at h
    exact hw h
  subst hw
  refine ⟨rfl, ?_⟩
  rcases Int.lt_or_le k 0 with hk | hk
  · have hm : moreR b k [] s = false := by unfold moreR; rw [decide_eq_false (by omega)]; rfl
    have : repsR b (k, [], s) = endRp k [] s := by
      show repsF b (b.length + 1) k [] s = _
      unfold repsF
      rw [hm, if_neg (by decide)]
    rw [this] at h
    unfold endRp at h
    rw [decide_eq_true hk] at h
    cases h
  · exact hk
section
variable {t1 t2 : List UInt8} {y : UInt8} {d g0 : Nat} (H : In8 t1 t2 y d)
include H
theorem rg_piece (n : Nat) (f : Bool) (s1 s2 : Pz) (q : Res) (h : go t1 n (.piece f s1) = some q) (hw : q.2.1 = []) (hg : q.2.2.g = s1.g) (hp : s1.p < t1.length) (hg9 : s1.g ≤ 9) (hR : RG t1 d g0 (y = 41) s1 s2) : ∃ s2', go t2 n (.piece f s2) = some (q.1, [], s2') ∧ RG t1 d g0 (y = 41) q.2.2 s2' := by
  cases n with
  | zero => cases h
  | succ n =>
    have hlen := b8_len H
    have e1 := hR.1
    unfold go at h ⊢
    rw [e1, b8_123 H hR.2.1, b8_has1 H hR.2.1 (by decide)]
    by_cases h1 : f = true ∧ hasS t1 s1.p [92, 123] = true
    · rw [if_pos h1] at h; injection h with h; subst h; cases hw
    rw [if_neg h1] at h ⊢
    by_cases h2 : f = true ∧ hasS t1 s1.p [42] = true
    · rw [if_pos h2] at h ⊢
      injection h with h
      subst h
      obtain ⟨_, k0⟩ := reps_succ hw
      obtain ⟨s2', e, r⟩ := rg_put (s1 := adv s1 1) (s2 := adv s2 1) k0 ⟨by show s2.p + 1 = d + (s1.p + 1); omega, hp, hR.2.2⟩ id fun _ => rfl
      have a1 := (put_st (setN (ofS [42])) (adv s1 1)).1
      have a2 := (put_st (setN (ofS [42])) (adv s1 1)).2.1
      have a1 : (putS (setN (ofS [42])) (adv s1 1)).2.p = s1.p + 1 := a1
      have a2 : (putS (setN (ofS [42])) (adv s1 1)).2.g = s1.g := a2
      obtain ⟨s3, e3, r3⟩ := rg_reps H (t1.length + 1) (t2.length + 1) _ _ s2' k0 r (by rw [a2]; exact hg9) (by rw [a1]; omega) (by rw [a1]; omega) hw
      refine ⟨s3, ?_, r3⟩
      show some (repsR t2 (okR (putS (setN (ofS [42])) (adv s2 1)))) = _
      rw [e]
      exact congrArg some e3
    · rw [if_neg h2] at h ⊢
      cases hq : go t1 n (.atom s1) with
      | none => rw [hq] at h; cases h
      | some q1 =>
        rw [hq] at h
        injection h with h
        subst h
        obtain ⟨w0, k0⟩ := reps_succ hw
        have hsg : (repsR t1 q1).2.2.g = q1.2.2.g := (sg_reps t1 (t1.length + 1) q1.1 q1.2.1 q1.2.2).1
        have hat := go_at t1 n _ q1 hq ⟨Nat.le_of_lt hp, hg9, trivial⟩ w0
        obtain ⟨⟨a1, a2, a3⟩, a4⟩ := hat
        have a4 : s1.p + 1 ≤ q1.2.2.p := a4
        obtain ⟨s2', e, r⟩ := rg_atom H n s1 s2 q1 hq w0 k0 (by omega) hR
        have hw' : (repsF t1 (t1.length + 1) q1.1 [] q1.2.2).2.1 = [] := by
          have : (repsF t1 (t1.length + 1) q1.1 q1.2.1 q1.2.2).2.1 = [] := hw
          rw [w0] at this; exact this
        obtain ⟨s3, e3, r3⟩ := rg_reps H (t1.length + 1) (t2.length + 1) q1.1 q1.2.2 s2' k0 r a3 (by omega) (by omega) hw'
        refine ⟨s3, ?_, ?_⟩
        · rw [e]
          show some (repsF t2 (t2.length + 1) q1.1 [] s2') = some ((repsF t1 (t1.length + 1) q1.1 q1.2.1 q1.2.2).1, [], s3)
          rw [e3, w0]
        · show RG t1 d g0 (y = 41) (repsF t1 (t1.length + 1) q1.1 q1.2.1 q1.2.2).2.2 s3
          rw [w0]; exact r3
theorem b8_has41 {p : Nat} (hp : p < t1.length) : hasS t2 (d + p) [92, 41] = hasS t1 p [92, 41] := by
  have two : ∀ {b : List UInt8} {q : Nat}, hasS b q [92, 41] = true ↔ b[q]? = some 92 ∧ b[q + 1]? = some 41 := fun {b q} => by
    rw [has_iff]
    constructor
    · intro h
      exact ⟨h 0 (by simp), h 1 (by simp)⟩
    · rintro ⟨h1, h2⟩ i hi
      rcases (by simp at hi; omega : i = 0 ∨ i = 1) with rfl | rfl
      · exact h1
      · exact h2
  rw [Bool.eq_iff_iff, two, two, b8_at H hp, show d + p + 1 = d + (p + 1) by omega, b8_is H hp (by decide)]
/-- The pieces of a branch, up to the text's end. -/
theorem rg_loop : ∀ (n : Nat) (l : List Int) (f : Bool) (s1 s2 : Pz) (q : Res), go t1 n (.loop false l f s1) = some q → q.2.1 = [] → q.2.2.g = s1.g → s1.p ≤ t1.length → s1.g ≤ 9 → RG t1 d g0 (y = 41) s1 s2 →
    ∃ l2 f2 sB sB2, q = branchE t1 false l2 sB ∧ sB.p = t1.length ∧ sB.g = s1.g ∧ sB.cl = s1.cl ∧ RG t1 d g0 (y = 41) sB sB2 ∧ sB2.g = s2.g ∧ (f2 = true → f = true ∧ sB.p = s1.p) ∧ ∀ x N r, go t2 N (.loop x l2 f2 sB2) = some r → go t2 (N + n) (.loop x l f s2) = some r := by
  have hlen := b8_len H
  intro n
  induction n with
  | zero => intro l f s1 s2 q h; cases h
  | succ n ih =>
    intro l f s1 s2 q h hw hg hp hg9 hR
    have e1 := hR.1
    unfold go at h
    by_cases h1 : s1.p < t1.length ∧ hasS t1 s1.p [92, 41] = false
    · rw [if_pos h1] at h
      cases hq : go t1 n (.piece f s1) with
      | none => rw [hq] at h; cases h
      | some q1 =>
        obtain ⟨k, w, s'⟩ := q1
        rw [hq] at h
        dsimp only at h
        by_cases hwe : w.isEmpty = true
        · rw [if_pos hwe] at h
          have hw0 : w = [] := List.isEmpty_iff.1 hwe
          subst hw0
          have u1 := (go_gu t1 n _ _ hq)
          have u2 := (go_gu t1 n _ _ h)
          have u1a : s1.g ≤ s'.g := u1.1
          have u2a : s'.g ≤ q.2.2.g := u2.1
          have hgs : s'.g = s1.g := by omega
          have hcl : s'.cl = s1.cl := u1.2 hgs
          obtain ⟨⟨a1, a2, a3⟩, a4⟩ := go_at t1 n _ _ hq ⟨hp, hg9, trivial⟩ rfl
          have a2 : s'.p ≤ t1.length := a2
          have a4 : s1.p + 1 ≤ s'.p := a4
          obtain ⟨s2', e2, r2⟩ := rg_piece H n f s1 s2 _ hq rfl hgs h1.1 hg9 hR
          have u3 := (go_gu t2 n _ _ e2)
          obtain ⟨l2, f2, sB, sB2, c1, c2, c3, c3', c4, c5, c6, c7⟩ := ih (l ++ [k]) false s' s2' q h hw (by omega) a2 (by omega) r2
          refine ⟨l2, f2, sB, sB2, c1, c2, by omega, c3'.trans hcl, c4, ?_, (fun hf => by cases (c6 hf).1), fun x N r hr => ?_⟩
          · have g1 : s2'.g = s'.g + g0 := r2.2.2.2.1
            have g2 : s2.g = s1.g + g0 := hR.2.2.2.1
            rw [c5]; omega
          · have := c7 x N r hr
            show (if s2.p < t2.length ∧ hasS t2 s2.p [92, 41] = false then _ else _) = _
            rw [e1, if_pos ⟨by omega, by rw [b8_has41 H h1.1]; exact h1.2⟩]
            rw [go_mono (show n ≤ N.add n from Nat.le_add_left n N) e2]
            exact this
        · rw [if_neg hwe] at h
          injection h with h
          subst h
          have hw : w = [] := hw
          exact absurd (List.isEmpty_iff.2 hw) hwe
    · rw [if_neg h1] at h
      injection h with h
      subst h
      have hpe : s1.p = t1.length := by
        refine Decidable.not_not.1 fun hne => ?_
        unfold branchE at hw
        rw [if_pos (by rw [decide_eq_false (show ¬ ((s1.p : Int) = (t1.length : Int)) by omega)]; rfl)] at hw
        cases hw
      exact ⟨l, f, s1, s2, rfl, hpe, rfl, rfl, hR, rfl, fun hf => ⟨hf, rfl⟩, fun x N r hr => go_mono (by omega) hr⟩
end
end Go.Proofs.Ytpddiffpanihdaa
