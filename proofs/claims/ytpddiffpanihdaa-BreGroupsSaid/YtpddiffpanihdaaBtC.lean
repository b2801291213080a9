/- Basic regular expressions: a text within another is read alike, piece by piece. -/
import Derived.Test.YtpddiffpanihdaaBtB
namespace Go.Proofs.Ytpddiffpanihdaa
theorem node_set8 (S : SetT) (a g : Int) : isNodeB (setN S) a g = true := by simp [isNodeB, plainL, partsL, setN]
section
variable {t1 t2 : List UInt8} {y : UInt8} {d g0 : Nat} (H : In8 t1 t2 y d)
include H
theorem rg_reps {m : Prop} : ∀ (n1 n2 : Nat) (k : Int) (s1 s2 : Pz), 0 ≤ k → RG t1 d g0 m s1 s2 → s1.g ≤ 9 → t1.length - s1.p < n1 → t1.length - s1.p < n2 → (repsF t1 n1 k [] s1).2.1 = [] → ∃ s2', repsF t2 n2 k [] s2 = ((repsF t1 n1 k [] s1).1, [], s2') ∧ RG t1 d g0 m (repsF t1 n1 k [] s1).2.2 s2' := by
  intro n1
  induction n1 with
  | zero => intro n2 k s1 s2 _ _ _ h; omega
  | succ n1 ih =>
    intro n2 k s1 s2 hk hR hg h1 h2 hw
    obtain ⟨n2, rfl⟩ : ∃ j, n2 = j + 1 := ⟨n2 - 1, by omega⟩
    have hmore : moreR t2 k [] s2 = moreR t1 k [] s1 := by
      unfold moreR
      rw [hR.1, b8_has1 H hR.2.1 (by decide), b8_123 H hR.2.1]
    unfold repsF at hw ⊢
    rw [hmore]
    by_cases hm : moreR t1 k [] s1 = true
    · rw [if_pos hm] at hw ⊢
      rw [if_pos hm]
      obtain ⟨_, _, hh⟩ := more_has hm
      have hend : ∀ {k' : Int} {w' : List (Int × Int)} {s' : Pz}, moreR t1 k' w' s' = false → repsF t1 n1 k' w' s' = endRp k' w' s' := fun {k' w' s'} h => by
        cases n1 with
        | zero => rfl
        | succ n => unfold repsF; rw [h, if_neg (by decide)]
      have hwe : (repeatF t1 k s1).2.1 = [] := by
        cases he : (repeatF t1 k s1).2.1 with
        | nil => rfl
        | cons e t =>
          rw [he] at hw
          rw [hend (by rfl)] at hw
          cases hw
      rw [hwe] at hw ⊢
      have hk' : 0 ≤ (repeatF t1 k s1).1 := by
        rcases Int.lt_or_le (repeatF t1 k s1).1 0 with h | h
        · rw [hend (by unfold moreR; rw [decide_eq_false (by omega)]; rfl)] at hw
          unfold endRp at hw
          rw [decide_eq_true h] at hw
          cases hw
        · exact h
      obtain ⟨s2', e2, r2⟩ := rg_repeat H hR hh hwe hk'
      rw [e2]
      obtain ⟨a1, a2, a3⟩ := repeat_at hR.2.1 hg hh hwe
      exact ih n2 _ _ _ hk' r2 a3 (by omega) (by omega) hw
    · rw [if_neg hm] at hw ⊢
      rw [if_neg hm]
      refine ⟨s2, ?_, hR⟩
      unfold endRp
      rw [decide_eq_false (by omega)]; rfl
theorem b8_isEnd {p : Nat} (hp : p < t1.length) (hc : t1[p]? = some 36) : (y = 41 → isEndB t2 (d + p) = isEndB t1 p) ∧ (isEndB t1 p = false → isEndB t2 (d + p) = false) := by
  have hl := b8_len H
  have three : ∀ {b : List UInt8} {q : Nat}, hasS b q [36, 92, 41] = true ↔ b[q]? = some 36 ∧ b[q + 1]? = some 92 ∧ b[q + 2]? = some 41 := fun {b q} => by
    rw [has_iff]
    constructor
    · intro h
      exact ⟨h 0 (by simp), h 1 (by simp), h 2 (by simp)⟩
    · rintro ⟨h1, h2, h3⟩ i hi
      rcases (by simp at hi; omega : i = 0 ∨ i = 1 ∨ i = 2) with rfl | rfl | rfl
      · exact h1
      · exact h2
      · exact h3
  have e2 : isEndB t2 (d + p) = hasS t2 (d + p) [36, 92, 41] := by
    unfold isEndB
    rw [decide_eq_false (by omega)]; rfl
  rw [e2]
  rcases (by omega : p + 1 = t1.length ∨ p + 2 ≤ t1.length) with h | h
  · have e1 : isEndB t1 p = true := by unfold isEndB; rw [decide_eq_true h]; rfl
    rw [e1]
    refine ⟨fun hy => ?_, fun e => by cases e⟩
    obtain ⟨q1, q2⟩ := b8_end H
    exact three.2 ⟨b8_some H hc, by rw [show d + p + 1 = d + t1.length by omega]; exact q1, by rw [show d + p + 2 = d + t1.length + 1 by omega, q2, hy]⟩
  · have e1 : isEndB t1 p = hasS t1 p [36, 92, 41] := by
      unfold isEndB
      rw [decide_eq_false (by omega)]; rfl
    have : hasS t2 (d + p) [36, 92, 41] = hasS t1 p [36, 92, 41] := by
      rw [Bool.eq_iff_iff, three, three, b8_at H hp, show d + p + 1 = d + (p + 1) by omega, b8_at H (p := p + 1) (by omega), show d + p + 2 = d + (p + 2) by omega, b8_is H h (by decide)]
    rw [e1, this]
    exact ⟨fun _ => rfl, id⟩
omit H in
theorem group_up {b : List UInt8} {n : Nat} {s : Pz} {q : Res} (h : go b n (.group s) = some q) (hw : q.2.1 = []) : s.g + 1 ≤ q.2.2.g := by
  cases n with
  | zero => cases h
  | succ n =>
    unfold go at h
    split at h
    · injection h with h; subst h; cases hw
    · cases hg : go b n (.branch true { s with g := s.g + 1, p := s.p + 2 }) with
      | none => rw [hg] at h; cases h
      | some q1 =>
        have h1 : s.g + 1 ≤ q1.2.2.g := (go_gu b n _ _ hg).1
        obtain ⟨k, w, s'⟩ := q1
        rw [hg] at h
        dsimp only at h
        split at h
        · injection h with h
          subst h
          have e2 := (put_st (5, k, 0, 0, 0, ((s.g + 1 : Nat) : Int), setZ) { s' with p := s'.p + 2, cl := Arr.set s'.cl (s.g + 1) true }).2.1
          have e2 : (okR (putS (5, k, 0, 0, 0, ((s.g + 1 : Nat) : Int), setZ) { s' with p := s'.p + 2, cl := Arr.set s'.cl (s.g + 1) true })).2.2.g = s'.g := e2
          rw [e2]; exact h1
        · rename_i h2
          injection h with h
          subst h
          have hw : w = [] := hw
          exact absurd (List.isEmpty_iff.2 hw) h2
/-- An atom that begins no group. -/
theorem rg_atom (n : Nat) (s1 s2 : Pz) (q : Res) (h : go t1 n (.atom s1) = some q) (hw : q.2.1 = []) (hk : 0 ≤ q.1) (hg : q.2.2.g = s1.g) (hR : RG t1 d g0 (y = 41) s1 s2) : ∃ s2', go t2 n (.atom s2) = some (q.1, [], s2') ∧ RG t1 d g0 (y = 41) q.2.2 s2' := by
  cases n with
  | zero => cases h
  | succ n =>
    have e1 := hR.1
    cases hc : t1[s1.p]? with
    | none => unfold go at h; rw [hc] at h; cases h
    | some c =>
      have hp := (List.getElem?_eq_some_iff.1 hc).1
      have hc2 : t2[s2.p]? = some c := by rw [e1]; exact b8_some H hc
      have one : RG t1 d g0 (y = 41) (adv s1 1) (adv s2 1) := ⟨by show s2.p + 1 = d + (s1.p + 1); omega, hp, hR.2.2⟩
      unfold go at h ⊢
      rw [hc] at h
      rw [hc2]
      dsimp only at h ⊢
      by_cases h92 : c.toNat = 92
      · rw [if_pos h92] at h ⊢
        cases n with
        | zero => cases h
        | succ n =>
          unfold go at h ⊢
          cases hx : t1[s1.p + 1]? with
          | none => rw [hx] at h; injection h with h; subst h; cases hw
          | some x =>
            have hpl := (List.getElem?_eq_some_iff.1 hx).1
            have hx2 : t2[s2.p + 1]? = some x := by rw [show s2.p + 1 = d + (s1.p + 1) by omega]; exact b8_some H hx
            have two : RG t1 d g0 (y = 41) (adv s1 2) (adv s2 2) := ⟨by show s2.p + 2 = d + (s1.p + 2); omega, hpl, hR.2.2⟩
            have two' : RG t1 d g0 (y = 41) (adv (adv s1 1) 1) (adv (adv s2 1) 1) := ⟨by show s2.p + 1 + 1 = d + (s1.p + 1 + 1); omega, hpl, hR.2.2⟩
            rw [hx] at h
            rw [hx2]
            dsimp only at h ⊢
            by_cases h40 : x.toNat = 40
            · rw [if_pos h40] at h
              have := group_up h hw
              omega
            rw [if_neg h40] at h ⊢
            by_cases h49 : 49 ≤ x.toNat ∧ x.toNat ≤ 57
            · rw [if_pos h49] at h ⊢
              rw [hR.2.2.1]
              by_cases hcl : s1.cl.l[x.toNat - 48]? = some true
              · rw [if_pos hcl] at h ⊢
                injection h with h
                subst h
                obtain ⟨s2', e, r⟩ := rg_put hk two id fun _ => rfl
                exact ⟨s2', congrArg some e, r⟩
              · rw [if_neg hcl] at h; injection h with h; subst h; cases hw
            rw [if_neg h49] at h ⊢
            by_cases h110 : x.toNat = 110
            · rw [if_pos h110] at h ⊢
              injection h with h
              subst h
              obtain ⟨s2', e, r⟩ := rg_put hk two' id fun _ => rfl
              exact ⟨s2', congrArg some e, r⟩
            rw [if_neg h110] at h ⊢
            by_cases hal : alnB x.toNat = true
            · rw [if_pos hal] at h; injection h with h; subst h; cases hw
            · rw [if_neg hal] at h ⊢
              injection h with h
              subst h
              obtain ⟨s2', e, r⟩ := rg_put hk two' id fun _ => rfl
              exact ⟨s2', congrArg some e, r⟩
      rw [if_neg h92] at h ⊢
      by_cases h46 : c.toNat = 46
      · rw [if_pos h46] at h ⊢
        injection h with h
        subst h
        obtain ⟨s2', e, r⟩ := rg_put hk one id fun _ => rfl
        exact ⟨s2', congrArg some e, r⟩
      rw [if_neg h46] at h ⊢
      by_cases h91 : c.toNat = 91
      · rw [if_pos h91] at h ⊢
        by_cases h2 : (parseR t1 (s1.p + 1)).2.2 = 0
        · rw [if_pos h2] at h
          injection h with h
          subst h
          obtain ⟨z, hz, hz1, hz2⟩ := parse_next h2 hp
          have hpp := b8_parse H (p := s1.p + 1) hp h2
          rw [show d + (s1.p + 1) = s2.p + 1 by omega] at hpp
          rw [hpp, if_pos rfl]
          have := rg_put (nd := setN (parseR t1 (s1.p + 1)).1) (nd' := setN (parseR t1 (s1.p + 1)).1) (s1 := { s1 with p := (parseR t1 (s1.p + 1)).2.1.toNat }) (s2 := { s2 with p := ((d : Int) + (parseR t1 (s1.p + 1)).2.1).toNat }) hk ⟨by show ((d : Int) + (parseR t1 (s1.p + 1)).2.1).toNat = d + (parseR t1 (s1.p + 1)).2.1.toNat; omega, by show (parseR t1 (s1.p + 1)).2.1.toNat ≤ t1.length; omega, hR.2.2⟩ id fun _ => rfl
          obtain ⟨s2', e, r⟩ := this
          exact ⟨s2', congrArg some e, r⟩
        · rw [if_neg h2] at h; injection h with h; subst h; cases hw
      rw [if_neg h91] at h ⊢
      by_cases h36 : c.toNat = 36
      · have hc36 : c = 36 := UInt8.toNat_inj.1 h36
        subst hc36
        obtain ⟨q1, q2⟩ := b8_isEnd H hp hc
        rw [← e1] at q1 q2
        cases hE : isEndB t1 s1.p with
        | false =>
          rw [if_neg (by rw [hE]; simp)] at h
          rw [if_neg (by rw [q2 hE]; simp)]
          injection h with h
          subst h
          obtain ⟨s2', e, r⟩ := rg_put hk one id fun _ => rfl
          exact ⟨s2', congrArg some e, r⟩
        | true =>
          rw [if_pos ⟨rfl, hE⟩] at h
          injection h with h
          subst h
          cases hE2 : isEndB t2 s2.p with
          | true =>
            rw [if_pos ⟨rfl, rfl⟩]
            obtain ⟨s2', e, r⟩ := rg_put hk one id fun _ => rfl
            exact ⟨s2', congrArg some e, r⟩
          | false =>
            rw [if_neg (by simp)]
            obtain ⟨s2', e, r⟩ := rg_put (nd' := setN (ofS [36])) hk one (fun _ => node_set8 _ _ _) fun hy => by
              rw [q1 hy, hE] at hE2; cases hE2
            exact ⟨s2', congrArg some e, r⟩
      · rw [if_neg (fun e => h36 e.1)] at h ⊢
        injection h with h
        subst h
        obtain ⟨s2', e, r⟩ := rg_put hk one id fun _ => rfl
        exact ⟨s2', congrArg some e, r⟩
end
end Go.Proofs.Ytpddiffpanihdaa
