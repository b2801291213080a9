/- Basic regular expressions: a text within groups, one within the other. -/
import Derived.Test.YtpddiffpanihdaaBtE
namespace Go.Proofs.Ytpddiffpanihdaa
theorem okR_inj {x : Int × Pz} {a : Int} {s : Pz} (h : okR x = (a, [], s)) : x = (a, s) := by
  obtain ⟨x1, x2⟩ := x
  injection h with h1 h2
  injection h2 with _ h3
  have h1 : x1 = a := h1
  have h3 : x2 = s := h3
  rw [h1, h3]
theorem rg_fold {t1 : List UInt8} {d g0 : Nat} {m : Prop} (kind : Int) : ∀ (l : List Int) (x : Int) (s1 s2 : Pz), RG t1 d g0 m s1 s2 → 0 ≤ (foldS kind l x s1).1 → ∃ s2', foldS kind l x s2 = ((foldS kind l x s1).1, s2') ∧ RG t1 d g0 m (foldS kind l x s1).2 s2'
  | [], x, s1, s2, hR, h => ⟨s2, rfl, hR⟩
  | y :: t, x, s1, s2, hR, h => by
    rw [fold_cons] at h
    rw [fold_cons kind y t x s1, fold_cons kind y t x s2]
    by_cases hx : x = -1
    · rw [if_pos hx] at h
      have h : 0 ≤ x := h
      omega
    rw [if_neg hx] at h
    rw [if_neg hx, if_neg hx]
    by_cases hp : 0 ≤ (putS (kind, x, y, 0, 0, 0, setZ) s1).1
    · obtain ⟨s2', e, r⟩ := rg_put hp hR id fun _ => rfl
      rw [okR_inj e]
      exact rg_fold kind t _ _ s2' r h
    · rw [put_neg hp, fold_m1] at h
      exact absurd h (by decide)
theorem rg_cat {t1 : List UInt8} {d g0 : Nat} {m : Prop} (l : List Int) (s1 s2 : Pz) (hR : RG t1 d g0 m s1 s2) (h : 0 ≤ (catS l s1).1) : ∃ s2', catS l s2 = ((catS l s1).1, s2') ∧ RG t1 d g0 m (catS l s1).2 s2' := by
  cases l with
  | nil =>
    obtain ⟨s2', e, r⟩ := rg_put (nd := (0, 0, 0, 0, 0, 0, setZ)) h hR id fun _ => rfl
    exact ⟨s2', okR_inj e, r⟩
  | cons x t =>
    rw [cat_cons] at h
    rw [cat_cons x t s1, cat_cons x t s2, hR.2.2.2.2.1]
    by_cases hx : x < 0 ∨ (s1.L.length : Int) ≤ x
    · rw [if_pos hx] at h
      exact absurd h (by show ¬ (0 : Int) ≤ -1; decide)
    · rw [if_neg hx] at h
      rw [if_neg hx, if_neg hx]
      exact rg_fold 2 t x s1 s2 hR h
theorem branchE_yes {b : List UInt8} {inner : Bool} {l : List Int} {s : Pz} (h : (branchE b inner l s).2.1 = []) : 0 ≤ (catS l s).1 ∧ branchE b inner l s = okR (catS l s) := by
  unfold branchE at h ⊢
  split at h
  · cases h
  · rename_i h1
    rw [if_neg h1]
    split at h
    · cases h
    · rename_i h2
      rw [if_neg h2]
      exact ⟨by omega, rfl⟩
theorem branchE_mk {b : List UInt8} {inner : Bool} {l : List Int} {s : Pz} (h1 : (inner == decide ((s.p : Int) = (b.length : Int))) = false) (h2 : 0 ≤ (catS l s).1) : branchE b inner l s = okR (catS l s) := by
  unfold branchE
  rw [h1, if_neg (by decide), if_neg (by omega)]
section
variable {t1 t2 : List UInt8} {y : UInt8} {d g0 : Nat} (H : In8 t1 t2 y d)
include H
/-- A branch of a text without groups, up to the text's end. -/
theorem rg_branch {n : Nat} {q : Res} (h : go t1 n (.branch false pz0) = some q) (hw : q.2.1 = []) (hg : q.2.2.g = 0) {s2 : Pz} (hR : RG t1 d g0 (y = 41) pz0 s2) :
    ∃ l2 f2 sB sB2, q = branchE t1 false l2 sB ∧ sB.p = t1.length ∧ sB.g = 0 ∧ RG t1 d g0 (y = 41) sB sB2 ∧ ∀ x N r, go t2 N (.loop x l2 f2 sB2) = some r → go t2 (N + n) (.branch x s2) = some r := by
  cases n with
  | zero => cases h
  | succ n =>
    unfold go at h
    have e1 : s2.p = d + 0 := hR.1
    have e2 : hasS t2 s2.p [94] = hasS t1 pz0.p [94] := by rw [e1]; exact b8_has1 H (Nat.zero_le _) (by decide)
    by_cases h1 : hasS t1 pz0.p [94] = true
    · rw [if_pos h1] at h
      by_cases h2 : (putS (7, 0, 0, 0, 0, 0, setZ) (adv pz0 1)).1 < 0
      · rw [if_pos h2] at h; injection h with h; subst h; cases hw
      · rw [if_neg h2] at h
        have hl : 0 + 1 ≤ t1.length := has_len h1 (by simp)
        obtain ⟨s2', e, r⟩ := rg_put (nd := (7, 0, 0, 0, 0, 0, setZ)) (nd' := (7, 0, 0, 0, 0, 0, setZ)) (s1 := adv pz0 1) (s2 := adv s2 1) (by omega) ⟨by show s2.p + 1 = d + (0 + 1); omega, hl, hR.2.2⟩ id fun _ => rfl
        obtain ⟨p1, p2, p3⟩ := put_st (7, 0, 0, 0, 0, 0, setZ) (adv pz0 1)
        have p1 : (putS (7, 0, 0, 0, 0, 0, setZ) (adv pz0 1)).2.p = 0 + 1 := p1
        have p2 : (putS (7, 0, 0, 0, 0, 0, setZ) (adv pz0 1)).2.g = 0 := p2
        obtain ⟨l2, f2, sB, sB2, c1, c2, c3, c3', c4, c5, c6, c7⟩ := rg_loop H n _ true _ s2' q h hw (by rw [p2]; exact hg) (by rw [p1]; exact hl) (by rw [p2]; omega) r
        refine ⟨l2, f2, sB, sB2, c1, c2, c3.trans p2, c4, fun x N r hr => ?_⟩
        have := c7 x N r hr
        show (if hasS t2 s2.p [94] = true then _ else _) = _
        rw [e2, if_pos h1, okR_inj e, if_neg h2]
        exact this
    · rw [if_neg h1] at h
      obtain ⟨l2, f2, sB, sB2, c1, c2, c3, c3', c4, c5, c6, c7⟩ := rg_loop H n _ true _ s2 q h hw hg (Nat.zero_le _) (Nat.zero_le _) hR
      refine ⟨l2, f2, sB, sB2, c1, c2, c3, c4, fun x N r hr => ?_⟩
      have := c7 x N r hr
      show (if hasS t2 s2.p [94] = true then _ else _) = _
      rw [e2, if_neg h1]
      exact this
omit H in
theorem rg_fresh : RG t1 d g0 (y = 41) pz0 ⟨[], g0, d, Arr.rep 10 false⟩ := ⟨rfl, Nat.zero_le _, rfl, (Nat.zero_add g0).symm, rfl, fun _ => rfl⟩
theorem b8_92 {c : UInt8} (hc : c = y) : hasS t2 (d + t1.length) [92, c] = true := by
  obtain ⟨q1, q2⟩ := b8_end H
  refine (has_iff _ _ _).2 fun i hi => ?_
  rcases (by simp at hi; omega : i = 0 ∨ i = 1) with rfl | rfl
  · exact q1
  · rw [q2, hc]; rfl
end
/-- A text without groups within a group. -/
theorem br_zero {b t : List UInt8} {d g0 : Nat} (H : In8 b t 41 d) {n : Nat} {q : Res} (h : go b n (.branch false pz0) = some q) (hw : q.2.1 = []) (hg : q.2.2.g = 0) :
    ∃ s', go t (1 + n) (.branch true ⟨[], g0, d, Arr.rep 10 false⟩) = some (q.1, [], s') ∧ s'.p = d + b.length ∧ s'.g = g0 ∧ s'.L.length = q.2.2.L.length := by
  obtain ⟨l2, f2, sB, sB2, c1, c2, c3, c4, c7⟩ := rg_branch H h hw hg (rg_fresh (g0 := g0))
  subst c1
  obtain ⟨k1, k2⟩ := branchE_yes hw
  obtain ⟨s', e, r⟩ := rg_cat l2 sB sB2 c4 k1
  have hlen := b8_len H
  have hp : sB2.p = d + b.length := by rw [c4.1, c2]
  refine ⟨s', c7 true 1 _ ?_, ?_, ?_, ?_⟩
  · show (if sB2.p < t.length ∧ hasS t sB2.p [92, 41] = false then _ else _) = _
    rw [hp, b8_92 H rfl, if_neg (fun e => by cases e.2), k2]
    rw [branchE_mk (by rw [hp, decide_eq_false (by omega)]; rfl) (by rw [e]; exact k1), e]
    rfl
  · obtain ⟨a1, a2, a3⟩ := cat_st l2 sB
    rw [r.1, a1, c2]
  · obtain ⟨a1, a2, a3⟩ := cat_st l2 sB
    rw [r.2.2.2.1, a2, c3, Nat.zero_add]
  · rw [r.2.2.2.2.1, k2]; rfl
theorem node_grp8 {k d a g : Int} (hk : 0 ≤ k ∧ k < a) (hd : 1 ≤ d ∧ d ≤ g) : isNodeB (5, k, 0, 0, 0, d, setZ) a g = true := by
  simp [isNodeB, plainL, partsL, hk.1, hk.2, hd.1, hd.2]
theorem two_no {t : List UInt8} {q : Nat} {x c : UInt8} (h2 : t[q + 1]? = some x) (hc : c ≠ x) : hasS t q [92, c] = false := by
  cases h : hasS t q [92, c] with
  | false => rfl
  | true =>
    have := (has_iff t q [92, c]).1 h 1 (by simp)
    rw [h2] at this
    injection this with this
    exact absurd this.symm hc
theorem one_no {t : List UInt8} {q : Nat} {c : UInt8} (h1 : t[q]? = some 92) (hc : c ≠ 92) : hasS t q [c] = false := by
  cases h : hasS t q [c] with
  | false => rfl
  | true =>
    have := (has_iff t q [c]).1 h 0 (by simp)
    have this : t[q]? = some c := this
    rw [h1] at this
    injection this with this
    exact absurd this.symm hc
theorem reps_none {t : List UInt8} {k : Int} {s : Pz} (hk : 0 ≤ k) (h1 : hasS t s.p [42] = false) (h2 : hasS t s.p [92, 123] = false) : repsR t (k, [], s) = (k, [], s) := by
  have hm : moreR t k [] s = false := by
    unfold moreR
    rw [h1, h2]; simp
  show repsF t (t.length + 1) k [] s = _
  unfold repsF
  rw [hm, if_neg (by decide)]
  unfold endRp
  rw [decide_eq_false (by omega)]; rfl
/-- A group that is a piece, its branch being read. -/
theorem wrap_piece {t : List UInt8} {d g0 N : Nat} {f : Bool} {i : Int} {s' : Pz} (h92 : t[d]? = some 92) (h40 : t[d + 1]? = some 40) (hb : go t N (.branch true ⟨[], g0 + 1, d + 2, Arr.rep 10 false⟩) = some (i, [], s')) (hg : g0 < 9) (hL : s'.L.length < 1000) (hi0 : 0 ≤ i) (hi1 : i < (s'.L.length : Int)) (hgs : g0 + 1 ≤ s'.g)
    (hn1 : hasS t (s'.p + 2) [42] = false) (hn2 : hasS t (s'.p + 2) [92, 123] = false) :
    ∃ s2, go t (N + 4) (.piece f ⟨[], g0, d, Arr.rep 10 false⟩) = some ((s'.L.length : Int), [], s2) ∧ s2.p = s'.p + 2 ∧ s2.g = s'.g ∧ s2.L.length = s'.L.length + 1 := by
  have hput : putS (5, i, 0, 0, 0, ((g0 + 1 : Nat) : Int), setZ) { s' with p := s'.p + 2, cl := Arr.set s'.cl (g0 + 1) true } = ((s'.L.length : Int), ⟨s'.L ++ [(5, i, 0, 0, 0, ((g0 + 1 : Nat) : Int), setZ)], s'.g, s'.p + 2, Arr.set s'.cl (g0 + 1) true⟩) := by
    unfold putS
    rw [if_neg (by show ¬ 1000 ≤ s'.L.length; omega), if_pos (node_grp8 ⟨hi0, hi1⟩ ⟨by omega, by show ((g0 + 1 : Nat) : Int) ≤ (s'.g : Int); omega⟩)]
  refine ⟨⟨s'.L ++ [(5, i, 0, 0, 0, ((g0 + 1 : Nat) : Int), setZ)], s'.g, s'.p + 2, Arr.set s'.cl (g0 + 1) true⟩, ?_, rfl, rfl, by simp⟩
  have hgr : go t (N + 1) (.group ⟨[], g0, d, Arr.rep 10 false⟩) = some ((s'.L.length : Int), [], ⟨s'.L ++ [(5, i, 0, 0, 0, ((g0 + 1 : Nat) : Int), setZ)], s'.g, s'.p + 2, Arr.set s'.cl (g0 + 1) true⟩) := by
    unfold go
    rw [if_neg (by show ¬ 9 ≤ g0; omega)]
    show (match go t N (.branch true ⟨[], g0 + 1, d + 2, Arr.rep 10 false⟩) with | none => none | some (k, w, s') => if w.isEmpty = true then some (okR (putS (5, k, 0, 0, 0, ((g0 + 1 : Nat) : Int), setZ) { s' with p := s'.p + 2, cl := Arr.set s'.cl (g0 + 1) true })) else some (0, w, s')) = _
    rw [hb]
    show some (okR (putS (5, i, 0, 0, 0, ((g0 + 1 : Nat) : Int), setZ) { s' with p := s'.p + 2, cl := Arr.set s'.cl (g0 + 1) true })) = _
    rw [hput]; rfl
  have hes : go t (N + 2) (.escape ⟨[], g0, d, Arr.rep 10 false⟩) = some ((s'.L.length : Int), [], ⟨s'.L ++ [(5, i, 0, 0, 0, ((g0 + 1 : Nat) : Int), setZ)], s'.g, s'.p + 2, Arr.set s'.cl (g0 + 1) true⟩) := by
    unfold go
    rw [show t[(⟨[], g0, d, Arr.rep 10 false⟩ : Pz).p + 1]? = some 40 from h40]
    dsimp only
    rw [if_pos (by decide)]
    exact hgr
  have hat : go t (N + 3) (.atom ⟨[], g0, d, Arr.rep 10 false⟩) = some ((s'.L.length : Int), [], ⟨s'.L ++ [(5, i, 0, 0, 0, ((g0 + 1 : Nat) : Int), setZ)], s'.g, s'.p + 2, Arr.set s'.cl (g0 + 1) true⟩) := by
    unfold go
    rw [show t[(⟨[], g0, d, Arr.rep 10 false⟩ : Pz).p]? = some 92 from h92]
    dsimp only
    rw [if_pos (by decide)]
    exact hes
  unfold go
  rw [if_neg (fun e => by have e : hasS t d [92, 123] = true := e.2; rw [two_no h40 (by decide)] at e; cases e), if_neg (fun e => by have e : hasS t d [42] = true := e.2; rw [one_no h92 (by decide)] at e; cases e), hat]
  show some (repsR t ((s'.L.length : Int), [], _)) = _
  rw [reps_none (Int.natCast_nonneg _) hn1 hn2]
/-- A branch that begins with a group. -/
theorem branch_one {t : List UInt8} {x : Bool} {s s2 : Pz} {k : Int} {M : Nat} {r : Res} (h92 : t[s.p]? = some 92) (h40 : t[s.p + 1]? = some 40) (hp : go t M (.piece true s) = some (k, [], s2)) (hl : go t M (.loop x [k] false s2) = some r) : go t (M + 2) (.branch x s) = some r := by
  have hlo : go t (M + 1) (.loop x [] true s) = some r := by
    unfold go
    rw [if_pos ⟨(List.getElem?_eq_some_iff.1 h92).1, two_no h40 (by decide)⟩, hp]
    exact hl
  unfold go
  rw [if_neg (fun e => by rw [one_no h92 (by decide)] at e; cases e)]
  exact hlo
/-- A text within groups. -/
def wrapT (b : List UInt8) : Nat → List UInt8
  | 0 => b
  | k + 1 => [92, 40] ++ wrapT b k ++ [92, 41]
theorem wrap_len (b : List UInt8) : ∀ k, (wrapT b k).length = b.length + 4 * k
  | 0 => rfl
  | k + 1 => by
    show ([92, 40] ++ wrapT b k ++ [92, 41]).length = _
    simp only [List.length_append, wrap_len b k, List.length_cons, List.length_nil]; omega
/-- Within a text of groups: the next one. -/
theorem wrap_in {b t r : List UInt8} {k d : Nat} (hd : d ≤ t.length) (h : t.drop d = wrapT b (k + 1) ++ r) : t[d]? = some 92 ∧ t[d + 1]? = some 40 ∧ In8 (wrapT b k) t 41 (d + 2) := by
  have h : t.drop d = 92 :: 40 :: (wrapT b k ++ 92 :: 41 :: r) := by
    rw [h]
    show [92, 40] ++ wrapT b k ++ [92, 41] ++ r = _
    simp
  have e0 := congrArg (fun l => l[0]?) h
  have e1 := congrArg (fun l => l[1]?) h
  have e2 := congrArg (fun l => l.drop 2) h
  have e3 := congrArg List.length h
  rw [List.length_drop] at e3
  simp only [List.length_cons] at e3
  rw [List.getElem?_drop] at e0 e1
  rw [List.drop_drop] at e2
  exact ⟨e0, e1, ⟨by omega, ⟨r, e2⟩, .inr rfl⟩⟩
theorem br_all {b : List UInt8} {n : Nat} {q : Res} (h : go b n (.branch false pz0) = some q) (hw : q.2.1 = []) (hg : q.2.2.g = 0) (hq0 : 0 ≤ q.1) (hq1 : q.1 < (q.2.2.L.length : Int)) :
    ∀ (k : Nat) (t : List UInt8) (d g0 : Nat), q.2.2.L.length + k ≤ 1000 → g0 + k ≤ 9 → In8 (wrapT b k) t 41 d → ∃ i s', go t (6 * k + (1 + n)) (.branch true ⟨[], g0, d, Arr.rep 10 false⟩) = some (i, [], s') ∧ s'.p = d + (wrapT b k).length ∧ s'.g = g0 + k ∧ s'.L.length = q.2.2.L.length + k ∧ 0 ≤ i ∧ i < (s'.L.length : Int) := by
  intro k
  induction k with
  | zero =>
    intro t d g0 _ _ H
    obtain ⟨s', e1, e2, e3, e4⟩ := br_zero (g0 := g0) H h hw hg
    refine ⟨q.1, s', ?_, e2, e3, e4, hq0, by rw [e4]; exact hq1⟩
    rw [show 6 * 0 + (1 + n) = 1 + n by omega]; exact e1
  | succ k ih =>
    intro t d g0 hL hg9 H
    obtain ⟨r, hr⟩ := H.eq
    obtain ⟨h92, h40, H2⟩ := wrap_in H.le hr
    obtain ⟨i, s', e1, e2, e3, e4, e5, e6⟩ := ih t (d + 2) (g0 + 1) (by omega) (by omega) H2
    obtain ⟨w1, w2⟩ := b8_end H
    have hlen := b8_len H
    have wl := wrap_len b k
    have wl2 := wrap_len b (k + 1)
    have hp : s'.p + 2 = d + (wrapT b (k + 1)).length := by omega
    obtain ⟨s2, p1, p2, p3, p4⟩ := wrap_piece (f := true) h92 h40 e1 (by omega) (by omega) e5 e6 (by omega) (by rw [hp]; exact one_no w1 (by decide)) (by rw [hp]; exact two_no w2 (by decide))
    have hcat : catS [(s'.L.length : Int)] s2 = ((s'.L.length : Int), s2) := by
      rw [cat_cons, if_neg (by omega)]; rfl
    refine ⟨(s'.L.length : Int), s2, ?_, by omega, by omega, by omega, by omega, by omega⟩
    rw [show 6 * (k + 1) + (1 + n) = 6 * k + (1 + n) + 4 + 2 by omega]
    refine branch_one h92 h40 p1 ?_
    rw [show 6 * k + (1 + n) + 4 = 6 * k + (1 + n) + 3 + 1 by omega]
    unfold go
    rw [if_neg (fun e => by rw [p2, hp, b8_92 H rfl] at e; cases e.2)]
    rw [branchE_mk (by rw [decide_eq_false (by omega)]; rfl) (by rw [hcat]; exact Int.natCast_nonneg _), hcat]
    rfl
/-- A text within k groups, alone. -/
theorem wrap_ok {b : List UInt8} {n : Nat} {q : Res} (h : go b n (.branch false pz0) = some q) (hw : q.2.1 = []) (hg : q.2.2.g = 0) (hq0 : 0 ≤ q.1) (hq1 : q.1 < (q.2.2.L.length : Int)) (k : Nat) (hL : q.2.2.L.length + k ≤ 1000) (hk : k ≤ 9) :
    ∃ i s', go (wrapT b k) (6 * k + (1 + n)) (.branch false pz0) = some (i, [], s') ∧ s'.g = k ∧ s'.L.length = q.2.2.L.length + k := by
  cases k with
  | zero =>
    obtain ⟨i, w, s'⟩ := q
    have hw : w = [] := hw
    subst hw
    exact ⟨i, s', go_mono (by omega) h, hg, rfl⟩
  | succ k =>
    have hr : (wrapT b (k + 1)).drop 0 = wrapT b (k + 1) ++ [] := by simp
    obtain ⟨h92, h40, H2⟩ := wrap_in (Nat.zero_le _) hr
    obtain ⟨i, s', e1, e2, e3, e4, e5, e6⟩ := br_all h hw hg hq0 hq1 k _ 2 1 (by omega) (by omega) H2
    have wl := wrap_len b k
    have wl2 := wrap_len b (k + 1)
    have hp : s'.p + 2 = (wrapT b (k + 1)).length := by omega
    have hno : ∀ {c : UInt8} {l : List UInt8}, hasS (wrapT b (k + 1)) (s'.p + 2) (c :: l) = false := fun {c l} => by
      cases hh : hasS (wrapT b (k + 1)) (s'.p + 2) (c :: l) with
      | false => rfl
      | true =>
        have := has_len hh (by simp)
        simp only [List.length_cons] at this
        omega
    obtain ⟨s2, p1, p2, p3, p4⟩ := wrap_piece (f := true) (d := 0) (g0 := 0) h92 h40 e1 (by omega) (by omega) e5 e6 (by omega) hno hno
    have hcat : catS [(s'.L.length : Int)] s2 = ((s'.L.length : Int), s2) := by
      rw [cat_cons, if_neg (by omega)]; rfl
    refine ⟨(s'.L.length : Int), s2, ?_, by omega, by omega⟩
    rw [show 6 * (k + 1) + (1 + n) = 6 * k + (1 + n) + 4 + 2 by omega]
    refine branch_one (s := pz0) h92 h40 p1 ?_
    rw [show 6 * k + (1 + n) + 4 = 6 * k + (1 + n) + 3 + 1 by omega]
    unfold go
    rw [if_neg (fun e => by have := e.1; omega)]
    rw [branchE_mk (by rw [decide_eq_true (by omega)]; rfl) (by rw [hcat]; exact Int.natCast_nonneg _), hcat]
    rfl
/-- Groups opened behind it, until there is one too many. -/
theorem wrap_err {b : List UInt8} {n : Nat} {q : Res} (h : go b n (.branch false pz0) = some q) (hw : q.2.1 = []) (hg : q.2.2.g = 0) (hq0 : 0 ≤ q.1) (hq1 : q.1 < (q.2.2.L.length : Int)) (k : Nat) (hL : q.2.2.L.length + k ≤ 1000) (hk : k ≤ 9) {E : List UInt8} (hE : ∀ i, i < 10 → E[2 * i]? = some 92 ∧ E[2 * i + 1]? = some 40) :
    ∃ i s', go (wrapT b k ++ E) (6 * k + (70 + n)) (.branch false pz0) = some (i, [(((wrapT b k).length : Int) + 2 * ((9 - k : Nat) : Int), 17)], s') := by
  have hEE : ∀ i, i < 10 → (wrapT b k ++ E)[(wrapT b k).length + 2 * i]? = some 92 ∧ (wrapT b k ++ E)[(wrapT b k).length + 2 * i + 1]? = some 40 := fun i hi => by
    obtain ⟨e1, e2⟩ := hE i hi
    rw [List.getElem?_append_right (by omega), List.getElem?_append_right (by omega), show (wrapT b k).length + 2 * i - (wrapT b k).length = 2 * i by omega, show (wrapT b k).length + 2 * i + 1 - (wrapT b k).length = 2 * i + 1 by omega]
    exact ⟨e1, e2⟩
  obtain ⟨z1, z2⟩ := hEE 0 (by omega)
  have z1 : (wrapT b k ++ E)[(wrapT b k).length]? = some 92 := z1
  have z2 : (wrapT b k ++ E)[(wrapT b k).length + 1]? = some 40 := z2
  have loop : ∀ (l : List Int) (f : Bool) (s : Pz), s.p = (wrapT b k).length → s.g = k → ∃ i s', go (wrapT b k ++ E) 60 (.loop false l f s) = some (i, [(((wrapT b k).length : Int) + 2 * ((9 - k : Nat) : Int), 17)], s') := fun l f s hp hgk => by
    obtain ⟨i, s', e⟩ := open_err (wrapT b k ++ E) (9 - k) 59 f s (by omega) (fun i hi => by rw [hp]; exact hEE i (by omega)) (by omega)
    refine ⟨0, s', ?_⟩
    unfold go
    rw [hp, if_pos ⟨(List.getElem?_eq_some_iff.1 z1).1, two_no z2 (by decide)⟩, e, hp]
    rfl
  cases k with
  | zero =>
    have H : In8 b (b ++ E) 40 0 := ⟨Nat.zero_le _, by
      cases E with
      | nil => have := (hE 0 (by omega)).1; cases this
      | cons x E =>
        cases E with
        | nil => have := (hE 0 (by omega)).2; cases this
        | cons z E =>
          have a1 := (hE 0 (by omega)).1
          have a2 := (hE 0 (by omega)).2
          injection a1 with a1
          injection a2 with a2
          exact ⟨E, by rw [← a1, ← a2]; rfl⟩, .inl rfl⟩
    obtain ⟨l2, f2, sB, sB2, c1, c2, c3, c4, c7⟩ := rg_branch H h hw hg (rg_fresh (g0 := 0))
    obtain ⟨i, s', e⟩ := loop l2 f2 sB2 (by rw [c4.1, c2]; exact Nat.zero_add _) (by rw [c4.2.2.2.1, c3])
    exact ⟨i, s', go_mono (by omega) (c7 false 60 _ e)⟩
  | succ k =>
    have hr : (wrapT b (k + 1) ++ E).drop 0 = wrapT b (k + 1) ++ E := rfl
    obtain ⟨h92, h40, H2⟩ := wrap_in (Nat.zero_le _) hr
    obtain ⟨i, s', e1, e2, e3, e4, e5, e6⟩ := br_all h hw hg hq0 hq1 k _ 2 1 (by omega) (by omega) H2
    have wl := wrap_len b k
    have wl2 := wrap_len b (k + 1)
    have hp : s'.p + 2 = (wrapT b (k + 1)).length := by omega
    obtain ⟨s2, p1, p2, p3, p4⟩ := wrap_piece (f := true) (d := 0) (g0 := 0) h92 h40 e1 (by omega) (by omega) e5 e6 (by omega) (by rw [hp]; exact one_no z1 (by decide)) (by rw [hp]; exact two_no z2 (by decide))
    obtain ⟨i, s3, e⟩ := loop [(s'.L.length : Int)] false s2 (by omega) (by omega)
    refine ⟨i, s3, ?_⟩
    rw [show 6 * (k + 1) + (70 + n) = 6 * k + (70 + n) + 4 + 2 by omega]
    exact branch_one (s := pz0) h92 h40 (go_mono (by omega) p1) (go_mono (by omega) e)
end Go.Proofs.Ytpddiffpanihdaa
