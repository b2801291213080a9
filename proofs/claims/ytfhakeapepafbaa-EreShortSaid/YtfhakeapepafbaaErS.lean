/- A repetition written in two ways: the parser reads both alike. -/
import Derived.Test.YtfhakeapepafbaaEpG
namespace Go.Proofs.Ytfhakeapepafbaa
def J9.to : J9 → Pz → J9
  | .alts x _, s => .alts x s
  | .altl x l e _, s => .altl x l e s
  | .branch x _, s => .branch x s
  | .brl x l e _, s => .brl x l e s
  | .piece _, s => .piece s
  | .atom _, s => .atom s
  | .group _, s => .group s
def J9.l : J9 → List Int
  | .altl _ l _ _ | .brl _ l _ _ => l
  | _ => []
def J9.e : J9 → Int
  | .altl _ _ e _ | .brl _ _ e _ => e
  | _ => 0
def J9.bd (n : Nat) : J9 → Prop
  | .group s => s.p < n
  | _ => True
theorem put_move (n : ND) (s s2 : Pz) (h1 : s.L = s2.L) (h2 : s.g = s2.g) : putS n s2 = ((putS n s).1, { s2 with L := (putS n s).2.L }) := by
  obtain ⟨L, g, p, cl⟩ := s
  obtain ⟨L2, g2, p2, cl2⟩ := s2
  have h1 : L = L2 := h1
  have h2 : g = g2 := h2
  subst h1; subst h2
  unfold putS
  dsimp only
  split
  · rfl
  · split <;> rfl
theorem fold_move (kind : Int) : ∀ (t : List Int) (x : Int) (s s2 : Pz), s.L = s2.L → s.g = s2.g → foldS kind t x s2 = ((foldS kind t x s).1, { s2 with L := (foldS kind t x s).2.L })
  | [], x, s, s2, h1, h2 => by
    show (x, s2) = (x, { s2 with L := s.L })
    rw [h1]
  | y :: t, x, s, s2, h1, h2 => by
    rw [fold_cons, fold_cons]
    by_cases hx : x = -1
    · rw [if_pos hx, if_pos hx]
      show (x, s2) = (x, { s2 with L := s.L })
      rw [h1]
    · rw [if_neg hx, if_neg hx, put_move _ s s2 h1 h2]
      have hg : (putS (kind, x, y, 0, 0, 0, setZ) s).2.g = s2.g := by rw [(put_st _ s).2.1]; exact h2
      exact fold_move kind t _ (putS (kind, x, y, 0, 0, 0, setZ) s).2 { s2 with L := (putS (kind, x, y, 0, 0, 0, setZ) s).2.L } rfl hg
theorem cat_move (l : List Int) (s s2 : Pz) (h1 : s.L = s2.L) (h2 : s.g = s2.g) : catS l s2 = ((catS l s).1, { s2 with L := (catS l s).2.L }) := by
  cases l with
  | nil => exact put_move _ s s2 h1 h2
  | cons x t =>
    rw [cat_cons, cat_cons, ← h1]
    by_cases hx : x < 0 ∨ (s.L.length : Int) ≤ x
    · rw [if_pos hx, if_pos hx]
      show (-1, s2) = (-1, { s2 with L := s.L })
      rw [h1]
    · rw [if_neg hx, if_neg hx]; exact fold_move 2 t x s s2 h1 h2
theorem alt_move (l : List Int) (s s2 : Pz) (h1 : s.L = s2.L) (h2 : s.g = s2.g) : altS l s2 = ((altS l s).1, { s2 with L := (altS l s).2.L }) := by
  cases l with
  | nil =>
    show ((-1 : Int), s2) = (-1, { s2 with L := s.L })
    rw [h1]
  | cons x t =>
    rw [alt_cons, alt_cons, ← h1]
    by_cases hx : x < 0 ∨ (s.L.length : Int) ≤ x
    · rw [if_pos hx, if_pos hx]
      show ((-1 : Int), s2) = (-1, { s2 with L := s.L })
      rw [h1]
    · rw [if_neg hx, if_neg hx]; exact fold_move 3 t x s s2 h1 h2
/-- Two texts, alike but for a repetition at the end. -/
structure Sh (b t1 t2 : List UInt8) (c : UInt8) (w : Nat) (lo hi : Int) : Prop where
  len1 : t1.length = b.length + 1
  len2 : t2.length = b.length + w
  w1 : 1 ≤ w
  in1 : ∀ i, i < b.length → t1[i]? = b[i]?
  in2 : ∀ i, i < b.length → t2[i]? = b[i]?
  no : ∀ (i : Nat) (d : UInt8), b[i]? = some d → d ≠ 92 ∧ d ≠ 91 ∧ d ≠ 123
  at1 : t1[b.length]? = some c
  at2 : t2[b.length]? = some 123
  hc : c = 42 ∨ c = 43 ∨ c = 63
  ht : isTimesB lo hi = true
  r1 : ∀ (k : Int) (s : Pz), s.p = b.length → rep9 t1 k s = okE (putS (4, k, 0, lo, hi, 0, setZ) { s with p := b.length + 1 })
  r2 : ∀ (k : Int) (s : Pz), s.p = b.length → rep9 t2 k s = okE (putS (4, k, 0, lo, hi, 0, setZ) { s with p := b.length + w })
/-- Two states, alike but for the place behind that repetition. -/
def RlS (n w : Nat) (s1 s2 : Pz) : Prop := s1.L = s2.L ∧ s1.g = s2.g ∧ s1.cl = s2.cl ∧ ((s1.p = s2.p ∧ s1.p ≤ n) ∨ (s1.p = n + 1 ∧ s2.p = n + w))
def RRS (n w : Nat) (q1 q2 : R9) : Prop := q1.1 = q2.1 ∧ q1.2.1 = q2.2.1 ∧ (q1.2.1 = 0 → RlS n w q1.2.2 q2.2.2) ∧ (q1.2.1 ≠ 0 → q1.2.1 = 14 ∨ q1.2.2.p = q2.2.2.p)
section
variable {b t1 t2 : List UInt8} {c : UInt8} {w : Nat} {lo hi : Int} (H : Sh b t1 t2 c w lo hi)
include H
theorem sh_at {s1 s2 : Pz} (h : RlS b.length w s1 s2) : (s1.p < b.length ∧ s2.p = s1.p ∧ ∃ d, t1[s1.p]? = some d ∧ t2[s2.p]? = some d ∧ d ≠ 92 ∧ d ≠ 91 ∧ d ≠ 123) ∨ (s1.p = b.length ∧ s2.p = b.length ∧ t1[s1.p]? = some c ∧ t2[s2.p]? = some 123) ∨ (s1.p = b.length + 1 ∧ s2.p = b.length + w ∧ t1[s1.p]? = none ∧ t2[s2.p]? = none) := by
  rcases h.2.2.2 with ⟨h1, h2⟩ | ⟨h1, h2⟩
  · rcases (by omega : s1.p < b.length ∨ s1.p = b.length) with h3 | h3
    · refine .inl ⟨h3, h1.symm, b[s1.p], ?_, ?_, H.no s1.p _ (List.getElem?_eq_getElem h3)⟩
      · rw [H.in1 _ h3]; exact List.getElem?_eq_getElem h3
      · rw [← h1, H.in2 _ h3]; exact List.getElem?_eq_getElem h3
    · exact .inr (.inl ⟨h3, by omega, by rw [h3]; exact H.at1, by rw [← h1, h3]; exact H.at2⟩)
  · exact .inr (.inr ⟨h1, h2, List.getElem?_eq_none (by rw [H.len1]; omega), List.getElem?_eq_none (by rw [H.len2]; omega)⟩)
theorem sh_is {s1 s2 : Pz} (h : RlS b.length w s1 s2) {d : UInt8} (hd : d ≠ 42 ∧ d ≠ 43 ∧ d ≠ 63 ∧ d ≠ 123) : t1[s1.p]? = some d ↔ t2[s2.p]? = some d := by
  rcases sh_at H h with ⟨_, _, x, h1, h2, _⟩ | ⟨_, _, h1, h2⟩ | ⟨_, _, h1, h2⟩
  · rw [h1, h2]
  · rw [h1, h2]
    constructor
    · intro e
      injection e with e
      exfalso
      rcases H.hc with h | h | h
      · exact hd.1 (e.symm.trans h)
      · exact hd.2.1 (e.symm.trans h)
      · exact hd.2.2.1 (e.symm.trans h)
    · intro e
      injection e with e
      exact absurd e.symm hd.2.2.2
  · rw [h1, h2]
theorem sh_lt {s1 s2 : Pz} (h : RlS b.length w s1 s2) : s1.p < t1.length ↔ s2.p < t2.length := by
  have := H.len1
  have := H.len2
  have := H.w1
  rcases sh_at H h with ⟨h1, h2, _⟩ | ⟨h1, h2, _⟩ | ⟨h1, h2, _⟩ <;> omega
omit H in
theorem sh_put {nd : ND} {s1 s2 : Pz} (h : RlS b.length w s1 s2) (hl : s1.L.length < 1000) (hn : isNodeB nd s1.L.length s1.g = true) : RRS b.length w (okE (putS nd s1)) (okE (putS nd s2)) := by
  obtain ⟨e1, e2, e3, e4⟩ := h
  rw [put_good hl hn, put_good (by rw [← e1]; exact hl) (by rw [← e1, ← e2]; exact hn)]
  refine ⟨by rw [e1], rfl, fun _ => ⟨?_, e2, e3, e4⟩, fun h => absurd rfl h⟩
  show s1.L ++ [nd] = s2.L ++ [nd]
  rw [e1]
theorem sh_reps (hb : b.length ≤ 100) : ∀ (n1 n2 : Nat) (k : Int) (s1 s2 : Pz), RlS b.length w s1 s2 → s1.p ≤ t1.length → s2.p ≤ t2.length → t1.length - s1.p < n1 → t2.length - s2.p < n2 → (0 ≤ k ∧ k < (s1.L.length : Int)) → s1.L.length + 2 * (t1.length - s1.p) ≤ 1000 → ClI s1 → RRS b.length w (reps9 t1 n1 k 0 s1) (reps9 t2 n2 k 0 s2) ∧ ClI (reps9 t1 n1 k 0 s1).2.2 := by
  have l1 := H.len1
  have l2 := H.len2
  have w1 := H.w1
  intro n1
  induction n1 with
  | zero => intro n2 k s1 s2 _ _ _ h; omega
  | succ n1 ih =>
    intro n2 k s1 s2 h p1 p2 h1 h2 hk hL hC
    obtain ⟨m2, rfl⟩ : ∃ m, n2 = m + 1 := ⟨n2 - 1, by omega⟩
    obtain ⟨e1, e2, e3, e4⟩ := h
    -- behind a repetition
    have after : ∀ (lo hi : Int) (a1 a2 : Nat), s1.p + 1 ≤ a1 → s2.p + 1 ≤ a2 → a1 ≤ t1.length → a2 ≤ t2.length → ((a1 = a2 ∧ a1 ≤ b.length) ∨ (a1 = b.length + 1 ∧ a2 = b.length + w)) → isTimesB lo hi = true → reps9 t1 (n1 + 1) k 0 s1 = reps9 t1 n1 (okE (putS (4, k, 0, lo, hi, 0, setZ) { s1 with p := a1 })).1 (okE (putS (4, k, 0, lo, hi, 0, setZ) { s1 with p := a1 })).2.1 (okE (putS (4, k, 0, lo, hi, 0, setZ) { s1 with p := a1 })).2.2 →
        reps9 t2 (m2 + 1) k 0 s2 = reps9 t2 m2 (okE (putS (4, k, 0, lo, hi, 0, setZ) { s2 with p := a2 })).1 (okE (putS (4, k, 0, lo, hi, 0, setZ) { s2 with p := a2 })).2.1 (okE (putS (4, k, 0, lo, hi, 0, setZ) { s2 with p := a2 })).2.2 → RRS b.length w (reps9 t1 (n1 + 1) k 0 s1) (reps9 t2 (m2 + 1) k 0 s2) ∧ ClI (reps9 t1 (n1 + 1) k 0 s1).2.2 := fun lo hi a1 a2 q1 q2 q3 q4 q5 ht f1 f2 => by
      rw [put_good (s := { s1 with p := a1 }) (by show s1.L.length < 1000; omega) (node_rep s1.g hk ht)] at f1
      rw [put_good (s := { s2 with p := a2 }) (by show s2.L.length < 1000; rw [← e1]; omega) (node_rep s2.g (by show 0 ≤ k ∧ k < (s2.L.length : Int); rw [← e1]; exact hk) ht)] at f2
      rw [f1, f2]
      have := ih m2 (s1.L.length : Int) { s1 with p := a1, L := s1.L ++ [(4, k, 0, lo, hi, 0, setZ)] } { s2 with p := a2, L := s2.L ++ [(4, k, 0, lo, hi, 0, setZ)] } ⟨by show s1.L ++ _ = s2.L ++ _; rw [e1], e2, e3, q5⟩ q3 q4 (by show t1.length - a1 < n1; omega) (by show t2.length - a2 < m2; omega) ⟨Int.natCast_nonneg _, by show (s1.L.length : Int) < ((s1.L ++ [_]).length : Int); simp; omega⟩ (by show (s1.L ++ [_]).length + 2 * (t1.length - a1) ≤ 1000; simp; omega) hC
      rw [e1] at this ⊢
      exact this
    have rstep : ∀ {t : List UInt8} {n : Nat} {s : Pz} {q : R9}, isRep t s.p = true → rep9 t k s = q → reps9 t (n + 1) k 0 s = reps9 t n q.1 q.2.1 q.2.2 := fun {t n s q} h1 h2 => by
      show (if (0 : Int) = 0 ∧ isRep t s.p = true then _ else _) = _
      rw [if_pos ⟨rfl, h1⟩, h2]
    have rno : ∀ {t : List UInt8} {n : Nat} {s : Pz}, isRep t s.p = false → reps9 t (n + 1) k 0 s = (k, 0, s) := fun {t n s} h1 => by
      show (if (0 : Int) = 0 ∧ isRep t s.p = true then _ else _) = _
      rw [if_neg (by rw [h1]; simp)]
    have hend : isRep t1 s1.p = false → isRep t2 s2.p = false → RRS b.length w (reps9 t1 (n1 + 1) k 0 s1) (reps9 t2 (m2 + 1) k 0 s2) ∧ ClI (reps9 t1 (n1 + 1) k 0 s1).2.2 := fun f1 f2 => by
      rw [rno f1, rno f2]
      exact ⟨⟨rfl, rfl, fun _ => ⟨e1, e2, e3, e4⟩, fun h => absurd rfl h⟩, hC⟩
    rcases sh_at H ⟨e1, e2, e3, e4⟩ with ⟨g1, g2, d, g3, g4, _, _, g5⟩ | ⟨g1, g2, g3, g4⟩ | ⟨g1, g2, g3, g4⟩
    · have i1 : isRep t1 s1.p = decide (repC d) := by unfold isRep; rw [g3]
      have i2 : isRep t2 s2.p = decide (repC d) := by unfold isRep; rw [g4]
      by_cases hr : repC d
      · rw [decide_eq_true hr] at i1 i2
        rcases hr with rfl | rfl | rfl | rfl
        · exact after 0 (-1) (s1.p + 1) (s2.p + 1) (Nat.le_refl _) (Nat.le_refl _) (by omega) (by omega) (.inl ⟨by omega, by omega⟩) rfl (rstep i1 (by unfold rep9; rw [g3]; rfl)) (rstep i2 (by unfold rep9; rw [g4]; rfl))
        · exact after 1 (-1) (s1.p + 1) (s2.p + 1) (Nat.le_refl _) (Nat.le_refl _) (by omega) (by omega) (.inl ⟨by omega, by omega⟩) rfl (rstep i1 (by unfold rep9; rw [g3]; rfl)) (rstep i2 (by unfold rep9; rw [g4]; rfl))
        · exact after 0 1 (s1.p + 1) (s2.p + 1) (Nat.le_refl _) (Nat.le_refl _) (by omega) (by omega) (.inl ⟨by omega, by omega⟩) rfl (rstep i1 (by unfold rep9; rw [g3]; rfl)) (rstep i2 (by unfold rep9; rw [g4]; rfl))
        · exact absurd rfl g5
      · rw [decide_eq_false hr] at i1 i2
        exact hend i1 i2
    · have i1 : isRep t1 s1.p = true := isRep_iff.2 (by rw [g3]; rcases H.hc with h | h | h <;> simp [h])
      have i2 : isRep t2 s2.p = true := isRep_iff.2 (by rw [g4]; simp)
      exact after lo hi (b.length + 1) (b.length + w) (by omega) (by omega) (by omega) (by omega) (.inr ⟨rfl, rfl⟩) H.ht (rstep i1 (H.r1 k s1 g1)) (rstep i2 (H.r2 k s2 g2))
    · exact hend (by unfold isRep; rw [g3]) (by unfold isRep; rw [g4])
theorem sh_more {x : Bool} {s1 s2 : Pz} (h : RlS b.length w s1 s2) : moreB t1 x 0 s1 = moreB t2 x 0 s2 := by
  have a := sh_lt H h
  have b := sh_is H h (d := 124) (by decide)
  have c := sh_is H h (d := 41) (by decide)
  rw [Bool.eq_iff_iff, moreB_iff, moreB_iff]
  exact ⟨fun ⟨h1, h2, h3, h4⟩ => ⟨h1, a.1 h2, fun e => h3 (b.2 e), fun e => h4 ⟨e.1, c.2 e.2⟩⟩, fun ⟨h1, h2, h3, h4⟩ => ⟨h1, a.2 h2, fun e => h3 (b.1 e), fun e => h4 ⟨e.1, c.1 e.2⟩⟩⟩
theorem sh_top {s1 s2 : Pz} (h : RlS b.length w s1 s2) : s1.p ≤ t1.length ∧ s2.p ≤ t2.length := by
  have := H.len1
  have := H.len2
  have := H.w1
  rcases h.2.2.2 with h1 | h1 <;> omega
theorem sh_go (hb : b.length ≤ 100) : ∀ (n : Nat) (j : J9) (s2 : Pz) (q1 q2 : R9), go9 t1 n j = some q1 → go9 t2 n (j.to s2) = some q2 → J9At t1 j → j.e = 0 → RlS b.length w j.s s2 → (j.l = [] → j.s.p = s2.p) → j.bd b.length → Good9 t1 j.s j.l → RRS b.length w q1 q2 ∧ ClI q1.2.2 := by
  have l1 := H.len1
  have l2 := H.len2
  have w1 := H.w1
  intro n
  induction n with
  | zero => intro j s2 q1 q2 h; cases h
  | succ n ih =>
    intro j s2 q q' h h' hj he hR hE hB hG
    cases j with
    | alts x s =>
      obtain ⟨q1, h1, h2⟩ := bind_some h
      obtain ⟨q1', h1', h2'⟩ := bind_some h'
      have hjb : J9At t1 (.branch x s) := hj
      have hat := go9_at t1 n _ q1 h1 hjb
      obtain ⟨⟨r1, r2, r3, r4⟩, r5⟩ := ih (.branch x s) s2 q1 q1' h1 h1' hjb rfl hR hE trivial hG
      rw [← r1, ← r2] at h2'
      by_cases he : q1.2.1 = 0
      · obtain ⟨⟨a1, a2, a3⟩, a4⟩ : At9 t1 s.p q1.2.2 ∧ q1.2.2.L.length + 1 + 2 * s.p ≤ s.L.length + 2 * q1.2.2.p := hat he
        have g1 : s.L.length + 2 * (t1.length - s.p) + 0 ≤ 1000 := hG.1
        have hgr := go9_gr t1 n _ q1 h1 he s.L s.g (gr_refl _ _ (by omega))
        exact ih (.altl x [q1.1] q1.2.1 q1.2.2) q1'.2.2 q q' h2 h2' ⟨by simp, fun _ => ⟨a2, a3⟩⟩ he (r3 he) (fun h => by simp [J9.l] at h) trivial ⟨by show q1.2.2.L.length + 2 * (t1.length - q1.2.2.p) + 1 ≤ 1000; omega, r5, s.L, s.g, hgr.2⟩
      · obtain rfl := altl_no he h2
        obtain rfl := altl_no he h2'
        exact ⟨⟨rfl, rfl, fun h => absurd h he, r4⟩, r5⟩
    | altl x l e s =>
      have he : e = 0 := he
      subst he
      obtain ⟨hj1, hj2⟩ := hj
      obtain ⟨j1, j2⟩ := hj2 rfl
      obtain ⟨g1, g2, L0, g0, g3⟩ := hG
      have g1 : s.L.length + 2 * (t1.length - s.p) + l.length ≤ 1000 := g1
      have is124 := sh_is H hR (d := 124) (by decide)
      have is41 := sh_is H hR (d := 41) (by decide)
      unfold go9 at h
      have h' : (if (0 : Int) = 0 ∧ t2[s2.p]? = some 124 then (go9 t2 n (.branch x (adv s2 1))).bind fun q => go9 t2 n (.altl x (l ++ [q.1]) q.2.1 q.2.2) else some (altE t2 x l 0 s2)) = some q' := h'
      split at h
      · rename_i h0
        have h124 : t1[s.p]? = some 124 := h0.2
        have hp := (List.getElem?_eq_some_iff.1 h124).1
        rw [if_pos ⟨rfl, is124.1 h124⟩] at h'
        obtain ⟨q1, h1, h2⟩ := bind_some h
        obtain ⟨q1', h1', h2'⟩ := bind_some h'
        have hjb : J9At t1 (.branch x (adv s 1)) := ⟨hp, j2⟩
        have hat := go9_at t1 n _ q1 h1 hjb
        have hE1 : s.p + 1 = s2.p + 1 := by
          rcases sh_at H hR with ⟨c1, c2, _⟩ | ⟨c1, c2, _⟩ | ⟨c1, c2, c3, _⟩
          · have c2 : s2.p = s.p := c2
            omega
          · have c1 : s.p = b.length := c1
            omega
          · have c3 : t1[s.p]? = none := c3
            rw [h124] at c3; cases c3
        have hR1 : RlS b.length w (adv s 1) (adv s2 1) := by
          refine ⟨hR.1, hR.2.1, hR.2.2.1, .inl ?_⟩
          rcases sh_at H hR with ⟨c1, c2, _⟩ | ⟨c1, c2, c3, _⟩ | ⟨c1, c2, c3, _⟩
          · show s.p + 1 = s2.p + 1 ∧ s.p + 1 ≤ b.length
            exact ⟨by have : s2.p = s.p := c2; omega, c1⟩
          · have c3 : t1[s.p]? = some c := c3
            rw [h124] at c3
            injection c3 with c3
            rcases H.hc with h | h | h <;> (rw [h] at c3; exact absurd c3 (by decide))
          · have c3 : t1[s.p]? = none := c3
            rw [h124] at c3; cases c3
        obtain ⟨⟨r1, r2, r3, r4⟩, r5⟩ := ih (.branch x (adv s 1)) (adv s2 1) q1 q1' h1 h1' hjb rfl hR1 (fun _ => hE1) trivial ⟨by show s.L.length + 2 * (t1.length - (s.p + 1)) + 0 ≤ 1000; omega, g2, s.L, s.g, gr_refl _ _ (by show s.L.length ≤ 1000; omega)⟩
        rw [← r1, ← r2] at h2'
        by_cases he : q1.2.1 = 0
        · obtain ⟨⟨a1, a2, a3⟩, a4⟩ : At9 t1 (s.p + 1) q1.2.2 ∧ q1.2.2.L.length + 1 + 2 * (s.p + 1) ≤ s.L.length + 2 * q1.2.2.p := hat he
          have hgr := go9_gr t1 n _ q1 h1 he s.L s.g (gr_refl _ _ (by omega))
          exact ih (.altl x (l ++ [q1.1]) q1.2.1 q1.2.2) q1'.2.2 q q' h2 h2' ⟨by simp, fun _ => ⟨a2, a3⟩⟩ he (r3 he) (fun h => by simp [J9.l] at h) trivial ⟨by show q1.2.2.L.length + 2 * (t1.length - q1.2.2.p) + (l ++ [q1.1]).length ≤ 1000; simp only [List.length_append, List.length_cons, List.length_nil]; omega, r5, L0, g0, gr_trans g3 hgr.2⟩
        · obtain rfl := altl_no he h2
          obtain rfl := altl_no he h2'
          exact ⟨⟨rfl, rfl, fun h => absurd h he, r4⟩, r5⟩
      · rename_i h0
        rw [if_neg (fun e => h0 ⟨rfl, is124.2 e.2⟩)] at h'
        injection h with h
        injection h' with h'
        subst h
        subst h'
        unfold altE
        rw [if_neg (show ¬ ((0 : Int) ≠ 0) from fun h => h rfl), if_neg (show ¬ ((0 : Int) ≠ 0) from fun h => h rfl)]
        by_cases h4 : x = true ∧ t1[s.p]? ≠ some 41
        · rw [if_pos h4, if_pos ⟨h4.1, fun e => h4.2 (is41.2 e)⟩]
          exact ⟨⟨rfl, rfl, (fun h => by cases h), fun _ => .inl rfl⟩, g2⟩
        · rw [if_neg h4, if_neg (fun e => h4 ⟨e.1, fun e2 => e.2 (is41.1 e2)⟩)]
          have hs := alt_succ (l := l) (s := s) hj1 (fun y hy => gr_in g3 hy) (by omega)
          have ea : altS l s2 = ((altS l s).1, { s2 with L := (altS l s).2.L }) := alt_move l s s2 hR.1 hR.2.1
          obtain ⟨st1, st2, st3⟩ := alt_st l s
          rw [ea, okE_yes hs, okE_yes (x := ((altS l s).1, { s2 with L := (altS l s).2.L })) hs]
          refine ⟨⟨rfl, rfl, fun _ => ⟨rfl, by show (altS l s).2.g = s2.g; rw [st2]; exact hR.2.1, by show (altS l s).2.cl = s2.cl; rw [st3]; exact hR.2.2.1, ?_⟩, fun h => absurd rfl h⟩, fun d hd => ?_⟩
          · show ((altS l s).2.p = s2.p ∧ (altS l s).2.p ≤ b.length) ∨ _
            rw [st1]; exact hR.2.2.2
          · show d ≤ (altS l s).2.g
            rw [st2]
            exact g2 d (show s.cl.l[d]? = some true by rw [← st3]; exact hd)
    | branch x s => exact ih (.brl x [] 0 s) s2 q q' h h' (fun _ => hj) rfl hR hE trivial hG
    | brl x l e s =>
      have he : e = 0 := he
      subst he
      obtain ⟨j1, j2⟩ := hj rfl
      obtain ⟨g1, g2, L0, g0, g3⟩ := hG
      have g1 : s.L.length + 2 * (t1.length - s.p) + l.length ≤ 1000 := g1
      unfold go9 at h
      have h' : (if moreB t2 x 0 s2 = true then (go9 t2 n (.piece s2)).bind fun q => go9 t2 n (.brl x (l ++ [q.1]) q.2.1 q.2.2) else some (brE l 0 s2)) = some q' := h'
      rw [← show moreB t1 x 0 s = moreB t2 x 0 s2 from sh_more H hR] at h'
      split at h
      · rename_i h0
        rw [if_pos h0] at h'
        obtain ⟨_, hp, _⟩ := moreB_iff.1 h0
        obtain ⟨q1, h1, h2⟩ := bind_some h
        obtain ⟨q1', h1', h2'⟩ := bind_some h'
        have hjb : J9At t1 (.piece s) := ⟨hp, j2⟩
        have hat := go9_at t1 n _ q1 h1 hjb
        obtain ⟨⟨r1, r2, r3, r4⟩, r5⟩ := ih (.piece s) s2 q1 q1' h1 h1' hjb rfl hR (fun _ => by
          have hp : s.p < t1.length := hp
          rcases hR.2.2.2 with h | h
          · exact h.1
          · have : s.p = b.length + 1 := h.1
            omega) trivial ⟨by show s.L.length + 2 * (t1.length - s.p) + 0 ≤ 1000; omega, g2, s.L, s.g, gr_refl _ _ (by show s.L.length ≤ 1000; omega)⟩
        rw [← r1, ← r2] at h2'
        by_cases he : q1.2.1 = 0
        · obtain ⟨⟨a1, a2, a3⟩, a4⟩ : At9 t1 (s.p + 1) q1.2.2 ∧ q1.2.2.L.length + 1 + 2 * s.p ≤ s.L.length + 2 * q1.2.2.p := hat he
          have hgr := go9_gr t1 n _ q1 h1 he s.L s.g (gr_refl _ _ (by omega))
          exact ih (.brl x (l ++ [q1.1]) q1.2.1 q1.2.2) q1'.2.2 q q' h2 h2' (fun _ => ⟨a2, a3⟩) he (r3 he) (fun h => by simp [J9.l] at h) trivial ⟨by show q1.2.2.L.length + 2 * (t1.length - q1.2.2.p) + (l ++ [q1.1]).length ≤ 1000; simp only [List.length_append, List.length_cons, List.length_nil]; omega, r5, L0, g0, gr_trans g3 hgr.2⟩
        · obtain rfl := brl_no he h2
          obtain rfl := brl_no he h2'
          exact ⟨⟨rfl, rfl, fun h => absurd h he, r4⟩, r5⟩
      · rename_i h0
        rw [if_neg h0] at h'
        injection h with h
        injection h' with h'
        subst h
        subst h'
        unfold brE
        rw [if_neg (show ¬ ((0 : Int) ≠ 0) from fun h => h rfl), if_neg (show ¬ ((0 : Int) ≠ 0) from fun h => h rfl)]
        by_cases h4 : l = []
        · rw [if_pos h4, if_pos h4]
          refine ⟨⟨rfl, rfl, (fun h => by cases h), fun _ => .inr ?_⟩, g2⟩
          exact hE h4
        · rw [if_neg h4, if_neg h4]
          have hs := cat_succ (l := l) (s := s) h4 (fun y hy => gr_in g3 hy) (by omega)
          have ea : catS l s2 = ((catS l s).1, { s2 with L := (catS l s).2.L }) := cat_move l s s2 hR.1 hR.2.1
          obtain ⟨st1, st2, st3⟩ := cat_st l s
          rw [ea, okE_yes hs, okE_yes (x := ((catS l s).1, { s2 with L := (catS l s).2.L })) hs]
          refine ⟨⟨rfl, rfl, fun _ => ⟨rfl, by show (catS l s).2.g = s2.g; rw [st2]; exact hR.2.1, by show (catS l s).2.cl = s2.cl; rw [st3]; exact hR.2.2.1, ?_⟩, fun h => absurd rfl h⟩, fun d hd => ?_⟩
          · show ((catS l s).2.p = s2.p ∧ (catS l s).2.p ≤ b.length) ∨ _
            rw [st1]; exact hR.2.2.2
          · show d ≤ (catS l s).2.g
            rw [st2]
            exact g2 d (show s.cl.l[d]? = some true by rw [← st3]; exact hd)
    | piece s =>
      obtain ⟨j1, j2⟩ := hj
      have j1 : s.p < t1.length := j1
      have g1 : s.L.length + 2 * (t1.length - s.p) + 0 ≤ 1000 := hG.1
      have hja : J9At t1 (.atom s) := ⟨j1, j2⟩
      -- an atom and its repetitions
      have atoms : ∀ (q1 q1' : R9), go9 t1 n (.atom s) = some q1 → go9 t2 n (.atom s2) = some q1' → RRS b.length w (reps9 t1 (t1.length + 1) q1.1 q1.2.1 q1.2.2) (reps9 t2 (t2.length + 1) q1'.1 q1'.2.1 q1'.2.2) ∧ ClI (reps9 t1 (t1.length + 1) q1.1 q1.2.1 q1.2.2).2.2 := fun q1 q1' h1 h1' => by
        have hat := go9_at t1 n _ q1 h1 hja
        obtain ⟨⟨r1, r2, r3, r4⟩, r5⟩ := ih (.atom s) s2 q1 q1' h1 h1' hja rfl hR hE trivial hG
        rw [← r1, ← r2]
        by_cases he : q1.2.1 = 0
        · obtain ⟨⟨a1, a2, a3⟩, a4⟩ : At9 t1 (s.p + 1) q1.2.2 ∧ q1.2.2.L.length + 1 + 2 * s.p ≤ s.L.length + 2 * q1.2.2.p := hat he
          have hgr := go9_gr t1 n _ q1 h1 he s.L s.g (gr_refl _ _ (by omega))
          rw [he]
          obtain ⟨_, b2⟩ := sh_top H (r3 he)
          exact sh_reps H hb (t1.length + 1) (t2.length + 1) q1.1 q1.2.2 q1'.2.2 (r3 he) a2 b2 (by omega) (by omega) (gr_in hgr.2 (by simp)) (by omega) r5
        · rw [reps_no he, reps_no he]
          exact ⟨⟨rfl, rfl, fun h => absurd h he, r4⟩, r5⟩
      have anchor : ∀ (kind : Int), (kind = 7 ∨ kind = 8) → s.p < b.length → s2.p = s.p → RRS b.length w (okE (putS (kind, 0, 0, 0, 0, 0, setZ) (adv s 1))) (okE (putS (kind, 0, 0, 0, 0, 0, setZ) (adv s2 1))) ∧ ClI (okE (putS (kind, 0, 0, 0, 0, 0, setZ) (adv s 1))).2.2 := fun kind hk hp hp2 => by
        refine ⟨sh_put ⟨hR.1, hR.2.1, hR.2.2.1, .inl ⟨by show s.p + 1 = s2.p + 1; omega, hp⟩⟩ (by show s.L.length < 1000; omega) (by rcases hk with rfl | rfl <;> first | exact node_bol _ _ | exact node_eol _ _), fun d hd => ?_⟩
        rw [okE_s] at hd ⊢
        obtain ⟨_, e2, e3⟩ := put_st (kind, 0, 0, 0, 0, 0, setZ) (adv s 1)
        rw [e3] at hd
        rw [e2]
        exact hG.2.1 d hd
      unfold go9 at h
      have h' : (match t2[s2.p]? with
        | none => none
        | some c => if c = 94 then some (okE (putS (7, 0, 0, 0, 0, 0, setZ) (adv s2 1)))
          else if c = 36 then some (okE (putS (8, 0, 0, 0, 0, 0, setZ) (adv s2 1)))
          else (go9 t2 n (.atom s2)).map fun q => reps9 t2 (t2.length + 1) q.1 q.2.1 q.2.2) = some q' := h'
      rcases sh_at H hR with ⟨c1, c2, d, c3, c4, _⟩ | ⟨c1, c2, c3, c4⟩ | ⟨c1, c2, c3, c4⟩
      · have c3 : t1[s.p]? = some d := c3
        rw [c3] at h
        rw [c4] at h'
        dsimp only at h h'
        by_cases h94 : d = 94
        · rw [if_pos h94] at h h'
          injection h with h; injection h' with h'
          subst h; subst h'
          exact anchor 7 (.inl rfl) c1 c2
        rw [if_neg h94] at h h'
        by_cases h36 : d = 36
        · rw [if_pos h36] at h h'
          injection h with h; injection h' with h'
          subst h; subst h'
          exact anchor 8 (.inr rfl) c1 c2
        rw [if_neg h36] at h h'
        obtain ⟨q1, h1, rfl⟩ := map_some h
        obtain ⟨q1', h1', rfl⟩ := map_some h'
        exact atoms q1 q1' h1 h1'
      · have c3 : t1[s.p]? = some c := c3
        rw [c3] at h
        rw [c4] at h'
        dsimp only at h h'
        have n94 : c ≠ 94 := by rcases H.hc with h | h | h <;> (rw [h]; decide)
        have n36 : c ≠ 36 := by rcases H.hc with h | h | h <;> (rw [h]; decide)
        rw [if_neg n94, if_neg n36] at h
        rw [if_neg (by decide), if_neg (by decide)] at h'
        obtain ⟨q1, h1, rfl⟩ := map_some h
        obtain ⟨q1', h1', rfl⟩ := map_some h'
        exact atoms q1 q1' h1 h1'
      · have c3 : t1[s.p]? = none := c3
        rw [c3] at h; cases h
    | atom s =>
      obtain ⟨j1, j2⟩ := hj
      have j1 : s.p < t1.length := j1
      have g1 : s.L.length + 2 * (t1.length - s.p) + 0 ≤ 1000 := hG.1
      unfold go9 at h
      have h' : (match t2[s2.p]? with
        | none => none
        | some c => if repC c then some (noE s2 13)
          else if c = 41 then some (noE s2 14)
          else if c = 40 then go9 t2 n (.group s2)
          else some (leaf9 t2 s2 c)) = some q' := h'
      have no : ∀ e : Int, s.p = s2.p → RRS b.length w (noE s e) (noE s2 e) ∧ ClI (noE s e).2.2 := fun e hp => ⟨⟨rfl, rfl, fun _ => hR, fun _ => .inr hp⟩, hG.2.1⟩
      rcases sh_at H hR with ⟨c1, c2, d, c3, c4, n92, n91, _⟩ | ⟨c1, c2, c3, c4⟩ | ⟨c1, c2, c3, c4⟩
      · have c3 : t1[s.p]? = some d := c3
        rw [c3] at h
        rw [c4] at h'
        dsimp only at h h'
        by_cases hr : repC d
        · rw [if_pos hr] at h h'
          injection h with h; injection h' with h'
          subst h; subst h'
          exact no 13 c2.symm
        rw [if_neg hr] at h h'
        by_cases h41 : d = 41
        · rw [if_pos h41] at h h'
          injection h with h; injection h' with h'
          subst h; subst h'
          exact no 14 c2.symm
        rw [if_neg h41] at h h'
        by_cases h40 : d = 40
        · rw [if_pos h40] at h h'
          exact ih (.group s) s2 q q' h h' ⟨j1, j2⟩ rfl hR hE c1 hG
        rw [if_neg h40] at h h'
        injection h with h; injection h' with h'
        subst h; subst h'
        have leaf : ∀ S : SetT, RRS b.length w (okE (putS (setN S) (adv s 1))) (okE (putS (setN S) (adv s2 1))) ∧ ClI (okE (putS (setN S) (adv s 1))).2.2 := fun S => by
          refine ⟨sh_put ⟨hR.1, hR.2.1, hR.2.2.1, .inl ⟨by have : s2.p = s.p := c2; show s.p + 1 = s2.p + 1; omega, c1⟩⟩ (by show s.L.length < 1000; omega) (node_set _ _ _), fun d hd => ?_⟩
          rw [okE_s] at hd ⊢
          obtain ⟨_, e2, e3⟩ := put_st (setN S) (adv s 1)
          rw [e3] at hd
          rw [e2]
          exact hG.2.1 d hd
        unfold leaf9
        rw [if_neg n92, if_neg n92]
        by_cases h46 : d = 46
        · rw [if_pos h46, if_pos h46]; exact leaf _
        · rw [if_neg h46, if_neg h46, if_neg n91, if_neg n91]; exact leaf _
      · have c3 : t1[s.p]? = some c := c3
        have c1 : s.p = b.length := c1
        rw [c3] at h
        rw [c4] at h'
        dsimp only at h h'
        rw [if_pos (show repC c by unfold repC; rcases H.hc with h | h | h <;> simp [h])] at h
        rw [if_pos (by decide)] at h'
        injection h with h; injection h' with h'
        subst h; subst h'
        exact no 13 (by omega)
      · have c3 : t1[s.p]? = none := c3
        rw [c3] at h; cases h
    | group s =>
      obtain ⟨j1, j2⟩ := hj
      have j1 : s.p < t1.length := j1
      have j2 : s.g ≤ 9 := j2
      have g1 : s.L.length + 2 * (t1.length - s.p) + 0 ≤ 1000 := hG.1
      have hB : s.p < b.length := hB
      have hg : s.g = s2.g := hR.2.1
      have hp : s.p = s2.p := hE rfl
      unfold go9 at h
      have h' : (if 9 ≤ s2.g then some (noE s2 17) else (go9 t2 n (.alts true { s2 with g := s2.g + 1, p := s2.p + 1 })).map (grpE s2.g)) = some q' := h'
      rw [← hg] at h'
      by_cases h9 : 9 ≤ s.g
      · rw [if_pos h9] at h h'
        injection h with h; injection h' with h'
        subst h; subst h'
        exact ⟨⟨rfl, rfl, (fun h => by cases h), fun _ => .inr hp⟩, hG.2.1⟩
      · rw [if_neg h9] at h h'
        obtain ⟨q1, h1, rfl⟩ := map_some h
        obtain ⟨q1', h1', rfl⟩ := map_some h'
        have hj1 : J9At t1 (.alts true { s with g := s.g + 1, p := s.p + 1 }) := ⟨j1, by show s.g + 1 ≤ 9; omega⟩
        have hat := go9_at t1 n _ q1 h1 hj1
        obtain ⟨⟨r1, r2, r3, r4⟩, r5⟩ := ih (.alts true { s with g := s.g + 1, p := s.p + 1 }) { s2 with g := s.g + 1, p := s2.p + 1 } q1 q1' h1 h1' hj1 rfl ⟨hR.1, rfl, hR.2.2.1, .inl ⟨by show s.p + 1 = s2.p + 1; omega, hB⟩⟩ (fun _ => by show s.p + 1 = s2.p + 1; omega) trivial ⟨by show s.L.length + 2 * (t1.length - (s.p + 1)) + 0 ≤ 1000; omega, fun d hd => Nat.le_succ_of_le (hG.2.1 d hd), s.L, s.g + 1, gr_refl _ _ (by show s.L.length ≤ 1000; omega)⟩
        unfold grpE
        by_cases he : q1.2.1 = 0
        · rw [if_neg (fun h => h he), if_neg (fun h => h (r2.symm.trans he)), ← r1]
          obtain ⟨⟨a1, a2, a3⟩, a4, a5⟩ : At9 t1 (s.p + 1) q1.2.2 ∧ q1.2.2.L.length + 1 + 2 * (s.p + 1) ≤ s.L.length + 2 * q1.2.2.p ∧ (true = true → t1[q1.2.2.p]? = some 41) := hat he
          have a5 := a5 rfl
          have hgr : GrE s.L (s.g + 1) q1 := go9_gr t1 n _ q1 h1 he s.L (s.g + 1) (gr_refl _ _ (by omega))
          have hgg : s.g + 1 ≤ q1.2.2.g := by obtain ⟨_, _, _, h, _⟩ := hgr; exact h
          have hR1 := r3 he
          have hplt : q1.2.2.p < b.length ∧ q1'.2.2.p = q1.2.2.p := by
            rcases sh_at H hR1 with ⟨c1, c2, _⟩ | ⟨c1, c2, c3, _⟩ | ⟨c1, c2, c3, _⟩
            · exact ⟨c1, c2⟩
            · rw [a5] at c3
              injection c3 with c3
              rcases H.hc with h | h | h <;> (rw [h] at c3; exact absurd c3 (by decide))
            · rw [a5] at c3; cases c3
          have hR2 : RlS b.length w { q1.2.2 with p := q1.2.2.p + 1, cl := Arr.set q1.2.2.cl (s.g + 1) true } { q1'.2.2 with p := q1'.2.2.p + 1, cl := Arr.set q1'.2.2.cl (s.g + 1) true } := by
            obtain ⟨d1, d2, d3, _⟩ := hR1
            refine ⟨d1, d2, ?_, .inl ⟨by show q1.2.2.p + 1 = q1'.2.2.p + 1; omega, hplt.1⟩⟩
            show Arr.set q1.2.2.cl (s.g + 1) true = Arr.set q1'.2.2.cl (s.g + 1) true
            rw [d3]
          refine ⟨sh_put hR2 (by show q1.2.2.L.length < 1000; omega) (node_grp (gr_in hgr.2 (by simp)) ⟨by omega, by show ((s.g + 1 : Nat) : Int) ≤ (q1.2.2.g : Int); omega⟩), fun d hd => ?_⟩
          rw [okE_s] at hd ⊢
          obtain ⟨_, e2, e3⟩ := put_st (5, q1.1, 0, 0, 0, ((s.g + 1 : Nat) : Int), setZ) { q1.2.2 with p := q1.2.2.p + 1, cl := Arr.set q1.2.2.cl (s.g + 1) true }
          rw [e3] at hd
          rw [e2]
          show d ≤ q1.2.2.g
          have hd : (Arr.set q1.2.2.cl (s.g + 1) true).l[d]? = some true := hd
          by_cases hdg : d = s.g + 1
          · omega
          · refine r5 d ?_
            rw [← hd]
            show _ = (q1.2.2.cl.l.set (s.g + 1) true)[d]?
            rw [List.getElem?_set_ne (by omega)]
        · rw [if_pos he, if_pos (fun h => he (r2.trans h)), ← r2]
          exact ⟨⟨rfl, rfl, fun h => absurd h he, r4⟩, r5⟩
end
end Go.Proofs.Ytfhakeapepafbaa
