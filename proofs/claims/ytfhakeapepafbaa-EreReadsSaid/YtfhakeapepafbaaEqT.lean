/- The document's reader of extended regular expressions: an atom's repetitions, leaves. -/
import Derived.Test.YtfhakeapepafbaaEqS
namespace Go.Proofs.Ytfhakeapepafbaa
abbrev SE9 := Int × List UInt8 × Int × Int × List ND × Int × Arr 10 Bool
abbrev FE (r : Int × RS8) := fun (ag : SE9 → Prop) (s : SE9) => palinoderef08_Reader_extended_l6 ag s.1 s.2.1 s.2.2.1 s.2.2.2.1 s.2.2.2.2.1 s.2.2.2.2.2.1 s.2.2.2.2.2.2 r
theorem atB_lt {b : List UInt8} {p : Nat} (h : 0 ≤ atB b p) : p < b.length := by
  rcases Nat.lt_or_ge p b.length with h1 | h1
  · exact h1
  · unfold atB at h
    rw [List.getElem?_eq_none h1] at h
    exact absurd h (by decide)
theorem atB_some {b : List UInt8} {p : Nat} {c : UInt8} (h : b[p]? = some c) : atB b p = (c.toNat : Int) := by unfold atB; rw [h]
theorem atB_none {b : List UInt8} {p : Nat} (h : b.length ≤ p) : atB b p = -1 := by unfold atB; rw [List.getElem?_eq_none h]
theorem atB_iff {b : List UInt8} {p : Nat} (c : UInt8) : atB b p = (c.toNat : Int) ↔ b[p]? = some c := by
  constructor
  · intro h
    have hl : p < b.length := atB_lt (by omega)
    rw [List.getElem?_eq_getElem hl] at *
    rw [atB_some (List.getElem?_eq_getElem hl)] at h
    rw [u8_inj h]
  · exact atB_some
theorem fe_no (b : List UInt8) (s : Pz) (a e k : Int) (he : e ≠ 0) (ag : SE9 → Prop) : FE (k, rst b s a e) ag (k, b, a, e, s.L, (s.g : Int), s.cl) := split_ (fun h => absurd h he) fun _ => rfl
theorem intv_rel (b : List UInt8) (k : Int) (s : Pz) (hp : s.p + 1 ≤ b.length) :
    (∃ z : Nat, (intvR b (s.p + 1)).2.2.1 = (z : Int) ∧ s.p + 1 ≤ z ∧ (intvR b (s.p + 1)).2.2.2 = true ∧ b[z]? = some 125 ∧ isTimesB (intvR b (s.p + 1)).1 (intvR b (s.p + 1)).2.1 = true ∧ intv9 b k s = okE (putS (4, k, 0, (intvR b (s.p + 1)).1, (intvR b (s.p + 1)).2.1, 0, setZ) { s with p := z + 1 }))
    ∨ (intv9 b k s = noE s 13 ∧ ((intvR b (s.p + 1)).2.2.2 = false ∨ ∃ z : Nat, (intvR b (s.p + 1)).2.2.1 = (z : Int) ∧ z ≤ b.length ∧ b[z]? ≠ some 125)) := by
  unfold intv9 intvR
  by_cases h1 : (numR b (s.p + 1)).2.2 ≠ 0
  · rw [if_pos h1, if_pos h1]
    exact .inr ⟨rfl, .inl rfl⟩
  rw [if_neg h1, if_neg h1]
  obtain ⟨z, hz, hz1, hz2⟩ := num_next (Decidable.not_not.1 h1) hp
  have key : ∀ (lo hi : Int) (a : Nat), s.p + 1 ≤ a → a ≤ b.length → 0 ≤ lo → lo ≤ 255 → (hi = -1 ∨ (lo ≤ hi ∧ hi ≤ 255)) → (∃ w : Nat, ((lo, hi, (a : Int), true) : Int × Int × Int × Bool).2.2.1 = (w : Int) ∧ s.p + 1 ≤ w ∧ true = true ∧ b[w]? = some 125 ∧ isTimesB lo hi = true ∧ intvE b k lo hi s a = okE (putS (4, k, 0, lo, hi, 0, setZ) { s with p := w + 1 })) ∨ (intvE b k lo hi s a = noE s 13 ∧ (true = false ∨ ∃ w : Nat, ((lo, hi, (a : Int), true) : Int × Int × Int × Bool).2.2.1 = (w : Int) ∧ w ≤ b.length ∧ b[w]? ≠ some 125)) := fun lo hi a ha0 ha h0 h255 hh => by
    have ht : isTimesB lo hi = true := by
      unfold isTimesB
      rw [decide_eq_true h0, decide_eq_true h255]
      rcases hh with h | h
      · rw [decide_eq_true h]; rfl
      · rw [decide_eq_true h.1, decide_eq_true h.2]; simp
    have h2 : ¬ (hi ≠ -1 ∧ hi < lo) := by omega
    unfold intvE
    by_cases h3 : b[a]? = some 125
    · rw [if_pos ⟨h3, h2⟩]
      exact .inl ⟨a, rfl, ha0, rfl, h3, ht, rfl⟩
    · rw [if_neg (fun e => h3 e.1)]
      exact .inr ⟨rfl, .inr ⟨a, rfl, ha, h3⟩⟩
  rw [hz, Int.toNat_natCast]
  obtain ⟨n0, n1⟩ := numR_bd b (s.p + 1)
  by_cases h2 : b[z]? = some 44
  · rw [if_pos h2, if_pos h2]
    have hl := (List.getElem?_eq_some_iff.1 h2).1
    obtain ⟨m0, m1⟩ := numR_bd b (z + 1)
    have h39 : (numR b (z + 1)).2.2 = 0 ∨ (numR b (z + 1)).2.2 = 9 ∨ (numR b (z + 1)).2.2 = 3 := by
      unfold numR
      split
      · exact .inr (.inl rfl)
      · split
        · exact .inr (.inr rfl)
        · exact .inl rfl
    rcases h39 with h3 | h3 | h3
    · obtain ⟨w, hw, hw1, hw2⟩ := num_next h3 hl
      by_cases h4 : (numR b (z + 1)).1 < (numR b (s.p + 1)).1
      · have c1 : (numR b (z + 1)).2.2 = 3 ∨ ((numR b (z + 1)).2.2 = 0 ∧ (numR b (z + 1)).1 < (numR b (s.p + 1)).1) := .inr ⟨h3, h4⟩
        rw [if_pos c1, if_pos h3, hw, Int.toNat_natCast]
        refine .inr ⟨?_, .inl rfl⟩
        unfold intvE
        rw [if_neg (fun e => e.2 ⟨by omega, h4⟩)]
      · have c1 : ¬ ((numR b (z + 1)).2.2 = 3 ∨ ((numR b (z + 1)).2.2 = 0 ∧ (numR b (z + 1)).1 < (numR b (s.p + 1)).1)) := by
          rintro (e | e)
          · omega
          · exact h4 e.2
        have c2 : ¬ (numR b (z + 1)).2.2 ≠ 0 := fun e => e h3
        rw [if_neg c1, if_neg c2, if_pos h3, hw, Int.toNat_natCast]
        exact key (numR b (s.p + 1)).1 (numR b (z + 1)).1 w (by omega) hw2 n0 n1 (.inr ⟨by omega, m1⟩)
    · have c1 : ¬ ((numR b (z + 1)).2.2 = 3 ∨ ((numR b (z + 1)).2.2 = 0 ∧ (numR b (z + 1)).1 < (numR b (s.p + 1)).1)) := by
        rintro (e | e)
        · omega
        · have := e.1; omega
      have c2 : (numR b (z + 1)).2.2 ≠ 0 := by omega
      have c3 : ¬ (numR b (z + 1)).2.2 = 0 := by omega
      rw [if_neg c1, if_pos c2, if_neg c3, if_pos h3]
      have := key (numR b (s.p + 1)).1 (-1) (z + 1) (by omega) hl n0 n1 (.inl rfl)
      rw [show ((z + 1 : Nat) : Int) = (z : Int) + 1 by omega] at this
      exact this
    · have c1 : (numR b (z + 1)).2.2 = 3 ∨ ((numR b (z + 1)).2.2 = 0 ∧ (numR b (z + 1)).1 < (numR b (s.p + 1)).1) := .inl h3
      have c3 : ¬ (numR b (z + 1)).2.2 = 0 := by omega
      have c4 : ¬ (numR b (z + 1)).2.2 = 9 := by omega
      rw [if_pos c1, if_neg c3, if_neg c4]
      exact .inr ⟨rfl, .inl rfl⟩
  · rw [if_neg h2, if_neg h2]
    exact key (numR b (s.p + 1)).1 (numR b (s.p + 1)).1 z (by omega) hz2 n0 n1 (.inr ⟨Int.le_refl _, n1⟩)
/-- No place for groups that have not begun. -/
def ClI (s : Pz) : Prop := ∀ d : Nat, s.cl.l[d]? = some true → d ≤ s.g
theorem rreps9_ok (b : List UInt8) (hb : b.length ≤ 1000) : ∀ (n : Nat) (k : Int) (s : Pz), s.p ≤ b.length → b.length - s.p < n → (0 ≤ k ∧ k < (s.L.length : Int)) → s.L.length + 2 * (b.length - s.p) ≤ 1000 → ClI s →
    (∃ k', (∃ m, FE (k', fr9 b (reps9 b n k 0 s)) (LT (FE (k', fr9 b (reps9 b n k 0 s))) m) (k, b, (s.p : Int), 0, s.L, (s.g : Int), s.cl)) ∧ ((reps9 b n k 0 s).2.1 = 0 → k' = (reps9 b n k 0 s).1)) ∧ ClI (reps9 b n k 0 s).2.2 := by
  intro n
  induction n with
  | zero => intro k s _ h; omega
  | succ n ih =>
    intro k s hp hn hk hL hC
    have nx : palinoderef08_Reader_Next_R (rst b s (s.p : Int) 0) 0 (atB b s.p) := rnext_ok b s s.p 0 0 (by omega) (by omega)
    have hin : InR ((s.p : Int) + 1) := ⟨by omega, by omega⟩
    have after : ∀ (lo hi : Int) (a : Nat), s.p + 1 ≤ a → a ≤ b.length → isTimesB lo hi = true → reps9 b (n + 1) k 0 s = reps9 b n (okE (putS (4, k, 0, lo, hi, 0, setZ) { s with p := a })).1 (okE (putS (4, k, 0, lo, hi, 0, setZ) { s with p := a })).2.1 (okE (putS (4, k, 0, lo, hi, 0, setZ) { s with p := a })).2.2 →
        (∀ (r : Int × RS8) (m : Nat), palinoderef08_Reader_extended_j9 b 0 s.L (s.g : Int) s.cl k (LT (FE r) (m + 1)) (a : Int) lo hi r → FE r (LT (FE r) (m + 1)) (k, b, (s.p : Int), 0, s.L, (s.g : Int), s.cl)) →
        (∃ k', (∃ m, FE (k', fr9 b (reps9 b (n + 1) k 0 s)) (LT (FE (k', fr9 b (reps9 b (n + 1) k 0 s))) m) (k, b, (s.p : Int), 0, s.L, (s.g : Int), s.cl)) ∧ ((reps9 b (n + 1) k 0 s).2.1 = 0 → k' = (reps9 b (n + 1) k 0 s).1)) ∧ ClI (reps9 b (n + 1) k 0 s).2.2 := fun lo hi a ha hal ht he step => by
      obtain ⟨p1, p2, p3⟩ := put_both (b := b) (nd := (4, k, 0, lo, hi, 0, setZ)) (s := { s with p := a }) (a : Int) rfl (by show s.L.length < 1000; omega) (node_rep s.g hk ht)
      rw [p3] at p1 he
      rw [he]
      obtain ⟨⟨k', ⟨m, hm⟩, h2⟩, h3⟩ := ih (s.L.length : Int) { s with p := a, L := s.L ++ [(4, k, 0, lo, hi, 0, setZ)] } hal (by show b.length - a < n; omega) ⟨Int.natCast_nonneg _, by show (s.L.length : Int) < ((s.L ++ [_]).length : Int); simp; omega⟩ (by show (s.L ++ [_]).length + 2 * (b.length - a) ≤ 1000; simp; omega) hC
      exact ⟨⟨k', ⟨m + 1, step _ m ⟨_, p1, .inr hm⟩⟩, h2⟩, h3⟩
    have rstep : ∀ {q : R9}, isRep b s.p = true → rep9 b k s = q → reps9 b (n + 1) k 0 s = reps9 b n q.1 q.2.1 q.2.2 := fun h1 h2 => by
      show (if (0 : Int) = 0 ∧ isRep b s.p = true then _ else _) = _
      rw [if_pos ⟨rfl, h1⟩, h2]
    cases hr : isRep b s.p with
    | false =>
      have he : reps9 b (n + 1) k 0 s = (k, 0, s) := by
        show (if (0 : Int) = 0 ∧ isRep b s.p = true then _ else _) = _
        rw [if_neg (by rw [hr]; simp)]
      rw [he]
      have hno : ∀ c : UInt8, (c = 42 ∨ c = 43 ∨ c = 63 ∨ c = 123) → atB b s.p ≠ (c.toNat : Int) := fun c hc h => by
        rw [isRep_iff.2 (by rcases hc with rfl | rfl | rfl | rfl <;> simp [(atB_iff _).1 h])] at hr; cases hr
      have n42 : atB b s.p ≠ 42 := hno 42 (by decide)
      have n43 : atB b s.p ≠ 43 := hno 43 (by decide)
      have n63 : atB b s.p ≠ 63 := hno 63 (by decide)
      have n123 : atB b s.p ≠ 123 := hno 123 (by decide)
      exact ⟨⟨k, ⟨0, split_ (fun _ => ⟨_, nx, split_ (fun h => absurd h n43) fun _ => split_ (fun h => absurd h n63) fun _ => inR_ hin (split_ (fun h => absurd h n123) fun _ => split_ (fun _ => split_ (fun _ => split_ (fun _ => rfl) fun h => absurd n63 h) fun h => absurd n43 h) fun h => absurd n42 h)⟩) fun h => absurd rfl h⟩, fun _ => rfl⟩, hC⟩
    | true =>
      have hl := isRep_lt hr
      rcases isRep_iff.1 hr with h | h | h | h
      · have ha : atB b s.p = 42 := atB_some h
        refine after 0 (-1) (s.p + 1) (Nat.le_refl _) hl rfl (rstep hr (by unfold rep9; rw [h]; rfl)) fun r m hj => ?_
        rw [show ((s.p + 1 : Nat) : Int) = (s.p : Int) + 1 by omega] at hj
        exact split_ (fun _ => ⟨_, nx, split_ (fun h => by omega) fun _ => split_ (fun h => by omega) fun _ => inR_ hin (split_ (fun h => by omega) fun _ => split_ (fun h => absurd ha h) fun _ => hj)⟩) fun h => absurd rfl h
      · have ha : atB b s.p = 43 := atB_some h
        refine after 1 (-1) (s.p + 1) (Nat.le_refl _) hl rfl (rstep hr (by unfold rep9; rw [h]; rfl)) fun r m hj => ?_
        rw [show ((s.p + 1 : Nat) : Int) = (s.p : Int) + 1 by omega] at hj
        exact split_ (fun _ => ⟨_, nx, split_ (fun _ => split_ (fun h => by omega) fun _ => inR_ hin (split_ (fun h => by omega) fun _ => split_ (fun _ => split_ (fun h => absurd ha h) fun _ => hj) fun h => by omega)) fun h => absurd ha h⟩) fun h => absurd rfl h
      · have ha : atB b s.p = 63 := atB_some h
        refine after 0 1 (s.p + 1) (Nat.le_refl _) hl rfl (rstep hr (by unfold rep9; rw [h]; rfl)) fun r m hj => ?_
        rw [show ((s.p + 1 : Nat) : Int) = (s.p : Int) + 1 by omega] at hj
        exact split_ (fun _ => ⟨_, nx, split_ (fun h => by omega) fun _ => split_ (fun _ => inR_ hin (split_ (fun h => by omega) fun _ => split_ (fun _ => split_ (fun _ => split_ (fun h => absurd ha h) fun _ => hj) fun h => by omega) fun h => by omega)) fun h => absurd ha h⟩) fun h => absurd rfl h
      · have ha : atB b s.p = 123 := atB_some h
        have hiv := rintv_ok b s (s.p : Int) 0 (s.p + 1) hb hl
        rw [show ((s.p + 1 : Nat) : Int) = (s.p : Int) + 1 by omega] at hiv
        have hrep : rep9 b k s = intv9 b k s := by unfold rep9; rw [h]; rfl
        have pre : ∀ (r : Int × RS8) (ag : SE9 → Prop), ((¬ ((intvR b (s.p + 1)).2.2.2 = true) → palinoderef08_Reader_extended_j10 k b (s.p : Int) s.L (s.g : Int) s.cl (intvR b (s.p + 1)) 0 ag true r) ∧ (¬ (¬ ((intvR b (s.p + 1)).2.2.2 = true)) → (((b.length : Int) ≤ (intvR b (s.p + 1)).2.2.1 → palinoderef08_Reader_extended_j10 k b (s.p : Int) s.L (s.g : Int) s.cl (intvR b (s.p + 1)) 0 ag true r) ∧ (¬ ((b.length : Int) ≤ (intvR b (s.p + 1)).2.2.1) → 0 ≤ ((intvR b (s.p + 1)).2.2.1 : Int) ∧ ∃ y871 : UInt8, b[((intvR b (s.p + 1)).2.2.1 : Int).toNat]? = some y871 ∧ palinoderef08_Reader_extended_j10 k b (s.p : Int) s.L (s.g : Int) s.cl (intvR b (s.p + 1)) 0 ag (!(decide ((y871.toNat : Int) = 125))) r)))) → FE r ag (k, b, (s.p : Int), 0, s.L, (s.g : Int), s.cl) := fun r ag hr =>
          split_ (fun _ => ⟨_, nx, split_ (fun h => by omega) fun _ => split_ (fun h => by omega) fun _ => inR_ hin (split_ (fun _ => inR_ hin ⟨_, hiv, hr⟩) fun h => absurd ha h)⟩) fun h => absurd rfl h
        rcases intv_rel b k s hl with ⟨z, hz, hz1, hok, h125, ht, he⟩ | ⟨he, hno⟩
        · have hzl := (List.getElem?_eq_some_iff.1 h125).1
          refine after _ _ (z + 1) (by omega) hzl ht (rstep hr (hrep.trans he)) fun r m hj => pre r _ ?_
          refine split_ (fun h => absurd hok h) fun _ => split_ (fun h => by omega) fun _ => ⟨by omega, 125, by rw [hz, Int.toNat_natCast]; exact h125, ?_⟩
          refine split_ (fun h => by cases h) fun _ => inR_ (by rw [hz]; omega) ?_
          rw [hz, show (z : Int) + 1 = ((z + 1 : Nat) : Int) by omega]
          exact hj
        · have hrr : reps9 b (n + 1) k 0 s = (-1, 13, s) := by
            rw [rstep hr (hrep.trans he)]
            show reps9 b n (-1) 13 s = _
            cases n with
            | zero => rfl
            | succ n => show (if (13 : Int) = 0 ∧ _ then _ else _) = _; rw [if_neg (by simp)]
          rw [hrr]
          refine ⟨⟨k, ⟨0, pre _ _ ?_⟩, fun h => by cases h⟩, hC⟩
          have j10 : ∀ (x : Bool) (ag : SE9 → Prop), x = true → palinoderef08_Reader_extended_j10 k b (s.p : Int) s.L (s.g : Int) s.cl (intvR b (s.p + 1)) 0 ag x (k, fr9 b (-1, 13, s)) := fun x ag hx => split_ (fun _ => rfl) fun h => absurd hx h
          rcases hno with hno | ⟨z, hz, hz1, hno⟩
          · exact split_ (fun _ => j10 true _ rfl) fun h => absurd (by rw [hno]; decide) h
          · refine split_ (fun _ => j10 true _ rfl) fun _ => split_ (fun _ => j10 true _ rfl) fun h5 => ?_
            obtain ⟨x, hx⟩ : ∃ x, b[z]? = some x := ⟨_, List.getElem?_eq_getElem (by omega)⟩
            refine ⟨by omega, x, by rw [hz, Int.toNat_natCast]; exact hx, j10 _ _ ?_⟩
            rw [hx] at hno
            rw [decide_eq_false (fun e => hno (by rw [u8_inj (a := x) (b := 125) e]))]; rfl
end Go.Proofs.Ytfhakeapepafbaa
