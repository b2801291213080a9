/- The document's reader of extended regular expressions comes to where the program's does. -/
import Derived.Test.YtfhakeapepafbaaEqU
namespace Go.Proofs.Ytfhakeapepafbaa
abbrev SA := List Int × List UInt8 × Int × Int × List ND × Int × Arr 10 Bool
abbrev FA (c5 : PB) (x : Bool) (r : Int × RS8) := fun (ag : SA → Prop) (s : SA) => palinoderef08_Reader_Alt_l1 x c5 ag s.1 s.2.1 s.2.2.1 s.2.2.2.1 s.2.2.2.2.1 s.2.2.2.2.2.1 s.2.2.2.2.2.2 r
abbrev F2 (c5 : PB) (x : Bool) (l0 : List Int) (ag1 : SA → Prop) (r : Int × RS8) := fun (ag2 : SA → Prop) (s : SA) => palinoderef08_Reader_Alt_l2 x c5 l0 ag1 ag2 s.1 s.2.1 s.2.2.1 s.2.2.2.1 s.2.2.2.2.1 s.2.2.2.2.2.1 s.2.2.2.2.2.2 r
abbrev SL := Int × Int × List UInt8 × Int × Int × List ND × Int × Arr 10 Bool
abbrev FL (l0 : List Int) (y : Int × RS8) (r : Int × RS8) := fun (ag : SL → Prop) (s : SL) => palinoderef08_Reader_Alt_l8 l0 y ag s.1 s.2.1 s.2.2.1 s.2.2.2.1 s.2.2.2.2.1 s.2.2.2.2.2.1 s.2.2.2.2.2.2.1 s.2.2.2.2.2.2.2 r
/-- What comes behind a branch. -/
def Rest9 (x : Bool) (l0 : List Int) (y : Int × RS8) (ag1 : SA → Prop) (r : Int × RS8) : Prop := Room (l0.length + ([y.1]).length) 8 ∧ ∃ z : Int, palinoderef08_Reader_Next_R y.2 0 z ∧ ((¬ (z = 124) → ((x = true → ((y.2.2.2.1 = 0 → ∃ w : Int, palinoderef08_Reader_Next_R y.2 0 w ∧ palinoderef08_Reader_Alt_j7 l0 y (decide (w < 0)) r) ∧ (¬ (y.2.2.2.1 = 0) → palinoderef08_Reader_Alt_j7 l0 y false r))) ∧ (¬ (x = true) → palinoderef08_Reader_Alt_j7 l0 y false r))) ∧ (¬ (¬ (z = 124)) → InR (y.2.2.1 + 1) ∧ ag1 ((l0 ++ [y.1]), y.2.1, (y.2.2.1 + 1), y.2.2.2.1, y.2.2.2.2.1.1, y.2.2.2.2.1.2, y.2.2.2.2.2)))
theorem afold_no (b : List UInt8) (l0 : List Int) (y : Int × RS8) (hl : (l0 ++ [y.1]).length ≤ 100000) (s : Pz) (a e : Int) (he : e ≠ 0) : ∀ (rest : List Int) (i : Nat) (k0 : Int), (l0 ++ [y.1]).drop i = rest → i ≤ (l0 ++ [y.1]).length → ∃ k n, FL l0 y (k, rst b s a e) (LT (FL l0 y (k, rst b s a e)) n) (k0, (i : Int), b, a, e, s.L, (s.g : Int), s.cl) := by
  intro rest
  induction rest with
  | nil =>
    intro i k0 h hi
    have := congrArg List.length h
    rw [List.length_drop, List.length_nil] at this
    refine ⟨k0, 0, split_ (fun h => ?_) fun _ => rfl⟩
    have h : (i : Int) < ((l0 ++ [y.1]).length : Int) := h
    omega
  | cons z rest ih =>
    intro i k0 h hi
    have h2 := congrArg List.length h
    rw [List.length_drop, List.length_cons] at h2
    have hy : (l0 ++ [y.1])[i]? = some z := by have := congrArg (fun q => q[0]?) h; simpa using this
    obtain ⟨k, n, hk⟩ := ih (i + 1) 0 (by rw [drop_g hy] at h; exact (List.cons.inj h).2) (by omega)
    refine ⟨k, n + 1, split_ (fun _ => ⟨by show (0 : Int) ≤ (i : Int); omega, z, by show (l0 ++ [y.1])[((i : Int)).toNat]? = _; rw [Int.toNat_natCast]; exact hy, _, rput_no b _ s a e he, inR_ (by show -9223372036854775808 ≤ (i : Int) + 1 ∧ (i : Int) + 1 ≤ _; omega) (.inr ?_)⟩) fun h => ?_⟩
    · exact hk
    · have h : ¬ (i : Int) < ((l0 ++ [y.1]).length : Int) := h
      omega
theorem fold_neg3 {kind : Int} {t : List Int} {s : Pz} : ¬ 0 ≤ (foldS kind t (-1) s).1 := by rw [fold_m1]; decide
theorem afold_ok (b : List UInt8) (l0 : List Int) (y : Int × RS8) (hl : (l0 ++ [y.1]).length ≤ 100000) (a : Int) : ∀ (rest : List Int) (i : Nat) (x : Int) (s : Pz), (l0 ++ [y.1]).drop i = rest → i ≤ (l0 ++ [y.1]).length → 0 ≤ x → 0 ≤ (foldS 3 rest x s).1 →
    ∃ n, FL l0 y ((foldS 3 rest x s).1, rst b (foldS 3 rest x s).2 a 0) (LT (FL l0 y ((foldS 3 rest x s).1, rst b (foldS 3 rest x s).2 a 0)) n) (x, (i : Int), b, a, 0, s.L, (s.g : Int), s.cl) := by
  intro rest
  induction rest with
  | nil =>
    intro i x s h hi hx _
    have := congrArg List.length h
    rw [List.length_drop, List.length_nil] at this
    refine ⟨0, split_ (fun h => ?_) fun _ => rfl⟩
    have h : (i : Int) < ((l0 ++ [y.1]).length : Int) := h
    omega
  | cons z rest ih =>
    intro i x s h hi hx hs
    have h2 := congrArg List.length h
    rw [List.length_drop, List.length_cons] at h2
    have hy : (l0 ++ [y.1])[i]? = some z := by have := congrArg (fun q => q[0]?) h; simpa using this
    have hd : (l0 ++ [y.1]).drop (i + 1) = rest := by rw [drop_g hy] at h; exact (List.cons.inj h).2
    rw [fold_cons, if_neg (by omega)] at hs ⊢
    by_cases hpos : 0 ≤ (putS (3, x, z, 0, 0, 0, setZ) s).1
    · obtain ⟨n, hn⟩ := ih (i + 1) _ (putS (3, x, z, 0, 0, 0, setZ) s).2 hd (by omega) hpos hs
      refine ⟨n + 1, split_ (fun _ => ⟨by show (0 : Int) ≤ (i : Int); omega, z, by show (l0 ++ [y.1])[((i : Int)).toNat]? = _; rw [Int.toNat_natCast]; exact hy, _, put_ref a hpos, inR_ (by show -9223372036854775808 ≤ (i : Int) + 1 ∧ (i : Int) + 1 ≤ _; omega) (.inr hn)⟩) fun h => ?_⟩
      have h : ¬ (i : Int) < ((l0 ++ [y.1]).length : Int) := h
      omega
    · rw [put_neg hpos] at hs
      exact absurd hs fold_neg3
/-- There is room for the nodes, and what was put is right. -/
def Good9 (b : List UInt8) (s : Pz) (l : List Int) : Prop := s.L.length + 2 * (b.length - s.p) + l.length ≤ 1000 ∧ ClI s ∧ ∃ L g, Gr L g s.L s.g l
def End9 (b : List UInt8) (x : Bool) (p : Nat) : Prop := b.length ≤ p ∨ b[p]? = some 124 ∨ (x = true ∧ b[p]? = some 41)
theorem br_end (b : List UInt8) : ∀ (n : Nat) (x : Bool) (l : List Int) (e : Int) (s : Pz) (q : R9), go9 b n (.brl x l e s) = some q → q.2.1 = 0 → End9 b x q.2.2.p := by
  intro n
  induction n with
  | zero => intro x l e s q h; cases h
  | succ n ih =>
    intro x l e s q h hw
    have he := go9_end (.inr h) hw
    subst he
    unfold go9 at h
    split at h
    · obtain ⟨q1, h1, h2⟩ := bind_some h
      exact ih _ _ _ _ q h2 hw
    · rename_i h0
      injection h with h
      subst h
      unfold brE at hw ⊢
      rw [if_neg (fun h => h rfl)] at hw ⊢
      split at hw
      · cases hw
      · rename_i h3
        rw [if_neg h3, okE_s, (cat_st l s).1]
        by_cases h4 : s.p < b.length
        · by_cases h5 : b[s.p]? = some 124
          · exact .inr (.inl h5)
          · exact .inr (.inr (Decidable.not_not.1 fun h6 => h0 (moreB_iff.2 ⟨rfl, h4, h5, h6⟩)))
        · exact .inl (by omega)
/-- What the document's reader does of a job. -/
def J9Ref (b : List UInt8) (n : Nat) : J9 → R9 → Prop
  | .alts x s, q => Good9 b s [] → (∃ k, (TT n).1 (rst b s (s.p : Int) 0) x (k, fr9 b q) ∧ (q.2.1 = 0 → k = q.1)) ∧ ClI q.2.2
  | .altl x l e s, q => e = 0 → Good9 b s l → End9 b x s.p → ∀ l0 k1, l = l0 ++ [k1] → l.length ≤ s.p + 1 → (∃ kk, (q.2.1 = 0 → kk = q.1) ∧ ∀ N, n ≤ N → ∃ m, Rest9 x l0 (k1, rst b s (s.p : Int) 0) (LT (FA (TT N).2.1 x (kk, fr9 b q)) m) (kk, fr9 b q)) ∧ ClI q.2.2
  | .branch x s, q => Good9 b s [] → (∀ N, n ≤ N → ∀ l0 ag1 r, (q.2.1 ≠ 0 → r = (0, fr9 b q)) → (q.2.1 = 0 → Rest9 x l0 (q.1, fr9 b q) ag1 r) → palinoderef08_Reader_Alt_l1 x (TT N).2.1 ag1 l0 b (s.p : Int) 0 s.L (s.g : Int) s.cl r) ∧ ClI q.2.2
  | .brl x l e s, q => e = 0 → Good9 b s l → l.length ≤ s.p → (∀ N, n ≤ N → ∀ l0 ag1 r, (q.2.1 ≠ 0 → r = (0, fr9 b q)) → (q.2.1 = 0 → Rest9 x l0 (q.1, fr9 b q) ag1 r) → ∃ m, F2 (TT N).2.1 x l0 ag1 r (LT (F2 (TT N).2.1 x l0 ag1 r) m) (l, b, (s.p : Int), 0, s.L, (s.g : Int), s.cl)) ∧ ClI q.2.2
  | .piece s, q => Good9 b s [] → (∃ k, (∀ f, (TT n).2.1 (rst b s (s.p : Int) 0) f (k, fr9 b q)) ∧ (q.2.1 = 0 → k = q.1)) ∧ ClI q.2.2
  | .atom s, q => Good9 b s [] → ∀ c, b[s.p]? = some c → ¬ repC c → c ≠ 41 → (∀ N, n ≤ N → ∃ k, (∀ r, J4 k (fr9 b q) r → palinoderef08_Reader_extended_j2 (rst b s (s.p : Int) 0) (c.toNat : Int) (TT N).2.2.1 false r) ∧ (q.2.1 = 0 → k = q.1)) ∧ ClI q.2.2
  | .group s, q => Good9 b s [] → (∃ k, (TT n).2.2.1 (rst b s (s.p : Int) 0) 1 false (k, fr9 b q) ∧ (q.2.1 = 0 → k = q.1)) ∧ ClI q.2.2
theorem altl_no {b : List UInt8} {n : Nat} {x : Bool} {l : List Int} {e : Int} {s : Pz} {q : R9} (he : e ≠ 0) (h : go9 b n (.altl x l e s) = some q) : q = (-1, e, s) := by
  cases n with
  | zero => cases h
  | succ n => rw [(go9_no b n x l e s he).1] at h; injection h with h; exact h.symm
theorem brl_no {b : List UInt8} {n : Nat} {x : Bool} {l : List Int} {e : Int} {s : Pz} {q : R9} (he : e ≠ 0) (h : go9 b n (.brl x l e s) = some q) : q = (-1, e, s) := by
  cases n with
  | zero => cases h
  | succ n => rw [(go9_no b n x l e s he).2] at h; injection h with h; exact h.symm
theorem reps_no {b : List UInt8} {n : Nat} {k e : Int} {s : Pz} (he : e ≠ 0) : reps9 b n k e s = (k, e, s) := by
  cases n with
  | zero => rfl
  | succ n => unfold reps9; rw [if_neg (fun h => he h.1)]
theorem good_nil {b : List UInt8} {s : Pz} {l : List Int} (h : Good9 b s l) : Good9 b s [] := ⟨by have := h.1; simp only [List.length_nil]; omega, h.2.1, s.L, s.g, gr_refl _ _ (by have := h.1; omega)⟩
theorem rep_dec (c : UInt8) : (decide ((c.toNat : Int) = 42) || (decide ((c.toNat : Int) = 43) || (decide ((c.toNat : Int) = 63) || decide ((c.toNat : Int) = 123)))) = decide (repC c) := by
  have e : ∀ d : UInt8, decide ((c.toNat : Int) = (d.toNat : Int)) = decide (c = d) := fun d => by
    by_cases h : c = d
    · rw [decide_eq_true h, decide_eq_true (by rw [h])]
    · rw [decide_eq_false h, decide_eq_false (fun e => h (u8_inj e))]
  have e1 := e 42
  have e2 := e 43
  have e3 := e 63
  have e4 := e 123
  rw [show (((42 : UInt8).toNat : Nat) : Int) = 42 from rfl] at e1
  rw [show (((43 : UInt8).toNat : Nat) : Int) = 43 from rfl] at e2
  rw [show (((63 : UInt8).toNat : Nat) : Int) = 63 from rfl] at e3
  rw [show (((123 : UInt8).toNat : Nat) : Int) = 123 from rfl] at e4
  rw [e1, e2, e3, e4, ← Bool.decide_or, ← Bool.decide_or, ← Bool.decide_or]
  rfl
theorem go9_ref (b : List UInt8) (hb : b.length ≤ 1000) : ∀ (n : Nat) (j : J9) (q : R9), go9 b n j = some q → J9At b j → J9Ref b n j q := by
  intro n
  induction n with
  | zero => intro j q h; cases h
  | succ n ih =>
    intro j q h hj
    cases j with
    | alts x s =>
      intro hG
      obtain ⟨q1, h1, h2⟩ := bind_some h
      have hjb : J9At b (.branch x s) := hj
      have hat := go9_at b n _ q1 h1 hjb
      obtain ⟨r1, r2⟩ := ih _ _ h1 hjb hG
      by_cases he : q1.2.1 = 0
      · obtain ⟨⟨a1, a2, a3⟩, a4⟩ : At9 b s.p q1.2.2 ∧ q1.2.2.L.length + 1 + 2 * s.p ≤ s.L.length + 2 * q1.2.2.p := hat he
        have hgr := go9_gr b n _ q1 h1 he s.L s.g (gr_refl _ _ (by have := hG.1; omega))
        have hend : End9 b x q1.2.2.p := by
          cases n with
          | zero => cases h1
          | succ n => exact br_end b n x [] 0 s q1 h1 he
        obtain ⟨⟨kk, c1, c2⟩, c3⟩ := ih (.altl x [q1.1] q1.2.1 q1.2.2) q h2 ⟨by simp, fun _ => ⟨a2, a3⟩⟩ he ⟨by have := hG.1; simp only [List.length_nil, List.length_cons] at *; omega, r2, s.L, s.g, hgr.2⟩ hend [] q1.1 rfl (by simp)
        obtain ⟨m, hm⟩ := c2 n (Nat.le_refl _)
        refine ⟨⟨kk, .inr (loop_it m ?_), c1⟩, c3⟩
        refine r1 n (Nat.le_refl _) [] _ _ (fun h => absurd he h) fun _ => ?_
        have : fr9 b q1 = rst b q1.2.2 (q1.2.2.p : Int) 0 := by unfold fr9; rw [he]
        rw [this]; exact hm
      · obtain rfl := altl_no he h2
        refine ⟨⟨0, .inr (loop_it 0 ?_), fun h => absurd h he⟩, r2⟩
        exact r1 n (Nat.le_refl _) [] _ _ (fun _ => rfl) fun h => absurd h he
    | altl x l e s =>
      intro e0 hG hend l0 k1 hl hlen
      subst e0
      obtain ⟨hj1, hj2⟩ := hj
      obtain ⟨j1, j2⟩ := hj2 rfl
      have nx : palinoderef08_Reader_Next_R (rst b s (s.p : Int) 0) 0 (atB b s.p) := rnext_ok b s s.p 0 0 (by omega) (by omega)
      have hin : InR ((s.p : Int) + 1) := ⟨by omega, by omega⟩
      have hll : l.length = l0.length + 1 := by rw [hl]; simp
      unfold go9 at h
      split at h
      · rename_i h0
        have h124 := h0.2
        have ha : atB b s.p = 124 := atB_some h124
        have hp := (List.getElem?_eq_some_iff.1 h124).1
        obtain ⟨q1, h1, h2⟩ := bind_some h
        have hjb : J9At b (.branch x (adv s 1)) := ⟨hp, j2⟩
        have hat := go9_at b n _ q1 h1 hjb
        have hG1 : Good9 b (adv s 1) [] := ⟨by have := hG.1; show s.L.length + 2 * (b.length - (s.p + 1)) + 0 ≤ 1000; omega, hG.2.1, s.L, s.g, gr_refl _ _ (by have := hG.1; omega)⟩
        obtain ⟨r1, r2⟩ := ih _ _ h1 hjb hG1
        have pre : ∀ (r : Int × RS8) (ag : SA → Prop), ag (l, b, (s.p : Int) + 1, 0, s.L, (s.g : Int), s.cl) → Rest9 x l0 (k1, rst b s (s.p : Int) 0) ag r := fun r ag hag => by
          refine room_ (by show l0.length + 1 ≤ _; omega) (by omega) ⟨_, nx, split_ (fun h => absurd ha h) fun _ => inR_ hin ?_⟩
          rw [hl] at hag; exact hag
        by_cases he : q1.2.1 = 0
        · obtain ⟨⟨a1, a2, a3⟩, a4⟩ : At9 b (s.p + 1) q1.2.2 ∧ q1.2.2.L.length + 1 + 2 * (s.p + 1) ≤ s.L.length + 2 * q1.2.2.p := hat he
          obtain ⟨g1, g2, L0, g0, g3⟩ := hG
          have hgr := go9_gr b n _ q1 h1 he s.L s.g (gr_refl _ _ (by omega))
          have hend1 : End9 b x q1.2.2.p := by
            cases n with
            | zero => cases h1
            | succ n => exact br_end b n x [] 0 (adv s 1) q1 h1 he
          obtain ⟨⟨kk, c1, c2⟩, c3⟩ := ih (.altl x (l ++ [q1.1]) q1.2.1 q1.2.2) q h2 ⟨by simp, fun _ => ⟨a2, a3⟩⟩ he ⟨by simp only [List.length_append, List.length_cons, List.length_nil]; omega, r2, L0, g0, gr_trans g3 hgr.2⟩ hend1 l q1.1 rfl (by simp only [List.length_append, List.length_cons, List.length_nil]; omega)
          refine ⟨⟨kk, c1, fun N hN => ?_⟩, c3⟩
          obtain ⟨m, hm⟩ := c2 N (by omega)
          refine ⟨m + 1, pre _ _ (.inr ?_)⟩
          have := r1 N (by omega) l (LT (FA (TT N).2.1 x (kk, fr9 b q)) m) (kk, fr9 b q) (fun h => absurd he h) fun _ => by
            have : fr9 b q1 = rst b q1.2.2 (q1.2.2.p : Int) 0 := by unfold fr9; rw [he]
            rw [this]; exact hm
          rw [show (s.p : Int) + 1 = (((adv s 1).p : Nat) : Int) by show _ = ((s.p + 1 : Nat) : Int); omega]
          exact this
        · obtain rfl := altl_no he h2
          refine ⟨⟨0, fun h => absurd h he, fun N hN => ⟨1, pre _ _ (.inr ?_)⟩⟩, r2⟩
          have := r1 N (by omega) l (LT (FA (TT N).2.1 x (0, fr9 b (-1, q1.2.1, q1.2.2))) 0) (0, fr9 b (-1, q1.2.1, q1.2.2)) (fun _ => rfl) fun h => absurd h he
          rw [show (s.p : Int) + 1 = (((adv s 1).p : Nat) : Int) by show _ = ((s.p + 1 : Nat) : Int); omega]
          exact this
      · rename_i h0
        have n124 : b[s.p]? ≠ some 124 := fun e => h0 ⟨rfl, e⟩
        have ha : atB b s.p ≠ 124 := fun e => n124 ((atB_iff 124).1 e)
        injection h with h
        subst h
        have pre : ∀ (r : Int × RS8) (ag : SA → Prop), ((x = true ∧ b[s.p]? ≠ some 41 → palinoderef08_Reader_Alt_j6 l0 (k1, rst b s (s.p : Int) 0) 14 r) ∧ (¬ (x = true ∧ b[s.p]? ≠ some 41) → palinoderef08_Reader_Alt_j6 l0 (k1, rst b s (s.p : Int) 0) 0 r)) → Rest9 x l0 (k1, rst b s (s.p : Int) 0) ag r := fun r ag hr => by
          have j7 : ∀ z : Bool, (z = true ↔ (x = true ∧ b[s.p]? ≠ some 41)) → palinoderef08_Reader_Alt_j7 l0 (k1, rst b s (s.p : Int) 0) z r := fun z hz => split_ (fun h => hr.1 (hz.1 h)) fun h => hr.2 fun e => h (hz.2 e)
          refine room_ (by show l0.length + 1 ≤ _; omega) (by omega) ⟨_, nx, split_ (fun _ => split_ (fun hx => split_ (fun _ => ⟨_, nx, j7 _ ?_⟩) fun h => absurd rfl h) fun hx => j7 false ?_) fun h => absurd (Decidable.not_not.1 h) ha⟩
          · rw [decide_eq_true_eq]
            constructor
            · intro h
              refine ⟨hx, fun e => ?_⟩
              rw [atB_some e] at h
              exact absurd h (by decide)
            · rintro ⟨_, h⟩
              rcases hend with h2 | h2 | ⟨_, h2⟩
              · rw [atB_none h2]; decide
              · exact absurd h2 n124
              · exact absurd h2 h
          · exact ⟨fun e => (by cases e), fun e => absurd e.1 hx⟩
        have hlb : (l0 ++ [k1]).length ≤ 100000 := by simp; omega
        have hhd : ∃ h0, (l0 ++ [k1])[0]? = some h0 := ⟨_, List.getElem?_eq_getElem (by simp)⟩
        obtain ⟨hd, hhd⟩ := hhd
        unfold altE
        rw [if_neg (fun h => h rfl)]
        by_cases h4 : x = true ∧ b[s.p]? ≠ some 41
        · rw [if_pos h4]
          obtain ⟨kk, m, hm⟩ := afold_no b l0 (k1, rst b s (s.p : Int) 0) hlb s (s.p : Int) 14 (by decide) ((l0 ++ [k1]).drop 1) 1 hd rfl (by simp)
          exact ⟨⟨kk, (fun h => by cases h), fun N hN => ⟨0, pre _ _ (split_ (fun _ => ⟨by decide, hd, hhd, loop_it m hm⟩) fun h => absurd h4 h)⟩⟩, hG.2.1⟩
        · rw [if_neg h4]
          obtain ⟨g1, g2, L0, g0, g3⟩ := hG
          have hs := alt_succ (l := l) (s := s) hj1 (fun y hy => gr_in g3 hy) (by omega)
          obtain ⟨st1, st2, st3⟩ := alt_st l s
          have hok := okE_yes hs
          rw [hok]
          have hx0 : 0 ≤ hd ∧ hd < (s.L.length : Int) := gr_in g3 (by rw [hl]; exact List.mem_of_getElem? hhd)
          have e : altS l s = foldS 3 ((l0 ++ [k1]).drop 1) hd s := by
            cases l with
            | nil => exact absurd rfl hj1
            | cons z t =>
              rw [← hl] at hhd ⊢
              obtain rfl : z = hd := by simpa using hhd
              rw [alt_cons, if_neg (by omega)]; rfl
          rw [e] at hs
          obtain ⟨m, hm⟩ := afold_ok b l0 (k1, rst b s (s.p : Int) 0) hlb (s.p : Int) ((l0 ++ [k1]).drop 1) 1 hd s rfl (by simp) hx0.1 hs
          rw [← e] at hm
          have e2 : fr9 b ((altS l s).1, 0, (altS l s).2) = rst b (altS l s).2 (s.p : Int) 0 := by unfold fr9; rw [st1]
          rw [e2]
          refine ⟨⟨(altS l s).1, fun _ => rfl, fun N hN => ⟨0, pre _ _ (split_ (fun h => absurd h h4) fun _ => ⟨by decide, hd, hhd, loop_it m hm⟩)⟩⟩, fun d hd => ?_⟩
          show d ≤ (altS l s).2.g
          rw [st2]
          exact g2 d (by rw [← st3]; exact hd)
    | branch x s =>
      intro hG
      obtain ⟨r1, r2⟩ := ih (.brl x [] 0 s) q h (fun _ => hj) rfl hG (Nat.zero_le _)
      refine ⟨fun N hN l0 ag1 r c1 c2 => ?_, r2⟩
      obtain ⟨m, hm⟩ := r1 N (by omega) l0 ag1 r c1 c2
      exact loop_it m hm
    | brl x l e s =>
      intro e0 hG hlen
      subst e0
      obtain ⟨j1, j2⟩ := hj rfl
      have nx : palinoderef08_Reader_Next_R (rst b s (s.p : Int) 0) 0 (atB b s.p) := rnext_ok b s s.p 0 0 (by omega) (by omega)
      unfold go9 at h
      split at h
      · rename_i h0
        obtain ⟨_, hp, n124, n41⟩ := moreB_iff.1 h0
        obtain ⟨q1, h1, h2⟩ := bind_some h
        have hjb : J9At b (.piece s) := ⟨hp, j2⟩
        have hat := go9_at b n _ q1 h1 hjb
        obtain ⟨⟨k, r1, r3⟩, r2⟩ := ih _ _ h1 hjb (good_nil hG)
        obtain ⟨c, hc⟩ : ∃ c, b[s.p]? = some c := ⟨_, List.getElem?_eq_getElem hp⟩
        have pre : ∀ (N : Nat) (l0 : List Int) (ag1 ag2 : SA → Prop) (r : Int × RS8), (∃ y : Int × RS8, (TT N).2.1 (rst b s (s.p : Int) 0) (decide ((l.length : Int) = 0)) y ∧ ag2 ((l ++ [y.1]), y.2.1, y.2.2.1, y.2.2.2.1, y.2.2.2.2.1.1, y.2.2.2.2.1.2, y.2.2.2.2.2)) → F2 (TT N).2.1 x l0 ag1 r ag2 (l, b, (s.p : Int), 0, s.L, (s.g : Int), s.cl) := fun N l0 ag1 ag2 r ⟨y, hy1, hy2⟩ => by
          have j3 : ∀ z : Bool, z = true → palinoderef08_Reader_Alt_j3 (TT N).2.1 b (s.p : Int) 0 s.L (s.g : Int) s.cl l ag2 l0 x ag1 z r := fun z hz => split_ (fun _ => ⟨y, hy1, room_ (by show l.length + 1 ≤ _; omega) (by omega) hy2⟩) fun h => absurd hz h
          refine split_ (fun _ => ⟨_, nx, split_ (fun _ => ⟨_, nx, split_ (fun _ => split_ (fun hx => ⟨_, nx, j3 _ ?_⟩) fun _ => j3 true rfl) fun h => absurd ((atB_iff 124).1 (Decidable.not_not.1 h)) n124⟩) fun h => absurd (by rw [atB_some hc]; omega) h⟩) fun h => absurd rfl h
          rw [decide_eq_false (show ¬ atB b s.p = 41 from fun e => n41 ⟨hx, (atB_iff 41).1 e⟩)]; rfl
        by_cases he : q1.2.1 = 0
        · obtain ⟨⟨a1, a2, a3⟩, a4⟩ : At9 b (s.p + 1) q1.2.2 ∧ q1.2.2.L.length + 1 + 2 * s.p ≤ s.L.length + 2 * q1.2.2.p := hat he
          obtain ⟨g1, g2, L0, g0, g3⟩ := hG
          have hgr := go9_gr b n _ q1 h1 he s.L s.g (gr_refl _ _ (by omega))
          obtain ⟨c2, c3⟩ := ih (.brl x (l ++ [q1.1]) q1.2.1 q1.2.2) q h2 (fun _ => ⟨a2, a3⟩) he ⟨by simp only [List.length_append, List.length_cons, List.length_nil]; omega, r2, L0, g0, gr_trans g3 hgr.2⟩ (by simp only [List.length_append, List.length_cons, List.length_nil]; omega)
          refine ⟨fun N hN l0 ag1 r d1 d2 => ?_, c3⟩
          obtain ⟨m, hm⟩ := c2 N (by omega) l0 ag1 r d1 d2
          refine ⟨m + 1, pre N l0 ag1 _ r ⟨_, (tt_mono (show n ≤ N by omega)).2.1 _ _ _ (r1 _), .inr ?_⟩⟩
          rw [r3 he]
          have : fr9 b q1 = rst b q1.2.2 (q1.2.2.p : Int) 0 := by unfold fr9; rw [he]
          rw [this]; exact hm
        · obtain rfl := brl_no he h2
          refine ⟨fun N hN l0 ag1 r d1 d2 => ⟨1, pre N l0 ag1 _ r ⟨_, (tt_mono (show n ≤ N by omega)).2.1 _ _ _ (r1 _), .inr ?_⟩⟩, r2⟩
          have he : q1.2.1 ≠ 0 := he
          refine split_ (fun h => absurd h he) fun _ => split_ (fun h => by cases h) fun _ => ?_
          show palinoderef08_Reader_Alt_j5 _ _ _ _ _ _ _ _ _ _ (decide (q1.2.1 = 0) && _) _
          rw [decide_eq_false he]
          refine split_ (fun h => by cases h) fun _ => split_ (fun _ => ?_) fun h => absurd he h
          exact d1 he
      · rename_i h0
        injection h with h
        subst h
        unfold brE
        rw [if_neg (fun h => h rfl)]
        have pre : ∀ (N : Nat) (l0 : List Int) (ag1 ag2 : SA → Prop) (r : Int × RS8), palinoderef08_Reader_Alt_j5 b (s.p : Int) s.L (s.g : Int) s.cl l l0 x ag1 0 (decide ((0 : Int) = 0) && decide ((l.length : Int) = 0)) r → F2 (TT N).2.1 x l0 ag1 r ag2 (l, b, (s.p : Int), 0, s.L, (s.g : Int), s.cl) := fun N l0 ag1 ag2 r hr => by
          have j3 : ∀ z : Bool, z = false → palinoderef08_Reader_Alt_j3 (TT N).2.1 b (s.p : Int) 0 s.L (s.g : Int) s.cl l ag2 l0 x ag1 z r := fun z hz => split_ (fun h => by rw [hz] at h; cases h) fun _ => hr
          refine split_ (fun _ => ⟨_, nx, split_ (fun h1 => ⟨_, nx, split_ (fun h2 => split_ (fun hx => ⟨_, nx, j3 _ ?_⟩) fun hx => ?_) fun _ => j3 false rfl⟩) fun _ => j3 false rfl⟩) fun h => absurd rfl h
          · have h3 : x = true ∧ b[s.p]? = some 41 := Decidable.not_not.1 fun h3 => h0 (moreB_iff.2 ⟨rfl, atB_lt h1, fun e => h2 (atB_some e), h3⟩)
            rw [decide_eq_true (show atB b s.p = 41 from atB_some h3.2)]; rfl
          · exact absurd (moreB_iff.2 ⟨rfl, atB_lt h1, fun e => h2 (atB_some e), fun e => hx e.1⟩) h0
        by_cases h1 : l = []
        · rw [if_pos h1]
          refine ⟨fun N hN l0 ag1 r d1 d2 => ⟨0, pre N l0 ag1 _ r ?_⟩, hG.2.1⟩
          subst h1
          exact split_ (fun _ => split_ (fun _ => d1 (show (15 : Int) ≠ 0 by decide)) fun h => absurd (by decide) h) fun h => absurd rfl h
        · rw [if_neg h1]
          obtain ⟨g1, g2, L0, g0, g3⟩ := hG
          have hs := cat_succ (l := l) (s := s) h1 (fun y hy => gr_in g3 hy) (by omega)
          obtain ⟨st1, st2, st3⟩ := cat_st l s
          have hok := okE_yes hs
          rw [hok]
          obtain ⟨k, e, hc1, hc2, _⟩ := rcat_ok b l s (s.p : Int) (by omega) fun z t e => gr_in g3 (by rw [e]; exact List.mem_cons_self)
          obtain ⟨rfl, rfl⟩ := hc2 hs
          refine ⟨fun N hN l0 ag1 r d1 d2 => ⟨0, pre N l0 ag1 _ r ?_⟩, fun d hd => ?_⟩
          · have hne : ¬ ((l.length : Int) = 0) := fun e => h1 (List.length_eq_zero_iff.1 (by omega))
            rw [decide_eq_false hne, Bool.and_false]
            refine split_ (fun h => by cases h) fun _ => split_ (fun h => absurd rfl h) fun _ => ⟨_, hc1, ?_⟩
            have := d2 rfl
            have e2 : fr9 b ((catS l s).1, 0, (catS l s).2) = rst b (catS l s).2 (s.p : Int) 0 := by unfold fr9; rw [st1]
            rw [e2] at this
            exact this
          · show d ≤ (catS l s).2.g
            rw [st2]
            exact g2 d (by rw [← st3]; exact hd)
    | piece s =>
      intro hG
      obtain ⟨j1, j2⟩ := hj
      have j1 : s.p < b.length := j1
      have hin : InR ((s.p : Int) + 1) := ⟨by omega, by omega⟩
      have nx : palinoderef08_Reader_Next_R (rst b s (s.p : Int) 0) 0 (atB b s.p) := rnext_ok b s s.p 0 0 (by omega) (by omega)
      obtain ⟨c, hc⟩ : ∃ c, b[s.p]? = some c := ⟨_, List.getElem?_eq_getElem j1⟩
      rw [atB_some hc] at nx
      have g1 : s.L.length + 2 * (b.length - s.p) ≤ 1000 := by have := hG.1; simp only [List.length_nil] at this; omega
      have pre : ∀ f r, palinoderef08_Reader_extended_j1 (rst b s (s.p : Int) 0) (c.toNat : Int) (TT n).2.2.1 (decide (repC c)) r → (TT (n + 1)).2.1 (rst b s (s.p : Int) 0) f r := fun f r hr => .inr ⟨_, nx, by rw [rep_dec]; exact hr⟩
      have anchor : ∀ (kind : Int), (kind = 7 ∧ c = 94 ∨ kind = 8 ∧ c = 36) → q = okE (putS (kind, 0, 0, 0, 0, 0, setZ) (adv s 1)) → (∃ k, (∀ f, (TT (n + 1)).2.1 (rst b s (s.p : Int) 0) f (k, fr9 b q)) ∧ (q.2.1 = 0 → k = q.1)) ∧ ClI q.2.2 := fun kind hk hq => by
        subst hq
        obtain ⟨p1, p2, p3⟩ := put_of b (kind, 0, 0, 0, 0, 0, setZ) s (adv s 1) ((s.p : Int) + 1) (by show _ = ((s.p + 1 : Nat) : Int); omega) rfl rfl rfl (by omega) (by rcases hk with ⟨rfl, _⟩ | ⟨rfl, _⟩ <;> first | exact node_bol _ _ | exact node_eol _ _)
        refine ⟨⟨_, fun f => pre f _ ?_, fun _ => rfl⟩, fun d hd => ?_⟩
        · rcases hk with ⟨rfl, rfl⟩ | ⟨rfl, rfl⟩
          · exact split_ (fun h => absurd h (by decide)) fun _ => split_ (fun h => absurd h (by decide)) fun _ => split_ (fun _ => inR_ hin (split_ (fun h => absurd h (by decide)) fun _ => ⟨_, p1, rfl⟩)) fun h => absurd (by decide) h
          · exact split_ (fun h => absurd h (by decide)) fun _ => split_ (fun h => absurd h (by decide)) fun _ => split_ (fun _ => inR_ hin (split_ (fun _ => ⟨_, p1, rfl⟩) fun h => absurd rfl h)) fun h => absurd (by decide) h
        · rw [p3]; exact hG.2.1 d (by rw [← p2]; exact hd)
      unfold go9 at h
      rw [hc] at h
      dsimp only at h
      by_cases h94 : c = 94
      · rw [if_pos h94] at h
        injection h with h
        exact anchor 7 (.inl ⟨rfl, h94⟩) h.symm
      rw [if_neg h94] at h
      by_cases h36 : c = 36
      · rw [if_pos h36] at h
        injection h with h
        exact anchor 8 (.inr ⟨rfl, h36⟩) h.symm
      rw [if_neg h36] at h
      obtain ⟨q1, h1, rfl⟩ := map_some h
      have hja : J9At b (.atom s) := ⟨j1, j2⟩
      by_cases hr : repC c
      · have e : q1 = noE s 13 := by
          cases n with
          | zero => cases h1
          | succ n => unfold go9 at h1; rw [hc] at h1; dsimp only at h1; rw [if_pos hr] at h1; injection h1 with h1; exact h1.symm
        subst e
        rw [reps_no (show (noE s 13).2.1 ≠ 0 from by show (13 : Int) ≠ 0; decide)]
        exact ⟨⟨0, fun f => pre f _ (split_ (fun _ => rfl) fun h => absurd (decide_eq_true hr) h), fun h => by cases h⟩, hG.2.1⟩
      by_cases h41 : c = 41
      · have e : q1 = noE s 14 := by
          cases n with
          | zero => cases h1
          | succ n => unfold go9 at h1; rw [hc] at h1; dsimp only at h1; rw [if_neg hr, if_pos h41] at h1; injection h1 with h1; exact h1.symm
        subst e
        rw [reps_no (show (noE s 14).2.1 ≠ 0 from by show (14 : Int) ≠ 0; decide)]
        subst h41
        exact ⟨⟨0, fun f => pre f _ (split_ (fun h => absurd h (by decide)) fun _ => split_ (fun _ => rfl) fun h => absurd rfl h), fun h => by cases h⟩, hG.2.1⟩
      obtain ⟨r1, r2⟩ := ih (.atom s) q1 h1 hja hG c hc hr h41
      obtain ⟨k, r3, r4⟩ := r1 n (Nat.le_refl _)
      have hat := go9_at b n _ q1 h1 hja
      have fin : ∀ (r : Int × RS8), J4 k (fr9 b q1) r → ∀ f, (TT (n + 1)).2.1 (rst b s (s.p : Int) 0) f r := fun r hJ f => by
        refine pre f r ?_
        rw [decide_eq_false hr]
        refine split_ (fun h => by cases h) fun _ => split_ (fun h => absurd (u8_inj (b := 41) h) h41) fun _ => ?_
        rw [show (decide ((c.toNat : Int) = 94) || decide ((c.toNat : Int) = 36)) = false by
          rw [decide_eq_false (show ¬ (c.toNat : Int) = 94 from fun e => h94 (u8_inj (b := 94) e)), decide_eq_false (show ¬ (c.toNat : Int) = 36 from fun e => h36 (u8_inj (b := 36) e))]; rfl]
        exact r3 r hJ
      by_cases he : q1.2.1 = 0
      · obtain ⟨⟨a1, a2, a3⟩, a4⟩ : At9 b (s.p + 1) q1.2.2 ∧ q1.2.2.L.length + 1 + 2 * s.p ≤ s.L.length + 2 * q1.2.2.p := hat he
        have hgr := go9_gr b n _ q1 h1 he s.L s.g (gr_refl _ _ (by omega))
        obtain ⟨⟨k', ⟨m, hm⟩, c1⟩, c2⟩ := rreps9_ok b hb (b.length + 1) q1.1 q1.2.2 a2 (by omega) (gr_in hgr.2 (by simp)) (by omega) r2
        rw [he]
        refine ⟨⟨k', fin _ ?_, c1⟩, c2⟩
        have : fr9 b q1 = rst b q1.2.2 (q1.2.2.p : Int) 0 := by unfold fr9; rw [he]
        rw [this, r4 he]
        exact loop_it m hm
      · rw [reps_no he]
        exact ⟨⟨k, fin _ (loop_it 0 (fe_no b q1.2.2 (q1.2.2.p : Int) q1.2.1 k he _)), fun h => absurd h he⟩, r2⟩
    | atom s =>
      intro hG c hc hr h41
      obtain ⟨j1, j2⟩ := hj
      unfold go9 at h
      rw [hc] at h
      dsimp only at h
      rw [if_neg hr, if_neg h41] at h
      have g1 : s.L.length + 2 * (b.length - s.p) ≤ 1000 := by have := hG.1; simp only [List.length_nil] at this; omega
      have j1 : s.p < b.length := j1
      by_cases h40 : c = 40
      · rw [if_pos h40] at h
        obtain ⟨⟨k, r1, r3⟩, r2⟩ := ih (.group s) q h ⟨j1, j2⟩ hG
        refine ⟨fun N hN => ⟨k, fun r hJ => ?_, r3⟩, r2⟩
        subst h40
        exact split_ (fun h => by cases h) fun _ => split_ (fun _ => ⟨_, (tt_mono (show n ≤ N by omega)).2.2 _ _ _ _ r1, hJ⟩) fun h => absurd rfl h
      · rw [if_neg h40] at h
        injection h with h
        subst h
        refine ⟨fun N hN => (rleaf9_ok b hb s c hc h40 (by omega) hG.2.1 _).1, fun d hd => ?_⟩
        obtain ⟨_, e1, e2⟩ := rleaf9_ok b hb s c hc h40 (by omega) hG.2.1 (TT 0).2.2.1
        rw [e2]; exact hG.2.1 d (by rw [← e1]; exact hd)
    | group s =>
      intro hG
      obtain ⟨j1, j2⟩ := hj
      have j1 : s.p < b.length := j1
      have j2 : s.g ≤ 9 := j2
      have g1 : s.L.length + 2 * (b.length - s.p) ≤ 1000 := by have := hG.1; simp only [List.length_nil] at this; omega
      unfold go9 at h
      split at h
      · rename_i h9
        injection h with h
        subst h
        exact ⟨⟨0, .inr (split_ (fun _ => rfl) fun h => absurd (by show (9 : Int) ≤ (s.g : Int); omega) h), fun h => by cases h⟩, hG.2.1⟩
      · rename_i h9
        obtain ⟨q1, h1, rfl⟩ := map_some h
        have hj1 : J9At b (.alts true { s with g := s.g + 1, p := s.p + 1 }) := ⟨j1, by show s.g + 1 ≤ 9; omega⟩
        have hat := go9_at b n _ q1 h1 hj1
        obtain ⟨⟨k1, r1, r3⟩, r2⟩ := ih _ _ h1 hj1 ⟨by show s.L.length + 2 * (b.length - (s.p + 1)) + 0 ≤ 1000; omega, fun d hd => Nat.le_succ_of_le (hG.2.1 d hd), s.L, s.g + 1, gr_refl _ _ (by show s.L.length ≤ 1000; omega)⟩
        have pre : ∀ r, palinoderef08_Reader_Group_j1 1 (rst b s (s.p : Int) 0) k1 (fr9 b q1).1 (fr9 b q1).2.1 (fr9 b q1).2.2.1 (fr9 b q1).2.2.2.1.1 (fr9 b q1).2.2.2.1.2 (fr9 b q1).2.2.2.2 r → (TT (n + 1)).2.2.1 (rst b s (s.p : Int) 0) 1 false r := fun r hr =>
          .inr (split_ (fun h => absurd (by have h : (9 : Int) ≤ (s.g : Int) := h; omega) h9) fun _ => inR_ (by show -9223372036854775808 ≤ (s.g : Int) + 1 ∧ (s.g : Int) + 1 ≤ _; omega) (inR_ (by show -9223372036854775808 ≤ (s.p : Int) + 1 ∧ (s.p : Int) + 1 ≤ _; omega) (split_ (fun h => by cases h) fun _ => ⟨(k1, fr9 b q1), r1, hr⟩)))
        unfold grpE
        by_cases he : q1.2.1 = 0
        · rw [if_neg (fun h => h he)]
          obtain ⟨⟨a1, a2, a3⟩, a4, a5⟩ : At9 b (s.p + 1) q1.2.2 ∧ q1.2.2.L.length + 1 + 2 * (s.p + 1) ≤ s.L.length + 2 * q1.2.2.p ∧ (true = true → b[q1.2.2.p]? = some 41) := hat he
          have a5 := (List.getElem?_eq_some_iff.1 (a5 rfl)).1
          have hgr : GrE s.L (s.g + 1) q1 := go9_gr b n _ q1 h1 he s.L (s.g + 1) (gr_refl _ _ (by omega))
          have hgg : s.g + 1 ≤ q1.2.2.g := by obtain ⟨_, _, _, h, _⟩ := hgr; exact h
          have hlen : q1.2.2.cl.l.length = 10 := q1.2.2.cl.len
          have eg : ((s.g : Int) + 1).toNat = s.g + 1 := by omega
          have eg2 : (s.g : Int) + 1 = ((s.g + 1 : Nat) : Int) := by omega
          obtain ⟨p1, p2, p3⟩ := put_both (b := b) (nd := (5, q1.1, 0, 0, 0, ((s.g + 1 : Nat) : Int), setZ)) (s := { q1.2.2 with p := q1.2.2.p + 1, cl := Arr.set q1.2.2.cl (s.g + 1) true }) ((q1.2.2.p : Int) + 1) (by show _ = ((q1.2.2.p + 1 : Nat) : Int); omega) (by show q1.2.2.L.length < 1000; omega) (node_grp (gr_in hgr.2 (by simp)) ⟨by omega, by show ((s.g + 1 : Nat) : Int) ≤ (q1.2.2.g : Int); omega⟩)
          have hfr : fr9 b q1 = rst b q1.2.2 (q1.2.2.p : Int) 0 := by unfold fr9; rw [he]
          rw [hfr, r3 he] at pre
          refine ⟨⟨_, pre _ (split_ (fun h => absurd rfl h) fun _ => inR_ (by show -9223372036854775808 ≤ (q1.2.2.p : Int) + 1 ∧ (q1.2.2.p : Int) + 1 ≤ _; omega) ⟨⟨by show (0 : Int) ≤ (s.g : Int) + 1; omega, by show (s.g : Int) + 1 < 10; omega⟩, q1.2.2.cl.l[s.g + 1], ?_, ((okE (putS (5, q1.1, 0, 0, 0, ((s.g + 1 : Nat) : Int), setZ) { q1.2.2 with p := q1.2.2.p + 1, cl := Arr.set q1.2.2.cl (s.g + 1) true })).1, fr9 b (okE (putS (5, q1.1, 0, 0, 0, ((s.g + 1 : Nat) : Int), setZ) { q1.2.2 with p := q1.2.2.p + 1, cl := Arr.set q1.2.2.cl (s.g + 1) true }))), ?_, rfl⟩), fun _ => rfl⟩, ?_⟩
          · show q1.2.2.cl.l[((s.g : Int) + 1).toNat]? = _
            rw [eg]; exact List.getElem?_eq_getElem (by omega)
          · show palinoderef08_Reader_Put_R (b, (q1.2.2.p : Int) + 1, 0, (q1.2.2.L, (q1.2.2.g : Int)), Arr.set q1.2.2.cl ((s.g : Int) + 1).toNat true) (5, q1.1, 0, 0, 0, (s.g : Int) + 1, _) _
            rw [eg, eg2]; exact p1
          · rw [p3]
            intro d hd
            show d ≤ q1.2.2.g
            have hd : (Arr.set q1.2.2.cl (s.g + 1) true).l[d]? = some true := hd
            by_cases hdg : d = s.g + 1
            · omega
            · refine r2 d ?_
              rw [← hd]
              show _ = (q1.2.2.cl.l.set (s.g + 1) true)[d]?
              rw [List.getElem?_set_ne (by omega)]
        · rw [if_pos he]
          exact ⟨⟨0, pre _ (split_ (fun _ => rfl) fun h => absurd he h), fun h => absurd h he⟩, r2⟩
end Go.Proofs.Ytfhakeapepafbaa
