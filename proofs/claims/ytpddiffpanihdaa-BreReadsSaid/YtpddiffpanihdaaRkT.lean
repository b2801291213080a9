/- The document's reader of basic regular expressions: an atom's repetitions, an escape. -/
import Derived.Test.YtpddiffpanihdaaRkS
namespace Go.Proofs.Ytpddiffpanihdaa
theorem reps_end {b : List UInt8} {k : Int} {w : List (Int × Int)} {s : Pz} (h : moreR b k w s = false) (n : Nat) : repsF b n k w s = endRp k w s := by
  cases n with
  | zero => rfl
  | succ n => unfold repsF; rw [h, if_neg (by decide)]
theorem atB_lt {b : List UInt8} {p : Nat} (h : 0 ≤ atB b p) : p < b.length := by
  rcases Nat.lt_or_ge p b.length with h1 | h1
  · exact h1
  · unfold atB at h
    rw [List.getElem?_eq_none h1] at h
    exact absurd h (by decide)
theorem atB_some {b : List UInt8} {p : Nat} {c : UInt8} (h : b[p]? = some c) : atB b p = (c.toNat : Int) := by unfold atB; rw [h]
theorem rreps_ok (b : List UInt8) (hb : b.length ≤ 1000) : ∀ (n : Nat) (k : Int) (s : Pz), s.p ≤ b.length → b.length - s.p < n → s.g ≤ 9 → 0 ≤ k →
    ∃ k', (∃ m, FP (k', fin8 b (repsF b n k [] s)) (LT (FP (k', fin8 b (repsF b n k [] s))) m) (k, b, (s.p : Int), 0, s.L, (s.g : Int), s.cl)) ∧ Same8 (repsF b n k [] s) k' := by
  intro n
  induction n with
  | zero => intro k s _ h; omega
  | succ n ih =>
    intro k s hp hn hg hk
    have nx : ∀ j : Nat, j ≤ 10 → palinoderef08_Reader_Next_R (rst b s (s.p : Int) 0) (j : Int) (atB b (s.p + j)) := fun j hj => rnext_ok b s s.p 0 j (by omega) hj
    have hin : ∀ j : Nat, j ≤ 10 → InR ((s.p : Int) + (j : Int)) := fun j hj => ⟨by omega, by omega⟩
    have more_t : (hasS b s.p [42] = true ∨ hasS b s.p [92, 123] = true) → moreR b k [] s = true := fun h => by
      unfold moreR
      rw [decide_eq_true hk]
      rcases h with h | h <;> rw [h] <;> simp
    -- a node behind which it goes on
    have after : ∀ (nd : ND) (s1 : Pz) (a : Nat), s1.p = a → s1.g ≤ 9 → a ≤ b.length → s.p + 1 ≤ a → repsF b (n + 1) k [] s = repsF b n (putS nd s1).1 [] (putS nd s1).2 →
        (∀ (r : Int × RS8) (m : Nat) (e : Int), palinoderef08_Reader_Put_R (rst b s1 (a : Int) 0) nd ((putS nd s1).1, rst b (putS nd s1).2 (a : Int) e) → LT (FP r) m ((putS nd s1).1, b, (a : Int), e, (putS nd s1).2.L, ((putS nd s1).2.g : Int), (putS nd s1).2.cl) → FP r (LT (FP r) m) (k, b, (s.p : Int), 0, s.L, (s.g : Int), s.cl)) →
        ∃ k', (∃ m, FP (k', fin8 b (repsF b (n + 1) k [] s)) (LT (FP (k', fin8 b (repsF b (n + 1) k [] s))) m) (k, b, (s.p : Int), 0, s.L, (s.g : Int), s.cl)) ∧ Same8 (repsF b (n + 1) k [] s) k' := fun nd s1 a ha hg1 hal hap he step => by
      obtain ⟨k1, e1, p1, rfl, p2, p3⟩ := rput_ok' b nd s1 (a : Int)
      obtain ⟨q1, q2, _⟩ := put_st nd s1
      rw [he]
      by_cases hpos : 0 ≤ (putS nd s1).1
      · obtain rfl := p2 hpos
        obtain ⟨k', ⟨m, hm⟩, h2⟩ := ih (putS nd s1).1 (putS nd s1).2 (by omega) (by omega) (by omega) hpos
        rw [q1, ha] at hm
        exact ⟨k', ⟨m + 1, step _ (m + 1) 0 p1 (.inr hm)⟩, h2⟩
      · obtain rfl := p3 (by omega)
        have hneg := put_neg hpos
        have hm : moreR b (putS nd s1).1 [] (putS nd s1).2 = false := by
          unfold moreR
          rw [decide_eq_false hpos]; rfl
        rw [reps_end hm]
        have hend : endRp (putS nd s1).1 [] (putS nd s1).2 = ((putS nd s1).1, [((a : Int), 8)], (putS nd s1).2) := by
          unfold endRp
          rw [decide_eq_true (show (putS nd s1).1 < 0 by omega), q1, ha]; rfl
        rw [hend]
        refine ⟨(putS nd s1).1, ⟨1, step _ 1 8 p1 (.inr ?_)⟩, .inr ⟨_, rfl, show (8 : Int) ≠ 0 by decide⟩⟩
        exact fp_no b (putS nd s1).2 (a : Int) 8 _ (by decide) 0
    by_cases h42 : hasS b s.p [42] = true
    · have hl : s.p + 1 ≤ b.length := has_len h42 (by simp)
      refine after (4, k, 0, 0, -1, 0, setZ) (adv s 1) (s.p + 1) rfl hg hl (Nat.le_refl _) ?_ fun r m e hput hag => ?_
      · show (if moreR b k [] s = true then _ else _) = _
        rw [if_pos (more_t (.inl h42))]
        have : repeatF b k s = okR (putS (4, k, 0, 0, -1, 0, setZ) (adv s 1)) := by unfold repeatF; rw [if_pos h42]
        rw [this]; rfl
      · exact split_ (fun _ => ⟨_, nx 0 (by omega), split_ (fun _ => inR_ (hin 1 (by omega)) ⟨_, hput, hag⟩) fun h => absurd ((has1 b s.p 42).1 h42) h⟩) fun h => absurd rfl h
    · have n42 : ¬ atB b s.p = 42 := fun h => h42 ((has1 b s.p 42).2 h)
      by_cases h123 : hasS b s.p [92, 123] = true
      · have hl : s.p + 2 ≤ b.length := has_len h123 (by simp)
        obtain ⟨h92, h123'⟩ := (has2 b s.p 92 123).1 h123
        have h92 : atB b s.p = 92 := h92
        have h123' : atB b (s.p + 1) = 123 := h123'
        have pre : ∀ (r : Int × RS8) (ag : Int × List UInt8 × Int × Int × List ND × Int × Arr 10 Bool → Prop), ((¬ ((intvR b (s.p + 2)).2.2.2 = true) → palinoderef08_Reader_piece_j9 k b (s.p : Int) s.L (s.g : Int) s.cl (intvR b (s.p + 2)) 0 ag true r) ∧ (¬ (¬ ((intvR b (s.p + 2)).2.2.2 = true)) → InR ((intvR b (s.p + 2)).2.2.1 + 1) ∧ (((b.length : Int) ≤ ((intvR b (s.p + 2)).2.2.1 + 1) → palinoderef08_Reader_piece_j9 k b (s.p : Int) s.L (s.g : Int) s.cl (intvR b (s.p + 2)) 0 ag true r) ∧ (¬ ((b.length : Int) ≤ ((intvR b (s.p + 2)).2.2.1 + 1)) → 0 ≤ ((intvR b (s.p + 2)).2.2.1 : Int) ∧ ∃ y931 : UInt8, b[((intvR b (s.p + 2)).2.2.1 : Int).toNat]? = some y931 ∧ ((¬ ((y931.toNat : Int) = 92) → palinoderef08_Reader_piece_j9 k b (s.p : Int) s.L (s.g : Int) s.cl (intvR b (s.p + 2)) 0 ag true r) ∧ (¬ (¬ ((y931.toNat : Int) = 92)) → InR ((intvR b (s.p + 2)).2.2.1 + 1) ∧ 0 ≤ (((intvR b (s.p + 2)).2.2.1 + 1) : Int) ∧ ∃ y936 : UInt8, b[(((intvR b (s.p + 2)).2.2.1 + 1) : Int).toNat]? = some y936 ∧ palinoderef08_Reader_piece_j9 k b (s.p : Int) s.L (s.g : Int) s.cl (intvR b (s.p + 2)) 0 ag (!(decide ((y936.toNat : Int) = 125))) r)))))) →
            FP r ag (k, b, (s.p : Int), 0, s.L, (s.g : Int), s.cl) := fun r ag h => by
          refine split_ (fun _ => ⟨_, nx 0 (by omega), split_ (fun e => absurd e n42) fun _ => ⟨_, nx 0 (by omega), split_ (fun e => absurd h92 e) fun _ => ⟨_, nx 1 (by omega), split_ (fun e => absurd h123' e) fun _ => inR_ (hin 2 (by omega)) ⟨intvR b (s.p + 2), ?_, h⟩⟩⟩⟩) fun h => absurd rfl h
          exact rintv_ok b s (s.p : Int) 0 (s.p + 2) hb hl
        rcases rep_intv b k s hb hl h42 with ⟨z, hz, hzl, hok, h125, he⟩ | ⟨⟨s', he, e1, e2, e3⟩, hno⟩
        · have hz2 : z + 2 ≤ b.length := has_len h125 (by simp)
          have hat := repeat_at (k := k) hp hg (.inr h123) (by rw [he]; rfl)
          rw [he] at hat
          have hp1 : s.p + 1 ≤ z + 2 := by
            have := hat.1
            obtain ⟨q1, _, _⟩ := put_st (4, k, 0, (intvR b (s.p + 2)).1, (intvR b (s.p + 2)).2.1, 0, setZ) { s with p := z + 2 }
            have this : s.p + 1 ≤ (putS (4, k, 0, (intvR b (s.p + 2)).1, (intvR b (s.p + 2)).2.1, 0, setZ) { s with p := z + 2 }).2.p := this
            rw [q1] at this
            exact this
          refine after (4, k, 0, (intvR b (s.p + 2)).1, (intvR b (s.p + 2)).2.1, 0, setZ) { s with p := z + 2 } (z + 2) rfl hg hz2 hp1 ?_ fun r m e hput hag => pre r _ ?_
          · show (if moreR b k [] s = true then _ else _) = _
            rw [if_pos (more_t (.inr h123)), he]; rfl
          · obtain ⟨c92, c125⟩ := (has2 b z 92 125).1 h125
            obtain ⟨x, hx⟩ : ∃ x, b[z]? = some x := ⟨_, List.getElem?_eq_getElem (by omega)⟩
            obtain ⟨y, hy⟩ : ∃ y, b[z + 1]? = some y := ⟨_, List.getElem?_eq_getElem (by omega)⟩
            rw [atB_some hx] at c92; rw [atB_some hy] at c125
            rw [hz]
            refine split_ (fun h => absurd hok h) fun _ => inR_ (by omega) (split_ (fun h => by omega) fun _ => ⟨by omega, x, by rw [Int.toNat_natCast]; exact hx, split_ (fun h => absurd c92 h) fun _ => inR_ (by omega) ⟨by omega, y, by rw [show ((z : Int) + 1).toNat = z + 1 by omega]; exact hy, ?_⟩⟩)
            have c125 : (y.toNat : Int) = 125 := c125
            rw [decide_eq_true c125]
            refine split_ (fun h => by cases h) fun _ => inR_ (by show -9223372036854775808 ≤ (intvR b (s.p + 2)).2.2.1 + 2 ∧ (intvR b (s.p + 2)).2.2.1 + 2 ≤ _; rw [hz]; omega) ?_
            rw [hz]
            exact ⟨_, hput, hag⟩
        · have hr : repsF b (n + 1) k [] s = (0, [((s.p : Int), 13)], s') := by
            show (if moreR b k [] s = true then _ else _) = _
            rw [if_pos (more_t (.inr h123)), he]
            exact reps_end rfl n
          rw [hr]
          refine ⟨k, ⟨0, pre _ _ ?_⟩, .inr ⟨_, rfl, show (13 : Int) ≠ 0 by decide⟩⟩
          have j9 : ∀ x : Bool, x = true → ∀ ag, palinoderef08_Reader_piece_j9 k b (s.p : Int) s.L (s.g : Int) s.cl (intvR b (s.p + 2)) 0 ag x (k, fin8 b ((0, [((s.p : Int), 13)], s') : Res)) := fun x hx ag => by
            refine split_ (fun _ => ?_) fun h => absurd hx h
            show (k, rst b s' (s.p : Int) 13) = (k, rst b s (s.p : Int) 13)
            unfold rst
            rw [e1, e2, e3]
          rcases hno with hno | ⟨z, hz, hzl, hno⟩
          · exact split_ (fun _ => j9 true rfl _) fun h => absurd (by rw [hno]; decide) h
          · rw [hz]
            refine split_ (fun _ => j9 true rfl _) fun _ => inR_ (by omega) (split_ (fun _ => j9 true rfl _) fun h5 => ?_)
            obtain ⟨x, hx⟩ : ∃ x, b[z]? = some x := ⟨_, List.getElem?_eq_getElem (by omega)⟩
            obtain ⟨y, hy⟩ : ∃ y, b[z + 1]? = some y := ⟨_, List.getElem?_eq_getElem (by omega)⟩
            refine ⟨by omega, x, by rw [Int.toNat_natCast]; exact hx, split_ (fun _ => j9 true rfl _) fun h6 => inR_ (by omega) ⟨by omega, y, by rw [show ((z : Int) + 1).toNat = z + 1 by omega]; exact hy, j9 _ ?_ _⟩⟩
            by_cases h7 : (y.toNat : Int) = 125
            · have := (has2 b z 92 125).2 ⟨by rw [atB_some hx]; exact Decidable.not_not.1 h6, by rw [atB_some hy]; exact h7⟩
              rw [hno] at this; cases this
            · rw [decide_eq_false h7]; rfl
      · have hr : repsF b (n + 1) k [] s = (k, [], s) := by
          have hm : moreR b k [] s = false := by
            unfold moreR
            rw [show hasS b s.p [42] = false by simpa using h42, show hasS b s.p [92, 123] = false by simpa using h123]; simp
          rw [reps_end hm]
          unfold endRp
          rw [decide_eq_false (by omega)]; rfl
        rw [hr]
        refine ⟨k, ⟨0, split_ (fun _ => ⟨_, nx 0 (by omega), split_ (fun e => absurd e n42) fun _ => ⟨_, nx 0 (by omega), split_ (fun _ => rfl) fun h92 => ⟨_, nx 1 (by omega), split_ (fun _ => rfl) fun h1 => ?_⟩⟩⟩) fun h => absurd rfl h⟩, .inl ⟨rfl, rfl⟩⟩
        exact absurd ((has2 b s.p 92 123).2 ⟨Decidable.not_not.1 h92, Decidable.not_not.1 h1⟩) h123
/-- Where a reader stands behind an atom. -/
def AtomRel (b : List UInt8) (q : Res) (k : Int) (st : RS8) : Prop :=
  (q.2.1 = [] ∧ 0 ≤ q.1 ∧ k = q.1 ∧ st = rst b q.2.2 (q.2.2.p : Int) 0) ∨ (q.2.1 = [] ∧ q.1 < 0 ∧ k = q.1 ∧ st = rst b q.2.2 (q.2.2.p : Int) 8) ∨ ∃ y : Int × Int, q.2.1 = [y] ∧ y.2 ≠ 0 ∧ st = rst b q.2.2 y.1 y.2
theorem rj2_ok (b : List UInt8) (hb : b.length ≤ 1000) (q : Res) (k : Int) (st : RS8) (h : AtomRel b q k st) (hat : q.2.1 = [] → q.2.2.p ≤ b.length ∧ q.2.2.g ≤ 9) :
    ∃ k', palinoderef08_Reader_piece_j2 k st.1 st.2.1 st.2.2.1 st.2.2.2.1.1 st.2.2.2.1.2 st.2.2.2.2 (k', fin8 b (repsR b q)) ∧ Same8 (repsR b q) k' := by
  obtain ⟨k0, w, s⟩ := q
  rcases h with ⟨h1, h2, hk, rfl⟩ | ⟨h1, h2, hk, rfl⟩ | ⟨y, h1, h2, rfl⟩
  · have h1 : w = [] := h1
    have hk : k = k0 := hk
    subst h1; subst hk
    obtain ⟨a1, a2⟩ := hat rfl
    obtain ⟨k', ⟨m, hm⟩, h3⟩ := rreps_ok b hb (b.length + 1) k s a1 (by omega) a2 h2
    exact ⟨k', loop_it m hm, h3⟩
  · have h1 : w = [] := h1
    have hk : k = k0 := hk
    subst h1; subst hk
    have h2 : k < 0 := h2
    have hm : moreR b k [] s = false := by unfold moreR; rw [decide_eq_false (by omega)]; rfl
    have hr : repsR b ((k, [], s) : Res) = (k, [((s.p : Int), 8)], s) := by
      show repsF b (b.length + 1) k [] s = _
      rw [reps_end hm]; unfold endRp; rw [decide_eq_true h2]; rfl
    rw [hr]
    exact ⟨k, loop_it 0 (fp_no b s (s.p : Int) 8 k (by decide) 0), .inr ⟨_, rfl, show (8 : Int) ≠ 0 by decide⟩⟩
  · have h1 : w = [y] := h1
    subst h1
    have hm : moreR b k0 [y] s = false := rfl
    have hr : repsR b ((k0, [y], s) : Res) = (k0, [y], s) := by
      show repsF b (b.length + 1) k0 [y] s = _
      rw [reps_end hm]; rfl
    rw [hr]
    exact ⟨k, loop_it 0 (fp_no b s y.1 y.2 k h2 0), .inr ⟨y, rfl, h2⟩⟩
end Go.Proofs.Ytpddiffpanihdaa
