/- The document's reader of basic regular expressions comes to where the program's does. -/
import Derived.Test.YtpddiffpanihdaaRkU
namespace Go.Proofs.Ytpddiffpanihdaa
theorem tt_mono {n N : Nat} (h : n ≤ N) : (∀ o x r, (TT n).1 o x r → (TT N).1 o x r) ∧ (∀ o x r, (TT n).2.1 o x r → (TT N).2.1 o x r) ∧ (∀ o x y r, (TT n).2.2.1 o x y r → (TT N).2.2.1 o x y r) := by
  induction N with
  | zero => obtain rfl : n = 0 := by omega
            exact ⟨fun _ _ _ h => h, fun _ _ _ h => h, fun _ _ _ _ h => h⟩
  | succ N ih =>
    rcases (by omega : n ≤ N ∨ n = N + 1) with h1 | rfl
    · obtain ⟨a, b, c⟩ := ih h1
      exact ⟨fun o x r h => .inl (a o x r h), fun o x r h => .inl (b o x r h), fun o x y r h => .inl (c o x y r h)⟩
    · exact ⟨fun _ _ _ h => h, fun _ _ _ h => h, fun _ _ _ _ h => h⟩
abbrev SB := List Int × Int × List UInt8 × Int × Int × List ND × Int × Arr 10 Bool
abbrev FB (c5 : PB) (x3 : Bool) (r : Int × RS8) := fun (ag : SB → Prop) (s : SB) => palinoderef08_Reader_branch_l2 c5 x3 ag s.1 s.2.1 s.2.2.1 s.2.2.2.1 s.2.2.2.2.1 s.2.2.2.2.2.1 s.2.2.2.2.2.2.1 s.2.2.2.2.2.2.2 r
/-- What the document's reader does of a job. -/
def JobRef (b : List UInt8) (n : Nat) (j : Job) (q : Res) : Prop := match j with
  | .branch inner s => ∃ k, (TT n).1 (rst b s (s.p : Int) 0) inner (k, fin8 b q) ∧ Same8 q k
  | .loop inner l f s => ∀ i : Nat, i ≤ s.p → l.length ≤ i + 1 → (f = true ↔ i = 0) → (∃ L g, Gr L g s.L s.g l) → ∀ N, n ≤ N → ∃ k, (∃ m, FB (TT N).2.1 inner (k, fin8 b q) (LT (FB (TT N).2.1 inner (k, fin8 b q)) m) (l, (i : Int), b, (s.p : Int), 0, s.L, (s.g : Int), s.cl)) ∧ Same8 q k
  | .piece f s => ∃ k, (TT n).2.1 (rst b s (s.p : Int) 0) f (k, fin8 b q) ∧ Same8 q k
  | .atom s => ∀ N, n ≤ N → AtomTo b s q (TT N).2.2.1
  | .escape s => atB b s.p = 92 → ∀ N, n ≤ N → AtomTo b s q (TT N).2.2.1
  | .group s => ∃ k st, (TT n).2.2.1 (rst b s (s.p : Int) 0) 2 true (k, st) ∧ AtomRel b q k st
theorem gr_in {L L' : List ND} {g g' : Nat} {R : List Int} {z : Int} (h : Gr L g L' g' R) (hz : z ∈ R) : 0 ≤ z ∧ z < (L'.length : Int) := by
  obtain ⟨N, rfl, _, a2, _⟩ := h
  have h1 := a2 z
  have h2 : 0 < R.count z := List.count_pos_iff.2 hz
  rw [List.length_append]
  split at h1 <;> omega
theorem fb_no (c5 : PB) (x3 : Bool) (b : List UInt8) (s : Pz) (l : List Int) (i a e : Int) (he : e ≠ 0) (ag : SB → Prop) : FB c5 x3 (0, rst b s a e) ag (l, i, b, a, e, s.L, (s.g : Int), s.cl) :=
  split_ (fun h => absurd h he) fun _ => split_ (fun h => by cases h) fun _ => split_ (fun _ => rfl) fun h => absurd he h
theorem same_no {q : Res} {k : Int} (h : Same8 q k) (hw : q.2.1 ≠ []) : ∃ y : Int × Int, q.2.1 = [y] ∧ y.2 ≠ 0 := by
  rcases h with h | h
  · exact absurd h.1 hw
  · exact h
theorem same_ok {q : Res} {k : Int} (h : Same8 q k) (hw : q.2.1 = []) : k = q.1 := by
  rcases h with h | ⟨y, h, _⟩
  · exact h.2
  · rw [h] at hw; cases hw
theorem rj1_92 (b : List UInt8) (s : Pz) (hp : s.p ≤ 100000) (c7 : PG) (h92 : atB b s.p = 92) (r : Int × RS8) (h : palinoderef08_Reader_piece_j3 c7 (rst b s (s.p : Int) 0) 92 (decide (atB b (s.p + 1) = 40)) r) : palinoderef08_Reader_piece_j1 (rst b s (s.p : Int) 0) (atB b s.p) c7 false r := by
  rw [h92]
  exact split_ (fun h => by cases h) fun _ => split_ (fun _ => ⟨_, rnext_ok b s s.p 0 1 hp (by omega), h⟩) fun h => absurd rfl h
theorem go_ref (b : List UInt8) (hb : b.length ≤ 1000) : ∀ (n : Nat) (j : Job) (q : Res), go b n j = some q → JobAt b j → j.s.L.length ≤ 1000 → JobRef b n j q := by
  intro n
  induction n with
  | zero => intro j r h; cases h
  | succ n ih =>
    intro j q h hj hL
    obtain ⟨j1, j2, j3⟩ := hj
    obtain ⟨mn1, mn2, mn3⟩ := tt_mono (Nat.le_succ n)
    cases j with
    | branch inner s =>
      have j1 : s.p ≤ b.length := j1
      have j2 : s.g ≤ 9 := j2
      have hL : s.L.length ≤ 1000 := hL
      have nx := rnext_ok b s s.p 0 0 (by omega) (by omega)
      unfold go at h
      split at h
      · rename_i h1
        have hl := has_len h1 (by simp)
        have hl : s.p + 1 ≤ b.length := hl
        have h94 : atB b (s.p + 0) = 94 := (has1 b s.p 94).1 h1
        rw [h94] at nx
        obtain ⟨k1, e1, p1, rfl, p2, p3⟩ := rput_ok' b (7, 0, 0, 0, 0, 0, setZ) s (s.p : Int)
        have hin : InR ((s.p : Int) + 1) := ⟨by omega, by omega⟩
        have hadv : putS (7, 0, 0, 0, 0, 0, setZ) (adv s 1) = ((putS (7, 0, 0, 0, 0, 0, setZ) s).1, adv (putS (7, 0, 0, 0, 0, 0, setZ) s).2 1) := by
          unfold putS adv
          dsimp only
          split
          · rfl
          · split <;> rfl
        rw [hadv] at h
        dsimp only at h
        split at h
        · rename_i hneg
          obtain rfl := p3 hneg
          injection h with h
          subst h
          obtain ⟨q1, _, _⟩ := put_st (7, 0, 0, 0, 0, 0, setZ) s
          refine ⟨0, .inr ⟨_, nx, split_ (fun _ => ⟨_, p1, room_ (by show 0 + 1 ≤ _; omega) (by omega) (inR_ hin ?_)⟩) fun h => absurd rfl h⟩, .inr ⟨_, rfl, show (8 : Int) ≠ 0 by decide⟩⟩
          refine loop_it 0 ?_
          have := fb_no (TT n).2.1 inner b (putS (7, 0, 0, 0, 0, 0, setZ) s).2 [(putS (7, 0, 0, 0, 0, 0, setZ) s).1] 0 ((s.p : Int) + 1) 8 (by decide) (LT (FB (TT n).2.1 inner (0, rst b (putS (7, 0, 0, 0, 0, 0, setZ) s).2 ((s.p : Int) + 1) 8)) 0)
          have e : fin8 b (noR (adv (putS (7, 0, 0, 0, 0, 0, setZ) s).2 1) 8) = rst b (putS (7, 0, 0, 0, 0, 0, setZ) s).2 ((s.p : Int) + 1) 8 := by
            show rst b (adv (putS (7, 0, 0, 0, 0, 0, setZ) s).2 1) (((putS (7, 0, 0, 0, 0, 0, setZ) s).2.p + 1 : Nat) : Int) 8 = _
            rw [q1]; rfl
          rw [e]
          exact this
        · rename_i hneg
          obtain rfl := p2 (by omega)
          obtain ⟨q1, q2, _⟩ := put_st (7, 0, 0, 0, 0, 0, setZ) s
          have hj1 : (adv (putS (7, 0, 0, 0, 0, 0, setZ) s).2 1).p = s.p + 1 := by show (putS _ s).2.p + 1 = _; rw [q1]
          have hlen : (putS (7, 0, 0, 0, 0, 0, setZ) s).2.L.length ≤ 1000 := by
            obtain ⟨r1, r2, r3⟩ := put_pos (show 0 ≤ (putS (7, 0, 0, 0, 0, 0, setZ) s).1 by omega)
            rw [r3]; simp; omega
          have hgr : Gr s.L s.g (putS (7, 0, 0, 0, 0, 0, setZ) s).2.L (putS (7, 0, 0, 0, 0, 0, setZ) s).2.g [(putS (7, 0, 0, 0, 0, 0, setZ) s).1] :=
            gr_leaf (gr_refl s.L s.g hL) (by show 0 ≤ (putS (7, 0, 0, 0, 0, 0, setZ) s).1; omega) (by decide) rfl
          obtain ⟨k, ⟨m, hm⟩, hs⟩ := ih (.loop inner [(putS (7, 0, 0, 0, 0, 0, setZ) s).1] true (adv (putS (7, 0, 0, 0, 0, 0, setZ) s).2 1)) q h ⟨by show (adv _ 1).p ≤ _; rw [hj1]; exact hl, by show (putS _ s).2.g ≤ _; rw [q2]; exact j2, trivial⟩ hlen 0 (Nat.zero_le _) (by simp) (by simp) ⟨s.L, s.g, hgr⟩ n (Nat.le_refl _)
          refine ⟨k, .inr ⟨_, nx, split_ (fun _ => ⟨_, p1, room_ (by show 0 + 1 ≤ _; omega) (by omega) (inR_ hin ?_)⟩) fun h => absurd rfl h⟩, hs⟩
          rw [hj1] at hm
          exact loop_it m hm
      · rename_i h1
        have h94 : atB b (s.p + 0) ≠ 94 := fun e => h1 ((has1 b s.p 94).2 e)
        obtain ⟨k, ⟨m, hm⟩, hs⟩ := ih (.loop inner [] true s) q h ⟨j1, j2, trivial⟩ hL 0 (Nat.zero_le _) (by simp) (by simp) ⟨s.L, s.g, gr_refl _ _ hL⟩ n (Nat.le_refl _)
        exact ⟨k, .inr ⟨_, nx, split_ (fun e => absurd e h94) fun _ => loop_it m hm⟩, hs⟩
    | loop inner l f s =>
      have j1 : s.p ≤ b.length := j1
      have j2 : s.g ≤ 9 := j2
      have hL : s.L.length ≤ 1000 := hL
      intro i hi hli hf ⟨L, g, hgr⟩ N hN
      have mN := tt_mono (show n ≤ N by omega)
      have nx0 : palinoderef08_Reader_Next_R (rst b s (s.p : Int) 0) 0 (atB b s.p) := rnext_ok b s s.p 0 0 (by omega) (by omega)
      have nx1 : palinoderef08_Reader_Next_R (rst b s (s.p : Int) 0) 1 (atB b (s.p + 1)) := rnext_ok b s s.p 0 1 (by omega) (by omega)
      have fdec : decide ((i : Int) = 0) = f := by
        cases f with
        | true => rw [decide_eq_true (by have := hf.1 rfl; omega)]
        | false => rw [decide_eq_false (fun e => by have := hf.2 (by omega); cases this)]
      unfold go at h
      split at h
      · rename_i h1
        obtain ⟨h1, h2⟩ := h1
        obtain ⟨c, hc⟩ : ∃ c, b[s.p]? = some c := ⟨_, List.getElem?_eq_getElem h1⟩
        have hat : atB b s.p = (c.toNat : Int) := atB_some hc
        have pre : ∀ (r : Int × RS8) (ag : SB → Prop), (∃ y426 : Int × RS8, (TT N).2.1 (rst b s (s.p : Int) 0) f y426 ∧ ag ((l ++ [y426.1]), ((i : Int) + 1), y426.2.1, y426.2.2.1, y426.2.2.2.1, y426.2.2.2.2.1.1, y426.2.2.2.2.1.2, y426.2.2.2.2.2)) → FB (TT N).2.1 inner r ag (l, (i : Int), b, (s.p : Int), 0, s.L, (s.g : Int), s.cl) := fun r ag ⟨y, hy1, hy2⟩ => by
          have j3t : ∀ x : Bool, x = true → palinoderef08_Reader_branch_j3 (TT N).2.1 b (s.p : Int) 0 s.L (s.g : Int) s.cl (i : Int) l ag inner x r := fun x hx => by
            refine split_ (fun _ => ⟨y, ?_, room_ (by show l.length + 1 ≤ _; omega) (by omega) (inR_ (by omega) hy2)⟩) fun h => absurd hx h
            rw [fdec]; exact hy1
          refine split_ (fun _ => ⟨_, nx0, split_ (fun _ => ⟨_, nx0, split_ (fun h92 => ⟨_, nx1, ?_⟩) fun h92 => j3t true rfl⟩) fun h => absurd (by rw [hat]; omega) h⟩) fun h => absurd rfl h
          refine j3t _ ?_
          rw [decide_eq_false]; · rfl
          intro e
          rw [(has2 b s.p 92 41).2 ⟨h92, e⟩] at h2; cases h2
        cases hg : go b n (.piece f s) with
        | none => rw [hg] at h; cases h
        | some q1 =>
          obtain ⟨k1, ht, hs1⟩ := ih (.piece f s) q1 hg ⟨j1, j2, trivial⟩ hL
          have hatp := go_at b n _ q1 hg ⟨j1, j2, trivial⟩
          have hgrp := go_gr b n _ q1 hg
          obtain ⟨k, w, s'⟩ := q1
          rw [hg] at h
          dsimp only at h
          split at h
          · rename_i hwe
            have hw : w = [] := List.isEmpty_iff.1 hwe
            subst hw
            obtain ⟨⟨c1, c2, c3⟩, c4⟩ := hatp rfl
            have c2 : s'.p ≤ b.length := c2
            have c3 : s'.g ≤ 9 := c3
            have c4 : s.p + 1 ≤ s'.p := c4
            have hk : k1 = k := same_ok hs1 rfl
            subst hk
            have g1 := (hgrp rfl s.L s.g (gr_refl _ _ hL)).2
            have g2 : Gr L g s'.L s'.g (l ++ [k1]) := gr_trans hgr g1
            have hL' : s'.L.length ≤ 1000 := by obtain ⟨_, _, _, _, _, _, h5⟩ := g2; exact h5
            obtain ⟨k', ⟨m, hm⟩, hs⟩ := ih (.loop inner (l ++ [k1]) false s') q h ⟨c2, c3, trivial⟩ hL' (i + 1) (by show i + 1 ≤ s'.p; omega) (by simp; omega) (by simp) ⟨L, g, g2⟩ N (by omega)
            exact ⟨k', ⟨m + 1, pre _ _ ⟨_, mN.2.1 _ _ _ ht, .inr (by rw [show (i : Int) + 1 = ((i + 1 : Nat) : Int) by omega]; exact hm)⟩⟩, hs⟩
          · rename_i hwe
            injection h with h
            subst h
            obtain ⟨y, hy, hy2⟩ := same_no hs1 (fun e => hwe (List.isEmpty_iff.2 e))
            have hy : w = [y] := hy
            subst hy
            refine ⟨0, ⟨1, pre _ _ ⟨_, mN.2.1 _ _ _ ht, .inr ?_⟩⟩, .inr ⟨y, rfl, hy2⟩⟩
            exact fb_no (TT N).2.1 inner b s' (l ++ [k1]) ((i : Int) + 1) y.1 y.2 hy2 _
      · rename_i h1
        injection h with h
        subst h
        have pre : ∀ (r : Int × RS8) (ag : SB → Prop), ((¬ ((inner == decide (0 ≤ atB b s.p)) = true) → r = (0, rst b s (s.p : Int) 14)) ∧ (¬ (¬ ((inner == decide (0 ≤ atB b s.p)) = true)) → ∃ y446 : Int × RS8, palinoderef08_Reader_Cat_R (rst b s (s.p : Int) 0) l y446 ∧ r = (y446.1, y446.2))) → FB (TT N).2.1 inner r ag (l, (i : Int), b, (s.p : Int), 0, s.L, (s.g : Int), s.cl) := fun r ag hr => by
          have j3f : ∀ x : Bool, x = false → palinoderef08_Reader_branch_j3 (TT N).2.1 b (s.p : Int) 0 s.L (s.g : Int) s.cl (i : Int) l ag inner x r := fun x hx => by
            subst hx
            exact split_ (fun h => by cases h) fun _ => split_ (fun h => absurd rfl h) fun _ => ⟨_, nx0, hr⟩
          refine split_ (fun _ => ⟨_, nx0, split_ (fun h0 => ⟨_, nx0, ?_⟩) fun _ => j3f false rfl⟩) fun h => absurd rfl h
          have hl : s.p < b.length := atB_lt h0
          have h3 : hasS b s.p [92, 41] = true := by
            cases h4 : hasS b s.p [92, 41] with
            | true => rfl
            | false => exact absurd ⟨hl, h4⟩ h1
          obtain ⟨e1, e2⟩ := (has2 b s.p 92 41).1 h3
          have e2 : atB b (s.p + 1) = 41 := e2
          refine split_ (fun _ => ⟨_, nx1, j3f _ ?_⟩) fun h => absurd e1 h
          rw [decide_eq_true e2]; rfl
        have hend : (inner == decide (0 ≤ atB b s.p)) = !(inner == decide ((s.p : Int) = (b.length : Int))) := by
          rcases Nat.lt_or_ge s.p b.length with h2 | h2
          · obtain ⟨c, hc⟩ : ∃ c, b[s.p]? = some c := ⟨_, List.getElem?_eq_getElem h2⟩
            rw [atB_some hc, decide_eq_true (by omega), decide_eq_false (by omega)]
            cases inner <;> rfl
          · rw [atB_none h2, decide_eq_false (by decide), decide_eq_true (by omega)]
            cases inner <;> rfl
        rw [hend] at pre
        unfold branchE
        split
        · rename_i h2
          refine ⟨0, ⟨0, pre _ _ (split_ (fun _ => rfl) fun h => absurd (by rw [h2]; decide) h)⟩, .inr ⟨_, rfl, show (14 : Int) ≠ 0 by decide⟩⟩
        · rename_i h2
          obtain ⟨k, e, r1, r2, r3⟩ := rcat_ok b l s (s.p : Int) (by omega) fun x t e => gr_in hgr (by rw [e]; exact List.mem_cons_self)
          have h2 : (inner == decide ((s.p : Int) = (b.length : Int))) = false := by simpa using h2
          rw [h2] at pre
          have hcp : (catS l s).2.p = s.p := by
            exact (cat_st l s).1
          split
          · rename_i h3
            obtain rfl := r3 h3
            refine ⟨k, ⟨0, pre _ _ (split_ (fun h => absurd rfl h) fun _ => ⟨_, r1, ?_⟩)⟩, .inr ⟨_, rfl, show (8 : Int) ≠ 0 by decide⟩⟩
            show (k, rst b (catS l s).2 ((catS l s).2.p : Int) 8) = _
            rw [hcp]
          · rename_i h3
            obtain ⟨rfl, rfl⟩ := r2 (by omega)
            refine ⟨_, ⟨0, pre _ _ (split_ (fun h => absurd rfl h) fun _ => ⟨_, r1, ?_⟩)⟩, .inl ⟨rfl, rfl⟩⟩
            show ((catS l s).1, rst b (catS l s).2 ((catS l s).2.p : Int) 0) = _
            rw [hcp]
    | piece f s =>
      have j1 : s.p ≤ b.length := j1
      have j2 : s.g ≤ 9 := j2
      have hL : s.L.length ≤ 1000 := hL
      have nx0 : palinoderef08_Reader_Next_R (rst b s (s.p : Int) 0) 0 (atB b s.p) := rnext_ok b s s.p 0 0 (by omega) (by omega)
      have nx1 : palinoderef08_Reader_Next_R (rst b s (s.p : Int) 0) 1 (atB b (s.p + 1)) := rnext_ok b s s.p 0 1 (by omega) (by omega)
      have pre : ∀ r, (¬ (f = true ∧ hasS b s.p [92, 123] = true)) → palinoderef08_Reader_piece_j1 (rst b s (s.p : Int) 0) (atB b s.p) (TT n).2.2.1 false r → (TT (n + 1)).2.1 (rst b s (s.p : Int) 0) f r := fun r hn hr => by
        refine .inr ⟨_, nx0, split_ (fun h92 => ⟨_, nx1, ?_⟩) fun _ => hr⟩
        have : (decide (atB b (s.p + 1) = 123) && f) = false := by
          rw [Bool.eq_false_iff]
          intro e
          simp only [Bool.and_eq_true, decide_eq_true_eq] at e
          exact hn ⟨e.2, (has2 b s.p 92 123).2 ⟨h92, e.1⟩⟩
        rw [this]; exact hr
      unfold go at h
      split at h
      · rename_i h1
        injection h with h
        subst h
        obtain ⟨e1, e2⟩ := (has2 b s.p 92 123).1 h1.2
        have e2 : atB b (s.p + 1) = 123 := e2
        refine ⟨0, .inr ⟨_, nx0, split_ (fun _ => ⟨_, nx1, ?_⟩) fun h => absurd e1 h⟩, .inr ⟨_, rfl, show (13 : Int) ≠ 0 by decide⟩⟩
        rw [decide_eq_true e2, h1.1]
        exact split_ (fun _ => rfl) fun h => absurd rfl h
      · rename_i h1
        split at h
        · rename_i h2
          injection h with h
          subst h
          have h42 := (has1 b s.p 42).1 h2.2
          obtain ⟨c, hc⟩ : ∃ c, b[s.p]? = some c := ⟨_, List.getElem?_eq_getElem (atB_lt (by rw [h42]; decide))⟩
          obtain rfl : c = 42 := u8_inj ((atB_some hc).symm.trans h42)
          obtain ⟨k, st, a1, a2⟩ := ratom_ok b hb s 42 hc (by decide) (TT n).2.2.1 0 (oneR 42 s) (by
            unfold go; rw [hc]; dsimp only; rw [if_neg (by decide), if_neg (by decide), if_neg (by decide), if_neg (fun e => absurd e.1 (by decide))])
          have hl : s.p < b.length := (List.getElem?_eq_some_iff.1 hc).1
          obtain ⟨p1, p2, _⟩ := put_st (setN (ofS [42])) (adv s 1)
          obtain ⟨k', b1, b2⟩ := rj2_ok b hb _ k st a1 fun _ => ⟨by show (putS (setN (ofS [42])) (adv s 1)).2.p ≤ _; rw [p1]; exact hl, by show (putS (setN (ofS [42])) (adv s 1)).2.g ≤ _; rw [p2]; exact j2⟩
          exact ⟨k', pre _ h1 (a2 _ b1), b2⟩
        · cases hg : go b n (.atom s) with
          | none => rw [hg] at h; cases h
          | some q1 =>
            rw [hg] at h
            injection h with h
            subst h
            obtain ⟨k, st, a1, a2⟩ := ih (.atom s) q1 hg ⟨j1, j2, trivial⟩ hL n (Nat.le_refl _)
            obtain ⟨k', b1, b2⟩ := rj2_ok b hb q1 k st a1 fun hw => (go_at b n _ q1 hg ⟨j1, j2, trivial⟩ hw).1.2
            exact ⟨k', pre _ h1 (a2 _ b1), b2⟩
    | atom s =>
      intro N hN
      have j1 : s.p ≤ b.length := j1
      have j2 : s.g ≤ 9 := j2
      have hL : s.L.length ≤ 1000 := hL
      cases hc : b[s.p]? with
      | none => unfold go at h; rw [hc] at h; cases h
      | some c =>
        by_cases h92 : c.toNat = 92
        · unfold go at h
          rw [hc] at h
          dsimp only at h
          rw [if_pos h92] at h
          have hat : atB b s.p = 92 := by rw [atB_some hc, h92]; rfl
          exact ih (.escape s) q h ⟨j1, j2, (List.getElem?_eq_some_iff.1 hc).1⟩ hL hat N (by omega)
        · exact ratom_ok b hb s c hc h92 _ n q h
    | escape s =>
      have j1 : s.p ≤ b.length := j1
      have j2 : s.g ≤ 9 := j2
      have hL : s.L.length ≤ 1000 := hL
      intro hat N hN
      have mN := tt_mono (show n ≤ N by omega)
      by_cases h40 : atB b (s.p + 1) = 40
      · have hl : s.p + 1 < b.length := atB_lt (by rw [h40]; decide)
        obtain ⟨c, hc⟩ : ∃ c, b[s.p + 1]? = some c := ⟨_, List.getElem?_eq_getElem hl⟩
        have hc40 : c.toNat = 40 := by rw [atB_some hc] at h40; omega
        unfold go at h
        rw [hc] at h
        dsimp only at h
        rw [if_pos hc40] at h
        obtain ⟨k, st, a1, a2⟩ := ih (.group s) q h ⟨j1, j2, hl⟩ hL
        refine ⟨k, st, a2, fun r hr => rj1_92 b s (by omega) _ hat r ?_⟩
        rw [decide_eq_true h40]
        exact split_ (fun _ => ⟨(k, st), mN.2.2 _ _ _ _ a1, hr⟩) fun h => absurd rfl h
      · obtain ⟨k, st, a1, a2⟩ := resc_ok b hb s hat h40 n q h
        refine ⟨k, st, a1, fun r hr => rj1_92 b s (by omega) _ hat r ?_⟩
        rw [decide_eq_false h40]
        exact split_ (fun h => by cases h) fun _ => split_ (fun _ => ⟨(k, st), a2, hr⟩) fun h => absurd rfl h
    | group s =>
      have j1 : s.p ≤ b.length := j1
      have j2 : s.g ≤ 9 := j2
      have j3 : s.p + 2 ≤ b.length := j3
      have hL : s.L.length ≤ 1000 := hL
      unfold go at h
      split at h
      · rename_i h1
        injection h with h
        subst h
        exact ⟨0, _, .inr (split_ (fun _ => rfl) fun h => absurd (by show (9 : Int) ≤ (s.g : Int); omega) h), no_rel b s 17 (by decide) 0⟩
      · rename_i h1
        have hs' : JobAt b (.branch true { s with g := s.g + 1, p := s.p + 2 }) := ⟨j3, by show s.g + 1 ≤ 9; omega, trivial⟩
        cases hg : go b n (.branch true { s with g := s.g + 1, p := s.p + 2 }) with
        | none => rw [hg] at h; cases h
        | some q1 =>
          obtain ⟨k1, ht, hs1⟩ := ih (.branch true { s with g := s.g + 1, p := s.p + 2 }) q1 hg hs' hL
          have hatp := go_at b n _ q1 hg hs'
          obtain ⟨k, w, s'⟩ := q1
          rw [hg] at h
          dsimp only at h
          have pre : ∀ r, palinoderef08_Reader_Group_j1 2 (rst b s (s.p : Int) 0) k1 (fin8 b (k, w, s')).1 (fin8 b (k, w, s')).2.1 (fin8 b (k, w, s')).2.2.1 (fin8 b (k, w, s')).2.2.2.1.1 (fin8 b (k, w, s')).2.2.2.1.2 (fin8 b (k, w, s')).2.2.2.2 r → (TT (n + 1)).2.2.1 (rst b s (s.p : Int) 0) 2 true r := fun r hr => by
            refine .inr (split_ (fun h => absurd (by have h : (9 : Int) ≤ (s.g : Int) := h; omega) h1) fun _ => inR_ (by show -9223372036854775808 ≤ (s.g : Int) + 1 ∧ (s.g : Int) + 1 ≤ _; omega) (inR_ (by show -9223372036854775808 ≤ (s.p : Int) + 2 ∧ (s.p : Int) + 2 ≤ _; omega) (split_ (fun _ => ⟨(k1, fin8 b (k, w, s')), ht, hr⟩) fun h => absurd rfl h)))
          split at h
          · rename_i hwe
            have hw : w = [] := List.isEmpty_iff.1 hwe
            subst hw
            injection h with h
            subst h
            obtain ⟨⟨c1, c2, c3⟩, c4⟩ := hatp rfl
            have c2 : s'.p ≤ b.length := c2
            have hk : k1 = k := same_ok hs1 rfl
            subst hk
            have hlen : s'.cl.l.length = 10 := s'.cl.len
            obtain ⟨kk, st, r1, r2⟩ := put_rel b (5, k1, 0, 0, 0, ((s.g + 1 : Nat) : Int), setZ) { s' with p := s'.p + 2, cl := Arr.set s'.cl (s.g + 1) true } ((s'.p : Int) + 2) (by show _ = ((s'.p + 2 : Nat) : Int); omega)
            refine ⟨kk, st, pre _ (split_ (fun h => absurd rfl h) fun _ => inR_ (by show -9223372036854775808 ≤ (s'.p : Int) + 2 ∧ (s'.p : Int) + 2 ≤ _; omega) ⟨⟨by show (0 : Int) ≤ (s.g : Int) + 1; omega, by show (s.g : Int) + 1 < 10; omega⟩, ?_⟩), r2⟩
            have e : ((s.g : Int) + 1).toNat = s.g + 1 := by omega
            have e2 : (s.g : Int) + 1 = ((s.g + 1 : Nat) : Int) := by omega
            refine ⟨s'.cl.l[s.g + 1], ?_, (kk, st), ?_, rfl⟩
            · show s'.cl.l[((s.g : Int) + 1).toNat]? = _
              rw [e]; exact List.getElem?_eq_getElem (by omega)
            · show palinoderef08_Reader_Put_R (b, (s'.p : Int) + 2, 0, (s'.L, (s'.g : Int)), Arr.set s'.cl ((s.g : Int) + 1).toNat true) (5, k1, 0, 0, 0, (s.g : Int) + 1, _) (kk, st)
              rw [e, e2]; exact r1
          · rename_i hwe
            injection h with h
            subst h
            obtain ⟨y, hy, hy2⟩ := same_no hs1 (fun e => hwe (List.isEmpty_iff.2 e))
            have hy : w = [y] := hy
            subst hy
            exact ⟨0, rst b s' y.1 y.2, pre _ (split_ (fun _ => rfl) fun h => absurd hy2 h), .inr (.inr ⟨y, rfl, hy2, rfl⟩)⟩
end Go.Proofs.Ytpddiffpanihdaa
