/- The document's reader of extended regular expressions: a leaf. -/
import Derived.Test.YtfhakeapepafbaaEqT
namespace Go.Proofs.Ytfhakeapepafbaa
abbrev J4 (k : Int) (st : RS8) (r : Int × RS8) : Prop := palinoderef08_Reader_extended_j4 k st.1 st.2.1 st.2.2.1 st.2.2.2.1.1 st.2.2.2.1.2 st.2.2.2.2 r
theorem put_of (b : List UInt8) (nd : ND) (s s1 : Pz) (a : Int) (ha : a = (s1.p : Int)) (e1 : s1.L = s.L) (e2 : s1.g = s.g) (e3 : s1.cl = s.cl) (hl : s.L.length < 1000) (hn : isNodeB nd s.L.length s.g = true) :
    palinoderef08_Reader_Put_R (rst b s a 0) nd ((okE (putS nd s1)).1, fr9 b (okE (putS nd s1))) ∧ (okE (putS nd s1)).2.2.cl = s.cl ∧ (okE (putS nd s1)).2.2.g = s.g := by
  obtain ⟨h1, h2, h3⟩ := put_both (b := b) (nd := nd) (s := s1) a ha (by rw [e1]; exact hl) (by rw [e1, e2]; exact hn)
  refine ⟨?_, ?_, ?_⟩
  · rw [show rst b s a 0 = rst b s1 a 0 by unfold rst; rw [e1, e2, e3]]; exact h1
  · rw [h3]; exact e3
  · rw [h3]; exact e2
theorem resc9_ok (b : List UInt8) (hb : b.length ≤ 1000) (s : Pz) (hp : s.p < b.length) (hL : s.L.length < 1000) (hC : ClI s) : ∃ k, palinoderef08_Reader_Escape_R (rst b s (s.p : Int) 0) (k, fr9 b (esc9 b s)) ∧ ((esc9 b s).2.1 = 0 → k = (esc9 b s).1) ∧ (esc9 b s).2.2.cl = s.cl ∧ (esc9 b s).2.2.g = s.g := by
  have nx := rnext_ok b s s.p 0 1 (by omega) (by omega)
  have hin : InR ((s.p : Int) + 2) := ⟨by omega, by omega⟩
  unfold esc9
  cases h1 : b[s.p + 1]? with
  | none =>
    have ha : atB b (s.p + 1) = -1 := by unfold atB; rw [h1]
    rw [ha] at nx
    exact ⟨0, ⟨-1, nx, split_ (fun h => by cases h) fun _ => split_ (fun _ => split_ (fun _ => rfl) fun h => absurd rfl h) fun h => absurd (by decide) h⟩, (fun h => by cases h), rfl, rfl⟩
  | some c =>
    have ha : atB b (s.p + 1) = (c.toNat : Int) := atB_some h1
    rw [ha] at nx
    dsimp only
    have hcl : c.toNat < 256 := c.toNat_lt
    by_cases hd : 49 ≤ c.toNat ∧ c.toNat ≤ 57
    · rw [if_pos hd]
      have hlen : s.cl.l.length = 10 := s.cl.len
      obtain ⟨y, hy⟩ : ∃ y, s.cl.l[c.toNat - 48]? = some y := ⟨_, List.getElem?_eq_getElem (by omega)⟩
      have e48 : ((c.toNat : Int) - 48).toNat = c.toNat - 48 := by omega
      have hj : ∀ kk st, (y = true → ∃ y45 : Int × RS8, palinoderef08_Reader_Put_R (rst b s ((s.p : Int) + 2) 0) (6, 0, 0, 0, 0, (c.toNat : Int) - 48, setZ) y45 ∧ (kk, st) = (y45.1, y45.2)) → (y ≠ true → (kk, st) = ((0 : Int), rst b s (s.p : Int) 16)) → palinoderef08_Reader_Escape_R (rst b s (s.p : Int) 0) (kk, st) := fun kk st f g => by
        refine ⟨_, nx, ?_⟩
        rw [decide_eq_true (show (49 : Int) ≤ (c.toNat : Int) by omega), decide_eq_true (show (c.toNat : Int) ≤ 57 by omega)]
        refine split_ (fun _ => inR_ (by omega) ⟨⟨by omega, by omega⟩, y, by rw [e48]; exact hy, split_ (fun h => ?_) fun h => inR_ hin (inR_ (by omega) ?_)⟩) fun h => absurd rfl h
        · exact g h
        · exact f (by simpa using h)
      cases y with
      | true =>
        rw [if_pos hy]
        have := hC _ hy
        obtain ⟨p1, p2, p3⟩ := put_of b (6, 0, 0, 0, 0, (c.toNat : Int) - 48, setZ) s (adv s 2) ((s.p : Int) + 2) (by show _ = ((s.p + 2 : Nat) : Int); omega) rfl rfl rfl hL (node_back ⟨by omega, by omega⟩)
        exact ⟨_, hj _ _ (fun _ => ⟨_, p1, rfl⟩) fun h => absurd rfl h, fun _ => rfl, p2, p3⟩
      | false =>
        rw [if_neg (by rw [hy]; simp)]
        exact ⟨0, hj 0 _ (fun h => by cases h) fun _ => rfl, (fun h => by cases h), rfl, rfl⟩
    · rw [if_neg hd]
      have hdd : (decide (49 ≤ (c.toNat : Int)) && decide ((c.toNat : Int) ≤ 57)) = false := by
        rw [Bool.eq_false_iff]
        intro e
        simp only [Bool.and_eq_true, decide_eq_true_eq] at e
        omega
      have hj : ∀ r, palinoderef08_Reader_Escape_j2 (rst b s (s.p : Int) 0) (c.toNat : Int) (alnB c.toNat && !(decide ((c.toNat : Int) = 110))) r → palinoderef08_Reader_Escape_R (rst b s (s.p : Int) 0) r := fun r h => by
        refine ⟨_, nx, ?_⟩
        rw [hdd]
        exact split_ (fun h => by cases h) fun _ => split_ (fun h => by omega) fun _ => ⟨_, Alnum_ok c, h⟩
      by_cases h2 : alnB c.toNat = true ∧ c.toNat ≠ 110
      · rw [if_pos h2]
        refine ⟨0, hj _ ?_, (fun h => by cases h), rfl, rfl⟩
        rw [h2.1, decide_eq_false (show ¬ (c.toNat : Int) = 110 by omega)]
        exact split_ (fun _ => rfl) fun h => absurd rfl h
      · rw [if_neg h2]
        have hf : (alnB c.toNat && !(decide ((c.toNat : Int) = 110))) = false := by
          rw [Bool.eq_false_iff]
          intro e
          simp only [Bool.and_eq_true, Bool.not_eq_true', decide_eq_false_iff_not] at e
          exact h2 ⟨e.1, by omega⟩
        obtain ⟨p1, p2, p3⟩ := put_of b (setN (ofS [if c.toNat = 110 then 10 else c])) s (adv s 2) ((s.p : Int) + 2) (by show _ = ((s.p + 2 : Nat) : Int); omega) rfl rfl rfl hL (node_set _ _ _)
        refine ⟨_, hj _ ?_, fun _ => rfl, p2, p3⟩
        rw [hf]
        refine split_ (fun h => by cases h) fun _ => split_ (fun h => ?_) fun h => ?_
        · rw [if_pos (show c.toNat = 110 by omega)] at p1 ⊢
          exact inR_ hin (exU8 (by decide) fun d hd => by
            obtain rfl : d = 10 := u8_inj hd
            exact ⟨_, One_ok 10, _, p1, rfl⟩)
        · rw [if_neg (show ¬ c.toNat = 110 by omega)] at p1 ⊢
          exact inR_ hin (exU8 (by omega) fun d hd => by
            obtain rfl := u8_inj hd
            exact ⟨_, One_ok d, _, p1, rfl⟩)
theorem rleaf9_ok (b : List UInt8) (hb : b.length ≤ 1000) (s : Pz) (c : UInt8) (hc : b[s.p]? = some c) (h40 : c ≠ 40) (hL : s.L.length < 1000) (hC : ClI s) (c7 : PG) :
    (∃ k, (∀ r, J4 k (fr9 b (leaf9 b s c)) r → palinoderef08_Reader_extended_j2 (rst b s (s.p : Int) 0) (c.toNat : Int) c7 false r) ∧ ((leaf9 b s c).2.1 = 0 → k = (leaf9 b s c).1)) ∧ (leaf9 b s c).2.2.cl = s.cl ∧ (leaf9 b s c).2.2.g = s.g := by
  have hl := (List.getElem?_eq_some_iff.1 hc).1
  have hin : InR ((s.p : Int) + 1) := ⟨by omega, by omega⟩
  have hcl : c.toNat < 256 := c.toNat_lt
  have ne : ∀ d : UInt8, c ≠ d → ¬ ((c.toNat : Int) = (d.toNat : Int)) := fun d h e => h (u8_inj e)
  have n40 := ne 40 h40
  unfold leaf9
  by_cases h1 : c = 92
  · rw [if_pos h1]
    obtain ⟨k, e1, e2, e3, e4⟩ := resc9_ok b hb s hl hL hC
    refine ⟨⟨k, fun r hr => ?_, e2⟩, e3, e4⟩
    subst h1
    exact split_ (fun h => by cases h) fun _ => split_ (fun h => absurd h n40) fun _ => split_ (fun _ => ⟨_, e1, hr⟩) fun h => absurd rfl h
  rw [if_neg h1]
  have n92 := ne 92 h1
  by_cases h2 : c = 46
  · rw [if_pos h2]
    obtain ⟨p1, p2, p3⟩ := put_of b (setN (notS z4)) s (adv s 1) ((s.p : Int) + 1) (by show _ = ((s.p + 1 : Nat) : Int); omega) rfl rfl rfl hL (node_set _ _ _)
    refine ⟨⟨_, fun r hr => ?_, fun _ => rfl⟩, p2, p3⟩
    subst h2
    refine split_ (fun h => by cases h) fun _ => split_ (fun h => absurd h n40) fun _ => split_ (fun h => absurd h n92) fun _ => split_ (fun h => absurd h (by decide)) fun _ => exU8 (by decide) fun d hd => ⟨_, One_ok d, split_ (fun _ => ⟨_, Any_ok, inR_ hin ⟨_, p1, hr⟩⟩) fun h => absurd rfl h⟩
  rw [if_neg h2]
  have n46 := ne 46 h2
  by_cases h3 : c = 91
  · rw [if_pos h3]
    have pre : ∀ k st r, palinoderef08_Reader_Bracket_R (rst b s (s.p : Int) 0) (k, st) → J4 k st r → palinoderef08_Reader_extended_j2 (rst b s (s.p : Int) 0) (c.toNat : Int) c7 false r := fun k st r g1 g2 => by
      subst h3
      exact split_ (fun h => by cases h) fun _ => split_ (fun h => absurd h n40) fun _ => split_ (fun h => absurd h n92) fun _ => split_ (fun _ => ⟨_, g1, g2⟩) fun h => absurd rfl h
    have hpr := rparse_ok b (s.p + 1) hb hl
    by_cases he : (parseR b (s.p + 1)).2.2 = 0
    · rw [if_pos he]
      obtain ⟨z, hz, hz1, hz2⟩ := parse_next he hl
      obtain ⟨p1, p2, p3⟩ := put_of b (setN (parseR b (s.p + 1)).1) s { s with p := (parseR b (s.p + 1)).2.1.toNat } (parseR b (s.p + 1)).2.1 (by show _ = (((parseR b (s.p + 1)).2.1.toNat : Nat) : Int); omega) rfl rfl rfl hL (node_set _ _ _)
      exact ⟨⟨_, fun r hr => pre _ _ r (inR_ hin ⟨_, hpr, split_ (fun h => absurd he h) fun _ => ⟨_, p1, rfl⟩⟩) hr, fun _ => rfl⟩, p2, p3⟩
    · rw [if_neg he]
      exact ⟨⟨0, fun r hr => pre 0 _ r (inR_ hin ⟨_, hpr, split_ (fun _ => rfl) fun h => absurd he h⟩) hr, fun h => absurd h he⟩, rfl, rfl⟩
  · rw [if_neg h3]
    have n91 := ne 91 h3
    obtain ⟨p1, p2, p3⟩ := put_of b (setN (ofS [c])) s (adv s 1) ((s.p : Int) + 1) (by show _ = ((s.p + 1 : Nat) : Int); omega) rfl rfl rfl hL (node_set _ _ _)
    refine ⟨⟨_, fun r hr => ?_, fun _ => rfl⟩, p2, p3⟩
    refine split_ (fun h => by cases h) fun _ => split_ (fun h => absurd h n40) fun _ => split_ (fun h => absurd h n92) fun _ => split_ (fun h => absurd h n91) fun _ => exU8 (by omega) fun d hd => ?_
    obtain rfl := u8_inj hd
    exact ⟨_, One_ok d, split_ (fun h => absurd h n46) fun _ => inR_ hin ⟨_, p1, hr⟩⟩
end Go.Proofs.Ytfhakeapepafbaa
