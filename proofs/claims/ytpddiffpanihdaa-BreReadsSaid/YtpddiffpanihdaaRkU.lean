/- The document's reader of basic regular expressions: an atom. -/
import Derived.Test.YtpddiffpanihdaaRkT
namespace Go.Proofs.Ytpddiffpanihdaa
abbrev J2 (k : Int) (st : RS8) (r : Int × RS8) : Prop := palinoderef08_Reader_piece_j2 k st.1 st.2.1 st.2.2.1 st.2.2.2.1.1 st.2.2.2.1.2 st.2.2.2.2 r
/-- An atom, by the document's reader. -/
def AtomTo (b : List UInt8) (s : Pz) (q : Res) (c7 : PG) : Prop := ∃ k st, AtomRel b q k st ∧ ∀ r, J2 k st r → palinoderef08_Reader_piece_j1 (rst b s (s.p : Int) 0) (atB b s.p) c7 false r
theorem put_rel (b : List UInt8) (nd : ND) (s1 : Pz) (a : Int) (ha : a = (s1.p : Int)) : ∃ k st, palinoderef08_Reader_Put_R (rst b s1 a 0) nd (k, st) ∧ AtomRel b (okR (putS nd s1)) k st := by
  subst ha
  obtain ⟨k, e, h1, h2, h3, h4⟩ := rput_ok' b nd s1 (s1.p : Int)
  obtain ⟨q1, _, _⟩ := put_st nd s1
  refine ⟨k, _, h1, ?_⟩
  by_cases hk : 0 ≤ (putS nd s1).1
  · refine .inl ⟨rfl, hk, h2, ?_⟩
    rw [h3 hk]
    show _ = rst b (putS nd s1).2 ((putS nd s1).2.p : Int) 0
    rw [q1]
  · refine .inr (.inl ⟨rfl, by show (putS nd s1).1 < 0; omega, h2, ?_⟩)
    rw [h4 (by omega)]
    show _ = rst b (putS nd s1).2 ((putS nd s1).2.p : Int) 8
    rw [q1]
theorem no_rel (b : List UInt8) (s : Pz) (e : Int) (he : e ≠ 0) (k : Int) : AtomRel b (noR s e) k (rst b s (s.p : Int) e) := .inr (.inr ⟨((s.p : Int), e), rfl, he, rfl⟩)
theorem atB_none {b : List UInt8} {p : Nat} (h : b.length ≤ p) : atB b p = -1 := by unfold atB; rw [List.getElem?_eq_none h]
theorem rend_ok (b : List UInt8) (s : Pz) (S : SetT) (hp : s.p ≤ 100000) (r : Int × RS8) (h36 : atB b s.p = 36) (h : palinoderef08_Reader_piece_j6 (rst b s (s.p : Int) 0) S (isEndB b s.p) r) : palinoderef08_Reader_piece_j4 36 (rst b s (s.p : Int) 0) S r := by
  refine split_ (fun _ => ⟨_, rnext_ok b s s.p 0 1 hp (by omega), split_ (fun h1 => ?_) fun h1 => ⟨_, rnext_ok b s s.p 0 1 hp (by omega), split_ (fun h2 => ⟨_, rnext_ok b s s.p 0 2 hp (by omega), ?_⟩) fun h2 => ?_⟩⟩) fun h => absurd rfl h
  · have hl : s.p < b.length := atB_lt (by rw [h36]; decide)
    have : b.length ≤ s.p + 1 := by
      rcases Nat.lt_or_ge (s.p + 1) b.length with h3 | h3
      · have : atB b (s.p + 1) = (b[s.p + 1].toNat : Int) := atB_some (List.getElem?_eq_getElem h3)
        omega
      · exact h3
    have e : isEndB b s.p = true := by unfold isEndB; rw [decide_eq_true (by omega)]; rfl
    rw [e] at h; exact h
  all_goals
    have hl : s.p + 1 < b.length := atB_lt (by omega)
    have e : isEndB b s.p = decide (hasS b (s.p + 1) [92, 41] = true) := by
      unfold isEndB
      rw [decide_eq_false (by omega), Bool.false_or]
      obtain ⟨x, hx⟩ : ∃ x, b[s.p]? = some x := ⟨_, List.getElem?_eq_getElem (by omega)⟩
      rw [atB_some hx] at h36
      have hx36 : x = 36 := u8_inj h36
      subst hx36
      unfold hasS
      rw [drop_at hx]
      simp
    rw [e] at h
  · by_cases h3 : atB b (s.p + 2) = 41
    · rw [decide_eq_true ((has2 b (s.p + 1) 92 41).2 ⟨h2, h3⟩)] at h
      rw [decide_eq_true h3]; exact h
    · rw [decide_eq_false (fun e => h3 ((has2 b (s.p + 1) 92 41).1 e).2)] at h
      rw [decide_eq_false h3]; exact h
  · rw [decide_eq_false (fun e => h2 ((has2 b (s.p + 1) 92 41).1 e).1)] at h
    exact h
theorem rput_to (b : List UInt8) (s : Pz) (hp : s.p + 1 ≤ 1000) (kind : Int) (S : SetT) : ∃ k st, AtomRel b (okR (putS (kind, 0, 0, 0, 0, 0, S) (adv s 1))) k st ∧ ∀ r, J2 k st r → palinoderef08_Reader_piece_j5 (rst b s (s.p : Int) 0) kind S r := by
  obtain ⟨k, st, h1, h2⟩ := put_rel b (kind, 0, 0, 0, 0, 0, S) (adv s 1) ((s.p : Int) + 1) (by show _ = ((s.p + 1 : Nat) : Int); omega)
  exact ⟨k, st, h2, fun r hr => inR_ (by show -9223372036854775808 ≤ (s.p : Int) + 1 ∧ (s.p : Int) + 1 ≤ _; omega) ⟨(k, st), h1, hr⟩⟩
theorem ratom_ok (b : List UInt8) (hb : b.length ≤ 1000) (s : Pz) (c : UInt8) (hc : b[s.p]? = some c) (h92 : c.toNat ≠ 92) (c7 : PG) (n : Nat) (q : Res) (hq : go b (n + 1) (.atom s) = some q) : AtomTo b s q c7 := by
  have hl : s.p < b.length := (List.getElem?_eq_some_iff.1 hc).1
  have hat : atB b s.p = (c.toNat : Int) := atB_some hc
  have hcl : c.toNat < 256 := c.toNat_lt
  unfold go at hq
  rw [hc] at hq
  dsimp only at hq
  rw [if_neg h92] at hq
  unfold AtomTo
  rw [hat]
  have pre : ∀ r : Int × RS8, ((c.toNat = 91 → ∃ y165, palinoderef08_Reader_Bracket_R (rst b s (s.p : Int) 0) y165 ∧ J2 y165.1 y165.2 r) ∧ (c.toNat ≠ 91 → (c.toNat = 46 → palinoderef08_Reader_piece_j4 46 (rst b s (s.p : Int) 0) (notS z4) r) ∧ (c.toNat ≠ 46 → palinoderef08_Reader_piece_j4 (c.toNat : Int) (rst b s (s.p : Int) 0) (ofS [c]) r))) → palinoderef08_Reader_piece_j1 (rst b s (s.p : Int) 0) (c.toNat : Int) c7 false r := fun r h => by
    refine split_ (fun h => by cases h) fun _ => split_ (fun h => by omega) fun _ => split_ (fun h => by cases h) fun _ => split_ (fun h => by omega) fun _ => split_ (fun h1 => ?_) fun h1 => exU8 (by omega) fun d hd => ?_
    · exact h.1 (by omega)
    · obtain rfl := u8_inj hd
      refine ⟨_, One_ok d, split_ (fun h2 => ⟨_, Any_ok, ?_⟩) fun h2 => ?_⟩
      · have := (h.2 (by omega)).1 (by omega)
        rw [h2]; exact this
      · exact (h.2 (by omega)).2 (by omega)
  have j4no : ∀ (y : Int) (S : SetT) (r : Int × RS8), y ≠ 36 → palinoderef08_Reader_piece_j5 (rst b s (s.p : Int) 0) 1 S r → palinoderef08_Reader_piece_j4 y (rst b s (s.p : Int) 0) S r := fun y S r hy h => split_ (fun e => absurd e hy) fun _ => split_ (fun e => by cases e) fun _ => h
  by_cases h46 : c.toNat = 46
  · rw [if_pos h46] at hq
    injection hq with hq
    subst hq
    obtain ⟨k, st, h1, h2⟩ := rput_to b s (by omega) 1 (notS z4)
    exact ⟨k, st, h1, fun r hr => pre r ⟨fun h => by omega, fun _ => ⟨fun _ => j4no 46 _ r (by decide) (h2 r hr), fun h => absurd h46 h⟩⟩⟩
  rw [if_neg h46] at hq
  by_cases h91 : c.toNat = 91
  · rw [if_pos h91] at hq
    have hpr := rparse_ok b (s.p + 1) hb hl
    have hin : InR ((s.p : Int) + 1) := ⟨by omega, by omega⟩
    by_cases he : (parseR b (s.p + 1)).2.2 = 0
    · rw [if_pos he] at hq
      injection hq with hq
      subst hq
      obtain ⟨z, hz, hz1, hz2⟩ := parse_next he hl
      obtain ⟨k, st, h1, h2⟩ := put_rel b (setN (parseR b (s.p + 1)).1) { s with p := (parseR b (s.p + 1)).2.1.toNat } (parseR b (s.p + 1)).2.1 (by show _ = (((parseR b (s.p + 1)).2.1.toNat : Nat) : Int); omega)
      exact ⟨k, st, h2, fun r hr => pre r ⟨fun _ => ⟨(k, st), inR_ hin ⟨_, hpr, split_ (fun h => absurd he h) fun _ => ⟨_, h1, rfl⟩⟩, hr⟩, fun h => absurd h91 h⟩⟩
    · rw [if_neg he] at hq
      injection hq with hq
      subst hq
      exact ⟨0, _, no_rel b s _ he 0, fun r hr => pre r ⟨fun _ => ⟨(0, _), inR_ hin ⟨_, hpr, split_ (fun _ => rfl) fun h => absurd he h⟩, hr⟩, fun h => absurd h91 h⟩⟩
  rw [if_neg h91] at hq
  by_cases h36 : c.toNat = 36
  · cases hE : isEndB b s.p with
    | true =>
      rw [if_pos ⟨h36, hE⟩] at hq
      injection hq with hq
      subst hq
      obtain ⟨k, st, h1, h2⟩ := rput_to b s (by omega) 8 z4
      refine ⟨k, st, h1, fun r hr => pre r ⟨fun h => absurd h h91, fun _ => ⟨fun h => absurd h h46, fun _ => ?_⟩⟩⟩
      rw [show (c.toNat : Int) = 36 by omega]
      refine rend_ok b s _ (by omega) r (by rw [hat]; omega) ?_
      rw [hE]
      exact split_ (fun _ => h2 r hr) fun h => absurd rfl h
    | false =>
      rw [if_neg (by rw [hE]; simp)] at hq
      injection hq with hq
      subst hq
      obtain ⟨k, st, h1, h2⟩ := rput_to b s (by omega) 1 (ofS [c])
      refine ⟨k, st, h1, fun r hr => pre r ⟨fun h => absurd h h91, fun _ => ⟨fun h => absurd h h46, fun _ => ?_⟩⟩⟩
      rw [show (c.toNat : Int) = 36 by omega]
      refine rend_ok b s _ (by omega) r (by rw [hat]; omega) ?_
      rw [hE]
      exact split_ (fun h => by cases h) fun _ => h2 r hr
  · rw [if_neg (fun e => h36 e.1)] at hq
    injection hq with hq
    subst hq
    obtain ⟨k, st, h1, h2⟩ := rput_to b s (by omega) 1 (ofS [c])
    exact ⟨k, st, h1, fun r hr => pre r ⟨fun h => absurd h h91, fun _ => ⟨fun h => absurd h h46, fun _ => j4no _ _ r (by omega) (h2 r hr)⟩⟩⟩
/-- An escape but a group's. -/
theorem resc_ok (b : List UInt8) (hb : b.length ≤ 1000) (s : Pz) (hc : atB b s.p = 92) (h40 : atB b (s.p + 1) ≠ 40) (n : Nat) (q : Res) (hq : go b (n + 1) (.escape s) = some q) : ∃ k st, AtomRel b q k st ∧ palinoderef08_Reader_Escape_R (rst b s (s.p : Int) 0) (k, st) := by
  have hl : s.p < b.length := atB_lt (by rw [hc]; decide)
  have nx := rnext_ok b s s.p 0 1 (by omega) (by omega)
  have hin : InR ((s.p : Int) + 2) := ⟨by omega, by omega⟩
  unfold go at hq
  cases h1 : b[s.p + 1]? with
  | none =>
    rw [h1] at hq
    injection hq with hq
    subst hq
    have ha : atB b (s.p + 1) = -1 := by unfold atB; rw [h1]
    rw [ha] at nx
    exact ⟨0, _, no_rel b s 10 (by decide) 0, -1, nx, split_ (fun h => by cases h) fun _ => split_ (fun _ => split_ (fun _ => rfl) fun h => absurd rfl h) fun h => absurd (by decide) h⟩
  | some c =>
    have ha : atB b (s.p + 1) = (c.toNat : Int) := atB_some h1
    rw [h1] at hq
    rw [ha] at nx h40
    dsimp only at hq
    have hcl : c.toNat < 256 := c.toNat_lt
    rw [if_neg (by omega)] at hq
    by_cases hd : 49 ≤ c.toNat ∧ c.toNat ≤ 57
    · rw [if_pos hd] at hq
      have hlen : s.cl.l.length = 10 := s.cl.len
      obtain ⟨y, hy⟩ : ∃ y, s.cl.l[c.toNat - 48]? = some y := ⟨_, List.getElem?_eq_getElem (by omega)⟩
      have e48 : ((c.toNat : Int) - 48).toNat = c.toNat - 48 := by omega
      have hj : ∀ kk st, (y = true → ∃ y45 : Int × RS8, palinoderef08_Reader_Put_R (rst b s ((s.p : Int) + 2) 0) (6, 0, 0, 0, 0, (c.toNat : Int) - 48, z4) y45 ∧ (kk, st) = (y45.1, y45.2)) → (y ≠ true → (kk, st) = ((0 : Int), rst b s (s.p : Int) 16)) → palinoderef08_Reader_Escape_R (rst b s (s.p : Int) 0) (kk, st) := fun kk st f g => by
        refine ⟨_, nx, ?_⟩
        rw [decide_eq_true (show (49 : Int) ≤ (c.toNat : Int) by omega), decide_eq_true (show (c.toNat : Int) ≤ 57 by omega)]
        refine split_ (fun _ => inR_ (by omega) ⟨⟨by omega, by omega⟩, y, by rw [e48]; exact hy, split_ (fun h => ?_) fun h => inR_ hin (inR_ (by omega) ?_)⟩) fun h => absurd rfl h
        · exact g h
        · exact f (by simpa using h)
      rw [hy] at hq
      cases y with
      | true =>
        rw [if_pos rfl] at hq
        injection hq with hq
        subst hq
        obtain ⟨k, st, h2, h3⟩ := put_rel b (6, 0, 0, 0, 0, (c.toNat : Int) - 48, setZ) (adv s 2) ((s.p : Int) + 2) (by show _ = ((s.p + 2 : Nat) : Int); omega)
        exact ⟨k, st, h3, hj k st (fun _ => ⟨_, h2, rfl⟩) fun h => absurd rfl h⟩
      | false =>
        rw [if_neg (by simp)] at hq
        injection hq with hq
        subst hq
        exact ⟨0, _, no_rel b s 16 (by decide) 0, hj 0 _ (fun h => by cases h) fun _ => rfl⟩
    · rw [if_neg hd] at hq
      have hdd : (decide (49 ≤ (c.toNat : Int)) && decide ((c.toNat : Int) ≤ 57)) = false := by
        rw [Bool.eq_false_iff]
        intro e
        simp only [Bool.and_eq_true, decide_eq_true_eq] at e
        omega
      have hj : ∀ r, palinoderef08_Reader_Escape_j2 (rst b s (s.p : Int) 0) (c.toNat : Int) (alnB c.toNat && !(decide ((c.toNat : Int) = 110))) r → palinoderef08_Reader_Escape_R (rst b s (s.p : Int) 0) r := fun r h => by
        refine ⟨_, nx, ?_⟩
        rw [hdd]
        exact split_ (fun h => by cases h) fun _ => split_ (fun h => by omega) fun _ => ⟨_, Alnum_ok c, h⟩
      have hput : ∀ (d : UInt8) (x : Int), x = (d.toNat : Int) → ∃ k st, AtomRel b (oneR d (adv s 1)) k st ∧ palinoderef08_Reader_Escape_j3 (rst b s (s.p : Int) 0) x (k, st) := fun d x hx => by
        have hdl : d.toNat < 256 := d.toNat_lt
        obtain ⟨k, st, h2, h3⟩ := put_rel b (setN (ofS [d])) (adv (adv s 1) 1) ((s.p : Int) + 2) (by show _ = ((s.p + 1 + 1 : Nat) : Int); omega)
        refine ⟨k, st, h3, inR_ hin (exU8 (by omega) fun d' hd' => ?_)⟩
        obtain rfl := u8_inj (hd'.trans hx)
        exact ⟨_, One_ok d', _, h2, rfl⟩
      by_cases h110 : c.toNat = 110
      · rw [if_pos h110] at hq
        injection hq with hq
        subst hq
        obtain ⟨k, st, h2, h3⟩ := hput 10 10 rfl
        refine ⟨k, st, h2, hj _ ?_⟩
        rw [decide_eq_true (show (c.toNat : Int) = 110 by omega), Bool.not_true, Bool.and_false]
        exact split_ (fun h => by cases h) fun _ => split_ (fun _ => h3) fun h => absurd (by omega) h
      · rw [if_neg h110] at hq
        cases hal : alnB c.toNat with
        | true =>
          rw [if_pos hal] at hq
          injection hq with hq
          subst hq
          refine ⟨0, _, no_rel b s 10 (by decide) 0, hj _ ?_⟩
          rw [hal, decide_eq_false (show ¬ (c.toNat : Int) = 110 by omega)]
          exact split_ (fun _ => rfl) fun h => absurd rfl h
        | false =>
          rw [if_neg (by rw [hal]; simp)] at hq
          injection hq with hq
          subst hq
          obtain ⟨k, st, h2, h3⟩ := hput c (c.toNat : Int) rfl
          refine ⟨k, st, h2, hj _ ?_⟩
          rw [hal]
          exact split_ (fun h => by cases h) fun _ => split_ (fun h => absurd h (by omega)) fun _ => h3
end Go.Proofs.Ytpddiffpanihdaa
