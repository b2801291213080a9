/- The law of two texts with a bar between. -/
import Derived.Test.YtfhakeapepafbaaEtB
import Derived.Test.YtfhakeapepafbaaSm
import Derived.Test.YtfhakeapepafbaaGKL1
namespace Go.Proofs.Ytfhakeapepafbaa
/-! ## Groups that have not begun have not ended -/
def SGC (s s' : Pz) : Prop := s'.g = s.g ∧ s'.cl = s.cl
def CG (s s' : Pz) : Prop := s.g ≤ s'.g ∧ ∀ d : Nat, s'.cl.l[d]? = some true → s.cl.l[d]? = some true ∨ (s.g < d ∧ d ≤ s'.g)
theorem cg_of {s s' : Pz} (h : SGC s s') : CG s s' := ⟨by rw [h.1]; exact Nat.le_refl _, fun d hd => .inl (by rw [← h.2]; exact hd)⟩
theorem cg_trans {s s' s'' : Pz} (h : CG s s') (k : CG s' s'') : CG s s'' := ⟨Nat.le_trans h.1 k.1, fun d hd => by
  have := h.1
  have := k.1
  rcases k.2 d hd with h1 | h1
  · rcases h.2 d h1 with h2 | h2
    · exact .inl h2
    · exact .inr ⟨h2.1, by omega⟩
  · exact .inr ⟨by omega, h1.2⟩⟩
theorem sgc_put (nd : ND) {s s1 : Pz} (h : SGC s s1) : SGC s (okE (putS nd s1)).2.2 := by
  obtain ⟨_, e2, e3⟩ := put_st nd s1
  unfold SGC
  rw [okE_s, e2, e3]; exact h
theorem sgc_intv (b : List UInt8) (k lo hi : Int) (s : Pz) (a : Nat) : SGC s (intvE b k lo hi s a).2.2 := by
  unfold intvE
  split
  · exact sgc_put _ ⟨rfl, rfl⟩
  · exact ⟨rfl, rfl⟩
theorem sgc_rep9 (b : List UInt8) (k : Int) (s : Pz) : SGC s (rep9 b k s).2.2 := by
  unfold rep9
  split
  · exact sgc_put _ ⟨rfl, rfl⟩
  · split
    · exact sgc_put _ ⟨rfl, rfl⟩
    · split
      · unfold intv9
        split
        · exact ⟨rfl, rfl⟩
        · split
          · split
            · exact sgc_intv _ _ _ _ _ _
            · split
              · exact sgc_intv _ _ _ _ _ _
              · exact ⟨rfl, rfl⟩
          · exact sgc_intv _ _ _ _ _ _
      · exact sgc_put _ ⟨rfl, rfl⟩
theorem sgc_reps9 (b : List UInt8) : ∀ (n : Nat) (k e : Int) (s : Pz), SGC s (reps9 b n k e s).2.2 := by
  intro n
  induction n with
  | zero => intro k e s; exact ⟨rfl, rfl⟩
  | succ n ih =>
    intro k e s
    unfold reps9
    split
    · obtain ⟨h1, h2⟩ := ih (rep9 b k s).1 (rep9 b k s).2.1 (rep9 b k s).2.2
      obtain ⟨h3, h4⟩ := sgc_rep9 b k s
      exact ⟨h1.trans h3, h2.trans h4⟩
    · exact ⟨rfl, rfl⟩
theorem sgc_leaf9 (b : List UInt8) (s : Pz) (c : UInt8) : SGC s (leaf9 b s c).2.2 := by
  unfold leaf9
  split
  · unfold esc9
    split
    · exact ⟨rfl, rfl⟩
    · split
      · split
        · exact sgc_put _ ⟨rfl, rfl⟩
        · exact ⟨rfl, rfl⟩
      · split
        · exact ⟨rfl, rfl⟩
        · exact sgc_put _ ⟨rfl, rfl⟩
  · split
    · exact sgc_put _ ⟨rfl, rfl⟩
    · split
      · split
        · exact sgc_put _ ⟨rfl, rfl⟩
        · exact ⟨rfl, rfl⟩
      · exact sgc_put _ ⟨rfl, rfl⟩
theorem go9_cg (b : List UInt8) : ∀ (n : Nat) (j : J9) (q : R9), go9 b n j = some q → CG j.s q.2.2 := by
  intro n
  induction n with
  | zero => intro j q h; cases h
  | succ n ih =>
    intro j q h
    cases j with
    | alts x s =>
      obtain ⟨q1, h1, h2⟩ := bind_some h
      exact cg_trans (ih (.branch x s) _ h1) (ih _ _ h2)
    | altl x l e s =>
      unfold go9 at h
      split at h
      · obtain ⟨q1, h1, h2⟩ := bind_some h
        exact cg_trans (cg_of ⟨rfl, rfl⟩) (cg_trans (ih (.branch x (adv s 1)) _ h1) (ih _ _ h2))
      · injection h with h
        subst h
        unfold altE
        split
        · exact cg_of ⟨rfl, rfl⟩
        · split
          · exact cg_of ⟨rfl, rfl⟩
          · obtain ⟨_, e2, e3⟩ := alt_st l s
            exact cg_of ⟨by rw [okE_s]; exact e2, by rw [okE_s]; exact e3⟩
    | branch x s => exact ih (.brl x [] 0 s) q h
    | brl x l e s =>
      unfold go9 at h
      split at h
      · obtain ⟨q1, h1, h2⟩ := bind_some h
        exact cg_trans (ih (.piece s) _ h1) (ih _ _ h2)
      · injection h with h
        subst h
        unfold brE
        split
        · exact cg_of ⟨rfl, rfl⟩
        · split
          · exact cg_of ⟨rfl, rfl⟩
          · obtain ⟨_, e2, e3⟩ := cat_st l s
            exact cg_of ⟨by rw [okE_s]; exact e2, by rw [okE_s]; exact e3⟩
    | piece s =>
      unfold go9 at h
      split at h
      · cases h
      · split at h
        · injection h with h; subst h; exact cg_of (sgc_put _ ⟨rfl, rfl⟩)
        · split at h
          · injection h with h; subst h; exact cg_of (sgc_put _ ⟨rfl, rfl⟩)
          · obtain ⟨q1, h1, rfl⟩ := map_some h
            exact cg_trans (ih (.atom s) _ h1) (cg_of (sgc_reps9 _ _ _ _ _))
    | atom s =>
      unfold go9 at h
      split at h
      · cases h
      · split at h
        · injection h with h; subst h; exact cg_of ⟨rfl, rfl⟩
        · split at h
          · injection h with h; subst h; exact cg_of ⟨rfl, rfl⟩
          · split at h
            · exact ih (.group s) q h
            · injection h with h; subst h; exact cg_of (sgc_leaf9 _ _ _)
    | group s =>
      unfold go9 at h
      split at h
      · injection h with h; subst h; exact cg_of ⟨rfl, rfl⟩
      · obtain ⟨q1, h1, rfl⟩ := map_some h
        obtain ⟨h2, h3⟩ : s.g + 1 ≤ q1.2.2.g ∧ ∀ d : Nat, q1.2.2.cl.l[d]? = some true → s.cl.l[d]? = some true ∨ (s.g + 1 < d ∧ d ≤ q1.2.2.g) := ih (.alts true { s with g := s.g + 1, p := s.p + 1 }) q1 h1
        have base : CG s q1.2.2 := ⟨by omega, fun d hd => (h3 d hd).imp_right fun h => ⟨by omega, h.2⟩⟩
        unfold grpE
        split
        · exact base
        · obtain ⟨_, e2, e3⟩ := put_st (5, q1.1, 0, 0, 0, ((s.g + 1 : Nat) : Int), setZ) { q1.2.2 with p := q1.2.2.p + 1, cl := Arr.set q1.2.2.cl (s.g + 1) true }
          unfold CG
          rw [okE_s, e2, e3]
          refine ⟨base.1, fun d hd => ?_⟩
          have hd : (q1.2.2.cl.l.set (s.g + 1) true)[d]? = some true := hd
          by_cases hdg : d = s.g + 1
          · exact .inr ⟨by show s.g < d; omega, by show d ≤ q1.2.2.g; omega⟩
          · rw [List.getElem?_set_ne (by omega)] at hd
            exact base.2 d hd
theorem fresh {s : Pz} (h : CG pz0 s) (h0 : s.g = 0) (i : Nat) : s.cl.l[i]? = pz0.cl.l[i]? := by
  have hl : s.cl.l.length = 10 := s.cl.len
  have e : pz0.cl.l = List.replicate 10 false := rfl
  rcases Nat.lt_or_ge i 10 with hi | hi
  · cases hx : s.cl.l[i] with
    | true =>
      exfalso
      rcases h.2 i (by rw [List.getElem?_eq_getElem (by omega), hx]) with h1 | h1
      · rw [e] at h1
        have := List.mem_of_getElem? h1
        simp at this
      · have := h1.1; have := h1.2; omega
    | false =>
      rw [List.getElem?_eq_getElem (by omega), hx, e, List.getElem?_replicate, if_pos hi]
  · rw [List.getElem?_eq_none (by omega), e, List.getElem?_eq_none (by simp; omega)]
/-! ## One branch -/
theorem fold_last : ∀ (t : List Int) (x : Int) (s : Pz), t ≠ [] → 0 ≤ (foldS 3 t x s).1 → ∃ nd, (foldS 3 t x s).2.L[(foldS 3 t x s).2.L.length - 1]? = some nd ∧ nd.1 = 3
  | [], x, s, h, _ => absurd rfl h
  | y :: t, x, s, _, hs => by
    rw [fold_cons] at hs ⊢
    by_cases hx : x = -1
    · rw [if_pos hx] at hs
      have hs : 0 ≤ x := hs
      omega
    · rw [if_neg hx] at hs ⊢
      cases t with
      | nil =>
        obtain ⟨_, _, e⟩ := put_pos (show 0 ≤ (putS (3, x, y, 0, 0, 0, setZ) s).1 from hs)
        show ∃ nd, (putS (3, x, y, 0, 0, 0, setZ) s).2.L[(putS (3, x, y, 0, 0, 0, setZ) s).2.L.length - 1]? = some nd ∧ nd.1 = 3
        rw [e]
        refine ⟨(3, x, y, 0, 0, 0, setZ), ?_, rfl⟩
        show (s.L ++ [_])[(s.L ++ [_]).length - 1]? = _
        simp
      | cons z t => exact fold_last (z :: t) _ _ (by simp) hs
theorem altl_kind (b : List UInt8) : ∀ (n : Nat) (x : Bool) (l : List Int) (s : Pz) (q : R9), 2 ≤ l.length → go9 b n (.altl x l 0 s) = some q → q.2.1 = 0 → ∃ nd, q.2.2.L[q.2.2.L.length - 1]? = some nd ∧ nd.1 = 3 := by
  intro n
  induction n with
  | zero => intro x l s q _ h; cases h
  | succ n ih =>
    intro x l s q hl h hw
    unfold go9 at h
    split at h
    · obtain ⟨q1, h1, h2⟩ := bind_some h
      have he := go9_end (.inl h2) hw
      rw [he] at h2
      exact ih x _ _ q (by simp; omega) h2 hw
    · injection h with h
      subst h
      unfold altE at hw ⊢
      rw [if_neg (show ¬ ((0 : Int) ≠ 0) from fun h => h rfl)] at hw ⊢
      split at hw
      · cases hw
      · rename_i h4
        rw [if_neg h4]
        obtain ⟨h1, h2⟩ := okE_pos hw
        rw [h2]
        cases l with
        | nil => simp at hl
        | cons y t =>
          rw [alt_cons] at h1 ⊢
          by_cases hy : y < 0 ∨ (s.L.length : Int) ≤ y
          · rw [if_pos hy] at h1; exact absurd h1 (by show ¬ (0 : Int) ≤ -1; decide)
          · rw [if_neg hy] at h1 ⊢
            exact fold_last t y s (fun e => by rw [e] at hl; simp at hl) h1
/-- A text of one branch. -/
theorem one_branch {t : List UInt8} {n : Nat} {q : R9} (hq : go9 t (n + 2) (.alts false pz0) = some q) (hw : q.2.1 = 0) (hk : ∀ nd, q.2.2.L[q.2.2.L.length - 1]? = some nd → nd.1 ≠ 3) : go9 t (n + 1) (.branch false pz0) = some q ∧ q.2.2.p = t.length := by
  obtain ⟨q1, h1, h2⟩ := bind_some hq
  have he := go9_end (.inl h2) hw
  have hj : J9At t (.branch false pz0) := ⟨Nat.zero_le _, Nat.zero_le _⟩
  obtain ⟨⟨a1, a2, a3⟩, a4⟩ : At9 t 0 q1.2.2 ∧ q1.2.2.L.length + 1 + 2 * 0 ≤ 0 + 2 * q1.2.2.p := go9_at t (n + 1) _ q1 h1 hj he
  have hend := br_end t n false [] 0 pz0 q1 h1 he
  obtain ⟨k, e, s⟩ := q1
  have he : e = 0 := he
  subst he
  have h2 : go9 t (n + 1) (.altl false [k] 0 s) = some q := h2
  unfold go9 at h2
  split at h2
  · obtain ⟨q3, h3, h4⟩ := bind_some h2
    have he3 := go9_end (.inl h4) hw
    rw [he3] at h4
    obtain ⟨nd, c1, c2⟩ := altl_kind t n false _ _ q (by simp) h4 hw
    exact absurd c2 (hk nd c1)
  · rename_i h124
    injection h2 with h2
    have hk : 0 ≤ k ∧ k < (s.L.length : Int) := by
      obtain ⟨g1, g2⟩ := go9_gr t (n + 1) _ _ h1 rfl [] 0 (gr_refl [] 0 (by simp))
      exact gr_in g2 (by simp)
    have : altE t false [k] 0 s = (k, 0, s) := by
      unfold altE
      rw [if_neg (show ¬ ((0 : Int) ≠ 0) from fun h => h rfl), if_neg (fun e => by cases e.1), alt_cons, if_neg (by omega)]
      exact okE_yes hk.1
    rw [this] at h2
    subst h2
    refine ⟨h1, ?_⟩
    rcases hend with h | h | h
    · exact Nat.le_antisymm a2 h
    · exact absurd ⟨rfl, h⟩ h124
    · cases h.1
theorem alts_law2 {a b : List UInt8} (ha : a.length ≤ 40) (hb : b.length ≤ 40) {qa qb : R9} (h1 : go9 a 8000 (.alts false pz0) = some qa) (h2 : go9 b 7999 (.alts false pz0) = some qb) (wa : qa.2.1 = 0) (wb : qb.2.1 = 0) (ga : qa.2.2.g = 0)
    (ka : ∀ nd, qa.2.2.L[qa.2.2.L.length - 1]? = some nd → nd.1 ≠ 3) (kb : ∀ nd, qb.2.2.L[qb.2.2.L.length - 1]? = some nd → nd.1 ≠ 3) :
    ∃ q N, go9 ((a ++ [124]) ++ b) 8000 (.alts false pz0) = some q ∧ q.2.1 = 0 ∧ q.2.2.L = qa.2.2.L ++ N ++ [(3, (qa.2.2.L.length : Int) - 1, (qa.2.2.L.length : Int) + ((qb.2.2.L.length : Int) - 1), 0, 0, 0, setZ)] ∧ N.length = qb.2.2.L.length := by
  obtain ⟨b1, p1⟩ := one_branch (n := 7998) h1 wa ka
  obtain ⟨b2, p2⟩ := one_branch (n := 7997) h2 wb kb
  obtain ⟨_, la, na, _⟩ := fin9_right h1 wa
  obtain ⟨_, lb, nb, _⟩ := fin9_right h2 wb
  have hja : J9At a (.branch false pz0) := ⟨Nat.zero_le _, Nat.zero_le _⟩
  have hjb : J9At b (.branch false pz0) := ⟨Nat.zero_le _, Nat.zero_le _⟩
  obtain ⟨_, ca⟩ : At9 a 0 qa.2.2 ∧ qa.2.2.L.length + 1 + 2 * 0 ≤ 0 + 2 * qa.2.2.p := go9_at a _ _ qa b1 hja wa
  obtain ⟨_, cb⟩ : At9 b 0 qb.2.2 ∧ qb.2.2.L.length + 1 + 2 * 0 ≤ 0 + 2 * qb.2.2.p := go9_at b _ _ qb b2 hjb wb
  have hlen : ((a ++ [124]) ++ b).length = a.length + 1 + b.length := by simp; omega
  have Ha : In9 a ((a ++ [124]) ++ b) (124 :: b) 0 := ⟨Nat.zero_le _, by simp, .inr ⟨b, rfl⟩⟩
  have Hb : In9 b ((a ++ [124]) ++ b) [] (a.length + 1) := ⟨by rw [hlen]; omega, by
    rw [List.append_nil]
    have : (a ++ [124]).length = a.length + 1 := by simp
    rw [← this, List.drop_left], .inl rfl⟩
  obtain ⟨q1, g1, e1, k1, r1⟩ := ra_go (n0 := 0) Ha 7999 (.branch false pz0) pz0 qa b1 wa hja trivial ⟨rfl, Nat.zero_le _, rfl, fun _ _ => rfl, rfl, fun _ => rfl⟩ (by show 0 + 0 + 2 * (a.length - 0) + 0 ≤ 1000; omega)
  have g1 : go9 ((a ++ [124]) ++ b) 7999 (.branch false pz0) = some q1 := g1
  obtain ⟨r11, r12, r13, r14, r15, r16⟩ := r1
  have r16 := r16 rfl
  obtain ⟨q2, g2, e2, k2, r2⟩ := ra_go (n0 := qa.2.2.L.length) Hb 7998 (.branch false pz0) (adv q1.2.2 1) qb b2 wb hjb trivial ⟨by show q1.2.2.p + 1 = a.length + 1 + 0; omega, Nat.zero_le _, by show q1.2.2.g = 0; rw [r13, ga], fun i hi => by
    show q1.2.2.cl.l[i]? = pz0.cl.l[i]?
    rw [r14 i hi]
    exact fresh (go9_cg a _ _ qa b1) ga i, by show q1.2.2.L.length = qa.2.2.L.length + 0; omega, fun h => by omega⟩ (by show qa.2.2.L.length + 0 + 2 * (b.length - 0) + 0 ≤ 1000; omega)
  have g2 : go9 ((a ++ [124]) ++ b) 7998 (.branch false (adv q1.2.2 1)) = some q2 := g2
  obtain ⟨r21, r22, r23, r24, r25, _⟩ := r2
  have hgr := (go9_gr _ _ _ q2 g2 e2 q1.2.2.L q1.2.2.g (gr_refl _ _ (by rw [r16]; omega))).2
  obtain ⟨N, hN, _⟩ := hgr
  have hNl : N.length = qb.2.2.L.length := by
    have := congrArg List.length hN
    rw [List.length_append, r16] at this
    omega
  have hka : q1.1 = (qa.2.2.L.length : Int) - 1 := by rw [k1, la]; simp
  have hkb : q2.1 = (qa.2.2.L.length : Int) + ((qb.2.2.L.length : Int) - 1) := by rw [k2, lb]; omega
  have hput : putS (3, q1.1, q2.1, 0, 0, 0, setZ) q2.2.2 = ((q2.2.2.L.length : Int), { q2.2.2 with L := q2.2.2.L ++ [(3, q1.1, q2.1, 0, 0, 0, setZ)] }) := put_yes (by omega) (node_two _ (.inr rfl) ⟨by omega, by omega⟩ ⟨by omega, by omega⟩)
  refine ⟨okE (putS (3, q1.1, q2.1, 0, 0, 0, setZ) q2.2.2), N, ?_, ?_, ?_, hNl⟩
  · show (go9 ((a ++ [124]) ++ b) 7999 (.branch false pz0)).bind _ = _
    rw [g1]
    show go9 ((a ++ [124]) ++ b) 7999 (.altl false [q1.1] q1.2.1 q1.2.2) = _
    rw [e1]
    show (if (0 : Int) = 0 ∧ ((a ++ [124]) ++ b)[q1.2.2.p]? = some 124 then (go9 ((a ++ [124]) ++ b) 7998 (.branch false (adv q1.2.2 1))).bind fun q => go9 ((a ++ [124]) ++ b) 7998 (.altl false ([q1.1] ++ [q.1]) q.2.1 q.2.2) else some (altE _ false [q1.1] 0 q1.2.2)) = _
    rw [if_pos ⟨rfl, by
      rw [r11, p1, Nat.zero_add, List.append_assoc, List.getElem?_append_right (Nat.le_refl _), Nat.sub_self]; rfl⟩, g2]
    show go9 ((a ++ [124]) ++ b) 7998 (.altl false ([q1.1] ++ [q2.1]) q2.2.1 q2.2.2) = _
    rw [e2]
    show (if (0 : Int) = 0 ∧ ((a ++ [124]) ++ b)[q2.2.2.p]? = some 124 then _ else some (altE _ false [q1.1, q2.1] 0 q2.2.2)) = _
    rw [if_neg (fun e => by
      have := (List.getElem?_eq_some_iff.1 e.2).1
      rw [hlen, r21, p2] at this
      omega)]
    unfold altE
    rw [if_neg (show ¬ ((0 : Int) ≠ 0) from fun h => h rfl), if_neg (fun e => by cases e.1), alt_cons, if_neg (by omega), fold_cons, if_neg (by omega)]
    rfl
  · rw [hput, okE_yes (Int.natCast_nonneg _)]
  · rw [hput, okE_yes (Int.natCast_nonneg _)]
    show q2.2.2.L ++ [(3, q1.1, q2.1, 0, 0, 0, setZ)] = _
    rw [hN, r16, hka, hkb]
theorem same_rfl (l : List ND) (g : Int) (h : l.length ≤ 1000000) : palinoderef06_Same_R (l, g) (l, g) true := by
  have := refsame_ok l l g g h
  simpa using this
theorem last_some {l : List ND} (h : 1 ≤ l.length) : ∃ nd, l[l.length - 1]? = some nd := ⟨_, List.getElem?_eq_getElem (by omega)⟩
theorem ereAlts_law (a b : List UInt8) : palinodelaw09_EreAlts_R a b true := by
  have aw : ∃ y : Bool, palinodelaw09_awake_R y ∧ true = y := ⟨true, eqawake, rfl⟩
  refine split_ (fun _ => aw) fun h => ?_
  simp only [Bool.or_eq_true, decide_eq_true_eq] at h
  have ha : a.length ≤ 40 := by omega
  have hb : b.length ≤ 40 := by omega
  have ha1 : a ≠ [] := fun e => h (by rw [e]; simp)
  have hb1 : b ≠ [] := fun e => h (by rw [e]; simp)
  obtain ⟨qa, h1⟩ := need_top a (by omega)
  obtain ⟨qb, h2⟩ := go9_ex b 7999 (.alts false pz0) ⟨Nat.zero_le _, Nat.zero_le _⟩ (by show 7 * (b.length - 0) + 6 ≤ 7999; omega)
  have pa := parse9_ok a (by omega) ha1 _ qa h1
  have pb := parse9_ok b (by omega) hb1 _ qb h2
  have fa : ∀ {q : R9}, q.2.1 = 0 → fin9 q = ((q.2.2.L, (q.2.2.g : Int)), 0, 0) := fun {q} h => by unfold fin9; rw [if_neg (fun e => e h)]
  have fe : ∀ {q : R9}, (fin9 q).2.2 = 0 ↔ q.2.1 = 0 := fun {q} => by
    constructor
    · intro h
      refine Decidable.not_not.1 fun hw => ?_
      unfold fin9 at h
      rw [if_pos hw] at h
      exact hw h
    · intro h; rw [fa h]
  refine ⟨_, pa, _, pb, ?_⟩
  have j3 : ∀ x : Bool, x = true → palinodelaw09_EreAlts_j3 a b (fin9 qa) (fin9 qb) x true := fun x hx => split_ (fun _ => aw) fun h => absurd hx h
  have hz : ∀ {t : List UInt8} {m : Nat} {q : R9}, go9 t m (.alts false pz0) = some q → (fin9 q).2.2 = 0 → ¬ (((fin9 q).1.1.length : Int) = 0) := fun {t m q} hq h0 => by
    have hw := fe.1 h0
    have := (fin9_right hq hw).2.2.1
    rw [fa hw]
    show ¬ ((q.2.2.L.length : Int) = 0)
    omega
  refine split_ (fun hx => ?_) fun _ => split_ (fun _ => j3 true rfl) fun wa => split_ (fun _ => j3 true rfl) fun wb => ?_
  · exfalso
    by_cases wa : (fin9 qa).2.2 = 0
    · rw [decide_eq_true wa] at hx
      have hx : (decide (((fin9 qa).1.1.length : Int) = 0) || (decide ((fin9 qb).2.2 = 0) && decide (((fin9 qb).1.1.length : Int) = 0))) = true := hx
      rw [decide_eq_false (hz h1 wa)] at hx
      simp only [Bool.false_or, Bool.and_eq_true, decide_eq_true_eq] at hx
      exact hz h2 hx.1 hx.2
    · rw [decide_eq_false wa] at hx
      have hx : (decide ((fin9 qb).2.2 = 0) && decide (((fin9 qb).1.1.length : Int) = 0)) = true := hx
      simp only [Bool.and_eq_true, decide_eq_true_eq] at hx
      exact hz h2 hx.1 hx.2
  have wa := fe.1 (Decidable.not_not.1 wa)
  have wb := fe.1 (Decidable.not_not.1 wb)
  obtain ⟨ra1, ra2, ra3, ra4⟩ := fin9_right h1 wa
  obtain ⟨rb1, rb2, rb3, rb4⟩ := fin9_right h2 wb
  obtain ⟨⟨_, _, ga9⟩, _⟩ : At9 a 0 qa.2.2 ∧ _ := go9_at a _ _ qa h1 ⟨Nat.zero_le _, Nat.zero_le _⟩ wa
  obtain ⟨⟨_, _, gb9⟩, _⟩ : At9 b 0 qb.2.2 ∧ _ := go9_at b _ _ qb h2 ⟨Nat.zero_le _, Nat.zero_le _⟩ wb
  rw [fa wa, fa wb] at j3 ⊢
  obtain ⟨na, hna⟩ := last_some ra3
  obtain ⟨nb, hnb⟩ := last_some rb3
  refine inR_ (by show -9223372036854775808 ≤ (qa.2.2.g : Int) + (qb.2.2.g : Int) ∧ (qa.2.2.g : Int) + (qb.2.2.g : Int) ≤ _; omega) (split_ (fun _ => j3 true rfl) fun hg => inR_ (by show -9223372036854775808 ≤ (qa.2.2.L.length : Int) - 1 ∧ (qa.2.2.L.length : Int) - 1 ≤ _; omega) ⟨by show 0 ≤ (qa.2.2.L.length : Int) - 1; omega, na, by show qa.2.2.L[((qa.2.2.L.length : Int) - 1).toNat]? = _; rw [show ((qa.2.2.L.length : Int) - 1).toNat = qa.2.2.L.length - 1 by omega]; exact hna, split_ (fun _ => j3 true rfl) fun hka => inR_ (by show -9223372036854775808 ≤ (qb.2.2.L.length : Int) - 1 ∧ (qb.2.2.L.length : Int) - 1 ≤ _; omega) ⟨by show 0 ≤ (qb.2.2.L.length : Int) - 1; omega, nb, by show qb.2.2.L[((qb.2.2.L.length : Int) - 1).toNat]? = _; rw [show ((qb.2.2.L.length : Int) - 1).toNat = qb.2.2.L.length - 1 by omega]; exact hnb, ?_⟩⟩)
  have hg : ¬ (0 : Int) < (qa.2.2.g : Int) + (qb.2.2.g : Int) := hg
  refine split_ (fun _ => aw) fun hkb => ?_
  have hkb : ¬ nb.1 = 3 := fun e => hkb (decide_eq_true e)
  obtain ⟨q, N, hq, hw, hL, hN⟩ := alts_law2 ha hb h1 h2 wa wb (by omega) (fun nd e => by rw [hna] at e; injection e with e; rw [← e]; exact hka) (fun nd e => by rw [hnb] at e; injection e with e; rw [← e]; exact hkb)
  have hlen : ((a ++ [124]) ++ b).length = a.length + 1 + b.length := by simp; omega
  have hp := parse9_ok ((a ++ [124]) ++ b) (by omega) (by simp) _ q hq
  rw [fa hw] at hp
  have hql : q.2.2.L.length = qa.2.2.L.length + qb.2.2.L.length + 1 := by rw [hL, List.length_append, List.length_append, hN]; rfl
  rw [List.nil_append]
  refine room_ (by show 0 + a.length ≤ _; omega) (by omega) (room_ (by show a.length + 1 ≤ _; omega) (by omega) (room_ (by simp; omega) (by omega) ⟨_, hp, split_ (fun h => absurd rfl h) fun _ => inR_ (by show -9223372036854775808 ≤ (qa.2.2.L.length : Int) + (qb.2.2.L.length : Int) ∧ (qa.2.2.L.length : Int) + (qb.2.2.L.length : Int) ≤ _; omega) (inR_ (by show -9223372036854775808 ≤ (qa.2.2.L.length : Int) + (qb.2.2.L.length : Int) + 1 ∧ (qa.2.2.L.length : Int) + (qb.2.2.L.length : Int) + 1 ≤ _; omega) (split_ (fun h => absurd (by show (q.2.2.L.length : Int) = (qa.2.2.L.length : Int) + (qb.2.2.L.length : Int) + 1; omega) h) fun _ => ⟨⟨by show 0 ≤ (qa.2.2.L.length : Int); omega, by show (qa.2.2.L.length : Int) ≤ (q.2.2.L.length : Int); omega⟩, true, ?_, ?_⟩))⟩))
  · show palinoderef06_Same_R (q.2.2.L.take ((qa.2.2.L.length : Int)).toNat, 0) (qa.2.2.L, (qa.2.2.g : Int)) true
    rw [Int.toNat_natCast, hL, List.append_assoc, List.take_left, show (qa.2.2.g : Int) = 0 by omega]
    exact same_rfl _ _ (Nat.le_trans ra4 (by decide))
  · refine split_ (fun h => absurd rfl h) fun _ => inR_ (by show -9223372036854775808 ≤ (q.2.2.L.length : Int) - 1 ∧ (q.2.2.L.length : Int) - 1 ≤ _; omega) ⟨by show 0 ≤ (q.2.2.L.length : Int) - 1; omega, (3, (qa.2.2.L.length : Int) - 1, (qa.2.2.L.length : Int) + ((qb.2.2.L.length : Int) - 1), 0, 0, 0, setZ), ?_, split_ (fun _ => inR_ (by show -9223372036854775808 ≤ (qa.2.2.L.length : Int) - 1 ∧ (qa.2.2.L.length : Int) - 1 ≤ _; omega) (split_ (fun _ => inR_ (by show -9223372036854775808 ≤ (q.2.2.L.length : Int) - 2 ∧ (q.2.2.L.length : Int) - 2 ≤ _; omega) (split_ (fun _ => ⟨true, eqawake, rfl⟩) fun h => absurd (by show (qa.2.2.L.length : Int) + ((qb.2.2.L.length : Int) - 1) = (q.2.2.L.length : Int) - 2; omega) h)) fun h => absurd rfl h)) fun h => absurd rfl h⟩
    show q.2.2.L[((q.2.2.L.length : Int) - 1).toNat]? = _
    rw [show ((q.2.2.L.length : Int) - 1).toNat = (qa.2.2.L ++ N).length by rw [List.length_append, hN]; omega, hL, List.getElem?_append_right (Nat.le_refl _), Nat.sub_self]
    rfl
end Go.Proofs.Ytfhakeapepafbaa
