/- Extended regular expressions: what was parsed is right. -/
import Derived.Test.YtfhakeapepafbaaEpD
namespace Go.Proofs.Ytfhakeapepafbaa
theorem gr_alt {L : List ND} {g : Nat} {l : List Int} {s : Pz} (h : Gr L g s.L s.g l) (hr : 0 ≤ (altS l s).1) : Gr L g (altS l s).2.L (altS l s).2.g [(altS l s).1] := by
  cases l with
  | nil => exact absurd hr (by show ¬ (0 : Int) ≤ -1; decide)
  | cons x t =>
    rw [alt_cons] at hr ⊢
    by_cases h1 : x < 0 ∨ (s.L.length : Int) ≤ x
    · rw [if_pos h1] at hr; exact absurd hr (by show ¬ (0 : Int) ≤ -1; decide)
    · rw [if_neg h1] at hr ⊢
      exact gr_fold (.inr rfl) t x s h (by omega) hr
/-- A node that is put, right. -/
def GrE (L : List ND) (g : Nat) (q : R9) : Prop := 0 ≤ q.1 ∧ Gr L g q.2.2.L q.2.2.g [q.1]
theorem grE_ok {L : List ND} {g : Nat} {x : Int × Pz} (h : (okE x).2.1 = 0) (k : 0 ≤ x.1 → Gr L g x.2.L x.2.g [x.1]) : GrE L g (okE x) := by
  obtain ⟨h1, h2⟩ := okE_pos h
  rw [h2]
  exact ⟨h1, k h1⟩
theorem gr_rep {L : List ND} {g : Nat} {k lo hi : Int} {s : Pz} (h : Gr L g s.L s.g [k]) (hr : (okE (putS (4, k, 0, lo, hi, 0, setZ) s)).2.1 = 0) : GrE L g (okE (putS (4, k, 0, lo, hi, 0, setZ) s)) :=
  grE_ok hr fun hp => gr_put (R := []) h hp (by show (4 : Int) ≠ 5; decide) fun z => by rw [show partsL (4, k, 0, lo, hi, 0, setZ) = [k] from rfl]; simp
theorem gr_intv {b : List UInt8} {L : List ND} {g : Nat} {k lo hi : Int} {s : Pz} {a : Nat} (h : Gr L g s.L s.g [k]) (hr : (intvE b k lo hi s a).2.1 = 0) : GrE L g (intvE b k lo hi s a) := by
  unfold intvE at hr ⊢
  split at hr
  · rename_i h1
    rw [if_pos h1]
    exact gr_rep (s := { s with p := a + 1 }) h hr
  · cases hr
theorem gr_rep9 {b : List UInt8} {L : List ND} {g : Nat} {k : Int} {s : Pz} (h : Gr L g s.L s.g [k]) (hr : (rep9 b k s).2.1 = 0) : GrE L g (rep9 b k s) := by
  unfold rep9 at hr ⊢
  by_cases h1 : b[s.p]? = some 43
  · rw [if_pos h1] at hr ⊢; exact gr_rep (s := adv s 1) h hr
  rw [if_neg h1] at hr ⊢
  by_cases h1 : b[s.p]? = some 63
  · rw [if_pos h1] at hr ⊢; exact gr_rep (s := adv s 1) h hr
  rw [if_neg h1] at hr ⊢
  by_cases h1 : b[s.p]? = some 123
  · rw [if_pos h1] at hr ⊢
    unfold intv9 at hr ⊢
    by_cases h2 : (numR b (s.p + 1)).2.2 ≠ 0
    · rw [if_pos h2] at hr; cases hr
    rw [if_neg h2] at hr ⊢
    by_cases h3 : b[(numR b (s.p + 1)).2.1.toNat]? = some 44
    · rw [if_pos h3] at hr ⊢
      by_cases h4 : (numR b ((numR b (s.p + 1)).2.1.toNat + 1)).2.2 = 0
      · rw [if_pos h4] at hr ⊢; exact gr_intv h hr
      · rw [if_neg h4] at hr ⊢
        by_cases h5 : (numR b ((numR b (s.p + 1)).2.1.toNat + 1)).2.2 = 9
        · rw [if_pos h5] at hr ⊢; exact gr_intv h hr
        · rw [if_neg h5] at hr; cases hr
    · rw [if_neg h3] at hr ⊢; exact gr_intv h hr
  · rw [if_neg h1] at hr ⊢; exact gr_rep (s := adv s 1) h hr
theorem gr_reps9 {b : List UInt8} {L : List ND} {g : Nat} : ∀ (n : Nat) (k e : Int) (s : Pz), (e = 0 → 0 ≤ k ∧ Gr L g s.L s.g [k]) → (reps9 b n k e s).2.1 = 0 → GrE L g (reps9 b n k e s) := by
  intro n
  induction n with
  | zero => intro k e s h h0; exact h h0
  | succ n ih =>
    intro k e s h h0
    unfold reps9 at h0 ⊢
    by_cases h1 : e = 0 ∧ isRep b s.p = true
    · rw [if_pos h1] at h0 ⊢
      exact ih _ _ _ (fun h3 => gr_rep9 (h h1.1).2 h3) h0
    · rw [if_neg h1] at h0 ⊢
      exact h h0
theorem gr_lf {L : List ND} {g : Nat} {n : ND} {s : Pz} (h : Gr L g s.L s.g []) (hn : n.1 ≠ 5) (hl : partsL n = []) (hr : (okE (putS n s)).2.1 = 0) : GrE L g (okE (putS n s)) := grE_ok hr fun hp => gr_leaf (R := []) h hp hn hl
theorem gr_leaf9 {b : List UInt8} {L : List ND} {g : Nat} {s : Pz} {c : UInt8} (h : Gr L g s.L s.g []) (hr : (leaf9 b s c).2.1 = 0) : GrE L g (leaf9 b s c) := by
  have hset : ∀ (S : SetT) (s' : Pz), s'.L = s.L → s'.g = s.g → (okE (putS (setN S) s')).2.1 = 0 → GrE L g (okE (putS (setN S) s')) := fun S s' e1 e2 hr => gr_lf (by rw [e1, e2]; exact h) (by show (1 : Int) ≠ 5; decide) rfl hr
  unfold leaf9 at hr ⊢
  by_cases h1 : c = 92
  · rw [if_pos h1] at hr ⊢
    unfold esc9 at hr ⊢
    cases hc : b[s.p + 1]? with
    | none => rw [hc] at hr; cases hr
    | some d =>
      rw [hc] at hr
      dsimp only at hr ⊢
      split at hr
      · rename_i h2
        rw [if_pos h2]
        split at hr
        · rename_i h3
          rw [if_pos h3]; exact gr_lf (s := adv s 2) h (by show (6 : Int) ≠ 5; decide) rfl hr
        · cases hr
      · rename_i h2
        rw [if_neg h2]
        split at hr
        · cases hr
        · rename_i h3
          rw [if_neg h3]; exact hset _ _ rfl rfl hr
  rw [if_neg h1] at hr ⊢
  by_cases h1 : c = 46
  · rw [if_pos h1] at hr ⊢; exact hset _ _ rfl rfl hr
  rw [if_neg h1] at hr ⊢
  by_cases h1 : c = 91
  · rw [if_pos h1] at hr ⊢
    by_cases h2 : (parseR b (s.p + 1)).2.2 = 0
    · rw [if_pos h2] at hr ⊢; exact hset _ _ rfl rfl hr
    · rw [if_neg h2] at hr; exact absurd hr h2
  · rw [if_neg h1] at hr ⊢; exact hset _ _ rfl rfl hr
def J9Gr (L : List ND) (g : Nat) : J9 → R9 → Prop
  | .altl _ l _ s, q | .brl _ l _ s, q => Gr L g s.L s.g l → GrE L g q
  | .alts _ s, q | .branch _ s, q | .piece s, q | .atom s, q | .group s, q => Gr L g s.L s.g [] → GrE L g q
theorem go9_end {b : List UInt8} {n : Nat} {x : Bool} {l : List Int} {e : Int} {s : Pz} {q : R9} (h : go9 b n (.altl x l e s) = some q ∨ go9 b n (.brl x l e s) = some q) (hw : q.2.1 = 0) : e = 0 := by
  refine Decidable.not_not.1 fun he => ?_
  cases n with
  | zero => rcases h with h | h <;> cases h
  | succ n =>
    obtain ⟨h1, h2⟩ := go9_no b n x l e s he
    rw [h1, h2] at h
    rcases h with h | h <;> (injection h with h; subst h; exact he hw)
theorem go9_gr (b : List UInt8) : ∀ (n : Nat) (j : J9) (q : R9), go9 b n j = some q → q.2.1 = 0 → ∀ L g, J9Gr L g j q := by
  intro n
  induction n with
  | zero => intro j q h; cases h
  | succ n ih =>
    intro j q h hw L g
    have len : ∀ {L' : List ND} {g' : Nat} {R : List Int}, Gr L g L' g' R → L'.length ≤ 1000 := fun h => by obtain ⟨_, _, _, _, _, _, h5⟩ := h; exact h5
    cases j with
    | alts x s =>
      intro hs
      obtain ⟨q1, h1, h2⟩ := bind_some h
      exact ih _ _ h2 hw L g (ih _ _ h1 (go9_end (.inl h2) hw) L g hs).2
    | altl x l e s =>
      intro hs
      unfold go9 at h
      split at h
      · obtain ⟨q1, h1, h2⟩ := bind_some h
        have := (ih _ _ h1 (go9_end (.inl h2) hw) s.L s.g (gr_refl _ _ (len hs))).2
        exact ih _ _ h2 hw L g (gr_trans hs this)
      · injection h with h
        subst h
        unfold altE at hw ⊢
        by_cases he : e ≠ 0
        · rw [if_pos he] at hw; exact absurd hw he
        rw [if_neg he] at hw ⊢
        split at hw
        · cases hw
        · rename_i h3
          rw [if_neg h3]
          exact grE_ok hw fun hp => gr_alt hs hp
    | branch x s => intro hs; exact ih (.brl x [] 0 s) q h hw L g hs
    | brl x l e s =>
      intro hs
      unfold go9 at h
      split at h
      · obtain ⟨q1, h1, h2⟩ := bind_some h
        have := (ih _ _ h1 (go9_end (.inr h2) hw) s.L s.g (gr_refl _ _ (len hs))).2
        exact ih _ _ h2 hw L g (gr_trans hs this)
      · injection h with h
        subst h
        unfold brE at hw ⊢
        by_cases he : e ≠ 0
        · rw [if_pos he] at hw; exact absurd hw he
        rw [if_neg he] at hw ⊢
        split at hw
        · cases hw
        · rename_i h3
          rw [if_neg h3]
          exact grE_ok hw fun hp => gr_cat hs hp
    | piece s =>
      intro hs
      unfold go9 at h
      split at h
      · cases h
      · split at h
        · injection h with h; subst h; exact gr_lf (s := adv s 1) hs (by show (7 : Int) ≠ 5; decide) rfl hw
        · split at h
          · injection h with h; subst h; exact gr_lf (s := adv s 1) hs (by show (8 : Int) ≠ 5; decide) rfl hw
          · obtain ⟨q1, h1, rfl⟩ := map_some h
            exact gr_reps9 _ _ _ _ (fun he => ih (.atom s) q1 h1 he L g hs) hw
    | atom s =>
      intro hs
      unfold go9 at h
      split at h
      · cases h
      · split at h
        · injection h with h; subst h; cases hw
        · split at h
          · injection h with h; subst h; cases hw
          · split at h
            · exact ih (.group s) q h hw L g hs
            · injection h with h; subst h; exact gr_leaf9 hs hw
    | group s =>
      intro hs
      unfold go9 at h
      split at h
      · injection h with h; subst h; cases hw
      · obtain ⟨q1, h1, rfl⟩ := map_some h
        unfold grpE at hw ⊢
        by_cases he : q1.2.1 ≠ 0
        · rw [if_pos he] at hw; exact absurd hw he
        rw [if_neg he] at hw ⊢
        refine grE_ok hw fun hp => ?_
        have h2 := (ih _ _ h1 (Decidable.not_not.1 he) s.L (s.g + 1) (gr_refl s.L (s.g + 1) (len hs))).2
        exact gr_trans hs (gr_group (s := { q1.2.2 with p := q1.2.2.p + 1, cl := Arr.set q1.2.2.cl (s.g + 1) true }) h2 hp)
/-- What is told. -/
abbrev RE := (List ND × Int) × Int × Int
def fin9 (q : R9) : RE := if q.2.1 ≠ 0 then (([], 0), (q.2.2.p : Int), q.2.1) else ((q.2.2.L, (q.2.2.g : Int)), 0, 0)
theorem go9_neg (b : List UInt8) : ∀ (n : Nat) (x : Bool) (l : List Int) (e : Int) (s : Pz) (q : R9), go9 b n (.altl x l e s) = some q → q.2.1 ≠ 0 → q.1 = -1 := by
  intro n
  induction n with
  | zero => intro x l e s q h; cases h
  | succ n ih =>
    intro x l e s q h hw
    unfold go9 at h
    split at h
    · obtain ⟨q1, h1, h2⟩ := bind_some h
      exact ih _ _ _ _ q h2 hw
    · injection h with h
      subst h
      unfold altE at hw ⊢
      split
      · rfl
      · rename_i he
        rw [if_neg he] at hw
        split
        · rfl
        · rename_i h3
          rw [if_neg h3] at hw
          unfold okE at hw ⊢
          split
          · rfl
          · rename_i h4
            rw [if_neg h4] at hw
            exact absurd rfl hw
theorem alts_neg {b : List UInt8} {n : Nat} {x : Bool} {s : Pz} {q : R9} (h : go9 b n (.alts x s) = some q) (hw : q.2.1 ≠ 0) : q.1 = -1 := by
  cases n with
  | zero => cases h
  | succ n =>
    obtain ⟨q1, h1, h2⟩ := bind_some h
    exact go9_neg b n _ _ _ _ q h2 hw
theorem fin9_right {b : List UInt8} {m : Nat} {q : R9} (hq : go9 b m (.alts false pz0) = some q) (hw : q.2.1 = 0) : rightB q.2.2.L q.2.2.g = true ∧ q.1 = (q.2.2.L.length : Int) - 1 ∧ 1 ≤ q.2.2.L.length ∧ q.2.2.L.length ≤ 1000 := by
  obtain ⟨⟨_, _, h⟩, _⟩ : At9 b 0 q.2.2 ∧ _ := go9_at b m _ q hq ⟨Nat.zero_le _, Nat.zero_le _⟩ hw
  exact gr_right (go9_gr b m _ q hq hw [] 0 (gr_refl [] 0 (by simp))).2 h
theorem re9_ok (b : List UInt8) (q : R9) (h1 : rightB q.2.2.L q.2.2.g = true) (h2 : q.1 = (q.2.2.L.length : Int) - 1) (h3 : 1 ≤ q.2.2.L.length) (h4 : q.2.2.L.length ≤ 1000) :
    tree_Builder_Re_R (ps9 b q.2.2 q.2.1) q.1 ((q.2.2.L, (q.2.2.g : Int)), true) := by
  show tree_Builder_Re_j1 q.1 (ps9 b q.2.2 q.2.1) (decide (q.1 < 0) || decide ((q.2.2.L.length : Int) ≤ q.1)) _
  rw [decide_eq_false (by omega), decide_eq_false (by omega)]
  refine split_ (fun h => by cases h) fun _ => ⟨in64 (by omega) (by omega), ⟨by omega, by show q.1 + 1 ≤ (q.2.2.L.length : Int); omega⟩, q.2.2.L, ?_, true, ?_, split_ (fun h => absurd rfl h) fun _ => rfl⟩
  · show slices_Clone_R (q.2.2.L.take (q.1 + 1).toNat) q.2.2.L
    rw [show (q.1 + 1).toNat = q.2.2.L.length by omega, List.take_length]
    exact clone_ok q.2.2.L (by omega)
  · show tree_Right_R (q.2.2.L, (q.2.2.g : Int)) true
    rw [← h1]; exact right_ok q.2.2.L q.2.2.g
theorem parse9_ok (b : List UInt8) (hb : b.length ≤ 1000) (h0 : b ≠ []) (m : Nat) (q : R9) (hq : go9 b m (.alts false pz0) = some q) : ere_Parse_R b (fin9 q) := by
  have hl : b.length ≠ 0 := fun e => h0 (List.length_eq_zero_iff.1 e)
  refine split_ (fun h => by omega) fun _ => ⟨rs9 b q, ⟨_, _, _, _, _, rec9_ok b hb, m, pz0, q, rfl, ⟨Nat.zero_le _, Nat.zero_le _⟩, hq, rfl⟩, ?_⟩
  by_cases hw : q.2.1 = 0
  · obtain ⟨h1, h2, h3, h4⟩ := fin9_right hq hw
    refine ⟨_, re9_ok b q h1 h2 h3 h4, ?_⟩
    unfold fin9
    rw [if_neg (fun h => h hw)]
    exact split_ (fun h => absurd hw h) fun _ => split_ (fun h => absurd rfl h) fun _ => rfl
  · have hk := alts_neg hq hw
    refine ⟨((([] : List ND), 0), false), ?_, ?_⟩
    · show tree_Builder_Re_j1 q.1 (ps9 b q.2.2 q.2.1) (decide (q.1 < 0) || decide ((q.2.2.L.length : Int) ≤ q.1)) _
      rw [decide_eq_true (by omega)]
      exact split_ (fun _ => rfl) fun h => absurd rfl h
    · unfold fin9
      rw [if_pos hw]
      exact split_ (fun _ => rfl) fun h => absurd hw h
theorem parse9_nil : ere_Parse_R [] (([(0, 0, 0, 0, 0, 0, setZ)], 0), 0, 0) := by
  refine split_ (fun _ => ⟨(0, ps9 [] { pz0 with L := [(0, 0, 0, 0, 0, 0, setZ)] } 0), ⟨_, put9_ok [] (0, 0, 0, 0, 0, 0, setZ) pz0 0, rfl⟩, ?_⟩) fun h => absurd rfl h
  refine ⟨_, re9_ok [] (0, 0, { pz0 with L := [(0, 0, 0, 0, 0, 0, setZ)] }) (by decide) rfl (by decide) (by decide), ?_⟩
  exact split_ (fun h => absurd rfl h) fun _ => split_ (fun h => absurd rfl h) fun _ => rfl
end Go.Proofs.Ytfhakeapepafbaa
