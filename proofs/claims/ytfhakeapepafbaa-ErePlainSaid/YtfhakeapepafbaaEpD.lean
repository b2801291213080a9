/- The parser of extended regular expressions computes what the function of a text says. -/
import Derived.Test.YtfhakeapepafbaaEpC
import Derived.Test.YtfhakeapepafbaaLt
namespace Go.Proofs.Ytfhakeapepafbaa
def SJ9 (b : List UInt8) (m : Nat) (j : J9) (o : PS9) (r : Int × PS9) : Prop := ∃ q, o = ps9 b j.s 0 ∧ J9At b j ∧ go9 b m j = some q ∧ r = rs9 b q
def S91 (b : List UInt8) (m : Nat) (o : PS9) (x : Bool) (r : Int × PS9) : Prop := ∃ s, SJ9 b m (.alts x s) o r
def S92 (b : List UInt8) (m : Nat) (o : PS9) (x : Bool) (r : Int × PS9) : Prop := ∃ s, SJ9 b m (.branch x s) o r
def S93 (b : List UInt8) (m : Nat) (o : PS9) (r : Int × PS9) : Prop := ∃ s, SJ9 b m (.piece s) o r
def S94 (b : List UInt8) (m : Nat) (o : PS9) (r : Int × PS9) : Prop := ∃ s, SJ9 b m (.atom s) o r
def S95 (b : List UInt8) (m : Nat) (o : PS9) (r : Int × PS9) : Prop := ∃ s, SJ9 b m (.group s) o r
abbrev ST9 := List Int × List ND × Int × List UInt8 × Int × Int × Arr 10 Bool
abbrev FA9 (c : PS9 → Bool → Int × PS9 → Prop) (x : Bool) (r : Int × PS9) := fun (ag : ST9 → Prop) (s : ST9) => ere_parser_alternatives_l1 c x ag s.1 s.2.1 s.2.2.1 s.2.2.2.1 s.2.2.2.2.1 s.2.2.2.2.2.1 s.2.2.2.2.2.2 r
abbrev FB9 (c : PS9 → Int × PS9 → Prop) (x : Bool) (r : Int × PS9) := fun (ag : ST9 → Prop) (s : ST9) => ere_parser_branch_l1 x c ag s.1 s.2.1 s.2.2.1 s.2.2.2.1 s.2.2.2.2.1 s.2.2.2.2.2.1 s.2.2.2.2.2.2 r
abbrev SP9 := Int × List ND × Int × List UInt8 × Int × Int × Arr 10 Bool
abbrev FP9 (r : Int × PS9) := fun (ag : SP9 → Prop) (s : SP9) => ere_parser_piece_l1 ag s.1 s.2.1 s.2.2.1 s.2.2.2.1 s.2.2.2.2.1 s.2.2.2.2.2.1 s.2.2.2.2.2.2 r
theorem bl_t {p q : Prop} [Decidable p] [Decidable q] (hp : p) (hq : q) : (decide p && decide q) = true := by rw [decide_eq_true hp, decide_eq_true hq]; rfl
theorem bl_f {p q : Prop} [Decidable p] [Decidable q] (h : ¬ (p ∧ q)) : (decide p && decide q) = false := by
  by_cases hp : p
  · by_cases hq : q
    · exact absurd ⟨hp, hq⟩ h
    · rw [decide_eq_false hq, Bool.and_false]
  · rw [decide_eq_false hp]; rfl
theorem altE_ok (b : List UInt8) (x : Bool) (l : List Int) (e : Int) (s : Pz) (hl : e = 0 → l.length ≤ 100000) (c : PS9 → Bool → Int × PS9 → Prop) (ag : ST9 → Prop) (h : ¬ (e = 0 ∧ b[s.p]? = some 124)) :
    FA9 c x (rs9 b (altE b x l e s)) ag (l, s.L, (s.g : Int), b, (s.p : Int), e, s.cl) := by
  have i124 := is9_ok b s e 124
  rw [bl_f h] at i124
  refine ⟨false, i124, split_ (fun h => by cases h) fun _ => split_ (fun he => ?_) fun he => ?_⟩
  · unfold altE; rw [if_pos he]; rfl
  · have he := Decidable.not_not.1 he
    subst he
    have j2 : ∀ y : Bool, (y = true ↔ (x = true ∧ b[s.p]? ≠ some 41)) → ere_parser_alternatives_j2 s.L (s.g : Int) b (s.p : Int) 0 s.cl l y (rs9 b (altE b x l 0 s)) := fun y hy => by
      unfold altE
      rw [if_neg (fun h => h rfl)]
      refine split_ (fun h => ⟨_, fail9_ok b s 14, ?_⟩) fun h => ⟨_, alt9_ok b l s (hl rfl), _, putE_ok b (altS l s), ?_⟩
      · rw [if_pos (hy.1 h)]
      · rw [if_neg (fun e => h (hy.2 e))]
    have i41 := is9_ok b s 0 41
    refine split_ (fun hx => ⟨_, i41, j2 _ ?_⟩) fun hx => j2 false ?_
    · rw [decide_eq_true rfl, Bool.true_and, Bool.not_eq_true', decide_eq_false_iff_not]
      exact ⟨fun e => ⟨hx, e⟩, fun e => e.2⟩
    · exact ⟨fun e => (by cases e), fun e => absurd e.1 hx⟩
theorem altl_ok (b : List UInt8) (hb : b.length ≤ 1000) (M : Nat) (x : Bool) : ∀ (n : Nat) (l : List Int) (e : Int) (s : Pz) (q : R9), n ≤ M → J9At b (.altl x l e s) → (e = 0 → l.length ≤ s.p + 1) → go9 b n (.altl x l e s) = some q →
    ∃ m, FA9 (fun a0 a1 r => ∃ m', m' < M ∧ S92 b m' a0 a1 r) x (rs9 b q) (LT (FA9 (fun a0 a1 r => ∃ m', m' < M ∧ S92 b m' a0 a1 r) x (rs9 b q)) m) (l, s.L, (s.g : Int), b, (s.p : Int), e, s.cl) := by
  intro n
  induction n with
  | zero => intro l e s q _ _ _ h; cases h
  | succ n ih =>
    intro l e s q hn hj hl h
    obtain ⟨hj1, hj2⟩ := hj
    unfold go9 at h
    split at h
    · rename_i h0
      obtain ⟨e0, h124⟩ := h0
      subst e0
      have hp := (List.getElem?_eq_some_iff.1 h124).1
      obtain ⟨j1, j2⟩ := hj2 rfl
      obtain ⟨q1, h1, h2⟩ := bind_some h
      have hjb : J9At b (.branch x (adv s 1)) := ⟨hp, j2⟩
      have hat := go9_at b n _ q1 h1 hjb
      obtain ⟨m, hm⟩ := ih (l ++ [q1.1]) q1.2.1 q1.2.2 q (by omega) ⟨by simp, fun e => by obtain ⟨⟨a1, a2⟩, _⟩ : At9 b (s.p + 1) q1.2.2 ∧ _ := hat e; exact a2⟩ (fun e => by
        obtain ⟨⟨a1, a2⟩, _⟩ : At9 b (s.p + 1) q1.2.2 ∧ _ := hat e
        have := hl rfl
        simp only [List.length_append, List.length_cons, List.length_nil]; omega) h2
      have i124 := is9_ok b s 0 124
      rw [bl_t rfl h124] at i124
      refine ⟨m + 1, true, i124, split_ (fun _ => inR_ (by show -9223372036854775808 ≤ (s.p : Int) + 1 ∧ (s.p : Int) + 1 ≤ _; omega) ⟨rs9 b q1, ⟨n, by omega, adv s 1, q1, rfl, hjb, h1, rfl⟩, room_ (by show l.length + 1 ≤ _; have := hl rfl; omega) (by omega) (.inr hm)⟩) fun h => absurd rfl h⟩
    · rename_i h0
      injection h with h
      subst h
      exact ⟨0, altE_ok b x l e s (fun e => by have := hl e; have := (hj2 e).1; omega) _ _ h0⟩
theorem brE_ok (b : List UInt8) (x : Bool) (l : List Int) (e : Int) (s : Pz) (hl : e = 0 → l.length ≤ 100000) (c : PS9 → Int × PS9 → Prop) (ag : ST9 → Prop) (h : ¬ moreB b x e s = true) :
    FB9 c x (rs9 b (brE l e s)) ag (l, s.L, (s.g : Int), b, (s.p : Int), e, s.cl) := by
  have j2 : ∀ y : Bool, y = false → ere_parser_branch_j2 c s.L (s.g : Int) b (s.p : Int) e s.cl l ag y (rs9 b (brE l e s)) := fun y hy => by
    subst hy
    refine split_ (fun h => by cases h) fun _ => ?_
    unfold brE
    refine split_ (fun he => ?_) fun he => ?_
    · rw [if_pos he]; rfl
    · have he := Decidable.not_not.1 he
      subst he
      rw [if_neg (fun h => h rfl)]
      refine split_ (fun h => ⟨_, fail9_ok b s 15, ?_⟩) fun h => ⟨_, cat9_ok b l s (hl rfl), _, putE_ok b (catS l s), ?_⟩
      · rw [if_pos (List.length_eq_zero_iff.1 (by omega))]
      · rw [if_neg (fun e => h (by rw [e]; rfl))]
  refine ⟨_, more9_ok b s e, split_ (fun h1 => ⟨_, is9_ok b s e 124, split_ (fun h2 => ?_) fun _ => j2 false rfl⟩) fun _ => j2 false rfl⟩
  simp only [Bool.and_eq_true, decide_eq_true_eq] at h1 h2
  have h3 : x = true ∧ b[s.p]? = some 41 := Decidable.not_not.1 fun h3 => h (moreB_iff.2 ⟨h1.1, h1.2, fun e => h2 ⟨h1.1, e⟩, h3⟩)
  refine split_ (fun _ => ⟨_, is9_ok b s e 41, j2 _ ?_⟩) fun hx => absurd h3.1 hx
  rw [bl_t h1.1 h3.2]; rfl
theorem brl_ok (b : List UInt8) (hb : b.length ≤ 1000) (M : Nat) (x : Bool) : ∀ (n : Nat) (l : List Int) (e : Int) (s : Pz) (q : R9), n ≤ M → J9At b (.brl x l e s) → (e = 0 → l.length ≤ s.p) → go9 b n (.brl x l e s) = some q →
    ∃ m, FB9 (fun a0 r => ∃ m', m' < M ∧ S93 b m' a0 r) x (rs9 b q) (LT (FB9 (fun a0 r => ∃ m', m' < M ∧ S93 b m' a0 r) x (rs9 b q)) m) (l, s.L, (s.g : Int), b, (s.p : Int), e, s.cl) := by
  intro n
  induction n with
  | zero => intro l e s q _ _ _ h; cases h
  | succ n ih =>
    intro l e s q hn hj hl h
    unfold go9 at h
    split at h
    · rename_i h0
      obtain ⟨e0, hp, h124, h41⟩ := moreB_iff.1 h0
      subst e0
      obtain ⟨j1, j2⟩ := hj rfl
      obtain ⟨q1, h1, h2⟩ := bind_some h
      have hjb : J9At b (.piece s) := ⟨hp, j2⟩
      have hat := go9_at b n _ q1 h1 hjb
      obtain ⟨m, hm⟩ := ih (l ++ [q1.1]) q1.2.1 q1.2.2 q (by omega) (fun e => by obtain ⟨⟨a1, a2⟩, _⟩ : At9 b (s.p + 1) q1.2.2 ∧ _ := hat e; exact a2) (fun e => by
        obtain ⟨⟨a1, a2⟩, _⟩ : At9 b (s.p + 1) q1.2.2 ∧ _ := hat e
        have := hl rfl
        simp only [List.length_append, List.length_cons, List.length_nil]; omega) h2
      have j2' : ∀ y : Bool, y = true → ere_parser_branch_j2 (fun a0 r => ∃ m', m' < M ∧ S93 b m' a0 r) s.L (s.g : Int) b (s.p : Int) 0 s.cl l (LT (FB9 (fun a0 r => ∃ m', m' < M ∧ S93 b m' a0 r) x (rs9 b q)) (m + 1)) y (rs9 b q) := fun y hy =>
        split_ (fun _ => ⟨rs9 b q1, ⟨n, by omega, s, q1, rfl, hjb, h1, rfl⟩, room_ (by show l.length + 1 ≤ _; have := hl rfl; omega) (by omega) (.inr hm)⟩) fun h => absurd hy h
      refine ⟨m + 1, _, more9_ok b s 0, split_ (fun _ => ⟨_, is9_ok b s 0 124, split_ (fun _ => split_ (fun hx => ⟨_, is9_ok b s 0 41, j2' _ ?_⟩) fun _ => j2' true rfl) fun h => absurd (by rw [bl_f (fun e => h124 e.2)]; decide) h⟩) fun h => absurd (bl_t rfl hp) h⟩
      rw [bl_f (fun e => h41 ⟨hx, e.2⟩)]; rfl
    · rename_i h0
      injection h with h
      subst h
      exact ⟨0, brE_ok b x l e s (fun e => by have := hl e; have := (hj e).1; omega) _ _ h0⟩
theorem isRep_iff {b : List UInt8} {p : Nat} : isRep b p = true ↔ b[p]? = some 42 ∨ b[p]? = some 43 ∨ b[p]? = some 63 ∨ b[p]? = some 123 := by
  unfold isRep
  cases b[p]? with
  | none => simp
  | some c => simp only [decide_eq_true_eq, Option.some.injEq]; exact Iff.rfl
theorem reps9_ok (b : List UInt8) (hb : b.length ≤ 1000) : ∀ (n : Nat) (k e : Int) (s : Pz), (e = 0 → s.p ≤ b.length ∧ s.g ≤ 9 ∧ b.length - s.p < n) →
    ∃ m, FP9 (rs9 b (reps9 b n k e s)) (LT (FP9 (rs9 b (reps9 b n k e s))) m) (k, s.L, (s.g : Int), b, (s.p : Int), e, s.cl) := by
  have hend : ∀ (k e : Int) (s : Pz) (ag : SP9 → Prop), ¬ (e = 0 ∧ isRep b s.p = true) → FP9 (rs9 b (k, e, s)) ag (k, s.L, (s.g : Int), b, (s.p : Int), e, s.cl) := fun k e s ag h => by
    have h1 : ∀ c : UInt8, (c = 42 ∨ c = 43 ∨ c = 63 ∨ c = 123) → ¬ (e = 0 ∧ b[s.p]? = some c) := fun c hc h2 => h ⟨h2.1, isRep_iff.2 (by rcases hc with rfl | rfl | rfl | rfl <;> simp [h2.2])⟩
    have i1 := is9_ok b s e 42
    have i2 := is9_ok b s e 43
    have i3 := is9_ok b s e 63
    have i4 := is9_ok b s e 123
    rw [bl_f (h1 _ (by decide))] at i1 i2 i3 i4
    exact ⟨_, i1, split_ (fun h => by cases h) fun _ => ⟨_, i2, split_ (fun h => by cases h) fun _ => ⟨_, i3, split_ (fun h => by cases h) fun _ => ⟨_, i4, split_ (fun h => by cases h) fun _ => rfl⟩⟩⟩⟩
  intro n
  induction n with
  | zero => intro k e s h; exact ⟨0, hend k e s _ fun h1 => by have := (h h1.1).2.2; omega⟩
  | succ n ih =>
    intro k e s h
    unfold reps9
    by_cases h0 : e = 0 ∧ isRep b s.p = true
    · rw [if_pos h0]
      obtain ⟨rfl, h1⟩ := h0
      obtain ⟨j1, j2, j3⟩ := h rfl
      have hp := isRep_lt h1
      obtain ⟨m, hm⟩ := ih (rep9 b k s).1 (rep9 b k s).2.1 (rep9 b k s).2.2 (fun e => by
        obtain ⟨⟨a1, a2, a3⟩, _⟩ := rep9_at hp j2 e
        exact ⟨a2, a3, by omega⟩)
      generalize hr : rs9 b (reps9 b n (rep9 b k s).1 (rep9 b k s).2.1 (rep9 b k s).2.2) = r at hm
      have j2' : ∀ y : Bool, y = true → ere_parser_piece_j2 s.L (s.g : Int) b (s.p : Int) 0 s.cl k (LT (FP9 r) (m + 1)) y r := fun y hy =>
        split_ (fun _ => ⟨_, rep9_ok b k s hb hp, .inr hm⟩) fun h => absurd hy h
      refine ⟨m + 1, _, is9_ok b s 0 42, split_ (fun _ => j2' true rfl) fun n1 => ⟨_, is9_ok b s 0 43, split_ (fun _ => j2' true rfl) fun n2 => ⟨_, is9_ok b s 0 63, split_ (fun _ => j2' true rfl) fun n3 => ⟨_, is9_ok b s 0 123, j2' _ ?_⟩⟩⟩⟩
      refine bl_t rfl ?_
      rcases isRep_iff.1 h1 with e | e | e | e
      · exact absurd (bl_t rfl e) n1
      · exact absurd (bl_t rfl e) n2
      · exact absurd (bl_t rfl e) n3
      · exact e
    · rw [if_neg h0]
      exact ⟨0, hend k e s _ h0⟩
theorem leaf9_ok (b : List UInt8) (hb : b.length ≤ 1000) (s : Pz) (c : UInt8) (hc : b[s.p]? = some c) (h1 : ¬ repC c) (h2 : c ≠ 41) (h3 : c ≠ 40) (c4 : PS9 → Int × PS9 → Prop) (y : Bool) (hy : y = false) :
    ere_parser_atom_j1 (ps9 b s 0) c c4 y (rs9 b (leaf9 b s c)) := by
  subst hy
  have hl := (List.getElem?_eq_some_iff.1 hc).1
  unfold leaf9
  have nat : ∀ {d : UInt8} {n : Int}, (d.toNat : Int) = n → (c.toNat : Int) = n → c = d := fun h h' => u8_inj (h'.trans h.symm)
  refine split_ (fun h => by cases h) fun _ => split_ (fun h => absurd (nat (d := 41) rfl h) h2) fun _ => split_ (fun h => absurd (nat (d := 40) rfl h) h3) fun _ => split_ (fun h => ?_) fun h => split_ (fun h' => ?_) fun h' => split_ (fun h'' => ?_) fun h'' => ?_
  · rw [if_pos (nat (d := 92) rfl h)]
    exact ⟨_, esc9_ok b s hb hl, rfl⟩
  all_goals rw [if_neg (fun e => h (by rw [e]; rfl))]
  · rw [if_pos (nat (d := 46) rfl h')]
    exact ⟨_, not_ok z4, _, set9_ok b _ s 1 (s.p + 1) (by omega) (by omega), rfl⟩
  all_goals rw [if_neg (fun e => h' (by rw [e]; rfl))]
  · rw [if_pos (nat (d := 91) rfl h'')]
    refine inR_ (by show -9223372036854775808 ≤ (s.p : Int) + 1 ∧ (s.p : Int) + 1 ≤ _; omega) ⟨_, parse_ok b (s.p + 1) hb hl, split_ (fun he => ⟨_, fail9_ok b s _, ?_⟩) fun he => ?_⟩
    · rw [if_neg he]
    · have he := Decidable.not_not.1 he
      obtain ⟨z, hz, hz1, hz2⟩ := parse_next he hl
      rw [if_pos he, hz, Int.toNat_natCast]
      exact inR_ (by show -9223372036854775808 ≤ (z : Int) - (s.p : Int) ∧ (z : Int) - (s.p : Int) ≤ _; omega) ⟨_, set9_ok b _ s _ z (by show (s.p : Int) + ((z : Int) - (s.p : Int)) = _; omega) (by omega), rfl⟩
  · rw [if_neg (fun e => h'' (by rw [e]; rfl))]
    exact ⟨_, of_ok [c] (by simp), _, set9_ok b _ s 1 (s.p + 1) (by omega) (by omega), rfl⟩
theorem rec9_ok (b : List UInt8) (hb : b.length ≤ 1000) : rec_ere_parser_alternatives_H (S91 b) (S92 b) (S93 b) (S94 b) (S95 b) := by
  refine ⟨?_, ?_, ?_, ?_, ?_⟩
  · rintro m _ x _ ⟨s, q, rfl, hj, h, rfl⟩
    cases m with
    | zero => cases h
    | succ n =>
      obtain ⟨q1, h1, h2⟩ := bind_some h
      have hjb : J9At b (.branch x s) := hj
      have hat := go9_at b n _ q1 h1 hjb
      obtain ⟨m, hm⟩ := altl_ok b hb (n + 1) x n [q1.1] q1.2.1 q1.2.2 q (by omega) ⟨by simp, fun e => by obtain ⟨⟨a1, a2⟩, _⟩ : At9 b s.p q1.2.2 ∧ _ := hat e; exact a2⟩ (fun _ => by simp) h2
      exact ⟨rs9 b q1, ⟨n, by omega, s, q1, rfl, hjb, h1, rfl⟩, loop_it m hm⟩
  · rintro m _ x _ ⟨s, q, rfl, hj, h, rfl⟩
    cases m with
    | zero => cases h
    | succ n =>
      obtain ⟨m, hm⟩ := brl_ok b hb (n + 1) x n [] 0 s q (by omega) (fun _ => hj) (fun _ => Nat.zero_le _) h
      exact loop_it m hm
  · rintro m _ _ ⟨s, q, rfl, hj, h, rfl⟩
    cases m with
    | zero => cases h
    | succ n =>
      obtain ⟨j1, j2⟩ := hj
      have j1 : s.p < b.length := j1
      have j2 : s.g ≤ 9 := j2
      have hin : InR ((s.p : Int) + 1) := ⟨by omega, by omega⟩
      obtain ⟨c, hc⟩ : ∃ c, b[s.p]? = some c := ⟨_, List.getElem?_eq_getElem j1⟩
      unfold go9 at h
      rw [hc] at h
      dsimp only at h
      refine ⟨by show (0 : Int) ≤ (s.p : Int); omega, c, by show b[((s.p : Int)).toNat]? = _; rw [Int.toNat_natCast]; exact hc, split_ (fun h94 => ?_) fun h94 => split_ (fun h36 => ?_) fun h36 => ?_⟩
      · rw [if_pos (show c = 94 from u8_inj h94)] at h
        injection h with h
        subst h
        exact inR_ hin ⟨_, ⟨_, put9_ok b _ (adv s 1) 0, rfl⟩, _, putE_ok b _, rfl⟩
      all_goals rw [if_neg (fun e => h94 (by rw [e]; rfl))] at h
      · rw [if_pos (show c = 36 from u8_inj h36)] at h
        injection h with h
        subst h
        exact inR_ hin ⟨_, ⟨_, put9_ok b _ (adv s 1) 0, rfl⟩, _, putE_ok b _, rfl⟩
      · rw [if_neg (fun e => h36 (by rw [e]; rfl))] at h
        obtain ⟨q1, h1, rfl⟩ := map_some h
        have hat := go9_at b n _ q1 h1 ⟨j1, j2⟩
        obtain ⟨m, hm⟩ := reps9_ok b hb (b.length + 1) q1.1 q1.2.1 q1.2.2 (fun e => by
          obtain ⟨⟨a1, a2, a3⟩, _⟩ : At9 b (s.p + 1) q1.2.2 ∧ _ := hat e
          exact ⟨a2, a3, by omega⟩)
        exact ⟨rs9 b q1, ⟨n, by omega, s, q1, rfl, ⟨j1, j2⟩, h1, rfl⟩, loop_it m hm⟩
  · rintro m _ _ ⟨s, q, rfl, hj, h, rfl⟩
    cases m with
    | zero => cases h
    | succ n =>
      obtain ⟨j1, j2⟩ := hj
      have j1 : s.p < b.length := j1
      have j2 : s.g ≤ 9 := j2
      obtain ⟨c, hc⟩ : ∃ c, b[s.p]? = some c := ⟨_, List.getElem?_eq_getElem j1⟩
      unfold go9 at h
      rw [hc] at h
      dsimp only at h
      have j1t : ∀ y : Bool, (y = true ↔ repC c) → ere_parser_atom_j1 (ps9 b s 0) c (fun a0 r => ∃ m', m' < n + 1 ∧ S95 b m' a0 r) y (rs9 b q) := fun y hy => by
        by_cases hr : repC c
        · rw [if_pos hr] at h
          injection h with h
          subst h
          exact split_ (fun _ => ⟨_, fail9_ok b s 13, rfl⟩) fun e => absurd (hy.2 hr) e
        rw [if_neg hr] at h
        have hyf : y = false := by
          cases y with
          | false => rfl
          | true => exact absurd (hy.1 rfl) hr
        by_cases h41 : c = 41
        · rw [if_pos h41] at h
          injection h with h
          subst h
          exact split_ (fun e => by rw [hyf] at e; cases e) fun _ => split_ (fun _ => ⟨_, fail9_ok b s 14, rfl⟩) fun e => absurd (by rw [h41]; rfl) e
        rw [if_neg h41] at h
        by_cases h40 : c = 40
        · rw [if_pos h40] at h
          exact split_ (fun e => by rw [hyf] at e; cases e) fun _ => split_ (fun e => absurd (u8_inj (b := 41) e) h41) fun _ => split_ (fun _ => ⟨_, ⟨n, by omega, s, q, rfl, ⟨j1, j2⟩, h, rfl⟩, rfl⟩) fun e => absurd (by rw [h40]; rfl) e
        · rw [if_neg h40] at h
          injection h with h
          subst h
          exact leaf9_ok b hb s c hc hr h41 h40 _ y hyf
      have cst : ∀ (d : UInt8) (n : Int), (d.toNat : Int) = n → (c.toNat : Int) = n → c = d := fun d n h h' => u8_inj (h'.trans h.symm)
      refine ⟨by show (0 : Int) ≤ (s.p : Int); omega, c, by show b[((s.p : Int)).toNat]? = _; rw [Int.toNat_natCast]; exact hc, split_ (fun e1 => j1t _ ?_) fun e1 => split_ (fun e2 => j1t _ ?_) fun e2 => split_ (fun e3 => j1t _ ?_) fun e3 => j1t _ ?_⟩
      · rw [decide_eq_true e1]; exact ⟨fun _ => .inl (cst 42 _ rfl e1), fun _ => rfl⟩
      · rw [decide_eq_true e2]; exact ⟨fun _ => .inr (.inl (cst 43 _ rfl e2)), fun _ => rfl⟩
      · rw [decide_eq_true e3]; exact ⟨fun _ => .inr (.inr (.inl (cst 63 _ rfl e3))), fun _ => rfl⟩
      · rw [decide_eq_true_eq]
        constructor
        · exact fun e4 => .inr (.inr (.inr (cst 123 _ rfl e4)))
        · rintro (e | e | e | e)
          · exact absurd (by rw [e]; rfl) e1
          · exact absurd (by rw [e]; rfl) e2
          · exact absurd (by rw [e]; rfl) e3
          · rw [e]; rfl
  · rintro m _ _ ⟨s, q, rfl, hj, h, rfl⟩
    cases m with
    | zero => cases h
    | succ n =>
      obtain ⟨j1, j2⟩ := hj
      have j1 : s.p < b.length := j1
      have j2 : s.g ≤ 9 := j2
      unfold go9 at h
      split at h
      · rename_i h9
        injection h with h
        subst h
        exact ⟨(-1, ps9 b s 0), split_ (fun _ => rfl) fun h => absurd (by show (9 : Int) ≤ (s.g : Int); omega) h, split_ (fun _ => ⟨_, fail9_ok b s 17, rfl⟩) fun h => absurd (by show (-1 : Int) < 0; decide) h⟩
      · rename_i h9
        obtain ⟨q1, h1, rfl⟩ := map_some h
        have hj1 : J9At b (.alts true { s with g := s.g + 1, p := s.p + 1 }) := ⟨j1, by show s.g + 1 ≤ 9; omega⟩
        have hat := go9_at b n _ q1 h1 hj1
        refine ⟨((s.g : Int) + 1, ((s.L, (s.g : Int) + 1), b, (s.p : Int), 0, s.cl)), split_ (fun h => absurd (by have h : (9 : Int) ≤ (s.g : Int) := h; omega) h9) fun _ => inR_ (by show -9223372036854775808 ≤ (s.g : Int) + 1 ∧ (s.g : Int) + 1 ≤ _; omega) rfl, split_ (fun h => by have h : (s.g : Int) + 1 < 0 := h; omega) fun _ => inR_ (by show -9223372036854775808 ≤ (s.p : Int) + 1 ∧ (s.p : Int) + 1 ≤ _; omega) ⟨rs9 b q1, ⟨n, by omega, _, q1, rfl, hj1, h1, rfl⟩, ?_⟩⟩
        unfold grpE
        refine split_ (fun he => ?_) fun he => ?_
        · have he : q1.2.1 ≠ 0 := he
          rw [if_pos he]; rfl
        · have he : q1.2.1 = 0 := Decidable.not_not.1 he
          rw [if_neg (fun h => h he)]
          obtain ⟨⟨a1, a2, a3⟩, _, a5⟩ : At9 b (s.p + 1) q1.2.2 ∧ _ ∧ (true = true → b[q1.2.2.p]? = some 41) := hat he
          have a5 := (List.getElem?_eq_some_iff.1 (a5 rfl)).1
          have hlen : q1.2.2.cl.l.length = 10 := q1.2.2.cl.len
          have eg : ((s.g : Int) + 1).toNat = s.g + 1 := by omega
          have eg2 : (s.g : Int) + 1 = ((s.g + 1 : Nat) : Int) := by omega
          refine inR_ (by show -9223372036854775808 ≤ (q1.2.2.p : Int) + 1 ∧ (q1.2.2.p : Int) + 1 ≤ _; omega) ⟨⟨by show (0 : Int) ≤ (s.g : Int) + 1; omega, by show (s.g : Int) + 1 < 10; omega⟩, q1.2.2.cl.l[s.g + 1], ?_, ((putS (5, q1.1, 0, 0, 0, ((s.g + 1 : Nat) : Int), setZ) { q1.2.2 with p := q1.2.2.p + 1, cl := Arr.set q1.2.2.cl (s.g + 1) true }).1, ps9 b (putS (5, q1.1, 0, 0, 0, ((s.g + 1 : Nat) : Int), setZ) { q1.2.2 with p := q1.2.2.p + 1, cl := Arr.set q1.2.2.cl (s.g + 1) true }).2 0), ⟨((putS (5, q1.1, 0, 0, 0, ((s.g + 1 : Nat) : Int), setZ) { q1.2.2 with p := q1.2.2.p + 1, cl := Arr.set q1.2.2.cl (s.g + 1) true }).1, ps9 b (putS (5, q1.1, 0, 0, 0, ((s.g + 1 : Nat) : Int), setZ) { q1.2.2 with p := q1.2.2.p + 1, cl := Arr.set q1.2.2.cl (s.g + 1) true }).2 0), ?_, rfl⟩, _, putE_ok b (putS (5, q1.1, 0, 0, 0, ((s.g + 1 : Nat) : Int), setZ) { q1.2.2 with p := q1.2.2.p + 1, cl := Arr.set q1.2.2.cl (s.g + 1) true }), rfl⟩
          · show q1.2.2.cl.l[((s.g : Int) + 1).toNat]? = _
            rw [eg]; exact List.getElem?_eq_getElem (by omega)
          · show tree_Builder_put_R ((q1.2.2.L, (q1.2.2.g : Int)), b, (q1.2.2.p : Int) + 1, q1.2.1, Arr.set q1.2.2.cl ((s.g : Int) + 1).toNat true) (5, q1.1, 0, 0, 0, (s.g : Int) + 1, _) _
            rw [eg, eg2, he]
            exact put9_ok b (5, q1.1, 0, 0, 0, ((s.g + 1 : Nat) : Int), setZ) { q1.2.2 with p := q1.2.2.p + 1, cl := Arr.set q1.2.2.cl (s.g + 1) true } 0
end Go.Proofs.Ytfhakeapepafbaa
