/- Extended regular expressions: nodes that may be put; the laws' examples. -/
import Derived.Test.YtfhakeapepafbaaEpE
namespace Go.Proofs.Ytfhakeapepafbaa
theorem gr_in {L L' : List ND} {g g' : Nat} {R : List Int} {z : Int} (h : Gr L g L' g' R) (hz : z ∈ R) : 0 ≤ z ∧ z < (L'.length : Int) := by
  obtain ⟨N, rfl, _, a2, _⟩ := h
  have h1 := a2 z
  have h2 : 0 < R.count z := List.count_pos_iff.2 hz
  rw [List.length_append]
  split at h1 <;> omega
theorem node_rep {k lo hi a : Int} (g : Int) (hk : 0 ≤ k ∧ k < a) (ht : isTimesB lo hi = true) : isNodeB (4, k, 0, lo, hi, 0, setZ) a g = true := by
  simp [isNodeB, plainL, partsL, hk.1, hk.2, ht]
theorem node_two {kind x y a : Int} (g : Int) (hkd : kind = 2 ∨ kind = 3) (hx : 0 ≤ x ∧ x < a) (hy : 0 ≤ y ∧ y < a) : isNodeB (kind, x, y, 0, 0, 0, setZ) a g = true := by
  rcases hkd with rfl | rfl <;> simp [isNodeB, plainL, partsL, hx.1, hx.2, hy.1, hy.2]
theorem node_grp {k d a g : Int} (hk : 0 ≤ k ∧ k < a) (hd : 1 ≤ d ∧ d ≤ g) : isNodeB (5, k, 0, 0, 0, d, setZ) a g = true := by
  simp [isNodeB, plainL, partsL, hk.1, hk.2, hd.1, hd.2]
theorem node_back {d a g : Int} (hd : 1 ≤ d ∧ d ≤ g) : isNodeB (6, 0, 0, 0, 0, d, setZ) a g = true := by
  simp [isNodeB, plainL, partsL, hd.1, hd.2]
theorem node_bol (a g : Int) : isNodeB (7, 0, 0, 0, 0, 0, setZ) a g = true := by simp [isNodeB, plainL, partsL]
theorem node_eol (a g : Int) : isNodeB (8, 0, 0, 0, 0, 0, setZ) a g = true := by simp [isNodeB, plainL, partsL]
theorem fold_succ {kind : Int} (hkd : kind = 2 ∨ kind = 3) : ∀ (t : List Int) (x : Int) (s : Pz), (0 ≤ x ∧ x < (s.L.length : Int)) → (∀ y ∈ t, 0 ≤ y ∧ y < (s.L.length : Int)) → s.L.length + t.length ≤ 1000 → 0 ≤ (foldS kind t x s).1
  | [], x, s, hx, _, _ => hx.1
  | y :: t, x, s, hx, ht, hl => by
    simp only [List.length_cons] at hl
    rw [fold_cons, if_neg (by omega), put_yes (by omega) (node_two s.g hkd hx (ht y List.mem_cons_self))]
    refine fold_succ hkd t _ _ ?_ (fun z hz => ?_) ?_
    · show 0 ≤ (s.L.length : Int) ∧ (s.L.length : Int) < ((s.L ++ [_]).length : Int)
      simp; omega
    · have := ht z (List.mem_cons_of_mem _ hz)
      show 0 ≤ z ∧ z < ((s.L ++ [_]).length : Int)
      simp; omega
    · show (s.L ++ [_]).length + t.length ≤ 1000
      simp; omega
theorem cat_succ {l : List Int} {s : Pz} (hl : l ≠ []) (hv : ∀ y ∈ l, 0 ≤ y ∧ y < (s.L.length : Int)) (hc : s.L.length + l.length ≤ 1001) : 0 ≤ (catS l s).1 := by
  cases l with
  | nil => exact absurd rfl hl
  | cons x t =>
    have hx := hv x List.mem_cons_self
    simp only [List.length_cons] at hc
    rw [cat_cons, if_neg (by omega)]
    exact fold_succ (.inl rfl) t x s hx (fun y hy => hv y (List.mem_cons_of_mem _ hy)) (by omega)
theorem alt_succ {l : List Int} {s : Pz} (hl : l ≠ []) (hv : ∀ y ∈ l, 0 ≤ y ∧ y < (s.L.length : Int)) (hc : s.L.length + l.length ≤ 1001) : 0 ≤ (altS l s).1 := by
  cases l with
  | nil => exact absurd rfl hl
  | cons x t =>
    have hx := hv x List.mem_cons_self
    simp only [List.length_cons] at hc
    rw [alt_cons, if_neg (by omega)]
    exact fold_succ (.inr rfl) t x s hx (fun y hy => hv y (List.mem_cons_of_mem _ hy)) (by omega)
theorem numL_bd : ∀ (l : List UInt8) (n : Int) (gr : Bool), 0 ≤ n → n ≤ 255 → 0 ≤ (numL n gr l).1 ∧ (numL n gr l).1 ≤ 255
  | [], n, gr, h, h' => ⟨h, h'⟩
  | c :: t, n, gr, h, h' => by
    rw [numL_cons]
    by_cases h1 : 48 ≤ c.toNat ∧ c.toNat ≤ 57
    · rw [if_pos h1]
      cases hg : (gr || decide ((255 - ((c.toNat : Int) - 48)).tdiv 10 < n)) with
      | true => exact numL_bd t n true h h'
      | false =>
        have := of_decide_eq_false (Bool.or_eq_false_iff.1 hg).2
        rw [Int.tdiv_eq_ediv_of_nonneg (by omega)] at this
        exact numL_bd t _ false (by omega) (by omega)
    · rw [if_neg h1]; exact ⟨h, h'⟩
theorem numR_bd (b : List UInt8) (p : Nat) : 0 ≤ (numR b p).1 ∧ (numR b p).1 ≤ 255 := by
  unfold numR
  split
  · exact ⟨Int.le_refl _, by decide⟩
  · split
    · exact ⟨Int.le_refl _, by decide⟩
    · exact numL_bd _ 0 false (Int.le_refl _) (by decide)
theorem okE_yes {x : Int × Pz} (h : 0 ≤ x.1) : okE x = (x.1, 0, x.2) := if_neg (by omega)
/-- No place for groups that have not begun. -/
def ClI (s : Pz) : Prop := ∀ d : Nat, s.cl.l[d]? = some true → d ≤ s.g
/-- There is room for the nodes, and what was put is right. -/
def Good9 (b : List UInt8) (s : Pz) (l : List Int) : Prop := s.L.length + 2 * (b.length - s.p) + l.length ≤ 1000 ∧ ClI s ∧ ∃ L g, Gr L g s.L s.g l
def End9 (b : List UInt8) (x : Bool) (p : Nat) : Prop := b.length ≤ p ∨ b[p]? = some 124 ∨ (x = true ∧ b[p]? = some 41)
theorem br_end (b : List UInt8) : ∀ (n : Nat) (x : Bool) (l : List Int) (e : Int) (s : Pz) (q : R9), go9 b n (.brl x l e s) = some q → q.2.1 = 0 → End9 b x q.2.2.p := by
  intro n
  induction n with
  | zero => intro x l e s q h; cases h
  | succ n ih =>
    intro x l e s q h hw
    have he := go9_end (.inr h) hw
    subst he
    unfold go9 at h
    split at h
    · obtain ⟨q1, h1, h2⟩ := bind_some h
      exact ih _ _ _ _ q h2 hw
    · rename_i h0
      injection h with h
      subst h
      unfold brE at hw ⊢
      rw [if_neg (fun h => h rfl)] at hw ⊢
      split at hw
      · cases hw
      · rename_i h3
        rw [if_neg h3, okE_s, (cat_st l s).1]
        by_cases h4 : s.p < b.length
        · by_cases h5 : b[s.p]? = some 124
          · exact .inr (.inl h5)
          · exact .inr (.inr (Decidable.not_not.1 fun h6 => h0 (moreB_iff.2 ⟨rfl, h4, h5, h6⟩)))
        · exact .inl (by omega)
theorem altl_no {b : List UInt8} {n : Nat} {x : Bool} {l : List Int} {e : Int} {s : Pz} {q : R9} (he : e ≠ 0) (h : go9 b n (.altl x l e s) = some q) : q = (-1, e, s) := by
  cases n with
  | zero => cases h
  | succ n => rw [(go9_no b n x l e s he).1] at h; injection h with h; exact h.symm
theorem brl_no {b : List UInt8} {n : Nat} {x : Bool} {l : List Int} {e : Int} {s : Pz} {q : R9} (he : e ≠ 0) (h : go9 b n (.brl x l e s) = some q) : q = (-1, e, s) := by
  cases n with
  | zero => cases h
  | succ n => rw [(go9_no b n x l e s he).2] at h; injection h with h; exact h.symm
theorem reps_no {b : List UInt8} {n : Nat} {k e : Int} {s : Pz} (he : e ≠ 0) : reps9 b n k e s = (k, e, s) := by
  cases n with
  | zero => rfl
  | succ n => unfold reps9; rw [if_neg (fun h => he h.1)]
theorem good_nil {b : List UInt8} {s : Pz} {l : List Int} (h : Good9 b s l) : Good9 b s [] := ⟨by have := h.1; simp only [List.length_nil]; omega, h.2.1, s.L, s.g, gr_refl _ _ (by have := h.1; omega)⟩
theorem need_top (b : List UInt8) (hb : b.length ≤ 1000) : ∃ q, go9 b 8000 (.alts false pz0) = some q := go9_ex b 8000 (.alts false pz0) ⟨Nat.zero_le _, Nat.zero_le _⟩ (by show 7 * (b.length - 0) + 6 ≤ 8000; omega)
theorem clI0 : ClI pz0 := fun d hd => by
  have hd : (List.replicate 10 false)[d]? = some true := hd
  have := List.mem_of_getElem? hd
  simp at this
theorem eqawake : palinodelaw09_awake_R true := by
  obtain ⟨q1, h1⟩ := need_top [97, 124, 98] (by decide)
  obtain ⟨q2, h2⟩ := need_top [97, 43] (by decide)
  obtain ⟨q3, h3⟩ := need_top [97, 124] (by decide)
  have e1 : (go9 [97, 124, 98] 8000 (.alts false pz0)).map (fun q => (decide ((fin9 q).2.2 = 0) && (decide ((fin9 q).1.1.length = 3) && ((fin9 q).1.1.map (·.1))[2]? == some 3))) = some true := by kernel_rfl
  have e2 : (go9 [97, 43] 8000 (.alts false pz0)).map (fun q => (decide ((fin9 q).2.2 = 0) && ((fin9 q).1.1.map (·.2.2.2.1))[1]? == some 1)) = some true := by kernel_rfl
  have e3 : (go9 [97, 124] 8000 (.alts false pz0)).map (fun q => (decide ((fin9 q).2.2 = 15) && decide ((fin9 q).2.1 = 2))) = some true := by kernel_rfl
  rw [h1] at e1; rw [h2] at e2; rw [h3] at e3
  simp only [Option.map_some, Option.some.injEq, Bool.and_eq_true, decide_eq_true_eq, beq_iff_eq] at e1 e2 e3
  refine ⟨_, parse9_ok _ (by decide) (by decide) _ q1 h1, _, parse9_ok _ (by decide) (by decide) _ q2 h2, _, parse9_ok _ (by decide) (by decide) _ q3 h3, ?_⟩
  obtain ⟨a1, a2, a3⟩ := e1
  obtain ⟨b1, b2⟩ := e2
  obtain ⟨x, hx⟩ : ∃ x, (fin9 q1).1.1[2]? = some x := ⟨_, List.getElem?_eq_getElem (by omega)⟩
  rw [List.getElem?_map, hx] at a3
  have a3 : x.1 = 3 := by simpa using a3
  obtain ⟨y, hy⟩ : ∃ y, (fin9 q2).1.1[1]? = some y := by
    cases hy : (fin9 q2).1.1[1]? with
    | none => rw [List.getElem?_map, hy] at b2; cases b2
    | some y => exact ⟨y, rfl⟩
  rw [List.getElem?_map, hy] at b2
  have b2 : y.2.2.2.1 = 1 := by simpa using b2
  refine split_ (fun _ => split_ (fun _ => ⟨by decide, x, hx, split_ (fun _ => split_ (fun _ => ⟨by decide, y, hy, ?_⟩) fun h => absurd b1 h) fun h => absurd a3 h⟩) fun h => absurd (by omega) h) fun h => absurd a1 h
  show true = _
  rw [decide_eq_true b2, decide_eq_true e3.1, decide_eq_true e3.2]
  rfl
theorem put_good {nd : ND} {s : Pz} (hl : s.L.length < 1000) (hn : isNodeB nd s.L.length s.g = true) : okE (putS nd s) = ((s.L.length : Int), 0, { s with L := s.L ++ [nd] }) := by
  rw [put_yes hl hn]
  exact okE_yes (Int.natCast_nonneg _)
end Go.Proofs.Ytfhakeapepafbaa
