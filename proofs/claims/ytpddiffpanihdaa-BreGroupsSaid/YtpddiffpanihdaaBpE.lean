/- What was parsed is right: each node is used once. -/
import Derived.Test.YtpddiffpanihdaaBpD
namespace Go.Proofs.Ytpddiffpanihdaa
set_option synthInstance.maxSize 4000 in
theorem node_mono {x : ND} {a : Int} {g g' : Int} (h : isNodeB x a g = true) (hg : g ≤ g') : isNodeB x a g' = true := by
  unfold isNodeB at h ⊢
  simp only [Bool.and_eq_true, Bool.or_eq_true, decide_eq_true_eq, Bool.not_eq_true', decide_eq_false_iff_not] at h ⊢
  refine ⟨h.1, h.2.imp_right fun hh => ⟨hh.1, by omega⟩⟩
/-- Nodes that were put behind others, each used once but for some; groups that were begun, each once. -/
def Gr (L : List ND) (g : Nat) (L' : List ND) (g' : Nat) (R : List Int) : Prop :=
  ∃ N, L' = L ++ N ∧ g ≤ g' ∧ (∀ z : Int, (usesL N).count z + R.count z = if (L.length : Int) ≤ z ∧ z < ((L.length + N.length : Nat) : Int) then 1 else 0)
    ∧ (∀ z : Int, (grpL N).count z = if (g : Int) < z ∧ z ≤ (g' : Int) then 1 else 0) ∧ (∀ i x, N[i]? = some x → isNodeB x ((L.length + i : Nat) : Int) (g' : Int) = true) ∧ L'.length ≤ 1000
theorem gr_refl (L : List ND) (g : Nat) (h : L.length ≤ 1000) : Gr L g L g [] :=
  ⟨[], by simp, Nat.le_refl _, fun z => by simp [usesL], fun z => by simp [grpL], fun i x hx => by simp at hx, h⟩
theorem uses_app (M N : List ND) : usesL (M ++ N) = usesL M ++ usesL N := List.flatMap_append
theorem grp_app (M N : List ND) : grpL (M ++ N) = grpL M ++ grpL N := List.flatMap_append
theorem gr_trans {L L' L'' : List ND} {g g' g'' : Nat} {R R' : List Int} (h : Gr L g L' g' R) (k : Gr L' g' L'' g'' R') : Gr L g L'' g'' (R ++ R') := by
  obtain ⟨N, rfl, a1, a2, a3, a4, a5⟩ := h
  obtain ⟨M, rfl, b1, b2, b3, b4, b5⟩ := k
  refine ⟨N ++ M, by rw [List.append_assoc], Nat.le_trans a1 b1, fun z => ?_, fun z => ?_, fun i x hx => ?_, b5⟩
  · have h1 := a2 z
    have h2 := b2 z
    rw [uses_app, List.count_append, List.count_append]
    rw [List.length_append] at h2 ⊢
    split at h1 <;> split at h2 <;> split <;> omega
  · have h1 := a3 z
    have h2 := b3 z
    rw [grp_app, List.count_append]
    split at h1 <;> split at h2 <;> split <;> omega
  · rw [List.getElem?_append] at hx
    split at hx
    · exact node_mono (a4 i x hx) (by omega)
    · rename_i hi
      have := b4 _ x hx
      rw [List.length_append] at this
      rwa [show L.length + N.length + (i - N.length) = L.length + i by omega] at this
theorem put_pos {n : ND} {s : Pz} (h : 0 ≤ (putS n s).1) : s.L.length < 1000 ∧ isNodeB n s.L.length s.g = true ∧ putS n s = ((s.L.length : Int), { s with L := s.L ++ [n] }) := by
  unfold putS at h ⊢
  split at h
  · exact absurd h (by show ¬ (0 : Int) ≤ -1; decide)
  · rename_i h1
    split at h
    · rename_i h2
      rw [if_neg h1, if_pos h2]
      exact ⟨by omega, h2, rfl⟩
    · exact absurd h (by show ¬ (0 : Int) ≤ -1; decide)
theorem put_neg {n : ND} {s : Pz} (h : ¬ 0 ≤ (putS n s).1) : putS n s = (-1, s) := by
  unfold putS at h ⊢
  split at h
  · rename_i h1; rw [if_pos h1]
  · rename_i h1
    split at h
    · exact absurd (by show (0 : Int) ≤ (s.L.length : Int); omega) h
    · rename_i h2; rw [if_neg h1, if_neg h2]
theorem gr_put {L : List ND} {g : Nat} {n : ND} {s : Pz} {R R' : List Int} (h : Gr L g s.L s.g R') (hp : 0 ≤ (putS n s).1) (hn : n.1 ≠ 5) (hR : ∀ z, R'.count z = (partsL n).count z + R.count z) :
    Gr L g (putS n s).2.L (putS n s).2.g ((putS n s).1 :: R) := by
  obtain ⟨p1, p2, p3⟩ := put_pos hp
  rw [p3]
  obtain ⟨N, hL, a1, a2, a3, a4, a5⟩ := h
  have hlen : s.L.length = L.length + N.length := by rw [hL, List.length_append]
  refine ⟨N ++ [n], by show s.L ++ [n] = _; rw [hL, List.append_assoc], a1, fun z => ?_, fun z => ?_, fun i x hx => ?_, by show (s.L ++ [n]).length ≤ _; rw [List.length_append]; simp; omega⟩
  · have h1 := a2 z
    have h2 := hR z
    rw [uses_app, List.count_append, show usesL [n] = partsL n by simp [usesL], List.length_append, List.count_cons]
    show _ + _ + (_ + if ((s.L.length : Int) == z) = true then 1 else 0) = _
    simp only [beq_iff_eq, List.length_singleton]
    split at h1 <;> split <;> split <;> omega
  · rw [grp_app, List.count_append, show grpL [n] = [] by simp [grpL, hn]]
    exact a3 z
  · rw [List.getElem?_append] at hx
    split at hx
    · exact a4 i x hx
    · rename_i hi
      rw [List.getElem?_singleton] at hx
      split at hx
      · injection hx with hx
        subst hx
        rw [← show s.L.length = L.length + i by omega]; exact p2
      · cases hx
theorem gr_group {L : List ND} {g : Nat} {k : Int} {s : Pz} (h : Gr L (g + 1) s.L s.g [k]) (hp : 0 ≤ (putS (5, k, 0, 0, 0, ((g + 1 : Nat) : Int), setZ) s).1) :
    Gr L g (putS (5, k, 0, 0, 0, ((g + 1 : Nat) : Int), setZ) s).2.L (putS (5, k, 0, 0, 0, ((g + 1 : Nat) : Int), setZ) s).2.g [(putS (5, k, 0, 0, 0, ((g + 1 : Nat) : Int), setZ) s).1] := by
  obtain ⟨p1, p2, p3⟩ := put_pos hp
  rw [p3]
  generalize hnn : ((5, k, 0, 0, 0, ((g + 1 : Nat) : Int), setZ) : ND) = n at *
  have hpt : partsL n = [k] := by rw [← hnn]; rfl
  have hgr : grpL [n] = [((g + 1 : Nat) : Int)] := by rw [← hnn]; rfl
  obtain ⟨N, hL, a1, a2, a3, a4, a5⟩ := h
  have hlen : s.L.length = L.length + N.length := by rw [hL, List.length_append]
  refine ⟨N ++ [n], by show s.L ++ [n] = _; rw [hL, List.append_assoc], by show g ≤ s.g; omega, fun z => ?_, fun z => ?_, fun i x hx => ?_, by show (s.L ++ [n]).length ≤ _; rw [List.length_append]; simp; omega⟩
  · have h1 := a2 z
    rw [uses_app, List.count_append, show usesL [n] = partsL n by simp [usesL], hpt, List.length_append, List.count_cons (b := (s.L.length : Int))]
    simp only [beq_iff_eq, List.length_singleton, List.count_nil]
    split at h1 <;> split <;> split <;> omega
  · have h1 := a3 z
    rw [grp_app, List.count_append, hgr, List.count_singleton]
    show _ = if (g : Int) < z ∧ z ≤ (s.g : Int) then 1 else 0
    simp only [beq_iff_eq]
    split at h1 <;> split <;> split <;> omega
  · rw [List.getElem?_append] at hx
    split at hx
    · exact a4 i x hx
    · rename_i hi
      rw [List.getElem?_singleton] at hx
      split at hx
      · injection hx with hx
        subst hx
        rw [← show s.L.length = L.length + i by omega]; exact p2
      · cases hx
theorem fold_m1 (kind : Int) (t : List Int) (s : Pz) : (foldS kind t (-1) s).1 = -1 := by
  cases t with
  | nil => rfl
  | cons y t => rw [fold_cons, if_pos rfl]
theorem gr_fold {L : List ND} {g : Nat} : ∀ (t : List Int) (x : Int) (s : Pz), Gr L g s.L s.g (x :: t) → 0 ≤ x → 0 ≤ (foldS 2 t x s).1 → Gr L g (foldS 2 t x s).2.L (foldS 2 t x s).2.g [(foldS 2 t x s).1]
  | [], x, s, h, _, _ => h
  | y :: t, x, s, h, hx, hr => by
    rw [fold_cons, if_neg (by omega)] at hr ⊢
    by_cases hp : 0 ≤ (putS (2, x, y, 0, 0, 0, setZ) s).1
    · exact gr_fold t _ _ (gr_put h hp (by show (2 : Int) ≠ 5; decide) fun z => by rw [show partsL (2, x, y, 0, 0, 0, setZ) = [x, y] from rfl]; rw [show x :: y :: t = [x, y] ++ t from rfl, List.count_append]) hp hr
    · rw [put_neg hp, fold_m1] at hr
      exact absurd hr (by decide)
theorem gr_cat {L : List ND} {g : Nat} {l : List Int} {s : Pz} (h : Gr L g s.L s.g l) (hr : 0 ≤ (catS l s).1) : Gr L g (catS l s).2.L (catS l s).2.g [(catS l s).1] := by
  cases l with
  | nil => exact gr_put (n := (0, 0, 0, 0, 0, 0, setZ)) h hr (by decide) fun z => rfl
  | cons x t =>
    rw [cat_cons] at hr ⊢
    split at hr
    · exact absurd hr (by show ¬ (0 : Int) ≤ -1; decide)
    · rename_i h1
      rw [if_neg h1]
      exact gr_fold t x s h (by omega) hr
theorem gr_leaf {L : List ND} {g : Nat} {n : ND} {s : Pz} {R : List Int} (h : Gr L g s.L s.g R) (hp : 0 ≤ (putS n s).1) (hn : n.1 ≠ 5) (hl : partsL n = []) : Gr L g (putS n s).2.L (putS n s).2.g (R ++ [(putS n s).1]) := by
  have := gr_put (R := R) h hp hn fun z => by rw [hl]; simp
  obtain ⟨N, a0, a1, a2, a3, a4, a5⟩ := this
  exact ⟨N, a0, a1, fun z => by rw [← a2 z, List.count_append, List.count_cons, List.count_cons, List.count_nil]; omega, a3, a4, a5⟩
theorem gr_rep2 {b : List UInt8} {L : List ND} {g : Nat} {k lo hi : Int} {s : Pz} {a : Nat} (h : Gr L g s.L s.g [k]) (hw : (rep2 b k lo hi s a).2.1 = []) (hr : 0 ≤ (rep2 b k lo hi s a).1) : Gr L g (rep2 b k lo hi s a).2.2.L (rep2 b k lo hi s a).2.2.g [(rep2 b k lo hi s a).1] := by
  unfold rep2 at hw hr ⊢
  split at hw
  · cases hw
  · rename_i h1
    rw [if_neg h1] at hr ⊢
    exact gr_put (s := { s with p := a + 2 }) h hr (by show (4 : Int) ≠ 5; decide) fun z => by show [k].count z = [k].count z + 0; rfl
theorem gr_repeat {b : List UInt8} {L : List ND} {g : Nat} {k : Int} {s : Pz} (h : Gr L g s.L s.g [k]) (hw : (repeatF b k s).2.1 = []) (hr : 0 ≤ (repeatF b k s).1) : Gr L g (repeatF b k s).2.2.L (repeatF b k s).2.2.g [(repeatF b k s).1] := by
  unfold repeatF at hw hr ⊢
  split at hw
  · rename_i h1
    rw [if_pos h1] at hr ⊢
    exact gr_put (s := adv s 1) h hr (by show (4 : Int) ≠ 5; decide) fun z => by show [k].count z = [k].count z + 0; rfl
  · rename_i h1
    rw [if_neg h1] at hr ⊢
    split at hw
    · cases hw
    · rename_i h2
      rw [if_neg h2] at hr ⊢
      split at hw
      · rename_i h3
        rw [if_pos h3] at hr ⊢
        split at hw
        · rename_i h4
          rw [if_pos h4] at hr ⊢
          exact gr_rep2 h hw hr
        · rename_i h4
          rw [if_neg h4] at hr ⊢
          split at hw
          · rename_i h5
            rw [if_pos h5] at hr ⊢
            exact gr_rep2 h hw hr
          · cases hw
      · rename_i h3
        rw [if_neg h3] at hr ⊢
        exact gr_rep2 h hw hr
theorem gr_reps {b : List UInt8} {L : List ND} {g : Nat} : ∀ (n : Nat) (k : Int) (w : List (Int × Int)) (s : Pz), (w = [] → 0 ≤ k → Gr L g s.L s.g [k]) → (repsF b n k w s).2.1 = [] → 0 ≤ (repsF b n k w s).1 ∧ Gr L g (repsF b n k w s).2.2.L (repsF b n k w s).2.2.g [(repsF b n k w s).1] := by
  have hend : ∀ (k : Int) (w : List (Int × Int)) (s : Pz), (w = [] → 0 ≤ k → Gr L g s.L s.g [k]) → (endRp k w s).2.1 = [] → 0 ≤ (endRp k w s).1 ∧ Gr L g (endRp k w s).2.2.L (endRp k w s).2.2.g [(endRp k w s).1] := fun k w s hs h => by
    unfold endRp at h
    dsimp only at h
    split at h
    · cases h
    · rename_i h1
      have hk : 0 ≤ k := by
        subst h
        simp at h1
        exact h1
      exact ⟨hk, hs h hk⟩
  intro n
  induction n with
  | zero => exact hend
  | succ n ih =>
    intro k w s hs h
    rw [repsF_succ] at h ⊢
    split at h
    · rename_i h1
      rw [if_pos h1]
      obtain ⟨hw, hk, _⟩ := more_has h1
      exact ih _ _ _ (fun h2 h3 => gr_repeat (hs hw hk) h2 h3) h
    · rename_i h1
      rw [if_neg h1]
      exact hend k w s hs h
/-- What a job leaves. -/
def JobGr (L : List ND) (g : Nat) (j : Job) (r : Res) : Prop := match j with
  | .branch _ s => Gr L g s.L s.g [] → 0 ≤ r.1 ∧ Gr L g r.2.2.L r.2.2.g [r.1]
  | .loop _ l _ s => Gr L g s.L s.g l → 0 ≤ r.1 ∧ Gr L g r.2.2.L r.2.2.g [r.1]
  | .piece _ s => Gr L g s.L s.g [] → 0 ≤ r.1 ∧ Gr L g r.2.2.L r.2.2.g [r.1]
  | .atom s | .escape s | .group s => Gr L g s.L s.g [] → 0 ≤ r.1 → Gr L g r.2.2.L r.2.2.g [r.1]
theorem go_gr (b : List UInt8) : ∀ (n : Nat) (j : Job) (r : Res), go b n j = some r → r.2.1 = [] → ∀ L g, JobGr L g j r := by
  intro n
  induction n with
  | zero => intro j r h; cases h
  | succ n ih =>
    intro j r h hw L g
    have hleaf : ∀ (nd : ND) (s : Pz), nd.1 ≠ 5 → partsL nd = [] → Gr L g s.L s.g [] → 0 ≤ (okR (putS nd s)).1 → Gr L g (okR (putS nd s)).2.2.L (okR (putS nd s)).2.2.g [(okR (putS nd s)).1] := fun nd s h1 h2 h3 h4 => gr_leaf h3 h4 h1 h2
    cases j with
    | branch inner s =>
      intro hs
      unfold go at h
      split at h
      · split at h
        · injection h with h; subst h; cases hw
        · rename_i h1
          exact ih (.loop inner _ true _) r h hw L g (hleaf (7, 0, 0, 0, 0, 0, setZ) (adv s 1) (by decide) rfl hs (by show 0 ≤ (putS _ _).1; omega))
      · exact ih (.loop inner [] true s) r h hw L g hs
    | loop inner l first s =>
      intro hs
      unfold go at h
      split at h
      · cases hg : go b n (.piece first s) with
        | none => rw [hg] at h; cases h
        | some q =>
          obtain ⟨k, w, s'⟩ := q
          rw [hg] at h
          dsimp only at h
          split at h
          · rename_i hwe
            have hlen : s.L.length ≤ 1000 := by obtain ⟨_, _, _, _, _, _, h5⟩ := hs; exact h5
            have := (ih (.piece first s) _ hg (List.isEmpty_iff.1 hwe) s.L s.g (gr_refl _ _ hlen)).2
            exact ih (.loop inner (l ++ [k]) false s') r h hw L g (gr_trans hs this)
          · rename_i hwe
            injection h with h
            subst h
            exact absurd (List.isEmpty_iff.2 hw) hwe
      · injection h with h
        subst h
        unfold branchE at hw ⊢
        split at hw
        · cases hw
        · rename_i h2
          rw [if_neg h2]
          split at hw
          · cases hw
          · rename_i h3
            rw [if_neg h3]
            have h3 : 0 ≤ (catS l s).1 := by omega
            exact ⟨h3, gr_cat hs h3⟩
    | piece first s =>
      intro hs
      unfold go at h
      split at h
      · injection h with h; subst h; cases hw
      · split at h
        · injection h with h
          subst h
          exact gr_reps _ _ _ _ (fun _ hk => hleaf (setN (ofS [42])) (adv s 1) (by show (1 : Int) ≠ 5; decide) rfl hs hk) hw
        · cases hg : go b n (.atom s) with
          | none => rw [hg] at h; cases h
          | some q =>
            rw [hg] at h
            injection h with h
            subst h
            exact gr_reps _ _ _ _ (fun hq hk => ih (.atom s) q hg hq L g hs hk) hw
    | atom s =>
      intro hs hk
      unfold go at h
      split at h
      · cases h
      · split at h
        · exact ih (.escape s) r h hw L g hs hk
        · split at h
          · injection h with h; subst h; exact hleaf _ (adv s 1) (by show (1 : Int) ≠ 5; decide) rfl hs hk
          · split at h
            · split at h
              · injection h with h; subst h; exact hleaf _ { s with p := _ } (by show (1 : Int) ≠ 5; decide) rfl hs hk
              · injection h with h; subst h; cases hw
            · split at h
              · injection h with h; subst h; exact hleaf _ (adv s 1) (by decide) rfl hs hk
              · injection h with h; subst h; exact hleaf _ (adv s 1) (by show (1 : Int) ≠ 5; decide) rfl hs hk
    | escape s =>
      intro hs hk
      unfold go at h
      split at h
      · injection h with h; subst h; cases hw
      · split at h
        · exact ih (.group s) r h hw L g hs hk
        · split at h
          · split at h
            · injection h with h; subst h; exact hleaf _ (adv s 2) (by show (6 : Int) ≠ 5; decide) rfl hs hk
            · injection h with h; subst h; cases hw
          · split at h
            · injection h with h; subst h; exact hleaf _ (adv (adv s 1) 1) (by show (1 : Int) ≠ 5; decide) rfl hs hk
            · split at h
              · injection h with h; subst h; cases hw
              · injection h with h; subst h; exact hleaf _ (adv (adv s 1) 1) (by show (1 : Int) ≠ 5; decide) rfl hs hk
    | group s =>
      intro hs hk
      unfold go at h
      split at h
      · injection h with h; subst h; cases hw
      · cases hg : go b n (.branch true { s with g := s.g + 1, p := s.p + 2 }) with
        | none => rw [hg] at h; cases h
        | some q =>
          obtain ⟨k, w, s'⟩ := q
          rw [hg] at h
          dsimp only at h
          split at h
          · rename_i hwe
            injection h with h
            subst h
            have hlen : s.L.length ≤ 1000 := by obtain ⟨_, _, _, _, _, _, h5⟩ := hs; exact h5
            have := (ih (.branch true { s with g := s.g + 1, p := s.p + 2 }) _ hg (List.isEmpty_iff.1 hwe) s.L (s.g + 1) (gr_refl _ _ hlen)).2
            exact gr_trans hs (gr_group (s := { s' with p := s'.p + 2, cl := Arr.set s'.cl (s.g + 1) true }) this hk)
          · rename_i hwe
            injection h with h
            subst h
            exact absurd (List.isEmpty_iff.2 hw) hwe
theorem gr_right {L : List ND} {g : Nat} {k : Int} (h : Gr [] 0 L g [k]) (hg : g ≤ 9) : rightB L g = true ∧ k = (L.length : Int) - 1 ∧ 1 ≤ L.length ∧ L.length ≤ 1000 := by
  obtain ⟨N, hL, a1, a2, a3, a4, a5⟩ := h
  rw [List.nil_append] at hL
  subst hL
  simp only [List.length_nil, Nat.zero_add] at a2 a4
  have hk := a2 k
  rw [List.count_singleton_self] at hk
  have hk1 : 0 ≤ k ∧ k < (L.length : Int) := by split at hk <;> omega
  have hlast : (usesL L).count ((L.length : Int) - 1) = 0 := by
    refine List.count_eq_zero.2 fun hm => ?_
    obtain ⟨x, hx, hxm⟩ := List.mem_flatMap.1 hm
    obtain ⟨i, hi⟩ := List.mem_iff_getElem?.1 hx
    have := (node_parts (a4 i x hi)).1 _ hxm
    have := (List.getElem?_eq_some_iff.1 hi).1
    omega
  have hkl : k = (L.length : Int) - 1 := by
    have h1 := a2 ((L.length : Int) - 1)
    rw [hlast, if_pos (by omega), List.count_singleton] at h1
    simp only [beq_iff_eq] at h1
    split at h1 <;> omega
  refine ⟨?_, hkl, by omega, a5⟩
  unfold rightB
  simp only [Bool.and_eq_true, decide_eq_true_eq, List.all_eq_true, List.mem_range]
  refine ⟨⟨⟨⟨⟨⟨by omega, a5⟩, by omega⟩, by omega⟩, nodes_all a4⟩, fun j hj => ?_⟩, fun j hj => ?_⟩
  · have h1 := a2 (j : Int)
    rw [if_pos (by omega), List.count_singleton] at h1
    simp only [beq_iff_eq] at h1
    split at h1 <;> omega
  · have h1 := a3 ((j : Int) + 1)
    rw [if_pos (by omega)] at h1
    exact h1
end Go.Proofs.Ytpddiffpanihdaa
