/- What was parsed is right: each node is used once. -/
import Derived.Test.YtfhakeapepafbaaBqD
namespace Go.Proofs.Ytfhakeapepafbaa
theorem gr_rep2 {b : List UInt8} {L : List ND} {g : Nat} {k lo hi : Int} {s : Pz} {a : Nat} (h : Gr L g s.L s.g [k]) (hw : (rep2 b k lo hi s a).2.1 = []) (hr : 0 ≤ (rep2 b k lo hi s a).1) : Gr L g (rep2 b k lo hi s a).2.2.L (rep2 b k lo hi s a).2.2.g [(rep2 b k lo hi s a).1] := by
  unfold rep2 at hw hr ⊢
  split at hw
  · cases hw
  · rename_i h1
    rw [if_neg h1] at hr ⊢
    exact gr_put (s := { s with p := a + 2 }) h hr (by show (4 : Int) ≠ 5; decide) fun z => by show [k].count z = [k].count z + 0; rfl
theorem gr_repeat {b : List UInt8} {L : List ND} {g : Nat} {k : Int} {s : Pz} (h : Gr L g s.L s.g [k]) (hw : (repeatF b k s).2.1 = []) (hr : 0 ≤ (repeatF b k s).1) : Gr L g (repeatF b k s).2.2.L (repeatF b k s).2.2.g [(repeatF b k s).1] := by
  unfold repeatF at hw hr ⊢
  split at hw
  · rename_i h1
    rw [if_pos h1] at hr ⊢
    exact gr_put (s := adv s 1) h hr (by show (4 : Int) ≠ 5; decide) fun z => by show [k].count z = [k].count z + 0; rfl
  · rename_i h1
    rw [if_neg h1] at hr ⊢
    split at hw
    · cases hw
    · rename_i h2
      rw [if_neg h2] at hr ⊢
      split at hw
      · rename_i h3
        rw [if_pos h3] at hr ⊢
        split at hw
        · rename_i h4
          rw [if_pos h4] at hr ⊢
          exact gr_rep2 h hw hr
        · rename_i h4
          rw [if_neg h4] at hr ⊢
          split at hw
          · rename_i h5
            rw [if_pos h5] at hr ⊢
            exact gr_rep2 h hw hr
          · cases hw
      · rename_i h3
        rw [if_neg h3] at hr ⊢
        exact gr_rep2 h hw hr
theorem gr_reps {b : List UInt8} {L : List ND} {g : Nat} : ∀ (n : Nat) (k : Int) (w : List (Int × Int)) (s : Pz), (w = [] → 0 ≤ k → Gr L g s.L s.g [k]) → (repsF b n k w s).2.1 = [] → 0 ≤ (repsF b n k w s).1 ∧ Gr L g (repsF b n k w s).2.2.L (repsF b n k w s).2.2.g [(repsF b n k w s).1] := by
  have hend : ∀ (k : Int) (w : List (Int × Int)) (s : Pz), (w = [] → 0 ≤ k → Gr L g s.L s.g [k]) → (endRp k w s).2.1 = [] → 0 ≤ (endRp k w s).1 ∧ Gr L g (endRp k w s).2.2.L (endRp k w s).2.2.g [(endRp k w s).1] := fun k w s hs h => by
    unfold endRp at h
    dsimp only at h
    split at h
    · cases h
    · rename_i h1
      have hk : 0 ≤ k := by
        subst h
        simp at h1
        exact h1
      exact ⟨hk, hs h hk⟩
  intro n
  induction n with
  | zero => exact hend
  | succ n ih =>
    intro k w s hs h
    rw [repsF_succ] at h ⊢
    split at h
    · rename_i h1
      rw [if_pos h1]
      obtain ⟨hw, hk, _⟩ := more_has h1
      exact ih _ _ _ (fun h2 h3 => gr_repeat (hs hw hk) h2 h3) h
    · rename_i h1
      rw [if_neg h1]
      exact hend k w s hs h
/-- What a job leaves. -/
def JobGr (L : List ND) (g : Nat) (j : Job) (r : Res) : Prop := match j with
  | .branch _ s => Gr L g s.L s.g [] → 0 ≤ r.1 ∧ Gr L g r.2.2.L r.2.2.g [r.1]
  | .loop _ l _ s => Gr L g s.L s.g l → 0 ≤ r.1 ∧ Gr L g r.2.2.L r.2.2.g [r.1]
  | .piece _ s => Gr L g s.L s.g [] → 0 ≤ r.1 ∧ Gr L g r.2.2.L r.2.2.g [r.1]
  | .atom s | .escape s | .group s => Gr L g s.L s.g [] → 0 ≤ r.1 → Gr L g r.2.2.L r.2.2.g [r.1]
theorem go_gr (b : List UInt8) : ∀ (n : Nat) (j : Job) (r : Res), go b n j = some r → r.2.1 = [] → ∀ L g, JobGr L g j r := by
  intro n
  induction n with
  | zero => intro j r h; cases h
  | succ n ih =>
    intro j r h hw L g
    have hleaf : ∀ (nd : ND) (s : Pz), nd.1 ≠ 5 → partsL nd = [] → Gr L g s.L s.g [] → 0 ≤ (okR (putS nd s)).1 → Gr L g (okR (putS nd s)).2.2.L (okR (putS nd s)).2.2.g [(okR (putS nd s)).1] := fun nd s h1 h2 h3 h4 => gr_leaf h3 h4 h1 h2
    cases j with
    | branch inner s =>
      intro hs
      unfold go at h
      split at h
      · split at h
        · injection h with h; subst h; cases hw
        · rename_i h1
          exact ih (.loop inner _ true _) r h hw L g (hleaf (7, 0, 0, 0, 0, 0, setZ) (adv s 1) (by decide) rfl hs (by show 0 ≤ (putS _ _).1; omega))
      · exact ih (.loop inner [] true s) r h hw L g hs
    | loop inner l first s =>
      intro hs
      unfold go at h
      split at h
      · cases hg : go b n (.piece first s) with
        | none => rw [hg] at h; cases h
        | some q =>
          obtain ⟨k, w, s'⟩ := q
          rw [hg] at h
          dsimp only at h
          split at h
          · rename_i hwe
            have hlen : s.L.length ≤ 1000 := by obtain ⟨_, _, _, _, _, _, h5⟩ := hs; exact h5
            have := (ih (.piece first s) _ hg (List.isEmpty_iff.1 hwe) s.L s.g (gr_refl _ _ hlen)).2
            exact ih (.loop inner (l ++ [k]) false s') r h hw L g (gr_trans hs this)
          · rename_i hwe
            injection h with h
            subst h
            exact absurd (List.isEmpty_iff.2 hw) hwe
      · injection h with h
        subst h
        unfold branchE at hw ⊢
        split at hw
        · cases hw
        · rename_i h2
          rw [if_neg h2]
          split at hw
          · cases hw
          · rename_i h3
            rw [if_neg h3]
            have h3 : 0 ≤ (catS l s).1 := by omega
            exact ⟨h3, gr_cat hs h3⟩
    | piece first s =>
      intro hs
      unfold go at h
      split at h
      · injection h with h; subst h; cases hw
      · split at h
        · injection h with h
          subst h
          exact gr_reps _ _ _ _ (fun _ hk => hleaf (setN (ofS [42])) (adv s 1) (by show (1 : Int) ≠ 5; decide) rfl hs hk) hw
        · cases hg : go b n (.atom s) with
          | none => rw [hg] at h; cases h
          | some q =>
            rw [hg] at h
            injection h with h
            subst h
            exact gr_reps _ _ _ _ (fun hq hk => ih (.atom s) q hg hq L g hs hk) hw
    | atom s =>
      intro hs hk
      unfold go at h
      split at h
      · cases h
      · split at h
        · exact ih (.escape s) r h hw L g hs hk
        · split at h
          · injection h with h; subst h; exact hleaf _ (adv s 1) (by show (1 : Int) ≠ 5; decide) rfl hs hk
          · split at h
            · split at h
              · injection h with h; subst h; exact hleaf _ { s with p := _ } (by show (1 : Int) ≠ 5; decide) rfl hs hk
              · injection h with h; subst h; cases hw
            · split at h
              · injection h with h; subst h; exact hleaf _ (adv s 1) (by decide) rfl hs hk
              · injection h with h; subst h; exact hleaf _ (adv s 1) (by show (1 : Int) ≠ 5; decide) rfl hs hk
    | escape s =>
      intro hs hk
      unfold go at h
      split at h
      · injection h with h; subst h; cases hw
      · split at h
        · exact ih (.group s) r h hw L g hs hk
        · split at h
          · split at h
            · injection h with h; subst h; exact hleaf _ (adv s 2) (by show (6 : Int) ≠ 5; decide) rfl hs hk
            · injection h with h; subst h; cases hw
          · split at h
            · injection h with h; subst h; exact hleaf _ (adv (adv s 1) 1) (by show (1 : Int) ≠ 5; decide) rfl hs hk
            · split at h
              · injection h with h; subst h; cases hw
              · injection h with h; subst h; exact hleaf _ (adv (adv s 1) 1) (by show (1 : Int) ≠ 5; decide) rfl hs hk
    | group s =>
      intro hs hk
      unfold go at h
      split at h
      · injection h with h; subst h; cases hw
      · cases hg : go b n (.branch true { s with g := s.g + 1, p := s.p + 2 }) with
        | none => rw [hg] at h; cases h
        | some q =>
          obtain ⟨k, w, s'⟩ := q
          rw [hg] at h
          dsimp only at h
          split at h
          · rename_i hwe
            injection h with h
            subst h
            have hlen : s.L.length ≤ 1000 := by obtain ⟨_, _, _, _, _, _, h5⟩ := hs; exact h5
            have := (ih (.branch true { s with g := s.g + 1, p := s.p + 2 }) _ hg (List.isEmpty_iff.1 hwe) s.L (s.g + 1) (gr_refl _ _ hlen)).2
            exact gr_trans hs (gr_group (s := { s' with p := s'.p + 2, cl := Arr.set s'.cl (s.g + 1) true }) this hk)
          · rename_i hwe
            injection h with h
            subst h
            exact absurd (List.isEmpty_iff.2 hw) hwe
end Go.Proofs.Ytfhakeapepafbaa
