/- Files: Cut, All, New; the document's functions; a table of right files. -/
import Derived.Test.YtljlaggehilpfaaFiP
namespace Go.Proofs.Ytljlaggehilpfaa
theorem cut_ok (l : List FL) (s : ByteArray) (n : Int) (hl : l.length ≤ 1000000) (hb : ∀ f ∈ l, f.2.length ≤ 1000000) : files_Table_Cut_R l s n (cutL l s n) := by
  refine ⟨_, at_ok l s hl, ?_⟩
  unfold atI cutL
  cases hf : findL l s with
  | none => exact split_ (fun _ => rfl) fun h => absurd (by decide) h
  | some i =>
    obtain ⟨b, h3, h4⟩ := find_some hf
    rw [h4]
    have hbl := hb _ (List.mem_of_getElem? h3)
    simp only at hbl
    refine split_ (fun h => absurd h (by simp only; omega)) fun _ => split_ (fun h => ?_) fun h => ⟨by omega, (s, b), by simpa using h3, split_ (fun h2 => ?_) fun h2 => ?_⟩
    · simp only [if_pos (Or.inl h : n < 0 ∨ (b.length : Int) < n)]
    · simp only [if_pos (Or.inr h2 : n < 0 ∨ (b.length : Int) < n)]
    · have hn : ¬ (n < 0 ∨ (b.length : Int) < n) := by simp only at h2; omega
      simp only [if_neg hn]
      refine ⟨by omega, (s, b), by simpa using h3, ⟨by omega, by simp only; omega⟩, b.take n.toNat, clone_ok _ (by rw [List.length_take]; omega), by omega, (s, b), by simpa using h3, by simp⟩
theorem all_ok (l : List FL) (hl : l.length ≤ 1000000) (hb : ∀ f ∈ l, f.2.length ≤ 1000000) : files_Table_All_R l l := by
  refine loop_ (fun (st : List FL × Int) m => ∃ k : Nat, k ≤ l.length ∧ m = l.length - k ∧ st = (l.take k, (k : Int))) l.length ⟨0, by omega, rfl, by simp⟩ ?_
  rintro _ m ⟨k, hk, rfl, rfl⟩
  show files_Table_All_l1 l _ (l.take k) (k : Int) l
  refine split_ (fun h => ?_) fun h => ?_
  · refine at_ (by omega) (by omega) fun f hf => ?_
    rw [Int.toNat_natCast] at hf
    refine ⟨f.2, clone_ok _ (by have := hb _ (List.mem_of_getElem? hf); omega), room_ (by simp; omega) (by omega) (inR_ (by omega) ⟨l.length - (k + 1), by omega, k + 1, by omega, rfl, ?_⟩)⟩
    rw [List.take_add_one, hf]; rfl
  · rw [List.take_of_length_le (by omega)]
def newGo : List FL → List FL → Int × Option (List FL)
  | [], acc => (0, some acc)
  | f :: fs, acc => if nameB f.1 = true ∧ (findL acc f.1).isSome = true then (5, none) else
      if (putL acc f.1 f.2).1 = 0 then newGo fs (putL acc f.1 f.2).2 else ((putL acc f.1 f.2).1, none)
def newL (fs : List FL) : Int × Option (List FL) := if 16 < fs.length then (7, none) else newGo fs []
theorem put_len (l : List FL) (s : ByteArray) (b : List UInt8) : (putL l s b).2.length ≤ l.length + 1 := by
  unfold putL
  split
  · split
    · simp
    · split
      · split <;> simp
      · simp
  · simp
theorem ge_iff (l : List FL) (s : ByteArray) : (decide ((0 : Int) ≤ atI l s)) = (findL l s).isSome := by
  unfold atI
  cases findL l s with
  | none => rfl
  | some i => simp
theorem new_ok (fs : List FL) (hs : ∀ f ∈ fs, f.1.size ≤ 1000000) : files_New_R fs (newL fs) := by
  unfold newL
  refine split_ (fun h => ?_) fun h => ?_
  · rw [if_pos (by omega)]
  rw [if_neg (by omega)]
  refine loop_ (fun (st : Int × List FL) m => ∃ k acc, k ≤ fs.length ∧ m = fs.length - k ∧ st = ((k : Int), acc) ∧ acc.length ≤ k ∧ newGo (fs.drop k) acc = newGo fs []) fs.length ⟨0, [], by omega, rfl, rfl, by simp, rfl⟩ ?_
  rintro _ m ⟨k, acc, hk, rfl, rfl, ha, hgo⟩
  show files_New_l1 fs _ (k : Int) acc _
  refine split_ (fun h1 => ?_) fun h1 => ?_
  · refine at_ (by omega) (by omega) fun f hf => ?_
    rw [Int.toNat_natCast] at hf
    have hd : fs.drop k = f :: fs.drop (k + 1) := by
      obtain ⟨hlt, he⟩ := List.getElem?_eq_some_iff.1 hf
      rw [List.drop_eq_getElem_cons hlt, he]
    rw [hd] at hgo
    generalize newGo fs [] = RR at hgo ⊢
    unfold newGo at hgo
    have hfs := hs f (List.mem_of_getElem? hf)
    have rest : ¬ (nameB f.1 = true ∧ (findL acc f.1).isSome = true) → files_New_j2 acc f (k : Int) (fun s' => ∃ m', m' < fs.length - k ∧ ∃ k acc, k ≤ fs.length ∧ m' = fs.length - k ∧ s' = ((k : Int), acc) ∧ acc.length ≤ k ∧ newGo (fs.drop k) acc = RR) false RR := by
      intro hno
      rw [if_neg hno] at hgo
      refine split_ (fun h => by cases h) fun _ => ⟨_, put_ok acc f.1 f.2 (by omega) hfs, split_ (fun h2 => ?_) fun h2 => ?_⟩
      · rw [if_neg h2] at hgo; exact hgo.symm
      · rw [if_pos (Decidable.of_not_not h2)] at hgo
        have hpl := put_len acc f.1 f.2
        exact inR_ (by omega) ⟨fs.length - (k + 1), by omega, k + 1, _, by omega, rfl, rfl, by omega, hgo⟩
    refine ⟨_, isName_ok f.1 hfs, split_ (fun h2 => ⟨_, at_ok acc f.1 (by omega), ?_⟩) fun h2 => rest fun h3 => h2 h3.1⟩
    rw [ge_iff]
    cases hfd : (findL acc f.1).isSome with
    | true =>
      rw [if_pos ⟨h2, hfd⟩] at hgo
      exact split_ (fun _ => hgo.symm) fun h => absurd rfl h
    | false => exact rest fun h3 => by rw [hfd] at h3; cases h3.2
  · rw [List.drop_of_length_le (by omega)] at hgo
    exact hgo.symm
/-- Files that are right: with names, of no more bytes than there may be. -/
def Good (l : List FL) : Prop := l.length ≤ 16 ∧ ∀ f ∈ l, nameB f.1 = true ∧ f.2.length ≤ 65536
theorem good_put {l : List FL} (s : ByteArray) (b : List UInt8) (h : Good l) : Good (putL l s b).2 := by
  unfold putL
  by_cases hn : nameB s = true
  · rw [if_pos hn]
    by_cases hb : 65536 < b.length
    · rw [if_pos hb]; exact h
    · rw [if_neg hb]
      cases hf : findL l s with
      | none =>
        simp only
        by_cases h16 : 16 ≤ l.length
        · rw [if_pos h16]; exact h
        · rw [if_neg h16]
          refine ⟨by simp; omega, fun f hf => ?_⟩
          rcases List.mem_append.1 hf with hf | hf
          · exact h.2 f hf
          · simp at hf; subst hf; exact ⟨hn, by simp only; omega⟩
      | some i =>
        refine ⟨by simpa using h.1, fun f hf => ?_⟩
        rcases List.mem_or_eq_of_mem_set hf with hf | hf
        · exact h.2 f hf
        · subst hf; exact ⟨hn, by simp only; omega⟩
  · rw [if_neg hn]; exact h
theorem Good.b {l : List FL} (h : Good l) : ∀ f ∈ l, f.2.length ≤ 1000000 := fun f hf => by have := (h.2 f hf).2; omega
theorem Good.n {l : List FL} (h : Good l) : l.length ≤ 1000000 := by have := h.1; omega
theorem good_go : ∀ (fs acc T : List FL) (e : Int), Good acc → newGo fs acc = (e, some T) → Good T ∧ e = 0 ∧ T = acc ++ fs
  | [], acc, T, e, h, hg => by
    unfold newGo at hg
    injection hg with h1 h2; injection h2 with h2
    subst h1; subst h2
    exact ⟨h, rfl, by simp⟩
  | f :: fs, acc, T, e, h, hg => by
    unfold newGo at hg
    split at hg
    · injection hg with h1 h2; cases h2
    · rename_i hno
      split at hg
      · rename_i h0
        obtain ⟨h1, h2, h3⟩ := good_go fs _ T e (good_put f.1 f.2 h) hg
        refine ⟨h1, h2, ?_⟩
        rw [h3]
        have hp : (putL acc f.1 f.2).2 = acc ++ [f] := by
          unfold putL at h0 ⊢
          by_cases hn : nameB f.1 = true
          · rw [if_pos hn] at h0 ⊢
            by_cases hb : 65536 < f.2.length
            · rw [if_pos hb] at h0; cases h0
            · rw [if_neg hb] at h0 ⊢
              cases hf : findL acc f.1 with
              | none =>
                rw [hf] at h0
                simp only at h0 ⊢
                by_cases h16 : 16 ≤ acc.length
                · rw [if_pos h16] at h0; cases h0
                · rw [if_neg h16]
              | some i => exact absurd ⟨hn, by rw [hf]; rfl⟩ hno
          · rw [if_neg hn] at h0; cases h0
        rw [hp]; simp
      · injection hg with h1 h2; cases h2
theorem go_some : ∀ (fs acc : List FL) (e : Int), newGo fs acc = (e, none) → e ≠ 0
  | [], acc, e, hg => by unfold newGo at hg; injection hg with h1 h2; cases h2
  | f :: fs, acc, e, hg => by
    unfold newGo at hg
    split at hg
    · injection hg with h1 h2; subst h1; decide
    · split at hg
      · exact go_some fs _ e hg
      · rename_i h; injection hg with h1 h2; subst h1; exact h
theorem fiawake : palinodelaw03_awake_R true := palinodelaw03_awake_ok (fuel := 60) (by kernel_rfl)
end Go.Proofs.Ytljlaggehilpfaa
