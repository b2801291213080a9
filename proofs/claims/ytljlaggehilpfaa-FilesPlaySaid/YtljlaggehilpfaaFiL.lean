/- Whatever is done: what the program and the document tell. -/
import Derived.Test.YtljlaggehilpfaaFiB
import Derived.Test.YtljlaggehilpfaaGKL4
namespace Go.Proofs.Ytljlaggehilpfaa
theorem refName2_ok (s : ByteArray) (hs : s.size ≤ 1000000) : palinoderef03_IsName_R s (nameB s) := by
  refine split_ (fun h => ?_) fun h => split_ (fun h2 => ?_) fun h2 => ?_
  · have : ¬ 1 ≤ s.size := by omega
    simp [nameB, this]
  · have : ¬ s.size ≤ 64 := by omega
    simp [nameB, this]
  refine loop_ (fun st m => ∃ k : Nat, k ≤ s.size ∧ m = s.size - k ∧ st = (k : Int) ∧ ∀ j c, j < k → s.data.toList[j]? = some c → (decide (33 ≤ c.toNat) && decide (c.toNat ≤ 126)) = true) s.size ⟨0, by omega, rfl, rfl, fun j c hj => by omega⟩ ?_
  rintro _ m ⟨k, hk, rfl, rfl, hall⟩
  refine split_ (fun h => ?_) fun h => ?_
  · have hx : ∃ c, s.data.toList[k]? = some c := ⟨_, List.getElem?_eq_getElem (by have : s.data.toList.length = s.size := rfl; omega)⟩
    obtain ⟨c, hc⟩ := hx
    have hc' : s[(k : Int).toNat]? = some c := by rw [ba_at]; exact hc
    have bad : ∀ h : ¬ (decide (33 ≤ c.toNat) && decide (c.toNat ≤ 126)) = true, nameB s = false := fun h => by
      unfold nameB
      rw [Bool.eq_false_iff]
      intro hn
      rw [Bool.and_eq_true] at hn
      exact h (List.all_eq_true.1 hn.2 c (List.mem_of_getElem? hc))
    refine ⟨by omega, c, hc', split_ (fun h1 => bad (by simp; omega)) fun h1 => ⟨by omega, c, hc', split_ (fun h2 => bad (by simp; omega)) fun h2 => ?_⟩⟩
    refine inR_ (by omega) ⟨s.size - (k + 1), by omega, k + 1, by omega, rfl, rfl, fun j d hj hd => ?_⟩
    rcases Nat.lt_or_ge j k with h3 | h3
    · exact hall j d h3 hd
    · obtain rfl : j = k := by omega
      rw [hc] at hd
      obtain rfl := Option.some.inj hd
      simp; omega
  · have hal : (s.data.toList.all fun c => decide (33 ≤ c.toNat) && decide (c.toNat ≤ 126)) = true := by
      rw [List.all_eq_true]
      intro c hc
      obtain ⟨j, hj⟩ := List.mem_iff_getElem?.1 hc
      exact hall j c (by have := (List.getElem?_eq_some_iff.1 hj).1; have h2 : s.data.toList.length = s.size := rfl; omega) hj
    unfold nameB
    rw [hal]
    have h1 : 1 ≤ s.size := by omega
    have h2 : s.size ≤ 64 := by omega
    simp [h1, h2]
theorem refAt_ok (l : List FL) (s : ByteArray) (hl : l.length ≤ 1000000) : palinoderef03_At_R l s (atI l s) := by
  refine loop_ (fun st m => ∃ k : Nat, k ≤ l.length ∧ m = l.length - k ∧ st = (k : Int) ∧ ∀ j, j < k → ∀ f', l[j]? = some f' → ¬ (f'.1.toList == s.toList) = true) l.length ⟨0, by omega, rfl, rfl, fun j hj => by omega⟩ ?_
  rintro _ m ⟨k, hk, rfl, rfl, hall⟩
  refine split_ (fun h => ?_) fun h => ?_
  · refine at_ (by omega) (by omega) fun f hf => ?_
    rw [Int.toNat_natCast] at hf
    refine split_ (fun h1 => ?_) fun h1 => ?_
    · unfold atI; rw [find_at hf h1 hall]
    · refine inR_ (by omega) ⟨l.length - (k + 1), by omega, k + 1, by omega, rfl, rfl, fun j hj f' hf' => ?_⟩
      rcases Nat.lt_or_ge j k with h3 | h3
      · exact hall j h3 f' hf'
      · obtain rfl : j = k := by omega
        rw [hf] at hf'
        obtain rfl := Option.some.inj hf'
        exact h1
  · unfold atI
    rw [find_no fun j f' hf' => hall j (by have := (List.getElem?_eq_some_iff.1 hf').1; omega) f' hf']
theorem refGet_ok (l : List FL) (s : ByteArray) (hl : l.length ≤ 1000000) : palinoderef03_Get_R l s ((lookL l s).getD []) := by
  refine ⟨_, refAt_ok l s hl, ?_⟩
  unfold atI
  cases hf : findL l s with
  | none => rw [find_none hf]; exact split_ (fun _ => rfl) fun h => absurd (by decide) h
  | some i =>
    obtain ⟨b, h3, h4⟩ := find_some hf
    rw [h4]
    exact split_ (fun h => absurd h (by simp only; omega)) fun _ => ⟨by simp only; omega, (s, b), by simpa using h3, rfl⟩
theorem refLen_ok (l : List FL) (s : ByteArray) (hl : l.length ≤ 1000000) : palinodelaw03_length_R l s (match lookL l s with | none => -1 | some b => (b.length : Int)) := by
  refine ⟨_, refAt_ok l s hl, ?_⟩
  unfold atI
  cases hf : findL l s with
  | none => rw [find_none hf]; exact split_ (fun _ => rfl) fun h => absurd (by decide) h
  | some i =>
    obtain ⟨b, h3, h4⟩ := find_some hf
    rw [h4]
    exact split_ (fun h => absurd h (by simp only; omega)) fun _ => ⟨by simp only; omega, (s, b), by simpa using h3, rfl⟩
theorem refPut_ok (l : List FL) (s : ByteArray) (b : List UInt8) (hl : l.length ≤ 1000000) (hs : s.size ≤ 1000000) : palinoderef03_Put_R l s b ((putL l s b).2, (putL l s b).1) := by
  refine ⟨_, refName2_ok s hs, split_ (fun h => ?_) fun h => ?_⟩
  · unfold putL; rw [if_neg h]
  have hn : nameB s = true := Decidable.of_not_not h
  unfold putL
  rw [if_pos hn]
  refine split_ (fun h1 => ?_) fun h1 => ⟨_, refAt_ok l s hl, ?_⟩
  · rw [if_pos (by omega)]
  rw [if_neg (by omega)]
  unfold atI
  cases hf : findL l s with
  | none =>
    refine split_ (fun h2 => ?_) fun h2 => room_ (by simp; omega) (by omega) ⟨b, ficopy_ok b (by omega), split_ (fun _ => ?_) fun h3 => absurd (by decide) h3⟩
    · have : 16 ≤ l.length := by simp at h2; omega
      simp only [if_pos this]
    · have : ¬ 16 ≤ l.length := by simp at h2; omega
      simp only [if_neg this]
      exact room_ (by simp; omega) (by omega) rfl
  | some i =>
    obtain ⟨b0, h3, _⟩ := find_some hf
    refine split_ (fun h2 => by simp at h2; omega) fun h2 => room_ (by simp; omega) (by omega) ⟨b, ficopy_ok b (by omega), split_ (fun h3 => absurd h3 (by simp only; omega)) fun _ => ?_⟩
    exact ⟨by simp only; omega, (s, b0), by simpa using h3, by simp⟩
theorem refNew_ok (fs : List FL) (hs : ∀ f ∈ fs, f.1.size ≤ 1000000) : palinoderef03_New_R fs ((newL fs).2.getD [], (newL fs).1) := by
  unfold newL
  refine split_ (fun h => ?_) fun h => ?_
  · rw [if_pos (by omega)]; rfl
  rw [if_neg (by omega)]
  refine loop_ (fun (st : List FL × Int) m => ∃ k acc, k ≤ fs.length ∧ m = fs.length - k ∧ st = (acc, (k : Int)) ∧ acc.length ≤ k ∧ newGo (fs.drop k) acc = newGo fs []) fs.length ⟨0, [], by omega, rfl, rfl, by simp, rfl⟩ ?_
  rintro _ m ⟨k, acc, hk, rfl, rfl, ha, hgo⟩
  show palinoderef03_New_l1 fs _ acc (k : Int) _
  refine split_ (fun h1 => ?_) fun h1 => ?_
  · refine at_ (by omega) (by omega) fun f hf => ?_
    have hf0 := hf
    rw [Int.toNat_natCast] at hf
    have hd : fs.drop k = f :: fs.drop (k + 1) := by
      obtain ⟨hlt, he⟩ := List.getElem?_eq_some_iff.1 hf
      rw [List.drop_eq_getElem_cons hlt, he]
    rw [hd] at hgo
    generalize newGo fs [] = RR at hgo ⊢
    unfold newGo at hgo
    have hfs := hs f (List.mem_of_getElem? hf)
    have rest : ¬ (nameB f.1 = true ∧ (findL acc f.1).isSome = true) → palinoderef03_New_j2 (k : Int) fs acc (fun s' => ∃ m', m' < fs.length - k ∧ ∃ k acc, k ≤ fs.length ∧ m' = fs.length - k ∧ s' = (acc, (k : Int)) ∧ acc.length ≤ k ∧ newGo (fs.drop k) acc = RR) false (RR.2.getD [], RR.1) := by
      intro hno
      rw [if_neg hno] at hgo
      refine split_ (fun h => by cases h) fun _ => ⟨by omega, f, hf0, by omega, f, hf0, _, refPut_ok acc f.1 f.2 (by omega) hfs, split_ (fun h2 => ?_) fun h2 => ?_⟩
      · rw [if_neg h2] at hgo; rw [← hgo]; rfl
      · rw [if_pos (Decidable.of_not_not h2)] at hgo
        have hpl := put_len acc f.1 f.2
        exact inR_ (by omega) ⟨fs.length - (k + 1), by omega, k + 1, _, by omega, rfl, rfl, by simp only; omega, hgo⟩
    refine ⟨_, refName2_ok f.1 hfs, split_ (fun h2 => ⟨by omega, f, hf0, _, refAt_ok acc f.1 (by omega), ?_⟩) fun h2 => rest fun h3 => h2 h3.1⟩
    rw [ge_iff]
    cases hfd : (findL acc f.1).isSome with
    | true =>
      rw [if_pos ⟨h2, hfd⟩] at hgo
      rw [← hgo]
      exact split_ (fun _ => rfl) fun h => absurd rfl h
    | false => exact rest fun h3 => by rw [hfd] at h3; cases h3.2
  · rw [List.drop_of_length_le (by omega)] at hgo
    rw [← hgo]; rfl
theorem refCut_ok (l : List FL) (s : ByteArray) (n : Int) (hg : Good l) (hs : s.size ≤ 1000000) : palinoderef03_Cut_R l s n ((cutL l s n).2, (cutL l s n).1) := by
  refine ⟨_, refAt_ok l s hg.n, ?_⟩
  unfold atI cutL
  cases hf : findL l s with
  | none => exact split_ (fun _ => rfl) fun h => absurd (by decide) h
  | some i =>
    obtain ⟨b, h3, h4⟩ := find_some hf
    rw [h4]
    obtain ⟨hn, hbl⟩ := hg.2 _ (List.mem_of_getElem? h3)
    simp only at hn hbl
    refine split_ (fun h => absurd h (by simp only; omega)) fun _ => split_ (fun h => ?_) fun h => ⟨by simp only; omega, (s, b), by simpa using h3, ?_⟩
    · simp only [if_pos (Or.inl h : n < 0 ∨ (b.length : Int) < n)]
      exact split_ (fun _ => rfl) fun h => absurd rfl h
    · refine split_ (fun h2 => ?_) fun h2 => ⟨by simp only; omega, (s, b), by simpa using h3, ?_⟩
      · have h2' : (b.length : Int) < n := by simpa using h2
        simp only [if_pos (Or.inr h2' : n < 0 ∨ (b.length : Int) < n)]
      · have h2' : ¬ (b.length : Int) < n := by simpa using h2
        have hno : ¬ (n < 0 ∨ (b.length : Int) < n) := by omega
        simp only [if_neg hno]
        refine ⟨⟨by omega, by omega⟩, _, refPut_ok l s (b.take n.toNat) hg.n hs, ?_⟩
        have e : putL l s (b.take n.toNat) = (0, l.set i (s, b.take n.toNat)) := by
          unfold putL
          rw [if_pos hn, if_neg (by rw [List.length_take]; omega), hf]
        rw [e]
theorem good_cut {l : List FL} (s : ByteArray) (n : Int) (h : Good l) : Good (cutL l s n).2 := by
  unfold cutL
  cases hf : findL l s with
  | none => exact h
  | some i =>
    obtain ⟨b, h3, h4⟩ := find_some hf
    rw [h4]
    obtain ⟨hn, hbl⟩ := h.2 _ (List.mem_of_getElem? h3)
    simp only at hn hbl
    simp only
    split
    · exact h
    · refine ⟨by simpa using h.1, fun f hf => ?_⟩
      rcases List.mem_or_eq_of_mem_set hf with hf | hf
      · exact h.2 f hf
      · subst hf; exact ⟨hn, by simp only [List.length_take]; omega⟩
theorem look_find (l : List FL) (s : ByteArray) : (lookL l s).isSome = (findL l s).isSome := by
  cases hf : findL l s with
  | none => rw [find_none hf]; rfl
  | some i => obtain ⟨b, _, h4⟩ := find_some hf; rw [h4]; rfl
theorem clone3_ok (l : List FL) (hl : l.length ≤ 1000000) : slices_Clone_v3_R l l := by
  intro v hv
  refine split_ (fun h => ?_) fun _ => room_ (by simp; omega) (by omega) rfl
  by_cases hb0 : l = []
  · exact hb0
  · rw [hv (List.length_pos_iff.2 hb0)] at h; cases h
theorem play_law (fs : List FL) (x2 : List AC) : palinodelaw03_FilesPlay_R fs x2 true := by
  refine ⟨_, great_ok fs x2, split_ (fun h => ⟨true, fiawake, rfl⟩) fun hg => ?_⟩
  obtain ⟨g1, g2, g3, g4⟩ := great_no (by simpa using hg)
  have hsz : ∀ f ∈ fs, f.1.size ≤ 1000000 := fun f hf => by have := (g3 f hf).2; omega
  refine ⟨_, new_ok fs hsz, ⟨fun hno => ?_, fun T hT => ?_⟩⟩
  · refine ⟨_, refNew_ok fs hsz, split_ (fun h => absurd rfl h) fun _ => ?_⟩
    have hne : (newL fs).1 ≠ 0 := by
      unfold newL at hno ⊢
      split
      · decide
      · rename_i h16
        rw [if_neg h16] at hno
        exact go_some fs [] (newGo fs []).1 (by rw [← hno])
    refine split_ (fun h => absurd ?_ h) fun _ => ⟨true, fiawake, rfl⟩
    simp [hne]
  · refine ⟨_, refNew_ok fs hsz, split_ (fun h => absurd rfl h) fun _ => ?_⟩
    have hT' : newGo fs [] = ((newL fs).1, some T) := by
      unfold newL at hT ⊢
      split at hT
      · cases hT
      · rename_i h16
        rw [if_neg h16]
        rw [← hT]
    obtain ⟨hGood, he, hTe⟩ := good_go fs [] T _ ⟨by simp, by simp⟩ hT'
    rw [he, hT]
    refine split_ (fun h => absurd rfl h) fun _ => ?_
    refine loop_ (fun (st : List FL × Int × List FL) m => ∃ k : Nat, ∃ l : List FL, k ≤ x2.length ∧ m = x2.length - k ∧ st = (l, (k : Int), l) ∧ Good l) x2.length ⟨0, T, by omega, rfl, rfl, hGood⟩ ?_
    rintro _ m ⟨k, l, hk, rfl, rfl, hG⟩
    show palinodelaw03_FilesPlay_l1 x2 _ l (k : Int) l true
    refine split_ (fun h => ?_) fun h => ⟨true, fiawake, rfl⟩
    refine at_ (by omega) (by omega) fun a ha => ?_
    rw [Int.toNat_natCast] at ha
    obtain ⟨a1, a2, a3⟩ := g4 a (List.mem_of_getElem? ha)
    have hs : a.2.2.1.size ≤ 1000000 := by omega
    have hp1 : a.2.2.2.length ≤ 1000 := by omega
    have hp2 : ∀ p ∈ a.2.2.2, p.length ≤ 100000 := fun p hp => by have := a3 p hp; omega
    -- behind an act
    have j2 : ∀ (l' : List FL) (e : Int), Good l' → palinodelaw03_FilesPlay_j2 a (k : Int) (fun s' => ∃ m', m' < x2.length - k ∧ ∃ k : Nat, ∃ l : List FL, k ≤ x2.length ∧ m' = x2.length - k ∧ s' = (l, (k : Int), l) ∧ Good l) e l' e l' true := by
      intro l' e hG'
      refine ⟨_, get_ok l' a.2.2.1 hG'.n hG'.b, split_ (fun h => absurd rfl h) fun _ => ⟨_, refAt_ok l' a.2.2.1 hG'.n, ?_⟩⟩
      rw [ge_iff, look_find]
      refine split_ (fun h => absurd (beq_self_eq_true _) h) fun _ => ⟨_, refGet_ok l' a.2.2.1 hG'.n, _, fisame_ok _ _ (look_len hG'.b), split_ (fun h => absurd (decide_eq_true rfl) h) fun _ => ?_⟩
      refine ⟨_, len_ok l' a.2.2.1 hG'.n, _, refLen_ok l' a.2.2.1 hG'.n, split_ (fun h => absurd rfl h) fun _ => ?_⟩
      refine ⟨_, all_ok l' hG'.n hG'.b, _, fisames_ok l' hG'.n hG'.b, split_ (fun h => by simp at h) fun _ => ?_⟩
      exact inR_ (by omega) ⟨x2.length - (k + 1), by omega, k + 1, l', by omega, rfl, rfl, hG'⟩
    refine split_ (fun h0 => ?_) fun h0 => split_ (fun h1 => ?_) fun h1 => split_ (fun h2 => ?_) fun h2 => split_ (fun h4 => ?_) fun h4 => ?_
    · have h5 := fiall_ok [] a.2.2.2 (by simp) hp1 hp2
      rw [List.nil_append] at h5
      exact ⟨_, h5, _, refPut_ok l a.2.2.1 _ hG.n hs, _, put_ok l a.2.2.1 _ hG.n hs, j2 _ _ (good_put _ _ hG)⟩
    · exact ⟨_, refGet_ok l a.2.2.1 hG.n, _, fiall_ok _ a.2.2.2 (look_len hG.b) hp1 hp2, _, refPut_ok l a.2.2.1 _ hG.n hs, _, add_ok l a.2.2.1 a.2.2.2 hG.n hs hG.b hp1 hp2, j2 _ _ (good_put _ _ hG)⟩
    · exact ⟨_, refCut_ok l a.2.2.1 a.2.1 hG hs, _, cut_ok l a.2.2.1 a.2.1 hG.n hG.b, j2 _ _ (good_cut _ _ hG)⟩
    · have h5 := add_ok l a.2.2.1 [[(122 : UInt8), (122 : UInt8)]] hG.n hs hG.b (by simp) (by simp)
      have h6 := good_put a.2.2.1 ((lookL l a.2.2.1).getD [] ++ [[(122 : UInt8), (122 : UInt8)]].flatten) hG
      exact ⟨l, ⟨l, clone3_ok l hG.n, rfl⟩, _, h5, _, cut_ok _ a.2.2.1 0 h6.n h6.b, j2 l 0 hG⟩
    · exact j2 l 0 hG
end Go.Proofs.Ytljlaggehilpfaa
