/- Files: what the program's functions tell, in plain terms. -/
import Derived.Test.YtljlaggehilpfaaPl
import Derived.Test.YtljlaggehilpfaaGK
namespace Go.Proofs.Ytljlaggehilpfaa
abbrev FL := ByteArray × List UInt8
theorem ba_at (s : ByteArray) (i : Nat) : s[i]? = s.data.toList[i]? := by
  rcases Nat.lt_or_ge i s.size with h | h
  · rw [getElem?_pos s i h, List.getElem?_eq_getElem (by simpa using h)]; rfl
  · rw [getElem?_neg s i (by omega), List.getElem?_eq_none (by simpa using h)]
theorem ba_eq {a b : ByteArray} (h : (a.toList == b.toList) = true) : a = b := by
  have h := eq_of_beq h
  rw [ByteArray.toList_eq, ByteArray.toList_eq] at h
  obtain ⟨⟨a⟩⟩ := a
  obtain ⟨⟨b⟩⟩ := b
  simp at h
  rw [h]
def nameB (s : ByteArray) : Bool := decide (1 ≤ s.size) && decide (s.size ≤ 64) && (s.data.toList.all fun c => decide (33 ≤ c.toNat) && decide (c.toNat ≤ 126))
def findL : List FL → ByteArray → Option Nat
  | [], _ => none
  | f :: l, s => if (f.1.toList == s.toList) = true then some 0 else (findL l s).map (· + 1)
def lookL : List FL → ByteArray → Option (List UInt8)
  | [], _ => none
  | f :: l, s => if (f.1.toList == s.toList) = true then some f.2 else lookL l s
def atI (l : List FL) (s : ByteArray) : Int := match findL l s with
  | none => -1
  | some i => (i : Int)
theorem find_none : ∀ {l : List FL} {s : ByteArray}, findL l s = none → lookL l s = none
  | [], _, _ => rfl
  | f :: l, s, h => by
    unfold findL at h; unfold lookL
    split at h
    · cases h
    · rename_i hf; rw [if_neg hf]
      exact find_none (by cases h2 : findL l s with | none => rfl | some _ => rw [h2] at h; cases h)
theorem find_some : ∀ {l : List FL} {s : ByteArray} {i : Nat}, findL l s = some i → ∃ b, l[i]? = some (s, b) ∧ lookL l s = some b
  | [], _, _, h => by cases h
  | f :: l, s, i, h => by
    unfold findL at h; unfold lookL
    split at h
    · rename_i hf
      injection h with h; subst h
      rw [if_pos hf]
      exact ⟨f.2, by rw [List.getElem?_cons_zero, ← ba_eq hf], rfl⟩
    · rename_i hf; rw [if_neg hf]
      cases h2 : findL l s with
      | none => rw [h2] at h; cases h
      | some j =>
        rw [h2] at h
        injection h with h; subst h
        obtain ⟨b, h3, h4⟩ := find_some h2
        exact ⟨b, by rw [List.getElem?_cons_succ]; exact h3, h4⟩
theorem find_at : ∀ {l : List FL} {s : ByteArray} {k : Nat} {f : FL}, l[k]? = some f → (f.1.toList == s.toList) = true → (∀ j, j < k → ∀ f', l[j]? = some f' → ¬ (f'.1.toList == s.toList) = true) → findL l s = some k
  | [], _, k, _, h, _, _ => by simp at h
  | g :: l, s, 0, f, h, hm, _ => by
    simp at h; subst h
    unfold findL; rw [if_pos hm]
  | g :: l, s, k + 1, f, h, hm, hp => by
    unfold findL
    rw [if_neg (hp 0 (by omega) g rfl), find_at (k := k) (by simpa using h) hm fun j hj f' hf' => hp (j + 1) (by omega) f' (by simpa using hf')]
    rfl
theorem find_no : ∀ {l : List FL} {s : ByteArray}, (∀ (j : Nat) (f' : FL), l[j]? = some f' → ¬ (f'.1.toList == s.toList) = true) → findL l s = none
  | [], _, _ => rfl
  | g :: l, s, hp => by
    unfold findL
    rw [if_neg (hp 0 g rfl), find_no fun j f' hf' => hp (j + 1) f' (by simpa using hf')]
    rfl
theorem isName_ok (s : ByteArray) (hs : s.size ≤ 1000000) : files_IsName_R s (nameB s) := by
  refine loop_ (fun st m => ∃ k : Nat, k ≤ s.size ∧ m = s.size - k ∧ st = (k : Int) ∧ ∀ j c, j < k → s.data.toList[j]? = some c → (decide (33 ≤ c.toNat) && decide (c.toNat ≤ 126)) = true) s.size ⟨0, by omega, rfl, rfl, fun j c hj => by omega⟩ ?_
  rintro _ m ⟨k, hk, rfl, rfl, hall⟩
  refine split_ (fun h => ?_) fun h => ?_
  · have hx : ∃ c, s.data.toList[k]? = some c := ⟨_, List.getElem?_eq_getElem (by have : s.data.toList.length = s.size := rfl; omega)⟩
    obtain ⟨c, hc⟩ := hx
    have hc' : s[(k : Int).toNat]? = some c := by rw [ba_at]; exact hc
    have bad : ∀ h : ¬ (decide (33 ≤ c.toNat) && decide (c.toNat ≤ 126)) = true, nameB s = false := fun h => by
      unfold nameB
      rw [Bool.eq_false_iff]
      intro hn
      rw [Bool.and_eq_true] at hn
      exact h (List.all_eq_true.1 hn.2 c (List.mem_of_getElem? hc))
    refine ⟨by omega, c, hc', split_ (fun h1 => bad (by simp; omega)) fun h1 => ⟨by omega, c, hc', split_ (fun h2 => bad (by simp; omega)) fun h2 => ?_⟩⟩
    refine inR_ (by omega) ⟨s.size - (k + 1), by omega, k + 1, by omega, rfl, rfl, fun j d hj hd => ?_⟩
    rcases Nat.lt_or_ge j k with h3 | h3
    · exact hall j d h3 hd
    · obtain rfl : j = k := by omega
      rw [hc] at hd
      obtain rfl := Option.some.inj hd
      simp; omega
  · have hal : (s.data.toList.all fun c => decide (33 ≤ c.toNat) && decide (c.toNat ≤ 126)) = true := by
      rw [List.all_eq_true]
      intro c hc
      obtain ⟨j, hj⟩ := List.mem_iff_getElem?.1 hc
      exact hall j c (by have := (List.getElem?_eq_some_iff.1 hj).1; have h2 : s.data.toList.length = s.size := rfl; omega) hj
    unfold nameB
    rw [hal]
    refine split_ (fun h1 => ?_) fun h1 => ?_
    · have : 1 ≤ s.size := by omega
      simp [this]; omega
    · have : ¬ 1 ≤ s.size := by omega
      simp [this]
theorem at_ok (l : List FL) (s : ByteArray) (hl : l.length ≤ 1000000) : files_Table_at_R l s (atI l s) := by
  refine ⟨_, ?_, rfl⟩
  refine loop_ (fun st m => ∃ k : Nat, k ≤ l.length ∧ m = l.length - k ∧ st = (k : Int) ∧ ∀ j, j < k → ∀ f', l[j]? = some f' → ¬ (f'.1.toList == s.toList) = true) l.length ⟨0, by omega, rfl, rfl, fun j hj => by omega⟩ ?_
  rintro _ m ⟨k, hk, rfl, rfl, hall⟩
  refine split_ (fun h => ?_) fun h => ?_
  · refine at_ (by omega) (by omega) fun f hf => ?_
    rw [Int.toNat_natCast] at hf
    refine ⟨_, rfl, split_ (fun h1 => ?_) fun h1 => ?_⟩
    · unfold atI; rw [find_at hf h1 hall]
    · refine inR_ (by omega) ⟨l.length - (k + 1), by omega, k + 1, by omega, rfl, rfl, fun j hj f' hf' => ?_⟩
      rcases Nat.lt_or_ge j k with h3 | h3
      · exact hall j h3 f' hf'
      · obtain rfl : j = k := by omega
        rw [hf] at hf'
        obtain rfl := Option.some.inj hf'
        exact h1
  · unfold atI
    rw [find_no fun j f' hf' => hall j (by have := (List.getElem?_eq_some_iff.1 hf').1; omega) f' hf']
theorem clone_ok (b : List UInt8) (hb : b.length ≤ 1000000000) : slices_Clone_R b b := by
  intro v hv
  refine split_ (fun h => ?_) fun _ => room_ (by simp; omega) (by omega) rfl
  by_cases hb0 : b = []
  · exact hb0
  · rw [hv hb0] at h; cases h
def putL (l : List FL) (s : ByteArray) (b : List UInt8) : Int × List FL :=
  if nameB s = true then
    if 65536 < b.length then (8, l) else match findL l s with
      | none => if 16 ≤ l.length then (7, l) else (0, l ++ [(s, b)])
      | some i => (0, l.set i (s, b))
  else (4, l)
theorem put_ok (l : List FL) (s : ByteArray) (b : List UInt8) (hl : l.length ≤ 1000000) (hs : s.size ≤ 1000000) : files_Table_Put_R l s b (putL l s b) := by
  refine ⟨_, at_ok l s hl, _, isName_ok s hs, split_ (fun h => ?_) fun h => ?_⟩
  · unfold putL; rw [if_neg h]
  have hn : nameB s = true := Decidable.of_not_not h
  unfold putL
  rw [if_pos hn]
  refine split_ (fun h1 => ?_) fun h1 => ?_
  · rw [if_pos (by omega)]
  rw [if_neg (by omega)]
  unfold atI
  cases hf : findL l s with
  | none =>
    refine split_ (fun h2 => ?_) fun h2 => split_ (fun _ => ?_) fun h3 => absurd (by decide) h3
    · have : 16 ≤ l.length := by simp at h2; omega
      simp only [if_pos this]
    · have : ¬ 16 ≤ l.length := by simp at h2; omega
      simp only [if_neg this]
      refine room_ (by simp; omega) (by omega) (inR_ (by simp; omega) ?_)
      have hc : (((l ++ [(s, ([] : List UInt8))]).length : Nat) : Int) - 1 = (l.length : Int) := by simp
      rw [hc]
      refine ⟨b, clone_ok b (by omega), by omega, (s, []), by simp, ?_⟩
      simp
  | some i =>
    obtain ⟨b0, h3, _⟩ := find_some hf
    refine split_ (fun h2 => by simp at h2; omega) fun h2 => split_ (fun h3 => absurd h3 (by simp only; omega)) fun _ => ?_
    exact ⟨b, clone_ok b (by omega), by simp only; omega, (s, b0), by simpa using h3, by simp⟩
theorem get_ok (l : List FL) (s : ByteArray) (hl : l.length ≤ 1000000) (hb : ∀ f ∈ l, f.2.length ≤ 1000000) : files_Table_Get_R l s ((lookL l s).getD [], (lookL l s).isSome) := by
  refine ⟨_, at_ok l s hl, ?_⟩
  unfold atI
  cases hf : findL l s with
  | none => rw [find_none hf]; exact split_ (fun _ => rfl) fun h => absurd (by decide) h
  | some i =>
    obtain ⟨b, h3, h4⟩ := find_some hf
    rw [h4]
    refine split_ (fun h => absurd h (by simp only; omega)) fun _ => ⟨by simp only; omega, (s, b), by simpa using h3, b, clone_ok b (by have := hb _ (List.mem_of_getElem? h3); simp only at this; omega), rfl⟩
theorem len_ok (l : List FL) (s : ByteArray) (hl : l.length ≤ 1000000) : files_Table_Len_R l s (match lookL l s with | none => -1 | some b => (b.length : Int)) := by
  refine ⟨_, at_ok l s hl, ?_⟩
  unfold atI
  cases hf : findL l s with
  | none => rw [find_none hf]; exact split_ (fun _ => rfl) fun h => absurd (by decide) h
  | some i =>
    obtain ⟨b, h3, h4⟩ := find_some hf
    rw [h4]
    exact split_ (fun h => absurd h (by simp only; omega)) fun _ => ⟨by simp only; omega, (s, b), by simpa using h3, rfl⟩
theorem look_len {l : List FL} {s : ByteArray} (hb : ∀ f ∈ l, f.2.length ≤ 1000000) : ((lookL l s).getD []).length ≤ 1000000 := by
  cases hf : findL l s with
  | none => rw [find_none hf]; simp
  | some i =>
    obtain ⟨b, h3, h4⟩ := find_some hf
    rw [h4]
    have := hb _ (List.mem_of_getElem? h3)
    simpa using this
theorem add_ok (l : List FL) (s : ByteArray) (ps : List (List UInt8)) (hl : l.length ≤ 1000000) (hs : s.size ≤ 1000000) (hb : ∀ f ∈ l, f.2.length ≤ 1000000) (hp : ps.length ≤ 1000) (hp2 : ∀ p ∈ ps, p.length ≤ 100000) :
    files_Table_Add_R l s ps (putL l s ((lookL l s).getD [] ++ ps.flatten)) := by
  refine ⟨_, get_ok l s hl hb, ?_⟩
  have hlk := look_len (s := s) hb
  generalize (lookL l s).getD [] = b0 at hlk ⊢
  have hfl : ∀ k, (ps.take k).flatten.length ≤ k * 100000 := by
    intro k
    induction k with
    | zero => simp
    | succ k ih =>
      rw [List.take_add_one, List.flatten_append, List.length_append]
      cases h : ps[k]? with
      | none => exact Nat.le_trans (show _ + 0 ≤ k * 100000 from ih) (Nat.mul_le_mul_right 100000 (Nat.le_succ k))
      | some p =>
        have h1 := hp2 p (List.mem_of_getElem? h)
        have e : (Option.toList (some p)).flatten.length = p.length := by simp
        rw [e, Nat.succ_mul]
        exact Nat.add_le_add ih h1
  refine loop_ (fun (st : List UInt8 × Int) m => ∃ k : Nat, k ≤ ps.length ∧ m = ps.length - k ∧ st = (b0 ++ (ps.take k).flatten, (k : Int))) ps.length ⟨0, by omega, rfl, by simp⟩ ?_
  rintro _ m ⟨k, hk, rfl, rfl⟩
  show files_Table_Add_l1 ps s l _ (b0 ++ (ps.take k).flatten) (k : Int) _
  have hk2 := hfl k
  refine split_ (fun h => ?_) fun h => ?_
  · refine at_ (by omega) (by omega) fun p hp' => ?_
    rw [Int.toNat_natCast] at hp'
    have hpl := hp2 p (List.mem_of_getElem? hp')
    have hpre : (b0 ++ (ps.take k).flatten ++ p).length ≤ (b0 ++ ps.flatten).length := by
      have e : ps.flatten = (ps.take k).flatten ++ (p ++ (ps.drop (k + 1)).flatten) := by
        conv => lhs; rw [← List.take_append_drop k ps]
        rw [List.flatten_append, List.drop_eq_getElem?_toList_append, hp']; simp
      rw [e]; simp
    have hnext : ∀ r, r = putL l s (b0 ++ ps.flatten) → files_Table_Add_j2 (b0 ++ (ps.take k).flatten) p (k : Int) (fun s' => ∃ m', m' < ps.length - k ∧ ∃ k : Nat, k ≤ ps.length ∧ m' = ps.length - k ∧ s' = (b0 ++ (ps.take k).flatten, (k : Int))) r := by
      rintro r rfl
      refine room_ (by simp only [List.length_append] at *; omega) (by omega) (inR_ (by omega) ⟨ps.length - (k + 1), by omega, k + 1, by omega, rfl, ?_⟩)
      rw [List.take_add_one, hp']; simp
    refine ⟨_, isName_ok s hs, split_ (fun hn => inR_ (by simp only [List.length_append] at *; omega) (split_ (fun h1 => ?_) fun _ => hnext _ rfl)) fun _ => hnext _ rfl⟩
    unfold putL
    rw [if_pos hn, if_pos (by simp only [List.length_append] at *; omega)]
  · have hk' : k = ps.length := by omega
    rw [hk', List.take_length]
    exact ⟨_, put_ok l s _ hl hs, rfl⟩
def cutL (l : List FL) (s : ByteArray) (n : Int) : Int × List FL := match findL l s with
  | none => (6, l)
  | some i => match lookL l s with
    | none => (6, l)
    | some b => if n < 0 ∨ (b.length : Int) < n then (3, l) else (0, l.set i (s, b.take n.toNat))
end Go.Proofs.Ytljlaggehilpfaa
