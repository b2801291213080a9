/- Taken over from other chapters' plain texts. -/
import Derived.Test.YtihbljabeckgmaaPl
import Derived.Test.YtihbljabeckgmaaGK
namespace Go.Proofs.Ytihbljabeckgmaa
theorem ba_at (s : ByteArray) (i : Nat) : s[i]? = s.data.toList[i]? := by
  rcases Nat.lt_or_ge i s.size with h | h
  · rw [getElem?_pos s i h, List.getElem?_eq_getElem (by simpa using h)]; rfl
  · rw [getElem?_neg s i (by omega), List.getElem?_eq_none (by simpa using h)]
theorem ba_eq {a b : ByteArray} (h : (a.toList == b.toList) = true) : a = b := by
  have h := eq_of_beq h
  rw [ByteArray.toList_eq, ByteArray.toList_eq] at h
  obtain ⟨⟨a⟩⟩ := a
  obtain ⟨⟨b⟩⟩ := b
  simp at h
  rw [h]
abbrev FL := ByteArray × List UInt8
def findL : List FL → ByteArray → Option Nat
  | [], _ => none
  | f :: l, s => if (f.1.toList == s.toList) = true then some 0 else (findL l s).map (· + 1)
def lookL : List FL → ByteArray → Option (List UInt8)
  | [], _ => none
  | f :: l, s => if (f.1.toList == s.toList) = true then some f.2 else lookL l s
def atI (l : List FL) (s : ByteArray) : Int := match findL l s with
  | none => -1
  | some i => (i : Int)
theorem find_none : ∀ {l : List FL} {s : ByteArray}, findL l s = none → lookL l s = none
  | [], _, _ => rfl
  | f :: l, s, h => by
    unfold findL at h; unfold lookL
    split at h
    · cases h
    · rename_i hf; rw [if_neg hf]
      exact find_none (by cases h2 : findL l s with | none => rfl | some _ => rw [h2] at h; cases h)
theorem find_some : ∀ {l : List FL} {s : ByteArray} {i : Nat}, findL l s = some i → ∃ b, l[i]? = some (s, b) ∧ lookL l s = some b
  | [], _, _, h => by cases h
  | f :: l, s, i, h => by
    unfold findL at h; unfold lookL
    split at h
    · rename_i hf
      injection h with h; subst h
      rw [if_pos hf]
      exact ⟨f.2, by rw [List.getElem?_cons_zero, ← ba_eq hf], rfl⟩
    · rename_i hf; rw [if_neg hf]
      cases h2 : findL l s with
      | none => rw [h2] at h; cases h
      | some j =>
        rw [h2] at h
        injection h with h; subst h
        obtain ⟨b, h3, h4⟩ := find_some h2
        exact ⟨b, by rw [List.getElem?_cons_succ]; exact h3, h4⟩
theorem find_at : ∀ {l : List FL} {s : ByteArray} {k : Nat} {f : FL}, l[k]? = some f → (f.1.toList == s.toList) = true → (∀ j, j < k → ∀ f', l[j]? = some f' → ¬ (f'.1.toList == s.toList) = true) → findL l s = some k
  | [], _, k, _, h, _, _ => by simp at h
  | g :: l, s, 0, f, h, hm, _ => by
    simp at h; subst h
    unfold findL; rw [if_pos hm]
  | g :: l, s, k + 1, f, h, hm, hp => by
    unfold findL
    rw [if_neg (hp 0 (by omega) g rfl), find_at (k := k) (by simpa using h) hm fun j hj f' hf' => hp (j + 1) (by omega) f' (by simpa using hf')]
    rfl
theorem find_no : ∀ {l : List FL} {s : ByteArray}, (∀ (j : Nat) (f' : FL), l[j]? = some f' → ¬ (f'.1.toList == s.toList) = true) → findL l s = none
  | [], _, _ => rfl
  | g :: l, s, hp => by
    unfold findL
    rw [if_neg (hp 0 g rfl), find_no fun j f' hf' => hp (j + 1) f' (by simpa using hf')]
    rfl
theorem clone_ok (b : List UInt8) (hb : b.length ≤ 1000000000) : slices_Clone_R b b := by
  intro v hv
  refine split_ (fun h => ?_) fun _ => room_ (by simp; omega) (by omega) rfl
  by_cases hb0 : b = []
  · exact hb0
  · rw [hv hb0] at h; cases h
theorem refAt_ok (l : List FL) (s : ByteArray) (hl : l.length ≤ 1000000) : palinoderef03_At_R l s (atI l s) := by
  refine loop_ (fun st m => ∃ k : Nat, k ≤ l.length ∧ m = l.length - k ∧ st = (k : Int) ∧ ∀ j, j < k → ∀ f', l[j]? = some f' → ¬ (f'.1.toList == s.toList) = true) l.length ⟨0, by omega, rfl, rfl, fun j hj => by omega⟩ ?_
  rintro _ m ⟨k, hk, rfl, rfl, hall⟩
  refine split_ (fun h => ?_) fun h => ?_
  · refine at_ (by omega) (by omega) fun f hf => ?_
    rw [Int.toNat_natCast] at hf
    refine split_ (fun h1 => ?_) fun h1 => ?_
    · unfold atI; rw [find_at hf h1 hall]
    · refine inR_ (by omega) ⟨l.length - (k + 1), by omega, k + 1, by omega, rfl, rfl, fun j hj f' hf' => ?_⟩
      rcases Nat.lt_or_ge j k with h3 | h3
      · exact hall j h3 f' hf'
      · obtain rfl : j = k := by omega
        rw [hf] at hf'
        obtain rfl := Option.some.inj hf'
        exact h1
  · unfold atI
    rw [find_no fun j f' hf' => hall j (by have := (List.getElem?_eq_some_iff.1 hf').1; omega) f' hf']
theorem fisame_ok (a b : List UInt8) (hl : a.length ≤ 1000000) : palinoderef01_Same_R a b (decide (a = b)) := by
  refine split_ (fun h => ?_) fun h => ?_
  · exact decide_eq_false fun e : a = b => h (by rw [e])
  · have hlen : a.length = b.length := by omega
    refine loop_ (fun st m => ∃ k : Nat, k ≤ a.length ∧ m = a.length - k ∧ st = (k : Int) ∧ a.take k = b.take k) _ ⟨0, by omega, rfl, rfl, rfl⟩ ?_
    rintro st m ⟨k, hk, rfl, rfl, h2⟩
    refine split_ (fun h3 => ?_) fun h3 => ?_
    · refine at_ (by omega) (by omega) fun x hx => at_ (by omega) (by omega) fun y hy => ?_
      rw [Int.toNat_natCast] at hx hy
      refine split_ (fun h4 => ?_) fun h4 => ?_
      · refine decide_eq_false fun e : a = b => h4 ?_
        rw [e, hy] at hx
        injection hx with hx
        rw [hx]
      · have hxy : x = y := UInt8.toNat_inj.1 (by omega)
        refine inR_ (by omega) ⟨a.length - (k + 1), by omega, k + 1, by omega, rfl, by simp, ?_⟩
        rw [List.take_add_one, List.take_add_one, h2, hx, hy, hxy]
    · rw [List.take_of_length_le (by omega), List.take_of_length_le (by omega)] at h2
      exact decide_eq_true h2
theorem ficopy_ok (l : List UInt8) (hl : l.length ≤ 1000000) : palinoderef01_Copy_R l l := room_ (by simp; omega) (by omega) (List.nil_append l).symm
end Go.Proofs.Ytihbljabeckgmaa
