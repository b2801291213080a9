/- When a regular expression is right: what the program's functions tell, in plain terms. -/
import Derived.Test.YtpddiffpanihdaaPl
import Derived.Test.YtpddiffpanihdaaGK
namespace Go.Proofs.Ytpddiffpanihdaa
abbrev ND := Int × Int × Int × Int × Int × Int × (Arr 4 (UInt64))
def setZ : Arr 4 UInt64 := Arr.rep 4 (0 : UInt64)
def plainL (n : ND) : ND :=
  if n.1 = 1 then (n.1, 0, 0, 0, 0, 0, n.2.2.2.2.2.2)
  else if n.1 = 2 ∨ n.1 = 3 then (n.1, n.2.1, n.2.2.1, 0, 0, 0, setZ)
  else if n.1 = 4 then (n.1, n.2.1, 0, n.2.2.2.1, n.2.2.2.2.1, 0, setZ)
  else if n.1 = 5 then (n.1, n.2.1, 0, 0, 0, n.2.2.2.2.2.1, setZ)
  else if n.1 = 6 then (n.1, 0, 0, 0, 0, n.2.2.2.2.2.1, setZ)
  else (n.1, 0, 0, 0, 0, 0, setZ)
def partsL (n : ND) : List Int := if n.1 = 2 ∨ n.1 = 3 then [n.2.1, n.2.2.1] else if n.1 = 4 ∨ n.1 = 5 then [n.2.1] else []
def isTimesB (lo hi : Int) : Bool := (decide (0 ≤ lo)) && ((decide (lo ≤ 255)) && ((decide (hi = (-1))) || ((decide (lo ≤ hi)) && (decide (hi ≤ 255)))))
set_option synthInstance.maxSize 4000 in
def isNodeB (n : ND) (at_ g : Int) : Bool :=
  decide (0 ≤ n.1) && decide (n.1 ≤ 8) && decide (n = plainL n) && (partsL n).all (fun k => decide (0 ≤ k) && decide (k < at_))
    && (!decide (n.1 = 4) || isTimesB n.2.2.2.1 n.2.2.2.2.1) && (!decide (n.1 = 5 ∨ n.1 = 6) || (decide (1 ≤ n.2.2.2.2.2.1) && decide (n.2.2.2.2.2.1 ≤ g)))
theorem plain_ok (n : ND) : tree_plain_R n (plainL n) := by
  unfold tree_plain_R tree_plain_j2 tree_plain_j1 plainL setZ
  by_cases h1 : n.1 = 1
  · simp [h1]
  by_cases h2 : n.1 = 2
  · simp [h2]
  by_cases h3 : n.1 = 3
  · simp [h3]
  by_cases h4 : n.1 = 4
  · simp [h4]
  by_cases h5 : n.1 = 5
  · simp [h5]
  by_cases h6 : n.1 = 6
  · simp [h6]
  simp [h1, h2, h3, h4, h5, h6]
theorem parts_ok (n : ND) : tree_parts_R n (partsL n) := by
  unfold tree_parts_R tree_parts_j1 tree_parts_j2 partsL
  by_cases h2 : n.1 = 2
  · simp [h2]
  by_cases h3 : n.1 = 3
  · simp [h3]
  by_cases h4 : n.1 = 4
  · simp [h4]
  by_cases h5 : n.1 = 5
  · simp [h5]
  simp [h2, h3, h4, h5]
theorem parts_len (n : ND) : (partsL n).length ≤ 2 := by
  unfold partsL
  split
  · simp
  · split <;> simp
theorem c1_ok (a k : Int) : tree_isNode_c1_R a k (!(decide (0 ≤ k) && decide (k < a))) := by
  refine split_ (fun h => ?_) fun h => ?_
  · have : ¬ 0 ≤ k := by omega
    simp [this]
  · have h1 : 0 ≤ k := by omega
    by_cases h2 : k < a
    · simp [h1, h2]
    · simp [h1, h2]; omega
theorem index_ok (a : Int) (l : List Int) (hl : l.length ≤ 100000) : ∃ y : Int, slices_IndexFunc_R a l y ∧ (decide (0 ≤ y)) = !(l.all (fun k => decide (0 ≤ k) && decide (k < a))) := by
  -- the first that is not in range
  have key : ∀ n : Nat, n ≤ l.length → (∀ j, j < n → ∀ x, l[j]? = some x → (decide (0 ≤ x) && decide (x < a)) = true) → (n = l.length ∨ ∃ x, l[n]? = some x ∧ (decide (0 ≤ x) && decide (x < a)) = false) →
      ∃ y : Int, slices_IndexFunc_R a l y ∧ (decide (0 ≤ y)) = !(l.all (fun k => decide (0 ≤ k) && decide (k < a))) := by
    intro n hn h1 h2
    refine ⟨if n = l.length then -1 else (n : Int), ?_, ?_⟩
    · refine loop_ (fun st m => ∃ k : Nat, k ≤ n ∧ m = n - k ∧ st = (k : Int)) _ ⟨0, by omega, rfl, rfl⟩ ?_
      rintro st m ⟨k, hk, rfl, rfl⟩
      refine split_ (fun h3 => ?_) fun h3 => ?_
      · refine at_ (by omega) (by omega) fun x hx => ?_
        rw [Int.toNat_natCast] at hx
        refine ⟨_, c1_ok a x, ?_⟩
        rcases Nat.lt_or_ge k n with hkn | hkn
        · rw [h1 k hkn x hx]
          refine split_ (fun h => by simp at h) fun _ => ?_
          exact inR_ (by omega) ⟨n - (k + 1), by omega, k + 1, by omega, rfl, rfl⟩
        · obtain rfl : k = n := by omega
          rcases h2 with h2 | ⟨x', hx', h2⟩
          · omega
          · rw [hx'] at hx
            obtain rfl := Option.some.inj hx
            rw [h2]
            refine split_ (fun _ => ?_) fun h => by simp at h
            rw [if_neg (by omega)]
      · rw [if_pos (by omega)]
    · rcases h2 with h2 | ⟨x, hx, h2⟩
      · rw [if_pos h2]
        have : l.all (fun k => decide (0 ≤ k) && decide (k < a)) = true := by
          rw [List.all_eq_true]
          intro x hx
          obtain ⟨j, hj⟩ := List.mem_iff_getElem?.1 hx
          exact h1 j (by have := (List.getElem?_eq_some_iff.1 hj).1; omega) x hj
        rw [this]; rfl
      · have hlt := (List.getElem?_eq_some_iff.1 hx).1
        rw [if_neg (by omega)]
        have : l.all (fun k => decide (0 ≤ k) && decide (k < a)) = false := by
          rw [Bool.eq_false_iff]
          intro h
          have := List.all_eq_true.1 h x (List.mem_of_getElem? hx)
          rw [h2] at this; cases this
        rw [this]
        simp
  -- such a place
  have ex : ∀ d n : Nat, n + d = l.length → (∀ j, j < n → ∀ x, l[j]? = some x → (decide (0 ≤ x) && decide (x < a)) = true) → ∃ n : Nat, n ≤ l.length ∧ (∀ j, j < n → ∀ x, l[j]? = some x → (decide (0 ≤ x) && decide (x < a)) = true) ∧ (n = l.length ∨ ∃ x, l[n]? = some x ∧ (decide (0 ≤ x) && decide (x < a)) = false) := by
    intro d
    induction d with
    | zero => intro n hn h; exact ⟨n, by omega, h, .inl (by omega)⟩
    | succ d ih =>
      intro n hn h
      have hx := List.getElem?_eq_getElem (l := l) (i := n) (by omega)
      generalize l[n] = x at hx
      by_cases hb : (decide (0 ≤ x) && decide (x < a)) = true
      · refine ih (n + 1) (by omega) fun j hj y hy => ?_
        rcases Nat.lt_or_ge j n with h3 | h3
        · exact h j h3 y hy
        · obtain rfl : j = n := by omega
          rw [hx] at hy
          obtain rfl := Option.some.inj hy
          exact hb
      · exact ⟨n, by omega, h, .inr ⟨x, hx, by simpa using hb⟩⟩
  obtain ⟨n, k1, k2, k3⟩ := ex l.length 0 (by omega) (fun j hj => by omega)
  exact key n k1 k2 k3
theorem contains_ok (a : Int) (l : List Int) (hl : l.length ≤ 100000) : slices_ContainsFunc_R a l (!(l.all (fun k => decide (0 ≤ k) && decide (k < a)))) := by
  obtain ⟨y, h1, h2⟩ := index_ok a l hl
  exact ⟨y, h1, h2.symm⟩
set_option synthInstance.maxSize 4000 in
theorem isNode_ok (n : ND) (a g : Int) : tree_isNode_R n a g (isNodeB n a g) := by
  have j3 : tree_isNode_j3 n g ((decide (n.1 = 5)) || (decide (n.1 = 6))) (!decide (n.1 = 5 ∨ n.1 = 6) || (decide (1 ≤ n.2.2.2.2.2.1) && decide (n.2.2.2.2.2.1 ≤ g))) := by
    by_cases h : n.1 = 5 ∨ n.1 = 6
    · have hh : ((decide (n.1 = 5)) || (decide (n.1 = 6))) = true := by simpa using h
      rw [hh, decide_eq_true h]
      refine split_ (fun _ => split_ (fun h1 => ?_) fun h1 => ?_) fun h1 => absurd rfl h1
      · simp [h1]
      · simp [h1]
    · have hh : ((decide (n.1 = 5)) || (decide (n.1 = 6))) = false := by simpa using h
      rw [hh, decide_eq_false h]
      exact split_ (fun h1 => by cases h1) fun _ => by simp
  have j1 : ∀ b : Bool, tree_isNode_j1 n a g (!b) (b && (partsL n).all (fun k => decide (0 ≤ k) && decide (k < a)) && (!decide (n.1 = 4) || isTimesB n.2.2.2.1 n.2.2.2.2.1) && (!decide (n.1 = 5 ∨ n.1 = 6) || (decide (1 ≤ n.2.2.2.2.2.1) && decide (n.2.2.2.2.2.1 ≤ g)))) := by
    intro b
    cases b with
    | false => exact split_ (fun _ => by simp) fun h => absurd rfl h
    | true =>
      refine split_ (fun h => by simp at h) fun _ => ?_
      refine ⟨_, parts_ok n, _, contains_ok a _ (by have := parts_len n; omega), ?_⟩
      cases hall : (partsL n).all (fun k => decide (0 ≤ k) && decide (k < a)) with
      | false => exact split_ (fun _ => by simp) fun h => absurd rfl h
      | true =>
        refine split_ (fun h => by simp at h) fun _ => ?_
        refine split_ (fun h4 => ?_) fun h4 => ?_
        · refine ⟨isTimesB n.2.2.2.1 n.2.2.2.2.1, rfl, ?_⟩
          rw [decide_eq_true h4]
          cases hT : isTimesB n.2.2.2.1 n.2.2.2.2.1 with
          | false => exact split_ (fun _ => by simp) fun h => absurd rfl h
          | true => exact split_ (fun h => by simp at h) fun _ => by simpa using j3
        · rw [decide_eq_false h4]
          exact split_ (fun h => by cases h) fun _ => by simpa using j3
  refine split_ (fun h => ?_) fun h => split_ (fun h2 => ?_) fun h2 => ?_
  · have h1 : ¬ 0 ≤ n.1 := by omega
    have := j1 false
    simpa [isNodeB, h1] using this
  · have h1 : ¬ n.1 ≤ 8 := by omega
    have := j1 false
    simpa [isNodeB, h1] using this
  · have h3 : 0 ≤ n.1 := by omega
    have h4 : n.1 ≤ 8 := by omega
    refine ⟨_, plain_ok n, ?_⟩
    have := j1 (decide (n = plainL n))
    simpa only [isNodeB, decide_eq_true h3, decide_eq_true h4, Bool.true_and] using this
end Go.Proofs.Ytpddiffpanihdaa
