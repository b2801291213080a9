
/- The least length, in plain terms. -/
import Derived.Test.YtnjnbegjhklcgaaMtE
namespace Go.Proofs.Ytnjnbegjhklcgaa
/-- What a node asks at least, after those ahead of it. -/
def leastN (acc : List Int) (n : ND) : Int :=
  let v := if n.1 = 1 then 1 else if n.1 = 2 then acc.getD n.2.1.toNat 0 + acc.getD n.2.2.1.toNat 0
    else if n.1 = 3 then (if acc.getD n.2.2.1.toNat 0 < acc.getD n.2.1.toNat 0 then acc.getD n.2.2.1.toNat 0 else acc.getD n.2.1.toNat 0)
    else if n.1 = 4 then n.2.2.2.1 * acc.getD n.2.1.toNat 0 else if n.1 = 5 then acc.getD n.2.1.toNat 0 else 0
  if 65537 < v then 65537 else v
def leastL : List ND → List Int → List Int
  | [], acc => acc
  | n :: l, acc => leastL l (acc ++ [leastN acc n])
theorem leastL_snoc : ∀ (l : List ND) (n : ND) (acc : List Int), leastL (l ++ [n]) acc = leastL l acc ++ [leastN (leastL l acc) n]
  | [], _, _ => rfl
  | _ :: l, n, acc => leastL_snoc l n _
theorem leastL_len : ∀ (l : List ND) (acc : List Int), (leastL l acc).length = acc.length + l.length
  | [], _ => rfl
  | _ :: l, acc => by rw [leastL, leastL_len l]; simp; omega
def leastM (re : List ND) : Int := (leastL re []).getD (re.length - 1) 0
theorem getD_le {l : List Int} (h : ∀ x ∈ l, 0 ≤ x ∧ x ≤ 65537) (i : Nat) : 0 ≤ l.getD i 0 ∧ l.getD i 0 ≤ 65537 := by
  rw [List.getD_eq_getElem?_getD]
  cases e : l[i]? with
  | none => exact ⟨Int.le_refl _, by decide⟩
  | some x => exact h x (List.mem_of_getElem? e)
theorem leastN_ok {acc : List Int} (h : ∀ x ∈ acc, 0 ≤ x ∧ x ≤ 65537) (n : ND) (h4 : n.1 = 4 → 0 ≤ n.2.2.2.1) : 0 ≤ leastN acc n ∧ leastN acc n ≤ 65537 := by
  have ha := getD_le h n.2.1.toNat
  have hb := getD_le h n.2.2.1.toNat
  unfold leastN
  generalize acc.getD n.2.1.toNat 0 = a at *
  generalize acc.getD n.2.2.1.toNat 0 = b at *
  have hm : n.1 = 4 → 0 ≤ n.2.2.2.1 * a := fun e => Int.mul_nonneg (h4 e) ha.1
  simp only
  repeat' split
  all_goals first | omega | (have := hm (by assumption); omega)
theorem leastL_ok {re : List ND} {g : Int} (hn : NOk re g) : ∀ k, k ≤ re.length → ∀ x ∈ leastL (re.take k) [], 0 ≤ x ∧ x ≤ 65537
  | 0, _, x, hx => by simp [leastL] at hx
  | k + 1, hk, x, hx => by
    have e : re[k]? = some re[k] := List.getElem?_eq_getElem hk
    generalize re[k] = n at e
    rw [List.take_add_one, e] at hx
    simp only [Option.toList_some] at hx
    rw [leastL_snoc] at hx
    rcases List.mem_append.1 hx with hx | hx
    · exact leastL_ok hn k (by omega) x hx
    · rw [List.mem_singleton.1 hx]
      exact leastN_ok (leastL_ok hn k (by omega)) n (hn _ _ e).2.2
theorem isLo {re : List ND} {g : Int} (h : rightB re g = true) {i : Nat} {n : ND} (hx : re[i]? = some n) (h4 : n.1 = 4) : 0 ≤ n.2.2.2.1 ∧ n.2.2.2.1 ≤ 255 := by
  unfold rightB at h
  simp only [Bool.and_eq_true, decide_eq_true_eq] at h
  obtain ⟨⟨⟨⟨⟨⟨h1, h2⟩, h3⟩, _⟩, h5⟩, h6⟩, h7⟩ := h
  have hb := nodes_at h5 hx
  unfold isNodeB at hb
  simp only [Bool.and_eq_true, Bool.or_eq_true, Bool.not_eq_true', decide_eq_true_eq, decide_eq_false_iff_not, List.all_eq_true, isTimesB] at hb
  obtain ⟨⟨⟨⟨⟨q1, q2⟩, q3⟩, q4⟩, q5⟩, q6⟩ := hb
  have := q5.resolve_left (fun q => q h4)
  exact ⟨this.1, this.2.1⟩
theorem least_ok (re : List ND) (g : Int) (hr : rightB re g = true) : tree_Least_R (re, g) (leastM re) := by
  obtain ⟨hn, g0, g9, hl⟩ := right_nodes hr
  have hlen : re.length ≤ 1000 := by
    unfold rightB at hr
    simp only [Bool.and_eq_true, decide_eq_true_eq] at hr
    exact hr.1.1.1.1.1.2
  refine ⟨_, right_ok re g, split_ (fun h => absurd hr h) fun _ => ?_⟩
  have hlen' : (((re, g) : List ND × Int).1.length : Int) = (re.length : Int) := rfl
  rw [hlen']
  refine ⟨?_, ?_⟩
  · unfold MakeOk
    omega
  refine loop_ (fun x m => ∃ k : Nat, x = ((k : Int), leastL (re.take k) [] ++ List.replicate (re.length - k) 0) ∧ k ≤ re.length ∧ re.length - k = m) re.length ⟨0, by simp [leastL], by omega, by omega⟩ ?_
  rintro _ m ⟨k, rfl, hk, rfl⟩
  have hacc := leastL_ok hn k hk
  have hal : (leastL (re.take k) []).length = k := by rw [leastL_len]; simp; omega
  unfold tree_Least_l1
  simp only
  refine split_ (fun h => ?_) fun h => ?_
  · refine at_ (by omega) h fun n hx => ?_
    have hx' : re[k]? = some n := hx
    have hkl : k < re.length := (List.getElem?_eq_some_iff.1 hx').1
    have hn' := hn _ _ hx'
    have etk : leastL (re.take (k + 1)) [] = leastL (re.take k) [] ++ [leastN (leastL (re.take k) []) n] := by
      rw [List.take_add_one, hx']
      simp only [Option.toList_some]
      rw [leastL_snoc]
    generalize hA : leastL (re.take k) [] = A at hacc hal etk
    have erep : List.replicate (re.length - k) (0 : Int) = 0 :: List.replicate (re.length - (k + 1)) 0 := by
      rw [show re.length - k = (re.length - (k + 1)) + 1 by omega, List.replicate_succ]
    have j2 : ∀ v : Int, (if 65537 < v then 65537 else v) = leastN A n → tree_Least_j2 (k : Int) (fun s' => ∃ m', m' < re.length - k ∧ ∃ k : Nat, s' = ((k : Int), leastL (re.take k) [] ++ List.replicate (re.length - k) 0) ∧ k ≤ re.length ∧ re.length - k = m') (A ++ v :: List.replicate (re.length - (k + 1)) 0) (leastM re) := by
      intro v hv
      have hat : (A ++ v :: List.replicate (re.length - (k + 1)) (0 : Int))[((k : Int)).toNat]? = some v := by
        rw [Int.toNat_natCast, List.getElem?_append_right (by omega), hal, Nat.sub_self]; rfl
      refine ⟨by omega, v, hat, by omega, v, hat, inR_ (by omega) ⟨re.length - (k + 1), by omega, k + 1, ?_, by omega, rfl⟩⟩
      rw [hv, etk, Int.toNat_natCast, List.set_append_right _ _ (by omega), hal, Nat.sub_self, List.set_cons_zero, List.append_assoc]
      rfl
    have get : ∀ {i : Int} {P : Int → Prop}, 0 ≤ i ∧ i < k → P (A.getD i.toNat 0) → 0 ≤ i ∧ ∃ y, (A ++ List.replicate (re.length - k) 0)[i.toNat]? = some y ∧ P y := by
      intro i P hi hP
      refine ⟨hi.1, _, ?_, hP⟩
      rw [List.getElem?_append_left (by omega), List.getD_eq_getElem?_getD, List.getElem?_eq_getElem (by omega)]; rfl
    have own : ∀ {v : Int}, (if 65537 < v then 65537 else v) = leastN A n → 0 ≤ (k : Int) ∧ ∃ y, (A ++ List.replicate (re.length - k) 0)[((k : Int)).toNat]? = some y ∧ tree_Least_j2 (k : Int) (fun s' => ∃ m', m' < re.length - k ∧ ∃ k : Nat, s' = ((k : Int), leastL (re.take k) [] ++ List.replicate (re.length - k) 0) ∧ k ≤ re.length ∧ re.length - k = m') ((A ++ List.replicate (re.length - k) 0).set ((k : Int)).toNat v) (leastM re) := by
      intro v hv
      refine ⟨by omega, 0, ?_, ?_⟩
      · rw [Int.toNat_natCast, List.getElem?_append_right (by omega), hal, Nat.sub_self, erep]; rfl
      · have := j2 v hv
        rw [Int.toNat_natCast, List.set_append_right _ _ (by omega), hal, Nat.sub_self, erep, List.set_cons_zero]
        exact this
    have ga := getD_le hacc n.2.1.toNat
    have gb := getD_le hacc n.2.2.1.toNat
    have pa : n.1 = 2 ∨ n.1 = 3 ∨ n.1 = 4 ∨ n.1 = 5 → 0 ≤ n.2.1 ∧ n.2.1 < k := fun q => hn'.1 _ (parts1 q)
    have pb : n.1 = 2 ∨ n.1 = 3 → 0 ≤ n.2.2.1 ∧ n.2.2.1 < k := fun q => hn'.1 _ (parts2 q)
    refine split_ (fun q => ?_) fun q1 => ?_
    · exact own (by simp [leastN, q])
    refine split_ (fun q => ?_) fun q2 => ?_
    · exact get (pa (.inl q)) (get (pb (.inl q)) (inR_ (by omega) (own (by simp [leastN, q]))))
    refine split_ (fun q => ?_) fun q3 => ?_
    · exact get (pa (.inr (.inl q))) (get (pb (.inr q)) (own (by simp [leastN, q])))
    refine split_ (fun q => ?_) fun q4 => ?_
    · have hlo := isLo hr hx' q
      have hm : n.2.2.2.1 * A.getD n.2.1.toNat 0 ≤ 255 * 65537 := Int.mul_le_mul hlo.2 ga.2 ga.1 (by decide)
      have hm0 : 0 ≤ n.2.2.2.1 * A.getD n.2.1.toNat 0 := Int.mul_nonneg hlo.1 ga.1
      exact get (pa (.inr (.inr (.inl q)))) (inR_ (by omega) (own (by simp [leastN, q])))
    refine split_ (fun q => ?_) fun q5 => ?_
    · exact get (pa (.inr (.inr (.inr q)))) (own (by simp [leastN, q]))
    · have := j2 0 (by simp [leastN, q1, q2, q3, q4, q5])
      rw [← erep] at this
      exact this
  · obtain rfl : k = re.length := by have : ¬ (k : Int) < (re.length : Int) := h; omega
    have e : leastL (re.take re.length) [] ++ List.replicate (re.length - re.length) 0 = leastL re [] := by simp
    rw [e]
    have hll : (leastL re []).length = re.length := by rw [leastL_len]; simp
    rw [hll]
    refine inR_ (by omega) (at_ (by omega) (by omega) fun y hy => ?_)
    unfold leastM
    rw [show ((re.length : Int) - 1).toNat = re.length - 1 by omega] at hy
    rw [List.getD_eq_getElem?_getD, hy]; rfl
end Go.Proofs.Ytnjnbegjhklcgaa
