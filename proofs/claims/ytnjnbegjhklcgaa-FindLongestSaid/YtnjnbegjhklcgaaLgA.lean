
/- What a node takes at least; how many points there are. -/
import Derived.Test.YtnjnbegjhklcgaaMrD
import Derived.Test.YtnjnbegjhklcgaaFnB
namespace Go.Proofs.Ytnjnbegjhklcgaa
def lv (re : List ND) (i : Int) : Int := (leastL re []).getD i.toNat 0
theorem leastL_app : ∀ (l m : List ND) (acc : List Int), leastL (l ++ m) acc = leastL m (leastL l acc)
  | [], _, _ => rfl
  | _ :: l, m, acc => leastL_app l m _
theorem leastL_pre : ∀ (l : List ND) (acc : List Int) (i : Nat), i < acc.length → (leastL l acc)[i]? = acc[i]?
  | [], _, _, _ => rfl
  | n :: l, acc, i, h => by
    rw [leastL, leastL_pre l _ i (by simp; omega), List.getElem?_append_left h]
theorem lv_eq {re : List ND} {i : Int} {n : ND} (h0 : 0 ≤ i) (hx : re[i.toNat]? = some n) (hp : ∀ k ∈ partsL n, 0 ≤ k ∧ k < i) : lv re i = (
    let v := if n.1 = 1 then 1 else if n.1 = 2 then lv re n.2.1 + lv re n.2.2.1
      else if n.1 = 3 then (if lv re n.2.2.1 < lv re n.2.1 then lv re n.2.2.1 else lv re n.2.1)
      else if n.1 = 4 then n.2.2.2.1 * lv re n.2.1 else if n.1 = 5 then lv re n.2.1 else 0
    if 65537 < v then 65537 else v) := by
  have hi := (List.getElem?_eq_some_iff.1 hx).1
  have hd : re = re.take i.toNat ++ n :: re.drop (i.toNat + 1) := by
    rw [← (List.getElem?_eq_some_iff.1 hx).2, ← List.drop_eq_getElem_cons hi, List.take_append_drop]
  have hl : (leastL (re.take i.toNat) []).length = i.toNat := by rw [leastL_len]; simp; omega
  have he : leastL re [] = leastL (re.drop (i.toNat + 1)) (leastL (re.take i.toNat) [] ++ [leastN (leastL (re.take i.toNat) []) n]) :=
    (congrArg (fun l => leastL l []) hd).trans (leastL_app _ _ _)
  have hlt : ∀ k, 0 ≤ k → k < i → lv re k = (leastL (re.take i.toNat) []).getD k.toNat 0 := fun k k0 k1 => by
    unfold lv
    rw [List.getD_eq_getElem?_getD, List.getD_eq_getElem?_getD, he, leastL_pre _ _ _ (by simp; omega), List.getElem?_append_left (by omega)]
  have hme : lv re i = leastN (leastL (re.take i.toNat) []) n := by
    unfold lv
    rw [List.getD_eq_getElem?_getD, he, leastL_pre _ _ _ (by simp; omega), List.getElem?_append_right (by omega), hl, Nat.sub_self]; rfl
  rw [hme]
  unfold leastN
  by_cases h2 : n.1 = 2
  · have pa := hp _ (parts1 (.inl h2)); have pb := hp _ (parts2 (.inl h2))
    rw [hlt _ pa.1 pa.2, hlt _ pb.1 pb.2]
  by_cases h3 : n.1 = 3
  · have pa := hp _ (parts1 (.inr (.inl h3))); have pb := hp _ (parts2 (.inr h3))
    rw [hlt _ pa.1 pa.2, hlt _ pb.1 pb.2]
  by_cases h4 : n.1 = 4
  · have pa := hp _ (parts1 (.inr (.inr (.inl h4))))
    rw [hlt _ pa.1 pa.2]; simp [h4]
  by_cases h5 : n.1 = 5
  · have pa := hp _ (parts1 (.inr (.inr (.inr h5))))
    rw [hlt _ pa.1 pa.2]; simp [h5]
  simp [h2, h3, h4, h5]
section
variable {re : List ND} {tx : List UInt8} {a0 : Int} {g : Int}
theorem lv_nn (hn : NOk re g) (i : Int) : 0 ≤ lv re i := by
  have h := leastL_ok hn re.length (Nat.le_refl _)
  rw [List.take_length] at h
  exact (getD_le h i.toNat).1
/-- The points of a node are so far on at least. -/
def Far (v : Int) (f : Pt → List Pt) (P : Pt → Prop) : Prop := ∀ p, P p → ∀ q ∈ f p, p.1 + v ≤ q.1 ∧ P q
theorem times_far {f : Pt → List Pt} {P : Pt → Prop} {v lo hi : Int} {p0 : Int} (hv : 0 ≤ v) (hlo : 0 ≤ lo) (hf : Far v f P) : ∀ (R : Nat) (k : Int) (out now : List Pt), 0 ≤ k → (∀ q ∈ out, p0 + lo * v ≤ q.1) → (∀ q ∈ now, P q ∧ p0 + k * v ≤ q.1) → ∀ q ∈ timesR f lo hi R k out now, p0 + lo * v ≤ q.1
  | 0, _, out, _, _, h, _ => h
  | R + 1, k, out, now, hk, h, hnow => by
    have h1 : ∀ q ∈ (if lo ≤ k then joinM out now else out), p0 + lo * v ≤ q.1 := by
      intro q hq
      split at hq
      · rename_i hl
        rcases mem_join.1 hq with hq | hq
        · exact h q hq
        · have := (hnow q hq).2
          have := Int.mul_le_mul_of_nonneg_right hl hv
          omega
      · exact h q hq
    unfold timesR
    split
    · exact h
    · split
      · exact h1
      · refine times_far hv hlo hf R (k + 1) _ _ (by omega) (fun q hq => ?_) fun q hq => ?_
        · rcases mem_round1.1 hq with hq | ⟨p, hp, h2, h3, h4⟩
          · exact h1 q hq
          · obtain ⟨n1, n2⟩ := hnow p hp
            have h5 := (hf p n1 q h3).1
            have hv0 : v = 0 := by omega
            rw [hv0] at n2 ⊢
            simp only [Int.mul_zero, Int.add_zero] at n2 ⊢
            omega
        · obtain ⟨p, hp, h3, h4⟩ := (mem_round2.1 hq).resolve_left (fun h => by cases h)
          obtain ⟨n1, n2⟩ := hnow p hp
          have h5 := hf p n1 q h3
          refine ⟨h5.2, ?_⟩
          rw [Int.add_mul, Int.one_mul]
          have := h5.1
          omega
/-- What a point is. -/
def PtOk (re : List ND) (g : Int) (tx : List UInt8) (a0 : Int) (p : Pt) : Prop := KOk re g tx a0 (p.1, p.2, [])
theorem ptok_node {p : Pt} {c : Int} (h : PtOk re g tx a0 p) (hc : 0 ≤ c ∧ c < re.length) : KOk re g tx a0 (p.1, p.2, [(0, c, 0, 0)]) := KOk.row h h (tnode hc) fun _ => rfl
theorem reach_pt (hn : NOk re g) (hh : HiOk re) (ha : 0 ≤ a0) {k : Nat} {i : Int} (hi0 : 0 ≤ i) (hi1 : i < re.length) (hi : i < k) {p q : Pt} (h : PtOk re g tx a0 p) (hq : q ∈ reachM re tx k i p) : PtOk re g tx a0 q :=
  ((reach_spec hn hh ha k i hi p [] (ptok_node h ⟨hi0, hi1⟩)).1 q hq).ok hn ha (ptok_node h ⟨hi0, hi1⟩)
theorem reach_far (hn : NOk re g) (hh : HiOk re) (ha : 0 ≤ a0) : ∀ (k : Nat) (i : Int), 0 ≤ i → i < re.length → i < k → Far (lv re i) (reachM re tx k i) (PtOk re g tx a0)
  | 0, i, h0, _, h => by omega
  | k + 1, i, h0, h1, h => fun p hp q hq => by
    refine ⟨?_, reach_pt hn hh ha h0 h1 h hp hq⟩
    have hx : re[i.toNat]? = some re[i.toNat] := List.getElem?_eq_getElem (by omega)
    generalize re[i.toNat] = n at hx
    obtain ⟨n1, n2, n3⟩ := hn _ _ hx
    have n1' : ∀ c ∈ partsL n, 0 ≤ c ∧ c < i := fun c hc => by have := n1 c hc; omega
    have ih : ∀ c ∈ partsL n, Far (lv re c) (reachM re tx k c) (PtOk re g tx a0) := fun c hc => reach_far hn hh ha k c (n1' c hc).1 (by have := n1' c hc; omega) (by have := n1' c hc; omega)
    have hl := lv_eq h0 hx n1'
    simp only at hl
    have hpos : p.1 ≤ q.1 := ((reach_spec hn hh ha (k + 1) i h p [] (ptok_node hp ⟨h0, h1⟩)).1 q hq).pos hn ha (ptok_node hp ⟨h0, h1⟩)
    rw [reach_eq hx] at hq
    by_cases k1 : n.1 = 1
    · rw [if_pos k1] at hl hq
      rw [hl]
      split at hq
      · cases hq
      · split at hq
        · cases hq
        · split at hq
          · rw [List.mem_singleton.1 hq]; simp
          · cases hq
    rw [if_neg k1] at hl hq
    by_cases k2 : n.1 = 2
    · rw [if_pos k2] at hl hq
      obtain ⟨p1, h3, h4⟩ := (mem_seq.1 hq).resolve_left (fun h => by cases h)
      have a1 := ih _ (parts1 (.inl k2)) p hp p1 h3
      have a2 := (ih _ (parts2 (.inl k2)) p1 a1.2 q h4).1
      have := a1.1
      rw [hl]; split <;> omega
    rw [if_neg k2] at hl hq
    by_cases k3 : n.1 = 3
    · rw [if_pos k3] at hl hq
      have : p.1 + (if lv re n.2.2.1 < lv re n.2.1 then lv re n.2.2.1 else lv re n.2.1) ≤ q.1 := by
        rcases mem_join.1 hq with hq | hq
        · have := (ih _ (parts1 (.inr (.inl k3))) p hp q hq).1
          split <;> omega
        · have := (ih _ (parts2 (.inr k3)) p hp q hq).1
          split <;> omega
      rw [hl]; split <;> omega
    rw [if_neg k3] at hl hq
    by_cases k4 : n.1 = 4
    · rw [if_pos k4] at hl hq
      have := times_far (p0 := p.1) (lv_nn hn n.2.1) (n3 k4) (ih _ (parts1 (.inr (.inr (.inl k4))))) (tx.length + 2) 0 [] [p] (Int.le_refl _) (fun q hq => by cases hq) (fun q hq => by rw [List.mem_singleton.1 hq]; exact ⟨hp, by simp⟩) q hq
      rw [hl]; split <;> omega
    rw [if_neg k4] at hl hq
    by_cases k5 : n.1 = 5
    · rw [if_pos k5] at hl hq
      obtain ⟨p1, h3, rfl⟩ := List.mem_map.1 ((mem_join.1 hq).resolve_left (fun h => by cases h))
      have := (ih _ (parts1 (.inr (.inr (.inr k5)))) p hp p1 h3).1
      rw [hl]; show _ ≤ p1.1; split <;> omega
    rw [if_neg k5] at hl
    rw [hl]
    simp only [if_neg (by decide : ¬ (65537 : Int) < 0)]
    omega
/-- Where too few bytes are left there is no point. -/
theorem reach_none (hr : rightB re g = true) (ha : 0 ≤ a0) (h1 : a0 ≤ tx.length) (hl : (tx.length : Int) - a0 < leastM re) : reachM re tx re.length ((re.length : Int) - 1) (a0, sp0) = [] := by
  obtain ⟨hn, g0, g9, hlen⟩ := right_nodes hr
  have hk := start_k (g := g) (tx := tx) hlen ha h1
  cases hq : reachM re tx re.length ((re.length : Int) - 1) (a0, sp0) with
  | nil => rfl
  | cons q l =>
    have hp : PtOk re g tx a0 (a0, sp0) := hk.tail (w := (a0, sp0, [(0, (re.length : Int) - 1, 0, 0)])) rfl
    obtain ⟨h3, h4⟩ := reach_far hn (right_hi hr) ha re.length ((re.length : Int) - 1) (by omega) (by omega) (by omega) _ hp q (by rw [hq]; exact List.mem_cons_self ..)
    have h5 : q.1 ≤ tx.length := h4.1.2.1
    have e : lv re ((re.length : Int) - 1) = leastM re := by unfold lv leastM; rw [show ((re.length : Int) - 1).toNat = re.length - 1 by omega]
    rw [e] at h3
    have h3 : a0 + leastM re ≤ q.1 := h3
    omega
end
end Go.Proofs.Ytnjnbegjhklcgaa
