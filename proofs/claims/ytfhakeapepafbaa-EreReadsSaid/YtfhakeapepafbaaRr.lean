/- A tree that was read is right: the document's test of it. -/
import Derived.Test.YtfhakeapepafbaaRkP
namespace Go.Proofs.Ytfhakeapepafbaa
theorem parts1 {n : ND} (h : n.1 = 2 ∨ n.1 = 3 ∨ n.1 = 4 ∨ n.1 = 5) : n.2.1 ∈ partsL n := by
  unfold partsL
  split
  · simp
  · split
    · simp
    · omega
theorem parts2 {n : ND} (h : n.1 = 2 ∨ n.1 = 3) : n.2.2.1 ∈ partsL n := by
  unfold partsL
  rw [if_pos h]; simp
theorem cnt_add {n : Nat} {p : List Int} {z : Int} {P : Int → Prop} (h0 : 0 ≤ z) (h1 : z < n) (hp : p.length ≤ 100000) (k : (cntL n p).set z.toNat (((p.count z : Nat) : Int) + 1) = cntL n (p ++ [z]) → P ((p.count z : Nat) : Int)) :
    0 ≤ z ∧ ∃ y, (cntL n p)[z.toNat]? = some y ∧ InR (y + 1) ∧ 0 ≤ z ∧ ∃ y2, (cntL n p)[z.toNat]? = some y2 ∧ P y := by
  have hc : (cntL n p)[z.toNat]? = some ((p.count z : Nat) : Int) := by
    rw [cnt_at (by omega), Int.toNat_of_nonneg h0]
  have hl : p.count z ≤ p.length := List.count_le_length
  exact ⟨h0, _, hc, inR_ (by omega) ⟨h0, _, hc, k (cnt_set h0 (by omega))⟩⟩
theorem rright_l10 (l : List ND) (g : Int) (hg0 : 0 ≤ g) (hg : g ≤ 9) :
    LoopR (fun ag s => palinoderef06_Right_l10 (l, g) (cntL 10 (grpL l)) ag s ((List.range g.toNat).all fun (j : Nat) => decide ((grpL l).count ((j : Int) + 1) = 1))) 1 := by
  refine loop_ (fun st m => ∃ k : Nat, k ≤ g.toNat ∧ g.toNat - k = m ∧ st = (k : Int) + 1 ∧ ∀ j, j < k → (grpL l).count ((j : Int) + 1) = 1) _ ⟨0, by omega, rfl, rfl, fun j hj => by omega⟩ ?_
  rintro st m ⟨k, hk, rfl, rfl, hall⟩
  unfold palinoderef06_Right_l10
  simp only
  refine split_ (fun h => ?_) fun h => ?_
  · have hc : (cntL 10 (grpL l))[((k : Int) + 1).toNat]? = some (((grpL l).count ((k : Int) + 1) : Nat) : Int) := by
      rw [cnt_at (by omega), show ((((k : Int) + 1).toNat : Nat) : Int) = (k : Int) + 1 by omega]
    refine ⟨by omega, _, hc, split_ (fun h1 => ?_) fun h1 => inR_ (by omega) ⟨g.toNat - (k + 1), by omega, k + 1, by omega, rfl, by omega, fun j hj => ?_⟩⟩
    · rw [Bool.eq_false_iff]
      intro hc
      have := of_decide_eq_true (List.all_eq_true.1 hc k (List.mem_range.2 (by omega)))
      exact h1 (by rw [this]; rfl)
    · rcases Nat.lt_or_ge j k with h2 | h2
      · exact hall j h2
      · obtain rfl : j = k := by omega
        have h3 := Decidable.of_not_not h1
        omega
  · exact List.all_eq_true.2 fun j hj => decide_eq_true (hall j (by have := List.mem_range.1 hj; omega))
theorem rright_l9 (l : List ND) (g : Int) (hl : 1 ≤ l.length) (hl2 : l.length ≤ 1000) (hg0 : 0 ≤ g) (hg : g ≤ 9) :
    LoopR (fun ag s => palinoderef06_Right_l9 (l, g) (cntL l.length (usesL l)) (cntL 10 (grpL l)) ag s (((List.range (l.length - 1)).all fun (j : Nat) => decide ((usesL l).count (j : Int) = 1)) && ((List.range g.toNat).all fun (j : Nat) => decide ((grpL l).count ((j : Int) + 1) = 1)))) 0 := by
  refine loop_ (fun st m => ∃ k : Nat, k ≤ l.length - 1 ∧ l.length - 1 - k = m ∧ st = (k : Int) ∧ ∀ j, j < k → (usesL l).count (j : Int) = 1) _ ⟨0, by omega, rfl, rfl, fun j hj => by omega⟩ ?_
  rintro st m ⟨k, hk, rfl, rfl, hall⟩
  unfold palinoderef06_Right_l9
  simp only
  refine inR_ (by omega) (split_ (fun h => ?_) fun h => ?_)
  · have hx : (cntL l.length (usesL l))[(k : Int).toNat]? = some (((usesL l).count (k : Int) : Nat) : Int) := by
      rw [Int.toNat_natCast, cnt_at (by omega)]
    refine ⟨by omega, _, hx, split_ (fun h1 => ?_) fun h1 => inR_ (by omega) ⟨l.length - 1 - (k + 1), by omega, k + 1, by omega, rfl, by simp, fun j hj => ?_⟩⟩
    · rw [Bool.eq_false_iff]
      intro hc
      rw [Bool.and_eq_true] at hc
      have := of_decide_eq_true (List.all_eq_true.1 hc.1 k (List.mem_range.2 (by omega)))
      exact h1 (by rw [this]; rfl)
    · rcases Nat.lt_or_ge j k with h2 | h2
      · exact hall j h2
      · obtain rfl : j = k := by omega
        have h3 := Decidable.of_not_not h1
        omega
  · have e : ((List.range (l.length - 1)).all fun (j : Nat) => decide ((usesL l).count (j : Int) = 1)) = true := List.all_eq_true.2 fun j hj => decide_eq_true (hall j (by have := List.mem_range.1 hj; omega))
    rw [e, Bool.true_and]
    exact rright_l10 l g hg0 hg
theorem rright_ok (l : List ND) (g : Int) : palinoderef06_Right_R (l, g) (rightB l g) := by
  show palinoderef06_Right_j1 (l, g) _ _
  refine split_ (fun h => ?_) fun h => ?_
  · simp only [Bool.or_eq_true, decide_eq_true_eq] at h
    unfold rightB
    rcases h with h | h | h | h
    · have : ¬ 1 ≤ l.length := by omega
      simp [this]
    · have : ¬ l.length ≤ 1000 := by omega
      simp [this]
    · have : ¬ 0 ≤ g := by omega
      simp [this]
    · have : ¬ g ≤ 9 := by omega
      simp [this]
  simp only [Bool.or_eq_true, decide_eq_true_eq, not_or] at h
  obtain ⟨q1, q2, q3, q4⟩ := h
  have hl : 1 ≤ l.length := by omega
  have hl2 : l.length ≤ 1000 := by omega
  have hg0 : 0 ≤ g := by omega
  have hg : g ≤ 9 := by omega
  have hR : rightB l g = (nodesB l g && (((List.range (l.length - 1)).all fun (j : Nat) => decide ((usesL l).count (j : Int) = 1)) && ((List.range g.toNat).all fun (j : Nat) => decide ((grpL l).count ((j : Int) + 1) = 1)))) := by
    unfold rightB
    rw [decide_eq_true hl, decide_eq_true hl2, decide_eq_true hg0, decide_eq_true hg]
    simp only [Bool.true_and, Bool.and_assoc]
  refine loop_ (fun (st : Int) m => ∃ k : Nat, k ≤ l.length ∧ l.length - k = m ∧ st = (k : Int) ∧ ∀ (i : Nat) x, i < k → l[i]? = some x → isNodeB x i g = true) l.length ⟨0, by omega, by omega, rfl, fun i x hi => by omega⟩ ?_
  rintro _ m ⟨k, hk, rfl, rfl, hall⟩
  unfold palinoderef06_Right_l2
  simp only
  refine split_ (fun h => ?_) fun h => ?_
  · refine at_ (by omega) h fun x hx => ⟨_, may_ok x (k : Int) g, ?_⟩
    rw [Int.toNat_natCast] at hx
    refine split_ (fun hb => ?_) fun hb => ?_
    · rw [hR, nodes_not hx (by simpa using hb)]; rfl
    · have hb : isNodeB x k g = true := Decidable.of_not_not hb
      refine inR_ (by omega) ⟨l.length - (k + 1), by omega, k + 1, by omega, rfl, rfl, fun i y hi hy => ?_⟩
      rcases Nat.lt_or_ge i k with h3 | h3
      · exact hall i y h3 hy
      · obtain rfl : i = k := by omega
        rw [hx] at hy
        obtain rfl := Option.some.inj hy
        exact hb
  · obtain rfl : k = l.length := by omega
    have hn : nodesB l g = true := nodes_all fun i x hx => hall i x (List.getElem?_eq_some_iff.1 hx).1 hx
    rw [hR, hn, Bool.true_and]
    refine ⟨by unfold MakeOk; omega, by decide, ?_⟩
    have e0 : ∀ n : Nat, (List.replicate n 0 : List Int) = cntL n [] := fun n => by
      apply List.ext_getElem?
      intro i
      rcases Nat.lt_or_ge i n with hi | hi
      · rw [cnt_at hi, List.getElem?_replicate, if_pos hi]; rfl
      · rw [List.getElem?_eq_none (by simpa using hi), List.getElem?_eq_none (by rw [cnt_len]; omega)]
    rw [Int.toNat_natCast, e0, e0]
    refine loop_ (fun (st : Int × List Int × List Int) m => ∃ k : Nat, k ≤ l.length ∧ l.length - k = m ∧ st = ((k : Int), cntL l.length (usesL (l.take k)), cntL 10 (grpL (l.take k)))) l.length ⟨0, by omega, by omega, rfl⟩ ?_
    rintro _ m ⟨k, hk, rfl, rfl⟩
    unfold palinoderef06_Right_l3
    simp only
    refine split_ (fun h => ?_) fun h => ?_
    · refine at_ (by omega) h fun x hx => ?_
      rw [Int.toNat_natCast] at hx
      have hkl : k < l.length := by omega
      have hb := nodes_at hn hx
      obtain ⟨hp, h5⟩ := node_parts hb
      have hul := uses_len (l.take k)
      have hgl := grp_len (l.take k)
      rw [List.length_take] at hul hgl
      have j7 : ∀ L, L = usesL (l.take (k + 1)) → palinoderef06_Right_j7 x (cntL 10 (grpL (l.take k))) (k : Int) (fun s' => ∃ m', m' < l.length - k ∧ ∃ k : Nat, k ≤ l.length ∧ l.length - k = m' ∧ s' = ((k : Int), cntL l.length (usesL (l.take k)), cntL 10 (grpL (l.take k)))) (cntL l.length L)
          (((List.range (l.length - 1)).all fun (j : Nat) => decide ((usesL l).count (j : Int) = 1)) && ((List.range g.toNat).all fun (j : Nat) => decide ((grpL l).count ((j : Int) + 1) = 1))) := by
        rintro L rfl
        refine split_ (fun h6 => ?_) fun h6 => ?_
        · obtain ⟨g1, g2⟩ := h5 h6
          refine cnt_add (n := 10) (p := grpL (l.take k)) (z := x.2.2.2.2.2.1) (by omega) (by omega) (by omega) fun e => ?_
          rw [e]
          refine inR_ (by omega) ⟨l.length - (k + 1), by omega, k + 1, by omega, rfl, ?_⟩
          rw [grp_snoc hx, if_pos h6]; rfl
        · refine inR_ (by omega) ⟨l.length - (k + 1), by omega, k + 1, by omega, rfl, ?_⟩
          rw [grp_snoc hx, if_neg h6, List.append_nil]; rfl
      have hus := uses_snoc hx
      unfold palinoderef06_Right_j6
      refine split_ (fun h6 => ?_) fun h6 => ?_
      · simp only [Bool.and_eq_true, decide_eq_true_eq] at h6
        have hA := hp x.2.1 (parts1 (by omega))
        refine cnt_add (n := l.length) (p := usesL (l.take k)) hA.1 (by omega) (by omega) fun e => ?_
        rw [e]
        unfold palinoderef06_Right_j5 palinoderef06_Right_j8
        refine split_ (fun h7 => ?_) fun h7 => ?_
        · simp only [Bool.or_eq_true, decide_eq_true_eq] at h7
          have hB := hp x.2.2.1 (parts2 h7)
          refine cnt_add (n := l.length) (p := usesL (l.take k) ++ [x.2.1]) hB.1 (by omega) (by simp only [List.length_append, List.length_cons, List.length_nil]; omega) fun e => ?_
          rw [e]
          refine j7 _ ?_
          rw [hus, partsL, if_pos h7, List.append_assoc]; rfl
        · simp only [Bool.or_eq_true, decide_eq_true_eq] at h7
          refine j7 _ ?_
          rw [hus, partsL, if_neg h7, if_pos (by omega)]
      · simp only [Bool.and_eq_true, decide_eq_true_eq] at h6
        unfold palinoderef06_Right_j5 palinoderef06_Right_j8
        refine split_ (fun h7 => ?_) fun h7 => ?_
        · simp only [Bool.or_eq_true, decide_eq_true_eq] at h7; omega
        · simp only [Bool.or_eq_true, decide_eq_true_eq] at h7
          refine j7 _ ?_
          rw [hus, partsL, if_neg h7, if_neg (by omega), List.append_nil]
    · obtain rfl : k = l.length := by omega
      rw [List.take_length]
      exact rright_l9 l g hl hl2 hg0 hg
end Go.Proofs.Ytfhakeapepafbaa
