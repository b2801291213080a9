/- The whole of Right, in plain terms. -/
import Derived.Test.YtpddiffpanihdaaTrR
namespace Go.Proofs.Ytpddiffpanihdaa
def usesL (l : List ND) : List Int := l.flatMap partsL
def grpL (l : List ND) : List Int := l.flatMap fun n => if n.1 = 5 then [n.2.2.2.2.2.1] else []
def cntL (n : Nat) (p : List Int) : List Int := (List.range n).map fun (j : Nat) => ((p.count (j : Int) : Nat) : Int)
def arrT (q : List Int) : Arr 10 Int := ⟨cntL 10 q, by simp [cntL]⟩
def nodesB (l : List ND) (g : Int) : Bool := (List.range l.length).all fun (i : Nat) => match l[i]? with | some x => isNodeB x i g | none => true
def rightB (l : List ND) (g : Int) : Bool :=
  decide (1 ≤ l.length) && decide (l.length ≤ 1000) && decide (0 ≤ g) && decide (g ≤ 9) && nodesB l g && ((List.range (l.length - 1)).all fun (j : Nat) => decide ((usesL l).count (j : Int) = 1))
    && ((List.range g.toNat).all fun (j : Nat) => decide ((grpL l).count ((j : Int) + 1) = 1))
theorem cnt_len (n : Nat) (p : List Int) : (cntL n p).length = n := by simp [cntL]
theorem cnt_at {n : Nat} {p : List Int} {i : Nat} (h : i < n) : (cntL n p)[i]? = some ((p.count (i : Int) : Nat) : Int) := by
  unfold cntL
  rw [List.getElem?_map, List.getElem?_range h]; rfl
theorem cnt_set {n : Nat} {p : List Int} {z : Int} (h0 : 0 ≤ z) (h1 : z < n) : (cntL n p).set z.toNat (((p.count z : Nat) : Int) + 1) = cntL n (p ++ [z]) := by
  apply List.ext_getElem?
  intro i
  rw [List.getElem?_set, cnt_len]
  rcases Nat.lt_or_ge i n with hi | hi
  · rw [cnt_at hi, cnt_at hi]
    split
    · rename_i e
      subst e
      rw [if_pos (by omega), Int.toNat_of_nonneg h0, List.count_append, List.count_singleton_self]; rfl
    · rename_i e
      rw [List.count_append, List.count_singleton, if_neg (by simp; omega)]; rfl
  · rw [List.getElem?_eq_none (by rw [cnt_len]; omega), List.getElem?_eq_none (by rw [cnt_len]; omega)]
    split
    · rw [if_neg (by omega)]
    · rfl
theorem arr_set {q : List Int} {z : Int} (h0 : 0 ≤ z) (h1 : z < 10) : Arr.set (arrT q) z.toNat (((q.count z : Nat) : Int) + 1) = arrT (q ++ [z]) := Arr.ext (cnt_set (n := 10) h0 (by omega))
theorem uses_snoc {l : List ND} {k : Nat} {x : ND} (h : l[k]? = some x) : usesL (l.take (k + 1)) = usesL (l.take k) ++ partsL x := by
  unfold usesL
  rw [List.take_add_one, h, List.flatMap_append]; simp
theorem grp_snoc {l : List ND} {k : Nat} {x : ND} (h : l[k]? = some x) : grpL (l.take (k + 1)) = grpL (l.take k) ++ (if x.1 = 5 then [x.2.2.2.2.2.1] else []) := by
  unfold grpL
  rw [List.take_add_one, h, List.flatMap_append]; simp
theorem uses_len : ∀ l : List ND, (usesL l).length ≤ 2 * l.length
  | [] => by simp [usesL]
  | x :: l => by
    have h1 := uses_len l
    have h2 := parts_len x
    unfold usesL at h1 ⊢
    rw [List.flatMap_cons, List.length_append, List.length_cons]; omega
theorem grp_len : ∀ l : List ND, (grpL l).length ≤ l.length
  | [] => by simp [grpL]
  | x :: l => by
    have h1 := grp_len l
    unfold grpL at h1 ⊢
    rw [List.flatMap_cons, List.length_append, List.length_cons]
    generalize (List.flatMap (fun n : ND => if n.1 = 5 then [n.2.2.2.2.2.1] else []) l).length = q at *
    split <;> simp <;> omega
theorem nodes_at {l : List ND} {g : Int} (h : nodesB l g = true) {i : Nat} {x : ND} (hx : l[i]? = some x) : isNodeB x i g = true := by
  have := List.all_eq_true.1 h i (List.mem_range.2 (List.getElem?_eq_some_iff.1 hx).1)
  rw [hx] at this; exact this
theorem nodes_not {l : List ND} {g : Int} {i : Nat} {x : ND} (hx : l[i]? = some x) (h : isNodeB x i g = false) : nodesB l g = false := by
  rw [Bool.eq_false_iff]
  intro hn
  rw [nodes_at hn hx] at h; cases h
theorem nodes_all {l : List ND} {g : Int} (h : ∀ (i : Nat) x, l[i]? = some x → isNodeB x i g = true) : nodesB l g = true := by
  refine List.all_eq_true.2 fun i hi => ?_
  cases hx : l[i]? with
  | none => rfl
  | some x => exact h i x hx
set_option synthInstance.maxSize 4000 in
theorem node_parts {x : ND} {a g : Int} (h : isNodeB x a g = true) : (∀ k ∈ partsL x, 0 ≤ k ∧ k < a) ∧ (x.1 = 5 → 1 ≤ x.2.2.2.2.2.1 ∧ x.2.2.2.2.2.1 ≤ g) := by
  unfold isNodeB at h
  simp only [Bool.and_eq_true, Bool.or_eq_true, List.all_eq_true, decide_eq_true_eq, Bool.not_eq_true', decide_eq_false_iff_not] at h
  obtain ⟨⟨⟨_, h1⟩, _⟩, h2⟩ := h
  exact ⟨h1, fun h5 => h2.resolve_left fun hn => hn (.inl h5)⟩
theorem right_l5 (l : List ND) (g : Int) (hg0 : 0 ≤ g) (hg : g ≤ 9) :
    LoopR (fun ag5 s => tree_Right_l5 (l, g) (arrT (grpL l)) ag5 s ((List.range g.toNat).all fun (j : Nat) => decide ((grpL l).count ((j : Int) + 1) = 1))) 0 := by
  refine loop_ (fun st m => ∃ k : Nat, k ≤ g.toNat ∧ m = g.toNat - k ∧ st = (k : Int) ∧ ∀ j, j < k → (grpL l).count ((j : Int) + 1) = 1) _ ⟨0, by omega, rfl, rfl, fun j hj => by omega⟩ ?_
  rintro st m ⟨k, hk, rfl, rfl, hall⟩
  refine split_ (fun h => ?_) fun h => ?_
  · simp only at h
    have hkg : k < g.toNat := by omega
    have hc : (arrT (grpL l)).l[((((1 : Int).toNat + (k : Int).toNat : Nat) : Int)).toNat]? = some (((grpL l).count ((((1 : Int).toNat + (k : Int).toNat : Nat) : Int).toNat : Int) : Nat) : Int) := by
      show (cntL 10 (grpL l))[_]? = some _
      rw [cnt_at (by omega)]
    refine ⟨⟨by omega, h⟩, _, hc, split_ (fun h1 => ?_) fun h1 => inR_ (by omega) ⟨g.toNat - (k + 1), by omega, k + 1, by omega, rfl, by simp, fun j hj => ?_⟩⟩
    · rw [Bool.eq_false_iff]
      intro hc
      have := of_decide_eq_true (List.all_eq_true.1 hc k (List.mem_range.2 hkg))
      apply h1
      have e : ((((1 : Int).toNat + (k : Int).toNat : Nat) : Int).toNat : Int) = (k : Int) + 1 := by omega
      rw [e, this]; rfl
    · rcases Nat.lt_or_ge j k with h2 | h2
      · exact hall j h2
      · obtain rfl : j = k := by omega
        have h3 := Decidable.of_not_not h1
        have e : ((((1 : Int).toNat + (j : Int).toNat : Nat) : Int).toNat : Int) = (j : Int) + 1 := by omega
        rw [e] at h3
        omega
  · simp only at h
    exact List.all_eq_true.2 fun j hj => decide_eq_true (hall j (by have := List.mem_range.1 hj; omega))
theorem right_l4 (l : List ND) (g : Int) (hl : 1 ≤ l.length) (hl2 : l.length ≤ 1000) (hg0 : 0 ≤ g) (hg : g ≤ 9) :
    LoopR (fun ag4 s => tree_Right_l4 (cntL l.length (usesL l)) (l, g) (arrT (grpL l)) ag4 s (((List.range (l.length - 1)).all fun (j : Nat) => decide ((usesL l).count (j : Int) = 1)) && ((List.range g.toNat).all fun (j : Nat) => decide ((grpL l).count ((j : Int) + 1) = 1)))) 0 := by
  refine loop_ (fun st m => ∃ k : Nat, k ≤ l.length - 1 ∧ m = l.length - 1 - k ∧ st = (k : Int) ∧ ∀ j, j < k → (usesL l).count (j : Int) = 1) _ ⟨0, by omega, rfl, rfl, fun j hj => by omega⟩ ?_
  rintro st m ⟨k, hk, rfl, rfl, hall⟩
  have hlen : ((cntL l.length (usesL l)).take ((((l, g).1.length : Int) - 1) : Int).toNat).length = l.length - 1 := by
    rw [List.length_take, cnt_len]; simp only; omega
  refine split_ (fun h => ?_) fun h => ?_
  · rw [hlen] at h
    have hx : ((cntL l.length (usesL l)).take ((((l, g).1.length : Int) - 1) : Int).toNat)[(k : Int).toNat]? = some (((usesL l).count (k : Int) : Nat) : Int) := by
      rw [Int.toNat_natCast, List.getElem?_take, if_pos (by simp only; omega), cnt_at (by omega)]
    refine ⟨by omega, _, hx, split_ (fun h1 => ?_) fun h1 => inR_ (by omega) ⟨l.length - 1 - (k + 1), by omega, k + 1, by omega, rfl, by simp, fun j hj => ?_⟩⟩
    · rw [Bool.eq_false_iff]
      intro hc
      rw [Bool.and_eq_true] at hc
      have := of_decide_eq_true (List.all_eq_true.1 hc.1 k (List.mem_range.2 (by omega)))
      apply h1
      rw [this]; rfl
    · rcases Nat.lt_or_ge j k with h2 | h2
      · exact hall j h2
      · obtain rfl : j = k := by omega
        have h3 := Decidable.of_not_not h1
        omega
  · rw [hlen] at h
    have e : ((List.range (l.length - 1)).all fun (j : Nat) => decide ((usesL l).count (j : Int) = 1)) = true := List.all_eq_true.2 fun j hj => decide_eq_true (hall j (by have := List.mem_range.1 hj; omega))
    rw [e, Bool.true_and]
    exact inR_ (by omega) ⟨by omega, by simp only; omega, ⟨by simp only; omega, by simp only; omega, by decide⟩, right_l5 l g hg0 hg⟩
theorem right_ok (l : List ND) (g : Int) : tree_Right_R (l, g) (rightB l g) := by
  show tree_Right_j1 (l, g) _ _
  refine split_ (fun h => ?_) fun h => ?_
  · simp only [Bool.or_eq_true, decide_eq_true_eq] at h
    unfold rightB
    rcases h with h | h | h | h
    · have : ¬ 1 ≤ l.length := by omega
      simp [this]
    · have : ¬ l.length ≤ 1000 := by omega
      simp [this]
    · have : ¬ 0 ≤ g := by omega
      simp [this]
    · have : ¬ g ≤ 9 := by omega
      simp [this]
  simp only [Bool.or_eq_true, decide_eq_true_eq, not_or] at h
  obtain ⟨q1, q2, q3, q4⟩ := h
  have hl : 1 ≤ l.length := by omega
  have hl2 : l.length ≤ 1000 := by omega
  have hg0 : 0 ≤ g := by omega
  have hg : g ≤ 9 := by omega
  have hR : rightB l g = (nodesB l g && (((List.range (l.length - 1)).all fun (j : Nat) => decide ((usesL l).count (j : Int) = 1)) && ((List.range g.toNat).all fun (j : Nat) => decide ((grpL l).count ((j : Int) + 1) = 1)))) := by
    unfold rightB
    rw [decide_eq_true hl, decide_eq_true hl2, decide_eq_true hg0, decide_eq_true hg]
    simp only [Bool.true_and, Bool.and_assoc]
  refine ⟨⟨by omega, by omega, by simp only; omega, by simp only; omega⟩, ?_⟩
  refine loop_ (fun (st : Int × List Int × Arr 10 Int) m => ∃ k : Nat, k ≤ l.length ∧ m = l.length - k ∧ st = ((k : Int), cntL l.length (usesL (l.take k)), arrT (grpL (l.take k))) ∧ ∀ (i : Nat) x, i < k → l[i]? = some x → isNodeB x i g = true) l.length ⟨0, by omega, rfl, ?_, fun i x hi => by omega⟩ ?_
  · have e1 : (List.replicate (((l, g).1.length : Int) : Int).toNat 0 : List Int) = cntL l.length (usesL (l.take 0)) := by
      apply List.ext_getElem?
      intro i
      rcases Nat.lt_or_ge i l.length with hi | hi
      · rw [cnt_at hi, List.getElem?_replicate, if_pos (by simpa using hi)]
        simp [usesL]
      · rw [List.getElem?_eq_none (by simpa using hi), List.getElem?_eq_none (by rw [cnt_len]; omega)]
    have e2 : (Arr.rep 10 0 : Arr 10 Int) = arrT (grpL (l.take 0)) := by
      apply Arr.ext
      rw [List.take_zero]
      rfl
    rw [e1, e2]; rfl
  rintro _ m ⟨k, hk, rfl, rfl, hall⟩
  show tree_Right_l2 (l, g) _ (k : Int) (cntL l.length (usesL (l.take k))) (arrT (grpL (l.take k))) (rightB l g)
  refine split_ (fun h => ?_) fun h => ?_
  · simp only at h
    have hkl : k < l.length := by omega
    refine at_ (by omega) (by simp only; omega) fun x hx => ?_
    rw [Int.toNat_natCast] at hx
    simp only at hx
    refine ⟨_, isNode_ok x (k : Int) g, split_ (fun hb => ?_) fun hb => ?_⟩
    · rw [hR, nodes_not hx (by simpa using hb)]; rfl
    · have hb : isNodeB x k g = true := Decidable.of_not_not hb
      obtain ⟨hp, h5⟩ := node_parts hb
      refine ⟨_, parts_ok x, ?_⟩
      refine loop_ (fun (st : Int × List Int) m => ∃ i : Nat, i ≤ (partsL x).length ∧ m = (partsL x).length - i ∧ st = ((i : Int), cntL l.length (usesL (l.take k) ++ (partsL x).take i))) (partsL x).length ⟨0, by omega, rfl, by simp⟩ ?_
      rintro _ m ⟨i, hi, rfl, rfl⟩
      show tree_Right_l3 (partsL x) x (arrT (grpL (l.take k))) (k : Int) _ _ (i : Int) (cntL l.length (usesL (l.take k) ++ (partsL x).take i)) (rightB l g)
      have hul := uses_len (l.take k)
      rw [List.length_take] at hul
      have hpl := parts_len x
      refine split_ (fun h1 => ?_) fun h1 => ?_
      · refine at_ (by omega) (by omega) fun z hz => ?_
        rw [Int.toNat_natCast] at hz
        obtain ⟨z0, z1⟩ := hp z (List.mem_of_getElem? hz)
        have hc : (cntL l.length (usesL (l.take k) ++ (partsL x).take i))[z.toNat]? = some (((usesL (l.take k) ++ (partsL x).take i).count z : Nat) : Int) := by
          rw [cnt_at (by omega), Int.toNat_of_nonneg z0]
        have hcl : (usesL (l.take k) ++ (partsL x).take i).count z ≤ (usesL (l.take k) ++ (partsL x).take i).length := List.count_le_length
        rw [List.length_append, List.length_take] at hcl
        refine ⟨z0, _, hc, inR_ (by omega) ⟨z0, _, hc, inR_ (by omega) ⟨(partsL x).length - (i + 1), by omega, i + 1, by omega, rfl, ?_⟩⟩⟩
        rw [cnt_set z0 (by omega), List.take_add_one, hz]
        simp
      · have hi' : i = (partsL x).length := by omega
        have e1 : cntL l.length (usesL (l.take k) ++ (partsL x).take i) = cntL l.length (usesL (l.take (k + 1))) := by
          rw [uses_snoc hx, hi', List.take_length]
        have hgl := grp_len (l.take k)
        rw [List.length_take] at hgl
        have hnext : ∀ (i : Nat) y, i < k + 1 → l[i]? = some y → isNodeB y i g = true := fun i y hi hy => by
          rcases Nat.lt_or_ge i k with h3 | h3
          · exact hall i y h3 hy
          · obtain rfl : i = k := by omega
            rw [hx] at hy
            obtain rfl := Option.some.inj hy
            exact hb
        refine split_ (fun h6 => ?_) fun h6 => ?_
        · obtain ⟨g1, g2⟩ := h5 h6
          have hc : (arrT (grpL (l.take k))).l[x.2.2.2.2.2.1.toNat]? = some (((grpL (l.take k)).count x.2.2.2.2.2.1 : Nat) : Int) := by
            show (cntL 10 _)[_]? = _
            rw [cnt_at (by omega), Int.toNat_of_nonneg (by omega)]
          have hcl : (grpL (l.take k)).count x.2.2.2.2.2.1 ≤ (grpL (l.take k)).length := List.count_le_length
          refine ⟨⟨by omega, by omega⟩, _, hc, inR_ (by omega) ⟨⟨by omega, by omega⟩, _, hc, inR_ (by omega) ⟨l.length - (k + 1), by omega, k + 1, by omega, rfl, ?_, hnext⟩⟩⟩
          rw [e1, arr_set (by omega) (by omega), grp_snoc hx, if_pos h6]; rfl
        · refine inR_ (by omega) ⟨l.length - (k + 1), by omega, k + 1, by omega, rfl, ?_, hnext⟩
          rw [e1, grp_snoc hx, if_neg h6, List.append_nil]; rfl
  · simp only at h
    obtain rfl : k = l.length := by omega
    have hN : nodesB l g = true := nodes_all fun i x hx => hall i x (List.getElem?_eq_some_iff.1 hx).1 hx
    rw [hR, hN, Bool.true_and, List.take_length]
    refine inR_ (by simp only; omega) ⟨⟨by simp only; omega, by rw [cnt_len]; simp only; omega⟩, right_l4 l g hl hl2 hg0 hg⟩
end Go.Proofs.Ytpddiffpanihdaa
