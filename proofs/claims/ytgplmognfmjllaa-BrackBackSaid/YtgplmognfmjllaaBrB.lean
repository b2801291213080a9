/- A set's bracket expression: what it is, and that it is read as it. -/
import Derived.Test.YtgplmognfmjllaaBrC
namespace Go.Proofs.Ytgplmognfmjllaa
def tx (c : UInt8) : List UInt8 := if c.toNat = 10 then [92, 110] else [c]
def spc (c : UInt8) : Bool := decide (c.toNat = 93) || (decide (c.toNat = 91) || (decide (c.toNat = 92) || (decide (c.toNat = 94) || decide (c.toNat = 45))))
def txm (c : UInt8) : List UInt8 := if spc c = true then [] else tx c
def hasS (s : SetT) (c : UInt8) : Bool := memS s c.toNat
def heads (s : SetT) : List UInt8 := if hasS s 93 = true then [93] else []
def midT (s : SetT) : List UInt8 := (upTo s 256).flatMap txm
def tailL (b : Bool) : List UInt8 := if b = true then [45, 94] else [91, 92, 94, 45]
def alone (neg : Bool) (s : SetT) : Bool := decide (neg = false ∧ heads s ++ midT s = [] ∧ hasS s 91 = false ∧ hasS s 92 = false)
def preT (neg : Bool) : List UInt8 := if neg = true then [91, 94] else [91]
def textS (neg : Bool) (s : SetT) : List UInt8 := preT neg ++ (heads s ++ midT s) ++ (tailL (alone neg s)).filter (hasS s) ++ [93]
def negS (s : SetT) : Bool := decide ((upTo s 256).length = 0 ∨ (128 < (upTo s 256).length ∧ (upTo s 256).length < 256) ∨ s = ofS [94])
def textOf (s : SetT) : List UInt8 := if negS s = true then textS true (notS s) else textS false s
theorem tx_len (c : UInt8) : (tx c).length ≤ 2 ∧ 1 ≤ (tx c).length := by unfold tx; split <;> simp
theorem txm_len (c : UInt8) : (txm c).length ≤ 2 := by
  unfold txm
  split
  · simp
  · exact (tx_len c).1
theorem midT_len (l : List UInt8) : (l.flatMap txm).length ≤ 2 * l.length := by
  induction l with
  | nil => simp
  | cons c l ih => rw [List.flatMap_cons, List.length_append, List.length_cons]; have := txm_len c; omega
theorem tail_ok (s : SetT) (o : List UInt8) (b : Bool) (ho : o.length ≤ 10000) : brack_Text_j6 s o (tailL b) (o ++ (tailL b).filter (hasS s) ++ [93]) := by
  have htl : (tailL b).length ≤ 4 := by unfold tailL; split <;> simp
  refine loop_ (fun (st : List UInt8 × Int) m => ∃ k : Nat, k ≤ (tailL b).length ∧ m = (tailL b).length - k ∧ st = (o ++ ((tailL b).take k).filter (hasS s), (k : Int))) _ ⟨0, by omega, rfl, by simp⟩ ?_
  rintro _ m ⟨k, hk, rfl, rfl⟩
  show brack_Text_l8 (tailL b) s _ (o ++ ((tailL b).take k).filter (hasS s)) (k : Int) _
  have hfl : (((tailL b).take k).filter (hasS s)).length ≤ 4 := Nat.le_trans (List.length_filter_le _ _) (by rw [List.length_take]; omega)
  refine split_ (fun h => at_ (by omega) (by omega) fun c hc => ⟨_, has_ok s c, ?_⟩) fun h => ?_
  · rw [Int.toNat_natCast] at hc
    have ht : (tailL b).take (k + 1) = (tailL b).take k ++ [c] := by rw [List.take_add_one, hc]; rfl
    refine split_ (fun h2 => room_ (by rw [List.length_append, List.length_singleton]; omega) (by omega) (inR_ (by omega) ⟨(tailL b).length - (k + 1), by omega, k + 1, by omega, rfl, ?_⟩)) fun h2 => inR_ (by omega) ⟨(tailL b).length - (k + 1), by omega, k + 1, by omega, rfl, ?_⟩
    · rw [ht, List.filter_append, List.filter_cons_of_pos (show hasS s c = true from h2), List.filter_nil, List.append_assoc]; rfl
    · rw [ht, List.filter_append, List.filter_cons_of_neg (show ¬ hasS s c = true from h2), List.filter_nil, List.append_nil]; rfl
  · rw [List.take_of_length_le (by omega)] at hfl ⊢
    exact room_ (by rw [List.length_append, List.length_singleton]; omega) (by omega) rfl
theorem mid_ok (s : SetT) (neg : Bool) : brack_Text_j3 s (preT neg ++ heads s) (textS neg s) := by
  have hul := upTo_len s 256
  have hol : (preT neg ++ heads s).length ≤ 3 := by
    unfold preT heads
    rw [List.length_append]
    split <;> split <;> simp
  refine ⟨_, bytes_ok s, ?_⟩
  refine loop_ (fun (st : List UInt8 × Int) m => ∃ k : Nat, k ≤ (upTo s 256).length ∧ m = (upTo s 256).length - k ∧ st = (preT neg ++ heads s ++ ((upTo s 256).take k).flatMap txm, (k : Int))) _ ⟨0, by omega, rfl, by simp⟩ ?_
  rintro _ m ⟨k, hk, rfl, rfl⟩
  show brack_Text_l4 (upTo s 256) s _ (preT neg ++ heads s ++ ((upTo s 256).take k).flatMap txm) (k : Int) _
  have hml := midT_len ((upTo s 256).take k)
  rw [List.length_take] at hml
  refine split_ (fun h => at_ (by omega) (by omega) fun c hc => ?_) fun h => ?_
  · rw [Int.toNat_natCast] at hc
    have ht : ((upTo s 256).take (k + 1)).flatMap txm = ((upTo s 256).take k).flatMap txm ++ txm c := by rw [List.take_add_one, hc, List.flatMap_append]; simp
    have key : ∀ z : Bool, (z = spc c) → brack_Text_j5 (k : Int) (fun s' => ∃ m', m' < (upTo s 256).length - k ∧ ∃ k : Nat, k ≤ (upTo s 256).length ∧ m' = (upTo s 256).length - k ∧ s' = (preT neg ++ heads s ++ ((upTo s 256).take k).flatMap txm, (k : Int))) (preT neg ++ heads s ++ ((upTo s 256).take k).flatMap txm) c z (textS neg s) := by
      intro z hz
      refine split_ (fun h2 => inR_ (by omega) ⟨(upTo s 256).length - (k + 1), by omega, k + 1, by omega, rfl, ?_⟩) fun h2 => split_ (fun h3 => room_ (by rw [List.length_append]; simp only [List.length_cons, List.length_nil]; omega) (by omega) (inR_ (by omega) ⟨(upTo s 256).length - (k + 1), by omega, k + 1, by omega, rfl, ?_⟩)) fun h3 => room_ (by rw [List.length_append]; simp only [List.length_cons, List.length_nil]; omega) (by omega) (inR_ (by omega) ⟨(upTo s 256).length - (k + 1), by omega, k + 1, by omega, rfl, ?_⟩)
      · rw [ht, show txm c = [] from by unfold txm; rw [if_pos (by rw [← hz]; exact h2)], List.append_nil]; rfl
      · rw [ht, show txm c = [92, 110] from by unfold txm tx; rw [if_neg (by rw [← hz]; exact h2), if_pos (by omega)], List.append_assoc]; rfl
      · rw [ht, show txm c = [c] from by unfold txm tx; rw [if_neg (by rw [← hz]; exact h2), if_neg (by omega)], List.append_assoc]; rfl
    have sp : ∀ v : Nat, c.toNat = v → (v = 93 ∨ v = 91 ∨ v = 92 ∨ v = 94 ∨ v = 45) → spc c = true := fun v h1 h2 => by
      unfold spc
      simp only [Bool.or_eq_true, decide_eq_true_eq]
      omega
    refine split_ (fun h1 => key _ (by rw [decide_eq_true h1, sp 93 (by omega) (by omega)])) fun h1 => split_ (fun h2 => key _ (by rw [decide_eq_true h2, sp 91 (by omega) (by omega)])) fun h2 => split_ (fun h3 => key _ (by rw [decide_eq_true h3, sp 92 (by omega) (by omega)])) fun h3 => split_ (fun h4 => key _ (by rw [decide_eq_true h4, sp 94 (by omega) (by omega)])) fun h4 => key _ ?_
    unfold spc
    rw [decide_eq_false (show ¬ c.toNat = 93 by omega), decide_eq_false (show ¬ c.toNat = 91 by omega), decide_eq_false (show ¬ c.toNat = 92 by omega), decide_eq_false (show ¬ c.toNat = 94 by omega)]
    simp only [Bool.false_or]
    rw [decide_eq_decide]; omega
  · rw [List.take_of_length_le (by omega)] at hml ⊢
    have hj : ∀ b, b = alone neg s → brack_Text_j7 s (preT neg ++ heads s ++ midT s) b (textS neg s) := fun b hb => by
      have := tail_ok s (preT neg ++ heads s ++ midT s) b (by rw [List.length_append]; unfold midT; omega)
      have hts : textS neg s = preT neg ++ heads s ++ midT s ++ (tailL b).filter (hasS s) ++ [93] := by unfold textS; rw [hb, ← List.append_assoc (preT neg)]
      rw [← hts] at this
      refine split_ (fun h => ?_) fun h => ?_
      · rw [h] at this; exact this
      · rw [show b = false from by simpa using h] at this; exact this
    have hal : ∀ p : Prop, [Decidable p] → (alone neg s = true → p) → ¬ p → alone neg s = false := fun p _ h1 h2 => by
      cases h : alone neg s
      · rfl
      · exact absurd (h1 h) h2
    have h1l : alone neg s = true → ((preT neg ++ heads s ++ midT s).length : Int) = 1 := fun h => by
      obtain ⟨h1, h2, _⟩ := of_decide_eq_true h
      rw [List.append_assoc, h2, h1]; rfl
    refine split_ (fun h1 => ⟨_, has_ok s 91, split_ (fun h2 => ⟨_, has_ok s 92, hj _ ?_⟩) fun h2 => hj _ ?_⟩) fun h1 => hj _ ?_
    · have h2 : hasS s 91 = false := Bool.eq_false_iff.2 h2
      have hm : neg = false ∧ heads s ++ midT s = [] := by
        have h1 : (preT neg ++ heads s ++ midT s).length = 1 := by
          have h1 : ((preT neg ++ heads s ++ midT s).length : Int) = 1 := h1
          omega
        rw [List.append_assoc, List.length_append] at h1
        cases neg with
        | true => rw [show (preT true).length = 2 from rfl] at h1; omega
        | false => exact ⟨rfl, List.eq_nil_of_length_eq_zero (by simp [preT] at h1; simp [h1])⟩
      show (!(hasS s 92)) = alone neg s
      unfold alone
      cases h3 : hasS s 92 with
      | true => rw [decide_eq_false (by rintro ⟨_, _, _, h⟩; cases h)]; rfl
      | false => rw [decide_eq_true ⟨hm.1, hm.2, h2, rfl⟩]; rfl
    · have h2 : hasS s 91 = true := Decidable.of_not_not h2
      refine (hal (hasS s 91 = false) (fun h => (of_decide_eq_true h).2.2.1) (by rw [h2]; decide)).symm
    · exact (hal _ h1l h1).symm
theorem text1_ok (s : SetT) (neg : Bool) : brack_Text_j1 (preT neg) s (textS neg s) := by
  refine ⟨_, has_ok s 93, split_ (fun h => room_ (by unfold preT; split <;> simp) (by omega) ?_) fun h => ?_⟩
  · have := mid_ok s neg
    unfold heads at this
    rwa [if_pos (show hasS s 93 = true from h)] at this
  · have := mid_ok s neg
    unfold heads at this
    rwa [if_neg (show ¬ hasS s 93 = true from h), List.append_nil] at this
theorem text_ok (s : SetT) : brack_Text_R s (textOf s) := by
  have hul := upTo_len s 256
  have hj : ∀ b, b = negS s → brack_Text_j2 s b (textOf s) := fun b hb => by
    unfold textOf
    rw [← hb]
    refine split_ (fun h => room_ (by simp) (by omega) ⟨_, not_ok s, ?_⟩) fun h => ?_
    · rw [if_pos h]
      exact text1_ok (notS s) true
    · rw [if_neg h]
      exact text1_ok s false
  refine ⟨_, count_ok s, split_ (fun h => hj _ ?_) fun h => split_ (fun h2 => split_ (fun h3 => hj _ ?_) fun h3 => ⟨_, of_ok [94] (by simp), hj _ ?_⟩) fun h2 => ⟨_, of_ok [94] (by simp), hj _ ?_⟩⟩
  · unfold negS; rw [decide_eq_true (Or.inl (by omega))]
  · unfold negS; rw [decide_eq_true (Or.inr (Or.inl ⟨by omega, by omega⟩))]
  · unfold negS; rw [decide_eq_decide]
    exact ⟨fun h => Or.inr (Or.inr h), fun h => by
      rcases h with h | ⟨_, h⟩ | h
      · omega
      · omega
      · exact h⟩
  · unfold negS; rw [decide_eq_decide]
    exact ⟨fun h => Or.inr (Or.inr h), fun h => by
      rcases h with h | ⟨h, _⟩ | h
      · omega
      · omega
      · exact h⟩
end Go.Proofs.Ytgplmognfmjllaa
