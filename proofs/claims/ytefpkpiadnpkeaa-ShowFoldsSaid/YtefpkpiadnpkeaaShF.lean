/- Lists, folded. -/
import Derived.Test.YtefpkpiadnpkeaaShM
import Derived.Test.YtefpkpiadnpkeaaGKL1
namespace Go.Proofs.Ytefpkpiadnpkeaa
def listG (fold : Nat) : Nat → List UInt8 → List UInt8
  | _, [] => [36]
  | w, c :: t => if 2 ≤ fold ∧ 0 < w ∧ fold - 1 < w + (mk c).length then 92 :: 10 :: (mk c ++ listG fold (mk c).length t) else mk c ++ listG fold (w + (mk c).length) t
theorem listG_cons (fold w : Nat) (c : UInt8) (t : List UInt8) : listG fold w (c :: t) = if 2 ≤ fold ∧ 0 < w ∧ fold - 1 < w + (mk c).length then 92 :: 10 :: (mk c ++ listG fold (mk c).length t) else mk c ++ listG fold (w + (mk c).length) t := rfl
theorem listG_len (fold : Nat) (b : List UInt8) : ∀ w, (listG fold w b).length ≤ 6 * b.length + 1 := by
  induction b with
  | nil => intro w; unfold listG; simp
  | cons c t ih =>
    intro w
    have hm := mk_len c
    rw [listG_cons]
    split
    · have := ih (mk c).length
      simp only [List.length_cons, List.length_append]; omega
    · have := ih (w + (mk c).length)
      simp only [List.length_cons, List.length_append]; omega
theorem listG_zero (b : List UInt8) : ∀ w, listG 0 w b = b.flatMap mk ++ [36] := by
  induction b with
  | nil => intro w; rfl
  | cons c t ih => intro w; rw [listG_cons, if_neg (by omega), ih, List.flatMap_cons, List.append_assoc]
theorem list_ok (b : List UInt8) (fold : Nat) (hf : fold ≤ 1000) (hb : b.length ≤ 200) : show_List_R b (fold : Int) (listG fold 0 b) := by
  refine loop_ (fun (st : List UInt8 × Int × Int) m => ∃ (k w : Nat) (out : List UInt8), k ≤ b.length ∧ m = b.length - k ∧ st = (out, (w : Int), (k : Int)) ∧ out.length ≤ 6 * k ∧ w ≤ 6 * k ∧ out ++ listG fold w (b.drop k) = listG fold 0 b) b.length ⟨0, 0, [], by omega, rfl, rfl, by simp, by omega, rfl⟩ ?_
  rintro _ m ⟨k, w, out, hk, rfl, rfl, hol, hw, hr⟩
  show show_List_l1 b (fold : Int) _ out (w : Int) (k : Int) _
  rw [← hr]
  refine split_ (fun h => at_ (by omega) (by omega) fun c hc => ⟨_, mark_ok c, ?_⟩) fun h => ?_
  · rw [Int.toNat_natCast] at hc
    have hd : b.drop k = c :: b.drop (k + 1) := by
      obtain ⟨h1, h2⟩ := List.getElem?_eq_some_iff.1 hc
      rw [List.drop_eq_getElem_cons h1, h2]
    have hm := mk_len c
    have hmk : (mkA c).data.toList = mk c := rfl
    have hms : (mkA c).size = (mk c).length := rfl
    rw [hd, listG_cons] at hr
    rw [hd, listG_cons]
    have hyes : (2 ≤ fold ∧ 0 < w ∧ fold - 1 < w + (mk c).length) → show_List_j3 out (mkA c) (k : Int) (fun s' => ∃ m', m' < b.length - k ∧ ∃ (k w : Nat) (out : List UInt8), k ≤ b.length ∧ m' = b.length - k ∧ s' = (out, (w : Int), (k : Int)) ∧ out.length ≤ 6 * k ∧ w ≤ 6 * k ∧ out ++ listG fold w (b.drop k) = listG fold 0 b) (w : Int) true (listG fold 0 b) := fun h => by
      rw [if_pos h] at hr
      refine split_ (fun _ => room_ (by simp only [List.length_cons, List.length_nil]; omega) (by omega) (room_ (by rw [hmk]; simp only [List.length_append, List.length_cons, List.length_nil]; omega) (by omega) (inR_ (by omega) (inR_ (by omega) ⟨b.length - (k + 1), by omega, k + 1, (mk c).length, out ++ [92, 10] ++ mk c, by omega, rfl, ?_, ?_, by omega, ?_⟩)))) fun h => absurd rfl h
      · refine Prod.ext rfl (Prod.ext ?_ rfl)
        show (0 : Int) + ((mkA c).size : Int) = ((mk c).length : Int)
        omega
      · simp only [List.length_append, List.length_cons, List.length_nil]; omega
      · rw [← hr]; simp
    have hnot : ¬ (2 ≤ fold ∧ 0 < w ∧ fold - 1 < w + (mk c).length) → show_List_j3 out (mkA c) (k : Int) (fun s' => ∃ m', m' < b.length - k ∧ ∃ (k w : Nat) (out : List UInt8), k ≤ b.length ∧ m' = b.length - k ∧ s' = (out, (w : Int), (k : Int)) ∧ out.length ≤ 6 * k ∧ w ≤ 6 * k ∧ out ++ listG fold w (b.drop k) = listG fold 0 b) (w : Int) false (listG fold 0 b) := fun h => by
      rw [if_neg h] at hr
      refine split_ (fun h => by cases h) fun _ => room_ (by rw [hmk]; omega) (by omega) (inR_ (by omega) (inR_ (by omega) ⟨b.length - (k + 1), by omega, k + 1, w + (mk c).length, out ++ mk c, by omega, rfl, ?_, ?_, by omega, ?_⟩))
      · refine Prod.ext rfl (Prod.ext ?_ rfl)
        show (w : Int) + ((mkA c).size : Int) = ((w + (mk c).length : Nat) : Int)
        omega
      · simp only [List.length_append]; omega
      · rw [← hr]; simp
    rw [hr]
    refine split_ (fun h2 => split_ (fun h3 => inR_ (by omega) (inR_ (by omega) ?_)) fun h3 => hnot (by omega)) fun h2 => hnot (by omega)
    by_cases h4 : (fold : Int) - 1 < (w : Int) + ((mkA c).size : Int)
    · rw [decide_eq_true h4]; exact hyes ⟨by omega, by omega, by omega⟩
    · rw [decide_eq_false h4]; exact hnot (by omega)
  · rw [List.drop_eq_nil_of_le (by omega)]
    refine room_ (by simp only [List.length_cons, List.length_nil]; omega) (by omega) rfl
/-- What the law reads. -/
def scanF (fold : Nat) : List UInt8 → Nat → List UInt8 → Option (Nat × List UInt8)
  | [], w, flat => some (w, flat)
  | c :: t, w, flat => if c.toNat = 10 then (if flat.getLast? = some 92 ∧ w ≤ fold then scanF fold t 0 flat.dropLast else none) else scanF fold t (w + 1) (flat ++ [c])
theorem scanF_cons (fold : Nat) (c : UInt8) (t : List UInt8) (w : Nat) (flat : List UInt8) : scanF fold (c :: t) w flat = if c.toNat = 10 then (if flat.getLast? = some 92 ∧ w ≤ fold then scanF fold t 0 flat.dropLast else none) else scanF fold t (w + 1) (flat ++ [c]) := rfl
theorem scanF_app (fold : Nat) (m t : List UInt8) (hm : ∀ x ∈ m, 32 ≤ x.toNat ∧ x.toNat ≤ 126) : ∀ w flat, scanF fold (m ++ t) w flat = scanF fold t (w + m.length) (flat ++ m) := by
  induction m with
  | nil => intro w flat; simp
  | cons x m ih =>
    intro w flat
    have := hm x (by simp)
    rw [List.cons_append, scanF_cons, if_neg (by omega), ih fun y hy => hm y (by simp [hy])]
    rw [List.length_cons, List.append_assoc, List.singleton_append, show w + 1 + m.length = w + (m.length + 1) from by omega]
theorem scan_list (fold : Nat) (hf : 5 ≤ fold) (b : List UInt8) : ∀ w flat, w ≤ fold - 1 → ∃ w', w' ≤ fold ∧ scanF fold (listG fold w b) w flat = some (w', flat ++ (b.flatMap mk ++ [36])) := by
  induction b with
  | nil => intro w flat hw; exact ⟨w + 1, by omega, rfl⟩
  | cons c t ih =>
    intro w flat hw
    have hm := mk_len c
    rw [listG_cons, List.flatMap_cons]
    by_cases h : 2 ≤ fold ∧ 0 < w ∧ fold - 1 < w + (mk c).length
    · rw [if_pos h]
      obtain ⟨w', h1, h2⟩ := ih (mk c).length (flat ++ mk c) (by omega)
      refine ⟨w', h1, ?_⟩
      rw [scanF_cons, if_neg (by decide), scanF_cons, if_pos (by decide), if_pos ⟨by simp, by omega⟩, List.dropLast_concat, scanF_app _ _ _ (mk_seen c), Nat.zero_add, h2]
      simp
    · rw [if_neg h]
      obtain ⟨w', h1, h2⟩ := ih (w + (mk c).length) (flat ++ mk c) (by omega)
      refine ⟨w', h1, ?_⟩
      rw [scanF_app _ _ _ (mk_seen c), h2]
      simp
theorem folds_law (b : List UInt8) (x : UInt8) : palinodelaw04_ShowFolds_R b x true := by
  show palinodelaw04_ShowFolds_j1 b x _ true
  by_cases h : 200 < (b.length : Int) ∨ (x.toNat : Int) < 5
  · rw [show ((decide (200 < (b.length : Int))) || (decide ((x.toNat : Int) < 5))) = true from by rw [Bool.or_eq_true, decide_eq_true_eq, decide_eq_true_eq]; exact h]
    exact split_ (fun _ => ⟨true, shawake, rfl⟩) fun h => absurd rfl h
  · rw [show ((decide (200 < (b.length : Int))) || (decide ((x.toNat : Int) < 5))) = false from by rw [Bool.or_eq_false_iff, decide_eq_false_iff_not, decide_eq_false_iff_not]; exact not_or.1 h]
    rw [not_or] at h
    have hx := x.toNat_lt
    refine split_ (fun h => by cases h) fun _ => ⟨_, list_ok b x.toNat (by omega) (by omega), ?_⟩
    obtain ⟨w', hw', hsc⟩ := scan_list x.toNat (by omega) b 0 [] (by omega)
    have hll := listG_len x.toNat b 0
    generalize hs : listG x.toNat 0 b = s at hsc hll
    rw [List.nil_append] at hsc
    refine loop_ (fun (st : Int × Int × List UInt8) m => ∃ (k w : Nat) (flat : List UInt8), k ≤ s.length ∧ m = s.length - k ∧ st = ((w : Int), (k : Int), flat) ∧ w ≤ k ∧ flat.length ≤ k ∧ scanF x.toNat (s.drop k) w flat = some (w', b.flatMap mk ++ [36])) s.length ⟨0, 0, [], by omega, rfl, rfl, by omega, by simp, hsc⟩ ?_
    rintro _ m ⟨k, w, flat, hk, rfl, rfl, hwk, hfk, hr⟩
    show palinodelaw04_ShowFolds_l2 s x b _ (w : Int) (k : Int) flat true
    refine split_ (fun h2 => at_ (by omega) (by omega) fun c hc => ?_) fun h2 => ?_
    · have hc0 := hc
      rw [Int.toNat_natCast] at hc
      have hd : s.drop k = c :: s.drop (k + 1) := by
        obtain ⟨h1, h2⟩ := List.getElem?_eq_some_iff.1 hc
        rw [List.drop_eq_getElem_cons h1, h2]
      rw [hd, scanF_cons] at hr
      refine split_ (fun h3 => ?_) fun h3 => ?_
      · rw [if_pos (by omega)] at hr
        by_cases h4 : flat.getLast? = some 92 ∧ w ≤ x.toNat
        · rw [if_pos h4] at hr
          have hfl : flat.length ≠ 0 := fun e => by
            rw [List.length_eq_zero_iff.1 e] at h4; exact absurd h4.1 (by decide)
          have h92 : flat[((((flat.length : Nat) : Int) - 1) : Int).toNat]? = some 92 := by
            rw [show ((((flat.length : Nat) : Int) - 1) : Int).toNat = flat.length - 1 from by omega, ← List.getLast?_eq_getElem?]; exact h4.1
          refine split_ (fun h => absurd h (by omega)) fun _ => inR_ (by omega) ⟨by omega, 92, h92, split_ (fun h => absurd rfl h) fun _ => split_ (fun h => absurd h (by omega)) fun _ => inR_ (by omega) ⟨⟨by omega, by omega⟩, inR_ (by omega) ⟨s.length - (k + 1), by omega, k + 1, 0, flat.dropLast, by omega, rfl, ?_, by omega, by rw [List.length_dropLast]; omega, hr⟩⟩⟩
          rw [List.dropLast_eq_take, show ((((flat.length : Nat) : Int) - 1) : Int).toNat = flat.length - 1 from by omega]
          rfl
        · rw [if_neg h4] at hr; cases hr
      · rw [if_neg (by omega)] at hr
        refine ⟨by omega, c, hc0, room_ (by rw [List.length_singleton]; omega) (by omega) (inR_ (by omega) (inR_ (by omega) ⟨s.length - (k + 1), by omega, k + 1, w + 1, flat ++ [c], by omega, rfl, rfl, by omega, by rw [List.length_append, List.length_singleton]; omega, hr⟩))⟩
    · rw [List.drop_eq_nil_of_le (by omega)] at hr
      have hr2 : (w, flat) = (w', b.flatMap mk ++ [36]) := Option.some.inj hr
      have hw2 : w = w' := congrArg Prod.fst hr2
      have hf2 : flat = b.flatMap mk ++ [36] := congrArg Prod.snd hr2
      refine split_ (fun _ => ⟨_, list_ok b 0 (by omega) (by omega), _, shsame_ok _ _ (by omega), split_ (fun _ => ⟨true, shawake, rfl⟩) fun h => absurd (decide_eq_true ?_) h⟩) fun h => absurd (by omega) h
      rw [hf2, listG_zero]
end Go.Proofs.Ytefpkpiadnpkeaa
