/- Texts are told as they were. -/
import Derived.Test.YtfngfgiikpofgaaScU
import Derived.Test.YtfngfgiikpofgaaGKL3
namespace Go.Proofs.Ytfngfgiikpofgaa
theorem text_ok (b tail : List UInt8) (hb : b.length ≤ 1000) (hm : tail.length ≤ 1000) (ht : ∀ x, tail[0]? = some x → x = 10) : scan_Cursor_Text_R (bentL 10 b ++ tail, 0) (b ++ [10], 0, (bentL 10 b ++ tail, if ((bentL 10 b ++ tail).length : Int) < ((bentL 10 b).length : Int) + 1 then ((bentL 10 b ++ tail).length : Int) else ((bentL 10 b).length : Int) + 1)) := by
  have hlen := bentL_len 10 b
  generalize hT : bentL 10 b ++ tail = T
  have hTl : T.length = (bentL 10 b).length + tail.length := by rw [← hT, List.length_append]
  refine loop_ (fun st m => ∃ k : Nat, k ≤ b.length ∧ m = b.length - k ∧ st = (b.take k, ((bentL 10 (b.take k)).length : Int))) b.length ⟨0, by omega, rfl, rfl⟩ ?_
  rintro st m ⟨k, hk, rfl, rfl⟩
  show scan_Cursor_Text_l2 (T, 0) _ (b.take k) ((bentL 10 (b.take k)).length : Int) _
  have hfl : ((T, (0 : Int)).1).length = T.length := rfl
  by_cases hkl : k < b.length
  · have hc := List.getElem?_eq_getElem hkl
    generalize hcv : b[k] = c at hc
    have hsn := bentL_snoc (d := 10) hc
    have hTT : T = bentL 10 (b.take k) ++ (bentC 10 c ++ (bentL 10 (b.drop (k + 1)) ++ tail)) := by rw [← hT, bentL_at hc]; simp only [List.append_assoc]
    have hTTl := congrArg List.length hTT
    have hgl := congrArg List.length hsn
    rw [List.length_append] at hgl
    rw [List.length_append, List.length_append] at hTTl
    have hat : ∀ j, T[(bentL 10 (b.take k)).length + j]? = (bentC 10 c ++ (bentL 10 (b.drop (k + 1)) ++ tail))[j]? := fun j => by
      conv => lhs; rw [hTT]
      rw [List.getElem?_append_right (by omega), Nat.add_sub_cancel_left]
    have htk : (b.take k).length = k := by rw [List.length_take]; omega
    have step : ∀ q : Nat, T[q]? = some c → q < T.length → q + 1 = (bentL 10 (b.take (k + 1))).length → scan_Cursor_Text_j3 (T, 0) (b.take k) (fun s' => ∃ m', m' < b.length - k ∧ ∃ k : Nat, k ≤ b.length ∧ m' = b.length - k ∧ s' = (b.take k, ((bentL 10 (b.take k)).length : Int))) (q : Int) (b ++ [10], 0, (T, if (T.length : Int) < ((bentL 10 b).length : Int) + 1 then (T.length : Int) else ((bentL 10 b).length : Int) + 1)) := by
      intro q hq hql hqe
      refine at_ (by omega) (by omega) fun y hy => ?_
      have hy : T[(q : Int).toNat]? = some y := hy
      rw [Int.toNat_natCast, hq] at hy
      obtain rfl := Option.some.inj hy
      have e1 : b.take k ++ [c] = b.take (k + 1) := by rw [List.take_add_one, hc]; rfl
      exact room_ (by simp; omega) (by omega) (inR_ (by omega) ⟨b.length - (k + 1), by omega, k + 1, by omega, rfl, Prod.ext e1 (by show (q : Int) + 1 = _; omega)⟩)
    by_cases hsp : c.toNat = 92 ∨ c.toNat = 10
    · have hbc : bentC 10 c = [92, c] := by unfold bentC; rw [if_pos (by show c.toNat = 92 ∨ c.toNat = 10 ∨ c.toNat = 10; omega)]
      rw [hbc] at hat hTTl hgl
      simp only [List.length_cons, List.length_nil] at hTTl hgl
      have h0 : T[(bentL 10 (b.take k)).length]? = some 92 := hat 0
      have h1 : T[(bentL 10 (b.take k)).length + 1]? = some c := hat 1
      have same : ∀ y, T[((bentL 10 (b.take k)).length : Int).toNat]? = some y → y = 92 := fun y hy => by
        rw [Int.toNat_natCast, h0] at hy; exact (Option.some.inj hy).symm
      have h92 : (92 : UInt8).toNat = 92 := rfl
      refine split_ (fun _ => at_ (by omega) (by omega) fun y hy => ?_) fun h => absurd (by omega) h
      obtain rfl := same y hy
      refine split_ (fun _ => at_ (by omega) (by omega) fun z hz => ?_) fun h => absurd (by omega) h
      obtain rfl := same z hz
      refine split_ (fun _ => inR_ (by omega) (split_ (fun h => absurd h (by omega)) fun _ => ?_)) fun h => absurd (by omega) h
      have hst := step ((bentL 10 (b.take k)).length + 1) h1 (by omega) (by omega)
      rw [show (((bentL 10 (b.take k)).length + 1 : Nat) : Int) = ((bentL 10 (b.take k)).length : Int) + 1 by omega] at hst
      exact hst
    · have hbc : bentC 10 c = [c] := by unfold bentC; rw [if_neg (by show ¬ (c.toNat = 92 ∨ c.toNat = 10 ∨ c.toNat = 10); omega)]
      rw [hbc] at hat hTTl hgl
      simp only [List.length_cons, List.length_nil] at hTTl hgl
      have h0 : T[(bentL 10 (b.take k)).length]? = some c := hat 0
      have same : ∀ y, T[((bentL 10 (b.take k)).length : Int).toNat]? = some y → y = c := fun y hy => by
        rw [Int.toNat_natCast, h0] at hy; exact (Option.some.inj hy).symm
      refine split_ (fun _ => at_ (by omega) (by omega) fun y hy => ?_) fun h => absurd (by omega) h
      obtain rfl := same y hy
      refine split_ (fun _ => at_ (by omega) (by omega) fun z hz => ?_) fun h => absurd (by omega) h
      obtain rfl := same z hz
      exact split_ (fun h => absurd h (by omega)) fun _ => step _ h0 (by omega) (by omega)
  · obtain rfl : k = b.length := by omega
    rw [List.take_length]
    have fin : scan_Cursor_Text_j1 (T, 0) b ((bentL 10 b).length : Int) (b ++ [10], 0, (T, if (T.length : Int) < ((bentL 10 b).length : Int) + 1 then (T.length : Int) else ((bentL 10 b).length : Int) + 1)) := inR_ (by omega) (room_ (by simp; omega) (by omega) rfl)
    refine split_ (fun h => at_ (by omega) (by omega) fun y hy => ?_) fun _ => fin
    have hy : T[((bentL 10 b).length : Int).toNat]? = some y := hy
    rw [Int.toNat_natCast, ← hT, List.getElem?_append_right (by omega), Nat.sub_self] at hy
    obtain rfl := ht y hy
    exact split_ (fun h => absurd rfl h) fun _ => fin
theorem texts_true (b more : List UInt8) : palinodelaw14_ScanTexts_R b more true := by
  refine split_ (fun _ => ⟨true, awake_ok, rfl⟩) fun h => ?_
  have h1 : b.length ≤ 100 := by
    apply Decidable.byContradiction
    intro h1
    exact h (by rw [decide_eq_true (p := 100 < (b.length : Int)) (by omega), Bool.true_or])
  have h2 : more.length ≤ 100 := by
    apply Decidable.byContradiction
    intro h2
    exact h (by rw [decide_eq_true (p := 100 < (more.length : Int)) (by omega), Bool.or_true])
  clear h
  have hl := bentL_len 10 b
  have t1 := text_ok b [] (by omega) (by simp) (fun x hx => by simp at hx)
  rw [List.append_nil] at t1
  have t2 := text_ok b (10 :: more) (by omega) (by simp; omega) (fun x hx => (Option.some.inj hx).symm)
  have ha : bentL 10 b ++ [10] ++ more = bentL 10 b ++ 10 :: more := by rw [List.append_assoc]; rfl
  refine ⟨_, bent_ok b 10 (by omega), _, copy_ok b (by omega), room_ (by simp; omega) (by omega) ⟨_, open_ok _ (by omega), _, t1, _, copy_ok _ (by omega), room_ (by simp; omega) (by omega) (room_ (by simp; omega) (by omega) ?_)⟩⟩
  rw [ha]
  refine ⟨_, open_ok _ (by simp; omega), _, t2, split_ (fun _ => split_ (fun _ => ?_) fun h => absurd rfl h) fun h => absurd rfl h⟩
  have hs : (b ++ [(10 : UInt8)]).length ≤ 1000000 := by simp; omega
  refine ⟨_, same_ok _ _ hs, split_ (fun _ => ⟨_, same_ok _ _ hs, split_ (fun _ => ?_) fun h => absurd (decide_eq_true rfl) h⟩) fun h => absurd (decide_eq_true rfl) h⟩
  refine ⟨_, rfl, inR_ (by omega) (split_ (fun _ => ⟨true, awake_ok, rfl⟩) fun h => absurd ?_ h)⟩
  show (if ((bentL 10 b ++ 10 :: more).length : Int) < ((bentL 10 b).length : Int) + 1 then ((bentL 10 b ++ 10 :: more).length : Int) else ((bentL 10 b).length : Int) + 1) = _
  rw [if_neg (by simp; omega)]
theorem texts_law (b more : List UInt8) : Con Try.prog 4 [.sl 1 none (List.map eb b), .sl 1 none (List.map eb more)] [] [] (Ret (.v (.bool true))) := palinodelaw14_ScanTexts_con b more true (texts_true b more)
end Go.Proofs.Ytfngfgiikpofgaa
