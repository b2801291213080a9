
/- BreLong. -/
import Derived.Test.YtpddiffpanihdaaBpG
import Derived.Test.YtpddiffpanihdaaGKL1
namespace Go.Proofs.Ytpddiffpanihdaa
theorem blawake : palinodelaw08_awake_R true := palinodelaw08_awake_ok (fuel := 50) (by kernel_rfl)
theorem has_ne {b : List UInt8} {p : Nat} {x : UInt8} {l : List UInt8} (h : ∀ c t, b.drop p = c :: t → c ≠ x) : hasS b p (x :: l) = false := by
  refine decide_eq_false fun h2 => ?_
  cases hd : b.drop p with
  | nil => rw [hd] at h2; simp at h2
  | cons c t =>
    rw [hd] at h2
    simp at h2
    exact h c t hd h2.1
theorem set_at {A B : List UInt8} {c d : UInt8} {k : Nat} (h : k = A.length) : (A ++ d :: B).set k c = A ++ c :: B := by
  subst h
  rw [List.set_append_right _ _ (Nat.le_refl _), Nat.sub_self]; rfl
theorem long_parse (c : UInt8) (k : Nat) (h1 : 1 ≤ k) (h7 : k ≤ 700) (hc : c.toNat ≠ 92 ∧ c.toNat ≠ 91 ∧ c.toNat ≠ 42 ∧ c.toNat ≠ 36 ∧ c.toNat ≠ 94 ∧ c.toNat ≠ 46) :
    ∃ q, bre_Parse_R (List.replicate k c) (finB q) ∧ (2 * k - 1 ≤ 1000 → finB q = ((q.2.2.L, 0), 0, 0) ∧ q.2.2.L.length = 2 * k - 1) ∧ (1000 < 2 * k - 1 → finB q = (([], 0), (k : Int), 8)) := by
  have hlen : (List.replicate k c).length = k := List.length_replicate
  have hdr : ∀ p d t, (List.replicate k c).drop p = d :: t → d = c := fun p d t h => by
    rw [List.drop_replicate] at h
    exact (List.mem_replicate.1 (by rw [h]; exact List.mem_cons_self ..)).2
  have hno : ∀ (p : Nat) (x : UInt8) (l : List UInt8), c ≠ x → hasS (List.replicate k c) p (x :: l) = false := fun p x l hx => has_ne fun d t h => by rw [hdr p d t h]; exact hx
  have hne : ∀ x : UInt8, c.toNat ≠ x.toNat → c ≠ x := fun x h e => h (by rw [e])
  have n92 := hne 92 hc.1
  have n42 := hne 42 hc.2.2.1
  have n94 := hne 94 hc.2.2.2.2.1
  have hA : ∀ i, i < k → i < (List.replicate k c).length ∧ hasS (List.replicate k c) i [92, 41] = false := fun i hi => ⟨by omega, hno i 92 [41] n92⟩
  have hB : ∀ i, i < k → ∀ (f : Bool) (m : Nat), go (List.replicate k c) (m + 3) (.piece f ⟨setsL ((List.replicate k c).take i), 0, i, Arr.rep 10 false⟩) = some ((i : Int), [], ⟨setsL ((List.replicate k c).take (i + 1)), 0, i + 1, Arr.rep 10 false⟩) := fun i hi f m => by
    have hx : (List.replicate k c)[i]? = some c := by rw [List.getElem?_replicate, if_pos hi]
    have hsl : (setsL ((List.replicate k c).take i)).length = i := by unfold setsL; rw [List.length_map, List.length_take]; omega
    have hsn : setsL ((List.replicate k c).take i) ++ [setN (ofS [c])] = setsL ((List.replicate k c).take (i + 1)) := by
      unfold setsL
      rw [List.take_add_one, hx, List.map_append]; rfl
    by_cases hf : i < 1000
    · have hatom : go (List.replicate k c) (m + 2) (.atom ⟨setsL ((List.replicate k c).take i), 0, i, Arr.rep 10 false⟩) = some ((i : Int), [], ⟨setsL ((List.replicate k c).take (i + 1)), 0, i + 1, Arr.rep 10 false⟩) := by
        rw [show m + 2 = (m + 1) + 1 from rfl]
        unfold go
        dsimp only
        rw [hx]
        dsimp only
        rw [if_neg hc.1, if_neg hc.2.2.2.2.2, if_neg hc.2.1, if_neg (by omega), one_plain c _ (by show (setsL ((List.replicate k c).take i)).length < 1000; omega)]
        show some ((((setsL ((List.replicate k c).take i)).length : Int), [], (⟨setsL ((List.replicate k c).take i) ++ [setN (ofS [c])], 0, i + 1, Arr.rep 10 false⟩ : Pz)) : Res) = _
        rw [hsl, hsn]
      show go (List.replicate k c) ((m + 2) + 1) (.piece f ⟨setsL ((List.replicate k c).take i), 0, i, Arr.rep 10 false⟩) = _
      conv => lhs; unfold go
      dsimp only
      rw [hno i 92 [123] n92, hno i 42 [] n42, if_neg (by simp), if_neg (by simp), hatom]
      show some (repsR (List.replicate k c) ((i : Int), [], (⟨setsL ((List.replicate k c).take (i + 1)), 0, i + 1, Arr.rep 10 false⟩ : Pz))) = _
      rw [reps_none (by omega) (hno _ 42 [] n42) (hno _ 92 [123] n92)]
    · omega
  obtain ⟨q, hq, hq2, hq3⟩ := run_plain (List.replicate k c) (fun i => (⟨setsL ((List.replicate k c).take i), 0, i, Arr.rep 10 false⟩ : Pz)) (List.replicate k c) k hlen h1 rfl (hno 0 94 [] n94) (fun i => ⟨rfl, rfl⟩) hA hB (by show k = _; omega) (by omega)
  refine ⟨q, parseB_ok _ (by omega) _ (by omega) q hq, fun hm => ?_, fun hm => ?_⟩
  · obtain ⟨C, c1, c2, c3, c4, _⟩ := hq2 hm
    refine ⟨by unfold finB; rw [c1, c3]; rfl, ?_⟩
    rw [c2, List.length_append, c4]
    unfold setsL
    rw [List.length_map]; omega
  · unfold finB
    rw [hq3 hm, hlen]
theorem brelong_law (c : UInt8) (x : UInt16) : palinodelaw08_BreLong_R c x true := by
  refine split_ (fun _ => ⟨true, blawake, rfl⟩) fun h => ?_
  have hc : c.toNat ≠ 92 ∧ c.toNat ≠ 91 ∧ c.toNat ≠ 42 ∧ c.toNat ≠ 36 ∧ c.toNat ≠ 94 ∧ c.toNat ≠ 46 := by
    simp only [Bool.or_eq_true, decide_eq_true_eq] at h
    omega
  have hx := x.toNat_lt
  have hz : IntKind.i64.wrap ((x.toNat : Int)) = (x.toNat : Int) := IntWalk.i64_in _ ⟨by omega, by omega⟩
  rw [hz]
  refine ⟨_, rfl, by decide, ?_⟩
  rw [show ((x.toNat : Int)).tmod 700 = ((x.toNat % 700 : Nat) : Int) from tm _ 700]
  generalize hk : 1 + x.toNat % 700 = k
  rw [show (1 : Int) + ((x.toNat % 700 : Nat) : Int) = (k : Int) by omega]
  have hk1 : 1 ≤ k ∧ k ≤ 700 := by omega
  refine ⟨in64 (by omega) (by omega), ⟨by omega, by omega, by omega, by omega⟩, ?_⟩
  refine loop_ (fun (st : Int × List UInt8) m => ∃ i : Nat, i ≤ k ∧ m = k - i ∧ st = ((i : Int), List.replicate i c ++ List.replicate (k - i) 0)) k ⟨0, by omega, rfl, by simp⟩ ?_
  rintro _ m ⟨i, hi, rfl, rfl⟩
  show palinodelaw08_BreLong_l2 (x.toNat : Int) c _ (i : Int) (List.replicate i c ++ List.replicate (k - i) 0) true
  unfold palinodelaw08_BreLong_l2
  rw [show ((x.toNat : Int)).tmod 700 = ((x.toNat % 700 : Nat) : Int) from tm _ 700, show (1 : Int) + ((x.toNat % 700 : Nat) : Int) = (k : Int) by omega]
  refine split_ (fun h1 => ?_) fun h1 => ?_
  · obtain ⟨j, hj⟩ : ∃ j, k - i = j + 1 := ⟨k - i - 1, by omega⟩
    rw [hj, List.replicate_succ]
    refine ⟨by omega, 0, ?_, in64 (by omega) (by omega), k - (i + 1), by omega, i + 1, by omega, rfl, ?_⟩
    · rw [Int.toNat_natCast, List.getElem?_append_right (by simp), List.length_replicate, Nat.sub_self]; rfl
    · rw [Int.toNat_natCast, set_at (by simp), show k - (i + 1) = j by omega]
      rw [List.replicate_succ' (n := i), List.append_assoc]; rfl
  · obtain rfl : i = k := by omega
    rw [Nat.sub_self, List.replicate_zero, List.append_nil]
    obtain ⟨q, hq, hq2, hq3⟩ := long_parse c i hk1.1 hk1.2 hc
    have hin : InR (2 * (i : Int)) := in64 (by omega) (by omega)
    have hin2 : InR (2 * (i : Int) - 1) := in64 (by omega) (by omega)
    refine ⟨_, hq, hin, hin2, split_ (fun h2 => ?_) fun h2 => ?_⟩
    · rw [hq3 (by omega)]
      exact split_ (fun _ => split_ (fun _ => split_ (fun _ => ⟨true, blawake, rfl⟩) fun h => absurd rfl h) fun h => absurd rfl h) fun h => absurd rfl h
    · obtain ⟨e1, e2⟩ := hq2 (by omega)
      rw [e1]
      refine split_ (fun _ => ⟨hin, hin2, split_ (fun _ => split_ (fun _ => ⟨true, blawake, rfl⟩) fun h => absurd rfl h) fun h => ?_⟩) fun h => absurd rfl h
      exact absurd (by show (q.2.2.L.length : Int) = 2 * (i : Int) - 1; omega) h
end Go.Proofs.Ytpddiffpanihdaa
