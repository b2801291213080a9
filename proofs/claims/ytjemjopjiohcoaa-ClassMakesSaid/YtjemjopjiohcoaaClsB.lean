/- The law ClassBack, plain. -/
import Derived.Test.YtjemjopjiohcoaaClsL
import Derived.Test.YtjemjopjiohcoaaGKL3
namespace Go.Proofs.Ytjemjopjiohcoaa
/-- A set's bytes, rising. -/
def upTo (s : SetT) (k : Nat) : List UInt8 := ((List.range k).filter (memS s)).map UInt8.ofNat
theorem upTo_succ (s : SetT) (k : Nat) : upTo s (k + 1) = upTo s k ++ (if memS s k = true then [UInt8.ofNat k] else []) := by
  unfold upTo
  rw [List.range_succ, List.filter_append, List.map_append]
  congr 1
  by_cases h : memS s k = true <;> simp [h]
theorem upTo_len (s : SetT) (k : Nat) : (upTo s k).length ≤ k := by
  unfold upTo
  rw [List.length_map]
  exact Nat.le_trans (List.length_filter_le _ _) (by simp)
theorem bytes_ok (s : SetT) : class_Bytes_R s (upTo s 256) := by
  refine loop_ (fun st m => ∃ k, k ≤ 256 ∧ m = 256 - k ∧ st.2 = (k : Int) ∧ st.1 = upTo s k) _ ⟨0, by omega, rfl, rfl, rfl⟩ ?_
  rintro ⟨o, x⟩ m ⟨k, hk, rfl, h1, h2⟩
  simp only at h1 h2
  subst h1; subst h2
  have hl := upTo_len s k
  show class_Bytes_l1 s _ (upTo s k) (k : Int) _
  refine split_ (fun h3 => ?_) fun h3 => ?_
  · have hn := upTo_succ s k
    refine exU8 (by omega) fun c hc => ⟨_, has_ok _ _, split_ (fun h4 => ?_) fun h4 => ?_⟩
    · rw [show c.toNat = k by omega] at h4
      refine exU8 (by omega) fun c' hc' => room_ (by simp; omega) (by omega) (inR_ (by omega) ⟨256 - (k + 1), by omega, k + 1, by omega, rfl, by simp, ?_⟩)
      show upTo s k ++ [c'] = _
      rw [hn, if_pos h4, show UInt8.ofNat k = c' from UInt8.toNat_inj.1 (by rw [UInt8.toNat_ofNat_of_lt' (by simp [UInt8.size]; omega)]; omega)]
    · rw [show c.toNat = k by omega] at h4
      refine inR_ (by omega) ⟨256 - (k + 1), by omega, k + 1, by omega, rfl, by simp, ?_⟩
      show upTo s k = _
      rw [hn, if_neg h4, List.append_nil]
  · obtain rfl : k = 256 := by omega
    rfl
theorem same_ok (a b : List UInt8) (hl : a.length ≤ 1000000) : palinoderef01_Same_R a b (decide (a = b)) := by
  refine split_ (fun h => ?_) fun h => ?_
  · exact decide_eq_false fun e : a = b => h (by rw [e])
  · have hlen : a.length = b.length := by omega
    refine loop_ (fun st m => ∃ k : Nat, k ≤ a.length ∧ m = a.length - k ∧ st = (k : Int) ∧ a.take k = b.take k) _ ⟨0, by omega, rfl, rfl, rfl⟩ ?_
    rintro st m ⟨k, hk, rfl, rfl, h2⟩
    refine split_ (fun h3 => ?_) fun h3 => ?_
    · refine at_ (by omega) (by omega) fun x hx => at_ (by omega) (by omega) fun y hy => ?_
      rw [Int.toNat_natCast] at hx hy
      refine split_ (fun h4 => ?_) fun h4 => ?_
      · refine decide_eq_false fun e : a = b => h4 ?_
        rw [e, hy] at hx
        injection hx with hx
        rw [hx]
      · have hxy : x = y := UInt8.toNat_inj.1 (by omega)
        refine inR_ (by omega) ⟨a.length - (k + 1), by omega, k + 1, by omega, rfl, by simp, ?_⟩
        rw [List.take_add_one, List.take_add_one, h2, hx, hy, hxy]
    · rw [List.take_of_length_le (by omega), List.take_of_length_le (by omega)] at h2
      exact decide_eq_true h2
theorem tb_two (w : UInt64) (k j : Nat) (hk : k < 64) : (w ||| UInt64.ofNat (2 ^ k)).toNat.testBit j = (w.toNat.testBit j || decide (k = j)) := by
  have hp : 2 ^ k ≤ 2 ^ 63 := Nat.pow_le_pow_right (by decide) (by omega)
  rw [UInt64.toNat_or, Nat.testBit_or, UInt64.toNat_ofNat_of_lt' (by simp [UInt64.size]; omega), Nat.testBit_two_pow]
theorem mem_with (s : SetT) (c d : Nat) (hc : c < 256) (hd : d < 256) : memS (withS s c) d = (memS s d || decide (c = d)) := by
  have hcl : c / 64 < s.l.length := by rw [s.len]; omega
  unfold memS withS
  simp only [Arr.set, List.getD_eq_getElem?_getD, List.getElem?_set]
  by_cases h : c / 64 = d / 64
  · rw [if_pos h, if_pos hcl, Option.getD_some, tb_two _ _ _ (by omega), h]
    congr 1
    rw [decide_eq_decide]
    omega
  · rw [if_neg h, decide_eq_false (fun e => h (by rw [e])), Bool.or_false]
theorem mem_of (l : List UInt8) (d : Nat) (hd : d < 256) : memS (ofS l) d = l.any (fun c => decide (c.toNat = d)) := by
  have h : ∀ (l : List UInt8) (s : SetT), memS (l.foldl (fun s c => withS s c.toNat) s) d = (memS s d || l.any (fun c => decide (c.toNat = d))) := by
    intro l
    induction l with
    | nil => intro s; simp
    | cons c l ih => intro s; rw [List.foldl_cons, ih, mem_with _ _ _ (c.toNat_lt) hd, List.any_cons, Bool.or_assoc]
  unfold ofS
  rw [h]
  have : memS (Arr.rep 4 0) d = false := by
    unfold memS
    rw [List.getD_eq_getElem?_getD]
    show (((List.replicate 4 (0 : UInt64))[d / 64]?).getD 0).toNat.testBit _ = false
    rw [List.getElem?_replicate, if_pos (by omega)]
    simp
  rw [this, Bool.false_or]
theorem set_ext {s u : SetT} (h : ∀ c, c < 256 → memS s c = memS u c) : s = u := by
  apply Arr.ext
  apply List.ext_getElem (by rw [s.len, u.len])
  intro i h1 h2
  have hi : i < 4 := by rw [s.len] at h1; exact h1
  apply UInt64.toNat_inj.1
  apply Nat.eq_of_testBit_eq
  intro j
  by_cases hj : j < 64
  · have := h (64 * i + j) (by omega)
    unfold memS at this
    rw [show (64 * i + j) / 64 = i by omega, show (64 * i + j) % 64 = j by omega] at this
    simpa [List.getD_eq_getElem?_getD, List.getElem?_eq_getElem h1, List.getElem?_eq_getElem h2] using this
  · have hb : ∀ w : UInt64, w.toNat.testBit j = false := fun w => Nat.testBit_lt_two_pow (Nat.lt_of_lt_of_le w.toNat_lt (Nat.pow_le_pow_right (by decide) (by omega)))
    rw [hb, hb]
theorem of_bytes (s : SetT) : ofS (upTo s 256) = s := by
  apply set_ext
  intro c hc
  rw [mem_of _ _ hc]
  unfold upTo
  rw [Bool.eq_iff_iff, List.any_eq_true]
  constructor
  · rintro ⟨x, hx, he⟩
    obtain ⟨k, hk, rfl⟩ := List.mem_map.1 hx
    obtain ⟨h1, h2⟩ := List.mem_filter.1 hk
    rw [List.mem_range] at h1
    rw [decide_eq_true_eq, UInt8.toNat_ofNat_of_lt' (by simpa [UInt8.size] using h1)] at he
    rw [← he]; exact h2
  · intro h
    exact ⟨UInt8.ofNat c, List.mem_map.2 ⟨c, List.mem_filter.2 ⟨List.mem_range.2 hc, h⟩, rfl⟩, by rw [decide_eq_true_eq, UInt8.toNat_ofNat_of_lt' (by simpa [UInt8.size] using hc)]⟩
theorem upTo_rises (s : SetT) : (upTo s 256).Pairwise (fun a b => a.toNat < b.toNat) := by
  unfold upTo
  rw [List.pairwise_map]
  refine List.Pairwise.imp_of_mem ?_ (List.Pairwise.filter _ List.pairwise_lt_range)
  intro a b ha hb h
  have h1 := List.mem_range.1 (List.mem_filter.1 ha).1
  have h2 := List.mem_range.1 (List.mem_filter.1 hb).1
  rw [UInt8.toNat_ofNat_of_lt' (by simpa [UInt8.size] using h1), UInt8.toNat_ofNat_of_lt' (by simpa [UInt8.size] using h2)]
  exact h
theorem back_true (s t : SetT) : palinodelaw05_ClassBack_R s t true := by
  have hl := upTo_len s 256
  have hr := upTo_rises s
  refine ⟨_, bytes_ok s, ?_⟩
  refine loop_ (fun st m => ∃ k : Nat, k ≤ 256 ∧ m = 257 - k ∧ st = (k : Int) ∧ 1 ≤ k) 256 ⟨1, by omega, rfl, rfl, by omega⟩ ?_
  rintro st m ⟨k, hk, rfl, rfl, h1⟩
  refine split_ (fun h3 => ?_) fun h3 => ?_
  · refine inR_ (by omega) (at_ (by omega) (by omega) fun x hx => at_ (by omega) (by omega) fun y hy => ?_)
    rw [show ((k : Int) - 1).toNat = k - 1 by omega] at hx
    rw [Int.toNat_natCast] at hy
    have hkl : k < (upTo s 256).length := by omega
    have := List.pairwise_iff_getElem.1 hr (k - 1) k (by omega) hkl (by omega)
    rw [List.getElem?_eq_getElem (by omega)] at hx hy
    injection hx with hx
    injection hy with hy
    rw [hx, hy] at this
    refine split_ (fun h4 => by omega) fun h4 => inR_ (by omega) ⟨257 - (k + 1), by omega, k + 1, by omega, rfl, by simp, by omega⟩
  · refine ⟨_, of_ok _ (by omega), split_ (fun _ => ?_) fun h4 => absurd (of_bytes s) h4⟩
    refine ⟨_, bytes_ok t, _, same_ok _ _ (by omega), split_ (fun _ => ⟨true, awake_ok, rfl⟩) fun h5 => absurd ?_ h5⟩
    rw [beq_iff_eq, decide_eq_decide]
    exact ⟨fun e => by rw [e], fun e => by rw [← of_bytes s, e, of_bytes]⟩
theorem back_law (s t : SetT) : Con Try.prog 5 [.agg (List.map ew s.l).flatten, .agg (List.map ew t.l).flatten] [] [] (Ret (.v (.bool true))) := palinodelaw05_ClassBack_con s t true (back_true s t)
end Go.Proofs.Ytjemjopjiohcoaa
