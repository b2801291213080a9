/- Marks of bytes: what is told of all of them, one by one. -/
import Derived.Test.YtefpkpiadnpkeaaPl
import Derived.Test.YtefpkpiadnpkeaaGK
namespace Go.Proofs.Ytefpkpiadnpkeaa
theorem all_byte {P : UInt8 → Bool} (h : ((List.range 256).all fun n => P (UInt8.ofNat n)) = true) (c : UInt8) : P c = true := by
  have := List.all_eq_true.1 h c.toNat (List.mem_range.2 c.toNat_lt)
  rwa [UInt8.ofNat_toNat] at this
theorem ba_at (s : ByteArray) (i : Nat) : s[i]? = s.data.toList[i]? := by
  rcases Nat.lt_or_ge i s.size with h | h
  · rw [getElem?_pos s i h, List.getElem?_eq_getElem (by simpa using h)]; rfl
  · rw [getElem?_neg s i (by omega), List.getElem?_eq_none (by simpa using h)]
theorem ba_ext {a b : ByteArray} (h : a.data.toList = b.data.toList) : a = b := by
  obtain ⟨⟨a⟩⟩ := a
  obtain ⟨⟨b⟩⟩ := b
  simp at h
  rw [h]
theorem ba_beq {a b : ByteArray} (h : a = b) : (a.toList == b.toList) = true := by rw [h]; exact beq_self_eq_true _
theorem ba_app (a b : ByteArray) : (a ++ b).data.toList = a.data.toList ++ b.data.toList := by
  rw [ByteArray.data_append, Array.toList_append]
theorem ba_size (a : ByteArray) : a.size = a.data.toList.length := rfl
def mkA (c : UInt8) : ByteArray := (show_mark_ev 5 c).getD ⟨#[]⟩
def mk (c : UInt8) : List UInt8 := (mkA c).data.toList
theorem mark_all : ((List.range 256).all fun n => (show_mark_ev 5 (UInt8.ofNat n)).isSome) = true := by kernel_rfl
theorem mark_ok (c : UInt8) : show_mark_R c (mkA c) := by
  refine show_mark_ok (fuel := 5) ?_
  have := all_byte (P := fun c => (show_mark_ev 5 c).isSome) mark_all c
  unfold mkA
  cases h : show_mark_ev 5 c with
  | none => simp [h] at this
  | some r => rfl
theorem refmark_all : ((List.range 256).all fun n => decide (palinoderef04_Mark_ev 5 (UInt8.ofNat n) = some (mkA (UInt8.ofNat n)))) = true := by kernel_rfl
theorem refmark_ok (c : UInt8) : palinoderef04_Mark_R c (mkA c) := palinoderef04_Mark_ok (fuel := 5) (of_decide_eq_true (all_byte (P := fun c => decide (palinoderef04_Mark_ev 5 c = some (mkA c))) refmark_all c))
/-- Of each byte: its mark has one to four bytes, all of which are seen, none a newline. -/
theorem mk_all : ((List.range 256).all fun n => decide (1 ≤ (mk (UInt8.ofNat n)).length ∧ (mk (UInt8.ofNat n)).length ≤ 4) && (mk (UInt8.ofNat n)).all fun x => decide (32 ≤ x.toNat ∧ x.toNat ≤ 126)) = true := by kernel_rfl
theorem mk_len (c : UInt8) : 1 ≤ (mk c).length ∧ (mk c).length ≤ 4 := by
  have := all_byte (P := fun c => decide (1 ≤ (mk c).length ∧ (mk c).length ≤ 4) && (mk c).all fun x => decide (32 ≤ x.toNat ∧ x.toNat ≤ 126)) mk_all c
  rw [Bool.and_eq_true] at this
  exact of_decide_eq_true this.1
theorem mk_seen (c : UInt8) : ∀ x ∈ mk c, 32 ≤ x.toNat ∧ x.toNat ≤ 126 := by
  have := all_byte (P := fun c => decide (1 ≤ (mk c).length ∧ (mk c).length ≤ 4) && (mk c).all fun x => decide (32 ≤ x.toNat ∧ x.toNat ≤ 126)) mk_all c
  rw [Bool.and_eq_true] at this
  intro x hx
  exact of_decide_eq_true (List.all_eq_true.1 this.2 x hx)
theorem shawake : palinodelaw04_awake_R true := palinodelaw04_awake_ok (fuel := 50) (by kernel_rfl)
theorem shsame_ok (a b : List UInt8) (hl : a.length ≤ 1000000) : palinoderef01_Same_R a b (decide (a = b)) := by
  refine split_ (fun h => ?_) fun h => ?_
  · exact decide_eq_false fun e : a = b => h (by rw [e])
  · have hlen : a.length = b.length := by omega
    refine loop_ (fun st m => ∃ k : Nat, k ≤ a.length ∧ m = a.length - k ∧ st = (k : Int) ∧ a.take k = b.take k) _ ⟨0, by omega, rfl, rfl, rfl⟩ ?_
    rintro st m ⟨k, hk, rfl, rfl, h2⟩
    refine split_ (fun h3 => ?_) fun h3 => ?_
    · refine at_ (by omega) (by omega) fun x hx => at_ (by omega) (by omega) fun y hy => ?_
      rw [Int.toNat_natCast] at hx hy
      refine split_ (fun h4 => ?_) fun h4 => ?_
      · refine decide_eq_false fun e : a = b => h4 ?_
        rw [e, hy] at hx
        injection hx with hx
        rw [hx]
      · have hxy : x = y := UInt8.toNat_inj.1 (by omega)
        refine inR_ (by omega) ⟨a.length - (k + 1), by omega, k + 1, by omega, rfl, by simp, ?_⟩
        rw [List.take_add_one, List.take_add_one, h2, hx, hy, hxy]
    · rw [List.take_of_length_le (by omega), List.take_of_length_le (by omega)] at h2
      exact decide_eq_true h2
theorem shsame2_ok (a b : List UInt8) (hl : a.length ≤ 1000000) : palinoderef01_Same_v2_R a b (decide (a = b)) := by
  refine split_ (fun h => ?_) fun h => ?_
  · exact decide_eq_false fun e : a = b => h (by rw [e])
  · have hlen : a.length = b.length := by omega
    refine loop_ (fun st m => ∃ k : Nat, k ≤ a.length ∧ m = a.length - k ∧ st = (k : Int) ∧ a.take k = b.take k) _ ⟨0, by omega, rfl, rfl, rfl⟩ ?_
    rintro st m ⟨k, hk, rfl, rfl, h2⟩
    refine split_ (fun h3 => ?_) fun h3 => ?_
    · refine at_ (by omega) (by omega) fun x hx => at_ (by omega) (by omega) fun y hy => ?_
      rw [Int.toNat_natCast] at hx hy
      refine split_ (fun h4 => ?_) fun h4 => ?_
      · refine decide_eq_false fun e : a = b => h4 ?_
        rw [e, hy] at hx
        injection hx with hx
        rw [hx]
      · have hxy : x = y := UInt8.toNat_inj.1 (by omega)
        refine inR_ (by omega) ⟨a.length - (k + 1), by omega, k + 1, by omega, rfl, by simp, ?_⟩
        rw [List.take_add_one, List.take_add_one, h2, hx, hy, hxy]
    · rw [List.take_of_length_le (by omega), List.take_of_length_le (by omega)] at h2
      exact decide_eq_true h2
end Go.Proofs.Ytefpkpiadnpkeaa
