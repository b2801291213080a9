/- Words with a blank between. -/
import Derived.Test.YtefpkpiadnpkeaaShM
import Derived.Test.YtefpkpiadnpkeaaGKL2
namespace Go.Proofs.Ytefpkpiadnpkeaa
abbrev jn (l : List ByteArray) : List UInt8 := Lib.join (l.map (·.data.toList)) [32]
theorem jn_snoc (l : List ByteArray) (x : ByteArray) (h : l ≠ []) : jn (l ++ [x]) = jn l ++ ([32] ++ x.data.toList) := by
  cases l with
  | nil => exact absurd rfl h
  | cons y r =>
    unfold jn
    rw [List.cons_append, List.map_cons, List.map_cons, Lib.join_cons, Lib.join_cons, List.map_append]
    unfold Lib.joinTail
    simp
theorem rows_law (l : List ByteArray) : palinodelaw04_ShowRows_R l true := by
  refine split_ (fun _ => ⟨true, shawake, rfl⟩) fun hl => ?_
  refine loop_ (fun (st : ByteArray × Int) m => ∃ k : Nat, k ≤ l.length ∧ m = l.length - k ∧ st.2 = (k : Int) ∧ st.1.data.toList = jn (l.take k) ∧ (jn (l.take k)).length ≤ 31 * k) l.length ⟨0, by omega, rfl, rfl, rfl, by simp [jn, Lib.join_nil]⟩ ?_
  rintro ⟨w, i⟩ m ⟨k, hk, rfl, hi, hw, hlen⟩
  simp only at hi hw
  subst hi
  show palinodelaw04_ShowRows_l1 l _ w (k : Int) true
  refine split_ (fun h => ?_) fun h => ?_
  · refine at_ (by omega) (by omega) fun x hx => ?_
    have hx0 := hx
    rw [Int.toNat_natCast] at hx
    refine split_ (fun _ => ⟨true, shawake, rfl⟩) fun h30 => ?_
    have htk : l.take (k + 1) = l.take k ++ [x] := by rw [List.take_add_one, hx]; rfl
    have hwl : w.size = (jn (l.take k)).length := by rw [ba_size, hw]
    have hxl : x.size = x.data.toList.length := rfl
    refine split_ (fun hk0 => ?_) fun hk0 => ?_
    · have hne : l.take k ≠ [] := fun e => by
        have := congrArg List.length e
        rw [List.length_take, List.length_nil] at this; omega
      have hj := jn_snoc (l.take k) x hne
      rw [← htk] at hj
      have hs1 : ((⟨#[32]⟩ : ByteArray)).size = 1 := rfl
      have hs2 : (w ++ (⟨#[32]⟩ : ByteArray)).size = w.size + 1 := by rw [ba_size, ba_app, List.length_append]; rfl
      have hg1 : (k : Int) < l.length := h
      refine inR_ (by rw [hs1]; omega) ⟨by omega, x, hx0, inR_ (by rw [hs2]; omega) (inR_ (by omega) ⟨l.length - (k + 1), by omega, k + 1, by omega, rfl, rfl, ?_, ?_⟩)⟩
      · rw [ba_app, ba_app, hw, hj, List.append_assoc]
      · rw [hj, List.length_append, List.length_append]; simp only [List.length_cons, List.length_nil]; omega
    · obtain rfl : k = 0 := by omega
      have hj : jn (l.take (0 + 1)) = x.data.toList := by rw [htk]; simp [jn, Lib.join_one]
      have hw0 : w.data.toList = [] := by rw [hw]; simp [jn, Lib.join_nil]
      refine ⟨by omega, x, hx0, inR_ (by omega) (inR_ (by omega) ⟨l.length - (0 + 1), by omega, 0 + 1, by omega, rfl, rfl, ?_, ?_⟩)⟩
      · rw [ba_app, hw0, hj, List.nil_append]
      · rw [hj]; omega
  · have hk' : k = l.length := by omega
    rw [hk', List.take_length] at hw
    rw [hk', List.take_length] at hlen
    have he : (⟨(Lib.join (l.map (·.data.toList)) (⟨#[32]⟩ : ByteArray).data.toList).toArray⟩ : ByteArray) = w := by
      apply ba_ext
      rw [hw]
    refine ⟨_, ⟨_, ⟨⟨by omega, by show (jn l).length ≤ _; omega⟩, rfl⟩, rfl⟩, split_ (fun _ => ⟨true, shawake, rfl⟩) fun h => absurd (ba_beq he) h⟩
end Go.Proofs.Ytefpkpiadnpkeaa
