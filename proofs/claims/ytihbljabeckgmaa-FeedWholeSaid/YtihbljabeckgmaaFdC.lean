/- What the feed tells: lengths; the state behind a line. -/
import Derived.Test.YtihbljabeckgmaaFdB
import Derived.Test.YtihbljabeckgmaaArg
namespace Go.Proofs.Ytihbljabeckgmaa
theorem ml {n : Nat} (h : n ≤ maxLen) : n ≤ 9223372036854775807 := h
theorem wf_files {fs : List FL} (h : EncR.wf fs) : ∀ f ∈ fs, f.2.length ≤ 9223372036854775807 := fun f hf => by
  have h1 : fs.length ≤ maxLen ∧ ∀ x ∈ fs, EncR.wf x := h
  have h2 : EncR.wf f.1 ∧ (f.2.length ≤ maxLen ∧ ∀ x ∈ f.2, EncR.wf x) := h1.2 f hf
  exact ml h2.2.1
theorem adv_len {fs : List FL} {B : Nat} (hb : big fs ≤ B) : ∀ (l : List ByteArray) (n o m : Int) (r : List UInt8), r.length ≤ B → (adv fs l n o m r).2.2.2.length ≤ B
  | [], _, _, _, _, h => h
  | s :: l, n, o, m, r, h => by
    by_cases hr : r = []
    · cases hl : lookL fs s with
      | some b => rw [adv_s hl _ _ _ _ hr]; exact adv_len hb l _ _ _ _ (by have := look_len hl; omega)
      | none => rw [adv_n hl _ _ _ _ hr]; exact adv_len hb l _ _ _ _ h
    · rw [adv_app fs _ _ _ _ _ hr]; exact h
theorem fin_len (c : Int) (q : Int × Int × Int × List UInt8) {B : Nat} (h : q.2.2.2.length ≤ B) : (fin c q).1.1.length ≤ B ∧ (fin c q).2.1.2.2.2.2.length ≤ B := by
  unfold fin
  split
  · simp
  · have := cut_len q.2.2.2
    simp only; omega
theorem next_len {fs : List FL} {B : Nat} (hb : big fs ≤ B) (st : Fst) (ins : List ByteArray) (hr : st.2.2.2.2.length ≤ B) : (nextF st fs ins).1.1.length ≤ B ∧ (nextF st fs ins).2.1.2.2.2.2.length ≤ B := fin_len _ _ (adv_len hb _ _ _ _ _ hr)
theorem lsame_t (a : Ln) (ha : a.1.length ≤ 1000000) : palinodelaw18_same_R a a true := by
  have := lsame_ok a a ha
  simpa using this
end Go.Proofs.Ytihbljabeckgmaa
