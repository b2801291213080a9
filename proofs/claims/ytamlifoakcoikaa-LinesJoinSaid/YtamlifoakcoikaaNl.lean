/- Bytes up to the first newline: plain lists. -/
import Derived.Lib.Bytealg
namespace Go.Proofs.Ytamlifoakcoikaa

/-- Is there a newline? -/
def hasNl (l : List UInt8) : Bool := l.any (· == 10)
/-- The bytes ahead of the first newline. -/
def headLn (l : List UInt8) : List UInt8 := l.takeWhile (· != 10)
theorem hasNl_cons (b : UInt8) (l : List UInt8) : hasNl (b :: l) = ((b == 10) || hasNl l) := rfl
theorem headLn_cons (b : UInt8) (l : List UInt8) : headLn (b :: l) = if b == 10 then [] else b :: headLn l := by
  unfold headLn; rw [List.takeWhile_cons]; cases h : b == 10 <;> simp [bne, h]
theorem index_nl (l : List UInt8) : Lib.indexByte l 10 = if hasNl l then ((headLn l).length : Int) else -1 := by
  induction l with
  | nil => rfl
  | cons b l ih =>
    unfold Lib.indexByte
    rw [ih, hasNl_cons, headLn_cons]
    cases hb : b == 10
    · cases hn : hasNl l
      · rfl
      · simp
    · rfl
theorem headLn_le (l : List UInt8) : (headLn l).length ≤ l.length := (List.takeWhile_prefix _).length_le
theorem headLn_take (l : List UInt8) : l.take (headLn l).length = headLn l := by
  induction l with
  | nil => rfl
  | cons b l ih => rw [headLn_cons]; cases b == 10 <;> simp [ih]
theorem headLn_lt {l : List UInt8} (h : hasNl l = true) : (headLn l).length < l.length := by
  induction l with
  | nil => cases h
  | cons b l ih =>
    rw [hasNl_cons] at h
    rw [headLn_cons]
    cases hb : b == 10
    · rw [hb, Bool.false_or] at h; have := ih h; simp; omega
    · simp
theorem headLn_all {l : List UInt8} (h : hasNl l = false) : headLn l = l := by
  induction l with
  | nil => rfl
  | cons b l ih =>
    rw [hasNl_cons, Bool.or_eq_false_iff] at h
    rw [headLn_cons, h.1, ih h.2]; rfl
/-- A text's lines. -/
def splitLn : List UInt8 → List (List UInt8 × Bool)
  | [] => []
  | b :: l => if b == 10 then ([], true) :: splitLn l else match splitLn l with
    | [] => [([b], false)]
    | (h, nl) :: t => (b :: h, nl) :: t
theorem splitLn_length : ∀ l : List UInt8, (splitLn l).length ≤ l.length
  | [] => Nat.le_refl _
  | b :: l => by
    have ih := splitLn_length l
    rw [splitLn]
    split
    · simpa using ih
    · split
      · simp
      · rename_i h; rw [h] at ih; simpa using Nat.le_succ_of_le ih
/-- How many bytes the first line takes. -/
def lnLen (l : List UInt8) : Nat := (headLn l).length + (if hasNl l then 1 else 0)
theorem splitLn_eq (l : List UInt8) (h : l ≠ []) : splitLn l = (headLn l, hasNl l) :: splitLn (l.drop (lnLen l)) := by
  induction l with
  | nil => exact absurd rfl h
  | cons b l ih =>
    rw [splitLn, hasNl_cons, headLn_cons]
    cases hb : b == 10
    · cases l with
      | nil =>
        have e1 : headLn ([] : List UInt8) = [] := rfl
        have e2 : hasNl ([] : List UInt8) = false := rfl
        simp only [lnLen, hasNl_cons, headLn_cons, hb, e1, e2]
        rfl
      | cons a l =>
        have := ih (by simp)
        rw [this]
        have e : lnLen (b :: a :: l) = lnLen (a :: l) + 1 := by
          unfold lnLen; rw [hasNl_cons b, headLn_cons b, hb]; simp; omega
        rw [e, List.drop_succ_cons]; simp
    · simp [lnLen, headLn_cons, hasNl_cons, hb]
theorem lnLen_le (l : List UInt8) : lnLen l ≤ l.length := by
  unfold lnLen
  cases h : hasNl l
  · simpa using headLn_le l
  · have := headLn_lt h; simp; omega
theorem lnLen_pos {l : List UInt8} (h : l ≠ []) : 0 < lnLen l := by
  unfold lnLen
  cases hn : hasNl l
  · rw [headLn_all hn]; have := List.length_pos_iff.2 h; simpa using this
  · simp
theorem splitLn_nl (cur r : List UInt8) (h : hasNl cur = false) : splitLn (cur ++ 10 :: r) = (cur, true) :: splitLn r := by
  induction cur with
  | nil => rfl
  | cons b l ih =>
    rw [hasNl_cons, Bool.or_eq_false_iff] at h
    rw [List.cons_append, splitLn, h.1, ih h.2]; rfl
theorem splitLn_no (cur : List UInt8) (h : hasNl cur = false) (hne : cur ≠ []) : splitLn cur = [(cur, false)] := by
  induction cur with
  | nil => exact absurd rfl hne
  | cons b l ih =>
    rw [hasNl_cons, Bool.or_eq_false_iff] at h
    cases l with
    | nil => rw [splitLn, h.1]; rfl
    | cons a l => rw [splitLn, h.1, ih h.2 (by simp)]; rfl
theorem hasNl_append (a b : List UInt8) : hasNl (a ++ b) = (hasNl a || hasNl b) := by simp [hasNl]
end Go.Proofs.Ytamlifoakcoikaa
