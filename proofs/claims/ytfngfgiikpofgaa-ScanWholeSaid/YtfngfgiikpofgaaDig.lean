/- The classes by name. -/
import Derived.Test.YtfngfgiikpofgaaGK
import Derived.Test.YtfngfgiikpofgaaPl
namespace Go.Proofs.Ytfngfgiikpofgaa
def isS (x : ByteArray) (n : Nat) : Bool × Bool :=
  if (x.toList == ((⟨#[117, 112, 112, 101, 114]⟩ : ByteArray)).toList) = true then (decide (65 ≤ n ∧ n ≤ 90), true) else
  if (x.toList == ((⟨#[108, 111, 119, 101, 114]⟩ : ByteArray)).toList) = true then (decide (97 ≤ n ∧ n ≤ 122), true) else
  if (x.toList == ((⟨#[100, 105, 103, 105, 116]⟩ : ByteArray)).toList) = true then (decide (48 ≤ n ∧ n ≤ 57), true) else
  if (x.toList == ((⟨#[97, 108, 112, 104, 97]⟩ : ByteArray)).toList) = true then (decide ((65 ≤ n ∧ n ≤ 90) ∨ (97 ≤ n ∧ n ≤ 122)), true) else
  if (x.toList == ((⟨#[97, 108, 110, 117, 109]⟩ : ByteArray)).toList) = true then (decide ((65 ≤ n ∧ n ≤ 90) ∨ (97 ≤ n ∧ n ≤ 122) ∨ (48 ≤ n ∧ n ≤ 57)), true) else
  if (x.toList == ((⟨#[98, 108, 97, 110, 107]⟩ : ByteArray)).toList) = true then (decide (n = 32 ∨ n = 9), true) else
  if (x.toList == ((⟨#[115, 112, 97, 99, 101]⟩ : ByteArray)).toList) = true then (decide (n = 32 ∨ (9 ≤ n ∧ n ≤ 13)), true) else
  if (x.toList == ((⟨#[99, 110, 116, 114, 108]⟩ : ByteArray)).toList) = true then (decide (n ≤ 31 ∨ n = 127), true) else
  if (x.toList == ((⟨#[103, 114, 97, 112, 104]⟩ : ByteArray)).toList) = true then (decide (33 ≤ n ∧ n ≤ 126), true) else
  if (x.toList == ((⟨#[112, 114, 105, 110, 116]⟩ : ByteArray)).toList) = true then (decide (32 ≤ n ∧ n ≤ 126), true) else
  if (x.toList == ((⟨#[112, 117, 110, 99, 116]⟩ : ByteArray)).toList) = true then (decide ((33 ≤ n ∧ n ≤ 126) ∧ ¬ ((65 ≤ n ∧ n ≤ 90) ∨ (97 ≤ n ∧ n ≤ 122) ∨ (48 ≤ n ∧ n ≤ 57))), true) else
  if (x.toList == ((⟨#[120, 100, 105, 103, 105, 116]⟩ : ByteArray)).toList) = true then (decide ((48 ≤ n ∧ n ≤ 57) ∨ (65 ≤ n ∧ n ≤ 70) ∨ (97 ≤ n ∧ n ≤ 102)), true) else
  (false, false)
theorem within_iff (c lo hi : UInt8) (r : Bool) : digit_within_R c lo hi r ↔ r = decide (lo.toNat ≤ c.toNat ∧ c.toNat ≤ hi.toNat) := by
  unfold digit_within_R
  constructor
  · rintro ⟨h1, h2⟩
    by_cases h : (lo.toNat : Int) ≤ (c.toNat : Int)
    · rw [h1 h, decide_eq_decide]; omega
    · rw [h2 h, eq_comm, decide_eq_false_iff_not]; omega
  · rintro rfl
    refine ⟨fun h => ?_, fun h => ?_⟩
    · rw [decide_eq_decide]; omega
    · rw [decide_eq_false_iff_not]; omega
theorem upper_iff (c : UInt8) (r : Bool) : digit_isUpper_R c r ↔ r = decide (65 ≤ c.toNat ∧ c.toNat ≤ 90) := by
  unfold digit_isUpper_R
  simp only [within_iff, exists_eq_left]; rfl
theorem lower_iff (c : UInt8) (r : Bool) : digit_isLower_R c r ↔ r = decide (97 ≤ c.toNat ∧ c.toNat ≤ 122) := by
  unfold digit_isLower_R
  simp only [within_iff, exists_eq_left]; rfl
theorem digit_iff (c : UInt8) (r : Bool) : digit_isDigit_R c r ↔ r = decide (48 ≤ c.toNat ∧ c.toNat ≤ 57) := by
  unfold digit_isDigit_R
  simp only [within_iff, exists_eq_left]; rfl
theorem graph_iff (c : UInt8) (r : Bool) : digit_isGraph_R c r ↔ r = decide (33 ≤ c.toNat ∧ c.toNat ≤ 126) := by
  unfold digit_isGraph_R
  simp only [within_iff, exists_eq_left]; rfl
theorem dec_or (p q : Prop) [Decidable p] [Decidable q] (r : Bool) : ((decide p = true → r = true) ∧ (¬ (decide p = true) → r = decide q)) ↔ r = decide (p ∨ q) := by
  by_cases hp : p <;> by_cases hq : q <;> simp [hp, hq]
theorem alnum_iff (c : UInt8) (r : Bool) : digit_isAlnum_R c r ↔ r = decide ((48 ≤ c.toNat ∧ c.toNat ≤ 57) ∨ (65 ≤ c.toNat ∧ c.toNat ≤ 90) ∨ (97 ≤ c.toNat ∧ c.toNat ≤ 122)) := by
  unfold digit_isAlnum_R
  simp only [digit_iff, upper_iff, lower_iff, exists_eq_left, dec_or]
theorem blank_iff (c : UInt8) (r : Bool) : digit_isBlank_R c r ↔ r = decide (c.toNat = 32 ∨ c.toNat = 9) := by
  unfold digit_isBlank_R
  by_cases h : (c.toNat : Int) = 32
  · have h1 : c.toNat = 32 := by omega
    simp [h1]
  · have h1 : ¬ c.toNat = 32 := by omega
    simp only [h, not_false_eq_true, true_implies, false_implies, true_and, h1, false_or]
    constructor <;> (intro e; rw [e, decide_eq_decide]; omega)
theorem pair_ (a b : Bool) : ((a, true) = (b, true)) ↔ a = b := by simp
theorem dis_ok (x : ByteArray) (c : UInt8) : digit_Is_R x c (isS x c.toNat) := by
  have hA : (10 : UInt8).toNat = 10 := rfl
  have hB : (13 : UInt8).toNat = 13 := rfl
  have hC : (65 : UInt8).toNat = 65 := rfl
  have hD : (70 : UInt8).toNat = 70 := rfl
  have hE : (97 : UInt8).toNat = 97 := rfl
  have hF : (102 : UInt8).toNat = 102 := rfl
  unfold digit_Is_R isS
  refine ⟨fun h => ?_, fun h => ?_⟩
  · rw [if_pos h]
    exact ⟨_, (upper_iff _ _).2 rfl, rfl⟩
  rw [if_neg h]
  refine ⟨fun h => ?_, fun h => ?_⟩
  · rw [if_pos h]
    exact ⟨_, (lower_iff _ _).2 rfl, rfl⟩
  rw [if_neg h]
  refine ⟨fun h => ?_, fun h => ?_⟩
  · rw [if_pos h]
    exact ⟨_, (digit_iff _ _).2 rfl, rfl⟩
  rw [if_neg h]
  refine ⟨fun h => ?_, fun h => ?_⟩
  · rw [if_pos h]
    simp only [upper_iff, lower_iff, exists_eq_left, pair_, decide_eq_decide, decide_eq_true_eq]
    omega
  rw [if_neg h]
  refine ⟨fun h => ?_, fun h => ?_⟩
  · rw [if_pos h]
    exact ⟨_, (alnum_iff _ _).2 rfl, by rw [pair_, decide_eq_decide]; omega⟩
  rw [if_neg h]
  refine ⟨fun h => ?_, fun h => ?_⟩
  · rw [if_pos h]
    exact ⟨_, (blank_iff _ _).2 rfl, rfl⟩
  rw [if_neg h]
  refine ⟨fun h => ?_, fun h => ?_⟩
  · rw [if_pos h]
    simp only [blank_iff, within_iff, hA, hB, exists_eq_left, pair_, decide_eq_decide, decide_eq_true_eq]
    omega
  rw [if_neg h]
  refine ⟨fun h => ?_, fun h => ?_⟩
  · rw [if_pos h]
    simp only [pair_, decide_eq_decide, decide_eq_true_eq]
    omega
  rw [if_neg h]
  refine ⟨fun h => ?_, fun h => ?_⟩
  · rw [if_pos h]
    exact ⟨_, (graph_iff _ _).2 rfl, rfl⟩
  rw [if_neg h]
  refine ⟨fun h => ?_, fun h => ?_⟩
  · rw [if_pos h]
    simp only [graph_iff, exists_eq_left, pair_, decide_eq_decide, decide_eq_true_eq]
    omega
  rw [if_neg h]
  refine ⟨fun h => ?_, fun h => ?_⟩
  · rw [if_pos h]
    simp only [graph_iff, alnum_iff, ← decide_not, decide_eq_false_iff_not, exists_eq_left, pair_, decide_eq_decide, decide_eq_true_eq]
    omega
  rw [if_neg h]
  refine ⟨fun h => ?_, fun h => ?_⟩
  · rw [if_pos h]
    simp only [digit_iff, within_iff, hC, hD, hE, hF, exists_eq_left, pair_, decide_eq_decide, decide_eq_true_eq]
    omega
  rw [if_neg h]
theorem in_gen (row : ByteArray) (c : UInt8) (r : Bool) (n : Nat) (hs : row.size = 2 * n) (hn : n ≤ 100) (hr : r = true ↔ ∃ k, k < n ∧ ∃ a b, row[2 * k]? = some a ∧ row[2 * k + 1]? = some b ∧ a.toNat ≤ c.toNat ∧ c.toNat ≤ b.toNat) : palinoderef01_In_R row c r := by
  refine loop_ (fun st m => ∃ k : Nat, k ≤ n ∧ m = n - k ∧ st = 2 * (k : Int) ∧ ∀ j, j < k → ∀ a b, row[2 * j]? = some a → row[2 * j + 1]? = some b → ¬ (a.toNat ≤ c.toNat ∧ c.toNat ≤ b.toNat)) n ⟨0, by omega, rfl, rfl, fun j hj => absurd hj (by omega)⟩ ?_
  rintro st m ⟨k, hk, rfl, rfl, hno⟩
  refine inR_ (by omega) (split_ (fun h1 => ?_) fun h1 => ?_)
  · have hx := getElem?_pos row (2 * k) (by show 2 * k < row.size; omega)
    have hy := getElem?_pos row (2 * k + 1) (by show 2 * k + 1 < row.size; omega)
    have e1 : (2 * (k : Int)).toNat = 2 * k := by omega
    have e2 : (2 * (k : Int) + 1).toNat = 2 * k + 1 := by omega
    have go : ¬ ((row[2 * k]'(by show 2 * k < row.size; omega)).toNat ≤ c.toNat ∧ c.toNat ≤ (row[2 * k + 1]'(by show 2 * k + 1 < row.size; omega)).toNat) → palinoderef01_In_j2 (2 * (k : Int)) (fun s' => ∃ m', m' < n - k ∧ ∃ k : Nat, k ≤ n ∧ m' = n - k ∧ s' = 2 * (k : Int) ∧ ∀ j, j < k → ∀ a b, row[2 * j]? = some a → row[2 * j + 1]? = some b → ¬ (a.toNat ≤ c.toNat ∧ c.toNat ≤ b.toNat)) r := by
      intro hn'
      refine inR_ (by omega) ⟨n - (k + 1), by omega, k + 1, by omega, rfl, by omega, ?_⟩
      intro j hj a b ha hb
      by_cases hjk : j = k
      · subst hjk
        rw [hx] at ha; rw [hy] at hb
        rw [← Option.some.inj ha, ← Option.some.inj hb]; exact hn'
      · exact hno j (by omega) a b ha hb
    refine ⟨by omega, _, by rw [e1]; exact hx, split_ (fun h2 => ?_) fun h2 => go (by omega)⟩
    refine inR_ (by omega) ⟨by omega, _, by rw [e2]; exact hy, split_ (fun h3 => ?_) fun h3 => go (by omega)⟩
    exact hr.2 ⟨k, by omega, _, _, hx, hy, by omega, by omega⟩
  · cases r with
    | false => rfl
    | true =>
      obtain ⟨j, hj, a, b, ha, hb, h2⟩ := hr.1 rfl
      exact absurd h2 (hno j (by omega) a b ha hb)
theorem in1 (a b c : UInt8) : palinoderef01_In_R ⟨#[a, b]⟩ c (decide (a.toNat ≤ c.toNat ∧ c.toNat ≤ b.toNat)) := by
  refine in_gen _ _ _ 1 rfl (by omega) ?_
  rw [decide_eq_true_eq]
  constructor
  · intro h; exact ⟨0, by omega, a, b, rfl, rfl, h⟩
  · rintro ⟨k, hk, x, y, hx, hy, h⟩
    obtain rfl : k = 0 := by omega
    obtain rfl : a = x := Option.some.inj hx
    obtain rfl : b = y := Option.some.inj hy
    exact h
theorem in2 (a b a' b' c : UInt8) : palinoderef01_In_R ⟨#[a, b, a', b']⟩ c (decide ((a.toNat ≤ c.toNat ∧ c.toNat ≤ b.toNat) ∨ (a'.toNat ≤ c.toNat ∧ c.toNat ≤ b'.toNat))) := by
  refine in_gen _ _ _ 2 rfl (by omega) ?_
  rw [decide_eq_true_eq]
  constructor
  · rintro (h | h)
    · exact ⟨0, by omega, a, b, rfl, rfl, h⟩
    · exact ⟨1, by omega, a', b', rfl, rfl, h⟩
  · rintro ⟨k, hk, x, y, hx, hy, h⟩
    have hk' : k = 0 ∨ k = 1 := by omega
    rcases hk' with rfl | rfl
    · obtain rfl : a = x := Option.some.inj hx
      obtain rfl : b = y := Option.some.inj hy
      exact .inl h
    · obtain rfl : a' = x := Option.some.inj hx
      obtain rfl : b' = y := Option.some.inj hy
      exact .inr h
theorem in3 (a b a' b' a'' b'' c : UInt8) : palinoderef01_In_R ⟨#[a, b, a', b', a'', b'']⟩ c (decide ((a.toNat ≤ c.toNat ∧ c.toNat ≤ b.toNat) ∨ (a'.toNat ≤ c.toNat ∧ c.toNat ≤ b'.toNat) ∨ (a''.toNat ≤ c.toNat ∧ c.toNat ≤ b''.toNat))) := by
  refine in_gen _ _ _ 3 rfl (by omega) ?_
  rw [decide_eq_true_eq]
  constructor
  · rintro (h | h | h)
    · exact ⟨0, by omega, a, b, rfl, rfl, h⟩
    · exact ⟨1, by omega, a', b', rfl, rfl, h⟩
    · exact ⟨2, by omega, a'', b'', rfl, rfl, h⟩
  · rintro ⟨k, hk, x, y, hx, hy, h⟩
    have hk' : k = 0 ∨ k = 1 ∨ k = 2 := by omega
    rcases hk' with rfl | rfl | rfl
    · obtain rfl : a = x := Option.some.inj hx
      obtain rfl : b = y := Option.some.inj hy
      exact .inl h
    · obtain rfl : a' = x := Option.some.inj hx
      obtain rfl : b' = y := Option.some.inj hy
      exact .inr (.inl h)
    · obtain rfl : a'' = x := Option.some.inj hx
      obtain rfl : b'' = y := Option.some.inj hy
      exact .inr (.inr h)
end Go.Proofs.Ytfngfgiikpofgaa
