
/- Whether a byte is in a row of ranges. -/
import Derived.Test.YtpddiffpanihdaaGK
import Derived.Test.YtpddiffpanihdaaPl
namespace Go.Proofs.Ytpddiffpanihdaa
theorem in_gen (row : ByteArray) (c : UInt8) (r : Bool) (n : Nat) (hs : row.size = 2 * n) (hn : n ≤ 100) (hr : r = true ↔ ∃ k, k < n ∧ ∃ a b, row[2 * k]? = some a ∧ row[2 * k + 1]? = some b ∧ a.toNat ≤ c.toNat ∧ c.toNat ≤ b.toNat) : palinoderef01_In_R row c r := by
  refine loop_ (fun st m => ∃ k : Nat, k ≤ n ∧ m = n - k ∧ st = 2 * (k : Int) ∧ ∀ j, j < k → ∀ a b, row[2 * j]? = some a → row[2 * j + 1]? = some b → ¬ (a.toNat ≤ c.toNat ∧ c.toNat ≤ b.toNat)) n ⟨0, by omega, rfl, rfl, fun j hj => absurd hj (by omega)⟩ ?_
  rintro st m ⟨k, hk, rfl, rfl, hno⟩
  refine inR_ (by omega) (split_ (fun h1 => ?_) fun h1 => ?_)
  · have hx := getElem?_pos row (2 * k) (by show 2 * k < row.size; omega)
    have hy := getElem?_pos row (2 * k + 1) (by show 2 * k + 1 < row.size; omega)
    have e1 : (2 * (k : Int)).toNat = 2 * k := by omega
    have e2 : (2 * (k : Int) + 1).toNat = 2 * k + 1 := by omega
    have go : ¬ ((row[2 * k]'(by show 2 * k < row.size; omega)).toNat ≤ c.toNat ∧ c.toNat ≤ (row[2 * k + 1]'(by show 2 * k + 1 < row.size; omega)).toNat) → palinoderef01_In_j2 (2 * (k : Int)) (fun s' => ∃ m', m' < n - k ∧ ∃ k : Nat, k ≤ n ∧ m' = n - k ∧ s' = 2 * (k : Int) ∧ ∀ j, j < k → ∀ a b, row[2 * j]? = some a → row[2 * j + 1]? = some b → ¬ (a.toNat ≤ c.toNat ∧ c.toNat ≤ b.toNat)) r := by
      intro hn'
      refine inR_ (by omega) ⟨n - (k + 1), by omega, k + 1, by omega, rfl, by omega, ?_⟩
      intro j hj a b ha hb
      by_cases hjk : j = k
      · subst hjk
        rw [hx] at ha; rw [hy] at hb
        rw [← Option.some.inj ha, ← Option.some.inj hb]; exact hn'
      · exact hno j (by omega) a b ha hb
    refine ⟨by omega, _, by rw [e1]; exact hx, split_ (fun h2 => ?_) fun h2 => go (by omega)⟩
    refine inR_ (by omega) ⟨by omega, _, by rw [e2]; exact hy, split_ (fun h3 => ?_) fun h3 => go (by omega)⟩
    exact hr.2 ⟨k, by omega, _, _, hx, hy, by omega, by omega⟩
  · cases r with
    | false => rfl
    | true =>
      obtain ⟨j, hj, a, b, ha, hb, h2⟩ := hr.1 rfl
      exact absurd h2 (hno j (by omega) a b ha hb)
theorem in3 (a b a' b' a'' b'' c : UInt8) : palinoderef01_In_R ⟨#[a, b, a', b', a'', b'']⟩ c (decide ((a.toNat ≤ c.toNat ∧ c.toNat ≤ b.toNat) ∨ (a'.toNat ≤ c.toNat ∧ c.toNat ≤ b'.toNat) ∨ (a''.toNat ≤ c.toNat ∧ c.toNat ≤ b''.toNat))) := by
  refine in_gen _ _ _ 3 rfl (by omega) ?_
  rw [decide_eq_true_eq]
  constructor
  · rintro (h | h | h)
    · exact ⟨0, by omega, a, b, rfl, rfl, h⟩
    · exact ⟨1, by omega, a', b', rfl, rfl, h⟩
    · exact ⟨2, by omega, a'', b'', rfl, rfl, h⟩
  · rintro ⟨k, hk, x, y, hx, hy, h⟩
    have hk' : k = 0 ∨ k = 1 ∨ k = 2 := by omega
    rcases hk' with rfl | rfl | rfl
    · obtain rfl : a = x := Option.some.inj hx
      obtain rfl : b = y := Option.some.inj hy
      exact .inl h
    · obtain rfl : a' = x := Option.some.inj hx
      obtain rfl : b' = y := Option.some.inj hy
      exact .inr (.inl h)
    · obtain rfl : a'' = x := Option.some.inj hx
      obtain rfl : b'' = y := Option.some.inj hy
      exact .inr (.inr h)
end Go.Proofs.Ytpddiffpanihdaa
