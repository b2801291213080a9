/- Plain helps: bytes and words as numbers; loops. -/
import Derived.Test.YtpddiffpanihdaaEq
namespace Go.Proofs.Ytpddiffpanihdaa
theorem u8_of (n : Nat) (h : n < 256) : ((UInt8.ofNat n).toNat : Int) = (n : Int) := by rw [UInt8.toNat_ofNat_of_lt' (by simpa [UInt8.size] using h)]
theorem u64_of (n : Nat) (h : n < 18446744073709551616) : ((UInt64.ofNat n).toNat : Int) = (n : Int) := by rw [UInt64.toNat_ofNat_of_lt' (by simpa [UInt64.size] using h)]
theorem exU8 {z : Int} {P : UInt8 → Prop} (h : 0 ≤ z ∧ z ≤ 255) (k : ∀ c : UInt8, (c.toNat : Int) = z → P c) : ∃ c : UInt8, (c.toNat : Int) = IntKind.u8.wrap z ∧ P c := by
  have e : ((UInt8.ofNat z.toNat).toNat : Int) = z := by rw [u8_of _ (by omega)]; omega
  exact ⟨_, by rw [IntWalk.u8_in _ h]; exact e, k _ e⟩
theorem exU8' {z : Int} {P : UInt8 → Prop} (h : 0 ≤ z ∧ z ≤ 255) (k : ∀ c : UInt8, (c.toNat : Int) = z → P c) : ∃ c : UInt8, (c.toNat : Int) = z ∧ P c := by
  have e : ((UInt8.ofNat z.toNat).toNat : Int) = z := by rw [u8_of _ (by omega)]; omega
  exact ⟨_, e, k _ e⟩
theorem exU64 {z : Int} {P : UInt64 → Prop} (h : 0 ≤ z ∧ z ≤ 18446744073709551615) (k : ∀ c : UInt64, (c.toNat : Int) = z → P c) : ∃ c : UInt64, (c.toNat : Int) = IntKind.u64.wrap z ∧ P c := by
  have e : ((UInt64.ofNat z.toNat).toNat : Int) = z := by rw [u64_of _ (by omega)]; omega
  exact ⟨_, by rw [IntWalk.u64_in _ h]; exact e, k _ e⟩
theorem exU64' {z : Int} {P : UInt64 → Prop} (h : 0 ≤ z ∧ z ≤ 18446744073709551615) (k : ∀ c : UInt64, (c.toNat : Int) = z → P c) : ∃ c : UInt64, (c.toNat : Int) = z ∧ P c := by
  have e : ((UInt64.ofNat z.toNat).toNat : Int) = z := by rw [u64_of _ (by omega)]; omega
  exact ⟨_, e, k _ e⟩
theorem bv_of (a : UInt64) : BitVec.ofInt IntKind.u64.bits (a.toNat : Int) = a.toBitVec := by
  apply BitVec.eq_of_toNat_eq
  show (BitVec.ofInt 64 (a.toNat : Int)).toNat = _
  rw [BitVec.ofInt_natCast, BitVec.toNat_ofNat]
  exact Nat.mod_eq_of_lt a.toNat_lt
theorem wrap_bv (x : BitVec 64) : IntKind.u64.wrap (x.toNat : Int) = (x.toNat : Int) := IntWalk.u64_in _ ⟨by omega, by have := x.isLt; omega⟩
theorem exAnd {a b : UInt64} {P : UInt64 → Prop} (k : P (a &&& b)) : ∃ c : UInt64, (c.toNat : Int) = IntKind.u64.wrap (BitVec.ofInt IntKind.u64.bits (a.toNat : Int) &&& BitVec.ofInt IntKind.u64.bits (b.toNat : Int)).toNat ∧ P c :=
  ⟨_, by rw [bv_of, bv_of]; exact (wrap_bv _).symm, k⟩
theorem exOr {a b : UInt64} {P : UInt64 → Prop} (k : P (a ||| b)) : ∃ c : UInt64, (c.toNat : Int) = IntKind.u64.wrap (BitVec.ofInt IntKind.u64.bits (a.toNat : Int) ||| BitVec.ofInt IntKind.u64.bits (b.toNat : Int)).toNat ∧ P c :=
  ⟨_, by rw [bv_of, bv_of]; exact (wrap_bv _).symm, k⟩
theorem exXor {a b : UInt64} {P : UInt64 → Prop} (k : P (a ^^^ b)) : ∃ c : UInt64, (c.toNat : Int) = IntKind.u64.wrap (BitVec.ofInt IntKind.u64.bits (a.toNat : Int) ^^^ BitVec.ofInt IntKind.u64.bits (b.toNat : Int)).toNat ∧ P c :=
  ⟨_, by rw [bv_of, bv_of]; exact (wrap_bv _).symm, k⟩
theorem at_ {α : Type} {l : List α} {z : Int} {P : α → Prop} (h0 : 0 ≤ z) (h1 : z < (l.length : Int)) (k : ∀ x, l[z.toNat]? = some x → P x) : 0 ≤ z ∧ ∃ x, l[z.toNat]? = some x ∧ P x :=
  ⟨h0, _, List.getElem?_eq_getElem (by omega), k _ (List.getElem?_eq_getElem (by omega))⟩
theorem atA {α : Type} {n : Nat} {a : Arr n α} {z N : Int} {P : α → Prop} (h0 : 0 ≤ z) (h1 : z < N) (k : ∀ x, a.l[z.toNat]? = some x → P x) (hN : N = (n : Int) := by rfl) : (0 ≤ z ∧ z < N) ∧ ∃ x, a.l[z.toNat]? = some x ∧ P x :=
  ⟨⟨h0, h1⟩, _, List.getElem?_eq_getElem (by rw [a.len]; omega), k _ (List.getElem?_eq_getElem (by rw [a.len]; omega))⟩
theorem inR_ {z : Int} {P : Prop} (h : -9223372036854775808 ≤ z ∧ z ≤ 9223372036854775807) (k : P) : InR z ∧ P := ⟨h, k⟩
theorem room_ {n b : Nat} {P : Prop} (h : n ≤ 1000000000) (hb : b ≤ 1000) (k : P) : Room n b ∧ P := by
  have : n * b ≤ 1000000000 * 1000 := Nat.mul_le_mul h hb
  exact ⟨⟨by unfold maxLen; omega, by omega⟩, k⟩
theorem td (a b : Nat) : (a : Int).tdiv (b : Int) = ((a / b : Nat) : Int) := rfl
theorem tm (a b : Nat) : (a : Int).tmod (b : Int) = ((a % b : Nat) : Int) := rfl
theorem fd (a b : Nat) : (a : Int).fdiv (b : Int) = ((a / b : Nat) : Int) := by rw [Int.fdiv_eq_ediv_of_nonneg _ (Int.natCast_nonneg _)]; rfl
theorem fdp (a k : Nat) : (a : Int).fdiv (2 ^ k) = ((a / 2 ^ k : Nat) : Int) := by rw [← fd]; congr 1
/-- A word that is reckoned. -/
theorem exD {z : Int} {P : UInt64 → Prop} (h : ((UInt64.ofNat z.toNat).toNat : Int) = z) (k : P (UInt64.ofNat z.toNat)) : ∃ c : UInt64, (c.toNat : Int) = z ∧ P c := ⟨_, h, k⟩
theorem exZ {z : Int} {P : Int → Prop} (k : P z) : ∃ c : Int, c = z ∧ P c := ⟨_, rfl, k⟩
/-- A condition, decided. -/
theorem split_ {p A B : Prop} (h1 : p → A) (h2 : ¬ p → B) [Decidable p] : (p → A) ∧ (¬ p → B) := ⟨h1, h2⟩
theorem loop_ {S : Type} {F : (S → Prop) → S → Prop} {s0 : S} (Inv : S → Nat → Prop) (m : Nat) (h0 : Inv s0 m) (h : ∀ s m, Inv s m → F (fun s' => ∃ m', m' < m ∧ Inv s' m') s) : LoopR F s0 := ⟨Inv, ⟨m, h0⟩, h⟩
end Go.Proofs.Ytpddiffpanihdaa
