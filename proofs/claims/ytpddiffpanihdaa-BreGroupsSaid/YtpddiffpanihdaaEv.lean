/- What a text asks for, reckoned: helps for the functions that reckon it. -/
import Derived.Test.YtpddiffpanihdaaRb
namespace Go.Proofs.Ytpddiffpanihdaa
instance (z : Int) : Decidable (InR z) := inferInstanceAs (Decidable (_ ∧ _))
instance (n b : Nat) : Decidable (Room n b) := inferInstanceAs (Decidable (_ ∧ _))
instance (l c : Int) (b : Nat) : Decidable (MakeOk l c b) := inferInstanceAs (Decidable (_ ∧ _ ∧ _ ∧ _))
theorem bind_ok {α β : Type} {x : Option α} {f : α → Option β} {r : β} (h : x.bind f = some r) : ∃ y, x = some y ∧ f y = some r := by
  cases x with
  | none => cases h
  | some y => exact ⟨y, rfl, h⟩
theorem if_ok {β : Type} {p : Prop} [Decidable p] {x : Option β} {r : β} (h : (if p then x else none) = some r) : p ∧ x = some r := by
  by_cases hp : p
  · rw [if_pos hp] at h; exact ⟨hp, h⟩
  · rw [if_neg hp] at h; cases h
def exB {β : Type} (z : Int) (f : UInt8 → Option β) : Option β := if ((UInt8.ofNat z.toNat).toNat : Int) = z then f (UInt8.ofNat z.toNat) else none
def exH {β : Type} (z : Int) (f : UInt16 → Option β) : Option β := if ((UInt16.ofNat z.toNat).toNat : Int) = z then f (UInt16.ofNat z.toNat) else none
def exW {β : Type} (z : Int) (f : UInt32 → Option β) : Option β := if ((UInt32.ofNat z.toNat).toNat : Int) = z then f (UInt32.ofNat z.toNat) else none
def exL {β : Type} (z : Int) (f : UInt64 → Option β) : Option β := if ((UInt64.ofNat z.toNat).toNat : Int) = z then f (UInt64.ofNat z.toNat) else none
theorem exB_ok {β : Type} {z : Int} {f : UInt8 → Option β} {r : β} (h : exB z f = some r) : ∃ c : UInt8, (c.toNat : Int) = z ∧ f c = some r := let ⟨a, b⟩ := if_ok h; ⟨_, a, b⟩
theorem exH_ok {β : Type} {z : Int} {f : UInt16 → Option β} {r : β} (h : exH z f = some r) : ∃ c : UInt16, (c.toNat : Int) = z ∧ f c = some r := let ⟨a, b⟩ := if_ok h; ⟨_, a, b⟩
theorem exW_ok {β : Type} {z : Int} {f : UInt32 → Option β} {r : β} (h : exW z f = some r) : ∃ c : UInt32, (c.toNat : Int) = z ∧ f c = some r := let ⟨a, b⟩ := if_ok h; ⟨_, a, b⟩
theorem exL_ok {β : Type} {z : Int} {f : UInt64 → Option β} {r : β} (h : exL z f = some r) : ∃ c : UInt64, (c.toNat : Int) = z ∧ f c = some r := let ⟨a, b⟩ := if_ok h; ⟨_, a, b⟩
/-- Either truth value may be told where nothing is known. -/
def bothE {β : Type} [DecidableEq β] (p : Bool) (f : Bool → Option β) : Option β := if p then f false else (f true).bind fun x => (f false).bind fun y => if x = y then some x else none
theorem bothE_ok {β : Type} [DecidableEq β] {p : Bool} {f : Bool → Option β} {r : β} (h : bothE p f = some r) (b : Bool) (hb : p = true → b = false) : f b = some r := by
  unfold bothE at h
  cases p with
  | true => rw [hb rfl]; exact h
  | false =>
    obtain ⟨x, h1, k1⟩ := bind_ok (show ((f true).bind fun x => (f false).bind fun y => if x = y then some x else none) = some r from h)
    obtain ⟨y, h2, k2⟩ := bind_ok k1
    obtain ⟨e, k3⟩ := if_ok k2
    have e3 := Option.some.inj k3
    cases b
    · rw [h2, ← e, e3]
    · rw [h1, e3]
def optE {α β : Type} (x : Option α) (f : Option β) (g : α → Option β) : Option β := match x with
  | none => f
  | some a => g a
def loopE {S β : Type} (B : (S → Option β) → S → Option β) : Nat → S → Option β
  | 0, _ => none
  | n + 1, s => B (loopE B n) s
theorem loopE_ok {S β : Type} {B : (S → Option β) → S → Option β} {F : (S → Prop) → S → Prop} {r : β} (hB : ∀ ae ag s, (∀ s', ae s' = some r → ag s') → B ae s = some r → F ag s) {n : Nat} {s0 : S} (h : loopE B n s0 = some r) : LoopR F s0 := by
  refine ⟨fun s m => loopE B m s = some r, ⟨n, h⟩, fun s m hs => ?_⟩
  cases m with
  | zero => cases hs
  | succ m => exact hB (loopE B m) _ s (fun s' h' => ⟨m, Nat.lt_succ_self m, h'⟩) hs
end Go.Proofs.Ytpddiffpanihdaa
