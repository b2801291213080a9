/- What memory reads as: a typed reading of cells, kept while its blocks stay as they are. -/
import Derived.Below
import Derived.Laws.OwnMore
import Derived.Maps.AppendAt
import Derived.Deep.Draws
import Derived.Laws.Rows
import Derived.OwnWalk
namespace Go.Proofs.Ytncnfohhjbadgaa
open Go.RowKit

theorem hide {p : Prop} (h : p) : Hid p := h
theorem bcell {W w1 : World} (hb : Below W.heap.size W w1) : (∀ b o, b < W.heap.size → w1.cell? ⟨b, o, none⟩ = W.cell? ⟨b, o, none⟩) ∧ (∀ b o, b < W.heap.size → w1.frozen? ⟨b, o, none⟩ = W.frozen? ⟨b, o, none⟩) :=
  ⟨fun b o h => hb.cell (p := ⟨b, o, none⟩) h, fun b o h => hb.frozen (p := ⟨b, o, none⟩) h⟩
theorem below_drewN {B : Nat} {a w : World} (h : Below B a w) (n : Nat) : Below B a (w.drewN n) := ⟨h.os, h.tape, h.output, h.size, h.block⟩
theorem bnext {a b c : World} (h : Below a.heap.size a b) (k : Below b.heap.size b c) : Below a.heap.size a c := h.trans (k.mono h.size)
theorem balloc (w : World) (o : Obj) : Below w.heap.size w (w.alloc o) := (Below.refl _ _).alloc (Nat.le_refl _) o
theorem bdrewN (w : World) (n : Nat) : Below w.heap.size w (w.drewN n) := below_drewN (Below.refl _ _) n
theorem block_add (a : Addr) (n : Nat) : (a.add n).block = a.block := by unfold Addr.add; split <;> rfl
theorem add_add (a : Addr) (i j : Nat) : (a.add i).add j = a.add (i + j) := by
  unfold Addr.add
  by_cases hi : i = 0 <;> by_cases hj : j = 0 <;> simp [hi, hj, Nat.add_assoc]
theorem add_zero_ (a : Addr) : a.add 0 = a := rfl

/-- A type of data that lies in 'size' cells, read within a set of blocks. -/
class Rp (α : Type) where
  size : Nat
  rep : (Nat → Prop) → World → List Value → α → Prop
  len : ∀ {S w cs x}, rep S w cs x → cs.length = size
  one : ∀ {S w cs x}, rep S w cs x → ∀ u ∈ cs, u.oneCell' = true
  keep : ∀ {S w w' cs x}, rep S w cs x → (∀ b, S b → w'.heap[b]? = w.heap[b]?) → rep S w' cs x
  sub : ∀ {S T : Nat → Prop} {w cs x}, rep S w cs x → (∀ b, S b → T b) → rep T w cs x

instance : Rp UInt8 := {
  size := 1
  rep _ _ cs x := cs = [.int .u8 x.toNat]
  len := by rintro _ _ _ _ rfl; rfl
  one := by rintro _ _ _ _ rfl u hu; simp at hu; subst hu; rfl
  keep h _ := h
  sub h _ := h }
instance : Rp Bool := {
  size := 1
  rep _ _ cs x := cs = [.bool x]
  len := by rintro _ _ _ _ rfl; rfl
  one := by rintro _ _ _ _ rfl u hu; simp at hu; subst hu; rfl
  keep h _ := h
  sub h _ := h }
/-- An int's range. -/
def I64 (x : Int) : Prop := -9223372036854775808 ≤ x ∧ x ≤ 9223372036854775807
instance : Rp Int := {
  size := 1
  rep _ _ cs x := cs = [.int .i64 x] ∧ I64 x
  len := by rintro _ _ _ _ ⟨rfl, _⟩; rfl
  one := by rintro _ _ _ _ ⟨rfl, _⟩ u hu; simp at hu; subst hu; rfl
  keep h _ := h
  sub h _ := h }
/-- Two fields, one behind the other. -/
instance {α β : Type} [Rp α] [Rp β] : Rp (α × β) := {
  size := Rp.size α + Rp.size β
  rep S w cs x := ∃ c d, cs = c ++ d ∧ Rp.rep S w c x.1 ∧ Rp.rep S w d x.2
  len := by rintro _ _ _ _ ⟨c, d, rfl, h1, h2⟩; rw [List.length_append, Rp.len h1, Rp.len h2]
  one := by
    rintro _ _ _ _ ⟨c, d, rfl, h1, h2⟩ u hu
    rcases List.mem_append.1 hu with h | h
    · exact Rp.one h1 u h
    · exact Rp.one h2 u h
  keep := by rintro _ _ _ _ _ ⟨c, d, rfl, h1, h2⟩ h; exact ⟨c, d, rfl, Rp.keep h1 h, Rp.keep h2 h⟩
  sub := by rintro _ _ _ _ _ ⟨c, d, rfl, h1, h2⟩ h; exact ⟨c, d, rfl, Rp.sub h1 h, Rp.sub h2 h⟩ }

/-- The elements from an address on. -/
def RowAt {α : Type} [Rp α] (S : Nat → Prop) (w : World) (b o : Nat) (xs : List α) : Prop :=
  ∀ i x, xs[i]? = some x → ∃ cs, (∀ j u, cs[j]? = some u → w.cell? ⟨b, o + i * Rp.size α + j, none⟩ = some u) ∧ Rp.rep S w cs x
theorem RowAt.keep {α : Type} [Rp α] {S : Nat → Prop} {w w' : World} {b o : Nat} {xs : List α} (h : RowAt S w b o xs) (hS : S b) (hk : ∀ b, S b → w'.heap[b]? = w.heap[b]?) : RowAt S w' b o xs := by
  intro i x hx
  obtain ⟨cs, hc, hr⟩ := h i x hx
  exact ⟨cs, fun j u hu => by rw [World.cell?_of_block (w := w) (hk _ hS)]; exact hc j u hu, Rp.keep hr hk⟩

/-- A slice value that reads as a list. -/
def SlRep {α : Type} [Rp α] (S : Nat → Prop) (w : World) (A : Option Addr) (n c : Nat) (xs : List α) : Prop :=
  xs.length = n ∧ (n ≤ c ∧ c ≤ maxLen) ∧ (0 < n → ∃ b o, A = some ⟨b, o, none⟩ ∧ S b ∧ RowAt S w b o xs)

instance {α : Type} [Rp α] : Rp (List α) := {
  size := 1
  rep S w cs xs := ∃ A n c, cs = [.slice A n c] ∧ SlRep S w A n c xs
  len := by rintro _ _ _ _ ⟨A, n, c, rfl, _⟩; rfl
  one := by rintro _ _ _ _ ⟨A, n, c, rfl, _⟩ u hu; simp at hu; subst hu; rfl
  keep := by
    rintro _ _ _ _ _ ⟨A, n, c, rfl, hl, hc, h⟩ hk
    refine ⟨A, n, c, rfl, hl, hc, fun hn => ?_⟩
    obtain ⟨b0, o, rfl, hS, hr⟩ := h hn
    exact ⟨b0, o, rfl, hS, hr.keep hS hk⟩
  sub := by
    rintro _ _ _ _ _ ⟨A, n, c, rfl, hl, hc, h⟩ hk
    refine ⟨A, n, c, rfl, hl, hc, fun hn => ?_⟩
    obtain ⟨b0, o, rfl, hS, hr⟩ := h hn
    refine ⟨b0, o, rfl, hk _ hS, fun i x hx => ?_⟩
    obtain ⟨cs, hc, hr⟩ := hr i x hx
    exact ⟨cs, hc, Rp.sub hr hk⟩ }

section
variable {α : Type} [Rp α] {S T : Nat → Prop} {w w' : World} {A : Option Addr} {n c : Nat} {xs : List α}
theorem SlRep.keep (h : SlRep S w A n c xs) (hk : ∀ b, S b → w'.heap[b]? = w.heap[b]?) : SlRep S w' A n c xs := by
  refine ⟨h.1, h.2.1, fun hn => ?_⟩
  obtain ⟨b0, o, rfl, hS, hr⟩ := h.2.2 hn
  exact ⟨b0, o, rfl, hS, hr.keep hS hk⟩
theorem SlRep.sub (h : SlRep S w A n c xs) (hk : ∀ b, S b → T b) : SlRep T w A n c xs := by
  refine ⟨h.1, h.2.1, fun hn => ?_⟩
  obtain ⟨b0, o, rfl, hS, hr⟩ := h.2.2 hn
  refine ⟨b0, o, rfl, hk _ hS, fun i x hx => ?_⟩
  obtain ⟨cs, hc, hr⟩ := hr i x hx
  exact ⟨cs, hc, Rp.sub hr hk⟩
theorem SlRep.below {B : Nat} (h : SlRep S w A n c xs) (hS : ∀ b, S b → b < B) (hb : Below B w w') : SlRep S w' A n c xs := h.keep fun b hb' => hb.block b (hS b hb')
theorem SlRep.set_ (h : SlRep S w A n c xs) {p : Addr} (hp : ¬ S p.block) (u : Value) : SlRep S (w.setCell p u) A n c xs :=
  h.keep fun _ hb => Below.heap_setCell _ _ _ _ fun e => hp (e ▸ hb)
theorem SlRep.later (h : SlRep S w A n c xs) (hS : ∀ b, S b → b < w.heap.size) : ∀ W, Below w.heap.size w W → SlRep S W A n c xs := fun _ hb => h.below hS hb
/-- The element at a place: its address, its cells. -/
theorem SlRep.at_ {k : Nat} (h : SlRep S w A n c xs) (hk : k < n) :
    ∃ b o x cs, A = some ⟨b, o, none⟩ ∧ S b ∧ xs[k]? = some x ∧ (∀ j u, cs[j]? = some u → w.cell? ⟨b, o + k * Rp.size α + j, none⟩ = some u) ∧ Rp.rep S w cs x := by
  obtain ⟨b0, o, rfl, hS, hr⟩ := h.2.2 (by omega)
  have hl : k < xs.length := by have := h.1; omega
  obtain ⟨cs, hc, hr⟩ := hr k xs[k] (List.getElem?_eq_getElem hl)
  exact ⟨b0, o, xs[k], cs, rfl, hS, List.getElem?_eq_getElem hl, hc, hr⟩
theorem SlRep.nil_ (S : Nat → Prop) (w : World) (A : Option Addr) (c : Nat) (hc : c ≤ maxLen) : SlRep S w A 0 c ([] : List α) := ⟨rfl, ⟨Nat.zero_le _, hc⟩, fun h => absurd h (by omega)⟩
end
theorem SlRep.drop {α : Type} [Rp α] {S : Nat → Prop} {w : World} {A : Option Addr} {n c k : Nat} {xs : List α} (h : SlRep S w A n c xs) (hk : k < n) :
    ∃ b o, A = some ⟨b, o, none⟩ ∧ S b ∧ SlRep S w (some ⟨b, o + k * Rp.size α, none⟩) (n - k) (c - k) (xs.drop k) := by
  obtain ⟨b0, o, rfl, hS, hr⟩ := h.2.2 (by omega)
  refine ⟨b0, o, rfl, hS, by rw [List.length_drop, h.1], by have := h.2.1; omega, fun hn => ⟨b0, _, rfl, hS, fun i x hx => ?_⟩⟩
  obtain ⟨cs, hc, hr'⟩ := hr (k + i) x (by rw [List.getElem?_drop] at hx; exact hx)
  refine ⟨cs, fun j u hu => ?_, hr'⟩
  rw [← hc j u hu, Nat.add_mul, Nat.add_assoc o]
theorem SlRep.take {α : Type} [Rp α] {S : Nat → Prop} {w : World} {A : Option Addr} {n c k : Nat} {xs : List α} (h : SlRep S w A n c xs) (hk : k ≤ n) :
    SlRep S w A k c (xs.take k) := by
  refine ⟨by rw [List.length_take, h.1]; omega, by have := h.2.1; omega, fun hn => ?_⟩
  obtain ⟨b0, o, rfl, hS, hr⟩ := h.2.2 (by omega)
  refine ⟨_, _, rfl, hS, fun i x hx => ?_⟩
  rw [List.getElem?_take] at hx
  split at hx
  · exact hr i x hx
  · cases hx

/-- Bytes from a place on. -/
theorem SlRep.dropB {S : Nat → Prop} {w : World} {A : Option Addr} {n c k : Nat} {xs : List UInt8} (h : SlRep S w A n c xs) (hk : k < n) :
    ∃ b o, A = some ⟨b, o, none⟩ ∧ S b ∧ SlRep S w (some ⟨b, o + k, none⟩) (n - k) (c - k) (xs.drop k) := by
  obtain ⟨b0, o, rfl, hS, h1⟩ := h.drop hk
  rw [show k * Rp.size UInt8 = k from Nat.mul_one k] at h1
  exact ⟨b0, o, rfl, hS, h1⟩
/-- A byte of a list of bytes: the byte is a variable. -/
theorem SlRep.byte {S : Nat → Prop} {w : World} {A : Option Addr} {n c k : Nat} {xs : List UInt8} (h : SlRep S w A n c xs) (hk : k < n) :
    ∃ b o x, A = some ⟨b, o, none⟩ ∧ S b ∧ xs[k]? = some x ∧ w.cell? ⟨b, o + k, none⟩ = some (.int .u8 (x.toNat : Int)) := by
  obtain ⟨b0, o, x, cs, rfl, hS, hx, hc, hr⟩ := h.at_ hk
  have hr : cs = [.int .u8 x.toNat] := hr
  subst hr
  have := hc 0 _ rfl
  refine ⟨b0, o, x, rfl, hS, hx, ?_⟩
  have e : (Rp.size UInt8) = 1 := rfl
  rw [e, Nat.mul_one, Nat.add_zero] at this
  exact this
end Go.Proofs.Ytncnfohhjbadgaa
