
/- What memory reads as: a typed reading of cells, kept while its blocks stay as they are. -/
import Derived.Below
import Derived.Laws.OwnMore
import Derived.Maps.AppendAt
import Derived.Deep.Draws
import Derived.Laws.Rows
import Derived.OwnWalk
namespace Go.Proofs.Ytncnfohhjbadgaa
open Go.RowKit

theorem add_add (a : Addr) (i j : Nat) : (a.add i).add j = a.add (i + j) := by
  unfold Addr.add
  by_cases hi : i = 0 <;> by_cases hj : j = 0 <;> simp [hi, hj, Nat.add_assoc]
/-- A type of data that lies in 'size' cells, read within a set of blocks. -/
class Rp (α : Type) where
  size : Nat
  rep : (Nat → Prop) → World → List Value → α → Prop
  len : ∀ {S w cs x}, rep S w cs x → cs.length = size
  one : ∀ {S w cs x}, rep S w cs x → ∀ u ∈ cs, u.oneCell' = true
  keep : ∀ {S w w' cs x}, rep S w cs x → (∀ b, S b → w'.heap[b]? = w.heap[b]?) → rep S w' cs x
  sub : ∀ {S T : Nat → Prop} {w cs x}, rep S w cs x → (∀ b, S b → T b) → rep T w cs x

instance : Rp UInt8 := {
  size := 1
  rep _ _ cs x := cs = [.int .u8 x.toNat]
  len := by rintro _ _ _ _ rfl; rfl
  one := by rintro _ _ _ _ rfl u hu; simp at hu; subst hu; rfl
  keep h _ := h
  sub h _ := h }
instance : Rp Bool := {
  size := 1
  rep _ _ cs x := cs = [.bool x]
  len := by rintro _ _ _ _ rfl; rfl
  one := by rintro _ _ _ _ rfl u hu; simp at hu; subst hu; rfl
  keep h _ := h
  sub h _ := h }
/-- An int's range. -/
def I64 (x : Int) : Prop := -9223372036854775808 ≤ x ∧ x ≤ 9223372036854775807
instance : Rp Int := {
  size := 1
  rep _ _ cs x := cs = [.int .i64 x] ∧ I64 x
  len := by rintro _ _ _ _ ⟨rfl, _⟩; rfl
  one := by rintro _ _ _ _ ⟨rfl, _⟩ u hu; simp at hu; subst hu; rfl
  keep h _ := h
  sub h _ := h }
/-- Two fields, one behind the other. -/
instance {α β : Type} [Rp α] [Rp β] : Rp (α × β) := {
  size := Rp.size α + Rp.size β
  rep S w cs x := ∃ c d, cs = c ++ d ∧ Rp.rep S w c x.1 ∧ Rp.rep S w d x.2
  len := by rintro _ _ _ _ ⟨c, d, rfl, h1, h2⟩; rw [List.length_append, Rp.len h1, Rp.len h2]
  one := by
    rintro _ _ _ _ ⟨c, d, rfl, h1, h2⟩ u hu
    rcases List.mem_append.1 hu with h | h
    · exact Rp.one h1 u h
    · exact Rp.one h2 u h
  keep := by rintro _ _ _ _ _ ⟨c, d, rfl, h1, h2⟩ h; exact ⟨c, d, rfl, Rp.keep h1 h, Rp.keep h2 h⟩
  sub := by rintro _ _ _ _ _ ⟨c, d, rfl, h1, h2⟩ h; exact ⟨c, d, rfl, Rp.sub h1 h, Rp.sub h2 h⟩ }

/-- The elements from an address on. -/
def RowAt {α : Type} [Rp α] (S : Nat → Prop) (w : World) (b o : Nat) (xs : List α) : Prop :=
  ∀ i x, xs[i]? = some x → ∃ cs, (∀ j u, cs[j]? = some u → w.cell? ⟨b, o + i * Rp.size α + j, none⟩ = some u) ∧ Rp.rep S w cs x
theorem RowAt.keep {α : Type} [Rp α] {S : Nat → Prop} {w w' : World} {b o : Nat} {xs : List α} (h : RowAt S w b o xs) (hS : S b) (hk : ∀ b, S b → w'.heap[b]? = w.heap[b]?) : RowAt S w' b o xs := by
  intro i x hx
  obtain ⟨cs, hc, hr⟩ := h i x hx
  exact ⟨cs, fun j u hu => by rw [World.cell?_of_block (w := w) (hk _ hS)]; exact hc j u hu, Rp.keep hr hk⟩

/-- A slice value that reads as a list. -/
def SlRep {α : Type} [Rp α] (S : Nat → Prop) (w : World) (A : Option Addr) (n c : Nat) (xs : List α) : Prop :=
  xs.length = n ∧ (n ≤ c ∧ c ≤ maxLen) ∧ (0 < n → ∃ b o, A = some ⟨b, o, none⟩ ∧ S b ∧ RowAt S w b o xs)

instance {α : Type} [Rp α] : Rp (List α) := {
  size := 1
  rep S w cs xs := ∃ A n c, cs = [.slice A n c] ∧ SlRep S w A n c xs
  len := by rintro _ _ _ _ ⟨A, n, c, rfl, _⟩; rfl
  one := by rintro _ _ _ _ ⟨A, n, c, rfl, _⟩ u hu; simp at hu; subst hu; rfl
  keep := by
    rintro _ _ _ _ _ ⟨A, n, c, rfl, hl, hc, h⟩ hk
    refine ⟨A, n, c, rfl, hl, hc, fun hn => ?_⟩
    obtain ⟨b0, o, rfl, hS, hr⟩ := h hn
    exact ⟨b0, o, rfl, hS, hr.keep hS hk⟩
  sub := by
    rintro _ _ _ _ _ ⟨A, n, c, rfl, hl, hc, h⟩ hk
    refine ⟨A, n, c, rfl, hl, hc, fun hn => ?_⟩
    obtain ⟨b0, o, rfl, hS, hr⟩ := h hn
    refine ⟨b0, o, rfl, hk _ hS, fun i x hx => ?_⟩
    obtain ⟨cs, hc, hr⟩ := hr i x hx
    exact ⟨cs, hc, Rp.sub hr hk⟩ }

section
variable {α : Type} [Rp α] {S T : Nat → Prop} {w w' : World} {A : Option Addr} {n c : Nat} {xs : List α}
theorem SlRep.nil_ (S : Nat → Prop) (w : World) (A : Option Addr) (c : Nat) (hc : c ≤ maxLen) : SlRep S w A 0 c ([] : List α) := ⟨rfl, ⟨Nat.zero_le _, hc⟩, fun h => absurd h (by omega)⟩
end
end Go.Proofs.Ytncnfohhjbadgaa
