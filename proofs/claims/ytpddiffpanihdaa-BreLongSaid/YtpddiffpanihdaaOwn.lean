
/- Slices that a call makes for itself: what they hold, and what an append makes of them. -/
import Derived.Test.YtpddiffpanihdaaMem
import Derived.Laws.AppendOwnNone
import Derived.Laws.IdiomStrings
namespace Go.Proofs.Ytpddiffpanihdaa
open Go.RowKit

/-- Cells that are the elements of a list, one behind the other. -/
def Chunks {α : Type} [Rp α] (S : Nat → Prop) (w : World) : List Value → List α → Prop
  | cells, [] => cells = []
  | cells, x :: xs => ∃ cs rest, cells = cs ++ rest ∧ Rp.rep S w cs x ∧ Chunks S w rest xs

section
variable {α : Type} [Rp α] {S T : Nat → Prop} {w w' : World}
theorem Chunks.length : ∀ {xs : List α} {cells}, Chunks S w cells xs → cells.length = xs.length * Rp.size α
  | [], _, h => by rw [show _ = [] from h]; simp
  | x :: xs, _, ⟨cs, rest, e, h1, h2⟩ => by rw [e, List.length_append, Rp.len h1, h2.length, List.length_cons, Nat.add_mul]; omega
theorem Chunks.one : ∀ {xs : List α} {cells}, Chunks S w cells xs → ∀ u ∈ cells, u.oneCell' = true
  | [], _, h => by rw [show _ = [] from h]; simp
  | x :: xs, _, ⟨cs, rest, e, h1, h2⟩ => by
    intro u hu
    rw [e] at hu
    rcases List.mem_append.1 hu with h | h
    · exact Rp.one h1 u h
    · exact h2.one u h
theorem Chunks.keep (hk : ∀ b, S b → w'.heap[b]? = w.heap[b]?) : ∀ {xs : List α} {cells}, Chunks S w cells xs → Chunks S w' cells xs
  | [], _, h => h
  | _ :: _, _, ⟨cs, rest, e, h1, h2⟩ => ⟨cs, rest, e, Rp.keep h1 hk, h2.keep hk⟩
theorem Chunks.sub (hk : ∀ b, S b → T b) : ∀ {xs : List α} {cells}, Chunks S w cells xs → Chunks T w cells xs
  | [], _, h => h
  | _ :: _, _, ⟨cs, rest, e, h1, h2⟩ => ⟨cs, rest, e, Rp.sub h1 hk, h2.sub hk⟩
end

/-- A slice type of a program: its elements' type, how many cells and bytes each has. -/
structure RowTy (P : Program) (t E : TypeId) (size bytes : Nat) : Prop where
  und : P.underlying t = some (.slice E)
  info : ∃ i z, P.info? E = some i ∧ i.zero = some z ∧ i.size = size ∧ i.bytes = bytes ∧ z.cells.size = size
  pos : 0 < size

/-- A slice of the call's own: nil, or a row from block 'base' on; its elements are read within S, which the row itself is not in. -/
structure Own {α : Type} [Rp α] (S : Nat → Prop) (w : World) (base : Nat) (E : TypeId) (v : Value) (xs : List α) : Prop where
  row : ∃ cells, w.ownsRow base E (Rp.size α) v xs.length cells ∧ Chunks S w cells xs
  lt : ∀ b, S b → b < w.heap.size
  off : ∀ b, S b → v.ownBlock ≠ some b

section
variable {α : Type} [Rp α] {S T : Nat → Prop} {w w' : World} {base : Nat} {E : TypeId} {v : Value} {xs : List α}
end

section
variable {P : Program} {α : Type} [Rp α] {S : Nat → Prop} {w : World}
end
end Go.Proofs.Ytpddiffpanihdaa
