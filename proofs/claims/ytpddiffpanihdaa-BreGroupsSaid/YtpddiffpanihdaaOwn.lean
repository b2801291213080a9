/- Slices that a call makes for itself: what they hold, and what an append makes of them. -/
import Derived.Test.YtpddiffpanihdaaMem
import Derived.Laws.AppendOwnNone
import Derived.Laws.IdiomStrings
namespace Go.Proofs.Ytpddiffpanihdaa
open Go.RowKit

/-- Cells that are the elements of a list, one behind the other. -/
def Chunks {α : Type} [Rp α] (S : Nat → Prop) (w : World) : List Value → List α → Prop
  | cells, [] => cells = []
  | cells, x :: xs => ∃ cs rest, cells = cs ++ rest ∧ Rp.rep S w cs x ∧ Chunks S w rest xs

section
variable {α : Type} [Rp α] {S T : Nat → Prop} {w w' : World}
theorem Chunks.length : ∀ {xs : List α} {cells}, Chunks S w cells xs → cells.length = xs.length * Rp.size α
  | [], _, h => by rw [show _ = [] from h]; simp
  | x :: xs, _, ⟨cs, rest, e, h1, h2⟩ => by rw [e, List.length_append, Rp.len h1, h2.length, List.length_cons, Nat.add_mul]; omega
theorem Chunks.one : ∀ {xs : List α} {cells}, Chunks S w cells xs → ∀ u ∈ cells, u.oneCell' = true
  | [], _, h => by rw [show _ = [] from h]; simp
  | x :: xs, _, ⟨cs, rest, e, h1, h2⟩ => by
    intro u hu
    rw [e] at hu
    rcases List.mem_append.1 hu with h | h
    · exact Rp.one h1 u h
    · exact h2.one u h
theorem Chunks.keep (hk : ∀ b, S b → w'.heap[b]? = w.heap[b]?) : ∀ {xs : List α} {cells}, Chunks S w cells xs → Chunks S w' cells xs
  | [], _, h => h
  | _ :: _, _, ⟨cs, rest, e, h1, h2⟩ => ⟨cs, rest, e, Rp.keep h1 hk, h2.keep hk⟩
theorem Chunks.sub (hk : ∀ b, S b → T b) : ∀ {xs : List α} {cells}, Chunks S w cells xs → Chunks T w cells xs
  | [], _, h => h
  | _ :: _, _, ⟨cs, rest, e, h1, h2⟩ => ⟨cs, rest, e, Rp.sub h1 hk, h2.sub hk⟩
theorem Chunks.append {ys : List α} {ds} (h' : Chunks S w ds ys) : ∀ {xs : List α} {cells}, Chunks S w cells xs → Chunks S w (cells ++ ds) (xs ++ ys)
  | [], _, h => by rw [show _ = [] from h]; exact h'
  | _ :: _, _, ⟨cs, rest, e, h1, h2⟩ => ⟨cs, rest ++ ds, by rw [e, List.append_assoc], h1, Chunks.append h' h2⟩
theorem Chunks.single {x : α} {cs} (h : Rp.rep S w cs x) : Chunks S w cs [x] := ⟨cs, [], by simp, h, rfl⟩
/-- The element at a place. -/
theorem Chunks.at_ : ∀ {xs : List α} {cells}, Chunks S w cells xs → ∀ {k x}, xs[k]? = some x → ∃ cs, Rp.rep S w cs x ∧ ∀ j u, cs[j]? = some u → cells[k * Rp.size α + j]? = some u
  | [], _, _, k, x, hx => by simp at hx
  | y :: xs, _, ⟨cs, rest, e, h1, h2⟩, 0, x, hx => by
    simp at hx; subst hx
    refine ⟨cs, h1, fun j u hu => ?_⟩
    have hj : j < cs.length := (List.getElem?_eq_some_iff.1 hu).1
    rw [e, Nat.zero_mul, Nat.zero_add, List.getElem?_append_left hj]; exact hu
  | y :: xs, _, ⟨cs, rest, e, h1, h2⟩, k + 1, x, hx => by
    obtain ⟨ds, hd, hc⟩ := h2.at_ (k := k) (x := x) (by simpa using hx)
    refine ⟨ds, hd, fun j u hu => ?_⟩
    rw [e, show (k + 1) * Rp.size α + j = cs.length + (k * Rp.size α + j) by rw [Rp.len h1, Nat.add_mul]; omega, List.getElem?_append_right (by omega), show cs.length + (k * Rp.size α + j) - cs.length = k * Rp.size α + j by omega]
    exact hc j u hu
/-- The cells of a row. -/
theorem RowAt.chunks : ∀ {xs : List α} {b o : Nat}, RowAt S w b o xs → ∃ cells, Chunks S w cells xs ∧ ∀ j u, cells[j]? = some u → w.cell? ⟨b, o + j, none⟩ = some u
  | [], _, _, _ => ⟨[], rfl, fun j u hu => by simp at hu⟩
  | x :: xs, b, o, h => by
    obtain ⟨cs, hc, hr⟩ := h 0 x rfl
    have h' : RowAt S w b (o + Rp.size α) xs := by
      intro i y hy
      obtain ⟨ds, hd, hr'⟩ := h (i + 1) y (by simpa using hy)
      refine ⟨ds, fun j u hu => ?_, hr'⟩
      rw [← hd j u hu, Nat.add_mul]; congr 2; omega
    obtain ⟨cells, hch, hcs⟩ := h'.chunks
    refine ⟨cs ++ cells, ⟨cs, cells, rfl, hr, hch⟩, fun j u hu => ?_⟩
    rcases Nat.lt_or_ge j cs.length with hj | hj
    · rw [List.getElem?_append_left hj] at hu
      have := hc j u hu
      rwa [Nat.zero_mul, Nat.add_zero] at this
    · rw [List.getElem?_append_right hj] at hu
      have := hcs _ u hu
      rw [← this]; congr 2; have := Rp.len hr; omega
theorem add_mk (b o j : Nat) : (⟨b, o, none⟩ : Addr).add j = ⟨b, o + j, none⟩ := by unfold Addr.add; split <;> simp_all
end

/-- A slice type of a program: its elements' type, how many cells and bytes each has. -/
structure RowTy (P : Program) (t E : TypeId) (size bytes : Nat) : Prop where
  und : P.underlying t = some (.slice E)
  info : ∃ i z, P.info? E = some i ∧ i.zero = some z ∧ i.size = size ∧ i.bytes = bytes ∧ z.cells.size = size
  pos : 0 < size

/-- A slice of the call's own: nil, or a row from block 'base' on; its elements are read within S, which the row itself is not in. -/
structure Own {α : Type} [Rp α] (S : Nat → Prop) (w : World) (base : Nat) (E : TypeId) (v : Value) (xs : List α) : Prop where
  row : ∃ cells, w.ownsRow base E (Rp.size α) v xs.length cells ∧ Chunks S w cells xs
  lt : ∀ b, S b → b < w.heap.size
  off : ∀ b, S b → v.ownBlock ≠ some b

section
variable {α : Type} [Rp α] {S T : Nat → Prop} {w w' : World} {base : Nat} {E : TypeId} {v : Value} {xs : List α}
theorem Own.nil_ (S : Nat → Prop) (w : World) (base : Nat) (E : TypeId) (h : ∀ b, S b → b < w.heap.size) : Own S w base E (.slice none 0 0) ([] : List α) :=
  ⟨⟨[], World.ownsRow_nil w base E _, rfl⟩, h, fun b _ => by simp [Value.ownBlock]⟩
theorem Own.block (h : Own S w base E v xs) : ∀ g, v.ownBlock = some g → base ≤ g ∧ g < w.heap.size := by
  obtain ⟨cells, h1, _⟩ := h.row; exact h1.lt
theorem Own.form (h : Own S w base E v xs) : ∃ A c, v = .slice A xs.length c ∧ xs.length ≤ c ∧ c ≤ maxLen := by
  obtain ⟨cells, h1, _⟩ := h.row
  rcases h1.2 with ⟨rfl, h0⟩ | ⟨g, cap, cur, rfl, _, _, hn, hm, _⟩
  · exact ⟨none, 0, by rw [h0], by omega, by simp [maxLen]⟩
  · exact ⟨_, cap, rfl, hn, hm⟩
/-- What the call owns reads as a list. -/
theorem Own.sl (h : Own S w base E v xs) : ∃ A c, v = .slice A xs.length c ∧ c ≤ maxLen ∧ SlRep (fun b => S b ∨ v.ownBlock = some b) w A xs.length c xs := by
  obtain ⟨cells, h1, h2⟩ := h.row
  rcases h1.2 with ⟨rfl, h0⟩ | ⟨g, cap, cur, rfl, hg, hh, hn, hm, hs, ht⟩
  · have hx : xs = [] := List.eq_nil_of_length_eq_zero h0
    subst hx
    exact ⟨none, 0, rfl, by simp [maxLen], SlRep.nil_ _ _ _ _ (by simp [maxLen])⟩
  · refine ⟨_, cap, rfl, hm, rfl, ⟨hn, hm⟩, fun hp => ⟨_, _, rfl, .inr rfl, fun i x hx => ?_⟩⟩
    obtain ⟨cs, hr, hc⟩ := h2.at_ hx
    exact ⟨cs, fun j u hu => by have := h1.cells (g := g) rfl _ u (hc j u hu); rw [add_mk] at this; rw [Nat.add_assoc]; exact this, Rp.sub hr fun b hb => .inl hb⟩
theorem Own.kept {row : Option Nat} (h : Own S w base E v xs) (hg : w.grownBy w' row) (hne : v.ownBlock = none ∨ v.ownBlock ≠ row) (hS : ∀ b, S b → some b ≠ row) : Own S w' base E v xs := by
  obtain ⟨cells, h1, h2⟩ := h.row
  exact ⟨⟨cells, h1.kept hg hne, h2.keep fun b hb => hg.block b (h.lt b hb) (hS b hb)⟩, fun b hb => Nat.lt_of_lt_of_le (h.lt b hb) hg.size, h.off⟩
theorem grown_of_below (h : Below w.heap.size w w') (row : Option Nat) : w.grownBy w' row := ⟨h.os, h.tape, h.output, h.size, fun i hi _ => h.block i hi⟩
theorem Own.below (h : Own S w base E v xs) (hb : Below w.heap.size w w') : Own S w' base E v xs := by
  refine h.kept (row := Option.none) (grown_of_below hb _) ?_ (fun b _ => by simp)
  cases h' : v.ownBlock with
  | none => exact .inl rfl
  | some g => exact .inr (by simp)
theorem Own.alloc (h : Own S w base E v xs) (o : Obj) : Own S (w.alloc o) base E v xs := h.below ((Below.refl _ _).alloc (Nat.le_refl _) o)
theorem Own.drew (h : Own S w base E v xs) : Own S w.drew base E v xs := h.below (Below.refl _ _).drew
theorem Own.drewN (h : Own S w base E v xs) (k : Nat) : Own S (w.drewN k) base E v xs := h.below ⟨rfl, rfl, rfl, Nat.le_refl _, fun _ _ => rfl⟩
theorem Own.sub (h : Own S w base E v xs) (hk : ∀ b, S b → T b) (hlt : ∀ b, T b → b < w.heap.size) (hoff : ∀ b, T b → v.ownBlock ≠ some b) : Own T w base E v xs := by
  obtain ⟨cells, h1, h2⟩ := h.row
  exact ⟨⟨cells, h1, h2.sub hk⟩, hlt, hoff⟩
theorem Own.base_le {b0 : Nat} (h : Own S w base E v xs) (hb : b0 ≤ base) : Own S w b0 E v xs := by
  obtain ⟨cells, ⟨h0, h1⟩, h2⟩ := h.row
  refine ⟨⟨cells, ⟨h0, ?_⟩, h2⟩, h.lt, h.off⟩
  rcases h1 with h1 | ⟨g, cap, cur, hv, hg, r⟩
  · exact .inl h1
  · exact .inr ⟨g, cap, cur, hv, by omega, r⟩
/-- A new row of given cells. -/
theorem Own.new_ (w : World) (cs : Array Value) (E : TypeId) (n : Nat) (hl : xs.length = n) (hn : n ≤ maxLen) (hlt : ∀ b, S b → b < w.heap.size) (hb : base ≤ w.heap.size) (h : Chunks S (w.alloc (.cells cs E)) cs.toList xs) :
    Own S (w.alloc (.cells cs E)) base E (.slice (some ⟨w.heap.size, 0, none⟩) n n) xs := by
  subst hl
  refine ⟨⟨cs.toList, World.ownsRow_lit w cs _ hb hn ?_, h⟩, fun b hb => Nat.lt_of_lt_of_le (hlt b hb) (by simp), fun b hb => ?_⟩
  · have := h.length; simpa using this
  · have := hlt b hb; simp [Value.ownBlock]; omega
end

theorem grown_setCell (w : World) (p : Addr) (u : Value) : w.grownBy (w.setCell p u) (some p.block) :=
  ⟨rfl, rfl, rfl, by simp [World.setCell], fun k _ hk => Below.heap_setCell w p u k fun e => hk (by rw [e])⟩
theorem Own.setFar {α : Type} [Rp α] {S : Nat → Prop} {w : World} {base : Nat} {E : TypeId} {v : Value} {xs : List α} (h : Own S w base E v xs) {p : Addr} (hp : v.ownBlock ≠ some p.block) (hS : ¬ S p.block) (u : Value) : Own S (w.setCell p u) base E v xs :=
  h.kept (grown_setCell w p u) (.inr hp) fun b hb e => hS (by injection e with e; exact e ▸ hb)
/-- Both cells of a box are written. -/
theorem two_set {w : World} {g : Nat} {u0 u1 : Value} (v0 v1 : Value) (h0 : w.cell? ⟨g, 0, none⟩ = some u0) (h1 : w.cell? ⟨g, 1, none⟩ = some u1) :
    ((w.setCell ⟨g, 0, none⟩ v0).setCell ⟨g, 1, none⟩ v1).cell? ⟨g, 0, none⟩ = some v0 ∧ ((w.setCell ⟨g, 0, none⟩ v0).setCell ⟨g, 1, none⟩ v1).cell? ⟨g, 1, none⟩ = some v1 := by
  have e : (w.setCell ⟨g, 0, none⟩ v0).cell? ⟨g, 1, none⟩ = some u1 := (World.cell?_setCell_other w _ _ _ (by simp)).trans h1
  exact ⟨(World.cell?_setCell_other _ _ _ _ (by simp)).trans (World.cell?_setCell_same w _ _ h0), World.cell?_setCell_same _ _ _ e⟩
/-- What a step leaves that writes one row of the call's own at most. -/
theorem gcell {w w' : World} {row : Option Nat} (hg : w.grownBy w' row) {g o : Nat} (hlt : g < w.heap.size) (hne : row ≠ some g) : w'.cell? ⟨g, o, none⟩ = w.cell? ⟨g, o, none⟩ ∧ w'.frozen? ⟨g, o, none⟩ = w.frozen? ⟨g, o, none⟩ :=
  ⟨World.cell?_of_block (w := w) (hg.block g hlt fun e => hne e.symm), World.frozen?_of_block (w := w) (hg.block g hlt fun e => hne e.symm)⟩
/-- Bytes are read within no other block. -/
theorem Chunks.flat {S T : Nat → Prop} {w w' : World} : ∀ {xs : List UInt8} {cells}, Chunks S w cells xs → Chunks T w' cells xs
  | [], _, h => h
  | _ :: _, _, ⟨cs, rest, e, h1, h2⟩ => ⟨cs, rest, e, h1, Chunks.flat h2⟩
/-- Bytes of the call's own. -/
abbrev OwnB (w : World) (base : Nat) (E : TypeId) (v : Value) (xs : List UInt8) : Prop := Own (fun _ => False) w base E v xs
theorem Own.flat {S : Nat → Prop} {w : World} {base : Nat} {E : TypeId} {v : Value} {xs : List UInt8} (h : Own S w base E v xs) : OwnB w base E v xs := by
  obtain ⟨cells, h1, h2⟩ := h.row
  exact ⟨⟨cells, h1, h2.flat⟩, fun _ h => h.elim, fun _ h => h.elim⟩
theorem OwnB.nil_ (w : World) (base : Nat) (E : TypeId) : OwnB w base E (.slice none 0 0) [] := Own.nil_ _ _ _ _ fun _ h => h.elim
theorem OwnB.grown {w w' : World} {base : Nat} {E : TypeId} {v : Value} {xs : List UInt8} {row : Option Nat} (h : OwnB w base E v xs) (hg : w.grownBy w' row) (hne : v.ownBlock = none ∨ v.ownBlock ≠ row) : OwnB w' base E v xs :=
  h.kept hg hne fun _ h => h.elim

theorem Own.setBelow {α : Type} [Rp α] {S : Nat → Prop} {w : World} {base : Nat} {E : TypeId} {v : Value} {xs : List α} (h : Own S w base E v xs) {p : Addr} (hp : p.block < base) (hS : ¬ S p.block) (u : Value) : Own S (w.setCell p u) base E v xs := by
  obtain ⟨cells, h1, h2⟩ := h.row
  exact ⟨⟨cells, ownsRow_setCell_below h1 hp u, h2.keep fun b hb => Below.heap_setCell _ _ _ _ (fun e => hS (e ▸ hb))⟩, fun b hb => by simpa [World.setCell] using h.lt b hb, h.off⟩
theorem OwnB.setBelow {w : World} {base : Nat} {E : TypeId} {v : Value} {xs : List UInt8} (h : OwnB w base E v xs) {p : Addr} (hp : p.block < base) (u : Value) : OwnB (w.setCell p u) base E v xs :=
  Own.setBelow h hp (fun h => h) u

/-- Two slices that lie in no common block. -/
def Apart (v u : Value) : Prop := ∀ b, v.ownBlock = some b → u.ownBlock ≠ some b
theorem Apart.symm {v u : Value} (h : Apart v u) : Apart u v := fun b h1 h2 => h b h2 h1
theorem Apart.nil_left (u : Value) (n c : Nat) : Apart (.slice none n c) u := fun b h => by simp [Value.ownBlock] at h
theorem Apart.nil_right (u : Value) (n c : Nat) : Apart u (.slice none n c) := (Apart.nil_left u n c).symm
/-- A slice that has grown, or moved to new memory, stays apart. -/
theorem Apart.step {v v' u : Value} {B : Nat} (h : Apart v u) (hat : v'.ownBlock = v.ownBlock ∨ ∃ g, v'.ownBlock = some g ∧ B ≤ g) (hu : ∀ b, u.ownBlock = some b → b < B) : Apart v' u := by
  intro b h1 h2
  rcases hat with e | ⟨g, e, hg⟩
  · exact h b (e.symm.trans h1) h2
  · rw [e] at h1; injection h1 with h1; have := hu b h2; omega
theorem Apart.of_new {v u : Value} {B : Nat} (hv : ∀ b, v.ownBlock = some b → B ≤ b) (hu : ∀ b, u.ownBlock = some b → b < B) : Apart v u := fun b h1 h2 => by have := hv b h1; have := hu b h2; omega
theorem Apart.or_ {v u : Value} (h : Apart v u) : v.ownBlock = none ∨ v.ownBlock ≠ u.ownBlock := by
  cases hv : v.ownBlock with
  | none => exact .inl rfl
  | some b => exact .inr fun e => h b hv e.symm
/-- What is owned while another slice of the call's own grows. -/
theorem Own.grow {α : Type} [Rp α] {S : Nat → Prop} {w w' : World} {base : Nat} {E : TypeId} {v u : Value} {xs : List α} (h : Own S w base E v xs) (hg : w.grownBy w' u.ownBlock) (ha : Apart v u) (hS : ∀ b, S b → u.ownBlock ≠ some b) : Own S w' base E v xs :=
  h.kept hg ha.or_ fun b hb e => hS b hb e.symm
theorem OwnB.grow {w w' : World} {base : Nat} {E : TypeId} {v u : Value} {xs : List UInt8} (h : OwnB w base E v xs) (hg : w.grownBy w' u.ownBlock) (ha : Apart v u) : OwnB w' base E v xs := Own.grow h hg ha fun _ h => h.elim
theorem ownB_sl {w : World} {base : Nat} {E : TypeId} {v : Value} {xs : List UInt8} (h : OwnB w base E v xs) : ∃ A c, v = .slice A xs.length c ∧ SlRep (fun b => v.ownBlock = some b) w A xs.length c xs := by
  obtain ⟨A, c, rfl, _, h1⟩ := h.sl
  exact ⟨A, c, rfl, h1.sub fun b h => h.elim False.elim id⟩
theorem chunks_bytes {S : Nat → Prop} {w : World} : ∀ l : List UInt8, Chunks S w (l.map fun b => Value.int .u8 (b.toNat : Int)) l
  | [] => rfl
  | _ :: l => ⟨[_], _, rfl, rfl, chunks_bytes l⟩
/-- A new row of given bytes. -/
theorem OwnB.new_ (w : World) (base : Nat) (E : TypeId) (cs : Array Value) (l : List UInt8) (n : Nat) (h : cs.toList = l.map fun b => Value.int .u8 (b.toNat : Int)) (hl : l.length = n) (hn : n ≤ maxLen) (hb : base ≤ w.heap.size) :
    OwnB (w.alloc (.cells cs E)) base E (.slice (some ⟨w.heap.size, 0, none⟩) n n) l :=
  Own.new_ w cs E n hl hn (fun _ h => h.elim) hb (by rw [h]; exact chunks_bytes l)
theorem new_bytes (w : World) (E : TypeId) (cs : Array Value) (l : List UInt8) (n : Nat) (h : cs.toList = l.map fun b => Value.int .u8 (b.toNat : Int)) (hl : l.length = n) (hn : n ≤ maxLen) :
    SlRep (fun b => b = w.heap.size) (w.alloc (.cells cs E)) (some ⟨w.heap.size, 0, none⟩) n n l := by
  obtain ⟨A, c, h1, h2⟩ := ownB_sl (OwnB.new_ w w.heap.size E cs l n h hl hn (Nat.le_refl _))
  injection h1 with h1 h4 h3
  subst h1 h3 h4
  exact h2.sub fun b h => by simp [Value.ownBlock] at h; exact h.symm
/-- Bytes of a constant text. -/
theorem const_bytes (w : World) (E : TypeId) (cs : Array Value) (fz : Nat × Nat) (l : List UInt8) (n : Nat) (h : cs.toList = l.map fun b => Value.int .u8 (b.toNat : Int)) (hl : l.length = n) (hn : n ≤ maxLen) :
    SlRep (fun b => b = w.heap.size) (w.alloc (.cells cs E fz)) (some ⟨w.heap.size, 0, none⟩) n n l := by
  refine ⟨hl, ⟨Nat.le_refl _, hn⟩, fun _ => ⟨_, _, rfl, rfl, fun i x hx => ⟨[.int .u8 x.toNat], fun j u hu => ?_, rfl⟩⟩⟩
  have hj : j = 0 := by have := (List.getElem?_eq_some_iff.1 hu).1; simp at this; exact this
  subst hj
  rw [World.cell?_alloc_mark, show 0 + i * Rp.size UInt8 + 0 = i by rw [show Rp.size UInt8 = 1 from rfl]; omega, ← Array.getElem?_toList, h, List.getElem?_map, hx]
  simpa using hu
/-- A row whose elements may be read in a further row. -/
theorem Own.with_ {α : Type} [Rp α] {S : Nat → Prop} {w : World} {base b2 : Nat} {E E2 : TypeId} {v v2 : Value} {xs : List α} {ys : List UInt8} (h : Own S w base E v xs) (h2 : OwnB w b2 E2 v2 ys) (ha : Apart v v2) :
    Own (fun b => S b ∨ v2.ownBlock = some b) w base E v xs :=
  h.sub (fun _ h => .inl h) (fun b h' => h'.elim (h.lt b) fun e => (h2.block _ e).2) (fun b h' => h'.elim (h.off b) fun e e' => ha b e' e)

section
variable {P : Program} {α : Type} [Rp α] {S : Nat → Prop} {w : World}
/-- append of nothing at nil. -/
theorem run_app_nil {t ty E : TypeId} {i : TypeInfo} {size base n : Nat} {v : Value} {cells : List Value} (ht : P.underlying t = some (.slice E)) (hi : P.info? E = some i)
    (hown : w.ownsRow base E size v n cells) (c : Nat) : (Builtin.append_ #[t, t] ty #[v, .slice none 0 c]).run P w = .ok v w := by
  rcases hown.2 with ⟨rfl, rfl⟩ | ⟨g, cap, cur, rfl, _, _, hnc, _⟩
  · simp [Builtin.append_, run_underlying ht, sizeOf, typeInfo, hi, Builtin.lenOf, Builtin.firstCells]
  · simp [Builtin.append_, run_underlying ht, sizeOf, typeInfo, hi, Builtin.lenOf, Builtin.firstCells, hnc, storeCells]
/-- append, as a run. -/
theorem run_app {t E : TypeId} {bytes : Nat} (I : RowTy P t E (Rp.size α) bytes) (ty : TypeId) {base : Nat} {v : Value} {xs : List α} (hown : Own S w base E v xs)
    {T : Nat → Prop} {A : Option Addr} {m c : Nat} {ys : List α} (hy : SlRep T w A m c ys) (hT : ∀ b, T b → S b ∨ b < w.heap.size ∧ v.ownBlock ≠ some b)
    (h63 : xs.length + m ≤ maxLen) (hbytes : (xs.length + m) * bytes ≤ 140737488355328) (hbase : base ≤ w.heap.size) :
    ∃ v' w', (Builtin.append_ #[t, t] ty #[v, .slice A m c]).run P w = .ok v' w' ∧ Own (fun b => S b ∨ T b) w' base E v' (xs ++ ys) ∧ w.grownBy w' v.ownBlock ∧ (v'.ownBlock = v.ownBlock ∨ v'.ownBlock = some w.heap.size) := by
  obtain ⟨i, z, hi, hz, hs, hb, hzs⟩ := I.info
  obtain ⟨cells, h1, h2⟩ := hown.row
  have hlt : ∀ b, T b → b < w.heap.size ∧ v.ownBlock ≠ some b := fun b hb => (hT b hb).elim (fun h => ⟨hown.lt b h, hown.off b h⟩) id
  rcases A with _ | ad
  · have hm : m = 0 := by
      rcases Nat.eq_zero_or_pos m with h | h
      · exact h
      · obtain ⟨_, _, h', _⟩ := hy.2.2 h; cases h'
    subst hm
    have hys : ys = [] := List.eq_nil_of_length_eq_zero hy.1
    subst hys
    refine ⟨v, w, run_app_nil I.und hi h1 c, ?_, grown_of_below (Below.refl _ _) _, .inl rfl⟩
    rw [List.append_nil]
    exact hown.sub (fun b h => .inl h) (fun b h => h.elim (hown.lt b) (fun h => (hlt b h).1)) (fun b h => h.elim (hown.off b) (fun h => (hlt b h).2))
  · have hex : ∃ news, Chunks T w news ys ∧ ∀ j u, news[j]? = some u → w.cell? (ad.add j) = some u := by
      rcases Nat.eq_zero_or_pos m with h | h
      · subst h
        have hys : ys = [] := List.eq_nil_of_length_eq_zero hy.1
        subst hys
        exact ⟨[], rfl, fun j u hu => by simp at hu⟩
      · obtain ⟨b0, o0, h', _, hr⟩ := hy.2.2 h
        cases h'
        obtain ⟨news, h1, h2⟩ := hr.chunks
        exact ⟨news, h1, fun j u hu => by rw [add_mk]; exact h2 j u hu⟩
    obtain ⟨news, hch, hcell⟩ := hex
    obtain ⟨v', w', hrun, h3, h4, _, h5⟩ := run_append_own_at (P := P) w base t ty E i z _ _ I.und hi hz hs hb hzs I.pos v _ cells h1 ad m c news (by rw [hch.length, hy.1]) hcell hch.one h63 hbytes hbase
    refine ⟨v', w', hrun, ⟨⟨cells ++ news, by rw [List.length_append, hy.1]; exact h3, Chunks.append ?_ ?_⟩, ?_, ?_⟩, h4, h5⟩
    · exact (hch.keep fun b hb => h4.block b (hlt b hb).1 (fun e => (hlt b hb).2 e.symm)).sub fun b h => .inr h
    · exact (h2.keep fun b hb => h4.block b (hown.lt b hb) (fun e => hown.off b hb e.symm)).sub fun b h => .inl h
    · exact fun b h => Nat.lt_of_lt_of_le (h.elim (hown.lt b) (fun h => (hlt b h).1)) h4.size
    · rintro b h
      have hbl : b < w.heap.size := h.elim (hown.lt b) (fun h => (hlt b h).1)
      rcases h5 with e | e
      · rw [e]; exact h.elim (hown.off b) (fun h => (hlt b h).2)
      · rw [e]; intro e'; injection e' with e'; omega

/-- append(out, xs...), as one operation. -/
theorem wp_app {o : Oper} {a : Act} {K : Act → World → Prop} {Q : Exit → Act → World → Prop} {t E : TypeId} {bytes : Nat} (I : RowTy P t E (Rp.size α) bytes) (s x : Operand)
    (ho : o.op = .call { callee := .builtin .append, args := #[s, x], argTypes := #[t, t] })
    {base : Nat} {v : Value} {xs : List α} (hown : Own S w base E v xs) (hs : a.eval s = v)
    {T : Nat → Prop} {A : Option Addr} {m c : Nat} {ys : List α} (hy : SlRep T w A m c ys) (hx : a.eval x = .slice A m c) (hT : ∀ b, T b → S b ∨ b < w.heap.size ∧ v.ownBlock ≠ some b)
    (h63 : xs.length + m ≤ maxLen) (hbytes : (xs.length + m) * bytes ≤ 140737488355328) (hbase : base ≤ w.heap.size)
    (h : ∀ v' w', Own (fun b => S b ∨ T b) w' base E v' (xs ++ ys) → w.grownBy w' v.ownBlock → (v'.ownBlock = v.ownBlock ∨ v'.ownBlock = some w.heap.size) → K (a.put o.dst v') w') :
    o.wp P a w K Q := by
  obtain ⟨v', w', hr, h2, h3, h4⟩ := run_app (P := P) I o.type hown hy hT h63 hbytes hbase
  unfold Oper.wp execOp
  simp only [ho, resolve, invoke, builtin, Sem.run_bind, Sem.run_pure, Result.andThen_ok, List.map_toArray, List.map_cons, List.map_nil, hs, hx, hr]
  exact h v' w' h2 h3 h4
/-- append(out, xs...), in a walk. -/
theorem wpList_app {ops : Array Oper} {rest : List Oper} {o : Oper} {a : Act} {Q : Exit → Act → World → Prop} {t E : TypeId} {bytes : Nat} (I : RowTy P t E (Rp.size α) bytes) (hgd : o.guard = none) (s x : Operand)
    (ho : o.op = .call { callee := .builtin .append, args := #[s, x], argTypes := #[t, t] })
    {base : Nat} {v : Value} {xs : List α} (hown : Own S w base E v xs) (hs : a.eval s = v)
    {T : Nat → Prop} {A : Option Addr} {m c : Nat} {ys : List α} (hy : SlRep T w A m c ys) (hx : a.eval x = .slice A m c) (hT : ∀ b, T b → S b ∨ b < w.heap.size ∧ v.ownBlock ≠ some b)
    (h63 : xs.length + m ≤ maxLen) (hbytes : (xs.length + m) * bytes ≤ 140737488355328) (hbase : base ≤ w.heap.size)
    (h : ∀ v' w', Own (fun b => S b ∨ T b) w' base E v' (xs ++ ys) → w.grownBy w' v.ownBlock → (v'.ownBlock = v.ownBlock ∨ v'.ownBlock = some w.heap.size) → wpList P ops Q rest (a.put o.dst v') w') :
    wpList P ops Q (o :: rest) a w :=
  wpList_plain hgd fun _ hK => wp_app I s x ho hown hs hy hx hT h63 hbytes hbase fun v' w' h2 h3 h4 => hK _ _ (h v' w' h2 h3 h4)

/-- append(out, x1, .., xm), as one operation: the elements lie in a block that was just made. -/
theorem wp_push {o : Oper} {a : Act} {K : Act → World → Prop} {Q : Exit → Act → World → Prop} {t E : TypeId} {bytes : Nat} (I : RowTy P t E (Rp.size α) bytes) (s x : Operand)
    (ho : o.op = .call { callee := .builtin .append, args := #[s, x], argTypes := #[t, t] })
    {base : Nat} {v : Value} {xs : List α} (hown : Own S w base E v xs) (hs : a.eval s = v)
    {cs : Array Value} {m : Nat} {ys : List α} (hx : a.eval x = .slice (some ⟨w.heap.size, 0, none⟩) m m) (hy : Chunks S w cs.toList ys) (hm : ys.length = m)
    (h63 : xs.length + m ≤ maxLen) (hbytes : (xs.length + m) * bytes ≤ 140737488355328) (hbase : base ≤ w.heap.size)
    (h : ∀ v' w', Own S w' base E v' (xs ++ ys) → w.grownBy w' v.ownBlock → (v'.ownBlock = v.ownBlock ∨ ∃ g, v'.ownBlock = some g ∧ w.heap.size ≤ g) → K (a.put o.dst v') w') :
    o.wp P a (w.alloc (.cells cs E)) K Q := by
  obtain ⟨i, z, hi, hz, hsz, hb, hzs⟩ := I.info
  obtain ⟨cells, h1, h2⟩ := hown.row
  have hl := hy.length
  obtain ⟨v', w', hrun, h3, h4, _, h5⟩ := run_append_own_at (P := P) (w.alloc (.cells cs E)) base t o.type E i z _ _ I.und hi hz hsz hb hzs I.pos v _ cells (h1.alloc _) ⟨w.heap.size, 0, none⟩ m m cs.toList
    (by rw [hl, hm]) (fun j u hu => by
      rw [add_mk, Nat.zero_add, cell_of_row _ _ _ _ _ _ (heap_alloc_new w _)]
      simpa using hu) hy.one h63 hbytes (by simp; omega)
  have hg : w.grownBy w' v.ownBlock := by
    refine ⟨h4.os, h4.tape, h4.output, Nat.le_trans (by simp) h4.size, fun k hk hne => ?_⟩
    rw [h4.block k (by simp; omega) hne]
    exact Below.heap_alloc w _ k hk
  unfold Oper.wp execOp
  simp only [ho, resolve, invoke, builtin, Sem.run_bind, Sem.run_pure, Result.andThen_ok, List.map_toArray, List.map_cons, List.map_nil, hs, hx, hrun]
  refine (h v' w' ⟨⟨cells ++ cs.toList, by rw [List.length_append, hm]; exact h3, Chunks.append ?_ ?_⟩, ?_, ?_⟩ hg ?_)
  · exact hy.keep fun b hb => hg.block b (hown.lt b hb) (fun e => hown.off b hb e.symm)
  · exact h2.keep fun b hb => hg.block b (hown.lt b hb) (fun e => hown.off b hb e.symm)
  · exact fun b h => Nat.lt_of_lt_of_le (hown.lt b h) hg.size
  · intro b h
    have := hown.lt b h
    rcases h5 with e | e
    · rw [e]; exact hown.off b h
    · rw [e]; intro e'; injection e' with e'; simp at e'; omega
  · rcases h5 with e | e
    · exact .inl e
    · exact .inr ⟨_, e, by simp⟩
/-- append(out, x1, .., xm): the elements lie in a block that was just made. -/
theorem wpList_push {ops : Array Oper} {rest : List Oper} {o : Oper} {a : Act} {Q : Exit → Act → World → Prop} {t E : TypeId} {bytes : Nat} (I : RowTy P t E (Rp.size α) bytes) (hgd : o.guard = none) (s x : Operand)
    (ho : o.op = .call { callee := .builtin .append, args := #[s, x], argTypes := #[t, t] })
    {base : Nat} {v : Value} {xs : List α} (hown : Own S w base E v xs) (hs : a.eval s = v)
    {cs : Array Value} {m : Nat} {ys : List α} (hx : a.eval x = .slice (some ⟨w.heap.size, 0, none⟩) m m) (hy : Chunks S w cs.toList ys) (hm : ys.length = m)
    (h63 : xs.length + m ≤ maxLen) (hbytes : (xs.length + m) * bytes ≤ 140737488355328) (hbase : base ≤ w.heap.size)
    (h : ∀ v' w', Own S w' base E v' (xs ++ ys) → w.grownBy w' v.ownBlock → (v'.ownBlock = v.ownBlock ∨ ∃ g, v'.ownBlock = some g ∧ w.heap.size ≤ g) → wpList P ops Q rest (a.put o.dst v') w') :
    wpList P ops Q (o :: rest) a (w.alloc (.cells cs E)) :=
  wpList_plain hgd fun _ hK => wp_push I s x ho hown hs hx hy hm h63 hbytes hbase fun v' w' h2 h3 h4 => hK _ _ (h v' w' h2 h3 h4)
end
end Go.Proofs.Ytpddiffpanihdaa
