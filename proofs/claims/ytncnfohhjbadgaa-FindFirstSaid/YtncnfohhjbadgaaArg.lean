
/- From the form's reading of arguments to what a walk knows of them; from a contract of a law to its call. -/
import Derived.Test.YtncnfohhjbadgaaOpen
import Derived.Test.YtncnfohhjbadgaaOwn
import Derived.Test.YtncnfohhjbadgaaFront
import Derived.OpenShut
namespace Go.Proofs.Ytncnfohhjbadgaa
open Go.RowKit

/-- So many of a kind. -/
structure Arr (n : Nat) (α : Type) where
  l : List α
  len : l.length = n
instance {n : Nat} {α : Type} [Rp α] : Rp (Arr n α) := {
  size := n * Rp.size α
  rep S w cs x := Chunks S w cs x.l
  len h := by rw [h.length, Arr.len]
  one h := h.one
  keep h hk := h.keep hk
  sub h hk := h.sub hk }
instance : Rp ByteArray := {
  size := 1
  rep _ _ cs x := cs = [.string x] ∧ x.size ≤ maxLen
  len := by rintro _ _ _ _ ⟨rfl, _⟩; rfl
  one := by rintro _ _ _ _ ⟨rfl, _⟩ u hu; simp at hu; subst hu; rfl
  keep h _ := h
  sub h _ := h }
theorem chunks_of {α : Type} [Rp α] {S : Nat → Prop} {w : World} {k : Nat} (hk : k = Rp.size α) : ∀ (n : Nat) (cs : List Value), cs.length = n * k → (∀ i, i < n → ∃ y : α, Rp.rep S w ((cs.drop (i * k)).take k) y) → ∃ ys : List α, ys.length = n ∧ Chunks S w cs ys
  | 0, cs, hl, _ => ⟨[], rfl, List.eq_nil_of_length_eq_zero (by simpa using hl)⟩
  | n + 1, cs, hl, h => by
    obtain ⟨y, hy⟩ := h 0 (by omega)
    rw [Nat.add_mul] at hl
    obtain ⟨ys, h1, h2⟩ := chunks_of hk n (cs.drop k) (by rw [List.length_drop]; omega) fun i hi => by
      obtain ⟨z, hz⟩ := h (i + 1) (by omega)
      exact ⟨z, by rw [List.drop_drop]; rw [Nat.add_mul] at hz; rwa [show k + i * k = i * k + 1 * k by omega]⟩
    refine ⟨y :: ys, by simp [h1], cs.take k, cs.drop k, (List.take_append_drop _ _).symm, ?_, h2⟩
    simpa using hy
theorem opens_array {P : Program} {α : Type} [Rp α] {t e : TypeId} {n : Nat} (ht : P.underlying t = some (.array n e)) (hc : P.cellsOf e = Rp.size α) (hct : P.cellsOf t = n * Rp.size α) (h : Opens P α e) : Opens P (Arr n α) t := by
  constructor
  intro H enc w base spare held fuel cs x hx
  obtain ⟨xs, m, rfl, _, hl, hlen, hf⟩ := DataW.trod_array ht hx
  obtain ⟨ys, h1, h2⟩ := chunks_of (S := fun b => b < w.heap.size) (w := w) hc n cs (by rw [hl, hct, hc]) fun i hi => by
    have := hf i hi
    rw [List.getElem?_eq_getElem (by omega)] at this
    exact h.out _ _ _ this
  exact ⟨⟨ys, h1⟩, h2⟩

/-- At the entry all that lies in memory is readable. -/
def Rd0 (w : World) : Nat → Nat → Prop := fun b _ => b < w.heap.size
class EncR (α : Type) [Rp α] where
  enc : α → List Sd
  wf : α → Prop
  ok : ∀ {w : World} {cs : List Value} {x : α}, Rp.rep (fun b => b < w.heap.size) w cs x → RepL (Rd0 w) w (enc x) cs ∧ wf x
instance : EncR UInt8 := ⟨eb, fun _ => True, by rintro w cs x (rfl : cs = _); exact ⟨⟨_, [], rfl, rfl, rfl⟩, trivial⟩⟩
instance : EncR Bool := ⟨fun x => [.v (.bool x)], fun _ => True, by rintro w cs x (rfl : cs = _); exact ⟨⟨_, [], rfl, rfl, rfl⟩, trivial⟩⟩
instance : EncR Int := ⟨fun x => [.v (.int .i64 x)], I64, by rintro w cs x ⟨rfl, h⟩; exact ⟨⟨_, [], rfl, rfl, rfl⟩, h⟩⟩
instance : EncR ByteArray := ⟨fun x => [.v (.string x)], fun x => x.size ≤ maxLen, by rintro w cs x ⟨rfl, h⟩; exact ⟨⟨_, [], rfl, rfl, rfl⟩, h⟩⟩
instance {α β : Type} [Rp α] [Rp β] [EncR α] [EncR β] : EncR (α × β) := ⟨fun x => EncR.enc x.1 ++ EncR.enc x.2, fun x => EncR.wf x.1 ∧ EncR.wf x.2, by
  rintro w cs x ⟨c, d, rfl, h1, h2⟩
  exact ⟨(EncR.ok h1).1.append (EncR.ok h2).1, (EncR.ok h1).2, (EncR.ok h2).2⟩⟩
theorem repL_len {α : Type} [Rp α] [EncR α] {w : World} {cs : List Value} {x : α} (h : Rp.rep (fun b => b < w.heap.size) w cs x) : (EncR.enc x).length = Rp.size α := by rw [← (EncR.ok h).1.length, Rp.len h]
theorem row_rep {α : Type} [Rp α] [EncR α] {w : World} {b : Nat} (hb : b < w.heap.size) : ∀ (xs : List α) (o : Nat), RowAt (fun b => b < w.heap.size) w b o xs → RepR (Rd0 w) w b o (Rp.size α) (xs.map EncR.enc) ∧ ∀ x ∈ xs, EncR.wf x
  | [], _, _ => ⟨trivial, by simp⟩
  | x :: xs, o, h => by
    obtain ⟨cs, h1, h2⟩ := h 0 x rfl
    obtain ⟨k1, k2⟩ := row_rep hb xs (o + Rp.size α) fun i y hy => by
      obtain ⟨cs', q1, q2⟩ := h (i + 1) y (by simpa using hy)
      exact ⟨cs', fun j u hu => by have := q1 j u hu; rwa [show o + (i + 1) * Rp.size α + j = o + Rp.size α + i * Rp.size α + j by rw [Nat.add_mul]; omega] at this, q2⟩
    refine ⟨⟨repL_len h2, RepC.of_vals (EncR.ok h2).1 (Rp.one h2) fun j u hu => ⟨hb, by have := h1 j u hu; rwa [Nat.zero_mul, Nat.add_zero] at this⟩, k1⟩, fun y hy => ?_⟩
    simp at hy
    rcases hy with rfl | hy
    · exact (EncR.ok h2).2
    · exact k2 y hy
instance {α : Type} [Rp α] [EncR α] : EncR (List α) := ⟨fun xs => [.sl (Rp.size α) none (xs.map EncR.enc)], fun xs => xs.length ≤ maxLen ∧ ∀ x ∈ xs, EncR.wf x, by
  rintro w cs xs ⟨A, n, c, rfl, hl, ⟨hc1, hc2⟩, h⟩
  have hlen : (xs.map (EncR.enc (α := α))).length = n := by rw [List.length_map]; exact hl
  rcases Nat.eq_zero_or_pos n with h0 | h0
  · subst h0
    have : xs = [] := List.eq_nil_of_length_eq_zero hl
    subst this
    exact ⟨⟨_, [], rfl, ⟨A, c, rfl, ⟨Nat.zero_le _, hc2⟩, fun e => (by cases e), fun _ _ e => (by cases e), .inl rfl⟩, rfl⟩, by simp, by simp⟩
  · obtain ⟨b, o, rfl, hb, hr⟩ := h h0
    obtain ⟨k1, k2⟩ := row_rep hb xs o hr
    exact ⟨⟨_, [], rfl, ⟨_, c, by rw [hlen], ⟨by rw [hlen]; exact hc1, hc2⟩, fun e => (by cases e), fun _ _ e => (by cases e), .inr ⟨b, o, rfl, k1⟩⟩, rfl⟩, by omega, k2⟩⟩
theorem chunks_rep {α : Type} [Rp α] [EncR α] {w : World} : ∀ (xs : List α) (cs : List Value), Chunks (fun b => b < w.heap.size) w cs xs → RepL (Rd0 w) w (xs.flatMap EncR.enc) cs ∧ ∀ x ∈ xs, EncR.wf x
  | [], cs, h => ⟨by rw [show cs = [] from h]; rfl, by simp⟩
  | x :: xs, cs, ⟨c, r, e, h1, h2⟩ => by
    obtain ⟨k1, k2⟩ := chunks_rep xs r h2
    subst e
    refine ⟨by rw [List.flatMap_cons]; exact (EncR.ok h1).1.append k1, fun y hy => ?_⟩
    simp at hy
    rcases hy with rfl | hy
    · exact (EncR.ok h1).2
    · exact k2 y hy
instance {n : Nat} {α : Type} [Rp α] [EncR α] : EncR (Arr n α) := ⟨fun x => x.l.flatMap EncR.enc, fun x => ∀ y ∈ x.l, EncR.wf y, fun h => chunks_rep _ _ h⟩

theorem arg_one {w : World} {s : Sd} {v : Value} {cs : List Value} (h : RepL (Rd0 w) w [s] cs) (hc : cs = [v]) : RepS (Rd0 w) w s v := by
  obtain ⟨u, r, e, h1, h2⟩ := h
  rw [hc] at e
  injection e with e1 e2
  subst e1
  exact h1
theorem arg_agg {α : Type} [Rp α] [EncR α] {w : World} {cs : Array Value} {y : α} (h : Rp.rep (fun b => b < w.heap.size) w cs.toList y) : RepS (Rd0 w) w (.agg (EncR.enc y)) (.agg cs) := ⟨cs, rfl, (EncR.ok h).1, Rp.one h⟩
/-- A law's contract, at a call. -/
theorem law_calls {P : Program} {f : FuncId} {ss : List Sd} (hc : Con P f ss [] [] (Ret (.v (.bool true)))) {w : World} {vals : List Value} (hv : RepL (Rd0 w) w ss vals) (hgl : ∀ b ∈ glb, ∃ m : Int, w.cell? ⟨b, 0, none⟩ = some (.int .i64 m) := by intro b hb; cases hb) :
    Calls P f vals.toArray w (fun e w' => e = .returned (.bool true) ∧ Below w.heap.size w w') := by
  refine (hc (Rd0 w) w vals (fun b hb => by obtain ⟨m, h⟩ := hgl b hb; exact ⟨cell_lt h, m, h⟩) ⟨fun b o h => h, by simp, by simp, by simp⟩ hv).mono ?_
  rintro e w' ⟨v, r, bx', tk', Rd', rfl, ⟨rfl, _, _⟩, _, k3, k4, _⟩
  obtain rfl : v = .bool true := k3
  exact ⟨rfl, k4.os, k4.tape, k4.output, k4.size, fun k hk => k4.block k hk (by simp [dom])⟩
end Go.Proofs.Ytncnfohhjbadgaa
