/- How the data that come in are read: from the form's own reading to typed lists. -/
import Derived.Test.YtpddiffpanihdaaMem
import Derived.Deep.Slices
import Derived.Deep.Fields
import Derived.ChangeSame
namespace Go.Proofs.Ytpddiffpanihdaa
open Go.RowKit Go.Deep Go.ChangeShapes Go.WideShapes

/-- Whatever reads at a type is a datum of ours. -/
structure Opens (P : Program) (α : Type) [Rp α] (t : TypeId) : Prop where
  out : ∀ {H : Type} {enc : TypeId × Value → H} {w : World} {base : Nat} {spare : Nat → Bool} {held : Bool} (fuel : Nat) (cs : List Value) (x : DataW H × List MemPlace),
    DataW.trod enc P w base spare held fuel t cs = some x → ∃ y : α, Rp.rep (fun b => b < w.heap.size) w cs y
/-- Fields, from an offset on. -/
structure OpensF (P : Program) (α : Type) [Rp α] (fs : List Field) (off : Nat) : Prop where
  out : ∀ {H : Type} {enc : TypeId × Value → H} {w : World} {base : Nat} {spare : Nat → Bool} {held : Bool} (n : Nat) (cs : List Value), cs.length = off + Rp.size α →
    (∀ f ∈ fs, ∃ x, DataW.trod enc P w base spare held n f.type ((cs.drop f.offset).take (P.cellsOf f.type)) = some x) → ∃ y : α, Rp.rep (fun b => b < w.heap.size) w (cs.drop off) y

section
variable {P : Program} {α β : Type} [Rp α] [Rp β]
theorem block_lt_of_cell {w : World} {a : Addr} {v : Value} (h : w.cell? a = some v) : a.block < w.heap.size := by
  rcases Nat.lt_or_ge a.block w.heap.size with h' | h'
  · exact h'
  · simp [World.cell?, Array.getElem?_eq_none h'] at h
theorem spot_of_cell {w : World} {a : Addr} {v : Value} (h : w.cell? a = some v) : a.spot = none := by
  unfold World.cell? at h
  split at h
  · split at h
    · cases h
    · rename_i hs; simpa using hs
  · cases h
theorem i64_of_wf {n : Int} (hw : (Lit.int .i64 n).wf = true) : I64 n := by
  simp only [Lit.wf, Bool.and_eq_true, decide_eq_true_eq] at hw
  have e1 : IntKind.i64.min = -9223372036854775808 := by decide
  have e2 : IntKind.i64.max = 9223372036854775807 := by decide
  rw [e1, e2] at hw
  exact hw
theorem u8_of_wf {n : Int} (hw : (Lit.int .u8 n).wf = true) : 0 ≤ n ∧ n ≤ 255 := by
  simp only [Lit.wf, Bool.and_eq_true, decide_eq_true_eq] at hw
  have e1 : IntKind.u8.min = 0 := by decide
  have e2 : IntKind.u8.max = 255 := by decide
  rw [e1, e2] at hw
  exact hw
theorem opens_u8 {t : TypeId} (ht : P.underlying t = some (.int .u8)) : Opens P UInt8 t := by
  constructor
  intro H enc w base spare held fuel cs x h
  obtain ⟨n, rfl, _, hw⟩ := DataW.trod_int ht h
  have hb := u8_of_wf hw
  refine ⟨UInt8.ofNat n.toNat, ?_⟩
  show [Value.int .u8 n] = [.int .u8 ((UInt8.ofNat n.toNat).toNat : Int)]
  rw [UInt8.toNat_ofNat']
  congr 2
  omega
theorem opens_int {t : TypeId} (ht : P.underlying t = some (.int .i64)) : Opens P Int t := by
  constructor
  intro H enc w base spare held fuel cs x h
  obtain ⟨n, rfl, _, hw⟩ := DataW.trod_int ht h
  exact ⟨n, rfl, i64_of_wf hw⟩
theorem opens_bool {t : TypeId} (ht : P.underlying t = some .bool) : Opens P Bool t := by
  constructor
  intro H enc w base spare held fuel cs x h
  obtain ⟨b, rfl, _⟩ := DataW.trod_bool ht h
  exact ⟨b, rfl⟩
theorem row_of_all {w : World} {b o : Nat} : ∀ (n i : Nat), (∀ j, j < n → ∃ (cs : List Value) (y : α), (∀ q u, cs[q]? = some u → w.cell? ⟨b, o + (i + j) * Rp.size α + q, none⟩ = some u) ∧ Rp.rep (fun b => b < w.heap.size) w cs y) →
    ∃ ys : List α, ys.length = n ∧ ∀ j y, ys[j]? = some y → ∃ cs : List Value, (∀ q u, cs[q]? = some u → w.cell? ⟨b, o + (i + j) * Rp.size α + q, none⟩ = some u) ∧ Rp.rep (fun b => b < w.heap.size) w cs y := by
  intro n
  induction n with
  | zero => intro i _; exact ⟨[], rfl, fun j y h => by simp at h⟩
  | succ n ih =>
    intro i h
    obtain ⟨cs, y, h1, h2⟩ := h 0 (by omega)
    obtain ⟨ys, h3, h4⟩ := ih (i + 1) fun j hj => by
      obtain ⟨cs, y, h1, h2⟩ := h (j + 1) (by omega)
      exact ⟨cs, y, fun q u hu => by rw [show i + 1 + j = i + (j + 1) by omega]; exact h1 q u hu, h2⟩
    refine ⟨y :: ys, by simp [h3], fun j z hz => ?_⟩
    cases j with
    | zero => simp at hz; subst hz; exact ⟨cs, h1, h2⟩
    | succ j =>
      obtain ⟨cs, h5, h6⟩ := h4 j z (by simpa using hz)
      exact ⟨cs, fun q u hu => by rw [show i + (j + 1) = i + 1 + j by omega]; exact h5 q u hu, h6⟩
theorem opens_list {t e : TypeId} (ht : P.underlying t = some (.slice e)) (hc : P.cellsOf e = Rp.size α) (hp : 0 < Rp.size α) (h : Opens P α e) : Opens P (List α) t := by
  constructor
  intro H enc w base spare held fuel cs x hx
  rcases open_slice ht hx with ⟨rfl, _⟩ | ⟨a, len, cap, m, n, D, Pl, rfl, hb, hl, hm, hmm, _, hi⟩
  · exact ⟨[], none, 0, 0, rfl, SlRep.nil_ _ _ _ _ (by simp [maxLen])⟩
  · have hlm : len ≤ m := by rw [hmm]; split <;> omega
    rcases Nat.eq_zero_or_pos len with h0 | h0
    · subst h0
      exact ⟨[], _, 0, cap, rfl, SlRep.nil_ _ _ _ _ hm⟩
    · have hcell : ∀ j, j < len → ∃ (cs' : List Value) (y : α), cs'.length = Rp.size α ∧ (∀ q, q < Rp.size α → w.cell? ((a.add (j * Rp.size α)).add q) = cs'[q]?) ∧ Rp.rep (fun b => b < w.heap.size) w cs' y := by
        intro j hj
        obtain ⟨cs', h1, h2⟩ := hi j (by omega)
        obtain ⟨_, h3, h4⟩ := World.cells?_some h1
        obtain ⟨y, hy⟩ := h.out _ _ _ h2
        rw [hc] at h3 h4
        exact ⟨cs', y, h3, h4, hy⟩
      obtain ⟨cs0, y0, h1, h2, _⟩ := hcell 0 h0
      have hc0 : w.cell? a = some (cs0[0]'(by omega)) := by
        have := h2 0 hp
        rw [Nat.zero_mul] at this
        rw [← List.getElem?_eq_getElem]; exact this
      have hsp := spot_of_cell hc0
      have hbl := block_lt_of_cell hc0
      obtain ⟨b, o, sp⟩ := a
      simp only at hsp hbl
      subst hsp
      obtain ⟨ys, h3, h4⟩ := row_of_all (α := α) (w := w) (b := b) (o := o) len 0 fun j hj => by
        obtain ⟨cs', y, h5, h6, h7⟩ := hcell j hj
        refine ⟨cs', y, fun q u hu => ?_, h7⟩
        have hq : q < Rp.size α := by have := (List.getElem?_eq_some_iff.1 hu).1; omega
        have h8 := h6 q hq
        rw [add_add] at h8
        rw [Nat.zero_add, ← hu, ← h8]
        congr 1
        unfold Addr.add; split <;> simp_all [Nat.add_assoc]
      refine ⟨ys, _, len, cap, rfl, h3, ⟨hl, hm⟩, fun _ => ⟨b, o, rfl, hbl, fun i y hy => ?_⟩⟩
      obtain ⟨cs, h5, h6⟩ := h4 i y hy
      exact ⟨cs, by rw [Nat.zero_add] at h5; exact h5, h6⟩
theorem opensF_one {f : Field} {off : Nat} (ho : f.offset = off) (hc : P.cellsOf f.type = Rp.size α) (h : Opens P α f.type) : OpensF P α [f] off := by
  constructor
  intro H enc w base spare held n cs hl hf
  obtain ⟨x, hx⟩ := hf f (by simp)
  rw [ho, hc, List.take_of_length_le (by rw [List.length_drop]; omega)] at hx
  exact h.out _ _ _ hx
theorem opensF_cons {f : Field} {fs : List Field} {off : Nat} (ho : f.offset = off) (hc : P.cellsOf f.type = Rp.size α) (h : Opens P α f.type) (hfs : OpensF P β fs (off + Rp.size α)) : OpensF P (α × β) (f :: fs) off := by
  constructor
  intro H enc w base spare held n cs hl hf
  have hl : cs.length = off + (Rp.size α + Rp.size β) := hl
  obtain ⟨x, hx⟩ := hf f (by simp)
  rw [ho, hc] at hx
  obtain ⟨y, hy⟩ := h.out _ _ _ hx
  obtain ⟨z, hz⟩ := hfs.out n cs (by omega) fun g hg => hf g (by simp [hg])
  exact ⟨(y, z), _, cs.drop (off + Rp.size α), by rw [← List.drop_drop, List.take_append_drop], hy, hz⟩
theorem opens_struct {t : TypeId} {fs : Array Field} (ht : P.underlying t = some (.struct fs)) (hc : P.cellsOf t = Rp.size α) (h : OpensF P α fs.toList 0) : Opens P α t := by
  constructor
  intro H enc w base spare held fuel cs x hx
  obtain ⟨xs, n, rfl, _, hl, hlen, hf⟩ := DataW.trod_struct ht hx
  have := h.out n cs (by rw [hl, hc]; omega) fun f hf' => by
    obtain ⟨i, hi, he⟩ := List.getElem_of_mem hf'
    have h1 := hf i f (by rw [← Array.getElem?_toList, List.getElem?_eq_getElem hi, he])
    rw [List.getElem?_eq_getElem (by simpa [hlen] using hi)] at h1
    exact ⟨_, h1⟩
  simpa using this
end
end Go.Proofs.Ytpddiffpanihdaa
