/- The document's reader of regular expressions: its parts. -/
import Derived.Test.YtfhakeapepafbaaRkN
import Derived.Test.YtfhakeapepafbaaLt
import Derived.Test.YtfhakeapepafbaaEpE
namespace Go.Proofs.Ytfhakeapepafbaa
abbrev RS8 := List UInt8 × Int × Int × (List ND × Int) × Arr 10 Bool
/-- A reader's state: the place and the error apart. -/
def rst (b : List UInt8) (s : Pz) (a e : Int) : RS8 := (b, a, e, (s.L, (s.g : Int)), s.cl)
theorem rnext_ok (b : List UInt8) (s : Pz) (p : Nat) (e : Int) (k : Nat) (hp : p ≤ 100000) (hk : k ≤ 10) : palinoderef08_Reader_Next_R (rst b s (p : Int) e) (k : Int) (atB b (p + k)) := by
  refine inR_ (by show -9223372036854775808 ≤ (p : Int) + (k : Int) ∧ (p : Int) + (k : Int) ≤ _; omega) (split_ (fun h => ?_) fun _ => inR_ (by show -9223372036854775808 ≤ (p : Int) + (k : Int) ∧ (p : Int) + (k : Int) ≤ _; omega) (split_ (fun h => ?_) fun h => inR_ (by show -9223372036854775808 ≤ (p : Int) + (k : Int) ∧ (p : Int) + (k : Int) ≤ _; omega) ?_))
  · have h : (p : Int) + (k : Int) < 0 := h
    omega
  · have h : (b.length : Int) ≤ (p : Int) + (k : Int) := h
    unfold atB
    rw [List.getElem?_eq_none (by omega)]
  · have h : ¬ (b.length : Int) ≤ (p : Int) + (k : Int) := h
    have hl : p + k < b.length := by omega
    unfold atB
    rw [List.getElem?_eq_getElem hl]
    refine ⟨by show (0 : Int) ≤ (p : Int) + (k : Int); omega, b[p + k], ?_, rfl⟩
    show b[((p : Int) + (k : Int)).toNat]? = _
    rw [show ((p : Int) + (k : Int)).toNat = p + k by omega]; exact List.getElem?_eq_getElem hl
theorem rput_no (b : List UInt8) (n : ND) (s : Pz) (a e : Int) (he : e ≠ 0) : palinoderef08_Reader_Put_R (rst b s a e) n (0, rst b s a e) := split_ (fun _ => rfl) fun h => absurd he h
/-- A node: as the program's builder does. -/
theorem rput_ok' (b : List UInt8) (n : ND) (s : Pz) (a : Int) : ∃ k e, palinoderef08_Reader_Put_R (rst b s a 0) n (k, rst b (putS n s).2 a e) ∧ k = (putS n s).1 ∧ (0 ≤ (putS n s).1 → e = 0) ∧ ((putS n s).1 < 0 → e = 8) := by
  unfold putS
  by_cases h1 : 1000 ≤ s.L.length
  · rw [if_pos h1]
    refine ⟨-1, 8, split_ (fun h => absurd rfl h) fun _ => ⟨(-1, rst b s a 0), split_ (fun _ => rfl) fun h => absurd (by show (1000 : Int) ≤ (s.L.length : Int); omega) h, split_ (fun _ => rfl) fun h => absurd (by show (-1 : Int) < 0; decide) h⟩, rfl, fun h => by have h : (0 : Int) ≤ -1 := h; omega, fun _ => rfl⟩
  · rw [if_neg h1]
    by_cases h2 : isNodeB n s.L.length s.g = true
    · rw [if_pos h2]
      refine ⟨(s.L.length : Int), 0, split_ (fun h => absurd rfl h) fun _ => ⟨((s.L.length : Int), rst b { s with L := s.L ++ [n] } a 0), split_ (fun h => absurd (by show 1000 ≤ s.L.length; have h : (1000 : Int) ≤ (s.L.length : Int) := h; omega) h1) fun _ => ⟨_, may_ok n s.L.length s.g, split_ (fun h => absurd h2 h) fun _ => room_ (by show 0 + s.L.length ≤ _; omega) (by omega) (room_ (by show s.L.length + 1 ≤ _; omega) (by omega) (inR_ ?_ ?_))⟩, split_ (fun h => by have h : (s.L.length : Int) < 0 := h; omega) fun _ => rfl⟩, rfl, fun _ => rfl, fun h => by have h : (s.L.length : Int) < 0 := h; omega⟩
      · show -9223372036854775808 ≤ ((s.L ++ [n]).length : Int) - 1 ∧ ((s.L ++ [n]).length : Int) - 1 ≤ _
        simp; omega
      · show _ = (((s.L ++ [n]).length : Int) - 1, _)
        rw [show ((s.L ++ [n]).length : Int) - 1 = (s.L.length : Int) by simp]; rfl
    · rw [if_neg h2]
      refine ⟨-1, 8, split_ (fun h => absurd rfl h) fun _ => ⟨(-1, rst b s a 0), split_ (fun _ => rfl) fun _ => ⟨_, may_ok n s.L.length s.g, split_ (fun _ => rfl) fun h => absurd (Decidable.not_not.1 h) h2⟩, split_ (fun _ => rfl) fun h => absurd (by show (-1 : Int) < 0; decide) h⟩, rfl, fun h => by have h : (0 : Int) ≤ -1 := h; omega, fun _ => rfl⟩
theorem Any_ok : palinoderef08_Any_R (notS z4) := Arr.ext (by decide)
theorem fold_neg (kind : Int) (t : List Int) (s : Pz) : foldS kind t (-1) s = (-1, s) := by
  cases t with
  | nil => rfl
  | cons y t => rw [fold_cons, if_pos rfl]
abbrev FC (l : List Int) (r : Int × RS8) := fun (ag : Int × Int × List UInt8 × Int × Int × List ND × Int × Arr 10 Bool → Prop) (s : Int × Int × List UInt8 × Int × Int × List ND × Int × Arr 10 Bool) => palinoderef08_Reader_Cat_l1 l ag s.1 s.2.1 s.2.2.1 s.2.2.2.1 s.2.2.2.2.1 s.2.2.2.2.2.1 s.2.2.2.2.2.2.1 s.2.2.2.2.2.2.2 r
theorem rfold_no (b : List UInt8) (l : List Int) (hl : l.length ≤ 100000) (s : Pz) (a e : Int) (he : e ≠ 0) : ∀ (rest : List Int) (i : Nat) (k0 : Int), l.drop i = rest → i ≤ l.length → ∃ k n, FC l (k, rst b s a e) (LT (FC l (k, rst b s a e)) n) (k0, (i : Int), b, a, e, s.L, (s.g : Int), s.cl) := by
  intro rest
  induction rest with
  | nil =>
    intro i k0 h hi
    have := congrArg List.length h
    rw [List.length_drop, List.length_nil] at this
    refine ⟨k0, 0, split_ (fun h => ?_) fun _ => rfl⟩
    have h : (i : Int) < (l.length : Int) := h
    omega
  | cons y rest ih =>
    intro i k0 h hi
    have h2 := congrArg List.length h
    rw [List.length_drop, List.length_cons] at h2
    have hy : l[i]? = some y := by have := congrArg (fun q => q[0]?) h; simpa using this
    obtain ⟨k, n, hk⟩ := ih (i + 1) 0 (by rw [drop_g hy] at h; exact (List.cons.inj h).2) (by omega)
    refine ⟨k, n + 1, split_ (fun _ => ⟨by show (0 : Int) ≤ (i : Int); omega, y, by show l[((i : Int)).toNat]? = _; rw [Int.toNat_natCast]; exact hy, _, rput_no b _ s a e he, inR_ (by show -9223372036854775808 ≤ (i : Int) + 1 ∧ (i : Int) + 1 ≤ _; omega) (.inr ?_)⟩) fun h => ?_⟩
    · exact hk
    · have h : ¬ (i : Int) < (l.length : Int) := h
      omega
theorem rfold_ok (b : List UInt8) (l : List Int) (hl : l.length ≤ 100000) (a : Int) : ∀ (rest : List Int) (i : Nat) (x : Int) (s : Pz), l.drop i = rest → i ≤ l.length → 0 ≤ x →
    ∃ k e, (∃ n, FC l (k, rst b (foldS 2 rest x s).2 a e) (LT (FC l (k, rst b (foldS 2 rest x s).2 a e)) n) (x, (i : Int), b, a, 0, s.L, (s.g : Int), s.cl)) ∧ (0 ≤ (foldS 2 rest x s).1 → k = (foldS 2 rest x s).1 ∧ e = 0) ∧ ((foldS 2 rest x s).1 < 0 → e = 8) := by
  intro rest
  induction rest with
  | nil =>
    intro i x s h hi hx
    have := congrArg List.length h
    rw [List.length_drop, List.length_nil] at this
    refine ⟨x, 0, ⟨0, split_ (fun h => ?_) fun _ => rfl⟩, fun _ => ⟨rfl, rfl⟩, fun h => by have h : x < 0 := h; omega⟩
    have h : (i : Int) < (l.length : Int) := h
    omega
  | cons y rest ih =>
    intro i x s h hi hx
    have h2 := congrArg List.length h
    rw [List.length_drop, List.length_cons] at h2
    have hy : l[i]? = some y := by have := congrArg (fun q => q[0]?) h; simpa using this
    have hd : l.drop (i + 1) = rest := by rw [drop_g hy] at h; exact (List.cons.inj h).2
    rw [fold_cons, if_neg (by omega)]
    obtain ⟨k1, e1, p1, rfl, p2, p3⟩ := rput_ok' b (2, x, y, 0, 0, 0, setZ) s a
    have hstep : ∀ (r : Int × RS8) (n : Nat), FC l r (LT (FC l r) n) ((putS (2, x, y, 0, 0, 0, setZ) s).1, ((i + 1 : Nat) : Int), b, a, e1, (putS (2, x, y, 0, 0, 0, setZ) s).2.L, ((putS (2, x, y, 0, 0, 0, setZ) s).2.g : Int), (putS (2, x, y, 0, 0, 0, setZ) s).2.cl) →
        FC l r (LT (FC l r) (n + 1)) (x, (i : Int), b, a, 0, s.L, (s.g : Int), s.cl) := fun r n hn => by
      refine split_ (fun _ => ⟨by show (0 : Int) ≤ (i : Int); omega, y, by show l[((i : Int)).toNat]? = _; rw [Int.toNat_natCast]; exact hy, _, p1, inR_ (by show -9223372036854775808 ≤ (i : Int) + 1 ∧ (i : Int) + 1 ≤ _; omega) (.inr hn)⟩) fun h => ?_
      have h : ¬ (i : Int) < (l.length : Int) := h
      omega
    by_cases hpos : 0 ≤ (putS (2, x, y, 0, 0, 0, setZ) s).1
    · obtain rfl := p2 hpos
      obtain ⟨k, e, ⟨n, hn⟩, h3, h4⟩ := ih (i + 1) _ (putS (2, x, y, 0, 0, 0, setZ) s).2 hd (by omega) hpos
      exact ⟨k, e, ⟨n + 1, hstep _ n hn⟩, h3, h4⟩
    · obtain rfl := p3 (by omega)
      have hneg := put_neg hpos
      rw [hneg] at hstep ⊢
      rw [fold_neg]
      obtain ⟨k, n, hn⟩ := rfold_no b l hl s a 8 (by decide) rest (i + 1) (-1) hd (by omega)
      exact ⟨k, 8, ⟨n + 1, hstep _ n hn⟩, fun h => by have h : (0 : Int) ≤ -1 := h; omega, fun _ => rfl⟩
theorem rcat_ok (b : List UInt8) (l : List Int) (s : Pz) (a : Int) (hl : l.length ≤ 100000) (hv : ∀ x t, l = x :: t → 0 ≤ x ∧ x < (s.L.length : Int)) :
    ∃ k e, palinoderef08_Reader_Cat_R (rst b s a 0) l (k, rst b (catS l s).2 a e) ∧ (0 ≤ (catS l s).1 → k = (catS l s).1 ∧ e = 0) ∧ ((catS l s).1 < 0 → e = 8) := by
  cases l with
  | nil =>
    obtain ⟨k, e, h1, h2, h3, h4⟩ := rput_ok' b (0, 0, 0, 0, 0, 0, setZ) s a
    exact ⟨k, e, split_ (fun _ => ⟨_, h1, rfl⟩) fun h => absurd rfl h, fun h => ⟨h2, h3 h⟩, h4⟩
  | cons x t =>
    obtain ⟨hx0, hx1⟩ := hv x t rfl
    rw [cat_cons, if_neg (by omega)]
    obtain ⟨k, e, ⟨n, hn⟩, h3, h4⟩ := rfold_ok b (x :: t) hl a t 1 x s rfl (by simp) hx0
    refine ⟨k, e, split_ (fun h => absurd h (by simp; omega)) fun _ => ⟨by decide, x, rfl, loop_it n hn⟩, h3, h4⟩
/-- What an interval tells. -/
def intvR (b : List UInt8) (q : Nat) : Int × Int × Int × Bool :=
  if (numR b q).2.2 ≠ 0 then (0, 0, 0, false)
  else if b[(numR b q).2.1.toNat]? = some 44 then
    (if (numR b ((numR b q).2.1.toNat + 1)).2.2 = 3 ∨ ((numR b ((numR b q).2.1.toNat + 1)).2.2 = 0 ∧ (numR b ((numR b q).2.1.toNat + 1)).1 < (numR b q).1) then (0, 0, 0, false)
    else if (numR b ((numR b q).2.1.toNat + 1)).2.2 ≠ 0 then ((numR b q).1, -1, (numR b q).2.1 + 1, true)
    else ((numR b q).1, (numR b ((numR b q).2.1.toNat + 1)).1, (numR b ((numR b q).2.1.toNat + 1)).2.1, true))
  else ((numR b q).1, (numR b q).1, (numR b q).2.1, true)
theorem rintv_ok (b : List UInt8) (s : Pz) (a e : Int) (q : Nat) (hb : b.length ≤ 1000) (hq : q ≤ b.length) : palinoderef08_Reader_Interval_R (rst b s a e) (q : Int) (intvR b q) := by
  refine ⟨_, rnum_ok b q hb hq, ?_⟩
  unfold intvR
  refine split_ (fun h => ?_) fun h => ?_
  · rw [if_pos h]
  rw [if_neg h]
  obtain ⟨z, hz, hz1, hz2⟩ := num_next (Decidable.not_not.1 h) hq
  have j1 : ∀ x : Bool, (x = false ↔ b[z]? = some 44) → palinoderef08_Reader_Interval_j1 (numR b q) (rst b s a e) x (if b[(numR b q).2.1.toNat]? = some 44 then
    (if (numR b ((numR b q).2.1.toNat + 1)).2.2 = 3 ∨ ((numR b ((numR b q).2.1.toNat + 1)).2.2 = 0 ∧ (numR b ((numR b q).2.1.toNat + 1)).1 < (numR b q).1) then (0, 0, 0, false)
    else if (numR b ((numR b q).2.1.toNat + 1)).2.2 ≠ 0 then ((numR b q).1, -1, (numR b q).2.1 + 1, true)
    else ((numR b q).1, (numR b ((numR b q).2.1.toNat + 1)).1, (numR b ((numR b q).2.1.toNat + 1)).2.1, true))
  else ((numR b q).1, (numR b q).1, (numR b q).2.1, true)) := fun x hx => by
    refine split_ (fun h1 => ?_) fun h1 => ?_
    · rw [hz, Int.toNat_natCast, if_neg (fun e => by rw [h1] at hx; exact absurd (hx.2 e) (by decide))]
    · have hc := hx.1 (by simpa using h1)
      have hl := (List.getElem?_eq_some_iff.1 hc).1
      rw [hz, Int.toNat_natCast, if_pos hc]
      refine inR_ (by omega) ⟨_, rnum_ok b (z + 1) hb hl, ?_⟩
      show palinoderef08_Reader_Interval_j2 (numR b (z + 1)) (numR b q) _ _
      refine split_ (fun h2 => ?_) fun h2 => split_ (fun h3 => inR_ (by rw [hz]; omega) ?_) fun h3 => ?_
      · simp only [Bool.or_eq_true, Bool.and_eq_true, decide_eq_true_eq] at h2
        rw [if_pos h2]
      · simp only [Bool.or_eq_true, Bool.and_eq_true, decide_eq_true_eq] at h2
        rw [if_neg h2, if_pos h3, hz]
      · simp only [Bool.or_eq_true, Bool.and_eq_true, decide_eq_true_eq] at h2
        rw [if_neg h2, if_neg h3]
  refine split_ (fun h1 => j1 true ?_) fun h1 => ?_
  · have h1 : (b.length : Int) ≤ (numR b q).2.1 := h1
    rw [List.getElem?_eq_none (by omega)]
    exact ⟨(fun e => by cases e), (fun e => by cases e)⟩
  · have h1 : ¬ (b.length : Int) ≤ (numR b q).2.1 := h1
    obtain ⟨y, hy⟩ : ∃ y, b[z]? = some y := ⟨_, List.getElem?_eq_getElem (by omega)⟩
    refine ⟨by rw [hz]; omega, y, by rw [hz, Int.toNat_natCast]; exact hy, j1 _ ?_⟩
    rw [hy]
    constructor
    · intro e2
      have e2 : decide ((y.toNat : Int) = 44) = true := by simpa using e2
      have e2 := of_decide_eq_true e2
      rw [show y = 44 from UInt8.toNat_inj.1 (by show y.toNat = 44; omega)]
    · intro e2
      injection e2 with e2
      subst e2
      rfl
theorem has1 (b : List UInt8) (p : Nat) (c : UInt8) : hasS b p [c] = true ↔ atB b p = (c.toNat : Int) := by
  unfold hasS atB
  rw [decide_eq_true_eq]
  cases h : b[p]? with
  | none =>
    rw [List.drop_eq_nil_of_le (List.getElem?_eq_none_iff.1 h)]
    exact ⟨fun e => (by cases e), fun e => absurd e (by show ¬ (-1 : Int) = (c.toNat : Int); omega)⟩
  | some x =>
    rw [drop_at h]
    show [x] = [c] ↔ (x.toNat : Int) = (c.toNat : Int)
    constructor
    · intro e; injection e with e; rw [e]
    · intro e; rw [u8_inj e]
theorem has2 (b : List UInt8) (p : Nat) (c d : UInt8) : hasS b p [c, d] = true ↔ atB b p = (c.toNat : Int) ∧ atB b (p + 1) = (d.toNat : Int) := by
  unfold hasS atB
  rw [decide_eq_true_eq]
  cases h : b[p]? with
  | none =>
    rw [List.drop_eq_nil_of_le (List.getElem?_eq_none_iff.1 h)]
    exact ⟨fun e => (by cases e), fun e => absurd e.1 (by show ¬ (-1 : Int) = (c.toNat : Int); omega)⟩
  | some x =>
    rw [drop_at h]
    cases h2 : b[p + 1]? with
    | none =>
      rw [List.drop_eq_nil_of_le (List.getElem?_eq_none_iff.1 h2)]
      exact ⟨fun e => (by cases e), fun e => absurd e.2 (by show ¬ (-1 : Int) = (d.toNat : Int); omega)⟩
    | some y =>
      rw [drop_at h2]
      show [x, y] = [c, d] ↔ (x.toNat : Int) = (c.toNat : Int) ∧ (y.toNat : Int) = (d.toNat : Int)
      constructor
      · intro e; injection e with e e2; injection e2 with e2; rw [e, e2]; exact ⟨rfl, rfl⟩
      · rintro ⟨e, e2⟩; rw [u8_inj e, u8_inj e2]
end Go.Proofs.Ytfhakeapepafbaa
