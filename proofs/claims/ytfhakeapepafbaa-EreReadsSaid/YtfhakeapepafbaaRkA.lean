/- The document's reader of a bracket expression's items reads what the program's does. -/
import Derived.Test.YtfhakeapepafbaaRkP
namespace Go.Proofs.Ytfhakeapepafbaa
abbrev A256 := Arr 256 Bool
def arrF (g : Nat → Bool) : A256 := ⟨(List.range 256).map g, by simp⟩
theorem arrF_at (g : Nat → Bool) {d : Nat} (h : d < 256) : (arrF g).l[d]? = some (g d) := by
  show ((List.range 256).map g)[d]? = _
  rw [List.getElem?_map, List.getElem?_range h]; rfl
theorem arrF_ext {g h : Nat → Bool} (e : ∀ d, d < 256 → g d = h d) : arrF g = arrF h := Arr.ext (List.map_congr_left fun d hd => e d (List.mem_range.1 hd))
theorem arrF_set (g : Nat → Bool) (k : Nat) (v : Bool) : Arr.set (arrF g) k v = arrF (fun d => if d = k then v else g d) := by
  refine Arr.ext (List.ext_getElem? fun d => ?_)
  show (((List.range 256).map g).set k v)[d]? = ((List.range 256).map fun e => if e = k then v else g e)[d]?
  by_cases hd : d < 256
  · rw [List.getElem?_map, List.getElem?_range hd, List.getElem?_set]
    by_cases hk : k = d
    · subst hk
      rw [if_pos rfl, if_pos (by simpa using hd)]; simp
    · rw [if_neg hk, List.getElem?_map, List.getElem?_range hd]
      have : ¬ d = k := fun e => hk e.symm
      simp [this]
  · rw [List.getElem?_eq_none (by simp; omega), List.getElem?_eq_none (by simp; omega)]
theorem arr0 : (Arr.rep 256 false : A256) = arrF fun _ => false := Arr.ext (by
  show List.replicate 256 false = (List.range 256).map fun _ => false
  rw [List.map_const', List.length_range])
theorem arrZ : arrF (memS z4) = (Arr.rep 256 false : A256) := by rw [arr0]; exact arrF_ext fun d hd => mem_rep d hd
def atB (b : List UInt8) (i : Nat) : Int := match b[i]? with
  | some c => (c.toNat : Int)
  | none => -1
theorem rat_ok (b : List UInt8) (i : Nat) : palinoderef07_at_R b (i : Int) (atB b i) := by
  unfold atB
  refine split_ (fun h => by omega) fun _ => split_ (fun h => ?_) fun h => ?_
  · rw [List.getElem?_eq_none (by omega)]
  · have hl : i < b.length := by omega
    rw [List.getElem?_eq_getElem hl]
    exact ⟨by omega, b[i], by rw [Int.toNat_natCast]; exact List.getElem?_eq_getElem hl, rfl⟩
theorem rat_ok' (b : List UInt8) (i : Nat) {z : Int} (hz : z = (i : Int)) : palinoderef07_at_R b z (atB b i) := by subst hz; exact rat_ok b i
abbrev RIt := Int × A256 × Bool × Int × Int
def rk (p : Nat) : Except Int It → RIt
  | .error e => (0, Arr.rep 256 false, false, 0, e)
  | .ok x => ((x.1.toNat : Int), arrF (memS x.2.1), x.2.2.1, ((p + x.2.2.2 : Nat) : Int), 0)
theorem at_two (b : List UInt8) (i : Nat) (n : Nat) (hn : 0 < n) : atB b i = (n : Int) ↔ ((b.drop i).headD 0).toNat = n := by
  unfold atB
  cases h : b[i]? with
  | none =>
    rw [List.drop_eq_nil_of_le (List.getElem?_eq_none_iff.1 h)]
    constructor
    · intro e; have e : (-1 : Int) = n := e; omega
    · intro e; have e : (0 : UInt8).toNat = n := e; have : (0 : UInt8).toNat = 0 := rfl; omega
  | some c =>
    rw [drop_at h]
    show ((c.toNat : Int) = n) ↔ (c.toNat = n)
    omega
/-- The name in a class. -/
theorem rname_loop (b : List UInt8) (p i : Nat) (hb : b.length ≤ 1000) (hi : p + 2 + i ≤ b.length) : LoopR (fun ag6 s => palinoderef07_read_l6 (p : Int) ((p + 2 + i : Nat) : Int) b ag6 s.1 s.2
    (rk p (if (isS (nameB (b.drop (p + 2)) i) 0).2 = true then .ok (0, pset (fun c => (isS (nameB (b.drop (p + 2)) i) c).1) 256, true, i + 4) else .error 12))) (0, Arr.rep 256 false) := by
  have hname : (⟨((b.take ((p + 2 + i : Nat) : Int).toNat).drop ((p : Int) + 2).toNat).toArray⟩ : ByteArray) = nameB (b.drop (p + 2)) i := by
    unfold nameB
    rw [Int.toNat_natCast, show ((p : Int) + 2).toNat = p + 2 by omega, List.drop_take, show p + 2 + i - (p + 2) = i by omega]
  generalize nameB (b.drop (p + 2)) i = x at hname ⊢
  refine loop_ (fun st m => ∃ c : Nat, c ≤ 256 ∧ m = 256 - c ∧ st = ((c : Int), arrF (fun d => decide (d < c) && (isS x d).1)) ∧ (c = 0 ∨ (isS x 0).2 = true)) _ ⟨0, by omega, rfl, ?_, .inl rfl⟩ ?_
  · rw [arr0]
    refine Prod.ext rfl (arrF_ext fun d _ => ?_)
    rw [decide_eq_false (by omega)]; rfl
  rintro _ m ⟨c, hc, rfl, rfl, h4⟩
  show palinoderef07_read_l6 _ _ _ _ (c : Int) _ _
  refine split_ (fun h => ?_) fun h => ?_
  · refine inR_ (by omega) ⟨⟨by omega, by omega, by omega⟩, exU8 (by omega) fun y hy => ⟨isS x y.toNat, by rw [hname]; exact ris_ok x y, ?_⟩⟩
    have hyc : y.toNat = c := by omega
    rw [hyc]
    refine split_ (fun h6 => ?_) fun h6 => ⟨⟨by omega, by omega⟩, decide (c < c) && (isS x c).1, ?_, inR_ (by omega) ⟨256 - (c + 1), by omega, c + 1, by omega, rfl, ?_, .inr ?_⟩⟩
    · rw [is_snd] at h6
      rw [if_neg h6]; rfl
    · rw [Int.toNat_natCast]; exact arrF_at _ (by omega)
    · refine Prod.ext (by simp) ?_
      show Arr.set _ (c : Int).toNat _ = _
      rw [Int.toNat_natCast, arrF_set]
      refine arrF_ext fun d hd => ?_
      by_cases hdc : d = c
      · subst hdc; simp
      · rw [if_neg hdc, show decide (d < c + 1) = decide (d < c) by rw [decide_eq_decide]; omega]
    · rw [is_snd] at h6; exact Decidable.not_not.1 h6
  · have h6 : (isS x 0).2 = true := h4.resolve_left (by omega)
    rw [if_pos h6]
    show (((0 : UInt8).toNat : Int), arrF (memS (pset (fun c => (isS x c).1) 256)), true, ((p + (i + 4) : Nat) : Int), (0 : Int)) = _
    refine Prod.ext rfl (Prod.ext (arrF_ext fun d hd => ?_) (Prod.ext rfl (Prod.ext ?_ rfl)))
    · rw [mem_pset _ _ _ (by omega) hd, decide_eq_true (by omega), decide_eq_true (by omega)]
    · show _ = ((p + 2 + i : Nat) : Int) + 2
      show ((p + (i + 4) : Nat) : Int) = _
      omega
/-- Behind an item's opening: where it closes. -/
theorem rclose_ok (b : List UInt8) (p k : Nat) (two : UInt8) (hb : b.length ≤ 1000) (hk : p + 2 ≤ k) (hk2 : k ≤ b.length)
    (hidx : if k = b.length then Lib.index (b.drop (p + 2)) [two, 93] < 0 else Lib.index (b.drop (p + 2)) [two, 93] = ((k - (p + 2) : Nat) : Int)) : palinoderef07_read_j3 b (two.toNat : Int) (p : Int) (k : Int) (rk p (namedT two (b.drop (p + 2)))) := by
  unfold namedT
  refine split_ (fun h => ?_) fun h => inR_ (by omega) ?_
  · rw [if_pos (by omega)] at hidx
    rw [if_pos hidx]; rfl
  · rw [if_neg (by omega)] at hidx
    obtain ⟨i, rfl⟩ : ∃ i, k = p + 2 + i := ⟨k - (p + 2), by omega⟩
    rw [show p + 2 + i - (p + 2) = i by omega] at hidx
    rw [hidx, if_neg (by omega), Int.toNat_natCast]
    refine split_ (fun h2 => inR_ (by omega) (split_ (fun h3 => ?_) fun h3 => ?_)) fun h2 => ?_
    · rw [if_neg (by omega), if_neg (by omega)]; rfl
    · obtain rfl : i = 1 := by omega
      rw [if_neg (by omega), if_pos rfl]
      obtain ⟨y, hy⟩ : ∃ y, b[p + 2]? = some y := ⟨_, List.getElem?_eq_getElem (by omega)⟩
      refine inR_ (by omega) ⟨by omega, y, by rw [show ((p : Int) + 2).toNat = p + 2 by omega]; exact hy, ?_⟩
      rw [drop_at hy]
      show (((y.toNat : Nat) : Int), arrF (memS z4), false, ((p + 5 : Nat) : Int), (0 : Int)) = _
      rw [arrZ]
      refine Prod.ext rfl (Prod.ext rfl (Prod.ext rfl (Prod.ext ?_ rfl)))
      show ((p + 5 : Nat) : Int) = ((p + 2 + 1 : Nat) : Int) + 2
      omega
    · rw [if_pos (by omega)]
      exact rname_loop b p i hb (by omega)
theorem occ_two (t : List UInt8) (two : UInt8) (i : Nat) : Lib.occAt t [two, 93] i = true ↔ t[i]? = some two ∧ t[i + 1]? = some 93 := by
  constructor
  · intro h
    exact ⟨Lib.occAt_head rfl h, Lib.occAt_second rfl h⟩
  · rintro ⟨h1, h2⟩
    have hl := (List.getElem?_eq_some_iff.1 h2).1
    rw [Lib.occAt_iff_take _ _ _ (by simp; omega), drop_at h1, drop_at h2]
    simp
theorem rfind_ok (b : List UInt8) (p : Nat) (two : UInt8) (hb : b.length ≤ 1000) (hp : p + 2 ≤ b.length) :
    LoopR (fun ag4 s => palinoderef07_read_l4 b (two.toNat : Int) (p : Int) ag4 s (rk p (namedT two (b.drop (p + 2))))) ((p : Int) + 2) := by
  refine loop_ (fun st m => ∃ i : Nat, p + 2 + i ≤ b.length ∧ m = b.length - (p + 2 + i) ∧ st = ((p + 2 + i : Nat) : Int) ∧ ∀ j, j < i → Lib.occAt (b.drop (p + 2)) [two, 93] j = false) _ ⟨0, by omega, rfl, by omega, fun j hj => by omega⟩ ?_
  rintro _ m ⟨i, hi, rfl, rfl, hno⟩
  show palinoderef07_read_l4 _ _ _ _ ((p + 2 + i : Nat) : Int) _
  have hat : ∀ j, (b.drop (p + 2))[j]? = b[p + 2 + j]? := fun j => by rw [List.getElem?_drop]
  have hspec := Lib.index_spec (b.drop (p + 2)) [two, 93]
  have next : Lib.occAt (b.drop (p + 2)) [two, 93] i = false → ∀ j, j < i + 1 → Lib.occAt (b.drop (p + 2)) [two, 93] j = false := fun h j hj => by
    rcases (by omega : j < i ∨ j = i) with h1 | rfl
    · exact hno j h1
    · exact h
  refine split_ (fun h => ?_) fun h => ?_
  · obtain ⟨y, hy⟩ : ∃ y, b[p + 2 + i]? = some y := ⟨_, List.getElem?_eq_getElem (by omega)⟩
    refine ⟨by omega, y, by rw [Int.toNat_natCast]; exact hy, split_ (fun h1 => inR_ (by omega) ⟨_, rat_ok' b (p + 2 + i + 1) (by omega), split_ (fun h2 => ?_) fun h2 => ?_⟩) fun h1 => ?_⟩
    · refine inR_ (by omega) ⟨b.length - (p + 2 + (i + 1)), by omega, i + 1, by omega, rfl, by omega, next ?_⟩
      rw [Bool.eq_false_iff]
      intro ho
      have := ((occ_two _ _ _).1 ho).2
      rw [hat] at this
      refine h2 ?_
      unfold atB
      rw [show p + 2 + i + 1 = p + 2 + (i + 1) by omega, this]; rfl
    · have h2 := Decidable.not_not.1 h2
      have hy2 : b[p + 2 + i + 1]? = some 93 := by
        unfold atB at h2
        cases hc : b[p + 2 + i + 1]? with
        | none => rw [hc] at h2; exact absurd h2 (by show ¬ (-1 : Int) = 93; decide)
        | some c =>
          rw [hc] at h2
          have h2 : (c.toNat : Int) = 93 := h2
          rw [show c = 93 from UInt8.toNat_inj.1 (by show c.toNat = 93; omega)]
      have hl := (List.getElem?_eq_some_iff.1 hy2).1
      have hyt : y = two := u8_inj h1
      subst hyt
      have ho : Lib.occAt (b.drop (p + 2)) [y, 93] i = true := (occ_two _ _ _).2 ⟨by rw [hat]; exact hy, by rw [hat]; exact hy2⟩
      refine rclose_ok b p (p + 2 + i) y hb (by omega) (by omega) ?_
      rw [if_neg (by omega)]
      rcases hspec with ⟨_, h3⟩ | ⟨k, h3, h4, h5, h6⟩
      · have := h3 i (by rw [List.length_drop]; omega)
        rw [ho] at this; cases this
      · rw [h3]
        rcases (by omega : k < i ∨ k = i ∨ i < k) with h7 | rfl | h7
        · rw [hno k h7] at h5; cases h5
        · congr 1; omega
        · have := h6 i h7
          rw [ho] at this; cases this
    · refine inR_ (by omega) ⟨b.length - (p + 2 + (i + 1)), by omega, i + 1, by omega, rfl, by omega, next ?_⟩
      rw [Bool.eq_false_iff]
      intro ho
      have := ((occ_two _ _ _).1 ho).1
      rw [hat, hy] at this
      injection this with this
      subst this
      exact h1 rfl
  · have hpl : p + 2 + i = b.length := by omega
    refine rclose_ok b p (p + 2 + i) two hb (by omega) (by omega) ?_
    rw [if_pos hpl]
    rcases hspec with ⟨h3, _⟩ | ⟨k, h3, h4, h5, h6⟩
    · rw [h3]; decide
    · exfalso
      have h7 := (List.getElem?_eq_some_iff.1 ((occ_two _ _ _).1 h5).2).1
      rw [List.length_drop] at h7
      rw [hno k (by omega)] at h5; cases h5
theorem rread_ok (b : List UInt8) (p : Nat) (hb : b.length ≤ 1000) : palinoderef07_read_R b (p : Int) (rk p (readT (b.drop p))) := by
  refine split_ (fun h => ?_) fun h => inR_ (by omega) ⟨_, rat_ok' b (p + 1) (by omega), by omega, ?_⟩
  · rw [List.drop_eq_nil_of_le (by omega)]; rfl
  obtain ⟨x, hx⟩ : ∃ x, b[p]? = some x := ⟨_, List.getElem?_eq_getElem (by omega)⟩
  refine ⟨x, by rw [Int.toNat_natCast]; exact hx, ?_⟩
  rw [drop_at hx]
  show palinoderef07_read_j1 _ _ _ _ (rk p (readC x ((b.drop (p + 1)).headD 0) (b.drop (p + 1))))
  have hm := fun n hn => at_two b (p + 1) n hn
  generalize htw : (b.drop (p + 1)).headD 0 = two at hm ⊢
  have m110 := hm 110 (by decide); have m58 := hm 58 (by decide); have m46 := hm 46 (by decide); have m61 := hm 61 (by decide)
  have hd1 : (b.drop (p + 1)).drop 1 = b.drop (p + 2) := by rw [List.drop_drop]
  unfold readC
  refine split_ (fun h1 => inR_ (by omega) ?_) fun h1 => ⟨by omega, x, by rw [Int.toNat_natCast]; exact hx, ?_⟩
  · simp only [Bool.and_eq_true, decide_eq_true_eq] at h1
    rw [if_neg (by omega), if_pos ⟨by omega, m110.1 h1.2⟩]
    show (((10 : UInt8).toNat : Int), arrF (memS z4), false, ((p + 2 : Nat) : Int), (0 : Int)) = _
    rw [arrZ]; rfl
  · have h1 : ¬ (x.toNat = 92 ∧ two.toNat = 110) := fun ⟨e1, e2⟩ => h1 (by
      simp only [Bool.and_eq_true, decide_eq_true_eq]; exact ⟨by omega, m110.2 e2⟩)
    refine split_ (fun h2 => ⟨by omega, x, by rw [Int.toNat_natCast]; exact hx, inR_ (by omega) ?_⟩) fun h2 => inR_ (by omega) ?_
    · simp only [Bool.or_eq_true, Bool.and_eq_true, Bool.not_eq_true', decide_eq_false_iff_not] at h2
      rw [if_neg (fun ⟨e1, e2⟩ => by
        rcases h2 with h2 | h2
        · omega
        · rcases e2 with e2 | e2 | e2
          · exact h2.1 (m58.2 e2)
          · exact h2.2.1 (m46.2 e2)
          · exact h2.2.2 (m61.2 e2)), if_neg h1]
      show ((x.toNat : Int), arrF (memS z4), false, ((p + 1 : Nat) : Int), (0 : Int)) = _
      rw [arrZ]; rfl
    · simp only [Bool.or_eq_true, Bool.and_eq_true, Bool.not_eq_true', decide_eq_false_iff_not] at h2
      have h91 : x.toNat = 91 := by
        by_cases e : x.toNat = 91
        · exact e
        · exact absurd (.inl (by omega)) h2
      have hth : two.toNat = 58 ∨ two.toNat = 46 ∨ two.toNat = 61 := by
        by_cases e : two.toNat = 58 ∨ two.toNat = 46 ∨ two.toNat = 61
        · exact e
        · exact absurd (.inr ⟨fun q => e (.inl (m58.1 q)), fun q => e (.inr (.inl (m46.1 q))), fun q => e (.inr (.inr (m61.1 q)))⟩) h2
      have hl : p + 2 ≤ b.length := by
        rcases Nat.lt_or_ge (p + 1) b.length with hl | hl
        · exact hl
        · rw [List.drop_eq_nil_of_le hl] at htw
          subst htw
          have : (List.headD ([] : List UInt8) 0).toNat = 0 := rfl
          omega
      rw [if_pos ⟨h91, hth⟩, hd1, (hm two.toNat (by omega)).2 rfl]
      exact rfind_ok b p two hb hl
end Go.Proofs.Ytfhakeapepafbaa
