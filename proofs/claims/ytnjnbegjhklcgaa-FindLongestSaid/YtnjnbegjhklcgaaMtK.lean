
/- The reference's search does what it says. -/
import Derived.Test.YtnjnbegjhklcgaaMtI
namespace Go.Proofs.Ytnjnbegjhklcgaa
theorem bl_loop (a : List UInt8) : ∀ (k i : Nat) (r : List UInt8), a.length - i = k → ByteArray.toList.loop ⟨a.toArray⟩ i r = r.reverse ++ a.drop i
  | 0, i, r, h => by
    rw [ByteArray.toList.loop, if_neg (by show ¬ i < a.toArray.size; simp; omega), List.drop_eq_nil_of_le (by omega), List.append_nil]
  | k + 1, i, r, h => by
    have hi : i < a.length := by omega
    rw [ByteArray.toList.loop, if_pos (by show i < a.toArray.size; simpa using hi), bl_loop a k (i + 1) _ (by omega)]
    have e : ByteArray.get! ⟨a.toArray⟩ i = a[i] := by
      show a.toArray[i]! = a[i]
      rw [getElem!_pos a.toArray i (by simpa using hi)]; simp
    rw [e, List.reverse_cons, List.append_assoc, List.drop_eq_getElem_cons hi]; rfl
theorem bl (a : List UInt8) : (⟨a.toArray⟩ : ByteArray).toList = a := by
  show ByteArray.toList.loop ⟨a.toArray⟩ 0 [] = a
  rw [bl_loop a _ 0 [] rfl]; rfl
theorem equalM_eq (a b : List UInt8) : equalM a b = decide (a = b) := by
  unfold equalM
  rw [bl, bl]
  rw [Bool.eq_iff_iff, beq_iff_eq, decide_eq_true_eq]
theorem prefix_iff {tx : List UInt8} {a b c : Nat} (h1 : b ≤ c) (h2 : c ≤ tx.length) : prefixM (tx.drop a) ((tx.take c).drop b) = true ↔ c - b ≤ tx.length - a ∧ ∀ j, j < c - b → tx[b + j]? = tx[a + j]? := by
  have l1 : ((tx.take c).drop b).length = c - b := by rw [List.length_drop, List.length_take]; omega
  have l2 : (tx.drop a).length = tx.length - a := List.length_drop
  have g1 : ∀ j, ((tx.drop a).take (c - b))[j]? = if j < c - b then tx[a + j]? else none := fun j => by
    rw [List.getElem?_take]; split
    · rw [List.getElem?_drop]
    · rfl
  have g2 : ∀ j, ((tx.take c).drop b)[j]? = if j < c - b then tx[b + j]? else none := fun j => by
    rw [List.getElem?_drop, List.getElem?_take]
    by_cases h : j < c - b
    · rw [if_pos h, if_pos (by omega)]
    · rw [if_neg h, if_neg (by omega)]
  unfold prefixM
  rw [l1, l2, equalM_eq]
  by_cases h : c - b ≤ tx.length - a
  · rw [if_pos h, decide_eq_true_eq]
    constructor
    · intro e
      refine ⟨h, fun j hj => ?_⟩
      have := congrArg (·[j]?) e
      simp only [g1, g2, if_pos hj] at this
      exact this.symm
    · rintro ⟨_, e⟩
      apply List.ext_getElem?
      intro j
      rw [g1, g2]
      by_cases hj : j < c - b
      · rw [if_pos hj, if_pos hj, e j hj]
      · rw [if_neg hj, if_neg hj]
  · rw [if_neg h]
    exact ⟨fun e => absurd e Bool.false_ne_true, fun e => absurd e.1 h⟩
def sameM (tx : List UInt8) (x : Int × Int) (a : Int) : Int := if x.1 < 0 then -1 else if prefixM (tx.drop a.toNat) ((tx.take x.2.toNat).drop x.1.toNat) = true then a + x.2 - x.1 else -1
theorem rsame_ok (tx : List UInt8) (x : Int × Int) (a : Int) (htx : tx.length ≤ 1000000000) (h0 : 0 ≤ a) (h1 : a ≤ tx.length) (hx : x = (-1, -1) ∨ (0 ≤ x.1 ∧ x.1 ≤ x.2 ∧ x.2 ≤ tx.length)) : palinoderef11_Same_R tx x a (sameM tx x a) := by
  unfold palinoderef11_Same_R sameM
  refine split_ (fun h => by rw [if_pos h]) fun h => ?_
  obtain ⟨x1, x2, x3⟩ := hx.resolve_left fun e => by rw [e] at h; exact h (by decide)
  rw [if_neg h]
  have hp := prefix_iff (tx := tx) (a := a.toNat) (b := x.1.toNat) (c := x.2.toNat) (by omega) (by omega)
  refine inR_ (by omega) (inR_ (by omega) (split_ (fun h2 => ?_) fun h2 => ?_))
  · rw [if_neg]
    intro q
    have := (hp.1 q).1
    omega
  refine loop_ (fun s m => ∃ i : Nat, s = (i : Int) ∧ i ≤ x.2.toNat - x.1.toNat ∧ x.2.toNat - x.1.toNat - i = m ∧ ∀ j, j < i → tx[x.1.toNat + j]? = tx[a.toNat + j]?) _ ⟨0, rfl, by omega, rfl, fun j hj => by omega⟩ ?_
  rintro _ m ⟨i, rfl, hi, rfl, hall⟩
  unfold palinoderef11_Same_l1
  refine inR_ (by omega) (split_ (fun h3 => ?_) fun h3 => ?_)
  · refine inR_ (by omega) (at_ (by omega) (by omega) fun y hy => inR_ (by omega) (at_ (by omega) (by omega) fun z hz => ?_))
    rw [show (x.1 + (i : Int)).toNat = x.1.toNat + i by omega] at hy
    rw [show (a + (i : Int)).toNat = a.toNat + i by omega] at hz
    refine split_ (fun hne => ?_) fun hne => ?_
    · rw [if_neg]
      intro q
      have := (hp.1 q).2 i (by omega)
      rw [hy, hz] at this
      injection this with this
      exact hne (by rw [this])
    · have e : y = z := UInt8.toNat_inj.1 (by have := Classical.not_not.1 hne; omega)
      refine inR_ (by omega) ⟨x.2.toNat - x.1.toNat - (i + 1), by omega, i + 1, by omega, by omega, rfl, fun j hj => ?_⟩
      rcases Nat.lt_or_ge j i with h | h
      · exact hall j h
      · obtain rfl : j = i := by omega
        rw [hy, hz, e]
  · rw [if_pos (hp.2 ⟨by omega, fun j hj => hall j (by omega)⟩)]
    exact inR_ (by omega) (inR_ (by omega) rfl)
theorem rbetter_ok (a b : Sp) : palinoderef11_Better_R a b (betterM a b) := by
  unfold palinoderef11_Better_R
  refine atA (by omega) (by omega) fun x hx => atA (by omega) (by omega) fun y hy => ?_
  have hx' : a.l[0]? = some x := hx
  have hy' : b.l[0]? = some y := hy
  have e : betterM a b = if x.2 = y.2 then betterFrom a b 9 1 else decide (y.2 < x.2) := by unfold betterM; rw [hx', hy']
  refine split_ (fun h => ?_) fun h => ?_
  · refine atA (by omega) (by omega) fun x2 hx2 => atA (by omega) (by omega) fun y2 hy2 => ?_
    rw [hx] at hx2; rw [hy] at hy2
    injection hx2 with e1; injection hy2 with e2
    rw [e, if_neg h, ← e1, ← e2]
  · have h' := Classical.not_not.1 h
    rw [e, if_pos h']
    refine loop_ (fun s m => ∃ i : Nat, s = (i : Int) ∧ i ≤ 10 ∧ m = 10 - i ∧ betterFrom a b 9 1 = betterFrom a b (10 - i) i) 9 ⟨1, rfl, by omega, rfl, rfl⟩ ?_
    rintro _ m ⟨i, rfl, hi, rfl, he⟩
    rw [he]
    unfold palinoderef11_Better_l1
    refine split_ (fun h1 => ?_) fun h1 => ?_
    · refine atA (by omega) (by omega) fun x hx => atA (by omega) (by omega) fun y hy => ?_
      have hx' : a.l[i]? = some x := hx
      have hy' : b.l[i]? = some y := hy
      have hs : betterFrom a b (10 - i) i = if x = y then betterFrom a b (10 - (i + 1)) (i + 1) else
        if x.1 < 0 ∨ y.1 < 0 then (if y.1 < 0 then decide (0 ≤ x.1) else false) else
        if x.1 = y.1 then decide (y.2 < x.2) else decide (x.1 < y.1) := by
        rw [show 10 - i = (10 - (i + 1)) + 1 by omega, betterFrom, hx', hy']
      refine split_ (fun h2 => ?_) fun h2 => ?_
      · exact inR_ (by omega) ⟨10 - (i + 1), by omega, i + 1, by omega, by omega, rfl, by rw [hs, if_pos h2]⟩
      · rw [hs, if_neg h2]
        refine split_ (fun h3 => ?_) fun h3 => ?_
        · rw [if_pos (.inl h3)]
          split
          · exact decide_eq_false (by omega)
          · rfl
        refine split_ (fun h4 => ?_) fun h4 => ?_
        · rw [if_pos (.inr h4), if_pos h4]
          exact decide_eq_true (by omega)
        rw [if_neg (by omega)]
        exact split_ (fun h4 => by rw [if_neg h4]) fun h4 => by rw [if_pos (Classical.not_not.1 h4)]
    · obtain rfl : i = 10 := by omega
      rfl
theorem none_ok : palinoderef11_None_R sp0 := by
  unfold palinoderef11_None_R
  refine loop_ (fun x m => ∃ i : Nat, x = ((i : Int), arrI i) ∧ i ≤ 10 ∧ 10 - i = m) 10 ⟨0, rfl, by omega, rfl⟩ ?_
  rintro _ m ⟨i, rfl, hi, rfl⟩
  unfold palinoderef11_None_l1
  simp only
  refine split_ (fun h => ?_) fun h => ?_
  · exact atA (by omega) (by omega) fun x hx => inR_ (by omega) ⟨10 - (i + 1), by omega, i + 1, rfl, by omega, rfl⟩
  · obtain rfl : i = 10 := by omega
    exact arrI10.symm
theorem rhas_ok (s : SetT) (c : UInt8) : palinoderef05_Has_R s c (memS s c.toNat) := by
  have hc := c.toNat_lt
  have h1 : (c.toNat : Int).tdiv 64 = ((c.toNat / 64 : Nat) : Int) := td _ 64
  have h2 : (c.toNat : Int).tmod 64 = ((c.toNat % 64 : Nat) : Int) := tm _ 64
  unfold palinoderef05_Has_R
  rw [h1]
  refine ⟨by decide, exU8 (by omega) fun c4 h4 => atA (by omega) (by omega) fun y hy => ?_⟩
  rw [show ((c4.toNat : Int) : Int).toNat = c.toNat / 64 by omega] at hy
  refine loop_ (fun s m => ∃ i, i ≤ c.toNat % 64 ∧ m = c.toNat % 64 - i ∧ s.2.toNat = i ∧ s.1.toNat = y.toNat / 2 ^ i) _ ⟨0, by omega, rfl, rfl, by simp⟩ ?_
  rintro ⟨w, i'⟩ m ⟨i, hi, rfl, h3, h4⟩
  simp only at h3 h4
  have hwl := w.toNat_lt
  show palinoderef05_Has_l1 c _ w i' _
  unfold palinoderef05_Has_l1
  rw [h2]
  refine ⟨by decide, exU8' (by omega) fun c76 h5 => split_ (fun h6 => ?_) fun h6 => ?_⟩
  · have h7 : (w.toNat : Int).tdiv 2 = ((w.toNat / 2 : Nat) : Int) := td _ 2
    simp only [h7]
    refine ⟨by decide, exU64 (by omega) fun c80 h8 => exU8 (by omega) fun c82 h9 => ⟨c.toNat % 64 - (i + 1), by omega, i + 1, by omega, rfl, by show c82.toNat = _; omega, ?_⟩⟩
    show c80.toNat = _
    rw [Nat.pow_succ, ← Nat.div_div_eq_div_mul, ← h4]
    omega
  · have h7 : (w.toNat : Int).tmod 2 = ((w.toNat % 2 : Nat) : Int) := tm _ 2
    simp only [h7]
    refine ⟨by decide, exU64' (by omega) fun c84 h8 => ?_⟩
    obtain rfl : i = c.toNat % 64 := by omega
    rw [mem_at hy, decide_eq_decide, ← h4]
    omega
end Go.Proofs.Ytnjnbegjhklcgaa
