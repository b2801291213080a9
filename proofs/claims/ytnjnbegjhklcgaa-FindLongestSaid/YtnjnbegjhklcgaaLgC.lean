
/- All matches, place by place. -/
import Derived.Test.YtnjnbegjhklcgaaLgB
namespace Go.Proofs.Ytnjnbegjhklcgaa
section
variable {re : List ND} {tx : List UInt8} {g : Int}
/-- What comes behind the first match. -/
def cont (re : List ND) (g : Int) (tx : List UInt8) (k : Nat) (last : Int) (l : List Sp) (y : Ans) : AllT :=
  if y.2.1 = true then (if (y.1.l.getD 0 (0, 0)).1 = (y.1.l.getD 0 (0, 0)).2 ∧ (y.1.l.getD 0 (0, 0)).1 = last then allLoop re g tx k ((y.1.l.getD 0 (0, 0)).2 + 1) last l y.2.2.1
    else allLoop re g tx k (if (y.1.l.getD 0 (0, 0)).1 = (y.1.l.getD 0 (0, 0)).2 then (y.1.l.getD 0 (0, 0)).2 + 1 else (y.1.l.getD 0 (0, 0)).2) (y.1.l.getD 0 (0, 0)).2 (l ++ [y.1]) y.2.2.1)
  else (l, y.2.2.1, y.2.2.2)
theorem all_cont {k : Nat} {a last : Int} {l : List Sp} {f : Int} (h : ¬ (tx.length : Int) < a) : allLoop re g tx (k + 1) a last l f = cont re g tx k last l (firstM re g tx a f) := by
  unfold cont
  by_cases hy : (firstM re g tx a f).2.1 = true
  · rw [if_pos hy, all_yes h hy (sp_get _ (by omega))]
  · rw [if_neg hy, all_no h hy]
theorem all_pre (re : List ND) (g : Int) (tx : List UInt8) : ∀ (k : Nat) (a last : Int) (l : List Sp) (f : Int), 0 ≤ f → 0 ≤ a → (∃ m, (allLoop re g tx k a last l f).1 = l ++ m) ∧
    ∀ (j : Nat) x, l.length ≤ j → (allLoop re g tx k a last l f).1[j]? = some x → ∃ b t : Int, x.l[0]? = some (b, t) ∧ a ≤ b
  | 0, _, _, l, _, _, _ => ⟨⟨[], by simp [allLoop]⟩, fun j x hj hx => by
    have hx : l[j]? = some x := hx
    rw [List.getElem?_eq_none hj] at hx; cases hx⟩
  | k + 1, a, last, l, f, hf, ha => by
    have none_ : (∃ m, l = l ++ m) ∧ ∀ (j : Nat) x, l.length ≤ j → l[j]? = some x → ∃ b t : Int, x.l[0]? = some (b, t) ∧ a ≤ b :=
      ⟨⟨[], by simp⟩, fun j x hj hx => by rw [List.getElem?_eq_none hj] at hx; cases hx⟩
    by_cases hc : (tx.length : Int) < a
    · rw [all_stop hc]; exact none_
    by_cases hy : (firstM re g tx a f).2.1 = true
    · obtain ⟨y1, y2, y3⟩ := first_n re g tx a f hf
      obtain ⟨hz, b, hb, to, k1, k2, k3, k4⟩ := y3 hy
      rw [all_yes hc hy k1]
      split
      · obtain ⟨h1, h2⟩ := all_pre re g tx k (to + 1) last l _ y1 (by omega)
        exact ⟨h1, fun j x hj hx => by obtain ⟨b', t, q1, q2⟩ := h2 j x hj hx; exact ⟨b', t, q1, by omega⟩⟩
      · obtain ⟨⟨m, h1⟩, h2⟩ := all_pre re g tx k (if b = to then to + 1 else to) to (l ++ [(firstM re g tx a f).1]) _ y1 (by split <;> omega)
        refine ⟨⟨[(firstM re g tx a f).1] ++ m, by rw [h1, List.append_assoc]⟩, fun j x hj hx => ?_⟩
        by_cases hj2 : j = l.length
        · subst hj2
          have h1' : (allLoop re g tx k (if b = to then to + 1 else to) to (l ++ [(firstM re g tx a f).1]) (firstM re g tx a f).2.2.1).1[l.length]? = some x := hx
          rw [h1, List.append_assoc, List.getElem?_append_right (Nat.le_refl _), Nat.sub_self] at h1'
          injection h1' with h1'
          exact ⟨b, to, h1' ▸ k1, hb⟩
        · obtain ⟨b', t, q1, q2⟩ := h2 j x (by simp; omega) hx
          exact ⟨b', t, q1, by split at q2 <;> omega⟩
    · rw [all_no hc hy]; exact none_
theorem cont_pre {k : Nat} {last a f : Int} {l : List Sp} {y : Ans} (ha : 0 ≤ a) (hy : AnsOk g tx a f y) : ∀ (j : Nat) x, l.length ≤ j → (cont re g tx k last l y).1[j]? = some x → ∃ b t : Int, x.l[0]? = some (b, t) ∧ a ≤ b := by
  intro j x hj hx
  unfold cont at hx
  split at hx
  · rename_i hyt
    obtain ⟨hz, b, hb, to, k1, k2, k3, k4⟩ := hy.2.2 hyt
    have e : y.1.l.getD 0 (0, 0) = (b, to) := by rw [List.getD_eq_getElem?_getD, k1]; rfl
    rw [e] at hx
    split at hx
    · obtain ⟨b', t, q1, q2⟩ := (all_pre re g tx k (to + 1) last l _ hy.1 (by omega)).2 j x hj hx
      exact ⟨b', t, q1, by omega⟩
    · obtain ⟨⟨m, h1⟩, h2⟩ := all_pre re g tx k (if b = to then to + 1 else to) to (l ++ [y.1]) _ hy.1 (by split <;> omega)
      by_cases hj2 : j = l.length
      · subst hj2
        have h1' : (allLoop re g tx k (if b = to then to + 1 else to) to (l ++ [y.1]) y.2.2.1).1[l.length]? = some x := hx
        rw [h1, List.append_assoc, List.getElem?_append_right (Nat.le_refl _), Nat.sub_self] at h1'
        injection h1' with h1'
        exact ⟨b, to, h1' ▸ k1, hb⟩
      · obtain ⟨b', t, q1, q2⟩ := h2 j x (by simp; omega) hx
        exact ⟨b', t, q1, by split at q2 <;> omega⟩
  · have hx : l[j]? = some x := hx
    rw [List.getElem?_eq_none hj] at hx; cases hx
theorem firstLoop_err (hr : rightB re g = true) (htx : tx.length ≤ 1000) (least : Int) : ∀ (k : Nat) (a f : Int), 0 ≤ a → 0 ≤ f → (k : Int) + a ≤ (tx.length : Int) + 1 → (firstLoop re g tx least k a f).2.2.2 = 0 ∨ (firstLoop re g tx least k a f).2.2.2 = 18
  | 0, _, _, _, _, _ => .inl rfl
  | k + 1, a, f, h0, hf, hk => by
    unfold firstLoop
    split
    · rcases at_coll (re := re) (g := g) (tx := tx) (a0 := a) (f := f) hr h0 (by omega) (by omega) hf with e | ⟨r, _, e⟩
      · rw [e, if_pos (.inr (by decide))]; exact .inr rfl
      · rw [e]
        split
        · exact .inl rfl
        · exact firstLoop_err hr htx least k (a + 1) _ (by omega) (by show (0 : Int) ≤ r.1; omega) (by omega)
    · exact .inl rfl
theorem all_err (re : List ND) (g : Int) (tx : List UInt8) (hr : rightB re g = true) (htx : tx.length ≤ 1000) : ∀ (k : Nat) (a last : Int) (l : List Sp) (f : Int), 0 ≤ a → 0 ≤ f → (allLoop re g tx k a last l f).2.2 = 0 ∨ (allLoop re g tx k a last l f).2.2 = 18
  | 0, _, _, _, _, _, _ => .inl rfl
  | k + 1, a, last, l, f, h0, hf => by
    by_cases hc : (tx.length : Int) < a
    · rw [all_stop hc]; exact .inl rfl
    by_cases hy : (firstM re g tx a f).2.1 = true
    · obtain ⟨y1, y2, y3⟩ := first_n re g tx a f hf
      obtain ⟨hz, b, hb, to, k1, k2, k3, k4⟩ := y3 hy
      rw [all_yes hc hy k1]
      split
      · exact all_err re g tx hr htx k _ _ _ _ (by show 0 ≤ to + 1; omega) y1
      · exact all_err re g tx hr htx k _ _ _ _ (by show 0 ≤ if b = to then to + 1 else to; split <;> omega) y1
    · rw [all_no hc hy]
      have e : firstM re g tx a f = firstLoop re g tx (leastM re) ((tx.length : Int) + 1 - a).toNat a f := by
        unfold firstM
        rw [if_neg (by rw [hr]; intro h; rcases h with h | h | h | h <;> first | omega | cases h)]
      rw [e]
      exact firstLoop_err hr htx _ _ _ _ h0 hf (by omega)
/-- Where the search stands: at a place; or it has ended. -/
def MA (re : List ND) (g : Int) (tx : List UInt8) (R : AllT) (i : Nat) (last a : Int) : Prop := ∃ (k : Nat) (f : Int), 0 ≤ f ∧ f ≤ 3000 ∧ 0 ≤ a ∧ a ≤ tx.length ∧ (tx.length : Int) + 1 ≤ k + a ∧ R = cont re g tx k last (R.1.take i) (firstLoop re g tx (leastM re) ((tx.length : Int) + 1 - a).toNat a f)
def MB (re : List ND) (tx : List UInt8) (R : AllT) (i : Nat) (a : Int) : Prop := i = R.1.length ∧ (a ≤ tx.length → (tx.length : Int) - a < leastM re)
theorem take_all {R : AllT} {i : Nat} (hi : i ≤ R.1.length) (h : R.1 = R.1.take i) : i = R.1.length := by
  have := congrArg List.length h
  rw [List.length_take] at this
  omega
theorem enter {R : AllT} {k : Nat} {i : Nat} {last a f : Int} (hr : rightB re g = true) (hi : i ≤ R.1.length) (hf : 0 ≤ f ∧ f ≤ 3000) (ha : 0 ≤ a) (ha2 : a ≤ (tx.length : Int) + 1) (hk : (tx.length : Int) + 2 ≤ k + a) (h : R = allLoop re g tx k a last (R.1.take i) f) : MA re g tx R i last a ∨ MB re tx R i a := by
  by_cases hc : (tx.length : Int) < a
  · rw [all_stop hc] at h
    exact .inr ⟨take_all hi (congrArg (·.1) h), fun q => by omega⟩
  · obtain ⟨k, rfl⟩ : ∃ k', k = k' + 1 := ⟨k - 1, by omega⟩
    rw [all_cont hc] at h
    have e : firstM re g tx a f = firstLoop re g tx (leastM re) ((tx.length : Int) + 1 - a).toNat a f := by
      unfold firstM
      rw [if_neg (by rw [hr]; intro h; rcases h with h | h | h | h <;> first | omega | cases h)]
    rw [e] at h
    exact .inl ⟨k, f, hf.1, hf.2, ha, by omega, by omega, h⟩
theorem MA.from {R : AllT} {i : Nat} {last a : Int} (h : MA re g tx R i last a) {x : Sp} (hx : R.1[i]? = some x) : ∃ b t : Int, x.l[0]? = some (b, t) ∧ a ≤ b := by
  obtain ⟨k, f, f0, f1, a0, a1, hk, hR⟩ := h
  have hx2 := hx
  rw [hR] at hx2
  exact cont_pre a0 (firstLoop_n re g tx _ _ _ _ f0) i x (by rw [List.length_take]; omega) hx2
theorem next_ {R : AllT} {k i : Nat} {last a f : Int} (hi : i ≤ R.1.length) (hf : 0 ≤ f ∧ f ≤ 3000) (ha : 0 ≤ a) (ha2 : a ≤ tx.length) (hk : (tx.length : Int) + 1 ≤ k + a) (h : R = cont re g tx k last (R.1.take i) (firstLoop re g tx (leastM re) ((tx.length : Int) - a).toNat (a + 1) f)) : MA re g tx R i last (a + 1) ∨ MB re tx R i (a + 1) := by
  by_cases hl : a + 1 ≤ tx.length
  · exact .inl ⟨k, f, hf.1, hf.2, by omega, hl, by omega, by rw [show (tx.length : Int) + 1 - (a + 1) = (tx.length : Int) - a by omega]; exact h⟩
  · rw [show ((tx.length : Int) - a).toNat = 0 by omega] at h
    exact .inr ⟨take_all hi (congrArg (·.1) h), fun q => by omega⟩
/-- One place further. -/
theorem step_ {R : AllT} {i : Nat} {last a : Int} (hr : rightB re g = true) (htx : tx.length ≤ 1000) (hE : R.2.2 = 0) (hi : i ≤ R.1.length) (h : MA re g tx R i last a) :
    MB re tx R i a ∨
    (∃ v, palinoderef11_Best_R (re, g) tx a (v, false) ∧ (MA re g tx R i last (a + 1) ∨ MB re tx R i (a + 1))) ∨
    (∃ v, palinoderef11_Best_R (re, g) tx a (v, true) ∧ v.l[0]? = some (a, a) ∧ a = last ∧ (MA re g tx R i last (a + 1) ∨ MB re tx R i (a + 1))) ∨
    (∃ v t, palinoderef11_Best_R (re, g) tx a (v, true) ∧ v.l[0]? = some (a, t) ∧ a ≤ t ∧ t ≤ tx.length ∧ R.1[i]? = some v ∧ ∃ (k : Nat) (f : Int), 0 ≤ f ∧ f ≤ 3000 ∧ R = allLoop re g tx k (if a = t then t + 1 else t) t (R.1.take (i + 1)) f ∧ (tx.length : Int) + 2 ≤ k + (if a = t then t + 1 else t)) := by
  obtain ⟨k, f, f0, f1, a0, a1, hk, hR⟩ := h
  obtain ⟨hn, g0, g9, hl⟩ := right_nodes hr
  rw [show ((tx.length : Int) + 1 - a).toNat = ((tx.length : Int) - a).toNat + 1 by omega, firstLoop] at hR
  by_cases hle : leastM re ≤ (tx.length : Int) - a
  · rw [if_pos hle] at hR
    rcases at_coll (re := re) (g := g) (tx := tx) (a0 := a) (f := f) hr a0 a1 (by omega) f0 with e | ⟨r, hc, e⟩
    · rw [e, if_pos (.inr (by decide))] at hR
      have : R.2.2 = 18 := by rw [hR]; rfl
      omega
    · have hb := best_coll hr a0 a1 (by omega) (by omega) hc
      have hr1 : (r.1 : Int) ≤ 3000 := by have := coll_le (re := re) (tx := tx) (o8 := a) _ _ _ hc; omega
      have hok := coll_hok hn a0 _ _ _ (fun w hw => by rw [List.mem_singleton.1 hw]; exact start_k (g := g) hl a0 a1) hc
      have hmx := notes_max (g := g) (tx := tx) (a0 := a) (by omega) a0 r.2 (false, Arr.rep 10 (0, 0)) (fun h => by cases h) hok
      rw [e] at hR
      generalize r.2.foldl note (false, Arr.rep 10 (0, 0)) = y at *
      obtain ⟨y1, y2⟩ := y
      cases y1 with
      | false =>
        rw [if_neg (by simp)] at hR
        exact .inr (.inl ⟨y2, hb, next_ hi ⟨by show (0 : Int) ≤ r.1; omega, hr1⟩ a0 a1 hk hR⟩)
      | true =>
        rw [if_pos (.inl rfl)] at hR
        have hm := ((hmx.2.1 rfl).1.resolve_left (fun h => by cases h.1))
        obtain ⟨t, t1, t2, t3, _⟩ := hok _ hm
        have t1 : y2.l[0]? = some (a, t) := t1
        have eg : y2.l.getD 0 (0, 0) = (a, t) := by rw [List.getD_eq_getElem?_getD, t1]; rfl
        unfold cont at hR
        simp only [if_true, eg] at hR
        by_cases hs : a = t ∧ a = last
        · rw [if_pos hs] at hR
          obtain ⟨s1, s2⟩ := hs
          subst s1
          exact .inr (.inr (.inl ⟨y2, hb, t1, s2, enter hr hi ⟨by omega, hr1⟩ (by omega) (by omega) (by omega) hR⟩))
        · rw [if_neg hs] at hR
          obtain ⟨m, hm2⟩ := (all_pre re g tx k (if a = t then t + 1 else t) t (R.1.take i ++ [y2]) (r.1 : Int) (by omega) (by split <;> omega)).1
          have hR1 : R.1 = R.1.take i ++ [y2] ++ m := (congrArg (·.1) hR).trans hm2
          have hti : (R.1.take i).length = i := by rw [List.length_take]; omega
          have hat : R.1[i]? = some y2 := by
            rw [hR1, List.append_assoc, List.getElem?_append_right (by omega), hti, Nat.sub_self]; rfl
          have htk : R.1.take (i + 1) = R.1.take i ++ [y2] := by rw [List.take_add_one, hat]; rfl
          refine .inr (.inr (.inr ⟨y2, t, hb, t1, t2, t3, hat, k, (r.1 : Int), by omega, hr1, by rw [htk]; exact hR, by split <;> omega⟩))
  · rw [if_neg hle] at hR
    exact .inl ⟨take_all hi (congrArg (·.1) hR), fun _ => by omega⟩
end
end Go.Proofs.Ytnjnbegjhklcgaa
