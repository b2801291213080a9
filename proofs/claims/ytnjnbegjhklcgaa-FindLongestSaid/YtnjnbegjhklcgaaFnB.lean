
/- All matches, in plain terms. -/
import Derived.Test.YtnjnbegjhklcgaaFnA
namespace Go.Proofs.Ytnjnbegjhklcgaa
abbrev Ans := Sp × Bool × Int × Int
def firstLoop (re : List ND) (g : Int) (tx : List UInt8) (least : Int) : Nat → Int → Int → Ans
  | 0, _, f => (Arr.rep 10 (0, 0), false, f, 0)
  | k + 1, a, f => if least ≤ (tx.length : Int) - a then
      (if (atM re g tx a f).2.1 = true ∨ ¬ (atM re g tx a f).2.2.2 = 0 then atM re g tx a f else firstLoop re g tx least k (a + 1) (atM re g tx a f).2.2.1)
    else (Arr.rep 10 (0, 0), false, f, 0)
def firstM (re : List ND) (g : Int) (tx : List UInt8) (a f : Int) : Ans :=
  if a < 0 ∨ (tx.length : Int) < a ∨ f < 0 ∨ rightB re g = false then (Arr.rep 10 (0, 0), false, 0, 1) else firstLoop re g tx (leastM re) ((tx.length : Int) + 1 - a).toNat a f
/-- What an answer's numbers may be. -/
def AnsOk (g : Int) (tx : List UInt8) (a0 f : Int) (y : Ans) : Prop :=
  0 ≤ y.2.2.1 ∧ y.2.2.1 ≤ f ∧ (y.2.1 = true → y.2.2.2 = 0 ∧ ∃ a, a0 ≤ a ∧ HOk g tx a y.1)
theorem run_n (re : List ND) (tx : List UInt8) (o8 : Int) : ∀ (f : Nat) (s : Sg), 0 ≤ (runM re tx o8 f s).2.2.1 ∧ (runM re tx o8 f s).2.2.1 ≤ f ∧ ((runM re tx o8 f s).2.1 = true → (runM re tx o8 f s).2.2.2 = 0)
  | f, s => by
    by_cases hs : s.1 = []
    · rw [run_nil hs]; exact ⟨by simp, Int.le_refl _, fun _ => rfl⟩
    · cases f with
      | zero => rw [run_zero hs]; exact ⟨by decide, by decide, fun e => by cases e⟩
      | succ f =>
        rw [run_succ hs]
        obtain ⟨h1, h2, h3⟩ := run_n re tx o8 f (doM re tx o8 (s.1.dropLast, s.2) (s.1.getLast hs))
        exact ⟨h1, by omega, h3⟩
theorem at_n (re : List ND) (g : Int) (tx : List UInt8) (a f : Int) (hf : 0 ≤ f) : AnsOk g tx a f (atM re g tx a f) := by
  unfold atM
  split
  · exact ⟨by decide, hf, fun e => by cases e⟩
  · rename_i hb
    cases hr : rightB re g with
    | false => exact absurd (.inr (.inr (.inr hr))) hb
    | true =>
      obtain ⟨hn, g0, g9, hl⟩ := right_nodes hr
      have ha : 0 ≤ a := Int.not_lt.1 fun q => hb (.inl q)
      have ha2 : a ≤ tx.length := Int.not_lt.1 fun q => hb (.inr (.inl q))
      obtain ⟨h1, h2, h3⟩ := run_n re tx a f.toNat (startM re a)
      exact ⟨h1, by omega, fun e => ⟨h3 e, a, Int.le_refl _, (run_s hn ha _ _ (start_s hl ha ha2)).1 ⟨h3 e, e⟩⟩⟩
theorem firstLoop_n (re : List ND) (g : Int) (tx : List UInt8) (least : Int) : ∀ (k : Nat) (a f : Int), 0 ≤ f → AnsOk g tx a f (firstLoop re g tx least k a f)
  | 0, _, f, hf => ⟨hf, Int.le_refl _, fun e => by cases e⟩
  | k + 1, a, f, hf => by
    unfold firstLoop
    have h := at_n re g tx a f hf
    split
    · split
      · exact h
      · obtain ⟨h1, h2, h3⟩ := firstLoop_n re g tx least k (a + 1) _ h.1
        exact ⟨h1, Int.le_trans h2 h.2.1, fun e => ⟨(h3 e).1, (h3 e).2.elim fun b hb => ⟨b, by omega, hb.2⟩⟩⟩
    · exact ⟨hf, Int.le_refl _, fun e => by cases e⟩
theorem first_n (re : List ND) (g : Int) (tx : List UInt8) (a f : Int) (hf : 0 ≤ f) : AnsOk g tx a f (firstM re g tx a f) := by
  unfold firstM
  split
  · exact ⟨by decide, hf, fun e => by cases e⟩
  · exact firstLoop_n re g tx _ _ _ _ hf
theorem first_ok (re : List ND) (g : Int) (tx : List UInt8) (a f : Int) (htx : tx.length ≤ 900000000) (hf : f ≤ 100000000) : find_First_R (re, g) tx a f (firstM re g tx a f) := by
  unfold find_First_R
  have bad : a < 0 ∨ (tx.length : Int) < a ∨ f < 0 ∨ rightB re g = false → find_First_j1 (re, g) tx f a true (firstM re g tx a f) := by
    intro h
    unfold find_First_j1 firstM
    rw [if_pos h]
    exact split_ (fun _ => rfl) fun q => absurd rfl q
  refine split_ (fun h => bad (.inl h)) fun h1 => split_ (fun h => bad (.inr (.inl h))) fun h2 => split_ (fun h => bad (.inr (.inr (.inl h)))) fun h3 => ⟨_, right_ok _ _, ?_⟩
  cases hr : rightB re g with
  | false => exact bad (.inr (.inr (.inr hr)))
  | true =>
    unfold find_First_j1
    refine split_ (fun h => by cases h) fun _ => ⟨_, least_ok re g hr, ?_⟩
    have e : firstM re g tx a f = firstLoop re g tx (leastM re) ((tx.length : Int) + 1 - a).toNat a f := by
      unfold firstM
      rw [if_neg (by rw [hr]; intro h; rcases h with h | h | h | h <;> first | omega | cases h)]
    rw [e]
    refine loop_ (fun x m => ∃ (b f' : Int) (h : Sp), x = (f', b, h) ∧ 0 ≤ b ∧ b ≤ (tx.length : Int) + 1 ∧ 0 ≤ f' ∧ f' ≤ f ∧ ((tx.length : Int) + 1 - b).toNat = m ∧ firstLoop re g tx (leastM re) ((tx.length : Int) + 1 - a).toNat a f = firstLoop re g tx (leastM re) m b f') _ ⟨a, f, _, rfl, by omega, by omega, by omega, Int.le_refl _, rfl, rfl⟩ ?_
    rintro _ m ⟨b, f', h, rfl, b0, b1, f0, f1, hm, he⟩
    rw [he]
    unfold find_First_l3
    simp only
    refine split_ (fun h1 => ?_) fun h1 => ?_
    · obtain ⟨k, rfl⟩ : ∃ k, m = k + 1 := ⟨m - 1, by omega⟩
      refine inR_ (by omega) (split_ (fun h2 => ?_) fun h2 => ?_)
      · refine ⟨_, at_ok re g tx b f' htx (by omega), ?_⟩
        have hy := at_n re g tx b f' f0
        have es : firstLoop re g tx (leastM re) (k + 1) b f' = if (atM re g tx b f').2.1 = true ∨ ¬ (atM re g tx b f').2.2.2 = 0 then atM re g tx b f' else firstLoop re g tx (leastM re) k (b + 1) (atM re g tx b f').2.2.1 := by
          rw [firstLoop, if_pos h2]
        unfold find_First_j4
        refine split_ (fun h3 => ?_) fun h3 => ?_
        · rw [es, if_pos (by simpa using h3)]
        · have h3' : ¬ ((atM re g tx b f').2.1 = true ∨ ¬ (atM re g tx b f').2.2.2 = 0) := by simpa using h3
          exact inR_ (by omega) ⟨k, by omega, b + 1, (atM re g tx b f').2.2.1, _, rfl, by omega, by omega, hy.1, Int.le_trans hy.2.1 f1, by omega, by rw [es, if_neg h3']⟩
      · rw [firstLoop, if_neg h2]; rfl
    · obtain rfl : m = 0 := by omega
      rfl
abbrev AllT := List Sp × Int × Int
def allLoop (re : List ND) (g : Int) (tx : List UInt8) : Nat → Int → Int → List Sp → Int → AllT
  | 0, _, _, l, f => (l, f, 0)
  | k + 1, a, last, l, f => if (tx.length : Int) < a then (l, f, 0) else
    let y := firstM re g tx a f
    if y.2.1 = true then match y.1.l[0]? with
      | none => (l, f, 0)
      | some s => if s.1 = s.2 ∧ s.1 = last then allLoop re g tx k (s.2 + 1) last l y.2.2.1
        else allLoop re g tx k (if s.1 = s.2 then s.2 + 1 else s.2) s.2 (l ++ [y.1]) y.2.2.1
    else (l, y.2.2.1, y.2.2.2)
theorem all_stop {re : List ND} {g : Int} {tx : List UInt8} {k : Nat} {a last : Int} {l : List Sp} {f : Int} (h : (tx.length : Int) < a) : allLoop re g tx k a last l f = (l, f, 0) := by
  cases k with
  | zero => rfl
  | succ k => rw [allLoop, if_pos h]
theorem all_no {re : List ND} {g : Int} {tx : List UInt8} {k : Nat} {a last : Int} {l : List Sp} {f : Int} (h : ¬ (tx.length : Int) < a) (hy : ¬ (firstM re g tx a f).2.1 = true) :
    allLoop re g tx (k + 1) a last l f = (l, (firstM re g tx a f).2.2.1, (firstM re g tx a f).2.2.2) := by
  rw [allLoop, if_neg h]
  simp only [if_neg hy]
theorem all_yes {re : List ND} {g : Int} {tx : List UInt8} {k : Nat} {a last : Int} {l : List Sp} {f : Int} {s : Int × Int} (h : ¬ (tx.length : Int) < a) (hy : (firstM re g tx a f).2.1 = true) (hs : (firstM re g tx a f).1.l[0]? = some s) :
    allLoop re g tx (k + 1) a last l f = if s.1 = s.2 ∧ s.1 = last then allLoop re g tx k (s.2 + 1) last l (firstM re g tx a f).2.2.1
        else allLoop re g tx k (if s.1 = s.2 then s.2 + 1 else s.2) s.2 (l ++ [(firstM re g tx a f).1]) (firstM re g tx a f).2.2.1 := by
  rw [allLoop, if_neg h]
  simp only [if_pos hy, hs]
def allM (re : List ND) (g : Int) (tx : List UInt8) (f : Int) : AllT :=
  let r := allLoop re g tx (tx.length + 2) 0 (-1) [] f
  if r.2.2 = 0 then (r.1, r.2.1, 0) else ([], 0, r.2.2)
theorem wfirst_ok (re : List ND) (g : Int) (tx : List UInt8) (a f : Int) (htx : tx.length ≤ 900000000) (hf : f ≤ 100000000) :
    find_walk_first_R ((re, g), tx, f, 0) a (if (tx.length : Int) < a then (Arr.rep 10 (0, 0), false, ((re, g), tx, f, 0)) else ((firstM re g tx a f).1, (firstM re g tx a f).2.1, ((re, g), tx, (firstM re g tx a f).2.2.1, (firstM re g tx a f).2.2.2))) := by
  unfold find_walk_first_R find_walk_first_j1
  refine split_ (fun h => ?_) fun h => ?_
  · rw [if_pos (by simpa using h)]
  · rw [if_neg (by simpa using h)]
    exact ⟨_, first_ok re g tx a f htx hf, rfl⟩
theorem all_ok (re : List ND) (g : Int) (tx : List UInt8) (f : Int) (htx : tx.length ≤ 90000000) (hf : f ≤ 100000000) (hf0 : 0 ≤ f) : find_All_R (re, g) tx f (allM re g tx f) := by
  refine ⟨(), rfl, (((allLoop re g tx (tx.length + 2) 0 (-1) [] f).1, ((re, g), tx, (allLoop re g tx (tx.length + 2) 0 (-1) [] f).2.1, (allLoop re g tx (tx.length + 2) 0 (-1) [] f).2.2))), ?_, ?_⟩
  · unfold find_walk_all_c1_R
    simp only
    generalize hR : allLoop re g tx (tx.length + 2) 0 (-1) [] f = R
    refine loop_ (fun x m => ∃ (a last f' : Int) (l : List Sp), x = (a, last, l, re, g, tx, f', 0) ∧ 0 ≤ a ∧ a ≤ (tx.length : Int) + 1 ∧ l.length ≤ a ∧ 0 ≤ f' ∧ f' ≤ f ∧ (tx.length : Int) + 2 - a ≤ m ∧ R = allLoop re g tx m a last l f') (tx.length + 2) ⟨0, -1, f, [], rfl, by omega, by omega, by simp, hf0, Int.le_refl _, by omega, hR.symm⟩ ?_
    rintro _ m ⟨a, last, f', l, rfl, a0, a1, hl, f0, f1, hm, he⟩
    obtain ⟨k, rfl⟩ : ∃ k, m = k + 1 := ⟨m - 1, by omega⟩
    refine ⟨_, wfirst_ok re g tx a f' (by omega) (by omega), ?_⟩
    by_cases h : (tx.length : Int) < a
    · rw [if_pos h]
      refine split_ (fun _ => ?_) fun q => absurd (by simp) q
      rw [he, all_stop h]
    rw [if_neg h]
    have hy := first_n re g tx a f' f0
    refine split_ (fun q => ?_) fun q => ?_
    · rw [he, all_no h q]
    have hok := Classical.not_not.1 q
    obtain ⟨hz, b, hb, to, k1, k2, k3, k4⟩ := hy.2.2 hok
    have hz' : (firstM re g tx a f').2.2.2 = 0 := hz
    refine ⟨⟨by omega, by omega⟩, (b, to), k1, ?_⟩
    have hst := all_yes (k := k) (last := last) (l := l) h hok k1
    obtain ⟨y1, y2, y3⟩ := hy
    rw [← he] at hst
    simp only at hst ⊢
    rw [hz']
    generalize (firstM re g tx a f').1 = hit at hst
    generalize (firstM re g tx a f').2.2.1 = f2 at *
    have j3 : ∀ a' : Int, a < a' → a' ≤ (tx.length : Int) + 1 → R = allLoop re g tx k a' to (l ++ [hit]) f2 → find_walk_all_c1_j3 l (hit, (firstM re g tx a f').2.1, ((re, g), tx, f2, 0))
        (fun s' => ∃ m', m' < k + 1 ∧ ∃ (a last f' : Int) (l : List Sp), s' = (a, last, l, re, g, tx, f', 0) ∧ 0 ≤ a ∧ a ≤ (tx.length : Int) + 1 ∧ l.length ≤ a ∧ 0 ≤ f' ∧ f' ≤ f ∧ (tx.length : Int) + 2 - a ≤ m' ∧ R = allLoop re g tx m' a last l f') a' (b, to) (R.1, ((re, g), tx, R.2.1, R.2.2)) := by
      intro a' ha' ha2 e
      exact ⟨l ++ [hit], room_ (by simp; omega) (by omega) rfl, k, by omega, a', to, f2, l ++ [hit], rfl, by omega, ha2, by simp; omega, y1, Int.le_trans y2 f1, by omega, e⟩
    refine split_ (fun e => ?_) fun e => ?_
    · have e' : b = to := e
      refine inR_ (by omega) (split_ (fun _ => split_ (fun e2 => ?_) fun e2 => ?_) fun q => absurd e q)
      · have e2' : b = last := e2
        rw [if_pos ⟨e', e2'⟩] at hst
        exact ⟨k, by omega, to + 1, last, f2, l, rfl, by omega, by omega, by omega, y1, Int.le_trans y2 f1, by omega, hst⟩
      · have e2' : ¬ b = last := e2
        rw [if_neg (fun q => e2' q.2), if_pos e'] at hst
        exact j3 (to + 1) (by omega) (by omega) hst
    · have e' : ¬ b = to := e
      rw [if_neg (fun q => e' q.1), if_neg e'] at hst
      exact split_ (fun q => absurd q e) fun _ => j3 to (by omega) (by omega) hst
  · unfold allM
    simp only
    exact split_ (fun h => by rw [if_neg h]) fun h => by rw [if_pos (Classical.not_not.1 h)]
/-- Matches one behind the other. -/
def ApartH (tx : List UInt8) (l : List Sp) : Prop := ∀ (i : Nat) x, l[i]? = some x → ∃ a b : Int, x.l[0]? = some (a, b) ∧ 0 ≤ a ∧ a ≤ b ∧ b ≤ tx.length ∧
  ∀ w, 0 < i → l[i - 1]? = some w → ∃ c d : Int, w.l[0]? = some (c, d) ∧ d ≤ a ∧ ¬ (a = b ∧ a = d)
theorem all_apart (re : List ND) (g : Int) (tx : List UInt8) : ∀ (k : Nat) (a last : Int) (l : List Sp) (f : Int), 0 ≤ f → 0 ≤ a → ApartH tx l → (∀ w, l.getLast? = some w → ∃ c d : Int, w.l[0]? = some (c, d) ∧ d ≤ a ∧ d = last) → ApartH tx (allLoop re g tx k a last l f).1
  | 0, _, _, _, _, _, _, h, _ => h
  | k + 1, a, last, l, f, hf, ha, h, hw => by
    by_cases hc : (tx.length : Int) < a
    · rw [all_stop hc]; exact h
    by_cases hy : (firstM re g tx a f).2.1 = true
    · obtain ⟨y1, y2, y3⟩ := first_n re g tx a f hf
      obtain ⟨hz, b, hb, to, k1, k2, k3, k4⟩ := y3 hy
      rw [all_yes hc hy k1]
      split
      · refine all_apart re g tx k _ _ l _ y1 (by show 0 ≤ to + 1; omega) h fun w hw2 => ?_
        obtain ⟨c, d, q1, q2, q3⟩ := hw w hw2
        exact ⟨c, d, q1, by show d ≤ to + 1; omega, q3⟩
      · rename_i hne
        have hne' : ¬ (b = to ∧ b = last) := hne
        refine all_apart re g tx k _ _ _ _ y1 (by show 0 ≤ if b = to then to + 1 else to; split <;> omega) ?_ fun w hw2 => ?_
        · intro i x hx
          rcases Nat.lt_trichotomy i l.length with hi | hi | hi
          · rw [List.getElem?_append_left hi] at hx
            obtain ⟨a1, b1, q1, q2, q3, q4, q5⟩ := h i x hx
            refine ⟨a1, b1, q1, q2, q3, q4, fun w hi0 hw2 => q5 w hi0 ?_⟩
            rwa [List.getElem?_append_left (by omega)] at hw2
          · subst hi
            rw [List.getElem?_append_right (Nat.le_refl _), Nat.sub_self] at hx
            injection hx with hx
            subst hx
            refine ⟨b, to, k1, by omega, k2, k3, fun w hi0 hw2 => ?_⟩
            rw [List.getElem?_append_left (by omega), ← List.getLast?_eq_getElem?] at hw2
            obtain ⟨c, d, q1, q2, q3⟩ := hw w hw2
            exact ⟨c, d, q1, by omega, fun q => hne' ⟨q.1, by omega⟩⟩
          · rw [List.getElem?_eq_none (by simp; omega)] at hx; cases hx
        · rw [List.getLast?_concat] at hw2
          injection hw2 with hw2
          subst hw2
          exact ⟨b, to, k1, by show to ≤ if b = to then to + 1 else to; split <;> omega, rfl⟩
    · rw [all_no hc hy]; exact h
theorem all_len (re : List ND) (g : Int) (tx : List UInt8) : ∀ (k : Nat) (a last : Int) (l : List Sp) (f : Int), (allLoop re g tx k a last l f).1.length ≤ l.length + k
  | 0, _, _, _, _ => Nat.le_refl _
  | k + 1, a, last, l, f => by
    by_cases hc : (tx.length : Int) < a
    · rw [all_stop hc]; exact Nat.le_add_right _ _
    by_cases hy : (firstM re g tx a f).2.1 = true
    · cases hs : (firstM re g tx a f).1.l[0]? with
      | none =>
        rw [allLoop, if_neg hc]
        simp only [if_pos hy, hs]
        exact Nat.le_add_right _ _
      | some v =>
        rw [all_yes hc hy hs]
        split
        · have := all_len re g tx k (v.2 + 1) last l (firstM re g tx a f).2.2.1
          omega
        · refine Nat.le_trans (all_len re g tx k _ _ _ _) ?_
          simp; omega
    · rw [all_no hc hy]; exact Nat.le_add_right _ _
end Go.Proofs.Ytnjnbegjhklcgaa
