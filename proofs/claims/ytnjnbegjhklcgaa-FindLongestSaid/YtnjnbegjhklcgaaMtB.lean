
/- The program's search, in plain terms. -/
import Derived.Test.YtnjnbegjhklcgaaMtA
namespace Go.Proofs.Ytnjnbegjhklcgaa
abbrev Sp := Arr 10 (Int × Int)
abbrev Wy := Int × Sp × List (Int × Int × Int × Int)
abbrev Sg := List Wy × Bool × Sp
def betterFrom (a b : Sp) : Nat → Nat → Bool
  | 0, _ => false
  | k + 1, i => match a.l[i]?, b.l[i]? with
    | some x, some y => if x = y then betterFrom a b k (i + 1) else
        if x.1 < 0 ∨ y.1 < 0 then (if y.1 < 0 then decide (0 ≤ x.1) else false) else
        if x.1 = y.1 then decide (y.2 < x.2) else decide (x.1 < y.1)
    | _, _ => false
def betterM (a b : Sp) : Bool := match a.l[0]?, b.l[0]? with
  | some x, some y => if x.2 = y.2 then betterFrom a b 9 1 else decide (y.2 < x.2)
  | _, _ => false
theorem better_ok (a b : Sp) : match_Better_R a b (betterM a b) := by
  unfold match_Better_R
  refine atA (by omega) (by omega) fun x hx => atA (by omega) (by omega) fun y hy => ?_
  have hx' : a.l[0]? = some x := hx
  have hy' : b.l[0]? = some y := hy
  have e : betterM a b = if x.2 = y.2 then betterFrom a b 9 1 else decide (y.2 < x.2) := by unfold betterM; rw [hx', hy']
  refine split_ (fun h => ?_) fun h => ?_
  · refine atA (by omega) (by omega) fun x2 hx2 => atA (by omega) (by omega) fun y2 hy2 => ?_
    rw [hx] at hx2; rw [hy] at hy2
    injection hx2 with e1; injection hy2 with e2
    rw [e, if_neg h, ← e1, ← e2]
  · have h' := Classical.not_not.1 h
    rw [e, if_pos h']
    refine loop_ (fun s m => ∃ i : Nat, s = (i : Int) ∧ i ≤ 10 ∧ m = 10 - i ∧ betterFrom a b 9 1 = betterFrom a b (10 - i) i) 9 ⟨1, rfl, by omega, rfl, rfl⟩ ?_
    rintro _ m ⟨i, rfl, hi, rfl, he⟩
    rw [he]
    unfold match_Better_l1
    refine split_ (fun h1 => ?_) fun h1 => ?_
    · refine atA (by omega) (by omega) fun x hx => atA (by omega) (by omega) fun y hy => ?_
      have hx' : a.l[i]? = some x := hx
      have hy' : b.l[i]? = some y := hy
      have hs : betterFrom a b (10 - i) i = if x = y then betterFrom a b (10 - (i + 1)) (i + 1) else
        if x.1 < 0 ∨ y.1 < 0 then (if y.1 < 0 then decide (0 ≤ x.1) else false) else
        if x.1 = y.1 then decide (y.2 < x.2) else decide (x.1 < y.1) := by
        rw [show 10 - i = (10 - (i + 1)) + 1 by omega, betterFrom, hx', hy']
      refine split_ (fun h2 => ?_) fun h2 => ?_
      · exact inR_ (by omega) ⟨10 - (i + 1), by omega, i + 1, by omega, by omega, rfl, by rw [hs, if_pos h2]⟩
      · rw [hs, if_neg h2]
        unfold match_Better_j2
        refine split_ (fun h3 => ?_) fun h3 => ?_
        · simp only [Bool.or_eq_true, decide_eq_true_eq] at h3
          rw [if_pos h3]
          refine split_ (fun h4 => by rw [if_pos h4]) fun h4 => by rw [if_neg h4]
        · simp only [Bool.or_eq_true, decide_eq_true_eq] at h3
          rw [if_neg h3]
          refine split_ (fun h4 => by rw [if_neg h4]) fun h4 => by rw [if_pos (Classical.not_not.1 h4)]
    · obtain rfl : i = 10 := by omega
      rfl
def followM (o8 : Int) (s : Sg) (w : Wy) : Sg :=
  if w.2.2.isEmpty = true then (if s.2.1 = true ∧ betterM (Arr.set w.2.1 0 (o8, w.1)) s.2.2 = false then s else (s.1, true, Arr.set w.2.1 0 (o8, w.1))) else (s.1 ++ [w], s.2)
theorem follow_ok (re : List ND) (g : Int) (tx : List UInt8) (o8 : Int) (s : Sg) (w : Wy) (hs : s.1.length ≤ 900000000) : match_search_follow_R re g tx s.2.1 s.2.2 o8 s.1 w (followM o8 s w) := by
  unfold match_search_follow_R
  refine split_ (fun h => ?_) fun h => ?_
  · refine room_ (by simp; omega) (by omega) ?_
    unfold followM
    rw [if_neg h]
  · have h' := Classical.not_not.1 h
    refine atA (by omega) (by omega) fun x hx => ?_
    unfold followM
    rw [if_pos h']
    refine split_ (fun h1 => ?_) fun h1 => ?_
    · unfold match_search_follow_j1
      rw [if_neg (fun q => h1 q.1)]
      exact split_ (fun _ => rfl) fun q => absurd rfl q
    · have h1' := Classical.not_not.1 h1
      refine ⟨_, better_ok _ _, ?_⟩
      unfold match_search_follow_j1
      refine split_ (fun h2 => ?_) fun h2 => ?_
      · rw [if_neg (fun q => by have := q.2; rw [show (Arr.set w.2.1 0 (o8, w.1)) = Arr.set w.2.1 (0 : Int).toNat (o8, w.1) from rfl, h2] at this; cases this)]; rfl
      · rw [if_pos ⟨h1', Bool.eq_false_iff.2 h2⟩]
theorem ahead_ok (w : Wy) (c : Int × Int × Int × Int × (List (Int × Int × Int × Int))) : match_way_ahead_R w c (w.1, w.2.1, ((c.1, c.2.1, c.2.2.1, c.2.2.2.1) :: w.2.2)) := rfl
def timesM (re : List ND) (o8 : Int) (s : Sg) (w : Wy) (i k : Int) : Sg :=
  match re[i.toNat]? with
  | none => s
  | some n =>
    let s1 := if n.2.2.2.1 ≤ k then followM o8 s w else s
    if n.2.2.2.2.1 = -1 ∨ k < n.2.2.2.2.1 then followM o8 s1 (w.1, w.2.1, (0, n.2.1, 0, 0) :: (2, i, k + 1, w.1) :: w.2.2) else s1
theorem follow_len (o8 : Int) (s : Sg) (w : Wy) : (followM o8 s w).1.length ≤ s.1.length + 1 := by
  unfold followM
  split
  · split <;> simp
  · simp
theorem times_ok (re : List ND) (g : Int) (tx : List UInt8) (o8 : Int) (s : Sg) (w : Wy) (i k : Int) (hs : s.1.length ≤ 800000000) (hi0 : 0 ≤ i) (hi : i < re.length) (hk : 0 ≤ k ∧ k ≤ 1000000000) :
    match_search_times_R re g tx s.2.1 s.2.2 o8 s.1 w i k (timesM re o8 s w i k) := by
  unfold match_search_times_R
  refine at_ hi0 hi fun n hn => ?_
  have e : timesM re o8 s w i k = (let s1 := if n.2.2.2.1 ≤ k then followM o8 s w else s
    if n.2.2.2.2.1 = -1 ∨ k < n.2.2.2.2.1 then followM o8 s1 (w.1, w.2.1, (0, n.2.1, 0, 0) :: (2, i, k + 1, w.1) :: w.2.2) else s1) := by
    unfold timesM; rw [hn]
  rw [e]
  have key : ∀ s1 : Sg, s1.1.length ≤ 900000000 → match_search_times_j1 k w i n re g tx o8 s1.2.1 s1.2.2 s1.1 (if n.2.2.2.2.1 = -1 ∨ k < n.2.2.2.2.1 then followM o8 s1 (w.1, w.2.1, (0, n.2.1, 0, 0) :: (2, i, k + 1, w.1) :: w.2.2) else s1) := by
    intro s1 h1
    unfold match_search_times_j1 match_search_times_j2
    refine split_ (fun h => ?_) fun h => ?_
    · simp only [Bool.or_eq_true, decide_eq_true_eq] at h
      rw [if_pos h]
      exact inR_ (by omega) ⟨_, ahead_ok _ _, _, ahead_ok _ _, _, follow_ok _ _ _ _ _ _ h1, rfl⟩
    · simp only [Bool.or_eq_true, decide_eq_true_eq] at h
      rw [if_neg h]
  refine split_ (fun h => ?_) fun h => ?_
  · simp only [if_pos h]
    exact ⟨_, follow_ok _ _ _ _ _ _ (by omega), key _ (by have := follow_len o8 s w; omega)⟩
  · simp only [if_neg h]
    exact key _ (by omega)
def equalM (a b : List UInt8) : Bool := ((⟨a.toArray⟩ : ByteArray)).toList == ((⟨b.toArray⟩ : ByteArray)).toList
def prefixM (s p : List UInt8) : Bool := if p.length ≤ s.length then equalM (s.take p.length) p else false
theorem prefix_ok (s p : List UInt8) : bytes_HasPrefix_R s p (prefixM s p) := by
  unfold bytes_HasPrefix_R prefixM
  refine split_ (fun h => ?_) fun h => ?_
  · rw [if_pos (by omega)]
    exact ⟨⟨by omega, by omega⟩, _, rfl, rfl⟩
  · rw [if_neg (by omega)]
def nodeM (re : List ND) (tx : List UInt8) (o8 : Int) (s : Sg) (w : Wy) (i : Int) : Sg :=
  match re[i.toNat]? with
  | none => s
  | some n =>
    if n.1 = 1 then (if (tx.length : Int) ≤ w.1 then s else match tx[w.1.toNat]? with
      | none => s
      | some c => if memS n.2.2.2.2.2.2 c.toNat = true then followM o8 s (w.1 + 1, w.2) else s)
    else if n.1 = 2 then followM o8 s (w.1, w.2.1, (0, n.2.1, 0, 0) :: (0, n.2.2.1, 0, 0) :: w.2.2)
    else if n.1 = 3 then followM o8 (followM o8 s (w.1, w.2.1, (0, n.2.2.1, 0, 0) :: w.2.2)) (w.1, w.2.1, (0, n.2.1, 0, 0) :: w.2.2)
    else if n.1 = 5 then followM o8 s (w.1, w.2.1, (0, n.2.1, 0, 0) :: (1, n.2.2.2.2.2.1, 0, w.1) :: w.2.2)
    else if n.1 = 6 then match w.2.1.l[n.2.2.2.2.2.1.toNat]? with
      | none => s
      | some x => if x.1 < 0 then s else if prefixM (tx.drop w.1.toNat) ((tx.take x.2.toNat).drop x.1.toNat) = true then followM o8 s (w.1 + (x.2 - x.1), w.2) else s
    else if n.1 = 7 then (if w.1 = 0 then followM o8 s w else s)
    else if n.1 = 8 then (if w.1 = (tx.length : Int) then followM o8 s w else s)
    else if n.1 = 4 then timesM re o8 s w i 0
    else followM o8 s w
/-- What a task of a way may be. -/
def TOk (re : List ND) (g a0 a : Int) (t : Int × Int × Int × Int) : Prop :=
  (t.1 = 0 ∧ 0 ≤ t.2.1 ∧ t.2.1 < re.length) ∨ (t.1 = 1 ∧ 1 ≤ t.2.1 ∧ t.2.1 ≤ g ∧ a0 ≤ t.2.2.2 ∧ t.2.2.2 ≤ a) ∨
  (t.1 = 2 ∧ (∀ n, re[t.2.1.toNat]? = some n → n.1 = 4) ∧ 0 ≤ t.2.1 ∧ t.2.1 < re.length ∧ 0 ≤ t.2.2.1 ∧ t.2.2.1 ≤ t.2.2.2 + 1 ∧ t.2.2.2 ≤ a)
/-- What a way's spans may be. -/
def SpOk (g a0 a : Int) (p : Sp) : Prop := ∀ (i : Nat) x, 1 ≤ i → p.l[i]? = some x → x = (-1, -1) ∨ ((i : Int) ≤ g ∧ a0 ≤ x.1 ∧ x.1 ≤ x.2 ∧ x.2 ≤ a)
def WOk (re : List ND) (g : Int) (tx : List UInt8) (a0 : Int) (w : Wy) : Prop :=
  a0 ≤ w.1 ∧ w.1 ≤ tx.length ∧ SpOk g a0 w.1 w.2.1 ∧ ∀ t ∈ w.2.2, TOk re g a0 w.1 t
/-- What a match may be. -/
def HOk (g : Int) (tx : List UInt8) (a0 : Int) (h : Sp) : Prop := ∃ to : Int, h.l[0]? = some (a0, to) ∧ a0 ≤ to ∧ to ≤ tx.length ∧ SpOk g a0 to h
def SOk (re : List ND) (g : Int) (tx : List UInt8) (a0 : Int) (s : Sg) : Prop :=
  (∀ w ∈ s.1, WOk re g tx a0 w) ∧ (s.2.1 = true → HOk g tx a0 s.2.2) ∧ (s.2.1 = false → s.2.2 = Arr.rep 10 (0, 0))
theorem TOk.up {re : List ND} {g a0 a b : Int} {t : Int × Int × Int × Int} (h : TOk re g a0 a t) (hb : a ≤ b) : TOk re g a0 b t := by
  rcases h with h | ⟨h1, h2, h3, h4, h5⟩ | ⟨h1, h2, h3, h4, h5, h6, h7⟩
  · exact .inl h
  · exact .inr (.inl ⟨h1, h2, h3, h4, by omega⟩)
  · exact .inr (.inr ⟨h1, h2, h3, h4, h5, h6, by omega⟩)
theorem SpOk.up {g a0 a b : Int} {p : Sp} (h : SpOk g a0 a p) (hb : a ≤ b) : SpOk g a0 b p := fun i x hi hx => (h i x hi hx).imp id fun ⟨h1, h2, h3, h4⟩ => ⟨h1, h2, h3, by omega⟩
theorem SOk.follow {re : List ND} {g : Int} {tx : List UInt8} {a0 : Int} {s : Sg} {w : Wy} (h : SOk re g tx a0 s) (hw : WOk re g tx a0 w) : SOk re g tx a0 (followM a0 s w) := by
  obtain ⟨w1, w2, w3, w4⟩ := hw
  unfold followM
  split
  · split
    · exact h
    · refine ⟨h.1, fun _ => ⟨w.1, ?_, w1, w2, ?_⟩, fun e => absurd e (by simp)⟩
      · show (w.2.1.l.set 0 (a0, w.1))[0]? = _
        rw [List.getElem?_set_self (by rw [w.2.1.len]; omega)]
      · intro i x hi hx
        have : (w.2.1.l.set 0 (a0, w.1))[i]? = some x := hx
        rw [List.getElem?_set_ne (by omega)] at this
        exact w3 i x hi this
  · refine ⟨fun v hv => ?_, h.2⟩
    rcases List.mem_append.1 hv with hv | hv
    · exact h.1 v hv
    · rw [List.mem_singleton.1 hv]; exact ⟨w1, w2, w3, w4⟩
end Go.Proofs.Ytnjnbegjhklcgaa
