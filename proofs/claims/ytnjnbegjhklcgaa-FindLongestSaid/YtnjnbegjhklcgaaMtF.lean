
/- The ways that come of a way. -/
import Derived.Test.YtnjnbegjhklcgaaMtE
namespace Go.Proofs.Ytnjnbegjhklcgaa
def kidsT (re : List ND) (w : Wy) (i k : Int) : List Wy :=
  match re[i.toNat]? with
  | none => []
  | some n => (if n.2.2.2.2.1 = -1 ∨ k < n.2.2.2.2.1 then [(w.1, w.2.1, (0, n.2.1, 0, 0) :: (2, i, k + 1, w.1) :: w.2.2)] else []) ++ (if n.2.2.2.1 ≤ k then [w] else [])
def kidsN (re : List ND) (tx : List UInt8) (w : Wy) (i : Int) : List Wy :=
  match re[i.toNat]? with
  | none => []
  | some n =>
    if n.1 = 1 then (if (tx.length : Int) ≤ w.1 then [] else match tx[w.1.toNat]? with
      | none => []
      | some c => if memS n.2.2.2.2.2.2 c.toNat = true then [(w.1 + 1, w.2)] else [])
    else if n.1 = 2 then [(w.1, w.2.1, (0, n.2.1, 0, 0) :: (0, n.2.2.1, 0, 0) :: w.2.2)]
    else if n.1 = 3 then [(w.1, w.2.1, (0, n.2.1, 0, 0) :: w.2.2), (w.1, w.2.1, (0, n.2.2.1, 0, 0) :: w.2.2)]
    else if n.1 = 5 then [(w.1, w.2.1, (0, n.2.1, 0, 0) :: (1, n.2.2.2.2.2.1, 0, w.1) :: w.2.2)]
    else if n.1 = 6 then match w.2.1.l[n.2.2.2.2.2.1.toNat]? with
      | none => []
      | some x => if x.1 < 0 then [] else if prefixM (tx.drop w.1.toNat) ((tx.take x.2.toNat).drop x.1.toNat) = true then [(w.1 + (x.2 - x.1), w.2)] else []
    else if n.1 = 7 then (if w.1 = 0 then [w] else [])
    else if n.1 = 8 then (if w.1 = (tx.length : Int) then [w] else [])
    else if n.1 = 4 then kidsT re w i 0
    else [w]
theorem kidsN_eq {re : List ND} {tx : List UInt8} {w : Wy} {i : Int} {n : ND} (h : re[i.toNat]? = some n) : kidsN re tx w i = (
    if n.1 = 1 then (if (tx.length : Int) ≤ w.1 then [] else match tx[w.1.toNat]? with
      | none => []
      | some c => if memS n.2.2.2.2.2.2 c.toNat = true then [(w.1 + 1, w.2)] else [])
    else if n.1 = 2 then [(w.1, w.2.1, (0, n.2.1, 0, 0) :: (0, n.2.2.1, 0, 0) :: w.2.2)]
    else if n.1 = 3 then [(w.1, w.2.1, (0, n.2.1, 0, 0) :: w.2.2), (w.1, w.2.1, (0, n.2.2.1, 0, 0) :: w.2.2)]
    else if n.1 = 5 then [(w.1, w.2.1, (0, n.2.1, 0, 0) :: (1, n.2.2.2.2.2.1, 0, w.1) :: w.2.2)]
    else if n.1 = 6 then match w.2.1.l[n.2.2.2.2.2.1.toNat]? with
      | none => []
      | some x => if x.1 < 0 then [] else if prefixM (tx.drop w.1.toNat) ((tx.take x.2.toNat).drop x.1.toNat) = true then [(w.1 + (x.2 - x.1), w.2)] else []
    else if n.1 = 7 then (if w.1 = 0 then [w] else [])
    else if n.1 = 8 then (if w.1 = (tx.length : Int) then [w] else [])
    else if n.1 = 4 then kidsT re w i 0
    else [w]) := by
  unfold kidsN; rw [h]
def kidsM (re : List ND) (tx : List UInt8) (w : Wy) : List Wy :=
  match w.2.2 with
  | [] => []
  | c :: tl =>
    if c.1 = 1 then [(w.1, Arr.set w.2.1 c.2.1.toNat (c.2.2.2, w.1), tl)]
    else if c.1 = 2 then (if w.1 = c.2.2.2 then match re[c.2.1.toNat]? with
        | none => []
        | some n => if c.2.2.1 ≤ n.2.2.2.1 then [(w.1, w.2.1, tl)] else []
      else kidsT re (w.1, w.2.1, tl) c.2.1 c.2.2.1)
    else kidsN re tx (w.1, w.2.1, tl) c.2.1
/-- Ways let go on, the last first. -/
def goOn (o8 : Int) (s : Sg) (l : List Wy) : Sg := l.foldr (fun w s => followM o8 s w) s
theorem times_kids (re : List ND) (o8 : Int) (s : Sg) (w : Wy) (i k : Int) : timesM re o8 s w i k = goOn o8 s (kidsT re w i k) := by
  unfold timesM kidsT
  cases re[i.toNat]? with
  | none => rfl
  | some n =>
    simp only
    by_cases h1 : n.2.2.2.1 ≤ k <;> by_cases h2 : n.2.2.2.2.1 = -1 ∨ k < n.2.2.2.2.1 <;> simp [goOn, h1, h2]
theorem node_kids (re : List ND) (tx : List UInt8) (o8 : Int) (s : Sg) (w : Wy) (i : Int) : nodeM re tx o8 s w i = goOn o8 s (kidsN re tx w i) := by
  unfold nodeM kidsN
  cases re[i.toNat]? with
  | none => rfl
  | some n =>
    simp only
    by_cases h1 : n.1 = 1
    · rw [if_pos h1, if_pos h1]
      by_cases q : (tx.length : Int) ≤ w.1
      · rw [if_pos q, if_pos q]; rfl
      · rw [if_neg q, if_neg q]
        cases tx[w.1.toNat]? with
        | none => rfl
        | some c => by_cases q : memS n.2.2.2.2.2.2 c.toNat = true <;> simp [q, goOn]
    rw [if_neg h1, if_neg h1]
    by_cases h2 : n.1 = 2
    · rw [if_pos h2, if_pos h2]; rfl
    rw [if_neg h2, if_neg h2]
    by_cases h3 : n.1 = 3
    · rw [if_pos h3, if_pos h3]; rfl
    rw [if_neg h3, if_neg h3]
    by_cases h5 : n.1 = 5
    · rw [if_pos h5, if_pos h5]; rfl
    rw [if_neg h5, if_neg h5]
    by_cases h6 : n.1 = 6
    · rw [if_pos h6, if_pos h6]
      cases w.2.1.l[n.2.2.2.2.2.1.toNat]? with
      | none => rfl
      | some x =>
        by_cases q : x.1 < 0
        · simp [q, goOn]
        · by_cases q2 : prefixM (tx.drop w.1.toNat) ((tx.take x.2.toNat).drop x.1.toNat) = true <;> simp [q, q2, goOn]
    rw [if_neg h6, if_neg h6]
    by_cases h7 : n.1 = 7
    · rw [if_pos h7, if_pos h7]
      by_cases q : w.1 = 0 <;> simp [q, goOn]
    rw [if_neg h7, if_neg h7]
    by_cases h8 : n.1 = 8
    · rw [if_pos h8, if_pos h8]
      by_cases q : w.1 = (tx.length : Int) <;> simp [q, goOn]
    rw [if_neg h8, if_neg h8]
    by_cases h4 : n.1 = 4
    · rw [if_pos h4, if_pos h4]; exact times_kids ..
    · rw [if_neg h4, if_neg h4]; rfl
theorem do_kids (re : List ND) (tx : List UInt8) (o8 : Int) (s : Sg) (w : Wy) : doM re tx o8 s w = goOn o8 s (kidsM re tx w) := by
  obtain ⟨a, sp, row⟩ := w
  cases row with
  | nil => rfl
  | cons c tl =>
    simp only [doM, kidsM]
    by_cases h1 : c.1 = 1
    · rw [if_pos h1, if_pos h1]; rfl
    rw [if_neg h1, if_neg h1]
    by_cases h2 : c.1 = 2
    · rw [if_pos h2, if_pos h2]
      by_cases q : a = c.2.2.2
      · rw [if_pos q, if_pos q]
        cases re[c.2.1.toNat]? with
        | none => rfl
        | some n => by_cases q2 : c.2.2.1 ≤ n.2.2.2.1 <;> simp [q2, goOn]
      · rw [if_neg q, if_neg q]; exact times_kids ..
    · rw [if_neg h2, if_neg h2]; exact node_kids ..
/-- What a way must be. -/
def KOk (re : List ND) (g : Int) (tx : List UInt8) (a0 : Int) (w : Wy) : Prop := WOk re g tx a0 w ∧ ∀ t ∈ w.2.2, t.1 = 0 → t.2.2.1 = 0
theorem KOk.row {re : List ND} {g : Int} {tx : List UInt8} {a0 : Int} {w : Wy} (h : KOk re g tx a0 w) {t : Int × Int × Int × Int} {row : List (Int × Int × Int × Int)} (hr : KOk re g tx a0 (w.1, w.2.1, row)) (h1 : TOk re g a0 w.1 t) (h2 : t.1 = 0 → t.2.2.1 = 0) : KOk re g tx a0 (w.1, w.2.1, t :: row) :=
  ⟨h.1.row fun u hu => (List.mem_cons.1 hu).elim (fun e => e ▸ h1) (hr.1.2.2.2 u), fun u hu => (List.mem_cons.1 hu).elim (fun e => e ▸ h2) (hr.2 u)⟩
theorem KOk.move {re : List ND} {g : Int} {tx : List UInt8} {a0 : Int} {w : Wy} (h : KOk re g tx a0 w) {b : Int} (h1 : w.1 ≤ b) (h2 : b ≤ tx.length) : KOk re g tx a0 (b, w.2) := ⟨h.1.move h1 h2, h.2⟩
theorem all1 {P : Wy → Prop} {w : Wy} (h : P w) : ∀ k ∈ [w], P k := fun k hk => by rw [List.mem_singleton.1 hk]; exact h
theorem all0 {P : Wy → Prop} : ∀ k ∈ ([] : List Wy), P k := fun k hk => by cases hk
theorem kidsT_ok {re : List ND} {g : Int} {tx : List UInt8} {a0 : Int} {w : Wy} {i k : Int} (hn : NOk re g) (hw : KOk re g tx a0 w) (h4 : ∀ n, re[i.toNat]? = some n → n.1 = 4) (hi0 : 0 ≤ i) (hi : i < re.length) (hk : 0 ≤ k ∧ k ≤ w.1) :
    ∀ v ∈ kidsT re w i k, KOk re g tx a0 v := by
  unfold kidsT
  cases hx : re[i.toNat]? with
  | none => exact all0
  | some n =>
    have hp := (hn _ _ hx).1 _ (parts1 (.inr (.inr (.inl (h4 n hx)))))
    intro v hv
    rcases List.mem_append.1 hv with hv | hv
    · split at hv
      · rw [List.mem_singleton.1 hv]
        exact KOk.row hw (KOk.row hw hw (.inr (.inr ⟨rfl, h4, hi0, hi, by show 0 ≤ k + 1; omega, by show k + 1 ≤ w.1 + 1; omega, Int.le_refl _⟩)) (fun e => by cases e)) (tnode (by omega)) (fun _ => rfl)
      · cases hv
    · split at hv
      · rw [List.mem_singleton.1 hv]; exact hw
      · cases hv
theorem kidsN_ok {re : List ND} {g : Int} {tx : List UInt8} {a0 : Int} {w : Wy} {i : Int} (hn : NOk re g) (ha : 0 ≤ a0) (hw : KOk re g tx a0 w) (hi0 : 0 ≤ i) (hi : i < re.length) : ∀ v ∈ kidsN re tx w i, KOk re g tx a0 v := by
  have hx : re[i.toNat]? = some re[i.toNat] := List.getElem?_eq_getElem (by omega)
  generalize re[i.toNat] = n at hx
  obtain ⟨n1, n2, n3⟩ := hn _ _ hx
  have pc : ∀ k ∈ partsL n, ∀ b, TOk re g a0 b (0, k, 0, 0) := fun k hk b => tnode (by have := n1 k hk; omega)
  have w1 := hw.1.1
  have w2 := hw.1.2.1
  unfold kidsN
  rw [hx]
  simp only
  by_cases k1 : n.1 = 1
  · rw [if_pos k1]
    split
    · exact all0
    · split
      · exact all0
      · split
        · exact all1 (hw.move (by omega) (by omega))
        · exact all0
  rw [if_neg k1]
  by_cases k2 : n.1 = 2
  · rw [if_pos k2]
    exact all1 (KOk.row hw (KOk.row hw hw (pc _ (parts2 (.inl k2)) _) (fun _ => rfl)) (pc _ (parts1 (.inl k2)) _) (fun _ => rfl))
  rw [if_neg k2]
  by_cases k3 : n.1 = 3
  · rw [if_pos k3]
    intro v hv
    rcases List.mem_cons.1 hv with rfl | hv
    · exact KOk.row hw hw (pc _ (parts1 (.inr (.inl k3))) _) (fun _ => rfl)
    · rw [List.mem_singleton.1 hv]
      exact KOk.row hw hw (pc _ (parts2 (.inr k3)) _) (fun _ => rfl)
  rw [if_neg k3]
  by_cases k5 : n.1 = 5
  · rw [if_pos k5]
    exact all1 (KOk.row hw (KOk.row hw hw (.inr (.inl ⟨rfl, (n2 (.inl k5)).1, (n2 (.inl k5)).2, w1, Int.le_refl _⟩)) (fun e => by cases e)) (pc _ (parts1 (.inr (.inr (.inr k5)))) _) (fun _ => rfl))
  rw [if_neg k5]
  by_cases k6 : n.1 = 6
  · rw [if_pos k6]
    split
    · exact all0
    · rename_i x hxx
      split
      · exact all0
      · rename_i hf
        split
        · rename_i hp
          have hgr := n2 (.inr k6)
          obtain ⟨p1, p2, p3, p4⟩ := (hw.1.2.2.1 _ x (by omega) hxx).resolve_left (fun e => by rw [e] at hf; exact hf (by decide))
          have := prefix_len hp
          rw [List.length_drop, List.length_drop, List.length_take] at this
          exact all1 (hw.move (by omega) (by omega))
        · exact all0
  rw [if_neg k6]
  by_cases k7 : n.1 = 7
  · rw [if_pos k7]
    split
    · exact all1 hw
    · exact all0
  rw [if_neg k7]
  by_cases k8 : n.1 = 8
  · rw [if_pos k8]
    split
    · exact all1 hw
    · exact all0
  rw [if_neg k8]
  by_cases k4 : n.1 = 4
  · rw [if_pos k4]
    exact kidsT_ok hn hw (fun m hm => by rw [hx] at hm; injection hm with e; rw [← e]; exact k4) hi0 hi ⟨by omega, by omega⟩
  · rw [if_neg k4]
    exact all1 hw
theorem kids_ok {re : List ND} {g : Int} {tx : List UInt8} {a0 : Int} {w : Wy} (hn : NOk re g) (ha : 0 ≤ a0) (hw : KOk re g tx a0 w) : ∀ v ∈ kidsM re tx w, KOk re g tx a0 v := by
  obtain ⟨a, sp, row⟩ := w
  cases row with
  | nil => exact all0
  | cons c tl =>
  have ht : TOk re g a0 a c := hw.1.2.2.2 c (List.mem_cons_self ..)
  have hw' : KOk re g tx a0 (a, sp, tl) := ⟨hw.1.row fun t h => hw.1.2.2.2 t (List.mem_cons_of_mem _ h), fun t h => hw.2 t (List.mem_cons_of_mem _ h)⟩
  have w1 : a0 ≤ a := hw.1.1
  simp only [kidsM]
  by_cases h1 : c.1 = 1
  · rw [if_pos h1]
    obtain ⟨_, h2, h3, h4, h5⟩ : c.1 = 1 ∧ 1 ≤ c.2.1 ∧ c.2.1 ≤ g ∧ a0 ≤ c.2.2.2 ∧ c.2.2.2 ≤ a := ht.elim (fun h => absurd h.1 (by omega)) fun h => h.elim id fun h => absurd h.1 (by omega)
    refine all1 ⟨⟨hw'.1.1, hw'.1.2.1, ?_, hw'.1.2.2.2⟩, hw'.2⟩
    intro i x hi hx
    have hx' : (sp.l.set c.2.1.toNat (c.2.2.2, a))[i]? = some x := hx
    rw [List.getElem?_set] at hx'
    split at hx'
    · rename_i e
      split at hx'
      · injection hx' with e2
        subst e2
        exact .inr ⟨by omega, h4, h5, Int.le_refl _⟩
      · cases hx'
    · exact hw'.1.2.2.1 i x hi hx'
  rw [if_neg h1]
  by_cases h2 : c.1 = 2
  · rw [if_pos h2]
    obtain ⟨_, k4, h3, h4, h5, h6, h7⟩ : c.1 = 2 ∧ (∀ n, re[c.2.1.toNat]? = some n → n.1 = 4) ∧ 0 ≤ c.2.1 ∧ c.2.1 < re.length ∧ 0 ≤ c.2.2.1 ∧ c.2.2.1 ≤ c.2.2.2 + 1 ∧ c.2.2.2 ≤ a := ht.elim (fun h => absurd h.1 (by omega)) fun h => h.elim (fun h => absurd h.1 (by omega)) id
    by_cases h8 : a = c.2.2.2
    · rw [if_pos h8]
      split
      · exact all0
      · split
        · exact all1 hw'
        · exact all0
    · rw [if_neg h8]
      exact kidsT_ok hn hw' k4 h3 h4 ⟨h5, by show c.2.2.1 ≤ a; omega⟩
  · rw [if_neg h2]
    obtain ⟨_, h3, h4⟩ : c.1 = 0 ∧ 0 ≤ c.2.1 ∧ c.2.1 < re.length := ht.elim id fun h => h.elim (fun h => absurd h.1 (by omega)) fun h => absurd h.1 (by omega)
    exact kidsN_ok hn ha hw' h3 h4
theorem kidsT_len (re : List ND) (w : Wy) (i k : Int) : (kidsT re w i k).length ≤ 2 := by
  unfold kidsT
  split
  · exact Nat.zero_le _
  · rw [List.length_append]
    split <;> split <;> simp
theorem kidsN_len (re : List ND) (tx : List UInt8) (w : Wy) (i : Int) : (kidsN re tx w i).length ≤ 2 := by
  unfold kidsN
  repeat' split
  all_goals first | exact kidsT_len .. | simp
theorem kids_len (re : List ND) (tx : List UInt8) (w : Wy) : (kidsM re tx w).length ≤ 2 := by
  unfold kidsM
  repeat' split
  all_goals first | exact kidsT_len .. | exact kidsN_len .. | simp
end Go.Proofs.Ytnjnbegjhklcgaa
