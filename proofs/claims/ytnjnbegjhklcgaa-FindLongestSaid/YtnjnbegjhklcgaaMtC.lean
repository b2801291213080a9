
/- The program's search: a round, the whole. -/
import Derived.Test.YtnjnbegjhklcgaaMtB
namespace Go.Proofs.Ytnjnbegjhklcgaa
/-- What is known of a right expression's nodes. -/
def NOk (re : List ND) (g : Int) : Prop := ∀ (i : Nat) x, re[i]? = some x → (∀ k ∈ partsL x, 0 ≤ k ∧ k < i) ∧ (x.1 = 5 ∨ x.1 = 6 → 1 ≤ x.2.2.2.2.2.1 ∧ x.2.2.2.2.2.1 ≤ g) ∧ (x.1 = 4 → 0 ≤ x.2.2.2.1)
theorem right_nodes {re : List ND} {g : Int} (h : rightB re g = true) : NOk re g ∧ 0 ≤ g ∧ g ≤ 9 ∧ 1 ≤ re.length := by
  unfold rightB at h
  simp only [Bool.and_eq_true, decide_eq_true_eq] at h
  obtain ⟨⟨⟨⟨⟨⟨h1, h2⟩, h3⟩, h4⟩, h5⟩, h6⟩, h7⟩ := h
  refine ⟨?_, h3, h4, h1⟩
  intro i x hx
  have hb := nodes_at h5 hx
  unfold isNodeB at hb
  simp only [Bool.and_eq_true, Bool.or_eq_true, Bool.not_eq_true', decide_eq_true_eq, decide_eq_false_iff_not, List.all_eq_true, isTimesB] at hb
  obtain ⟨⟨⟨⟨⟨q1, q2⟩, q3⟩, q4⟩, q5⟩, q6⟩ := hb
  exact ⟨q4, fun hk => q6.resolve_left (fun q => q hk), fun hk => (q5.resolve_left (fun q => q hk)).1⟩
theorem node_eq {re : List ND} {tx : List UInt8} {o8 : Int} {s : Sg} {w : Wy} {i : Int} {n : ND} (h : re[i.toNat]? = some n) : nodeM re tx o8 s w i =
    if n.1 = 1 then (if (tx.length : Int) ≤ w.1 then s else match tx[w.1.toNat]? with
      | none => s
      | some c => if memS n.2.2.2.2.2.2 c.toNat = true then followM o8 s (w.1 + 1, w.2) else s)
    else if n.1 = 2 then followM o8 s (w.1, w.2.1, (0, n.2.1, 0, 0) :: (0, n.2.2.1, 0, 0) :: w.2.2)
    else if n.1 = 3 then followM o8 (followM o8 s (w.1, w.2.1, (0, n.2.2.1, 0, 0) :: w.2.2)) (w.1, w.2.1, (0, n.2.1, 0, 0) :: w.2.2)
    else if n.1 = 5 then followM o8 s (w.1, w.2.1, (0, n.2.1, 0, 0) :: (1, n.2.2.2.2.2.1, 0, w.1) :: w.2.2)
    else if n.1 = 6 then match w.2.1.l[n.2.2.2.2.2.1.toNat]? with
      | none => s
      | some x => if x.1 < 0 then s else if prefixM (tx.drop w.1.toNat) ((tx.take x.2.toNat).drop x.1.toNat) = true then followM o8 s (w.1 + (x.2 - x.1), w.2) else s
    else if n.1 = 7 then (if w.1 = 0 then followM o8 s w else s)
    else if n.1 = 8 then (if w.1 = (tx.length : Int) then followM o8 s w else s)
    else if n.1 = 4 then timesM re o8 s w i 0
    else followM o8 s w := by
  unfold nodeM; rw [h]; rfl
theorem j1_ok (re : List ND) (g : Int) (tx : List UInt8) (o8 : Int) (s : Sg) (w : Wy) (hs : s.1.length ≤ 900000000) :
    match_search_node_j1 re g tx o8 w.1 w.2.1 w.2.2 s.2.1 s.2.2 s.1 (followM o8 s w) := ⟨_, follow_ok _ _ _ _ _ _ hs, rfl⟩
theorem node_ok (re : List ND) (g : Int) (tx : List UInt8) (a0 : Int) (s : Sg) (w : Wy) (i : Int) (hn : NOk re g) (hg : g ≤ 9) (ha : 0 ≤ a0) (htx : tx.length ≤ 1000000000) (hs : s.1.length ≤ 700000000) (hw : WOk re g tx a0 w) (hi0 : 0 ≤ i) (hi : i < re.length) :
    match_search_node_R re g tx s.2.1 s.2.2 a0 s.1 w i (nodeM re tx a0 s w i) := by
  obtain ⟨w1, w2, w3, w4⟩ := hw
  unfold match_search_node_R
  refine at_ hi0 hi fun n hx => ?_
  have hx2 := hn _ _ hx
  rw [node_eq hx]
  refine split_ (fun h1 => ?_) fun h1 => ?_
  · rw [if_pos h1]
    refine split_ (fun h => by rw [if_pos h]) fun h => ?_
    rw [if_neg h]
    refine at_ (by omega) (by omega) fun c hc => ?_
    rw [hc]
    refine ⟨_, has_ok _ _, ?_⟩
    refine split_ (fun h2 => by simp only [if_neg h2]) fun h2 => ?_
    have h2' := Classical.not_not.1 h2
    simp only [if_pos h2']
    exact inR_ (by omega) (j1_ok re g tx a0 s (w.1 + 1, w.2) (by omega))
  rw [if_neg h1]
  refine split_ (fun h2 => ?_) fun h2 => ?_
  · rw [if_pos h2]
    exact ⟨_, ahead_ok _ _, _, ahead_ok _ _, j1_ok re g tx a0 s (w.1, w.2.1, (0, n.2.1, 0, 0) :: (0, n.2.2.1, 0, 0) :: w.2.2) (by omega)⟩
  rw [if_neg h2]
  refine split_ (fun h3 => ?_) fun h3 => ?_
  · rw [if_pos h3]
    exact ⟨_, ahead_ok _ _, _, follow_ok _ _ _ _ _ _ (by omega), _, ahead_ok _ _, j1_ok re g tx a0 _ (w.1, w.2.1, (0, n.2.1, 0, 0) :: w.2.2) (Nat.le_trans (follow_len a0 s _) (by omega))⟩
  rw [if_neg h3]
  refine split_ (fun h5 => ?_) fun h5 => ?_
  · rw [if_pos h5]
    exact ⟨_, ahead_ok _ _, _, ahead_ok _ _, j1_ok re g tx a0 s (w.1, w.2.1, (0, n.2.1, 0, 0) :: (1, n.2.2.2.2.2.1, 0, w.1) :: w.2.2) (by omega)⟩
  rw [if_neg h5]
  refine split_ (fun h6 => ?_) fun h6 => ?_
  · rw [if_pos h6]
    have hgr := hx2.2.1 (.inr h6)
    refine atA (by omega) (by omega) fun x hxx => ?_
    rw [hxx]
    refine split_ (fun h => by simp only [if_pos h]) fun h => ?_
    simp only [if_neg h]
    have hsp := (w3 _ x (by omega) hxx).resolve_left (fun e => by rw [e] at h; exact h (by decide))
    obtain ⟨p1, p2, p3, p4⟩ := hsp
    refine ⟨⟨by omega, by omega⟩, ⟨by omega, by omega, by omega⟩, _, prefix_ok _ _, ?_⟩
    refine split_ (fun h2 => by rw [if_neg h2]) fun h2 => ?_
    rw [if_pos (Classical.not_not.1 h2)]
    exact inR_ (by omega) (inR_ (by omega) (j1_ok re g tx a0 s (w.1 + (x.2 - x.1), w.2) (by omega)))
  rw [if_neg h6]
  refine split_ (fun h7 => ?_) fun h7 => ?_
  · rw [if_pos h7]
    refine split_ (fun h => by rw [if_neg h]) fun h => ?_
    rw [if_pos (Classical.not_not.1 h)]
    exact j1_ok re g tx a0 s w (by omega)
  rw [if_neg h7]
  refine split_ (fun h8 => ?_) fun h8 => ?_
  · rw [if_pos h8]
    refine split_ (fun h => by rw [if_neg h]) fun h => ?_
    rw [if_pos (Classical.not_not.1 h)]
    exact j1_ok re g tx a0 s w (by omega)
  rw [if_neg h8]
  refine split_ (fun h4 => ?_) fun h4 => ?_
  · rw [if_pos h4]
    exact ⟨_, times_ok re g tx a0 s w i 0 (by omega) hi0 hi ⟨by omega, by omega⟩, rfl⟩
  · rw [if_neg h4]
    exact j1_ok re g tx a0 s w (by omega)
theorem prefix_len {s p : List UInt8} (h : prefixM s p = true) : p.length ≤ s.length := by
  unfold prefixM at h
  split at h
  · assumption
  · cases h
theorem WOk.row {re : List ND} {g : Int} {tx : List UInt8} {a0 : Int} {w : Wy} (h : WOk re g tx a0 w) {row : List (Int × Int × Int × Int)} (hr : ∀ t ∈ row, TOk re g a0 w.1 t) : WOk re g tx a0 (w.1, w.2.1, row) := ⟨h.1, h.2.1, h.2.2.1, hr⟩
theorem WOk.move {re : List ND} {g : Int} {tx : List UInt8} {a0 : Int} {w : Wy} (h : WOk re g tx a0 w) {b : Int} (h1 : w.1 ≤ b) (h2 : b ≤ tx.length) : WOk re g tx a0 (b, w.2) :=
  ⟨by have := h.1; show a0 ≤ b; omega, h2, h.2.2.1.up h1, fun t ht => (h.2.2.2 t ht).up h1⟩
theorem tnode {re : List ND} {g a0 a : Int} {k : Int} (h : 0 ≤ k ∧ k < re.length) : TOk re g a0 a (0, k, 0, 0) := .inl ⟨rfl, h⟩
theorem parts1 {n : ND} (h : n.1 = 2 ∨ n.1 = 3 ∨ n.1 = 4 ∨ n.1 = 5) : n.2.1 ∈ partsL n := by
  unfold partsL
  split
  · simp
  · split
    · simp
    · omega
theorem parts2 {n : ND} (h : n.1 = 2 ∨ n.1 = 3) : n.2.2.1 ∈ partsL n := by
  unfold partsL
  rw [if_pos h]; simp
theorem times_s {re : List ND} {g : Int} {tx : List UInt8} {a0 : Int} {s : Sg} {w : Wy} {i k : Int} (hn : NOk re g) (ha : 0 ≤ a0) (h : SOk re g tx a0 s) (hw : WOk re g tx a0 w) (h4 : ∀ n, re[i.toNat]? = some n → n.1 = 4) (hi0 : 0 ≤ i) (hi : i < re.length) (hk : 0 ≤ k ∧ k ≤ w.1) :
    SOk re g tx a0 (timesM re a0 s w i k) ∧ (timesM re a0 s w i k).1.length ≤ s.1.length + 2 := by
  unfold timesM
  cases hx : re[i.toNat]? with
  | none => exact ⟨h, Nat.le_add_right _ _⟩
  | some n =>
    have hp := (hn _ _ hx).1 _ (parts1 (.inr (.inr (.inl (h4 n hx)))))
    have hw2 : WOk re g tx a0 (w.1, w.2.1, (0, n.2.1, 0, 0) :: (2, i, k + 1, w.1) :: w.2.2) := hw.row (by
      intro t ht
      rcases List.mem_cons.1 ht with rfl | ht
      · exact tnode (by omega)
      · rcases List.mem_cons.1 ht with rfl | ht
        · exact .inr (.inr ⟨rfl, h4, hi0, hi, by show 0 ≤ k + 1; omega, by show k + 1 ≤ w.1 + 1; omega, Int.le_refl _⟩)
        · exact hw.2.2.2 t ht)
    have key : ∀ s1 : Sg, SOk re g tx a0 s1 → s1.1.length ≤ s.1.length + 1 → SOk re g tx a0 (if n.2.2.2.2.1 = -1 ∨ k < n.2.2.2.2.1 then followM a0 s1 (w.1, w.2.1, (0, n.2.1, 0, 0) :: (2, i, k + 1, w.1) :: w.2.2) else s1) ∧
        (if n.2.2.2.2.1 = -1 ∨ k < n.2.2.2.2.1 then followM a0 s1 (w.1, w.2.1, (0, n.2.1, 0, 0) :: (2, i, k + 1, w.1) :: w.2.2) else s1).1.length ≤ s.1.length + 2 := by
      intro s1 h1 h2
      split
      · exact ⟨h1.follow hw2, by have := follow_len a0 s1 (w.1, w.2.1, (0, n.2.1, 0, 0) :: (2, i, k + 1, w.1) :: w.2.2); omega⟩
      · exact ⟨h1, by omega⟩
    by_cases hl : n.2.2.2.1 ≤ k
    · simp only [if_pos hl]
      exact key _ (h.follow hw) (follow_len _ _ _)
    · simp only [if_neg hl]
      exact key _ h (by omega)
theorem node_s {re : List ND} {g : Int} {tx : List UInt8} {a0 : Int} {s : Sg} {w : Wy} {i : Int} (hn : NOk re g) (ha : 0 ≤ a0) (h : SOk re g tx a0 s) (hw : WOk re g tx a0 w) (hi0 : 0 ≤ i) (hi : i < re.length) :
    SOk re g tx a0 (nodeM re tx a0 s w i) ∧ (nodeM re tx a0 s w i).1.length ≤ s.1.length + 2 := by
  have hx : re[i.toNat]? = some re[i.toNat] := List.getElem?_eq_getElem (by omega)
  generalize re[i.toNat] = n at hx
  obtain ⟨n1, n2, n3⟩ := hn _ _ hx
  have fo : ∀ {v : Wy}, WOk re g tx a0 v → SOk re g tx a0 (followM a0 s v) ∧ (followM a0 s v).1.length ≤ s.1.length + 2 := fun hv => ⟨h.follow hv, Nat.le_succ_of_le (follow_len _ _ _)⟩
  have st : SOk re g tx a0 s ∧ s.1.length ≤ s.1.length + 2 := ⟨h, Nat.le_add_right _ _⟩
  have pc : ∀ k ∈ partsL n, ∀ b, TOk re g a0 b (0, k, 0, 0) := fun k hk b => tnode (by have := n1 k hk; omega)
  have w1 := hw.1
  have w2 := hw.2.1
  rw [node_eq hx]
  by_cases k1 : n.1 = 1
  · rw [if_pos k1]
    by_cases k : (tx.length : Int) ≤ w.1
    · rw [if_pos k]; exact st
    rw [if_neg k]
    cases hc : tx[w.1.toNat]? with
    | none => exact st
    | some c =>
      by_cases hm : memS n.2.2.2.2.2.2 c.toNat = true
      · simp only [if_pos hm]
        exact fo (hw.move (by omega) (by omega))
      · simp only [if_neg hm]; exact st
  rw [if_neg k1]
  by_cases k2 : n.1 = 2
  · rw [if_pos k2]
    refine fo (hw.row fun t ht => ?_)
    rcases List.mem_cons.1 ht with rfl | ht
    · exact pc _ (parts1 (.inl k2)) _
    rcases List.mem_cons.1 ht with rfl | ht
    · exact pc _ (parts2 (.inl k2)) _
    · exact hw.2.2.2 t ht
  rw [if_neg k2]
  by_cases k3 : n.1 = 3
  · rw [if_pos k3]
    have r1 : WOk re g tx a0 (w.1, w.2.1, (0, n.2.2.1, 0, 0) :: w.2.2) := hw.row fun t ht => by
      rcases List.mem_cons.1 ht with rfl | ht
      · exact pc _ (parts2 (.inr k3)) _
      · exact hw.2.2.2 t ht
    have r2 : WOk re g tx a0 (w.1, w.2.1, (0, n.2.1, 0, 0) :: w.2.2) := hw.row fun t ht => by
      rcases List.mem_cons.1 ht with rfl | ht
      · exact pc _ (parts1 (.inr (.inl k3))) _
      · exact hw.2.2.2 t ht
    exact ⟨(h.follow r1).follow r2, Nat.le_trans (follow_len _ _ _) (Nat.succ_le_succ (follow_len _ _ _))⟩
  rw [if_neg k3]
  by_cases k5 : n.1 = 5
  · rw [if_pos k5]
    refine fo (hw.row fun t ht => ?_)
    rcases List.mem_cons.1 ht with rfl | ht
    · exact pc _ (parts1 (.inr (.inr (.inr k5)))) _
    rcases List.mem_cons.1 ht with rfl | ht
    · exact .inr (.inl ⟨rfl, (n2 (.inl k5)).1, (n2 (.inl k5)).2, w1, Int.le_refl _⟩)
    · exact hw.2.2.2 t ht
  rw [if_neg k5]
  by_cases k6 : n.1 = 6
  · rw [if_pos k6]
    cases hxx : w.2.1.l[n.2.2.2.2.2.1.toNat]? with
    | none => exact st
    | some x =>
      by_cases hf : x.1 < 0
      · simp only [if_pos hf]; exact st
      simp only [if_neg hf]
      split
      · rename_i hp
        have hgr := n2 (.inr k6)
        obtain ⟨p1, p2, p3, p4⟩ := (hw.2.2.1 _ x (by omega) hxx).resolve_left (fun e => by rw [e] at hf; exact hf (by decide))
        have := prefix_len hp
        rw [List.length_drop, List.length_drop, List.length_take] at this
        exact fo (hw.move (by omega) (by omega))
      · exact st
  rw [if_neg k6]
  by_cases k7 : n.1 = 7
  · rw [if_pos k7]
    split
    · exact fo hw
    · exact st
  rw [if_neg k7]
  by_cases k8 : n.1 = 8
  · rw [if_pos k8]
    split
    · exact fo hw
    · exact st
  rw [if_neg k8]
  by_cases k4 : n.1 = 4
  · rw [if_pos k4]
    exact times_s hn ha h hw (fun m hm => by rw [hx] at hm; injection hm with e; rw [← e]; exact k4) hi0 hi ⟨by omega, by omega⟩
  · rw [if_neg k4]
    exact fo hw
end Go.Proofs.Ytnjnbegjhklcgaa
