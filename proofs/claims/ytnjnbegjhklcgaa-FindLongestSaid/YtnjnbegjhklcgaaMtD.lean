
/- The program's search: a task, the whole run. -/
import Derived.Test.YtnjnbegjhklcgaaMtC
namespace Go.Proofs.Ytnjnbegjhklcgaa
def doM (re : List ND) (tx : List UInt8) (o8 : Int) (s : Sg) (w : Wy) : Sg :=
  match w.2.2 with
  | [] => s
  | c :: tl =>
    if c.1 = 1 then followM o8 s (w.1, Arr.set w.2.1 c.2.1.toNat (c.2.2.2, w.1), tl)
    else if c.1 = 2 then (if w.1 = c.2.2.2 then match re[c.2.1.toNat]? with
        | none => s
        | some n => if c.2.2.1 ≤ n.2.2.2.1 then followM o8 s (w.1, w.2.1, tl) else s
      else timesM re o8 s (w.1, w.2.1, tl) c.2.1 c.2.2.1)
    else nodeM re tx o8 s (w.1, w.2.1, tl) c.2.1
theorem do_ok (re : List ND) (g : Int) (tx : List UInt8) (a0 : Int) (s : Sg) (w : Wy) (hn : NOk re g) (hg : g ≤ 9) (ha : 0 ≤ a0) (htx : tx.length ≤ 900000000) (hs : s.1.length ≤ 700000000) (hw : WOk re g tx a0 w) (hne : w.2.2 ≠ []) :
    match_search_do_R re g tx s.2.1 s.2.2 a0 s.1 w (doM re tx a0 s w) := by
  obtain ⟨a, sp, row⟩ := w
  cases row with
  | nil => exact absurd rfl hne
  | cons c tl =>
  have ht : TOk re g a0 a c := hw.2.2.2 c (List.mem_cons_self ..)
  have hw' : WOk re g tx a0 (a, sp, tl) := hw.row fun t h => hw.2.2.2 t (List.mem_cons_of_mem _ h)
  have w1 : a0 ≤ a := hw.1
  have w2 : a ≤ tx.length := hw.2.1
  refine ⟨c, tl, rfl, ?_⟩
  show _ ∧ _
  simp only [doM]
  refine split_ (fun h1 => ?_) fun h1 => ?_
  · rw [if_pos h1]
    obtain ⟨_, h2, h3, _⟩ : c.1 = 1 ∧ 1 ≤ c.2.1 ∧ c.2.1 ≤ g ∧ _ := ht.elim (fun h => absurd h.1 (by omega)) fun h => h.elim id fun h => absurd h.1 (by omega)
    exact atA (by omega) (by omega) fun x hx => ⟨_, follow_ok _ _ _ _ _ _ (by omega), rfl⟩
  rw [if_neg h1]
  refine split_ (fun h2 => ?_) fun h2 => ?_
  · rw [if_pos h2]
    obtain ⟨_, _, h3, h4, h5, h6, h7⟩ : c.1 = 2 ∧ (∀ n, re[c.2.1.toNat]? = some n → n.1 = 4) ∧ 0 ≤ c.2.1 ∧ c.2.1 < re.length ∧ 0 ≤ c.2.2.1 ∧ c.2.2.1 ≤ c.2.2.2 + 1 ∧ c.2.2.2 ≤ a := ht.elim (fun h => absurd h.1 (by omega)) fun h => h.elim (fun h => absurd h.1 (by omega)) id
    refine split_ (fun h => ?_) fun h => ?_
    · rw [if_neg h]
      exact ⟨_, times_ok re g tx a0 s _ _ _ (by omega) h3 h4 ⟨h5, by omega⟩, rfl⟩
    · rw [if_pos (Classical.not_not.1 h)]
      refine at_ h3 h4 fun n hx => ?_
      rw [hx]
      refine split_ (fun h => ?_) fun h => ?_
      · simp only [if_pos h]
        exact ⟨_, follow_ok _ _ _ _ _ _ (by omega), rfl⟩
      · simp only [if_neg h]
  · rw [if_neg h2]
    obtain ⟨_, h3, h4⟩ : c.1 = 0 ∧ 0 ≤ c.2.1 ∧ c.2.1 < re.length := ht.elim id fun h => h.elim (fun h => absurd h.1 (by omega)) fun h => absurd h.1 (by omega)
    exact ⟨_, node_ok re g tx a0 s (a, sp, tl) c.2.1 hn hg ha (by omega) hs hw' h3 h4, rfl⟩
theorem do_s {re : List ND} {g : Int} {tx : List UInt8} {a0 : Int} {s : Sg} {w : Wy} (hn : NOk re g) (ha : 0 ≤ a0) (h : SOk re g tx a0 s) (hw : WOk re g tx a0 w) :
    SOk re g tx a0 (doM re tx a0 s w) ∧ (doM re tx a0 s w).1.length ≤ s.1.length + 2 := by
  obtain ⟨a, sp, row⟩ := w
  cases row with
  | nil => exact ⟨h, Nat.le_add_right _ _⟩
  | cons c tl =>
  have ht : TOk re g a0 a c := hw.2.2.2 c (List.mem_cons_self ..)
  have hw' : WOk re g tx a0 (a, sp, tl) := hw.row fun t h => hw.2.2.2 t (List.mem_cons_of_mem _ h)
  have w1 : a0 ≤ a := hw.1
  simp only [doM]
  by_cases h1 : c.1 = 1
  · rw [if_pos h1]
    obtain ⟨_, h2, h3, h4, h5⟩ : c.1 = 1 ∧ 1 ≤ c.2.1 ∧ c.2.1 ≤ g ∧ a0 ≤ c.2.2.2 ∧ c.2.2.2 ≤ a := ht.elim (fun h => absurd h.1 (by omega)) fun h => h.elim id fun h => absurd h.1 (by omega)
    refine ⟨h.follow ⟨hw'.1, hw'.2.1, ?_, hw'.2.2.2⟩, Nat.le_succ_of_le (follow_len _ _ _)⟩
    intro i x hi hx
    have hx' : (sp.l.set c.2.1.toNat (c.2.2.2, a))[i]? = some x := hx
    rw [List.getElem?_set] at hx'
    split at hx'
    · rename_i e
      split at hx'
      · injection hx' with e2
        subst e2
        exact .inr ⟨by omega, h4, h5, Int.le_refl _⟩
      · cases hx'
    · exact hw'.2.2.1 i x hi hx'
  rw [if_neg h1]
  by_cases h2 : c.1 = 2
  · rw [if_pos h2]
    obtain ⟨_, k4, h3, h4, h5, h6, h7⟩ : c.1 = 2 ∧ (∀ n, re[c.2.1.toNat]? = some n → n.1 = 4) ∧ 0 ≤ c.2.1 ∧ c.2.1 < re.length ∧ 0 ≤ c.2.2.1 ∧ c.2.2.1 ≤ c.2.2.2 + 1 ∧ c.2.2.2 ≤ a := ht.elim (fun h => absurd h.1 (by omega)) fun h => h.elim (fun h => absurd h.1 (by omega)) id
    by_cases h8 : a = c.2.2.2
    · rw [if_pos h8]
      split
      · exact ⟨h, Nat.le_add_right _ _⟩
      · split
        · exact ⟨h.follow hw', Nat.le_succ_of_le (follow_len _ _ _)⟩
        · exact ⟨h, Nat.le_add_right _ _⟩
    · rw [if_neg h8]
      exact times_s hn ha h hw' k4 h3 h4 ⟨h5, by show c.2.2.1 ≤ a; omega⟩
  · rw [if_neg h2]
    obtain ⟨_, h3, h4⟩ : c.1 = 0 ∧ 0 ≤ c.2.1 ∧ c.2.1 < re.length := ht.elim id fun h => h.elim (fun h => absurd h.1 (by omega)) fun h => absurd h.1 (by omega)
    exact node_s hn ha h hw' h3 h4
/-- All ways of the stack have tasks. -/
def Busy (s : Sg) : Prop := ∀ w ∈ s.1, w.2.2 ≠ []
theorem Busy.follow {s : Sg} (h : Busy s) (o8 : Int) (w : Wy) : Busy (followM o8 s w) := by
  unfold followM
  split
  · split
    · exact h
    · exact h
  · rename_i hw
    intro v hv
    rcases List.mem_append.1 hv with hv | hv
    · exact h v hv
    · rw [List.mem_singleton.1 hv]
      intro e; rw [e] at hw; exact hw rfl
theorem Busy.times {s : Sg} (h : Busy s) (re : List ND) (o8 : Int) (w : Wy) (i k : Int) : Busy (timesM re o8 s w i k) := by
  unfold timesM
  split
  · exact h
  · simp only
    split <;> split <;> first | exact (h.follow _ _).follow _ _ | exact h.follow _ _ | exact h
theorem Busy.node {s : Sg} (h : Busy s) (re : List ND) (tx : List UInt8) (o8 : Int) (w : Wy) (i : Int) : Busy (nodeM re tx o8 s w i) := by
  unfold nodeM
  repeat' split
  all_goals first | exact h | exact h.follow _ _ | exact (h.follow _ _).follow _ _ | exact h.times _ _ _ _ _
theorem Busy.do {s : Sg} (h : Busy s) (re : List ND) (tx : List UInt8) (o8 : Int) (w : Wy) : Busy (doM re tx o8 s w) := by
  unfold doM
  repeat' split
  all_goals first | exact h | exact h.follow _ _ | exact h.times _ _ _ _ _ | exact h.node _ _ _ _ _
def runM (re : List ND) (tx : List UInt8) (o8 : Int) : Nat → Sg → Sp × Bool × Int × Int
  | 0, s => match s.1.getLast? with
    | none => (s.2.2, s.2.1, 0, 0)
    | some _ => (Arr.rep 10 (0, 0), false, 0, 18)
  | f + 1, s => match s.1.getLast? with
    | none => (s.2.2, s.2.1, ((f + 1 : Nat) : Int), 0)
    | some w => runM re tx o8 f (doM re tx o8 (s.1.dropLast, s.2) w)
theorem run_nil {re : List ND} {tx : List UInt8} {o8 : Int} {f : Nat} {s : Sg} (h : s.1 = []) : runM re tx o8 f s = (s.2.2, s.2.1, (f : Int), 0) := by
  cases f <;> simp [runM, h]
theorem run_zero {re : List ND} {tx : List UInt8} {o8 : Int} {s : Sg} (h : s.1 ≠ []) : runM re tx o8 0 s = (Arr.rep 10 (0, 0), false, 0, 18) := by
  unfold runM
  rw [List.getLast?_eq_some_getLast h]
theorem run_succ {re : List ND} {tx : List UInt8} {o8 : Int} {f : Nat} {s : Sg} (h : s.1 ≠ []) : runM re tx o8 (f + 1) s = runM re tx o8 f (doM re tx o8 (s.1.dropLast, s.2) (s.1.getLast h)) := by
  rw [runM, List.getLast?_eq_some_getLast h]
theorem run_ok (re : List ND) (g : Int) (tx : List UInt8) (a0 : Int) (hn : NOk re g) (hg : g ≤ 9) (ha : 0 ≤ a0) (htx : tx.length ≤ 900000000) (f0 : Nat) (hf : f0 ≤ 100000000) (s0 : Sg) (h0 : SOk re g tx a0 s0) (hb0 : Busy s0) (hl0 : s0.1.length ≤ 1) :
    LoopR (fun ag3 s => match_At_l3 (re, g) tx a0 ag3 s.1 s.2.1 s.2.2.1 s.2.2.2 (runM re tx a0 f0 s0)) ((f0 : Int), s0.2.1, s0.2.2, s0.1) := by
  refine loop_ (fun x m => ∃ (f : Nat) (s : Sg), x = ((f : Int), s.2.1, s.2.2, s.1) ∧ f ≤ f0 ∧ f = m ∧ SOk re g tx a0 s ∧ Busy s ∧ s.1.length ≤ 1 + 2 * (f0 - f) ∧ runM re tx a0 f0 s0 = runM re tx a0 f s) f0 ⟨f0, s0, rfl, Nat.le_refl _, rfl, h0, hb0, by omega, rfl⟩ ?_
  rintro _ m ⟨f, s, rfl, hff, rfl, h, hb, hl, he⟩
  rw [he]
  unfold match_At_l3
  simp only
  refine split_ (fun h1 => ?_) fun h1 => ?_
  · have hne : s.1 ≠ [] := fun e => by rw [e] at h1; exact absurd h1 (by decide)
    refine split_ (fun h2 => ?_) fun h2 => ?_
    · obtain rfl : f = 0 := by omega
      rw [run_zero hne]
    · obtain ⟨f', rfl⟩ : ∃ f', f = f' + 1 := ⟨f - 1, by omega⟩
      refine inR_ (by omega) (inR_ (by omega) (at_ (by omega) (by omega) fun w hw => inR_ (by omega) ⟨⟨by omega, by omega⟩, ?_⟩))
      have e1 : ((s.1.length : Int) - 1).toNat = s.1.length - 1 := by omega
      rw [e1] at hw ⊢
      have ew : w = s.1.getLast hne := by
        rw [List.getLast_eq_getElem]
        exact (Option.some.inj (by rw [← hw, List.getElem?_eq_getElem])).symm
      rw [← List.dropLast_eq_take]
      have hm : w ∈ s.1 := ew ▸ List.getLast_mem hne
      have hs2 : SOk re g tx a0 (s.1.dropLast, s.2) := ⟨fun v hv => h.1 v (List.dropLast_subset _ hv), h.2⟩
      have hb2 : Busy (s.1.dropLast, s.2) := fun v hv => hb v (List.dropLast_subset _ hv)
      obtain ⟨q1, q2⟩ := do_s hn ha hs2 (h.1 w hm)
      have hdl : s.1.dropLast.length = s.1.length - 1 := List.length_dropLast
      have hdl2 : ((s.1.dropLast, s.2) : Sg).1.length = s.1.length - 1 := hdl
      refine ⟨_, do_ok re g tx a0 (s.1.dropLast, s.2) w hn hg ha htx (by omega) (h.1 w hm) (hb w hm), f', by omega, f', _, ?_, by omega, rfl, q1, hb2.do _ _ _ _, by omega, ?_⟩
      · rw [show ((f' + 1 : Nat) : Int) - 1 = (f' : Int) by omega]
      · rw [run_succ hne, ew]
  · have hnil : s.1 = [] := List.eq_nil_of_length_eq_zero (by omega)
    rw [run_nil hnil]
end Go.Proofs.Ytnjnbegjhklcgaa
