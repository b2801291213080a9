
/- All matches of ways; which is the best. -/
import Derived.Test.YtnjnbegjhklcgaaMtF
namespace Go.Proofs.Ytnjnbegjhklcgaa
def hitW (o8 : Int) (w : Wy) : Sp := Arr.set w.2.1 0 (o8, w.1)
abbrev Bst := Bool × Sp
def note (b : Bst) (h : Sp) : Bst := if b.1 = true ∧ betterM h b.2 = false then b else (true, h)
theorem follow_hit {o8 : Int} {s : Sg} {w : Wy} (h : w.2.2 = []) : followM o8 s w = (s.1, note s.2 (hitW o8 w)) := by
  unfold followM note hitW
  rw [if_pos (by rw [h]; rfl)]
  split <;> rfl
theorem follow_row {o8 : Int} {s : Sg} {w : Wy} (h : w.2.2 ≠ []) : followM o8 s w = (s.1 ++ [w], s.2) := by
  unfold followM
  rw [if_neg (by rw [List.isEmpty_iff]; exact h)]
def coll (re : List ND) (tx : List UInt8) (o8 : Int) : Nat → List Wy → Option (Nat × List Sp)
  | f, [] => some (f, [])
  | 0, w :: ws => if w.2.2 = [] then (coll re tx o8 0 ws).map (fun r => (r.1, hitW o8 w :: r.2)) else none
  | f + 1, w :: ws => if w.2.2 = [] then (coll re tx o8 (f + 1) ws).map (fun r => (r.1, hitW o8 w :: r.2)) else coll re tx o8 f (kidsM re tx w ++ ws)
termination_by f ws => (f, ws.length)
section
variable {re : List ND} {tx : List UInt8} {o8 : Int}
theorem coll_nil {f : Nat} : coll re tx o8 f [] = some (f, []) := by rw [coll]
theorem coll_hit {f : Nat} {w : Wy} {ws : List Wy} (h : w.2.2 = []) : coll re tx o8 f (w :: ws) = (coll re tx o8 f ws).map (fun r => (r.1, hitW o8 w :: r.2)) := by
  cases f <;> rw [coll, if_pos h]
theorem coll_zero {w : Wy} {ws : List Wy} (h : w.2.2 ≠ []) : coll re tx o8 0 (w :: ws) = none := by rw [coll, if_neg h]
theorem coll_succ {f : Nat} {w : Wy} {ws : List Wy} (h : w.2.2 ≠ []) : coll re tx o8 (f + 1) (w :: ws) = coll re tx o8 f (kidsM re tx w ++ ws) := by rw [coll, if_neg h]
theorem coll_app (f : Nat) : ∀ (a b : List Wy), coll re tx o8 f (a ++ b) = (coll re tx o8 f a).bind fun r => (coll re tx o8 r.1 b).map fun q => (q.1, r.2 ++ q.2) := by
  have hit : ∀ (f : Nat) (w : Wy) (a b : List Wy), w.2.2 = [] → coll re tx o8 f (a ++ b) = ((coll re tx o8 f a).bind fun r => (coll re tx o8 r.1 b).map fun q => (q.1, r.2 ++ q.2)) →
      coll re tx o8 f (w :: a ++ b) = (coll re tx o8 f (w :: a)).bind fun r => (coll re tx o8 r.1 b).map fun q => (q.1, r.2 ++ q.2) := by
    intro f w a b h ih
    rw [List.cons_append, coll_hit h, coll_hit h, ih]
    cases coll re tx o8 f a with
    | none => rfl
    | some r =>
      simp only [Option.bind_some, Option.map_some]
      cases coll re tx o8 r.1 b <;> rfl
  have nil : ∀ (f : Nat) (b : List Wy), coll re tx o8 f ([] ++ b) = (coll re tx o8 f []).bind fun r => (coll re tx o8 r.1 b).map fun q => (q.1, r.2 ++ q.2) := by
    intro f b
    rw [coll_nil]
    simp only [List.nil_append, Option.bind_some]
    cases coll re tx o8 f b <;> rfl
  induction f with
  | zero =>
    intro a
    induction a with
    | nil => exact nil 0
    | cons w a ih =>
      intro b
      by_cases h : w.2.2 = []
      · exact hit 0 w a b h (ih b)
      · rw [List.cons_append, coll_zero h, coll_zero h]; rfl
  | succ f ihf =>
    intro a
    induction a with
    | nil => exact nil (f + 1)
    | cons w a ih =>
      intro b
      by_cases h : w.2.2 = []
      · exact hit (f + 1) w a b h (ih b)
      · rw [List.cons_append, coll_succ h, coll_succ h, ← List.append_assoc, ihf]
theorem coll_le (f : Nat) : ∀ (a : List Wy) r, coll re tx o8 f a = some r → r.1 ≤ f := by
  induction f with
  | zero =>
    intro a
    induction a with
    | nil => intro r h; rw [coll_nil] at h; injection h with h; rw [← h]; exact Nat.le_refl _
    | cons w a ih =>
      intro r h
      by_cases hw : w.2.2 = []
      · rw [coll_hit hw] at h
        obtain ⟨q, h1, rfl⟩ := Option.map_eq_some_iff.1 h
        exact ih q h1
      · rw [coll_zero hw] at h; cases h
  | succ f ihf =>
    intro a
    induction a with
    | nil => intro r h; rw [coll_nil] at h; injection h with h; rw [← h]; exact Nat.le_refl _
    | cons w a ih =>
      intro r h
      by_cases hw : w.2.2 = []
      · rw [coll_hit hw] at h
        obtain ⟨q, h1, rfl⟩ := Option.map_eq_some_iff.1 h
        exact ih q h1
      · rw [coll_succ hw] at h
        exact Nat.le_succ_of_le (ihf _ r h)
theorem hit_ok {g a0 : Int} {w : Wy} (h : KOk re g tx a0 w) : HOk g tx a0 (hitW a0 w) := by
  obtain ⟨w1, w2, w3, w4⟩ := h.1
  refine ⟨w.1, ?_, w1, w2, ?_⟩
  · show (w.2.1.l.set 0 (a0, w.1))[0]? = _
    rw [List.getElem?_set_self (by rw [w.2.1.len]; omega)]
  · intro i x hi hx
    have : (w.2.1.l.set 0 (a0, w.1))[i]? = some x := hx
    rw [List.getElem?_set_ne (by omega)] at this
    exact w3 i x hi this
theorem coll_hok {g a0 : Int} (hn : NOk re g) (ha : 0 ≤ a0) (f : Nat) : ∀ (a : List Wy) r, (∀ w ∈ a, KOk re g tx a0 w) → coll re tx a0 f a = some r → ∀ h ∈ r.2, HOk g tx a0 h := by
  have hit : ∀ (f : Nat) (w : Wy) (a : List Wy), w.2.2 = [] → KOk re g tx a0 w → (∀ r, coll re tx a0 f a = some r → ∀ h ∈ r.2, HOk g tx a0 h) → ∀ r, coll re tx a0 f (w :: a) = some r → ∀ h ∈ r.2, HOk g tx a0 h := by
    intro f w a hw hk ih r hr
    rw [coll_hit hw] at hr
    obtain ⟨q, h1, rfl⟩ := Option.map_eq_some_iff.1 hr
    intro h hm
    rcases List.mem_cons.1 hm with rfl | hm
    · exact hit_ok hk
    · exact ih q h1 h hm
  have nil : ∀ f r, coll re tx a0 f [] = some r → ∀ h ∈ r.2, HOk g tx a0 h := by
    intro f r hr h hm
    rw [coll_nil] at hr; injection hr with hr; rw [← hr] at hm; cases hm
  induction f with
  | zero =>
    intro a
    induction a with
    | nil => intro r _; exact nil 0 r
    | cons w a ih =>
      intro r hk hr
      by_cases hw : w.2.2 = []
      · exact hit 0 w a hw (hk w (List.mem_cons_self ..)) (fun r => ih r fun v hv => hk v (List.mem_cons_of_mem _ hv)) r hr
      · rw [coll_zero hw] at hr; cases hr
  | succ f ihf =>
    intro a
    induction a with
    | nil => intro r _; exact nil (f + 1) r
    | cons w a ih =>
      intro r hk hr
      by_cases hw : w.2.2 = []
      · exact hit (f + 1) w a hw (hk w (List.mem_cons_self ..)) (fun r => ih r fun v hv => hk v (List.mem_cons_of_mem _ hv)) r hr
      · rw [coll_succ hw] at hr
        exact ihf _ r (fun v hv => (List.mem_append.1 hv).elim (kids_ok hn ha (hk w (List.mem_cons_self ..)) v) fun hv => hk v (List.mem_cons_of_mem _ hv)) hr
def isRow (w : Wy) : Bool := !w.2.2.isEmpty
theorem isRow_t {w : Wy} (h : w.2.2 ≠ []) : isRow w = true := by
  unfold isRow
  cases e : w.2.2 with
  | nil => exact absurd e h
  | cons => rfl
theorem isRow_f {w : Wy} (h : w.2.2 = []) : isRow w = false := by unfold isRow; rw [h]; rfl
/-- The matches among ways. -/
def hitsOf (o8 : Int) : List Wy → List Sp
  | [] => []
  | w :: ws => if w.2.2 = [] then hitW o8 w :: hitsOf o8 ws else hitsOf o8 ws
def PRel (pre : List Sp) : Option (Nat × List Sp) → Option (Nat × List Sp) → Prop
  | none, none => True
  | some p, some q => p.1 = q.1 ∧ (pre ++ p.2).Perm q.2
  | _, _ => False
theorem coll_ne : ∀ (a : List Wy) (f : Nat) (b : List Wy), PRel (hitsOf o8 a) (coll re tx o8 f (a.filter isRow ++ b)) (coll re tx o8 f (a ++ b))
  | [], f, b => by
    show PRel [] (coll re tx o8 f b) (coll re tx o8 f b)
    cases coll re tx o8 f b with
    | none => trivial
    | some p => exact ⟨rfl, .refl _⟩
  | w :: a, f, b => by
    by_cases h : w.2.2 = []
    · have ih := coll_ne a f b
      rw [List.filter_cons_of_neg (by rw [isRow_f h]; decide), List.cons_append, coll_hit h, hitsOf, if_pos h]
      revert ih
      cases coll re tx o8 f (a.filter isRow ++ b) <;> cases coll re tx o8 f (a ++ b) <;> intro ih
      · trivial
      · exact ih.elim
      · exact ih.elim
      · exact ⟨ih.1, ih.2.cons _⟩
    · rw [List.filter_cons_of_pos (isRow_t h), hitsOf, if_neg h, List.cons_append, List.cons_append, ← List.singleton_append, coll_app, ← List.singleton_append (l := a ++ b), coll_app]
      cases coll re tx o8 f [w] with
      | none => trivial
      | some r =>
        have ih := coll_ne a r.1 b
        revert ih
        simp only [Option.bind_some]
        cases coll re tx o8 r.1 (a.filter isRow ++ b) <;> cases coll re tx o8 r.1 (a ++ b) <;> intro ih
        · trivial
        · exact ih.elim
        · exact ih.elim
        · rename_i p q
          refine ⟨ih.1, ?_⟩
          show (hitsOf o8 a ++ (r.2 ++ p.2)).Perm (r.2 ++ q.2)
          rw [← List.append_assoc]
          refine (List.perm_append_comm.append_right _).trans ?_
          rw [List.append_assoc]
          exact ih.2.append_left _
theorem goOn_eq (s : Sg) : ∀ l : List Wy, goOn o8 s l = (s.1 ++ (l.filter isRow).reverse, (hitsOf o8 l).reverse.foldl note s.2)
  | [] => by simp [goOn, hitsOf]
  | w :: l => by
    have ih := goOn_eq s l
    show followM o8 (goOn o8 s l) w = _
    rw [ih]
    by_cases h : w.2.2 = []
    · rw [follow_hit h, List.filter_cons_of_neg (by rw [isRow_f h]; decide), hitsOf, if_pos h, List.reverse_cons, List.foldl_append]; rfl
    · rw [follow_row h, List.filter_cons_of_pos (isRow_t h), hitsOf, if_neg h, List.reverse_cons, List.append_assoc]
def RunIs (re : List ND) (tx : List UInt8) (o8 : Int) (f : Nat) (s : Sg) : Option (Nat × List Sp) → Prop
  | none => runM re tx o8 f s = (Arr.rep 10 (0, 0), false, 0, 18)
  | some r => ∃ hs : List Sp, hs.Perm r.2 ∧ runM re tx o8 f s = ((hs.foldl note s.2).2, (hs.foldl note s.2).1, (r.1 : Int), 0)
/-- The program's run tells the best of all matches. -/
theorem run_coll : ∀ (f : Nat) (s : Sg), Busy s → RunIs re tx o8 f s (coll re tx o8 f s.1.reverse)
  | f, s, hb => by
    by_cases hs : s.1 = []
    · rw [hs]
      simp only [List.reverse_nil, coll_nil]
      exact ⟨[], .refl _, by rw [run_nil hs]; rfl⟩
    · have hw := hb _ (List.getLast_mem hs)
      have er : s.1.reverse = s.1.getLast hs :: s.1.dropLast.reverse := by
        conv => lhs; rw [← List.dropLast_concat_getLast hs]
        rw [List.reverse_append]; rfl
      rw [er]
      cases f with
      | zero =>
        rw [coll_zero hw]
        exact run_zero hs
      | succ f =>
        rw [coll_succ hw]
        have e1 : runM re tx o8 (f + 1) s = runM re tx o8 f (goOn o8 (s.1.dropLast, s.2) (kidsM re tx (s.1.getLast hs))) := by rw [run_succ hs, do_kids]
        have hb2 : Busy (goOn o8 (s.1.dropLast, s.2) (kidsM re tx (s.1.getLast hs))) := by
          rw [← do_kids]
          exact Busy.do (s := (s.1.dropLast, s.2)) (fun v hv => hb v (List.dropLast_subset _ hv)) _ _ _ _
        have ih := run_coll f _ hb2
        have e2 : (goOn o8 (s.1.dropLast, s.2) (kidsM re tx (s.1.getLast hs))).1.reverse = (kidsM re tx (s.1.getLast hs)).filter isRow ++ s.1.dropLast.reverse := by
          rw [goOn_eq]
          show (s.1.dropLast ++ _).reverse = _
          rw [List.reverse_append, List.reverse_reverse]
        rw [e2] at ih
        have hp := coll_ne (re := re) (tx := tx) (o8 := o8) (kidsM re tx (s.1.getLast hs)) f s.1.dropLast.reverse
        revert ih hp
        cases coll re tx o8 f ((kidsM re tx (s.1.getLast hs)).filter isRow ++ s.1.dropLast.reverse) <;> cases coll re tx o8 f (kidsM re tx (s.1.getLast hs) ++ s.1.dropLast.reverse) <;> intro ih hp
        · show runM re tx o8 (f + 1) s = _
          rw [e1]; exact ih
        · exact hp.elim
        · exact hp.elim
        · rename_i p q
          obtain ⟨hs', q1, q2⟩ := ih
          refine ⟨(hitsOf o8 (kidsM re tx (s.1.getLast hs))).reverse ++ hs', ?_, ?_⟩
          · exact (((List.reverse_perm _).append_right _).trans (q1.append_left _)).trans hp.2
          · rw [e1, q2, goOn_eq, List.foldl_append, hp.1]
end
end Go.Proofs.Ytnjnbegjhklcgaa
