
/- The reference's search, in plain terms. -/
import Derived.Test.YtncnfohhjbadgaaMtH
namespace Go.Proofs.Ytncnfohhjbadgaa
def waysF (re : List ND) (tx : List UInt8) (a0 most : Int) : Nat → Bst × Int → Wy → Bst × Int
  | 0, s, w => if w.2.2 = [] then (note s.1 (hitW a0 w), s.2) else (s.1, s.2 + 1)
  | k + 1, s, w => if w.2.2 = [] then (note s.1 (hitW a0 w), s.2) else if most < s.2 + 1 then (s.1, s.2 + 1) else (kidsM re tx w).foldl (waysF re tx a0 most k) (s.1, s.2 + 1)
section
variable {re : List ND} {tx : List UInt8} {a0 most : Int}
theorem ways_hit {k : Nat} {s : Bst × Int} {w : Wy} (h : w.2.2 = []) : waysF re tx a0 most k s w = (note s.1 (hitW a0 w), s.2) := by
  cases k <;> rw [waysF, if_pos h]
theorem ways_over {k : Nat} {s : Bst × Int} {w : Wy} (h : w.2.2 ≠ []) (h2 : most < s.2 + 1) : waysF re tx a0 most k s w = (s.1, s.2 + 1) := by
  cases k with
  | zero => rw [waysF, if_neg h]
  | succ k => rw [waysF, if_neg h, if_pos h2]
theorem ways_in {k : Nat} {s : Bst × Int} {w : Wy} (h : w.2.2 ≠ []) (h2 : ¬ most < s.2 + 1) : waysF re tx a0 most (k + 1) s w = (kidsM re tx w).foldl (waysF re tx a0 most k) (s.1, s.2 + 1) := by
  rw [waysF, if_neg h, if_neg h2]
theorem fold_up {k : Nat} (hk : ∀ s w, s.2 ≤ (waysF re tx a0 most k s w).2) : ∀ (l : List Wy) (s : Bst × Int), s.2 ≤ (l.foldl (waysF re tx a0 most k) s).2
  | [], s => Int.le_refl _
  | w :: l, s => Int.le_trans (hk s w) (fold_up hk l _)
theorem ways_up : ∀ (k : Nat) (s : Bst × Int) (w : Wy), s.2 ≤ (waysF re tx a0 most k s w).2
  | 0, s, w => by
    rw [waysF]
    split
    · exact Int.le_refl _
    · show s.2 ≤ s.2 + 1; omega
  | k + 1, s, w => by
    rw [waysF]
    split
    · exact Int.le_refl _
    · split
      · show s.2 ≤ s.2 + 1; omega
      · exact Int.le_trans (by show s.2 ≤ s.2 + 1; omega) (fold_up (ways_up k) _ _)
/-- How much it may cost. -/
theorem ways_cost : ∀ (k : Nat) (s : Bst × Int) (w : Wy), (waysF re tx a0 most k s w).2 ≤ (if most < s.2 + 1 then s.2 + 1 else most + k + 1)
  | 0, s, w => by
    rw [waysF]
    split
    · show s.2 ≤ _; split <;> omega
    · show s.2 + 1 ≤ _; split <;> omega
  | k + 1, s, w => by
    rw [waysF]
    split
    · show s.2 ≤ _; split <;> omega
    · split
      · exact Int.le_refl _
      · rename_i h
        have hl := kids_len re tx w
        match he : kidsM re tx w with
        | [] => show s.2 + 1 ≤ _; omega
        | [v] =>
          show (waysF re tx a0 most k (s.1, s.2 + 1) v).2 ≤ _
          have := ways_cost k (s.1, s.2 + 1) v
          simp only at this
          split at this <;> omega
        | [v, v2] =>
          show (waysF re tx a0 most k (waysF re tx a0 most k (s.1, s.2 + 1) v) v2).2 ≤ _
          have h1 := ways_cost k (s.1, s.2 + 1) v
          have h2 := ways_cost k (waysF re tx a0 most k (s.1, s.2 + 1) v) v2
          simp only at h1
          split at h1 <;> split at h2 <;> omega
        | _ :: _ :: _ :: _ => rw [he] at hl; simp at hl
def WaysIs (most : Int) (b : Bst) (x : Bst × Int) : Option (Nat × List Sp) → Prop
  | none => most < x.2
  | some r => x = (r.2.foldl note b, most - r.1)
/-- The reference tells the same matches, at the same cost. -/
theorem ways_coll : ∀ (k : Nat) (l : List Wy) (s : Bst × Int), s.2 ≤ most → most - s.2 ≤ k → WaysIs most s.1 (l.foldl (waysF re tx a0 most k) s) (coll re tx a0 (most - s.2).toNat l)
  | k, [], s, h, _ => by
    rw [coll_nil]
    obtain ⟨b, c⟩ := s
    show (b, c) = (b, most - ((most - c).toNat : Int))
    have : c ≤ most := h
    rw [show most - ((most - c).toNat : Int) = c by omega]
  | k, w :: l, s, h, hk => by
    by_cases hw : w.2.2 = []
    · rw [coll_hit hw, List.foldl_cons, ways_hit hw]
      have ih := ways_coll k l (note s.1 (hitW a0 w), s.2) h hk
      revert ih
      show WaysIs most _ _ (coll re tx a0 (most - s.2).toNat l) → _
      cases coll re tx a0 (most - s.2).toNat l with
      | none => exact fun ih => ih
      | some r => exact fun ih => ih
    · rw [List.foldl_cons]
      by_cases h0 : s.2 = most
      · rw [show (most - s.2).toNat = 0 by omega, coll_zero hw, ways_over hw (by omega)]
        show most < _
        have := fold_up (ways_up (re := re) (tx := tx) (a0 := a0) (most := most) k) l (s.1, s.2 + 1)
        have h1 : s.2 + 1 ≤ (l.foldl (waysF re tx a0 most k) (s.1, s.2 + 1)).2 := this
        omega
      · obtain ⟨f, hf⟩ : ∃ f, (most - s.2).toNat = f + 1 := ⟨(most - s.2).toNat - 1, by omega⟩
        obtain ⟨k', hk'⟩ : ∃ k', k = k' + 1 := ⟨k - 1, by omega⟩
        have hin : waysF re tx a0 most k s w = (kidsM re tx w).foldl (waysF re tx a0 most k') (s.1, s.2 + 1) := by rw [hk']; exact ways_in hw (by omega)
        rw [hf, coll_succ hw, coll_app, hin]
        have ih1 := ways_coll k' (kidsM re tx w) (s.1, s.2 + 1) (by show s.2 + 1 ≤ most; omega) (by show most - (s.2 + 1) ≤ k'; omega)
        have ef : (most - ((s.1, s.2 + 1) : Bst × Int).2).toNat = f := by show (most - (s.2 + 1)).toNat = f; omega
        rw [ef] at ih1
        have hle := coll_le (re := re) (tx := tx) (o8 := a0) f (kidsM re tx w)
        revert ih1 hle
        cases coll re tx a0 f (kidsM re tx w) with
        | none =>
          intro ih1 _
          show most < _
          have h1 : most < ((kidsM re tx w).foldl (waysF re tx a0 most k') (s.1, s.2 + 1)).2 := ih1
          have := fold_up (ways_up (re := re) (tx := tx) (a0 := a0) (most := most) k) l ((kidsM re tx w).foldl (waysF re tx a0 most k') (s.1, s.2 + 1))
          omega
        | some r =>
          intro ih1 hle
          have hr := hle r rfl
          have ih1' : (kidsM re tx w).foldl (waysF re tx a0 most k') (s.1, s.2 + 1) = (r.2.foldl note s.1, most - r.1) := ih1
          rw [ih1']
          have ih2 := ways_coll k l (r.2.foldl note s.1, most - r.1) (by show most - (r.1 : Int) ≤ most; omega) (by show most - (most - (r.1 : Int)) ≤ _; omega)
          have ef2 : (most - ((r.2.foldl note s.1, most - (r.1 : Int)) : Bst × Int).2).toNat = r.1 := by show (most - (most - (r.1 : Int))).toNat = r.1; omega
          rw [ef2] at ih2
          revert ih2
          simp only [Option.bind_some]
          cases coll re tx a0 r.1 l with
          | none => exact fun ih => ih
          | some q =>
            intro ih
            have ih' : l.foldl (waysF re tx a0 most k) (r.2.foldl note s.1, most - r.1) = (q.2.foldl note (r.2.foldl note s.1), most - q.1) := ih
            show l.foldl (waysF re tx a0 most k) (r.2.foldl note s.1, most - r.1) = ((r.2 ++ q.2).foldl note s.1, most - q.1)
            rw [ih', List.foldl_append]
termination_by k l => (k, l.length)
decreasing_by all_goals simp_wf; omega
end
/-- What the reference tells. -/
def refAt (re : List ND) (tx : List UInt8) (a f : Int) : Sp × Bool × Int × Int :=
  let r := waysF re tx a f (f.toNat + 1) ((false, Arr.rep 10 (0, 0)), 0) (a, sp0, [(0, (re.length : Int) - 1, 0, 0)])
  if f < r.2 then (Arr.rep 10 (0, 0), false, 0, 18) else (r.1.2, r.1.1, f - r.2, 0)
theorem start_k {re : List ND} {g : Int} {tx : List UInt8} {a : Int} (h : 1 ≤ re.length) (h0 : 0 ≤ a) (h1 : a ≤ tx.length) : KOk re g tx a (a, sp0, [(0, (re.length : Int) - 1, 0, 0)]) :=
  ⟨(start_s h h0 h1).1 _ (List.mem_singleton.2 rfl), fun t ht _ => by rw [List.mem_singleton.1 ht]⟩
theorem at_ref {re : List ND} {g : Int} {tx : List UInt8} {a f : Int} (htx : tx.length ≤ 1000000000) (hr : rightB re g = true) (h0 : 0 ≤ a) (h1 : a ≤ tx.length) (hf : 0 ≤ f) : atM re g tx a f = refAt re tx a f := by
  obtain ⟨hn, g0, g9, hl⟩ := right_nodes hr
  have e : atM re g tx a f = runM re tx a f.toNat (startM re a) := by
    unfold atM
    rw [if_neg (by rw [hr]; intro h; rcases h with h | h | h | h <;> first | omega | cases h)]
  have hk := start_k (g := g) hl h0 h1
  have hr := run_coll (re := re) (tx := tx) (o8 := a) f.toNat (startM re a) start_b
  have hw := ways_coll (re := re) (tx := tx) (a0 := a) (most := f) (f.toNat + 1) [(a, sp0, [(0, (re.length : Int) - 1, 0, 0)])] ((false, Arr.rep 10 (0, 0)), 0) hf (by show f - 0 ≤ _; omega)
  have hok := coll_hok (re := re) (tx := tx) hn h0 f.toNat [(a, sp0, [(0, (re.length : Int) - 1, 0, 0)])]
  rw [e]
  have es : (startM re a).1.reverse = [(a, sp0, [(0, (re.length : Int) - 1, 0, 0)])] := rfl
  have ef : (f - (((false, Arr.rep 10 (0, 0)), 0) : Bst × Int).2).toNat = f.toNat := by show (f - 0).toNat = _; omega
  rw [es] at hr
  rw [ef] at hw
  have hle := coll_le (re := re) (tx := tx) (o8 := a) f.toNat [(a, sp0, [(0, (re.length : Int) - 1, 0, 0)])]
  have efold : ∀ s, [(a, sp0, [(0, (re.length : Int) - 1, 0, 0)])].foldl (waysF re tx a f (f.toNat + 1)) s = waysF re tx a f (f.toNat + 1) s (a, sp0, [(0, (re.length : Int) - 1, 0, 0)]) := fun _ => rfl
  rw [efold] at hw
  unfold refAt
  simp only
  revert hr hw hok hle
  cases coll re tx a f.toNat [(a, sp0, [(0, (re.length : Int) - 1, 0, 0)])] with
  | none =>
    intro hr hw _ _
    have hw' : f < (waysF re tx a f (f.toNat + 1) ((false, Arr.rep 10 (0, 0)), 0) (a, sp0, [(0, (re.length : Int) - 1, 0, 0)])).2 := hw
    rw [if_pos hw']
    exact hr
  | some r =>
    intro hr hw hok hle
    obtain ⟨hs, p1, p2⟩ := hr
    have hv := hok r (fun w hw => by rw [List.mem_singleton.1 hw]; exact hk) rfl
    have hl := hle r rfl
    have hw' : waysF re tx a f (f.toNat + 1) ((false, Arr.rep 10 (0, 0)), 0) (a, sp0, [(0, (re.length : Int) - 1, 0, 0)]) = (r.2.foldl note (false, Arr.rep 10 (0, 0)), f - r.1) := hw
    rw [hw', p2]
    rw [if_neg (by show ¬ f < f - (r.1 : Int); omega)]
    have es2 : (startM re a).2 = (false, Arr.rep 10 (0, 0)) := rfl
    rw [es2, notes_perm htx h0 p1 (false, Arr.rep 10 (0, 0)) (fun q => by cases q) (fun h hh => hv h (p1.mem_iff.1 hh))]
    show _ = (_, _, f - (f - (r.1 : Int)), _)
    rw [show f - (f - (r.1 : Int)) = (r.1 : Int) by omega]
end Go.Proofs.Ytncnfohhjbadgaa
