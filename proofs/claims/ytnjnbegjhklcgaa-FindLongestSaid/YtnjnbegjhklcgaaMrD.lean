
/- The best of the relation's points is the best of the ways' matches. -/
import Derived.Test.YtnjnbegjhklcgaaMrC
namespace Go.Proofs.Ytnjnbegjhklcgaa
def hitP (a : Int) (q : Pt) : Sp := Arr.set q.2 0 (a, q.1)
def bestP (a : Int) (l : List Pt) : Bst := (l.map (hitP a)).foldl note (false, Arr.rep 10 (0, 0))
theorem best_any (a : Int) : ∀ (l : List Pt) (b : Bst), l ≠ [] → ((l.map (hitP a)).foldl note b).1 = true
  | [], _, h => absurd rfl h
  | q :: l, b, _ => by
    have n1 : (note b (hitP a q)).1 = true := by
      unfold note
      split
      · rename_i h; exact h.1
      · rfl
    show ((l.map (hitP a)).foldl note (note b (hitP a q))).1 = true
    cases l with
    | nil => exact n1
    | cons p l => exact best_any a (p :: l) _ (by simp)
section
variable {re : List ND} {tx : List UInt8} {a0 : Int} {g : Int}
abbrev startW (re : List ND) (a : Int) : Wy := (a, sp0, [(0, (re.length : Int) - 1, 0, 0)])
theorem best_ok (hr : rightB re g = true) (ha : 0 ≤ a0) (h1 : a0 ≤ tx.length) (htx : tx.length ≤ 100000000) (hR : HR re g tx a0 (startW re a0)) (hT : HT re tx (startW re a0)) :
    palinoderef11_Best_R (re, g) tx a0 ((bestP a0 (reachM re tx re.length ((re.length : Int) - 1) (a0, sp0))).2, (bestP a0 (reachM re tx re.length ((re.length : Int) - 1) (a0, sp0))).1) := by
  obtain ⟨hn, g0, g9, hl⟩ := right_nodes hr
  have hlen : re.length ≤ 1000 := by
    unfold rightB at hr
    simp only [Bool.and_eq_true, decide_eq_true_eq] at hr
    exact hr.1.1.1.1.1.2
  have hk := start_k (g := g) (tx := tx) hl ha h1
  have hL := hR re.length ((re.length : Int) - 1) (a0, sp0) [] (by omega) hk (.refl _) _ ⟨nod_reach _ _ _, fun q h => h⟩
  refine inR_ (by show _ ≤ (re.length : Int) - 1 ∧ (re.length : Int) - 1 ≤ _; omega) ⟨sp0, none_ok, reachM re tx re.length ((re.length : Int) - 1) (a0, sp0), ⟨_, _, qrec_ok hn (right_hi hr) g9 ha htx hR hT, 2 * re.length, re.length, [], rfl, rfl, rfl, by show (re.length : Int) - 1 < _; omega, hk, .refl _, rfl⟩, ?_⟩
  generalize reachM re tx re.length ((re.length : Int) - 1) (a0, sp0) = l at *
  refine loop_ (fun s m => ∃ j : Nat, s = ((j : Int), (bestP a0 (l.take j)).2) ∧ j ≤ l.length ∧ m = l.length - j) _ ⟨0, rfl, by omega, rfl⟩ ?_
  rintro _ m ⟨j, rfl, hj, rfl⟩
  unfold palinoderef11_Best_l1
  refine split_ (fun h => ?_) fun h => ?_
  · have hq : l[j]? = some l[j] := List.getElem?_eq_getElem (by omega)
    generalize l[j] = q at hq
    refine ⟨by omega, q, hq, by omega, q, hq, atA (by omega) (by omega) fun z hz => ?_⟩
    have hs : bestP a0 (l.take (j + 1)) = note (bestP a0 (l.take j)) (hitP a0 q) := by
      unfold bestP
      rw [List.take_add_one, hq]; simp [List.foldl_append]
    have j3 : ∀ b : Bool, (b = true ↔ ¬ ((bestP a0 (l.take j)).1 = true ∧ betterM (hitP a0 q) (bestP a0 (l.take j)).2 = false)) → palinoderef11_Best_j3 ((j : Nat) : Int) (fun s' => ∃ m', m' < l.length - j ∧ ∃ j : Nat, s' = ((j : Int), (bestP a0 (l.take j)).2) ∧ j ≤ l.length ∧ m' = l.length - j) q a0 q (bestP a0 (l.take j)).2 b ((bestP a0 l).2, (bestP a0 l).1) := by
      intro b hb
      unfold palinoderef11_Best_j3 palinoderef11_Best_j2
      refine split_ (fun h => ?_) fun h => ?_
      · refine inR_ (by omega) ⟨l.length - (j + 1), by omega, j + 1, ?_, by omega, rfl⟩
        rw [hs]; unfold note; rw [if_neg (hb.1 h)]; rfl
      · refine inR_ (by omega) ⟨l.length - (j + 1), by omega, j + 1, ?_, by omega, rfl⟩
        rw [hs]; unfold note; rw [if_pos (Classical.not_not.1 fun q => h (hb.2 q))]; rfl
    refine split_ (fun h0 => ?_) fun h0 => ?_
    · refine j3 true ⟨fun _ q => ?_, fun _ => rfl⟩
      obtain rfl : j = 0 := by omega
      cases q.1
    · refine ⟨_, rbetter_ok _ _, j3 _ ?_⟩
      have hb1 : (bestP a0 (l.take j)).1 = true := best_any a0 _ _ (fun e => by
        have := congrArg List.length e
        rw [List.length_take, List.length_nil] at this; omega)
      rw [hb1]
      show betterM (hitP a0 q) _ = true ↔ _
      cases betterM (hitP a0 q) (bestP a0 (l.take j)).2 <;> simp
  · obtain rfl : j = l.length := by omega
    rw [List.take_length]
    have : (bestP a0 l).1 = decide (0 < (l.length : Int)) := by
      cases l with
      | nil => rfl
      | cons q l => rw [show (bestP a0 (q :: l)).1 = true from best_any a0 _ _ (by simp)]; simp
    rw [this]
/-- Where the ways have an end, the relation's best is the ways' best. -/
theorem best_coll (hr : rightB re g = true) (ha : 0 ≤ a0) (h1 : a0 ≤ tx.length) (htx : tx.length ≤ 100000000) {f : Nat} (hf : f ≤ 100000000) {r : Nat × List Sp} (hc : coll re tx a0 f [startW re a0] = some r) :
    palinoderef11_Best_R (re, g) tx a0 ((r.2.foldl note (false, Arr.rep 10 (0, 0))).2, (r.2.foldl note (false, Arr.rep 10 (0, 0))).1) := by
  obtain ⟨hn, g0, g9, hl⟩ := right_nodes hr
  have hk := start_k (g := g) (tx := tx) hl ha h1
  have hsp := reach_spec hn (right_hi hr) ha re.length ((re.length : Int) - 1) (by omega) (a0, sp0) [] hk
  have e : bestP a0 (reachM re tx re.length ((re.length : Int) - 1) (a0, sp0)) = r.2.foldl note (false, Arr.rep 10 (0, 0)) := by
    refine Eq.symm (notes_set (g := g) (by omega) ha _ (coll_hok hn ha f _ r (fun w hw => by rw [List.mem_singleton.1 hw]; exact hk) hc) fun h => ?_)
    rw [coll_hits f _ r hc h, List.mem_map]
    constructor
    · rintro ⟨w, hw, hh⟩
      rw [List.mem_singleton.1 hw] at hh
      obtain ⟨q, hq, hh⟩ := hsp.2 h hh
      refine ⟨q, hq, ?_⟩
      cases hh with
      | done _ => rfl
      | step h1 _ => cases h1
    · rintro ⟨q, hq, rfl⟩
      exact ⟨_, List.mem_singleton.2 rfl, (hsp.1 q hq).hits (.done rfl)⟩
  rw [← e]
  refine best_ok hr ha h1 htx (fun k i p tl hi hk hs l hl => ?_) fun i n hx h4 l hl => ?_
  · have := seen_len hc hl.1 (fun q hq => ⟨tl, hs.trans ((reach_spec hn (right_hi hr) ha k i hi p tl hk).1 q (hl.2 q hq))⟩)
    omega
  · have := seen_len hc hl.1 (fun q hq => by obtain ⟨_, _, _, h⟩ := hl.2 q hq; exact ⟨_, h⟩)
    omega
/-- What the program tells, by the matches of the ways. -/
theorem at_coll (hr : rightB re g = true) (ha : 0 ≤ a0) (h1 : a0 ≤ tx.length) (htx : tx.length ≤ 100000000) {f : Int} (hf : 0 ≤ f) :
    (atM re g tx a0 f = (Arr.rep 10 (0, 0), false, 0, 18)) ∨ ∃ r, coll re tx a0 f.toNat [startW re a0] = some r ∧ atM re g tx a0 f = ((r.2.foldl note (false, Arr.rep 10 (0, 0))).2, (r.2.foldl note (false, Arr.rep 10 (0, 0))).1, (r.1 : Int), 0) := by
  obtain ⟨hn, g0, g9, hl⟩ := right_nodes hr
  have hk := start_k (g := g) (tx := tx) hl ha h1
  have e : atM re g tx a0 f = runM re tx a0 f.toNat (startM re a0) := by
    unfold atM
    rw [if_neg (by rw [hr]; intro h; rcases h with h | h | h | h <;> first | omega | cases h)]
  have hrun := run_coll (re := re) (tx := tx) (o8 := a0) f.toNat (startM re a0) start_b
  have es : (startM re a0).1.reverse = [startW re a0] := rfl
  have es2 : (startM re a0).2 = (false, Arr.rep 10 (0, 0)) := rfl
  have hok := coll_hok (re := re) (tx := tx) hn ha f.toNat [startW re a0]
  rw [es] at hrun
  rw [e]
  revert hrun hok
  cases coll re tx a0 f.toNat [startW re a0] with
  | none => intro h _; exact .inl h
  | some r =>
    intro h hok
    obtain ⟨hs, p1, p2⟩ := h
    have hv := hok r (fun w hw => by rw [List.mem_singleton.1 hw]; exact hk) rfl
    refine .inr ⟨r, rfl, ?_⟩
    rw [p2, es2, notes_perm (by omega) ha p1 (false, Arr.rep 10 (0, 0)) (fun q => by cases q) (fun h hh => hv h (p1.mem_iff.1 hh))]
end
end Go.Proofs.Ytnjnbegjhklcgaa
