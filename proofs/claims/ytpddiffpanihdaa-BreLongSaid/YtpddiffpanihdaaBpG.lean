
/- Bytes that are themselves, one behind the other. -/
import Derived.Test.YtpddiffpanihdaaBpF
namespace Go.Proofs.Ytpddiffpanihdaa
theorem node_set (S : SetT) (a g : Int) : isNodeB (setN S) a g = true := by simp [isNodeB, plainL, partsL, setN]
theorem node_cat {x y a : Int} (g : Int) (hx : 0 ≤ x ∧ x < a) (hy : 0 ≤ y ∧ y < a) : isNodeB (2, x, y, 0, 0, 0, setZ) a g = true := by
  simp [isNodeB, plainL, partsL]; omega
theorem put_yes {n : ND} {s : Pz} (h : s.L.length < 1000) (hn : isNodeB n s.L.length s.g = true) : putS n s = ((s.L.length : Int), { s with L := s.L ++ [n] }) := by
  unfold putS; rw [if_neg (by omega), if_pos hn]
theorem put_full {n : ND} {s : Pz} (h : 1000 ≤ s.L.length) : putS n s = (-1, s) := by
  unfold putS; rw [if_pos h]
def setsL (l : List UInt8) : List ND := l.map fun c => setN (ofS [c])
theorem one_plain (c : UInt8) (s : Pz) (h : s.L.length < 1000) : oneR c s = ((s.L.length : Int), [], { s with L := s.L ++ [setN (ofS [c])], p := s.p + 1 }) := by
  unfold oneR
  rw [put_yes (s := adv s 1) h (node_set _ _ _)]; rfl
theorem reps_none {b : List UInt8} {k : Int} {s : Pz} (hk : 0 ≤ k) (h1 : hasS b s.p [42] = false) (h2 : hasS b s.p [92, 123] = false) : repsR b (k, [], s) = (k, [], s) := by
  show repsF b (b.length + 1) k [] s = _
  rw [repsF_succ, if_neg (by unfold moreR; rw [h1, h2]; simp)]
  unfold endRp
  rw [decide_eq_false (by omega)]; rfl
def intsL (n : Nat) : List Int := (List.range n).map fun (i : Nat) => (i : Int)
theorem ints_succ (n : Nat) : intsL (n + 1) = intsL n ++ [(n : Int)] := by simp [intsL, List.range_succ]
theorem ints_len (n : Nat) : (intsL n).length = n := by simp [intsL]
theorem ints_mem {n : Nat} {y : Int} (h : y ∈ intsL n) : 0 ≤ y ∧ y < (n : Int) := by
  obtain ⟨i, hi, rfl⟩ := List.mem_map.1 h
  have := List.mem_range.1 hi
  omega
theorem ints_cons (n : Nat) : ∃ t, intsL (n + 1) = 0 :: t ∧ t.length = n ∧ ∀ y ∈ t, 0 ≤ y ∧ y < ((n + 1 : Nat) : Int) := by
  cases h : intsL (n + 1) with
  | nil => have := congrArg List.length h; rw [ints_len] at this; simp at this
  | cons x t =>
    have h0 : (intsL (n + 1))[0]? = some 0 := by unfold intsL; rw [List.getElem?_map, List.getElem?_range (by omega)]; rfl
    rw [h] at h0
    obtain rfl : x = 0 := Option.some.inj h0
    refine ⟨t, rfl, ?_, fun y hy => ints_mem (by rw [h]; exact List.mem_cons_of_mem _ hy)⟩
    have := congrArg List.length h
    rw [ints_len] at this
    simpa using this.symm
theorem fold_cats : ∀ (t : List Int) (x : Int) (s : Pz), (∀ y ∈ t, 0 ≤ y ∧ y < (s.L.length : Int)) → 0 ≤ x → x < (s.L.length : Int) → s.L.length + t.length ≤ 1000 →
    ∃ (C : List ND) (k : Int), foldS 2 t x s = (k, { s with L := s.L ++ C }) ∧ C.length = t.length ∧ (∀ n ∈ C, n.1 = 2) ∧ 0 ≤ k
  | [], x, s, _, hx, _, _ => ⟨[], x, by rw [List.append_nil]; rfl, rfl, by simp, hx⟩
  | y :: t, x, s, hy, hx, hx2, hl => by
    have hl : s.L.length + (t.length + 1) ≤ 1000 := hl
    obtain ⟨C, k, h1, h2, h3, h4⟩ := fold_cats t (s.L.length : Int) { s with L := s.L ++ [(2, x, y, 0, 0, 0, setZ)] } (fun z hz => by
      have := hy z (List.mem_cons_of_mem _ hz)
      show 0 ≤ z ∧ z < ((s.L ++ [_]).length : Int)
      rw [List.length_append]; simp; omega) (by omega) (by show _ < ((s.L ++ [_]).length : Int); rw [List.length_append]; simp; omega) (by show (s.L ++ [_]).length + _ ≤ _; rw [List.length_append]; simp; omega)
    refine ⟨(2, x, y, 0, 0, 0, setZ) :: C, k, ?_, by simp [h2], fun n hn => ?_, h4⟩
    · rw [fold_cons, if_neg (by omega), put_yes (by omega) (node_cat _ ⟨hx, hx2⟩ (hy y (List.mem_cons_self ..)))]
      rw [h1]
      show (k, { s with L := (s.L ++ [_]) ++ C }) = _
      rw [List.append_assoc]; rfl
    · rcases List.mem_cons.1 hn with rfl | hn
      · rfl
      · exact h3 n hn
theorem fold_over : ∀ (t : List Int) (x : Int) (s : Pz), (∀ y ∈ t, 0 ≤ y ∧ y < (s.L.length : Int)) → 0 ≤ x → x < (s.L.length : Int) → s.L.length ≤ 1000 → 1000 < s.L.length + t.length → (foldS 2 t x s).1 = -1
  | [], x, s, _, _, _, h1, h2 => by simp at h2; omega
  | y :: t, x, s, hy, hx, hx2, hl, h2 => by
    rw [fold_cons, if_neg (by omega)]
    have h2 : 1000 < s.L.length + (t.length + 1) := h2
    by_cases hf : 1000 ≤ s.L.length
    · rw [put_full hf, fold_m1]
    · rw [put_yes (by omega) (node_cat _ ⟨hx, hx2⟩ (hy y (List.mem_cons_self ..)))]
      exact fold_over t _ { s with L := s.L ++ [(2, x, y, 0, 0, 0, setZ)] } (fun z hz => by
        have := hy z (List.mem_cons_of_mem _ hz)
        show 0 ≤ z ∧ z < ((s.L ++ [_]).length : Int)
        rw [List.length_append]; simp; omega) (by omega) (by show _ < ((s.L ++ [_]).length : Int); rw [List.length_append]; simp; omega) (by show (s.L ++ [_]).length ≤ _; rw [List.length_append]; simp; omega) (by show _ < (s.L ++ [_]).length + _; rw [List.length_append]; simp; omega)
theorem run_loop (b : List UInt8) (st : Nat → Pz) (n : Nat) (hst : ∀ i, i < n → (st i).p < b.length ∧ hasS b (st i).p [92, 41] = false)
    (hp : ∀ i, i < n → ∀ f : Bool, ∀ m, go b (m + 3) (.piece f (st i)) = some ((i : Int), [], st (i + 1))) (hn : (st n).p = b.length) :
    ∀ (k i : Nat) (f : Bool), i + k = n → go b (k + 4) (.loop false (intsL i) f (st i)) = some (branchE b false (intsL n) (st n))
  | 0, i, f, h => by
    obtain rfl : i = n := by omega
    rw [show 0 + 4 = 3 + 1 from rfl]
    unfold go
    rw [if_neg (by omega)]
  | k + 1, i, f, h => by
    have ih := run_loop b st n hst hp hn k (i + 1) false (by omega)
    rw [show k + 1 + 4 = (k + 4) + 1 from rfl]
    unfold go
    rw [if_pos (hst i (by omega)), hp i (by omega) f (k + 1)]
    dsimp only
    rw [if_pos (show ([] : List (Int × Int)).isEmpty = true from rfl), ← ints_succ]
    exact ih
/-- What many bytes that are themselves give. -/
theorem run_plain (b : List UInt8) (st : Nat → Pz) (l : List UInt8) (n : Nat) (hl : l.length = n) (h1 : 1 ≤ n) (h0 : st 0 = pz0) (hb : hasS b 0 [94] = false) (hs : ∀ i, (st i).L = setsL (l.take i) ∧ (st i).g = 0) (hst : ∀ i, i < n → (st i).p < b.length ∧ hasS b (st i).p [92, 41] = false)
    (hp : ∀ i, i < n → ∀ f : Bool, ∀ m, go b (m + 3) (.piece f (st i)) = some ((i : Int), [], st (i + 1))) (hn : (st n).p = b.length) (hmax : n ≤ 1000) :
    ∃ q, go b (n + 5) (.branch false pz0) = some q ∧ (2 * n - 1 ≤ 1000 → ∃ C, q.2.1 = [] ∧ q.2.2.L = setsL l ++ C ∧ q.2.2.g = 0 ∧ C.length = n - 1 ∧ ∀ x ∈ C, x.1 = 2) ∧ (1000 < 2 * n - 1 → q.2.1 = [((b.length : Int), 8)]) := by
  have hrun := run_loop b st n hst hp hn n 0 true (by omega)
  refine ⟨branchE b false (intsL n) (st n), ?_, ?_, ?_⟩
  · rw [show n + 5 = (n + 4) + 1 from rfl]
    unfold go
    rw [if_neg (by show ¬ hasS b 0 [94] = true; rw [hb]; simp), ← h0]
    exact hrun
  all_goals
    obtain ⟨n, rfl⟩ : ∃ j, n = j + 1 := ⟨n - 1, by omega⟩
    obtain ⟨t, ht, htl, hty⟩ := ints_cons n
    have hL : (st (n + 1)).L.length = n + 1 := by rw [(hs (n + 1)).1, setsL, List.length_map, List.length_take]; omega
    have hee : branchE b false (0 :: t) (st (n + 1)) = if (foldS 2 t 0 (st (n + 1))).1 < 0 then noR (foldS 2 t 0 (st (n + 1))).2 8 else okR (foldS 2 t 0 (st (n + 1))) := by
      have hc : catS (0 :: t) (st (n + 1)) = foldS 2 t 0 (st (n + 1)) := by rw [cat_cons, if_neg (by rw [hL]; omega)]
      unfold branchE
      rw [if_neg (by rw [decide_eq_true (by rw [hn])]; simp), hc]
    rw [ht, hee]
  · intro hm
    obtain ⟨C, k, c1, c2, c3, c4⟩ := fold_cats t 0 (st (n + 1)) (fun y hy => by rw [hL]; exact hty y hy) (by omega) (by rw [hL]; omega) (by rw [hL]; omega)
    rw [c1, if_neg (by show ¬ k < 0; omega)]
    refine ⟨C, rfl, ?_, (hs _).2, by omega, c3⟩
    show (st (n + 1)).L ++ C = _
    rw [(hs _).1, List.take_of_length_le (by omega)]
  · intro hm
    have c1 := fold_over t 0 (st (n + 1)) (fun y hy => by rw [hL]; exact hty y hy) (by omega) (by rw [hL]; omega) (by rw [hL]; omega) (by rw [hL]; omega)
    rw [if_pos (by rw [c1]; decide)]
    show [(((foldS 2 t 0 (st (n + 1))).2.p : Int), (8 : Int))] = _
    rw [(fold_st 2 t 0 _).1, hn]
end Go.Proofs.Ytpddiffpanihdaa
