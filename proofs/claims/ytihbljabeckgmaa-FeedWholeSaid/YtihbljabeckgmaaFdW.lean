/- All lines are those of the files that are there. -/
import Derived.Test.YtihbljabeckgmaaFdC
import Derived.Test.YtihbljabeckgmaaGKL5
namespace Go.Proofs.Ytihbljabeckgmaa
abbrev LI := Ln × Int
def tag (i : Int) (l : List Ln) : List LI := l.map fun x => (x, i)
def outs (fs : List FL) : List ByteArray → Int → List LI
  | [], _ => []
  | s :: l, i => tag i (splitG [] ((lookL fs s).getD [])) ++ outs fs l (i + 1)
def miss (fs : List FL) : List ByteArray → Int
  | [] => 0
  | s :: l => (if (lookL fs s).isSome = true then 0 else 1) + miss fs l
theorem miss_le (fs : List FL) : ∀ l : List ByteArray, 0 ≤ miss fs l ∧ miss fs l ≤ l.length
  | [] => ⟨Int.le_refl _, Int.le_refl _⟩
  | s :: l => by
    have := miss_le fs l
    unfold miss
    rw [List.length_cons]
    split <;> omega
theorem outs_len {fs : List FL} {B : Nat} (hb : big fs ≤ B) : ∀ (l : List ByteArray) (i : Int), (outs fs l i).length ≤ l.length * (B + 1)
  | [], _ => by simp [outs]
  | s :: l, i => by
    have h1 := outs_len hb l (i + 1)
    have h2 := split_len ((lookL fs s).getD []) []
    have h3 : ((lookL fs s).getD []).length ≤ B := by
      cases h : lookL fs s with
      | none => simp
      | some b => have := look_len h; simp only [Option.getD_some]; omega
    unfold outs tag
    rw [List.length_append, List.length_map, List.length_cons, Nat.add_mul]
    omega
/-- What is skipped, and what is opened. -/
theorem adv_todo (fs : List FL) : ∀ (l : List ByteArray) (n o m : Int) (r : List UInt8), 0 ≤ m → m + l.length ≤ 1000000 →
    ∃ k : Nat, k ≤ l.length ∧ (adv fs l n o m r).1 = n + k ∧ tag o (splitG [] r) ++ outs fs l n = tag (adv fs l n o m r).2.1 (splitG [] (adv fs l n o m r).2.2.2) ++ outs fs (l.drop k) (n + k) ∧
      ((adv fs l n o m r).2.2.2 = [] → k = l.length) ∧ 0 ≤ (adv fs l n o m r).2.2.1 ∧ (adv fs l n o m r).2.2.1 + miss fs (l.drop k) = m + miss fs l
  | [], n, o, m, r, h0, _ => ⟨0, Nat.le_refl _, by simp [adv_nil], by simp [adv_nil], fun _ => rfl, h0, rfl⟩
  | s :: l, n, o, m, r, h0, h1 => by
    rw [List.length_cons] at h1
    by_cases hr : r = []
    · cases hl : lookL fs s with
      | some b =>
        rw [adv_s hl _ _ _ _ hr]
        obtain ⟨k, e1, e2, e3, e4, e5, e6⟩ := adv_todo fs l (n + 1) n m b h0 (by omega)
        refine ⟨k + 1, by simp; omega, by omega, ?_, fun h => by rw [e4 h]; rfl, e5, ?_⟩
        · rw [show n + ((k + 1 : Nat) : Int) = n + 1 + k by omega, List.drop_succ_cons, ← e3, outs, hl, hr]
          rfl
        · rw [List.drop_succ_cons, e6, miss, hl]
          simp
      | none =>
        rw [adv_n hl _ _ _ _ hr, wrap_id (by omega) (by omega)]
        obtain ⟨k, e1, e2, e3, e4, e5, e6⟩ := adv_todo fs l (n + 1) o (m + 1) r (by omega) (by omega)
        refine ⟨k + 1, by simp; omega, by omega, ?_, fun h => by rw [e4 h]; rfl, e5, ?_⟩
        · rw [show n + ((k + 1 : Nat) : Int) = n + 1 + k by omega, List.drop_succ_cons, ← e3, outs, hl, hr]
          rfl
        · rw [List.drop_succ_cons, e6, miss, hl]
          simp only [Option.isSome_none, Bool.false_eq_true, if_false]
          omega
    · rw [adv_app fs _ _ _ _ _ hr]
      exact ⟨0, by simp, by simp, by simp, fun h => absurd h hr, h0, rfl⟩
def todo (fs : List FL) (ins : List ByteArray) (st : Fst) : List LI := tag st.2.1 (splitG [] st.2.2.2.2) ++ outs fs (leftL st.1 ins) st.1
structure Fine (fs : List FL) (ins : List ByteArray) (st : Fst) : Prop where
  n0 : 0 ≤ st.1
  n1 : st.1 ≤ (ins.length : Int)
  r : st.2.2.2.2.length ≤ 1000
  m0 : 0 ≤ st.2.2.2.1
  m1 : st.2.2.2.1 + miss fs (leftL st.1 ins) = miss fs ins
theorem left_in {n : Int} {ins : List ByteArray} (h0 : 0 ≤ n) (h1 : n ≤ (ins.length : Int)) : leftL n ins = ins.drop n.toNat := by
  unfold leftL
  rw [if_neg (by omega), if_neg (by omega)]
theorem left_zero (ins : List ByteArray) : leftL 0 ins = ins := by
  rw [left_in (by decide) (by omega)]; rfl
theorem fine0 (fs : List FL) (ins : List ByteArray) : Fine fs ins (0, -1, -1, 0, []) := ⟨by decide, by simp only; omega, by simp, by decide, by simp only; rw [left_zero]; omega⟩
theorem todo0 (fs : List FL) (ins : List ByteArray) : todo fs ins (0, -1, -1, 0, []) = outs fs ins 0 := by
  unfold todo
  simp only
  rw [left_zero]; rfl
theorem step_ok {fs : List FL} {ins : List ByteArray} (hb : big fs ≤ 1000) (hi : ins.length ≤ 1000) {st : Fst} (h : Fine fs ins st) :
    (todo fs ins st = [] → (nextF st fs ins).2.2 = false ∧ (nextF st fs ins).2.1.1 = ins.length ∧ (nextF st fs ins).2.1.2.2.2.1 = miss fs ins) ∧
    (∀ x t, todo fs ins st = x :: t → (nextF st fs ins).2.2 = true ∧ (nextF st fs ins).1 = x.1 ∧ (nextF st fs ins).2.1.2.2.1 = x.2 ∧ todo fs ins (nextF st fs ins).2.1 = t ∧ Fine fs ins (nextF st fs ins).2.1) := by
  obtain ⟨n, o, c, m, r⟩ := st
  obtain ⟨h0, h1, h2, h3, h4⟩ := h
  simp only at h0 h1 h2 h3 h4
  have hle := left_le n ins
  have hml := miss_le fs (leftL n ins)
  have hmi := miss_le fs ins
  obtain ⟨k, e1, e2, e3, e4, e5, e6⟩ := adv_todo fs (leftL n ins) n o m r h3 (by omega)
  have hal := adv_len (fs := fs) hb (leftL n ins) n o m r h2
  have hlen : (leftL n ins).length = ins.length - n.toNat := by rw [left_in h0 h1, List.length_drop]
  have hd : (leftL n ins).drop k = leftL (n + k) ins := by
    rw [left_in h0 h1, left_in (by omega) (by omega), List.drop_drop]
    congr 1; omega
  rw [hd] at e3 e6
  have etodo : todo fs ins (n, o, c, m, r) = _ := e3
  have enext : nextF (n, o, c, m, r) fs ins = fin c (adv fs (leftL n ins) n o m r) := rfl
  generalize adv fs (leftL n ins) n o m r = q at *
  obtain ⟨n', o', m', r'⟩ := q
  simp only at *
  rw [etodo, enext]
  unfold fin
  by_cases hr : r' = []
  · subst hr
    rw [if_pos rfl]
    have hk := e4 rfl
    have hend : n + (k : Int) = ins.length := by omega
    have hnil : leftL (n + k) ins = [] := left_nil (by omega)
    rw [hnil] at e6 ⊢
    refine ⟨fun _ => ⟨rfl, by simp only; omega, by simp only [miss] at e6 ⊢; omega⟩, fun x t hx => ?_⟩
    simp [splitG, tag, outs] at hx
  · rw [if_neg hr]
    have hs := split_cut r' [] (by simpa using hr)
    rw [List.nil_append] at hs
    rw [hs]
    refine ⟨fun hx => by simp [tag] at hx, fun x t hx => ?_⟩
    simp only [tag, List.map_cons, List.cons_append, List.cons.injEq] at hx
    obtain ⟨rfl, rfl⟩ := hx
    have hc := cut_len r'
    refine ⟨rfl, rfl, rfl, ?_, ?_, ?_, ?_, e5, ?_⟩
    · unfold todo tag; simp only; rw [e2]
    · simp only; omega
    · simp only; omega
    · simp only; omega
    · simp only; rw [e2]; omega
theorem wh_at (l : List LI) (n : Nat) (x : LI) (h : l[n]? = some x) : (l.map (·.1))[n]? = some x.1 ∧ (l.map (·.2))[n]? = some x.2 := by
  rw [List.getElem?_map, List.getElem?_map, h]; exact ⟨rfl, rfl⟩
theorem lines_ok {fs : List FL} {o : Opt} {T : List LI} (hfs : fs.length ≤ 1000) (hb : big fs ≤ 1000) (hi : o.2.2.2.2.length ≤ 1000) (hT : T = outs fs o.2.2.2.2 0) (hl : T.length ≤ 1000000) :
    feed_Lines_c1_v2_R false (T.map (·.1)) (T.map (·.2)) 0 fs o (true, false, (T.length : Int)) := by
  refine ⟨_, rfl, loop_ (fun s m => ∃ (n : Nat) (st : Fst), n ≤ T.length ∧ m = T.length - n ∧ s = (st.1, st.2.1, st.2.2.1, st.2.2.2.1, st.2.2.2.2, false, (n : Int)) ∧ Fine fs o.2.2.2.2 st ∧ todo fs o.2.2.2.2 st = T.drop n) T.length ⟨0, (0, -1, -1, 0, []), by omega, rfl, rfl, fine0 _ _, by rw [todo0, hT]; rfl⟩ ?_⟩
  rintro _ m ⟨n, st, hn, rfl, rfl, hf, ht⟩
  obtain ⟨s1, s2⟩ := step_ok hb hi hf
  refine ⟨_, next_ok st fs o (by omega) (by omega) (by omega) hf.r, ?_⟩
  obtain ⟨l1, _⟩ := next_len (B := 1000) (fs := fs) hb st o.2.2.2.2 hf.r
  rcases Nat.lt_or_ge n T.length with hlt | hge
  · obtain ⟨e1, e2, e3, e4, e5⟩ := s2 T[n] (T.drop (n + 1)) (by rw [ht, List.drop_eq_getElem_cons hlt])
    obtain ⟨w1, w2⟩ := wh_at T n T[n] (List.getElem?_eq_getElem hlt)
    have hsame := lsame_t (nextF st fs o.2.2.2.2).1 (by omega)
    generalize nextF st fs o.2.2.2.2 = q at *
    refine split_ (fun h => absurd e1 h) fun _ => ⟨(true, false, ((n + 1 : Nat) : Int)), ?_, split_ (fun _ => ⟨T.length - (n + 1), by omega, n + 1, q.2.1, by omega, rfl, rfl, e5, e4⟩) fun h => absurd rfl h⟩
    refine split_ (fun h => by simp at h; omega) fun _ => ⟨by simp only; omega, _, by simpa using w2, split_ (fun h => absurd e3 h) fun _ => ⟨by simp only; omega, _, by simpa using w1, true, ?_, split_ (fun h => absurd rfl h) fun _ => inR_ (by simp only; omega) rfl⟩⟩
    rw [← e2]; exact hsame
  · obtain ⟨e1, _, _⟩ := s1 (by rw [ht, List.drop_eq_nil_of_le hge])
    refine split_ (fun _ => ?_) fun h => absurd (by rw [e1]; decide) h
    rw [show n = T.length by omega]
theorem whole_law (fs : List FL) (o : Opt) (hwf : ∀ f ∈ fs, f.2.length ≤ 9223372036854775807) : palinodelaw18_FeedWhole_R fs o true := by
  refine ⟨_, great_ok fs o hwf, split_ (fun _ => ⟨true, fdawake, rfl⟩) fun hg => ?_⟩
  obtain ⟨h1, h2, h3⟩ := great_no hg
  have hL := outs_len (fs := fs) (B := 500) h3 o.2.2.2.2 0
  have hL2 : o.2.2.2.2.length * (500 + 1) ≤ 20 * 501 := Nat.mul_le_mul h2 (by omega)
  refine loop_ (fun s m => ∃ (k : Nat) (W : List LI) (ms : Int), k ≤ o.2.2.2.2.length ∧ m = o.2.2.2.2.length - k ∧ s = (ms, (k : Int), W.map (·.1), W.map (·.2)) ∧ 0 ≤ ms ∧ ms ≤ k ∧ ms + miss fs (o.2.2.2.2.drop k) = miss fs o.2.2.2.2 ∧ W ++ outs fs (o.2.2.2.2.drop k) k = outs fs o.2.2.2.2 0) o.2.2.2.2.length ⟨0, [], 0, by omega, rfl, rfl, by decide, by decide, by simp, by simp⟩ ?_
  rintro _ m ⟨k, W, ms, hk, rfl, rfl, hm0, hm1, hm, hW⟩
  refine split_ (fun hlt => ?_) fun hge => ?_
  · have hlt : k < o.2.2.2.2.length := by simpa using hlt
    refine at_ (by simp) (by simpa using hlt) fun s hs => ?_
    rw [Int.toNat_natCast] at hs
    have hd : o.2.2.2.2.drop k = s :: o.2.2.2.2.drop (k + 1) := by
      rw [List.drop_eq_getElem_cons hlt]
      rw [List.getElem?_eq_getElem hlt] at hs
      injection hs with hs
      rw [hs]
    rw [hd] at hm hW
    refine ⟨_, refAt_ok fs s (by omega), ?_⟩
    have hWl : W.length ≤ 20 * 501 := by have := congrArg List.length hW; rw [List.length_append] at this; omega
    cases hl : lookL fs s with
    | none =>
      rw [at_none hl]
      rw [miss, hl] at hm
      rw [outs, hl] at hW
      refine split_ (fun _ => inR_ (by simp only; omega) (inR_ (by simp only; omega) ⟨o.2.2.2.2.length - (k + 1), by omega, k + 1, W, ms + 1, by omega, rfl, rfl, by omega, by omega, ?_, hW⟩)) fun h => absurd (by decide) h
      simp only [Option.isSome_none, Bool.false_eq_true, if_false] at hm
      omega
    | some b =>
      obtain ⟨i, q1, q2, q3⟩ := at_some hl
      rw [q1]
      rw [miss, hl] at hm
      rw [outs, hl] at hW
      simp only [Option.isSome_some, if_true, Option.getD_some, Int.zero_add] at hm hW
      have hbl := look_len hl
      refine split_ (fun h => absurd h (by omega)) fun _ => ⟨by omega, _, by simpa using q2, _, split_ok b (by omega), ?_⟩
      have hsl := split_len b []
      have hWt : (W ++ tag k (splitG [] b)).length ≤ 20 * 501 := by have := congrArg List.length hW; rw [← List.append_assoc, List.length_append] at this; omega
      generalize splitG [] b = S at hW hsl hWt
      refine loop_ (fun s' m' => ∃ j : Nat, j ≤ S.length ∧ m' = S.length - j ∧ s' = ((j : Int), (W ++ tag k (S.take j)).map (·.1), (W ++ tag k (S.take j)).map (·.2))) S.length ⟨0, by omega, rfl, by simp [tag]⟩ ?_
      rintro _ m' ⟨j, hj, rfl, rfl⟩
      refine split_ (fun hj2 => ?_) fun hj2 => ?_
      · have hj2 : j < S.length := by simpa using hj2
        refine at_ (by simp) (by simpa using hj2) fun x hx => ?_
        rw [Int.toNat_natCast] at hx
        have hX : W ++ tag k (S.take (j + 1)) = (W ++ tag k (S.take j)) ++ [(x, (k : Int))] := by
          rw [List.take_add_one, hx]; simp [tag]
        have hXl : (W ++ tag k (S.take (j + 1))).length ≤ 20 * 501 := by
          unfold tag at hWt ⊢; rw [List.length_append, List.length_map] at hWt ⊢; rw [List.length_take]; omega
        rw [hX] at hXl
        rw [List.length_append] at hXl
        refine room_ (by simp only [List.length_map, List.length_cons, List.length_nil] at hXl ⊢; omega) (by omega) (room_ (by simp only [List.length_map, List.length_cons, List.length_nil] at hXl ⊢; omega) (by omega) (inR_ (by simp only; omega) ⟨S.length - (j + 1), by omega, j + 1, by omega, rfl, ?_⟩))
        rw [hX, List.map_append (l₁ := W ++ tag k (S.take j)), List.map_append (l₁ := W ++ tag k (S.take j))]
        rfl
      · have : j = S.length := by simp at hj2; omega
        subst this
        rw [List.take_length]
        exact inR_ (by simp only; omega) ⟨o.2.2.2.2.length - (k + 1), by omega, k + 1, _, ms, by omega, rfl, rfl, by omega, by omega, hm, by rw [List.append_assoc]; exact hW⟩
  · have : k = o.2.2.2.2.length := by simp at hge; omega
    subst this
    rw [List.drop_length] at hm hW
    simp only [miss, outs, List.append_nil, Int.add_zero] at hm hW
    subst hm
    have hWl : W.length ≤ 1000000 := by rw [hW]; omega
    refine ⟨_, rfl, _, lines_ok (fs := fs) (o := o) (T := W) (by omega) (by omega) (by omega) hW hWl, split_ (fun _ => ⟨_, rfl, ?_⟩) fun h => absurd rfl h⟩
    refine loop_ (fun s m => ∃ (n : Nat) (st : Fst), n ≤ W.length ∧ m = W.length - n ∧ s = ((n : Int), st.1, st.2.1, st.2.2.1, st.2.2.2.1, st.2.2.2.2) ∧ Fine fs o.2.2.2.2 st ∧ todo fs o.2.2.2.2 st = W.drop n) W.length ⟨0, (0, -1, -1, 0, []), by omega, rfl, rfl, fine0 _ _, by rw [todo0, hW]; rfl⟩ ?_
    rintro _ m ⟨n, st, hn, rfl, rfl, hf, ht⟩
    obtain ⟨s1, s2⟩ := step_ok (by omega) (by omega) hf
    have hnx := next_ok st fs o (by omega) (by omega) (by omega) hf.r
    refine split_ (fun hlt => ?_) fun hge => ?_
    · have hlt : n < W.length := by simpa using hlt
      obtain ⟨e1, e2, e3, e4, e5⟩ := s2 W[n] (W.drop (n + 1)) (by rw [ht, List.drop_eq_getElem_cons hlt])
      exact ⟨_, hnx, inR_ (by simp only; omega) ⟨W.length - (n + 1), by omega, n + 1, _, by omega, rfl, rfl, e5, e4⟩⟩
    · obtain ⟨e1, e2, e3⟩ := s1 (by rw [ht, List.drop_eq_nil_of_le (by simp at hge; omega)])
      exact ⟨_, hnx, split_ (fun _ => split_ (fun _ => split_ (fun _ => split_ (fun _ => ⟨true, fdawake, rfl⟩) fun h => absurd e2 h) fun h => absurd e3 h) fun h => absurd (by rw [e1]; decide) h) fun h => absurd (by simp) h⟩
end Go.Proofs.Ytihbljabeckgmaa
