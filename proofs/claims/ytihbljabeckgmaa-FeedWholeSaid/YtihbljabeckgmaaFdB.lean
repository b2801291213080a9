/- What the feed's functions tell, in plain terms. -/
import Derived.Test.YtihbljabeckgmaaFdA
namespace Go.Proofs.Ytihbljabeckgmaa
theorem exWr {z : Int} {P : Int → Prop} (h : -9223372036854775808 ≤ z ∧ z ≤ 9223372036854775807) (k : P z) : ∃ c : Int, c = IntKind.i64.wrap z ∧ P c := ⟨_, rfl, by rw [wrap_id h.1 h.2]; exact k⟩
theorem exWw {z : Int} {P : Int → Prop} (k : P (IntKind.i64.wrap z)) : ∃ c : Int, c = IntKind.i64.wrap z ∧ P c := ⟨_, rfl, k⟩
abbrev Ln := (List UInt8) × Bool
abbrev Fst := Int × Int × Int × Int × (List UInt8)
abbrev Opt := Bool × Bool × Bool × Bool × (List ByteArray)
-- ---- lines
def cutF : List UInt8 → Ln × List UInt8
  | [] => (([], false), [])
  | c :: r => if c = 10 then (([], true), r) else ((c :: (cutF r).1.1, (cutF r).1.2), (cutF r).2)
def nlB (b : Bool) : List UInt8 := if b then [10] else []
theorem cut_app : ∀ b : List UInt8, b = (cutF b).1.1 ++ nlB (cutF b).1.2 ++ (cutF b).2
  | [] => rfl
  | c :: r => by
    unfold cutF
    split
    · rename_i h; subst h; rfl
    · have := cut_app r
      simp only [List.cons_append]
      rw [← this]
theorem cut_idx : ∀ b : List UInt8, idxB b 10 = if (cutF b).1.2 = true then ((cutF b).1.1.length : Int) else -1
  | [] => rfl
  | c :: r => by
    have ih : Lib.indexByte r 10 = _ := cut_idx r
    show Lib.indexByte (c :: r) 10 = _
    unfold Lib.indexByte cutF
    by_cases h : c = 10
    · rw [if_pos h, if_pos (by simp [h])]
      rfl
    · rw [if_neg h, if_neg (by simp [h]), ih]
      by_cases h2 : (cutF r).1.2 = true
      · rw [if_pos h2, if_neg (by first | (simp; done) | (simp; omega))]
        simp only [h2, if_true, List.length_cons]
        rfl
      · rw [if_neg h2]
        simp only [h2]
        rfl
theorem cut_no {b : List UInt8} (h : ¬ (cutF b).1.2 = true) : (cutF b).2 = [] ∧ (cutF b).1.1 = b := by
  induction b with
  | nil => exact ⟨rfl, rfl⟩
  | cons c r ih =>
    unfold cutF at h ⊢
    by_cases hc : c = 10
    · rw [if_pos hc] at h; exact absurd rfl h
    · rw [if_neg hc] at h ⊢
      obtain ⟨h1, h2⟩ := ih h
      exact ⟨h1, by rw [h2]⟩
theorem cut_len (b : List UInt8) : b.length = (cutF b).1.1.length + (nlB (cutF b).1.2).length + (cutF b).2.length := by
  have := congrArg List.length (cut_app b)
  rw [List.length_append, List.length_append] at this
  exact this
theorem cut_lt {b : List UInt8} (h : b ≠ []) : (cutF b).2.length < b.length := by
  have h1 := cut_len b
  by_cases hn : (cutF b).1.2 = true
  · rw [hn] at h1; simp [nlB] at h1; omega
  · rw [(cut_no hn).1]; exact List.length_pos_iff.2 h
def cutR (b : List UInt8) : Ln × Int × Bool := if b = [] then (([], false), 0, false) else ((cutF b).1, ((b.length - (cutF b).2.length : Nat) : Int), true)
theorem cut_ok (b : List UInt8) (hb : b.length ≤ 1000000) : lines_Cut_R b 0 (cutR b) := by
  refine split_ (fun h => ?_) fun h => ?_
  · have : b = [] := by
      simp only [Bool.or_eq_true, decide_eq_true_eq] at h
      exact List.eq_nil_of_length_eq_zero (by omega)
    unfold cutR; rw [if_pos this]
  · simp only [Bool.or_eq_true, decide_eq_true_eq, not_or] at h
    have hb0 : b ≠ [] := fun e => by rw [e] at h; simp at h
    unfold cutR; rw [if_neg hb0]
    have hl := cut_len b
    have ha := cut_app b
    refine ⟨⟨by omega, by omega⟩, _, rfl, ?_⟩
    rw [show (0 : Int).toNat = 0 from rfl, List.drop_zero, cut_idx]
    by_cases hn : (cutF b).1.2 = true
    · rw [if_pos hn]
      rw [hn] at hl ha
      simp only [nlB, if_true, List.length_cons, List.length_nil] at hl
      refine split_ (fun _ => ⟨⟨by omega, by omega⟩, (cutF b).1.1, ?_, inR_ (by omega) (inR_ (by omega) ?_)⟩) fun h => absurd (by omega) h
      · rw [Int.toNat_natCast]
        have : b.take (cutF b).1.1.length = (cutF b).1.1 := by
          generalize (cutF b).1.1 = x at ha ⊢
          rw [ha, List.append_assoc, List.take_left]
        rw [this]
        exact clone_ok _ (by omega)
      · refine Prod.ext (Prod.ext rfl hn) (Prod.ext ?_ rfl)
        simp only
        omega
    · rw [if_neg hn]
      refine split_ (fun h => absurd h (by decide)) fun _ => ⟨b, clone_ok _ (by omega), ?_⟩
      obtain ⟨h1, h2⟩ := cut_no hn
      refine Prod.ext (Prod.ext h2 (by simpa using hn)) (Prod.ext ?_ rfl)
      rw [h1]; rfl
theorem cut_drop (b : List UInt8) : b.drop (b.length - (cutF b).2.length) = (cutF b).2 := by
  have hl := cut_len b
  have ha := cut_app b
  rw [show b.length - (cutF b).2.length = ((cutF b).1.1 ++ nlB (cutF b).1.2).length by rw [List.length_append]; omega]
  generalize (cutF b).1.1 ++ nlB (cutF b).1.2 = x at ha ⊢
  generalize (cutF b).2 = y at ha ⊢
  rw [ha, List.drop_left]
def splitG : List UInt8 → List UInt8 → List Ln
  | cur, [] => if cur = [] then [] else [(cur, false)]
  | cur, c :: r => if c = 10 then (cur, true) :: splitG [] r else splitG (cur ++ [c]) r
theorem split_nl {c : UInt8} (h : c = 10) (cur r : List UInt8) : splitG cur (c :: r) = (cur, true) :: splitG [] r := by rw [splitG, if_pos h]
theorem split_ch {c : UInt8} (h : ¬ c = 10) (cur r : List UInt8) : splitG cur (c :: r) = splitG (cur ++ [c]) r := by rw [splitG, if_neg h]
theorem split_cut : ∀ (b cur : List UInt8), cur ++ b ≠ [] → splitG cur b = (cur ++ (cutF b).1.1, (cutF b).1.2) :: splitG [] (cutF b).2
  | [], cur, h => by
    have : cur ≠ [] := by simpa using h
    simp [splitG, cutF, this]
  | c :: r, cur, _ => by
    by_cases hc : c = 10
    · rw [split_nl hc, cutF, if_pos hc]; simp
    · rw [split_ch hc, cutF, if_neg hc, split_cut r (cur ++ [c]) (by simp)]; simp
theorem split_len : ∀ (b cur : List UInt8), (splitG cur b).length ≤ b.length + 1
  | [], cur => by unfold splitG; split <;> simp
  | c :: r, cur => by
    unfold splitG
    split
    · have := split_len r []; simp; omega
    · have := split_len r (cur ++ [c]); simp; omega
theorem split_ok (b : List UInt8) (hb : b.length ≤ 100000) : palinoderef02_Split_R b (splitG [] b) := by
  refine loop_ (fun st m => ∃ (k : Nat) (out : List Ln) (cur : List UInt8), k ≤ b.length ∧ m = b.length - k ∧ st = (out, cur, (k : Int)) ∧ out.length ≤ k ∧ cur.length ≤ k ∧ (k < b.length → out ++ splitG cur (b.drop k) = splitG [] b) ∧ (k = b.length → out = splitG [] b)) b.length ⟨0, [], [], by omega, rfl, rfl, by simp, by simp, by simp, fun h => by rw [List.eq_nil_of_length_eq_zero h.symm]; rfl⟩ ?_
  rintro _ m ⟨k, out, cur, hk, rfl, rfl, h1, h2, h3, h4⟩
  refine split_ (fun h => ?_) fun h => (h4 (by simp at h; omega)).symm
  have hlt : k < b.length := by simpa using h
  refine at_ (by simp) (by simpa using h) fun c hc => ?_
  rw [Int.toNat_natCast] at hc
  have hd : b.drop k = c :: b.drop (k + 1) := by
    rw [List.drop_eq_getElem_cons hlt]
    rw [List.getElem?_eq_getElem hlt] at hc
    injection hc with hc
    rw [hc]
  have h5 := h3 hlt
  rw [hd] at h5
  refine split_ (fun h6 => ?_) fun h6 => ?_
  · have hc10 : c = 10 := UInt8.toNat_inj.1 (by simp; omega)
    rw [split_nl hc10] at h5
    refine room_ (by simp; omega) (by omega) (inR_ (by simp; omega) ⟨b.length - (k + 1), by omega, k + 1, _, _, by omega, rfl, rfl, by simp; omega, by simp, fun h7 => ?_, fun h7 => ?_⟩)
    · simp only [List.append_assoc]; exact h5
    · rw [show b.drop (k + 1) = [] from List.drop_eq_nil_of_le (by omega)] at h5
      simpa [splitG] using h5
  · have hc10 : ¬ c = 10 := fun e => h6 (by rw [e]; rfl)
    rw [split_ch hc10] at h5
    refine at_ (by simp) (by simpa using h) fun c' hc' => ?_
    rw [Int.toNat_natCast, hc] at hc'
    obtain rfl := Option.some.inj hc'
    refine room_ (by simp; omega) (by omega) (inR_ (by omega) (split_ (fun h7 => ?_) fun h7 => ?_))
    · have hlast : k + 1 = b.length := by simp at h7; omega
      rw [show b.drop (k + 1) = [] from List.drop_eq_nil_of_le (by omega)] at h5
      refine room_ (by simp; omega) (by omega) (inR_ (by simp; omega) ⟨b.length - (k + 1), by omega, k + 1, _, _, by omega, rfl, rfl, by simp; omega, by simp; omega, fun h8 => by omega, fun _ => ?_⟩)
      rw [← h5]
      simp [splitG]
    · refine inR_ (by simp; omega) ⟨b.length - (k + 1), by omega, k + 1, _, _, by omega, rfl, rfl, by simp only; omega, by simp; omega, fun h8 => h5, fun h8 => ?_⟩
      simp at h7; omega
-- ---- files
def big (fs : List FL) : Nat := (fs.map fun f => f.2.length).sum
theorem big_mem {fs : List FL} {f : FL} (h : f ∈ fs) : f.2.length ≤ big fs := by
  induction fs with
  | nil => cases h
  | cons g fs ih =>
    unfold big
    simp only [List.map_cons, List.sum_cons]
    rcases List.mem_cons.1 h with rfl | h
    · omega
    · have := ih h; unfold big at this; omega
theorem look_len {fs : List FL} {s : ByteArray} {b : List UInt8} (h : lookL fs s = some b) : b.length ≤ big fs := by
  induction fs with
  | nil => cases h
  | cons f fs ih =>
    unfold lookL at h
    split at h
    · injection h with h; subst h; exact big_mem (List.mem_cons_self ..)
    · have := ih h; unfold big at this ⊢; simp only [List.map_cons, List.sum_cons]; omega
theorem index_ok (s : ByteArray) (l : List FL) (hl : l.length ≤ 1000000) : slices_IndexFunc_R s l (atI l s) := by
  refine loop_ (fun st m => ∃ k : Nat, k ≤ l.length ∧ m = l.length - k ∧ st = (k : Int) ∧ ∀ j, j < k → ∀ f', l[j]? = some f' → ¬ (f'.1.toList == s.toList) = true) l.length ⟨0, by omega, rfl, rfl, fun j hj => by omega⟩ ?_
  rintro _ m ⟨k, hk, rfl, rfl, hall⟩
  refine split_ (fun h => ?_) fun h => ?_
  · refine at_ (by omega) (by omega) fun f hf => ?_
    rw [Int.toNat_natCast] at hf
    refine ⟨_, rfl, split_ (fun h1 => ?_) fun h1 => ?_⟩
    · unfold atI; rw [find_at hf h1 hall]
    · refine inR_ (by omega) ⟨l.length - (k + 1), by omega, k + 1, by omega, rfl, rfl, fun j hj f' hf' => ?_⟩
      rcases Nat.lt_or_ge j k with h3 | h3
      · exact hall j h3 f' hf'
      · obtain rfl : j = k := by omega
        rw [hf] at hf'
        obtain rfl := Option.some.inj hf'
        exact h1
  · unfold atI
    rw [find_no fun j f' hf' => hall j (by have := (List.getElem?_eq_some_iff.1 hf').1; omega) f' hf']
theorem at_none {l : List FL} {s : ByteArray} (h : lookL l s = none) : atI l s = -1 := by
  unfold atI
  cases hf : findL l s with
  | none => rfl
  | some i => obtain ⟨b, _, h2⟩ := find_some hf; rw [h] at h2; cases h2
theorem at_some {l : List FL} {s : ByteArray} {b : List UInt8} (h : lookL l s = some b) : ∃ i : Nat, atI l s = (i : Int) ∧ l[i]? = some (s, b) ∧ i < l.length := by
  unfold atI
  cases hf : findL l s with
  | none => rw [find_none hf] at h; cases h
  | some i =>
    obtain ⟨b', h1, h2⟩ := find_some hf
    rw [h] at h2
    obtain rfl := Option.some.inj h2
    exact ⟨i, rfl, h1, (List.getElem?_eq_some_iff.1 h1).1⟩
theorem get_ok (l : List FL) (s : ByteArray) (hl : l.length ≤ 1000000) : feed_get_R l s ((lookL l s).getD [], (lookL l s).isSome) := by
  refine ⟨_, index_ok s l hl, ?_⟩
  cases h : lookL l s with
  | none => rw [at_none h]; exact split_ (fun _ => rfl) fun h => absurd (by decide) h
  | some b =>
    obtain ⟨i, h1, h2, _⟩ := at_some h
    rw [h1]
    exact split_ (fun h => absurd h (by omega)) fun _ => ⟨by omega, _, by simpa using h2, rfl⟩
def leftL (n : Int) (ins : List ByteArray) : List ByteArray := if n < 0 then [] else if (ins.length : Int) < n then [] else ins.drop n.toNat
theorem left_ok (st : Fst) (o : Opt) : feed_left_R st o (leftL st.1 o.2.2.2.2) := by
  unfold leftL
  refine split_ (fun h => by rw [if_pos h]) fun h => split_ (fun h2 => by rw [if_neg h, if_pos h2]) fun h2 => ⟨⟨by omega, by omega⟩, by rw [if_neg h, if_neg h2]⟩
-- ---- the next line
def adv (fs : List FL) : List ByteArray → Int → Int → Int → List UInt8 → Int × Int × Int × List UInt8
  | [], n, o, m, r => (n, o, m, r)
  | s :: l, n, o, m, r => if r = [] then match lookL fs s with
      | some b => adv fs l (n + 1) n m b
      | none => adv fs l (n + 1) o (IntKind.i64.wrap (m + 1)) r
    else (n, o, m, r)
def fin (c : Int) (q : Int × Int × Int × List UInt8) : Ln × Fst × Bool :=
  if q.2.2.2 = [] then (([], false), (q.1, q.2.1, c, q.2.2.1, []), false) else ((cutF q.2.2.2).1, (q.1, q.2.1, q.2.1, q.2.2.1, (cutF q.2.2.2).2), true)
def nextF (st : Fst) (fs : List FL) (ins : List ByteArray) : Ln × Fst × Bool := fin st.2.2.1 (adv fs (leftL st.1 ins) st.1 st.2.1 st.2.2.2.1 st.2.2.2.2)
theorem fin_ok (x : Fst) (n o m : Int) (r : List UInt8) (hr : r.length ≤ 100000) : feed_Next_j1 x n o m r (fin x.2.2.1 (n, o, m, r)) := by
  refine ⟨_, cut_ok r (by omega), ?_⟩
  unfold cutR fin
  by_cases h : r = []
  · subst h
    exact split_ (fun _ => rfl) fun h => absurd (by decide) h
  · rw [if_neg h, if_neg h]
    refine split_ (fun h => absurd rfl h) fun _ => ⟨⟨by simp only; omega, by simp only; omega⟩, (cutF r).2, ?_, rfl⟩
    rw [Int.toNat_natCast, cut_drop]
    exact clone_ok _ (by have := cut_lt h; omega)
theorem adv_app (fs : List FL) : ∀ (l : List ByteArray) (n o m : Int) (r : List UInt8), r ≠ [] → adv fs l n o m r = (n, o, m, r)
  | [], _, _, _, _, _ => rfl
  | s :: l, n, o, m, r, h => by unfold adv; rw [if_neg h]
theorem adv_nil (fs : List FL) (n o m : Int) (r : List UInt8) : adv fs [] n o m r = (n, o, m, r) := rfl
theorem adv_s {fs : List FL} {s : ByteArray} {b : List UInt8} (h : lookL fs s = some b) (l : List ByteArray) (n o m : Int) {r : List UInt8} (hr : r = []) : adv fs (s :: l) n o m r = adv fs l (n + 1) n m b := by
  rw [adv, if_pos hr, h]
theorem adv_n {fs : List FL} {s : ByteArray} (h : lookL fs s = none) (l : List ByteArray) (n o m : Int) {r : List UInt8} (hr : r = []) : adv fs (s :: l) n o m r = adv fs l (n + 1) o (IntKind.i64.wrap (m + 1)) r := by
  rw [adv, if_pos hr, h]
theorem next_ok (st : Fst) (fs : List FL) (o : Opt) (hfs : fs.length ≤ 1000) (hb : big fs ≤ 1000) (ho : o.2.2.2.2.length ≤ 1000) (hr : st.2.2.2.2.length ≤ 1000) : feed_Next_R st fs o (nextF st fs o.2.2.2.2) := by
  refine ⟨_, left_ok st o, ?_⟩
  unfold nextF
  obtain ⟨n0, o0, c0, m0, r0⟩ := st
  simp only at hr ⊢
  have hL : leftL n0 o.2.2.2.2 = [] ∨ (0 ≤ n0 ∧ n0 + ((leftL n0 o.2.2.2.2).length : Int) ≤ 1000) := by
    unfold leftL
    split
    · exact .inl rfl
    · split
      · exact .inl rfl
      · exact .inr ⟨by omega, by simp; omega⟩
  generalize leftL n0 o.2.2.2.2 = L at hL
  refine loop_ (fun s m => ∃ (k : Nat) (n o m1 : Int) (r : List UInt8), k ≤ L.length ∧ m = L.length - k ∧ s = ((k : Int), n, o, m1, r) ∧ n = n0 + k ∧ r.length ≤ 1000 ∧ adv fs (L.drop k) n o m1 r = adv fs L n0 o0 m0 r0) L.length ⟨0, n0, o0, m0, r0, by omega, rfl, rfl, by simp, hr, rfl⟩ ?_
  rintro _ m ⟨k, n, o1, m1, r, hk, rfl, rfl, hn, hr1, hadv⟩
  refine split_ (fun h => ?_) fun h => ?_
  · have hlt : k < L.length := by simpa using h
    have hne : L ≠ [] := fun e => by rw [e] at hlt; simp at hlt
    obtain ⟨hn0, hn1⟩ := hL.resolve_left hne
    refine at_ (by simp) (by simpa using h) fun s hs => ?_
    rw [Int.toNat_natCast] at hs
    have hd : L.drop k = s :: L.drop (k + 1) := by
      rw [List.drop_eq_getElem_cons hlt]
      rw [List.getElem?_eq_getElem hlt] at hs
      injection hs with hs
      rw [hs]
    rw [hd] at hadv
    refine split_ (fun h2 => ?_) fun h2 => ?_
    · rw [adv_app _ _ _ _ _ _ (fun e => by simp only [e, List.length_nil] at h2; omega)] at hadv
      rw [← hadv]
      exact fin_ok (n0, o0, c0, m0, r0) _ _ _ _ (by simp only; omega)
    · have hr0 : r = [] := List.eq_nil_of_length_eq_zero (by simp only at h2; omega)
      refine ⟨_, get_ok fs s (by omega), ?_⟩
      cases hl : lookL fs s with
      | some b =>
        rw [adv_s hl _ _ _ _ hr0] at hadv
        have := look_len hl
        refine split_ (fun _ => exWr (by simp only; omega) (exWr (by simp only; omega) ⟨L.length - (k + 1), by omega, k + 1, _, _, _, _, by omega, rfl, rfl, by simp only; omega, by simp only [Option.getD_some]; omega, hadv⟩)) fun h => absurd rfl h
      | none =>
        rw [adv_n hl _ _ _ _ hr0] at hadv
        refine split_ (fun h => by cases h) fun _ => exWw (exWr (by simp only; omega) (exWr (by simp only; omega) ⟨L.length - (k + 1), by omega, k + 1, _, _, _, _, by omega, rfl, rfl, by simp only; omega, by omega, hadv⟩))
  · have hke : k = L.length := by simp at h; omega
    rw [hke, List.drop_length, adv_nil] at hadv
    rw [← hadv]
    exact fin_ok (n0, o0, c0, m0, r0) _ _ _ _ (by simp only; omega)
theorem rfin_ok (x : Fst) (n o m : Int) (r : List UInt8) (hr : r.length ≤ 100000) : palinoderef18_Next_j1 x n o m r (fin x.2.2.1 (n, o, m, r)) := by
  refine ⟨_, split_ok r hr, ?_⟩
  unfold fin
  by_cases h : r = []
  · subst h
    exact split_ (fun _ => rfl) fun h => absurd rfl h
  · have hs := split_cut r [] (by simpa using h)
    rw [List.nil_append] at hs
    rw [hs]
    simp only [h, if_false]
    have hl := cut_len r
    have hlt := cut_lt h
    refine split_ (fun h => by simp at h; omega) fun _ => ?_
    refine ⟨by decide, _, rfl, by decide, _, rfl, split_ (fun hn => ?_) fun hn => ?_⟩
    · have hn : (cutF r).1.2 = true := hn
      rw [hn] at hl
      simp only [nlB, if_true, List.length_cons, List.length_nil] at hl
      refine exWr (by simp only; omega) ⟨⟨by simp only; omega, by simp only; omega⟩, (cutF r).2, ?_, by decide, _, rfl, rfl⟩
      rw [show (((cutF r).1.1.length : Int) + 1).toNat = r.length - (cutF r).2.length by omega, cut_drop]
      exact ficopy_ok _ (by omega)
    · obtain ⟨h1, h2⟩ := cut_no hn
      refine ⟨⟨by simp only; omega, by simp only; omega⟩, (cutF r).2, ?_, by decide, _, rfl, rfl⟩
      simp only [h2, Int.toNat_natCast]
      rw [h1, List.drop_length]
      exact ficopy_ok _ (by simp)
theorem left_cons {n : Int} {ins : List ByteArray} (h0 : 0 ≤ n) (h1 : n < (ins.length : Int)) : ∃ s, ins[n.toNat]? = some s ∧ leftL n ins = s :: leftL (n + 1) ins := by
  have hlt : n.toNat < ins.length := by omega
  refine ⟨ins[n.toNat], List.getElem?_eq_getElem hlt, ?_⟩
  unfold leftL
  rw [if_neg (by omega), if_neg (by omega), if_neg (by omega), if_neg (by omega), List.drop_eq_getElem_cons hlt, show (n + 1).toNat = n.toNat + 1 by omega]
theorem left_nil {n : Int} {ins : List ByteArray} (h : ¬ (0 ≤ n ∧ n < (ins.length : Int))) : leftL n ins = [] := by
  unfold leftL
  by_cases h0 : n < 0
  · rw [if_pos h0]
  · rw [if_neg h0]
    by_cases h1 : (ins.length : Int) < n
    · rw [if_pos h1]
    · rw [if_neg h1, List.drop_eq_nil_of_le (by omega)]
theorem rnext_ok (st : Fst) (fs : List FL) (ins : List ByteArray) (hfs : fs.length ≤ 1000) (hb : big fs ≤ 1000) (ho : ins.length ≤ 1000) (hr : st.2.2.2.2.length ≤ 1000) : palinoderef18_Next_R st fs ins (nextF st fs ins) := by
  unfold nextF
  obtain ⟨n0, o0, c0, m0, r0⟩ := st
  simp only at hr ⊢
  refine loop_ (fun s m => ∃ (n o m1 : Int) (r : List UInt8), m = (leftL n ins).length ∧ s = (n, o, m1, r) ∧ r.length ≤ 1000 ∧ adv fs (leftL n ins) n o m1 r = adv fs (leftL n0 ins) n0 o0 m0 r0) _ ⟨n0, o0, m0, r0, rfl, rfl, hr, rfl⟩ ?_
  rintro _ m ⟨n, o, m1, r, rfl, rfl, hr1, hadv⟩
  refine split_ (fun h => ?_) fun h => ?_
  · have hr0 : r = [] := List.eq_nil_of_length_eq_zero (by simpa using h)
    have stop : ¬ (0 ≤ n ∧ n < (ins.length : Int)) → palinoderef18_Next_j1 (n0, o0, c0, m0, r0) n o m1 r (fin c0 (adv fs (leftL n0 ins) n0 o0 m0 r0)) := fun hno => by
      rw [left_nil hno, adv_nil] at hadv
      rw [← hadv]
      exact rfin_ok (n0, o0, c0, m0, r0) _ _ _ _ (by omega)
    refine split_ (fun h1 => split_ (fun h2 => ?_) fun h2 => stop (by simp only at h2; omega)) fun h1 => stop (by simp only at h1; omega)
    simp only at h1 h2
    obtain ⟨s, hs, hc⟩ := left_cons h1 h2
    rw [hc] at hadv
    refine ⟨h1, s, hs, _, refAt_ok fs s (by omega), ?_⟩
    cases hl : lookL fs s with
    | some b =>
      rw [adv_s hl _ _ _ _ hr0] at hadv
      obtain ⟨i, e1, e2, _⟩ := at_some hl
      have := look_len hl
      rw [e1]
      refine split_ (fun _ => ⟨by omega, _, by simpa using e2, b, ficopy_ok b (by omega), exWr (by omega) ⟨(leftL (n + 1) ins).length, by rw [hc]; simp, _, _, _, _, rfl, rfl, by omega, hadv⟩⟩) fun h => absurd (by omega) h
    | none =>
      rw [adv_n hl _ _ _ _ hr0] at hadv
      rw [at_none hl]
      refine split_ (fun h => absurd h (by decide)) fun _ => exWw (exWr (by omega) ⟨(leftL (n + 1) ins).length, by rw [hc]; simp, _, _, _, _, rfl, rfl, by omega, hadv⟩)
  · have hr0 : r ≠ [] := fun e => h (by simp only [e]; rfl)
    rw [adv_app fs _ _ _ _ _ hr0] at hadv
    rw [← hadv]
    exact rfin_ok (n0, o0, c0, m0, r0) _ _ _ _ (by simp only; omega)
-- ---- is it the last one?
def hasB (fs : List FL) (s : ByteArray) : Bool := decide (0 < ((lookL fs s).getD []).length)
def lastF (st : Fst) (fs : List FL) (o : Opt) : Bool :=
  if 0 < st.2.2.2.2.length then false else if o.2.1 = true then true else if o.2.2.1 = true then true else !((leftL st.1 o.2.2.2.2).any (hasB fs))
theorem hasB_t {fs : List FL} {s : ByteArray} : hasB fs s = true ↔ 0 < ((lookL fs s).getD []).length := by unfold hasB; exact decide_eq_true_iff
theorem contains_ok (fs : List FL) (l : List ByteArray) (hfs : fs.length ≤ 1000) (hl : l.length ≤ 1000) : slices_ContainsFunc_R fs l (l.any (hasB fs)) := by
  suffices h : ∃ y : Int, slices_IndexFunc_v2_R fs l y ∧ decide (0 ≤ y) = l.any (hasB fs) by
    obtain ⟨y, h1, h2⟩ := h; exact ⟨y, h1, h2.symm⟩
  rcases Classical.em (∃ (k : Nat) (s : ByteArray), l[k]? = some s ∧ hasB fs s = true ∧ ∀ j, j < k → ∀ s', l[j]? = some s' → ¬ hasB fs s' = true) with ⟨k, s, h1, h2, h3⟩ | hno
  · have hk := (List.getElem?_eq_some_iff.1 h1).1
    refine ⟨(k : Int), ?_, ?_⟩
    · refine loop_ (fun st m => ∃ j : Nat, j ≤ k ∧ m = k - j ∧ st = (j : Int)) k ⟨0, by omega, rfl, rfl⟩ ?_
      rintro _ m ⟨j, hj, rfl, rfl⟩
      refine split_ (fun h => at_ (by simp) (by simpa using h) fun s' hs' => ?_) fun h => (h (by show (j : Int) < (l.length : Int); omega)).elim
      rw [Int.toNat_natCast] at hs'
      refine ⟨_, ⟨_, get_ok fs s' (by omega), rfl⟩, split_ (fun h4 => ?_) fun h4 => ?_⟩
      · rcases Nat.lt_or_ge j k with h5 | h5
        · exact absurd (hasB_t.2 (by have := of_decide_eq_true h4; simp only at this; omega)) (h3 j h5 s' hs')
        · have : k = j := by omega
          rw [this]
      · rcases Nat.lt_or_ge j k with h5 | h5
        · exact inR_ (by omega) ⟨k - (j + 1), by omega, j + 1, by omega, rfl, rfl⟩
        · obtain rfl : k = j := by omega
          rw [h1] at hs'
          obtain rfl := Option.some.inj hs'
          exact absurd (decide_eq_true (by have := hasB_t.1 h2; simp only; omega)) h4
    · rw [show l.any (hasB fs) = true from List.any_eq_true.2 ⟨s, List.mem_of_getElem? h1, h2⟩]
      simp
  · have hall : ∀ (j : Nat) s', l[j]? = some s' → ¬ hasB fs s' = true := by
      intro j
      induction j using Nat.strongRecOn with
      | _ j ih => exact fun s' hs' hb => hno ⟨j, s', hs', hb, fun i hi s2 hs2 => ih i hi s2 hs2⟩
    refine ⟨-1, ?_, ?_⟩
    · refine loop_ (fun st m => ∃ j : Nat, j ≤ l.length ∧ m = l.length - j ∧ st = (j : Int)) l.length ⟨0, by omega, rfl, rfl⟩ ?_
      rintro _ m ⟨j, hj, rfl, rfl⟩
      refine split_ (fun h => at_ (by simp) (by simpa using h) fun s' hs' => ?_) fun h => rfl
      rw [Int.toNat_natCast] at hs'
      have hjl : j < l.length := by simpa using h
      refine ⟨_, ⟨_, get_ok fs s' (by omega), rfl⟩, split_ (fun h4 => ?_) fun h4 => ?_⟩
      · exact absurd (hasB_t.2 (by have := of_decide_eq_true h4; simp only at this; omega)) (hall j s' hs')
      · exact inR_ (by omega) ⟨l.length - (j + 1), by omega, j + 1, by omega, rfl, rfl⟩
    · rw [show l.any (hasB fs) = false from by
        rw [Bool.eq_false_iff]; intro h
        obtain ⟨s, hs, hb⟩ := List.any_eq_true.1 h
        obtain ⟨j, hj⟩ := List.mem_iff_getElem?.1 hs
        exact hall j s hj hb]
      rfl
theorem left_le (n : Int) (ins : List ByteArray) : (leftL n ins).length ≤ ins.length := by
  unfold leftL; split
  · simp
  · split
    · simp
    · simp
theorem last_ok (st : Fst) (fs : List FL) (o : Opt) (hfs : fs.length ≤ 1000) (ho : o.2.2.2.2.length ≤ 1000) : feed_Last_R st fs o (lastF st fs o) := by
  unfold lastF
  refine split_ (fun h => ?_) fun h => split_ (fun h1 => ?_) fun h1 => split_ (fun h2 => ?_) fun h2 => ⟨_, left_ok st o, _, contains_ok fs _ hfs (by have := left_le st.1 o.2.2.2.2; omega), ?_⟩
  · rw [if_pos (by omega)]
  · rw [if_neg (by omega), if_pos h1]
  · rw [if_neg (by omega), if_neg h1, if_pos h2]
  · rw [if_neg (by omega), if_neg h1, if_neg h2]
theorem rlast_ok (st : Fst) (fs : List FL) (o : Opt) (hfs : fs.length ≤ 1000) (ho : o.2.2.2.2.length ≤ 1000) : palinoderef18_Last_R st fs o (lastF st fs o) := by
  unfold lastF
  refine split_ (fun h => ?_) fun h => split_ (fun h1 => ?_) fun h1 => split_ (fun h2 => ?_) fun h2 => split_ (fun h3 => ?_) fun h3 => ?_
  · rw [if_pos (by omega)]
  · rw [if_neg (by omega), if_pos h1]
  · rw [if_neg (by omega), if_neg h1, if_pos h2]
  · rw [if_neg (by omega), if_neg h1, if_neg h2, left_nil (by omega)]; rfl
  · rw [if_neg (by omega), if_neg h1, if_neg h2]
    refine loop_ (fun s m => ∃ n : Int, 0 ≤ n ∧ s = n ∧ m = (leftL n o.2.2.2.2).length ∧ (leftL n o.2.2.2.2).any (hasB fs) = (leftL st.1 o.2.2.2.2).any (hasB fs)) _ ⟨st.1, by omega, rfl, rfl, rfl⟩ ?_
    rintro n m ⟨_, hn, rfl, rfl, hany⟩
    refine split_ (fun h4 => ?_) fun h4 => ?_
    · obtain ⟨s, hs, hc⟩ := left_cons hn h4
      rw [hc, List.any_cons] at hany
      have again : hasB fs s = false → palinoderef18_Last_j2 n (fun s' => ∃ m', m' < (leftL n o.2.2.2.2).length ∧ ∃ n : Int, 0 ≤ n ∧ s' = n ∧ m' = (leftL n o.2.2.2.2).length ∧ (leftL n o.2.2.2.2).any (hasB fs) = (leftL st.1 o.2.2.2.2).any (hasB fs)) (!((leftL st.1 o.2.2.2.2).any (hasB fs))) := fun hf => by
        rw [hf, Bool.false_or] at hany
        exact inR_ (by omega) ⟨(leftL (n + 1) o.2.2.2.2).length, by rw [hc]; simp, n + 1, by omega, rfl, rfl, hany⟩
      refine ⟨hn, s, hs, _, refAt_ok fs s (by omega), ?_⟩
      cases hl : lookL fs s with
      | some b =>
        obtain ⟨i, e1, e2, _⟩ := at_some hl
        rw [e1]
        have hb2 : hasB fs s = decide (0 < b.length) := by unfold hasB; rw [hl]; rfl
        refine split_ (fun _ => ⟨by omega, _, by simpa using e2, split_ (fun h5 => ?_) fun h5 => again ?_⟩) fun h => absurd (by omega) h
        · rw [hb2, decide_eq_true (by simp only at h5; omega : 0 < b.length), Bool.true_or] at hany
          rw [← hany]; rfl
        · rw [hb2]; exact decide_eq_false (by simp only at h5; omega)
      | none =>
        rw [at_none hl]
        exact split_ (fun h => absurd h (by decide)) fun _ => again (by unfold hasB; rw [hl]; rfl)
    · rw [left_nil (by omega)] at hany
      rw [← hany]; rfl
-- ---- sameness
theorem lsame_ok (a b : Ln) (ha : a.1.length ≤ 1000000) : palinodelaw18_same_R a b (decide (a = b)) := by
  refine ⟨decide (a = b), split_ (fun h => absurd rfl h) fun _ => ?_, rfl⟩
  refine loop_ (fun s m => (s = 0 ∧ m = 1) ∨ (s = 1 ∧ m = 0 ∧ a = b)) 1 (.inl ⟨rfl, rfl⟩) ?_
  rintro s m (⟨rfl, rfl⟩ | ⟨rfl, rfl, h⟩)
  · refine split_ (fun _ => ⟨by decide, a, rfl, by decide, b, rfl, split_ (fun h => ?_) fun h => ⟨by decide, a, rfl, by decide, b, rfl, _, fisame_ok a.1 b.1 ha, split_ (fun h2 => ?_) fun h2 => inR_ (by decide) ⟨0, by decide, .inr ⟨rfl, rfl, ?_⟩⟩⟩⟩) fun h => absurd (show (0 : Int) < 1 by decide) h
    · exact decide_eq_false fun e => h (by rw [e]; simp)
    · exact decide_eq_false fun e => h2 (by rw [e]; simp)
    · exact Prod.ext (by simpa using h2) (by simpa using h)
  · exact split_ (fun h => absurd (show (1 : Int) < 1 from h) (by decide)) fun _ => decide_eq_true h
theorem ssame_ok (a : Fst) (ha : a.2.2.2.2.length ≤ 1000000) : palinoderef18_Same_R a a true := by
  refine split_ (fun _ => split_ (fun _ => split_ (fun _ => split_ (fun _ => ⟨true, ?_, rfl⟩) fun h => absurd rfl h) fun h => absurd rfl h) fun h => absurd rfl h) fun h => absurd rfl h
  have := fisame_ok a.2.2.2.2 a.2.2.2.2 ha
  simpa using this
-- ---- is there too much?
theorem wrap_over {z : Int} (h : 9223372036854775807 < z) (h2 : z ≤ 18446744073709551615) : IntKind.i64.wrap z = z - 18446744073709551616 := by
  show (if (true && decide (z % 18446744073709551616 ≥ 9223372036854775808)) = true then z % 18446744073709551616 - 18446744073709551616 else z % 18446744073709551616) = _
  rw [Int.emod_eq_of_lt (by omega) (by omega), if_pos (by simp; omega)]
theorem great_ok (fs : List FL) (o : Opt) (hwf : ∀ f ∈ fs, f.2.length ≤ 9223372036854775807) : palinoderef18_Great_R fs o (decide (20 < fs.length) || decide (20 < o.2.2.2.2.length) || decide (500 < big fs)) := by
  refine split_ (fun h => ?_) fun h => split_ (fun h1 => ?_) fun h1 => ?_
  · rw [show decide (20 < fs.length) = true from decide_eq_true (by omega)]; rfl
  · rw [show decide (20 < o.2.2.2.2.length) = true from decide_eq_true (by omega)]; simp
  · rw [show decide (20 < fs.length) = false from decide_eq_false (by omega), show decide (20 < o.2.2.2.2.length) = false from decide_eq_false (by omega), Bool.false_or, Bool.false_or]
    have key : ∀ k, big fs = big (fs.take k) + big (fs.drop k) := fun k => by
      unfold big; rw [← List.sum_append, ← List.map_append, List.take_append_drop]
    refine loop_ (fun s m => ∃ k : Nat, k ≤ fs.length ∧ m = fs.length - k ∧ s = ((big (fs.take k) : Int), (k : Int)) ∧ big (fs.take k) ≤ 500) fs.length ⟨0, by omega, rfl, rfl, by simp [big]⟩ ?_
    rintro _ m ⟨k, hk, rfl, rfl, hb⟩
    refine split_ (fun h2 => at_ (by simp) (by simpa using h2) fun f hf => ?_) fun h2 => ?_
    · rw [Int.toNat_natCast] at hf
      have hlt := (List.getElem?_eq_some_iff.1 hf).1
      have hw := hwf f (List.mem_of_getElem? hf)
      have hs : big (fs.take (k + 1)) = big (fs.take k) + f.2.length := by
        unfold big; rw [List.take_add_one, hf]; simp
      have hkey := key (k + 1)
      refine exWw ?_
      rcases Nat.lt_or_ge 9223372036854775807 (big (fs.take k) + f.2.length) with hov | hov
      · have hz : ∃ z, z = IntKind.i64.wrap ((big (fs.take k) : Int) + (f.2.length : Int)) ∧ z < 0 := by
          refine ⟨_, rfl, ?_⟩
          rw [wrap_over (by omega) (by omega)]; omega
        obtain ⟨z, hz1, hz2⟩ := hz
        simp only
        rw [← hz1]
        refine split_ (fun h3 => by omega) fun h3 => split_ (fun _ => decide_eq_true (by omega)) fun h4 => absurd hz2 h4
      · simp only
        rw [wrap_id (by omega) (by omega)]
        refine split_ (fun h3 => decide_eq_true (by omega)) fun h3 => split_ (fun h4 => by omega) fun h4 => exWr (by omega) ⟨fs.length - (k + 1), by omega, k + 1, by omega, rfl, by rw [hs]; rfl, by omega⟩
    · have : k = fs.length := by simp at h2; omega
      subst this
      rw [List.take_length] at hb
      exact decide_eq_false (by omega)
theorem great_no {fs : List FL} {o : Opt} (h : ¬ (decide (20 < fs.length) || decide (20 < o.2.2.2.2.length) || decide (500 < big fs)) = true) : fs.length ≤ 20 ∧ o.2.2.2.2.length ≤ 20 ∧ big fs ≤ 500 := by
  simp only [Bool.or_eq_true, decide_eq_true_eq, not_or] at h
  omega
theorem fdawake : palinodelaw18_awake_R true := palinodelaw18_awake_ok (fuel := 50) (by kernel_rfl)
end Go.Proofs.Ytihbljabeckgmaa
