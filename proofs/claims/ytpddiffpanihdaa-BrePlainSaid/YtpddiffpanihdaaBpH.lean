
/- BrePlain. -/
import Derived.Test.YtpddiffpanihdaaBpG
import Derived.Test.YtpddiffpanihdaaInr
import Derived.Test.YtpddiffpanihdaaGKL1
namespace Go.Proofs.Ytpddiffpanihdaa
theorem bpawake : palinodelaw08_awake_R true := palinodelaw08_awake_ok (fuel := 50) (by kernel_rfl)
theorem One_ok (c : UInt8) : palinoderef08_One_R c (ofS [c]) := by
  have hc := c.toNat_lt
  have h1 : (c.toNat : Int).tdiv 64 = ((c.toNat / 64 : Nat) : Int) := td _ 64
  have h2 : (c.toNat : Int).tmod 64 = ((c.toNat % 64 : Nat) : Int) := tm _ 64
  unfold palinoderef08_One_R
  rw [h1, h2]
  refine ⟨by decide, exU8 (by omega) fun c4 h4 => ⟨by decide, exU8' (by omega) fun c8 h8 => ⟨by omega, ?_⟩⟩⟩
  have hmin : min ((c8.toNat : Int) : Int).toNat IntKind.u64.bits = c.toNat % 64 := by show min _ 64 = _; omega
  have hp : 2 ^ (c.toNat % 64) ≤ 2 ^ 63 := Nat.pow_le_pow_right (by decide) (by omega)
  have hz : (1 : Int) * 2 ^ (c.toNat % 64) = ((2 ^ (c.toNat % 64) : Nat) : Int) := by simp
  rw [hmin, hz]
  show ∃ c7 : UInt64, _ ∧ _ ∧ ∃ y9, _ ∧ withS (Arr.rep 4 0) c.toNat = _
  unfold withS
  generalize hq : 2 ^ (c.toNat % 64) = q at hp
  refine exU64 (by omega) fun c10 h10 => atA (by omega) (by omega) fun y hy => ?_
  rw [show ((c4.toNat : Int) : Int).toNat = c.toNat / 64 by omega] at hy ⊢
  rw [show UInt64.ofNat q = c10 from UInt64.toNat_inj.1 (by rw [UInt64.toNat_ofNat_of_lt' (by simp [UInt64.size]; omega)]; omega)]
  have hg : (Arr.rep 4 (0 : UInt64)).l.getD (c.toNat / 64) 0 = 0 := by
    obtain h | h | h | h : c.toNat / 64 = 0 ∨ c.toNat / 64 = 1 ∨ c.toNat / 64 = 2 ∨ c.toNat / 64 = 3 := by omega
    all_goals rw [h]; rfl
  rw [hg, or_zero]
theorem Alnum_ok (c : UInt8) : palinoderef08_Alnum_R (c.toNat : Int) (alnB c.toNat) := by
  have hcl := c.toNat_lt
  refine split_ (fun _ => exU8 (by omega) fun d hd => ?_) fun h => absurd (by omega) h
  obtain rfl : d = c := u8_inj hd
  exact ⟨_, in3 65 90 97 122 48 57 d, rfl⟩
def plC (c : UInt8) : Prop := alnB c.toNat = false ∧ c.toNat ≠ 40 ∧ c.toNat ≠ 41 ∧ c.toNat ≠ 123
def escL (l : List UInt8) : List UInt8 := l.flatMap fun c => [92, c]
theorem esc_cons (c : UInt8) (l : List UInt8) : escL (c :: l) = 92 :: c :: escL l := rfl
theorem esc_len (l : List UInt8) : (escL l).length = 2 * l.length := by
  induction l with
  | nil => rfl
  | cons c l ih => rw [esc_cons]; simp [ih]; omega
theorem esc_drop : ∀ (i : Nat) (l : List UInt8), (escL l).drop (2 * i) = escL (l.drop i)
  | 0, l => rfl
  | i + 1, [] => by simp [escL]
  | i + 1, c :: l => by rw [esc_cons, show 2 * (i + 1) = 2 * i + 2 by omega]; exact esc_drop i l
theorem esc_snoc {l : List UInt8} {k : Nat} {c : UInt8} (h : l[k]? = some c) : escL (l.take k) ++ [92, c] = escL (l.take (k + 1)) := by
  unfold escL
  rw [List.take_add_one, h, List.flatMap_append]; rfl
theorem aln_not {c : UInt8} (h : alnB c.toNat = false) : ¬ (49 ≤ c.toNat ∧ c.toNat ≤ 57) ∧ c.toNat ≠ 110 := by
  have := of_decide_eq_false h
  omega
theorem sets_snoc {l : List UInt8} {k : Nat} {c : UInt8} (h : l[k]? = some c) : setsL (l.take k) ++ [setN (ofS [c])] = setsL (l.take (k + 1)) := by
  unfold setsL
  rw [List.take_add_one, h, List.map_append]; rfl
theorem sets_len (l : List UInt8) (k : Nat) (h : k ≤ l.length) : (setsL (l.take k)).length = k := by
  unfold setsL; rw [List.length_map, List.length_take]; omega
theorem plain_parse (l : List UInt8) (h1 : 1 ≤ l.length) (h60 : l.length ≤ 60) (hl : ∀ c ∈ l, plC c) : ∃ (L : List ND) (C : List ND), bre_Parse_R (escL l) ((L, 0), 0, 0) ∧ L = setsL l ++ C ∧ C.length = l.length - 1 ∧ ∀ x ∈ C, x.1 = 2 := by
  have hbl := esc_len l
  have hdr : ∀ i c, l[i]? = some c → (escL l).drop (2 * i) = 92 :: c :: escL (l.drop (i + 1)) := fun i c hc => by rw [esc_drop, drop_at hc]; rfl
  have hpl : ∀ {i : Nat} {c : UInt8}, l[i]? = some c → plC c := fun h => hl _ (List.mem_of_getElem? h)
  have hA : ∀ i, i < l.length → 2 * i < (escL l).length ∧ hasS (escL l) (2 * i) [92, 41] = false := fun i hi => by
    obtain ⟨c, hc⟩ : ∃ c, l[i]? = some c := ⟨l[i]'(by omega), List.getElem?_eq_getElem (by omega)⟩
    refine ⟨by show 2 * i < _; omega, ?_⟩
    show hasS (escL l) (2 * i) [92, 41] = false
    unfold hasS
    rw [hdr i c hc]
    refine decide_eq_false fun h => ?_
    simp at h
    exact (hpl hc).2.2.1 (by rw [h]; rfl)
  have hB : ∀ i, i < l.length → ∀ (f : Bool) (m : Nat), go (escL l) (m + 3) (.piece f ⟨setsL (l.take i), 0, 2 * i, Arr.rep 10 false⟩) = some ((i : Int), [], ⟨setsL (l.take (i + 1)), 0, 2 * (i + 1), Arr.rep 10 false⟩) := fun i hi f m => by
    obtain ⟨c, hc⟩ : ∃ c, l[i]? = some c := ⟨l[i]'(by omega), List.getElem?_eq_getElem (by omega)⟩
    have hd := hdr i c hc
    obtain ⟨p1, p2, p3, p4⟩ := hpl hc
    have hx : (escL l)[2 * i]? = some 92 := by rw [show 2 * i = 2 * i + 0 from rfl, ← List.getElem?_drop, hd]; rfl
    have hy : (escL l)[2 * i + 1]? = some c := by rw [← List.getElem?_drop, hd]; rfl
    obtain ⟨a1, a2⟩ := aln_not p1
    have hno : ∀ {j : Nat} {d : UInt8}, l[j]? = some d → hasS (escL l) (2 * j) [92, 123] = false ∧ hasS (escL l) (2 * j) [42] = false := fun {j d} hj => by
      unfold hasS
      rw [hdr j d hj]
      refine ⟨decide_eq_false fun h => ?_, decide_eq_false (by simp)⟩
      simp at h
      exact (hpl hj).2.2.2 (by rw [h]; rfl)
    have hnext : hasS (escL l) (2 * i + 2) [92, 123] = false ∧ hasS (escL l) (2 * i + 2) [42] = false := by
      by_cases hj : i + 1 < l.length
      · exact hno (j := i + 1) (List.getElem?_eq_getElem hj)
      · unfold hasS
        rw [List.drop_eq_nil_of_le (by omega)]
        exact ⟨decide_eq_false (by simp), decide_eq_false (by simp)⟩
    have hlen := sets_len l i (by omega)
    have hesc : go (escL l) (m + 1) (.escape ⟨setsL (l.take i), 0, 2 * i, Arr.rep 10 false⟩) = some ((i : Int), [], ⟨setsL (l.take (i + 1)), 0, 2 * (i + 1), Arr.rep 10 false⟩) := by
      unfold go
      dsimp only
      rw [hy]
      dsimp only
      rw [if_neg p2, if_neg a1, if_neg a2, if_neg (by rw [p1]; simp), one_plain c _ (by show (setsL (l.take i)).length < 1000; omega)]
      show some ((((setsL (l.take i)).length : Int), [], (⟨setsL (l.take i) ++ [setN (ofS [c])], 0, 2 * i + 1 + 1, Arr.rep 10 false⟩ : Pz)) : Res) = _
      rw [hlen, sets_snoc hc]; rfl
    have hatom : go (escL l) (m + 2) (.atom ⟨setsL (l.take i), 0, 2 * i, Arr.rep 10 false⟩) = some ((i : Int), [], ⟨setsL (l.take (i + 1)), 0, 2 * (i + 1), Arr.rep 10 false⟩) := by
      rw [← hesc, show m + 2 = (m + 1) + 1 from rfl]
      conv => lhs; unfold go
      dsimp only
      rw [hx]
      exact if_pos rfl
    show go (escL l) ((m + 2) + 1) (.piece f ⟨setsL (l.take i), 0, 2 * i, Arr.rep 10 false⟩) = _
    conv => lhs; unfold go
    dsimp only
    rw [(hno hc).1, (hno hc).2, if_neg (by simp), if_neg (by simp), hatom]
    show some (repsR (escL l) ((i : Int), [], (⟨setsL (l.take (i + 1)), 0, 2 * (i + 1), Arr.rep 10 false⟩ : Pz))) = _
    rw [reps_none (by omega) hnext.2 hnext.1]
  have h94 : hasS (escL l) 0 [94] = false := by
    obtain ⟨c, hc⟩ : ∃ c, l[0]? = some c := ⟨l[0]'(by omega), List.getElem?_eq_getElem (by omega)⟩
    have := hdr 0 c hc
    unfold hasS
    rw [this]
    exact decide_eq_false (by simp)
  obtain ⟨q, hq, hq2, _⟩ := run_plain (escL l) (fun i => (⟨setsL (l.take i), 0, 2 * i, Arr.rep 10 false⟩ : Pz)) l l.length rfl h1 rfl h94 (fun i => ⟨rfl, rfl⟩) hA hB (by show 2 * l.length = _; omega) (by omega)
  obtain ⟨C, c1, c2, c3, c4, c5⟩ := hq2 (by omega)
  refine ⟨q.2.2.L, C, ?_, c2, c4, c5⟩
  have := parseB_ok (escL l) (by omega) _ (by omega) q hq
  unfold finB at this
  rw [c1, c3] at this
  exact this
theorem breplain_law (l : List UInt8) : palinodelaw08_BrePlain_R l true := by
  refine split_ (fun _ => ⟨true, bpawake, rfl⟩) fun h => ?_
  have hlen : 1 ≤ l.length ∧ l.length ≤ 60 := by
    simp only [Bool.or_eq_true, decide_eq_true_eq] at h
    omega
  refine loop_ (fun (st : List UInt8 × Int) m => ∃ k : Nat, k ≤ l.length ∧ m = l.length - k ∧ st = (escL (l.take k), (k : Int)) ∧ ∀ c ∈ l.take k, plC c) l.length ⟨0, by omega, rfl, rfl, by simp⟩ ?_
  rintro _ m ⟨k, hk, rfl, rfl, hpl⟩
  show palinodelaw08_BrePlain_l2 l _ (escL (l.take k)) (k : Int) true
  refine split_ (fun h1 => ?_) fun h1 => ?_
  · obtain ⟨c, hc⟩ : ∃ c, l[k]? = some c := ⟨l[k]'(by omega), List.getElem?_eq_getElem (by omega)⟩
    have hz : 0 ≤ (k : Int) := by omega
    have hesc : ∀ ag2 : List UInt8 × Int → Prop, palinodelaw08_BrePlain_j3 (k : Int) l (escL (l.take k)) ag2 true true := fun ag2 => split_ (fun _ => ⟨true, bpawake, rfl⟩) fun h => absurd rfl h
    refine ⟨hz, c, hc, _, Alnum_ok c, split_ (fun _ => hesc _) fun h2 => ⟨hz, c, hc, split_ (fun _ => hesc _) fun h3 => ⟨hz, c, hc, split_ (fun _ => hesc _) fun h4 => ⟨hz, c, hc, ?_⟩⟩⟩⟩
    by_cases h5 : (c.toNat : Int) = 123
    · rw [decide_eq_true h5]; exact hesc _
    · rw [decide_eq_false h5]
      refine split_ (fun h => by cases h) fun _ => ⟨hz, c, hc, room_ ?_ (by omega) (inR_ (by omega) ⟨l.length - (k + 1), by omega, k + 1, by omega, rfl, ?_, ?_⟩)⟩
      · rw [esc_len, List.length_take]; simp; omega
      · rw [esc_snoc hc]; rfl
      · intro x hx
        rw [List.take_add_one, hc] at hx
        rcases List.mem_append.1 hx with hx | hx
        · exact hpl x hx
        · obtain rfl : x = c := by simpa using hx
          exact ⟨by simpa using h2, by omega, by omega, by omega⟩
  · obtain rfl : k = l.length := by omega
    rw [List.take_length] at hpl ⊢
    obtain ⟨L, C, hp, hL, hC, hC2⟩ := plain_parse l hlen.1 hlen.2 hpl
    have hsl : (setsL l).length = l.length := by simp [setsL]
    have hLl : L.length = 2 * l.length - 1 := by rw [hL, List.length_append, hsl]; omega
    refine ⟨_, hp, split_ (fun h => absurd rfl h) fun _ => ⟨in64 (by omega) (by omega), in64 (by omega) (by omega), split_ (fun h => ?_) fun _ => ?_⟩⟩
    · have h : ¬ (L.length : Int) = 2 * (l.length : Int) - 1 := h
      omega
    refine loop_ (fun (st : Int × Int) m => ∃ i : Nat, i ≤ L.length ∧ m = L.length - i ∧ st = (((min i l.length : Nat) : Int), (i : Int))) L.length ⟨0, by omega, rfl, by simp⟩ ?_
    rintro _ m ⟨i, hi, rfl, rfl⟩
    show palinodelaw08_BrePlain_l4 ((L, 0), 0, 0) l _ ((min i l.length : Nat) : Int) (i : Int) true
    refine split_ (fun h2 => ?_) fun h2 => ?_
    · have h2 : (i : Int) < (L.length : Int) := h2
      have hj5 : ∀ z : Int, z = ((min (i + 1) l.length : Nat) : Int) → palinodelaw08_BrePlain_j5 (i : Int) (fun s' => ∃ m', m' < L.length - i ∧ ∃ i : Nat, i ≤ L.length ∧ m' = L.length - i ∧ s' = (((min i l.length : Nat) : Int), (i : Int))) z true := fun z hz => inR_ (by omega) ⟨L.length - (i + 1), by omega, i + 1, by omega, rfl, by rw [hz]; rfl⟩
      by_cases hil : i < l.length
      · obtain ⟨c, hc⟩ : ∃ c, l[i]? = some c := ⟨l[i]'hil, List.getElem?_eq_getElem hil⟩
        have hx : L[i]? = some (setN (ofS [c])) := by
          rw [hL, List.getElem?_append_left (by omega)]
          unfold setsL
          rw [List.getElem?_map, hc]; rfl
        have hmin : min i l.length = i := by omega
        rw [hmin]
        refine ⟨by omega, _, hx, split_ (fun _ => split_ (fun h => by omega) fun _ => ⟨by omega, _, hx, by omega, c, hc, _, One_ok c, split_ (fun h => absurd rfl h) fun _ => inR_ (by omega) (hj5 _ (by omega))⟩) fun h => absurd rfl h⟩
      · obtain ⟨x, hx⟩ : ∃ x, C[i - l.length]? = some x := ⟨C[i - l.length]'(by omega), List.getElem?_eq_getElem (by omega)⟩
        have hx2 : L[i]? = some x := by rw [hL, List.getElem?_append_right (by omega), hsl]; exact hx
        have := hC2 x (List.mem_of_getElem? hx)
        exact ⟨by omega, x, hx2, split_ (fun h => by rw [this] at h; cases h) fun _ => hj5 _ (by omega)⟩
    · have h2 : ¬ (i : Int) < (L.length : Int) := h2
      refine split_ (fun _ => ⟨true, bpawake, rfl⟩) fun h => ?_
      exact absurd (by omega) h
end Go.Proofs.Ytpddiffpanihdaa
