/- Taken over from other chapters' plain texts. -/
import Derived.Test.YtfhakeapepafbaaBrA
import Derived.Test.YtfhakeapepafbaaTrQ
import Derived.Test.YtfhakeapepafbaaEpB
namespace Go.Proofs.Ytfhakeapepafbaa
theorem in_gen (row : ByteArray) (c : UInt8) (r : Bool) (n : Nat) (hs : row.size = 2 * n) (hn : n ≤ 100) (hr : r = true ↔ ∃ k, k < n ∧ ∃ a b, row[2 * k]? = some a ∧ row[2 * k + 1]? = some b ∧ a.toNat ≤ c.toNat ∧ c.toNat ≤ b.toNat) : palinoderef01_In_R row c r := by
  refine loop_ (fun st m => ∃ k : Nat, k ≤ n ∧ m = n - k ∧ st = 2 * (k : Int) ∧ ∀ j, j < k → ∀ a b, row[2 * j]? = some a → row[2 * j + 1]? = some b → ¬ (a.toNat ≤ c.toNat ∧ c.toNat ≤ b.toNat)) n ⟨0, by omega, rfl, rfl, fun j hj => absurd hj (by omega)⟩ ?_
  rintro st m ⟨k, hk, rfl, rfl, hno⟩
  refine inR_ (by omega) (split_ (fun h1 => ?_) fun h1 => ?_)
  · have hx := getElem?_pos row (2 * k) (by show 2 * k < row.size; omega)
    have hy := getElem?_pos row (2 * k + 1) (by show 2 * k + 1 < row.size; omega)
    have e1 : (2 * (k : Int)).toNat = 2 * k := by omega
    have e2 : (2 * (k : Int) + 1).toNat = 2 * k + 1 := by omega
    have go : ¬ ((row[2 * k]'(by show 2 * k < row.size; omega)).toNat ≤ c.toNat ∧ c.toNat ≤ (row[2 * k + 1]'(by show 2 * k + 1 < row.size; omega)).toNat) → palinoderef01_In_j2 (2 * (k : Int)) (fun s' => ∃ m', m' < n - k ∧ ∃ k : Nat, k ≤ n ∧ m' = n - k ∧ s' = 2 * (k : Int) ∧ ∀ j, j < k → ∀ a b, row[2 * j]? = some a → row[2 * j + 1]? = some b → ¬ (a.toNat ≤ c.toNat ∧ c.toNat ≤ b.toNat)) r := by
      intro hn'
      refine inR_ (by omega) ⟨n - (k + 1), by omega, k + 1, by omega, rfl, by omega, ?_⟩
      intro j hj a b ha hb
      by_cases hjk : j = k
      · subst hjk
        rw [hx] at ha; rw [hy] at hb
        rw [← Option.some.inj ha, ← Option.some.inj hb]; exact hn'
      · exact hno j (by omega) a b ha hb
    refine ⟨by omega, _, by rw [e1]; exact hx, split_ (fun h2 => ?_) fun h2 => go (by omega)⟩
    refine inR_ (by omega) ⟨by omega, _, by rw [e2]; exact hy, split_ (fun h3 => ?_) fun h3 => go (by omega)⟩
    exact hr.2 ⟨k, by omega, _, _, hx, hy, by omega, by omega⟩
  · cases r with
    | false => rfl
    | true =>
      obtain ⟨j, hj, a, b, ha, hb, h2⟩ := hr.1 rfl
      exact absurd h2 (hno j (by omega) a b ha hb)
theorem in1 (a b c : UInt8) : palinoderef01_In_R ⟨#[a, b]⟩ c (decide (a.toNat ≤ c.toNat ∧ c.toNat ≤ b.toNat)) := by
  refine in_gen _ _ _ 1 rfl (by omega) ?_
  rw [decide_eq_true_eq]
  constructor
  · intro h; exact ⟨0, by omega, a, b, rfl, rfl, h⟩
  · rintro ⟨k, hk, x, y, hx, hy, h⟩
    obtain rfl : k = 0 := by omega
    obtain rfl : a = x := Option.some.inj hx
    obtain rfl : b = y := Option.some.inj hy
    exact h
theorem in2 (a b a' b' c : UInt8) : palinoderef01_In_R ⟨#[a, b, a', b']⟩ c (decide ((a.toNat ≤ c.toNat ∧ c.toNat ≤ b.toNat) ∨ (a'.toNat ≤ c.toNat ∧ c.toNat ≤ b'.toNat))) := by
  refine in_gen _ _ _ 2 rfl (by omega) ?_
  rw [decide_eq_true_eq]
  constructor
  · rintro (h | h)
    · exact ⟨0, by omega, a, b, rfl, rfl, h⟩
    · exact ⟨1, by omega, a', b', rfl, rfl, h⟩
  · rintro ⟨k, hk, x, y, hx, hy, h⟩
    have hk' : k = 0 ∨ k = 1 := by omega
    rcases hk' with rfl | rfl
    · obtain rfl : a = x := Option.some.inj hx
      obtain rfl : b = y := Option.some.inj hy
      exact .inl h
    · obtain rfl : a' = x := Option.some.inj hx
      obtain rfl : b' = y := Option.some.inj hy
      exact .inr h
theorem in3 (a b a' b' a'' b'' c : UInt8) : palinoderef01_In_R ⟨#[a, b, a', b', a'', b'']⟩ c (decide ((a.toNat ≤ c.toNat ∧ c.toNat ≤ b.toNat) ∨ (a'.toNat ≤ c.toNat ∧ c.toNat ≤ b'.toNat) ∨ (a''.toNat ≤ c.toNat ∧ c.toNat ≤ b''.toNat))) := by
  refine in_gen _ _ _ 3 rfl (by omega) ?_
  rw [decide_eq_true_eq]
  constructor
  · rintro (h | h | h)
    · exact ⟨0, by omega, a, b, rfl, rfl, h⟩
    · exact ⟨1, by omega, a', b', rfl, rfl, h⟩
    · exact ⟨2, by omega, a'', b'', rfl, rfl, h⟩
  · rintro ⟨k, hk, x, y, hx, hy, h⟩
    have hk' : k = 0 ∨ k = 1 ∨ k = 2 := by omega
    rcases hk' with rfl | rfl | rfl
    · obtain rfl : a = x := Option.some.inj hx
      obtain rfl : b = y := Option.some.inj hy
      exact .inl h
    · obtain rfl : a' = x := Option.some.inj hx
      obtain rfl : b' = y := Option.some.inj hy
      exact .inr (.inl h)
    · obtain rfl : a'' = x := Option.some.inj hx
      obtain rfl : b'' = y := Option.some.inj hy
      exact .inr (.inr h)
theorem ris_ok (x : ByteArray) (c : UInt8) : palinoderef01_Is_R x c (isS x c.toNat) := by
  unfold palinoderef01_Is_R isS
  refine ⟨fun h => ?_, fun h => ?_⟩
  · rw [if_pos h]
    exact ⟨_, in1 _ _ _, rfl⟩
  rw [if_neg h]
  refine ⟨fun h => ?_, fun h => ?_⟩
  · rw [if_pos h]
    exact ⟨_, in1 _ _ _, rfl⟩
  rw [if_neg h]
  refine ⟨fun h => ?_, fun h => ?_⟩
  · rw [if_pos h]
    exact ⟨_, in1 _ _ _, rfl⟩
  rw [if_neg h]
  refine ⟨fun h => ?_, fun h => ?_⟩
  · rw [if_pos h]
    exact ⟨_, in2 _ _ _ _ _, rfl⟩
  rw [if_neg h]
  refine ⟨fun h => ?_, fun h => ?_⟩
  · rw [if_pos h]
    exact ⟨_, in3 _ _ _ _ _ _ _, rfl⟩
  rw [if_neg h]
  refine ⟨fun h => ?_, fun h => ?_⟩
  · rw [if_pos h]
    simp only [pair_, decide_eq_decide, decide_eq_true_eq, decide_eq_false_iff_not]
    omega
  rw [if_neg h]
  refine ⟨fun h => ?_, fun h => ?_⟩
  · rw [if_pos h]
    simp only [pair_, decide_eq_decide, decide_eq_true_eq, decide_eq_false_iff_not]
    omega
  rw [if_neg h]
  refine ⟨fun h => ?_, fun h => ?_⟩
  · rw [if_pos h]
    simp only [pair_, decide_eq_decide, decide_eq_true_eq, decide_eq_false_iff_not]
    omega
  rw [if_neg h]
  refine ⟨fun h => ?_, fun h => ?_⟩
  · rw [if_pos h]
    simp only [pair_, decide_eq_decide, decide_eq_true_eq, decide_eq_false_iff_not]
    omega
  rw [if_neg h]
  refine ⟨fun h => ?_, fun h => ?_⟩
  · rw [if_pos h]
    simp only [pair_, decide_eq_decide, decide_eq_true_eq, decide_eq_false_iff_not]
    omega
  rw [if_neg h]
  refine ⟨fun h => ?_, fun h => ?_⟩
  · rw [if_pos h]
    refine ⟨fun h1 => ⟨fun h2 => ⟨_, in3 _ _ _ _ _ _ _, ?_⟩, fun h2 => ?_⟩, fun h1 => ?_⟩
    · rw [pair_, ← decide_not, decide_eq_decide]
      show _ ↔ ¬ ((65 ≤ c.toNat ∧ c.toNat ≤ 90) ∨ (97 ≤ c.toNat ∧ c.toNat ≤ 122) ∨ (48 ≤ c.toNat ∧ c.toNat ≤ 57))
      omega
    · rw [pair_, decide_eq_false_iff_not]; omega
    · rw [pair_, decide_eq_false_iff_not]; omega
  rw [if_neg h]
  refine ⟨fun h => ?_, fun h => ?_⟩
  · rw [if_pos h]
    exact ⟨_, in3 _ _ _ _ _ _ _, rfl⟩
  rw [if_neg h]
theorem mem_not (s : SetT) (c : Nat) (hc : c < 256) : memS (notS s) c = !memS s c := by
  have h1 : c / 64 < s.l.length := by rw [s.len]; omega
  unfold memS notS
  simp only [List.getD_eq_getElem?_getD, List.getElem?_map, List.getElem?_eq_getElem h1, Option.map_some, Option.getD_some, UInt64.toNat_not]
  rw [show UInt64.size - 1 - (s.l[c / 64]).toNat = 2 ^ 64 - ((s.l[c / 64]).toNat + 1) by simp [UInt64.size], Nat.testBit_two_pow_sub_succ (s.l[c / 64]).toNat_lt, decide_eq_true (by omega), Bool.true_and]
theorem big_div (W e : Nat) (hW : W < 18446744073709551616) (he : 64 ≤ e) : W / 2 ^ e = 0 :=
  Nat.div_eq_of_lt (Nat.lt_of_lt_of_le hW (Nat.pow_le_pow_right (by decide) he : 2 ^ 64 ≤ 2 ^ e))
def bitP (f : Arr 256 Bool) (c : Nat) : Bool := f.l.getD c false
/-- The word w of the set, of which the bits under e are still lacking. -/
def RofI (F g : SetT) (n : Nat) : Prop := ∀ w, w < 4 → ∃ y, g.l[w]? = some y ∧ y.toNat = (F.l.getD w 0).toNat / 2 ^ (n - 64 * w)
theorem rofI_step {F f g : SetT} {k : Nat} {c : UInt64} (hk : k < 256) (hI : RofI F f (k + 1)) (hc : c.toNat = (F.l.getD (k / 64) 0).toNat / 2 ^ (k % 64)) (hg : ∀ w : Nat, g.l[w]? = (f.l.set (k / 64) c)[w]?) : RofI F g k := by
  intro w hw
  rw [hg, List.getElem?_set]
  by_cases h : k / 64 = w
  · rw [if_pos h, if_pos (by rw [f.len]; omega)]
    refine ⟨c, rfl, ?_⟩
    rw [hc, h, show k - 64 * w = k % 64 by omega]
  · rw [if_neg h]
    obtain ⟨y, hy, hv⟩ := hI w hw
    refine ⟨y, hy, ?_⟩
    rw [hv]
    rcases (by omega : w < k / 64 ∨ k / 64 < w) with h1 | h1
    · rw [big_div _ _ (UInt64.toNat_lt _) (by omega), big_div _ _ (UInt64.toNat_lt _) (by omega)]
    · rw [show k + 1 - 64 * w = 0 by omega, show k - 64 * w = 0 by omega]
theorem rof_ok (f : Arr 256 Bool) : palinoderef05_Of_R f (pset (bitP f) 256) := by
  generalize hF : pset (bitP f) 256 = F
  have hmem : ∀ d, d < 256 → memS F d = bitP f d := fun d hd => by rw [← hF, mem_pset _ _ _ (by omega) hd, decide_eq_true (by omega), Bool.true_and]
  refine loop_ (fun st m => ∃ n : Nat, n ≤ 256 ∧ m = n ∧ st.1 = (n : Int) - 1 ∧ RofI F st.2 n) 256 ⟨256, by omega, rfl, rfl, fun w hw => ⟨0, ?_, ?_⟩⟩ ?_
  · show (List.replicate 4 (0 : UInt64))[w]? = _
    rw [List.getElem?_replicate, if_pos hw]
  · rw [big_div _ _ (UInt64.toNat_lt _) (by omega)]; rfl
  rintro ⟨i, g⟩ m ⟨n, h1, rfl, h3, hI⟩
  simp only at h3 hI
  subst h3
  show palinoderef05_Of_l1 f _ ((m : Int) - 1) g F
  refine split_ (fun h => ?_) fun h => ?_
  · obtain ⟨k, rfl⟩ : ∃ k, m = k + 1 := ⟨m - 1, by omega⟩
    have hz : ((k + 1 : Nat) : Int) - 1 = (k : Int) := by omega
    have h2 : (k : Int).tdiv 64 = ((k / 64 : Nat) : Int) := td _ 64
    obtain ⟨y, hy, hv⟩ := hI (k / 64) (by omega)
    rw [show k + 1 - 64 * (k / 64) = k % 64 + 1 by omega] at hv
    have hb := hmem k (by omega)
    have hq : (F.l.getD (k / 64) 0).toNat / 2 ^ (k % 64) = 2 * y.toNat + if bitP f k = true then 1 else 0 := by
      rw [← hb, hv, Nat.pow_succ, ← Nat.div_div_eq_div_mul]
      unfold memS
      rw [tb]
      generalize (F.l.getD (k / 64) 0).toNat / 2 ^ (k % 64) = Q
      by_cases h9 : Q % 2 = 1
      · rw [decide_eq_true h9, if_pos rfl]; omega
      · rw [decide_eq_false h9, if_neg (by decide)]; omega
    have hle : (F.l.getD (k / 64) 0).toNat / 2 ^ (k % 64) < 18446744073709551616 := Nat.lt_of_le_of_lt (Nat.div_le_self _ _) (UInt64.toNat_lt _)
    rw [hq] at hle
    rw [hz, h2]
    have hgl := g.len
    refine ⟨by decide, inR_ (by omega) ⟨by decide, inR_ (by omega) ⟨by omega, y, by rw [Int.toNat_natCast]; exact hy, ?_⟩⟩⟩
    refine exU64 (by omega) fun c hc => ⟨by omega, y, by rw [Int.toNat_natCast]; exact hy, atA (by omega) (by omega) fun z hz' => ?_⟩
    rw [Int.toNat_natCast] at hz'
    have hzb : bitP f k = z := by unfold bitP; rw [List.getD_eq_getElem?_getD, hz']; rfl
    rw [hzb] at hq hle
    rw [Int.toNat_natCast]
    refine split_ (fun h6 => ?_) fun h6 => ?_
    · rw [if_pos h6] at hq hle
      have hcs : (Arr.set g (k / 64) c).l[k / 64]? = some c := by
        show (g.l.set (k / 64) c)[k / 64]? = some c
        rw [List.getElem?_set, if_pos rfl, if_pos (by omega)]
      refine ⟨by decide, inR_ (by omega) ⟨by decide, inR_ (by omega) ⟨by omega, c, hcs, exU64 (by omega) fun c2 hc2 => ⟨by omega, c, hcs, ?_⟩⟩⟩⟩
      refine inR_ (by omega) ⟨k, by omega, k, by omega, rfl, rfl, rofI_step (by omega) hI (c := c2) (by rw [hq]; omega) fun w => ?_⟩
      show ((g.l.set (k / 64) c).set (k / 64) c2)[w]? = _
      rw [List.set_set]
    · rw [if_neg h6] at hq hle
      exact inR_ (by omega) ⟨k, by omega, k, by omega, rfl, rfl, rofI_step (by omega) hI (c := c) (by rw [hq]; omega) fun w => rfl⟩
  · obtain rfl : m = 0 := by omega
    apply Arr.ext
    apply List.ext_getElem?
    intro w
    by_cases hw : w < 4
    · obtain ⟨y, hy, hv⟩ := hI w hw
      rw [show 0 - 64 * w = 0 by omega, Nat.pow_zero, Nat.div_one] at hv
      rw [hy]
      have : F.l[w]? = some (F.l.getD w 0) := by
        rw [List.getD_eq_getElem?_getD, List.getElem?_eq_getElem (by rw [F.len]; exact hw)]; rfl
      rw [this, UInt64.toNat_inj.1 hv]
    · rw [List.getElem?_eq_none (by rw [F.len]; omega), List.getElem?_eq_none (by rw [g.len]; omega)]
set_option maxHeartbeats 1000000 in
theorem may_ok (n : ND) (a g : Int) : palinoderef06_may_R n a g (isNodeB n a g) := by
  obtain ⟨k, A, B, lo, hi, gr, s⟩ := n
  unfold palinoderef06_may_R palinoderef06_may_j1 palinoderef06_may_j2 palinoderef06_may_j3 palinoderef06_may_j4 palinoderef06_may_j5 palinoderef06_may_j6
  have hk : k < 0 ∨ 8 < k ∨ k = 0 ∨ k = 1 ∨ k = 2 ∨ k = 3 ∨ k = 4 ∨ k = 5 ∨ k = 6 ∨ k = 7 ∨ k = 8 := by omega
  by_cases hs : s = Arr.rep 4 (0 : UInt64)
  all_goals
    rcases hk with h | h | rfl | rfl | rfl | rfl | rfl | rfl | rfl | rfl | rfl
    · have h' : ¬ 0 ≤ k := by omega
      simp [isNodeB, h, h']
    · have h' : ¬ k ≤ 8 := by omega
      simp [isNodeB, h, h']
    all_goals simp [isNodeB, plainL, partsL, isTimesB, setZ, hs]
    all_goals first | done | skip
    all_goals grind
set_option synthInstance.maxSize 4000 in
theorem refsame_ok (a b : List (Int × Int × Int × Int × Int × Int × (Arr 4 (UInt64)))) (g g' : Int) (hl : a.length ≤ 1000000) : palinoderef06_Same_R (a, g) (b, g') (decide (g = g' ∧ a = b)) := by
  refine split_ (fun h => ?_) fun h0 => split_ (fun h => ?_) fun h => ?_
  · exact decide_eq_false fun e : g = g' ∧ a = b => h e.1
  · exact decide_eq_false fun e : g = g' ∧ a = b => h (by rw [e.2])
  · have hg : g = g' := Decidable.of_not_not h0
    have hlen : a.length = b.length := by simp only at h; omega
    refine loop_ (fun st m => ∃ k : Nat, k ≤ a.length ∧ m = a.length - k ∧ st = (k : Int) ∧ a.take k = b.take k) _ ⟨0, by omega, rfl, rfl, rfl⟩ ?_
    rintro st m ⟨k, hk, rfl, rfl, h2⟩
    refine split_ (fun h3 => ?_) fun h3 => ?_
    · simp only at h3
      refine at_ (by omega) (by simpa using h3) fun x hx => at_ (by omega) (by simp only; omega) fun y hy => ?_
      rw [Int.toNat_natCast] at hx hy
      simp only at hx hy
      refine split_ (fun h4 => ?_) fun h4 => ?_
      · refine decide_eq_false fun e : g = g' ∧ a = b => h4 ?_
        rw [e.2, hy] at hx
        exact (Option.some.inj hx).symm
      · have hxy : x = y := Decidable.of_not_not h4
        refine inR_ (by omega) ⟨a.length - (k + 1), by omega, k + 1, by omega, rfl, by simp, ?_⟩
        rw [List.take_add_one, List.take_add_one, h2, hx, hy, hxy]
    · simp only at h3
      rw [List.take_of_length_le (by omega), List.take_of_length_le (by omega)] at h2
      exact decide_eq_true (p := g = g' ∧ a = b) ⟨hg, h2⟩
theorem One_ok (c : UInt8) : palinoderef08_One_R c (ofS [c]) := by
  have hc := c.toNat_lt
  have h1 : (c.toNat : Int).tdiv 64 = ((c.toNat / 64 : Nat) : Int) := td _ 64
  have h2 : (c.toNat : Int).tmod 64 = ((c.toNat % 64 : Nat) : Int) := tm _ 64
  unfold palinoderef08_One_R
  rw [h1, h2]
  refine ⟨by decide, exU8 (by omega) fun c4 h4 => ⟨by decide, exU8' (by omega) fun c8 h8 => ⟨by omega, ?_⟩⟩⟩
  have hmin : min ((c8.toNat : Int) : Int).toNat IntKind.u64.bits = c.toNat % 64 := by show min _ 64 = _; omega
  have hp : 2 ^ (c.toNat % 64) ≤ 2 ^ 63 := Nat.pow_le_pow_right (by decide) (by omega)
  have hz : (1 : Int) * 2 ^ (c.toNat % 64) = ((2 ^ (c.toNat % 64) : Nat) : Int) := by simp
  rw [hmin, hz]
  show ∃ c7 : UInt64, _ ∧ _ ∧ ∃ y9, _ ∧ withS (Arr.rep 4 0) c.toNat = _
  unfold withS
  generalize hq : 2 ^ (c.toNat % 64) = q at hp
  refine exU64 (by omega) fun c10 h10 => atA (by omega) (by omega) fun y hy => ?_
  rw [show ((c4.toNat : Int) : Int).toNat = c.toNat / 64 by omega] at hy ⊢
  rw [show UInt64.ofNat q = c10 from UInt64.toNat_inj.1 (by rw [UInt64.toNat_ofNat_of_lt' (by simp [UInt64.size]; omega)]; omega)]
  have hg : (Arr.rep 4 (0 : UInt64)).l.getD (c.toNat / 64) 0 = 0 := by
    obtain h | h | h | h : c.toNat / 64 = 0 ∨ c.toNat / 64 = 1 ∨ c.toNat / 64 = 2 ∨ c.toNat / 64 = 3 := by omega
    all_goals rw [h]; rfl
  rw [hg, or_zero]
theorem Alnum_ok (c : UInt8) : palinoderef08_Alnum_R (c.toNat : Int) (alnB c.toNat) := by
  have hcl := c.toNat_lt
  refine split_ (fun _ => exU8 (by omega) fun d hd => ?_) fun h => absurd (by omega) h
  obtain rfl : d = c := u8_inj hd
  exact ⟨_, in3 65 90 97 122 48 57 d, rfl⟩
end Go.Proofs.Ytfhakeapepafbaa
