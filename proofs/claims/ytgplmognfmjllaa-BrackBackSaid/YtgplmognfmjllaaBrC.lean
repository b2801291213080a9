/- Taken over from other chapters' plain texts. -/
import Derived.Test.YtgplmognfmjllaaBrL
import Derived.Test.YtgplmognfmjllaaPop
import Derived.Test.YtgplmognfmjllaaGKL3
namespace Go.Proofs.Ytgplmognfmjllaa
theorem has_ok (s : SetT) (c : UInt8) : class_Has_R s c (memS s c.toNat) := by
  have hc := c.toNat_lt
  have h1 : (c.toNat : Int).tdiv 64 = ((c.toNat / 64 : Nat) : Int) := td _ 64
  have h2 : (c.toNat : Int).tmod 64 = ((c.toNat % 64 : Nat) : Int) := tm _ 64
  unfold class_Has_R
  rw [h1, h2]
  refine ⟨by decide, exU8 (by omega) fun c4 h4 => atA (by omega) (by omega) fun y hy => ⟨by decide, exU8' (by omega) fun c8 h8 => ⟨by omega, ?_⟩⟩⟩
  have hmin : min ((c8.toNat : Int) : Int).toNat IntKind.u64.bits = c.toNat % 64 := by show min _ 64 = _; omega
  have hyl := y.toNat_lt
  have hle : y.toNat / 2 ^ (c.toNat % 64) ≤ y.toNat := Nat.div_le_self _ _
  rw [hmin, fdp]
  rw [show ((c4.toNat : Int) : Int).toNat = c.toNat / 64 by omega] at hy
  rw [mem_at hy]
  generalize y.toNat / 2 ^ (c.toNat % 64) = q at hle
  refine exU64' (by omega) fun c10 h10 => exAnd (b := 1) ?_
  rw [ decide_eq_decide, UInt64.toNat_and, show (1 : UInt64).toNat = 1 from rfl, Nat.and_one_is_mod]
  omega
/-- A set's bytes, rising. -/
def upTo (s : SetT) (k : Nat) : List UInt8 := ((List.range k).filter (memS s)).map UInt8.ofNat
theorem upTo_succ (s : SetT) (k : Nat) : upTo s (k + 1) = upTo s k ++ (if memS s k = true then [UInt8.ofNat k] else []) := by
  unfold upTo
  rw [List.range_succ, List.filter_append, List.map_append]
  congr 1
  by_cases h : memS s k = true <;> simp [h]
theorem upTo_len (s : SetT) (k : Nat) : (upTo s k).length ≤ k := by
  unfold upTo
  rw [List.length_map]
  exact Nat.le_trans (List.length_filter_le _ _) (by simp)
theorem bytes_ok (s : SetT) : class_Bytes_R s (upTo s 256) := by
  refine loop_ (fun st m => ∃ k, k ≤ 256 ∧ m = 256 - k ∧ st.2 = (k : Int) ∧ st.1 = upTo s k) _ ⟨0, by omega, rfl, rfl, rfl⟩ ?_
  rintro ⟨o, x⟩ m ⟨k, hk, rfl, h1, h2⟩
  simp only at h1 h2
  subst h1; subst h2
  have hl := upTo_len s k
  show class_Bytes_l1 s _ (upTo s k) (k : Int) _
  refine split_ (fun h3 => ?_) fun h3 => ?_
  · have hn := upTo_succ s k
    refine exU8 (by omega) fun c hc => ⟨_, has_ok _ _, split_ (fun h4 => ?_) fun h4 => ?_⟩
    · rw [show c.toNat = k by omega] at h4
      refine exU8 (by omega) fun c' hc' => room_ (by simp; omega) (by omega) (inR_ (by omega) ⟨256 - (k + 1), by omega, k + 1, by omega, rfl, by simp, ?_⟩)
      show upTo s k ++ [c'] = _
      rw [hn, if_pos h4, show UInt8.ofNat k = c' from UInt8.toNat_inj.1 (by rw [UInt8.toNat_ofNat_of_lt' (by simp [UInt8.size]; omega)]; omega)]
    · rw [show c.toNat = k by omega] at h4
      refine inR_ (by omega) ⟨256 - (k + 1), by omega, k + 1, by omega, rfl, by simp, ?_⟩
      show upTo s k = _
      rw [hn, if_neg h4, List.append_nil]
  · obtain rfl : k = 256 := by omega
    rfl
theorem exAndI {a : UInt64} {z : Int} (b : UInt64) {P : UInt64 → Prop} (hz : z = (b.toNat : Int)) (k : ∀ c : UInt64, c.toNat = a.toNat &&& b.toNat → P c) : ∃ c : UInt64, (c.toNat : Int) = IntKind.u64.wrap (BitVec.ofInt IntKind.u64.bits (a.toNat : Int) &&& BitVec.ofInt IntKind.u64.bits z).toNat ∧ P c := by
  subst hz
  exact exAnd (k _ (UInt64.toNat_and _ _))
theorem exShr {a : UInt64} {z : Int} (j : Nat) {P : UInt64 → Prop} (hz : z = (j : Int)) (hj : j ≤ 64) (k : ∀ c : UInt64, c.toNat = a.toNat / 2 ^ j → P c) : (0 : Int) ≤ z ∧ ∃ c : UInt64, (c.toNat : Int) = ((a.toNat : Int) : Int).fdiv (2 ^ (min (z : Int).toNat IntKind.u64.bits)) ∧ P c := by
  subst hz
  have hm : min ((j : Int) : Int).toNat IntKind.u64.bits = j := by show min _ 64 = _; omega
  rw [hm, fdp]
  have h1 := a.toNat_lt
  have h2 : a.toNat / 2 ^ j ≤ a.toNat := Nat.div_le_self _ _
  generalize a.toNat / 2 ^ j = q at h2 k
  exact ⟨by omega, exU64' (by omega) fun c hc => k c (by omega)⟩
theorem exSum {a b : UInt64} {P : UInt64 → Prop} (h : a.toNat + b.toNat < 18446744073709551616) (k : ∀ c : UInt64, c.toNat = a.toNat + b.toNat → P c) : ∃ c : UInt64, (c.toNat : Int) = IntKind.u64.wrap ((a.toNat : Int) + (b.toNat : Int)) ∧ P c :=
  exU64 (by omega) fun c hc => k c (by omega)
theorem ones_ok (w : UInt64) : math_bits_OnesCount64_R w (popW w.toNat : Nat) := by
  obtain ⟨x, hx⟩ : ∃ x, x = w.toNat := ⟨_, rfl⟩
  obtain ⟨y1, h1⟩ : ∃ y, y = ((x / 2) &&& 6148914691236517205) + (x &&& 6148914691236517205) := ⟨_, rfl⟩
  obtain ⟨y2, h2⟩ : ∃ y, y = ((y1 / 4) &&& 3689348814741910323) + (y1 &&& 3689348814741910323) := ⟨_, rfl⟩
  obtain ⟨y3, h3⟩ : ∃ y, y = (y2 / 16 + y2) &&& 1085102592571150095 := ⟨_, rfl⟩
  obtain ⟨y4, h4⟩ : ∃ y, y = y3 + y3 / 256 := ⟨_, rfl⟩
  obtain ⟨y5, h5⟩ : ∃ y, y = y4 + y4 / 65536 := ⟨_, rfl⟩
  obtain ⟨y6, h6⟩ : ∃ y, y = y5 + y5 / 4294967296 := ⟨_, rfl⟩
  obtain ⟨g1, g2, g3, g4, g5, g6, g7, g8⟩ := pop_steps (by rw [hx]; exact w.toNat_lt) h1 h2 h3 h4 h5 h6
  have n1 : (6148914691236517205 : UInt64).toNat = 6148914691236517205 := by decide +kernel
  have n2 : (3689348814741910323 : UInt64).toNat = 3689348814741910323 := by decide +kernel
  have n3 : (1085102592571150095 : UInt64).toNat = 1085102592571150095 := by decide +kernel
  unfold math_bits_OnesCount64_R
  refine exShr 1 rfl (by decide) fun c3 k3 => exAndI 6148914691236517205 (by decide +kernel) fun c5 k5 => exAndI 6148914691236517205 (by decide +kernel) fun c7 k7 => ?_
  have q1 : c5.toNat + c7.toNat = y1 := by rw [h1, k5, k7, k3, hx, n1, Nat.pow_one]
  refine exSum (by omega) fun c9 k9 => ?_
  refine exShr 2 rfl (by decide) fun c11 k11 => exAndI 3689348814741910323 (by decide +kernel) fun c13 k13 => exAndI 3689348814741910323 (by decide +kernel) fun c15 k15 => ?_
  have q2 : c13.toNat + c15.toNat = y2 := by rw [h2, k13, k15, k11, k9, q1, n2]
  refine exSum (by omega) fun c17 k17 => ?_
  refine exShr 4 rfl (by decide) fun c19 k19 => ?_
  have q3 : c19.toNat + c17.toNat = y2 / 16 + y2 := by rw [k19, k17, q2]
  refine exSum (by omega) fun c21 k21 => exAndI 1085102592571150095 (by decide +kernel) fun c23 k23 => ?_
  have q4 : c23.toNat = y3 := by rw [h3, k23, k21, q3, n3]
  refine exShr 8 rfl (by decide) fun c25 k25 => ?_
  have q5 : c23.toNat + c25.toNat = y4 := by rw [h4, k25, q4]
  refine exSum (by omega) fun c27 k27 => exShr 16 rfl (by decide) fun c29 k29 => ?_
  have q6 : c27.toNat + c29.toNat = y5 := by rw [h5, k29, k27, q5]
  refine exSum (by omega) fun c31 k31 => exShr 32 rfl (by decide) fun c33 k33 => ?_
  have q7 : c31.toNat + c33.toNat = y6 := by rw [h6, k33, k31, q6]
  refine exSum (by omega) fun c35 k35 => exZ ?_
  have e35 : c35.toNat = y6 := by rw [k35, q7]
  have hlt : y6 &&& 127 ≤ 127 := Nat.and_le_right
  refine exZ ?_
  have e1 : (BitVec.ofInt IntKind.i64.bits (IntKind.i64.wrap (c35.toNat : Int)) &&& BitVec.ofInt IntKind.i64.bits 127).toNat = y6 &&& 127 := by
    have e2 : BitVec.ofInt IntKind.i64.bits (IntKind.i64.wrap (c35.toNat : Int)) = BitVec.ofNat 64 y6 := by
      rw [IntWalk.i64_in _ (by omega), e35]
      exact BitVec.ofInt_natCast _ _
    rw [e2]
    show (BitVec.ofNat 64 y6 &&& BitVec.ofInt 64 127).toNat = _
    rw [BitVec.toNat_and, BitVec.toNat_ofNat, Nat.mod_eq_of_lt (by omega)]
    rfl
  rw [e1, IntWalk.i64_in _ (by omega), g1, hx]
/-- The word's bytes, bit by bit. -/
def wordS (s : SetT) (i : Nat) : Nat := (s.l.getD i 0).toNat
def byteS (s : SetT) (q : Nat) : Nat := wordS s (q / 8) / 2 ^ (8 * (q % 8)) % 256
theorem mem_byte (s : SetT) (q j : Nat) (hj : j < 8) : memS s (8 * q + j) = decide (byteS s q / 2 ^ j % 2 = 1) := by
  unfold memS byteS wordS
  rw [← tb, show (256 : Nat) = 2 ^ 8 from rfl, Nat.testBit_mod_two_pow, decide_eq_true hj, Bool.true_and, Nat.testBit_div_two_pow, show (8 * q + j) / 64 = q / 8 by omega, show (8 * q + j) % 64 = j + 8 * (q % 8) by omega]
  try (rw [Nat.add_comm])
theorem cnt_succ (s : SetT) (q j : Nat) (hj : j < 8) : (upTo s (8 * q + j + 1)).length = (upTo s (8 * q + j)).length + byteS s q / 2 ^ j % 2 := by
  rw [upTo_succ, List.length_append, mem_byte s q j hj]
  congr 1
  have : byteS s q / 2 ^ j % 2 < 2 := Nat.mod_lt _ (by decide)
  by_cases h : byteS s q / 2 ^ j % 2 = 1
  · rw [if_pos (decide_eq_true h), h]; rfl
  · rw [if_neg (by rw [decide_eq_false h]; decide)]
    simp only [List.length_nil]; omega
theorem eight1 {x0 x1 x2 x3 x4 x5 x6 x7 x8 t0 t1 t2 t3 t4 t5 t6 t7 p : Nat} (h0 : x1 = x0 + t0) (h1 : x2 = x1 + t1) (h2 : x3 = x2 + t2) (h3 : x4 = x3 + t3) (h4 : x5 = x4 + t4) (h5 : x6 = x5 + t5) (h6 : x7 = x6 + t6) (h7 : x8 = x7 + t7) (hp : p = t0 + t1 + t2 + t3 + t4 + t5 + t6 + t7) : x8 = x0 + p := by omega
theorem pcB_pow (b : Nat) (hb : b < 256) : pcB b = b / 2 ^ 0 % 2 + b / 2 ^ 1 % 2 + b / 2 ^ 2 % 2 + b / 2 ^ 3 % 2 + b / 2 ^ 4 % 2 + b / 2 ^ 5 % 2 + b / 2 ^ 6 % 2 + b / 2 ^ 7 % 2 := by
  simp only [Nat.reducePow, Nat.div_one]
  exact pcB_bits ⟨b, hb⟩
theorem eight {f : Nat → Nat} {q b : Nat} (hb : b < 256) (h : ∀ j, j < 8 → f (8 * q + j + 1) = f (8 * q + j) + b / 2 ^ j % 2) : f (8 * q + 8) = f (8 * q) + pcB b :=
  eight1 (h 0 (by decide)) (h 1 (by decide)) (h 2 (by decide)) (h 3 (by decide)) (h 4 (by decide)) (h 5 (by decide)) (h 6 (by decide)) (h 7 (by decide)) (pcB_pow b hb)
theorem eights {f g : Nat → Nat} {k : Nat} (h : ∀ j, j < 8 → f (64 * k + 8 * (j + 1)) = f (64 * k + 8 * j) + g j) : f (64 * (k + 1)) = f (64 * k) + (g 0 + (g 1 + (g 2 + (g 3 + (g 4 + (g 5 + (g 6 + (g 7 + 0)))))))) := by
  have h0 := h 0 (by decide); have h1 := h 1 (by decide); have h2 := h 2 (by decide); have h3 := h 3 (by decide)
  have h4 := h 4 (by decide); have h5 := h 5 (by decide); have h6 := h 6 (by decide); have h7 := h 7 (by decide)
  simp only [Nat.reduceMul, Nat.reduceAdd, Nat.add_zero] at h0 h1 h2 h3 h4 h5 h6 h7
  rw [show 64 * (k + 1) = 64 * k + 64 by omega, h7, h6, h5, h4, h3, h2, h1, h0]
  simp only [Nat.add_assoc, Nat.add_zero]
theorem cnt_byte (s : SetT) (q : Nat) : (upTo s (8 * (q + 1))).length = (upTo s (8 * q)).length + pcB (byteS s q) :=
  eight (f := fun n => (upTo s n).length) (Nat.mod_lt _ (by decide)) fun j hj => cnt_succ s q j hj
theorem popW_eq (x : Nat) : popW x = pcB (x / 2 ^ (8 * 0) % 256) + (pcB (x / 2 ^ (8 * 1) % 256) + (pcB (x / 2 ^ (8 * 2) % 256) + (pcB (x / 2 ^ (8 * 3) % 256) + (pcB (x / 2 ^ (8 * 4) % 256) + (pcB (x / 2 ^ (8 * 5) % 256) + (pcB (x / 2 ^ (8 * 6) % 256) + (pcB (x / 2 ^ (8 * 7) % 256) + 0))))))) := by
  simp only [Nat.reduceMul, Nat.reducePow, Nat.div_one, popW, bytesW, List.map_cons, List.map_nil, List.sum_cons, List.sum_nil]
theorem cnt_word (s : SetT) (k : Nat) : (upTo s (64 * (k + 1))).length = (upTo s (64 * k)).length + popW (wordS s k) := by
  rw [popW_eq]
  refine eights (f := fun n => (upTo s n).length) (g := fun j => pcB (wordS s k / 2 ^ (8 * j) % 256)) fun j hj => ?_
  have := cnt_byte s (8 * k + j)
  unfold byteS at this
  rw [show (8 * k + j) / 8 = k by omega, show (8 * k + j) % 8 = j by omega, show 8 * (8 * k + j + 1) = 64 * k + 8 * (j + 1) by omega, show 8 * (8 * k + j) = 64 * k + 8 * j by omega] at this
  exact this
theorem count_ok (s : SetT) : class_Count_R s ((upTo s 256).length : Nat) := by
  refine loop_ (fun st m => ∃ k, k ≤ 4 ∧ m = 4 - k ∧ st.1 = ((upTo s (64 * k)).length : Int) ∧ st.2 = (k : Int)) 4 ⟨0, by omega, rfl, rfl, rfl⟩ ?_
  rintro ⟨n, i⟩ m ⟨k, hk, rfl, h1, h2⟩
  simp only at h1 h2
  subst h1; subst h2
  show class_Count_l1 s _ ((upTo s (64 * k)).length : Int) (k : Int) _
  have hl := upTo_len s (64 * k)
  refine split_ (fun h3 => ?_) fun h3 => ?_
  · refine atA (by omega) (by omega) fun y hy => ⟨_, ones_ok y, ?_⟩
    rw [Int.toNat_natCast] at hy
    have hw : wordS s k = y.toNat := by unfold wordS; rw [List.getD_eq_getElem?_getD, hy]; rfl
    have hc := cnt_word s k
    have hl2 := upTo_len s (64 * (k + 1))
    rw [hw] at hc
    exact inR_ (by omega) (inR_ (by omega) ⟨4 - (k + 1), by omega, k + 1, by omega, rfl, by show _ = _; simp only; rw [hc]; simp, by simp⟩)
  · obtain rfl : k = 4 := by omega
    rfl
theorem mem_not (s : SetT) (c : Nat) (hc : c < 256) : memS (notS s) c = !memS s c := by
  have h1 : c / 64 < s.l.length := by rw [s.len]; omega
  unfold memS notS
  simp only [List.getD_eq_getElem?_getD, List.getElem?_map, List.getElem?_eq_getElem h1, Option.map_some, Option.getD_some, UInt64.toNat_not]
  rw [show UInt64.size - 1 - (s.l[c / 64]).toNat = 2 ^ 64 - ((s.l[c / 64]).toNat + 1) by simp [UInt64.size], Nat.testBit_two_pow_sub_succ (s.l[c / 64]).toNat_lt, decide_eq_true (by omega), Bool.true_and]
theorem not_not_ (s : SetT) : notS (notS s) = s := by
  apply set_ext
  intro c hc
  rw [mem_not _ _ hc, mem_not _ _ hc, Bool.not_not]
theorem cnt_not (s : SetT) (k : Nat) (hk : k ≤ 256) : (upTo (notS s) k).length + (upTo s k).length = k := by
  induction k with
  | zero => rfl
  | succ k ih =>
    have := ih (by omega)
    rw [upTo_succ, upTo_succ, List.length_append, List.length_append, mem_not _ _ (by omega)]
    cases memS s k <;> simp <;> omega
theorem big_div (W e : Nat) (hW : W < 18446744073709551616) (he : 64 ≤ e) : W / 2 ^ e = 0 :=
  Nat.div_eq_of_lt (Nat.lt_of_lt_of_le hW (Nat.pow_le_pow_right (by decide) he : 2 ^ 64 ≤ 2 ^ e))
def bitP (f : Arr 256 Bool) (c : Nat) : Bool := f.l.getD c false
/-- The word w of the set, of which the bits under e are still lacking. -/
def RofI (F g : SetT) (n : Nat) : Prop := ∀ w, w < 4 → ∃ y, g.l[w]? = some y ∧ y.toNat = (F.l.getD w 0).toNat / 2 ^ (n - 64 * w)
theorem rofI_step {F f g : SetT} {k : Nat} {c : UInt64} (hk : k < 256) (hI : RofI F f (k + 1)) (hc : c.toNat = (F.l.getD (k / 64) 0).toNat / 2 ^ (k % 64)) (hg : ∀ w : Nat, g.l[w]? = (f.l.set (k / 64) c)[w]?) : RofI F g k := by
  intro w hw
  rw [hg, List.getElem?_set]
  by_cases h : k / 64 = w
  · rw [if_pos h, if_pos (by rw [f.len]; omega)]
    refine ⟨c, rfl, ?_⟩
    rw [hc, h, show k - 64 * w = k % 64 by omega]
  · rw [if_neg h]
    obtain ⟨y, hy, hv⟩ := hI w hw
    refine ⟨y, hy, ?_⟩
    rw [hv]
    rcases (by omega : w < k / 64 ∨ k / 64 < w) with h1 | h1
    · rw [big_div _ _ (UInt64.toNat_lt _) (by omega), big_div _ _ (UInt64.toNat_lt _) (by omega)]
    · rw [show k + 1 - 64 * w = 0 by omega, show k - 64 * w = 0 by omega]
theorem rof_ok (f : Arr 256 Bool) : palinoderef05_Of_R f (pset (bitP f) 256) := by
  generalize hF : pset (bitP f) 256 = F
  have hmem : ∀ d, d < 256 → memS F d = bitP f d := fun d hd => by rw [← hF, mem_pset _ _ _ (by omega) hd, decide_eq_true (by omega), Bool.true_and]
  refine loop_ (fun st m => ∃ n : Nat, n ≤ 256 ∧ m = n ∧ st.1 = (n : Int) - 1 ∧ RofI F st.2 n) 256 ⟨256, by omega, rfl, rfl, fun w hw => ⟨0, ?_, ?_⟩⟩ ?_
  · show (List.replicate 4 (0 : UInt64))[w]? = _
    rw [List.getElem?_replicate, if_pos hw]
  · rw [big_div _ _ (UInt64.toNat_lt _) (by omega)]; rfl
  rintro ⟨i, g⟩ m ⟨n, h1, rfl, h3, hI⟩
  simp only at h3 hI
  subst h3
  show palinoderef05_Of_l1 f _ ((m : Int) - 1) g F
  refine split_ (fun h => ?_) fun h => ?_
  · obtain ⟨k, rfl⟩ : ∃ k, m = k + 1 := ⟨m - 1, by omega⟩
    have hz : ((k + 1 : Nat) : Int) - 1 = (k : Int) := by omega
    have h2 : (k : Int).tdiv 64 = ((k / 64 : Nat) : Int) := td _ 64
    obtain ⟨y, hy, hv⟩ := hI (k / 64) (by omega)
    rw [show k + 1 - 64 * (k / 64) = k % 64 + 1 by omega] at hv
    have hb := hmem k (by omega)
    have hq : (F.l.getD (k / 64) 0).toNat / 2 ^ (k % 64) = 2 * y.toNat + if bitP f k = true then 1 else 0 := by
      rw [← hb, hv, Nat.pow_succ, ← Nat.div_div_eq_div_mul]
      unfold memS
      rw [tb]
      generalize (F.l.getD (k / 64) 0).toNat / 2 ^ (k % 64) = Q
      by_cases h9 : Q % 2 = 1
      · rw [decide_eq_true h9, if_pos rfl]; omega
      · rw [decide_eq_false h9, if_neg (by decide)]; omega
    have hle : (F.l.getD (k / 64) 0).toNat / 2 ^ (k % 64) < 18446744073709551616 := Nat.lt_of_le_of_lt (Nat.div_le_self _ _) (UInt64.toNat_lt _)
    rw [hq] at hle
    rw [hz, h2]
    have hgl := g.len
    refine ⟨by decide, inR_ (by omega) ⟨by decide, inR_ (by omega) ⟨by omega, y, by rw [Int.toNat_natCast]; exact hy, ?_⟩⟩⟩
    refine exU64 (by omega) fun c hc => ⟨by omega, y, by rw [Int.toNat_natCast]; exact hy, atA (by omega) (by omega) fun z hz' => ?_⟩
    rw [Int.toNat_natCast] at hz'
    have hzb : bitP f k = z := by unfold bitP; rw [List.getD_eq_getElem?_getD, hz']; rfl
    rw [hzb] at hq hle
    rw [Int.toNat_natCast]
    refine split_ (fun h6 => ?_) fun h6 => ?_
    · rw [if_pos h6] at hq hle
      have hcs : (Arr.set g (k / 64) c).l[k / 64]? = some c := by
        show (g.l.set (k / 64) c)[k / 64]? = some c
        rw [List.getElem?_set, if_pos rfl, if_pos (by omega)]
      refine ⟨by decide, inR_ (by omega) ⟨by decide, inR_ (by omega) ⟨by omega, c, hcs, exU64 (by omega) fun c2 hc2 => ⟨by omega, c, hcs, ?_⟩⟩⟩⟩
      refine inR_ (by omega) ⟨k, by omega, k, by omega, rfl, rfl, rofI_step (by omega) hI (c := c2) (by rw [hq]; omega) fun w => ?_⟩
      show ((g.l.set (k / 64) c).set (k / 64) c2)[w]? = _
      rw [List.set_set]
    · rw [if_neg h6] at hq hle
      exact inR_ (by omega) ⟨k, by omega, k, by omega, rfl, rfl, rofI_step (by omega) hI (c := c) (by rw [hq]; omega) fun w => rfl⟩
  · obtain rfl : m = 0 := by omega
    apply Arr.ext
    apply List.ext_getElem?
    intro w
    by_cases hw : w < 4
    · obtain ⟨y, hy, hv⟩ := hI w hw
      rw [show 0 - 64 * w = 0 by omega, Nat.pow_zero, Nat.div_one] at hv
      rw [hy]
      have : F.l[w]? = some (F.l.getD w 0) := by
        rw [List.getD_eq_getElem?_getD, List.getElem?_eq_getElem (by rw [F.len]; exact hw)]; rfl
      rw [this, UInt64.toNat_inj.1 hv]
    · rw [List.getElem?_eq_none (by rw [F.len]; omega), List.getElem?_eq_none (by rw [g.len]; omega)]
end Go.Proofs.Ytgplmognfmjllaa
