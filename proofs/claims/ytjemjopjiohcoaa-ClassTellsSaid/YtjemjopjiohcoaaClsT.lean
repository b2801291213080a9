/- The law ClassTells, plain. -/
import Derived.Test.YtjemjopjiohcoaaClsB
import Derived.Test.YtjemjopjiohcoaaPop
import Derived.Test.YtjemjopjiohcoaaGKL1
namespace Go.Proofs.Ytjemjopjiohcoaa
theorem exAndI {a : UInt64} {z : Int} (b : UInt64) {P : UInt64 → Prop} (hz : z = (b.toNat : Int)) (k : ∀ c : UInt64, c.toNat = a.toNat &&& b.toNat → P c) : ∃ c : UInt64, (c.toNat : Int) = IntKind.u64.wrap (BitVec.ofInt IntKind.u64.bits (a.toNat : Int) &&& BitVec.ofInt IntKind.u64.bits z).toNat ∧ P c := by
  subst hz
  exact exAnd (k _ (UInt64.toNat_and _ _))
theorem exShr {a : UInt64} {z : Int} (j : Nat) {P : UInt64 → Prop} (hz : z = (j : Int)) (hj : j ≤ 64) (k : ∀ c : UInt64, c.toNat = a.toNat / 2 ^ j → P c) : (0 : Int) ≤ z ∧ ∃ c : UInt64, (c.toNat : Int) = ((a.toNat : Int) : Int).fdiv (2 ^ (min (z : Int).toNat IntKind.u64.bits)) ∧ P c := by
  subst hz
  have hm : min ((j : Int) : Int).toNat IntKind.u64.bits = j := by show min _ 64 = _; omega
  rw [hm, fdp]
  have h1 := a.toNat_lt
  have h2 : a.toNat / 2 ^ j ≤ a.toNat := Nat.div_le_self _ _
  generalize a.toNat / 2 ^ j = q at h2 k
  exact ⟨by omega, exU64' (by omega) fun c hc => k c (by omega)⟩
theorem exSum {a b : UInt64} {P : UInt64 → Prop} (h : a.toNat + b.toNat < 18446744073709551616) (k : ∀ c : UInt64, c.toNat = a.toNat + b.toNat → P c) : ∃ c : UInt64, (c.toNat : Int) = IntKind.u64.wrap ((a.toNat : Int) + (b.toNat : Int)) ∧ P c :=
  exU64 (by omega) fun c hc => k c (by omega)
theorem ones_ok (w : UInt64) : math_bits_OnesCount64_R w (popW w.toNat : Nat) := by
  obtain ⟨x, hx⟩ : ∃ x, x = w.toNat := ⟨_, rfl⟩
  obtain ⟨y1, h1⟩ : ∃ y, y = ((x / 2) &&& 6148914691236517205) + (x &&& 6148914691236517205) := ⟨_, rfl⟩
  obtain ⟨y2, h2⟩ : ∃ y, y = ((y1 / 4) &&& 3689348814741910323) + (y1 &&& 3689348814741910323) := ⟨_, rfl⟩
  obtain ⟨y3, h3⟩ : ∃ y, y = (y2 / 16 + y2) &&& 1085102592571150095 := ⟨_, rfl⟩
  obtain ⟨y4, h4⟩ : ∃ y, y = y3 + y3 / 256 := ⟨_, rfl⟩
  obtain ⟨y5, h5⟩ : ∃ y, y = y4 + y4 / 65536 := ⟨_, rfl⟩
  obtain ⟨y6, h6⟩ : ∃ y, y = y5 + y5 / 4294967296 := ⟨_, rfl⟩
  obtain ⟨g1, g2, g3, g4, g5, g6, g7, g8⟩ := pop_steps (by rw [hx]; exact w.toNat_lt) h1 h2 h3 h4 h5 h6
  have n1 : (6148914691236517205 : UInt64).toNat = 6148914691236517205 := by decide +kernel
  have n2 : (3689348814741910323 : UInt64).toNat = 3689348814741910323 := by decide +kernel
  have n3 : (1085102592571150095 : UInt64).toNat = 1085102592571150095 := by decide +kernel
  unfold math_bits_OnesCount64_R
  refine exShr 1 rfl (by decide) fun c3 k3 => exAndI 6148914691236517205 (by decide +kernel) fun c5 k5 => exAndI 6148914691236517205 (by decide +kernel) fun c7 k7 => ?_
  have q1 : c5.toNat + c7.toNat = y1 := by rw [h1, k5, k7, k3, hx, n1, Nat.pow_one]
  refine exSum (by omega) fun c9 k9 => ?_
  refine exShr 2 rfl (by decide) fun c11 k11 => exAndI 3689348814741910323 (by decide +kernel) fun c13 k13 => exAndI 3689348814741910323 (by decide +kernel) fun c15 k15 => ?_
  have q2 : c13.toNat + c15.toNat = y2 := by rw [h2, k13, k15, k11, k9, q1, n2]
  refine exSum (by omega) fun c17 k17 => ?_
  refine exShr 4 rfl (by decide) fun c19 k19 => ?_
  have q3 : c19.toNat + c17.toNat = y2 / 16 + y2 := by rw [k19, k17, q2]
  refine exSum (by omega) fun c21 k21 => exAndI 1085102592571150095 (by decide +kernel) fun c23 k23 => ?_
  have q4 : c23.toNat = y3 := by rw [h3, k23, k21, q3, n3]
  refine exShr 8 rfl (by decide) fun c25 k25 => ?_
  have q5 : c23.toNat + c25.toNat = y4 := by rw [h4, k25, q4]
  refine exSum (by omega) fun c27 k27 => exShr 16 rfl (by decide) fun c29 k29 => ?_
  have q6 : c27.toNat + c29.toNat = y5 := by rw [h5, k29, k27, q5]
  refine exSum (by omega) fun c31 k31 => exShr 32 rfl (by decide) fun c33 k33 => ?_
  have q7 : c31.toNat + c33.toNat = y6 := by rw [h6, k33, k31, q6]
  refine exSum (by omega) fun c35 k35 => exZ ?_
  have e35 : c35.toNat = y6 := by rw [k35, q7]
  have hlt : y6 &&& 127 ≤ 127 := Nat.and_le_right
  refine exZ ?_
  have e1 : (BitVec.ofInt IntKind.i64.bits (IntKind.i64.wrap (c35.toNat : Int)) &&& BitVec.ofInt IntKind.i64.bits 127).toNat = y6 &&& 127 := by
    have e2 : BitVec.ofInt IntKind.i64.bits (IntKind.i64.wrap (c35.toNat : Int)) = BitVec.ofNat 64 y6 := by
      rw [IntWalk.i64_in _ (by omega), e35]
      exact BitVec.ofInt_natCast _ _
    rw [e2]
    show (BitVec.ofNat 64 y6 &&& BitVec.ofInt 64 127).toNat = _
    rw [BitVec.toNat_and, BitVec.toNat_ofNat, Nat.mod_eq_of_lt (by omega)]
    rfl
  rw [e1, IntWalk.i64_in _ (by omega), g1, hx]
/-- The word's bytes, bit by bit. -/
def wordS (s : SetT) (i : Nat) : Nat := (s.l.getD i 0).toNat
def byteS (s : SetT) (q : Nat) : Nat := wordS s (q / 8) / 2 ^ (8 * (q % 8)) % 256
theorem mem_byte (s : SetT) (q j : Nat) (hj : j < 8) : memS s (8 * q + j) = decide (byteS s q / 2 ^ j % 2 = 1) := by
  unfold memS byteS wordS
  rw [← tb, show (256 : Nat) = 2 ^ 8 from rfl, Nat.testBit_mod_two_pow, decide_eq_true hj, Bool.true_and, Nat.testBit_div_two_pow, show (8 * q + j) / 64 = q / 8 by omega, show (8 * q + j) % 64 = j + 8 * (q % 8) by omega]
  try (rw [Nat.add_comm])
theorem cnt_succ (s : SetT) (q j : Nat) (hj : j < 8) : (upTo s (8 * q + j + 1)).length = (upTo s (8 * q + j)).length + byteS s q / 2 ^ j % 2 := by
  rw [upTo_succ, List.length_append, mem_byte s q j hj]
  congr 1
  have : byteS s q / 2 ^ j % 2 < 2 := Nat.mod_lt _ (by decide)
  by_cases h : byteS s q / 2 ^ j % 2 = 1
  · rw [if_pos (decide_eq_true h), h]; rfl
  · rw [if_neg (by rw [decide_eq_false h]; decide)]
    simp only [List.length_nil]; omega
theorem eight1 {x0 x1 x2 x3 x4 x5 x6 x7 x8 t0 t1 t2 t3 t4 t5 t6 t7 p : Nat} (h0 : x1 = x0 + t0) (h1 : x2 = x1 + t1) (h2 : x3 = x2 + t2) (h3 : x4 = x3 + t3) (h4 : x5 = x4 + t4) (h5 : x6 = x5 + t5) (h6 : x7 = x6 + t6) (h7 : x8 = x7 + t7) (hp : p = t0 + t1 + t2 + t3 + t4 + t5 + t6 + t7) : x8 = x0 + p := by omega
theorem pcB_pow (b : Nat) (hb : b < 256) : pcB b = b / 2 ^ 0 % 2 + b / 2 ^ 1 % 2 + b / 2 ^ 2 % 2 + b / 2 ^ 3 % 2 + b / 2 ^ 4 % 2 + b / 2 ^ 5 % 2 + b / 2 ^ 6 % 2 + b / 2 ^ 7 % 2 := by
  simp only [Nat.reducePow, Nat.div_one]
  exact pcB_bits ⟨b, hb⟩
theorem eight {f : Nat → Nat} {q b : Nat} (hb : b < 256) (h : ∀ j, j < 8 → f (8 * q + j + 1) = f (8 * q + j) + b / 2 ^ j % 2) : f (8 * q + 8) = f (8 * q) + pcB b :=
  eight1 (h 0 (by decide)) (h 1 (by decide)) (h 2 (by decide)) (h 3 (by decide)) (h 4 (by decide)) (h 5 (by decide)) (h 6 (by decide)) (h 7 (by decide)) (pcB_pow b hb)
theorem eights {f g : Nat → Nat} {k : Nat} (h : ∀ j, j < 8 → f (64 * k + 8 * (j + 1)) = f (64 * k + 8 * j) + g j) : f (64 * (k + 1)) = f (64 * k) + (g 0 + (g 1 + (g 2 + (g 3 + (g 4 + (g 5 + (g 6 + (g 7 + 0)))))))) := by
  have h0 := h 0 (by decide); have h1 := h 1 (by decide); have h2 := h 2 (by decide); have h3 := h 3 (by decide)
  have h4 := h 4 (by decide); have h5 := h 5 (by decide); have h6 := h 6 (by decide); have h7 := h 7 (by decide)
  simp only [Nat.reduceMul, Nat.reduceAdd, Nat.add_zero] at h0 h1 h2 h3 h4 h5 h6 h7
  rw [show 64 * (k + 1) = 64 * k + 64 by omega, h7, h6, h5, h4, h3, h2, h1, h0]
  simp only [Nat.add_assoc, Nat.add_zero]
theorem cnt_byte (s : SetT) (q : Nat) : (upTo s (8 * (q + 1))).length = (upTo s (8 * q)).length + pcB (byteS s q) :=
  eight (f := fun n => (upTo s n).length) (Nat.mod_lt _ (by decide)) fun j hj => cnt_succ s q j hj
theorem popW_eq (x : Nat) : popW x = pcB (x / 2 ^ (8 * 0) % 256) + (pcB (x / 2 ^ (8 * 1) % 256) + (pcB (x / 2 ^ (8 * 2) % 256) + (pcB (x / 2 ^ (8 * 3) % 256) + (pcB (x / 2 ^ (8 * 4) % 256) + (pcB (x / 2 ^ (8 * 5) % 256) + (pcB (x / 2 ^ (8 * 6) % 256) + (pcB (x / 2 ^ (8 * 7) % 256) + 0))))))) := by
  simp only [Nat.reduceMul, Nat.reducePow, Nat.div_one, popW, bytesW, List.map_cons, List.map_nil, List.sum_cons, List.sum_nil]
theorem cnt_word (s : SetT) (k : Nat) : (upTo s (64 * (k + 1))).length = (upTo s (64 * k)).length + popW (wordS s k) := by
  rw [popW_eq]
  refine eights (f := fun n => (upTo s n).length) (g := fun j => pcB (wordS s k / 2 ^ (8 * j) % 256)) fun j hj => ?_
  have := cnt_byte s (8 * k + j)
  unfold byteS at this
  rw [show (8 * k + j) / 8 = k by omega, show (8 * k + j) % 8 = j by omega, show 8 * (8 * k + j + 1) = 64 * k + 8 * (j + 1) by omega, show 8 * (8 * k + j) = 64 * k + 8 * j by omega] at this
  exact this
theorem count_ok (s : SetT) : class_Count_R s ((upTo s 256).length : Nat) := by
  refine loop_ (fun st m => ∃ k, k ≤ 4 ∧ m = 4 - k ∧ st.1 = ((upTo s (64 * k)).length : Int) ∧ st.2 = (k : Int)) 4 ⟨0, by omega, rfl, rfl, rfl⟩ ?_
  rintro ⟨n, i⟩ m ⟨k, hk, rfl, h1, h2⟩
  simp only at h1 h2
  subst h1; subst h2
  show class_Count_l1 s _ ((upTo s (64 * k)).length : Int) (k : Int) _
  have hl := upTo_len s (64 * k)
  refine split_ (fun h3 => ?_) fun h3 => ?_
  · refine atA (by omega) (by omega) fun y hy => ⟨_, ones_ok y, ?_⟩
    rw [Int.toNat_natCast] at hy
    have hw : wordS s k = y.toNat := by unfold wordS; rw [List.getD_eq_getElem?_getD, hy]; rfl
    have hc := cnt_word s k
    have hl2 := upTo_len s (64 * (k + 1))
    rw [hw] at hc
    exact inR_ (by omega) (inR_ (by omega) ⟨4 - (k + 1), by omega, k + 1, by omega, rfl, by show _ = _; simp only; rw [hc]; simp, by simp⟩)
  · obtain rfl : k = 4 := by omega
    rfl
theorem rbytes_ok (s : SetT) : palinoderef05_Bytes_R s (upTo s 256) := by
  refine loop_ (fun st m => ∃ k, k ≤ 256 ∧ m = 256 - k ∧ st.2 = (k : Int) ∧ st.1 = upTo s k) _ ⟨0, by omega, rfl, rfl, rfl⟩ ?_
  rintro ⟨o, x⟩ m ⟨k, hk, rfl, h1, h2⟩
  simp only at h1 h2
  subst h1; subst h2
  have hl := upTo_len s k
  show palinoderef05_Bytes_l1 s _ (upTo s k) (k : Int) _
  refine split_ (fun h3 => ?_) fun h3 => ?_
  · have hn := upTo_succ s k
    refine exU8 (by omega) fun c hc => ⟨_, rhas_ok _ _, split_ (fun h4 => ?_) fun h4 => ?_⟩
    · rw [show c.toNat = k by omega] at h4
      refine exU8 (by omega) fun c' hc' => room_ (by simp; omega) (by omega) (inR_ (by omega) ⟨256 - (k + 1), by omega, k + 1, by omega, rfl, by simp, ?_⟩)
      show upTo s k ++ [c'] = _
      rw [hn, if_pos h4, show UInt8.ofNat k = c' from UInt8.toNat_inj.1 (by rw [UInt8.toNat_ofNat_of_lt' (by simp [UInt8.size]; omega)]; omega)]
    · rw [show c.toNat = k by omega] at h4
      refine inR_ (by omega) ⟨256 - (k + 1), by omega, k + 1, by omega, rfl, by simp, ?_⟩
      show upTo s k = _
      rw [hn, if_neg h4, List.append_nil]
  · obtain rfl : k = 256 := by omega
    rfl
theorem mem_not (s : SetT) (c : Nat) (hc : c < 256) : memS (notS s) c = !memS s c := by
  have h1 : c / 64 < s.l.length := by rw [s.len]; omega
  unfold memS notS
  simp only [List.getD_eq_getElem?_getD, List.getElem?_map, List.getElem?_eq_getElem h1, Option.map_some, Option.getD_some, UInt64.toNat_not]
  rw [show UInt64.size - 1 - (s.l[c / 64]).toNat = 2 ^ 64 - ((s.l[c / 64]).toNat + 1) by simp [UInt64.size], Nat.testBit_two_pow_sub_succ (s.l[c / 64]).toNat_lt, decide_eq_true (by omega), Bool.true_and]
theorem not_not_ (s : SetT) : notS (notS s) = s := by
  apply set_ext
  intro c hc
  rw [mem_not _ _ hc, mem_not _ _ hc, Bool.not_not]
theorem cnt_not (s : SetT) (k : Nat) (hk : k ≤ 256) : (upTo (notS s) k).length + (upTo s k).length = k := by
  induction k with
  | zero => rfl
  | succ k ih =>
    have := ih (by omega)
    rw [upTo_succ, upTo_succ, List.length_append, List.length_append, mem_not _ _ (by omega)]
    cases memS s k <;> simp <;> omega
theorem tells_true (s : SetT) (c : UInt8) : palinodelaw05_ClassTells_R s c true := by
  have hc := c.toNat_lt
  refine ⟨_, rbytes_ok s, _, has_ok _ _, _, rhas_ok _ _, split_ (fun _ => ?_) fun h => absurd (by simp) h⟩
  refine ⟨_, not_ok s, _, has_ok _ _, _, rhas_ok _ _, split_ (fun _ => ?_) fun h => absurd ?_ h⟩
  · refine ⟨_, bytes_ok s, _, same_ok _ _ (by have := upTo_len s 256; omega), split_ (fun _ => ?_) fun h => absurd (decide_eq_true rfl) h⟩
    refine ⟨_, count_ok s, split_ (fun _ => ?_) fun h => absurd rfl h⟩
    refine ⟨_, not_ok s, _, not_ok _, split_ (fun _ => ?_) fun h => absurd (not_not_ s) h⟩
    have h1 := cnt_not s 256 (by omega)
    refine ⟨_, not_ok s, _, count_ok _, inR_ (by omega) (split_ (fun _ => ⟨true, awake_ok, rfl⟩) fun h => absurd (by omega) h)⟩
  · rw [mem_not _ _ hc]
    cases memS s c.toNat <;> simp
theorem tells_law (s : SetT) (c : UInt8) : Con Try.prog 3 [.agg (List.map ew s.l).flatten, .v (.int .u8 (c.toNat : Int))] [] [] (Ret (.v (.bool true))) := palinodelaw05_ClassTells_con s c true (tells_true s c)
end Go.Proofs.Ytjemjopjiohcoaa
