/- Sets of bytes: what is in them. -/
import Derived.Test.YtjemjopjiohcoaaPl
import Derived.Test.YtjemjopjiohcoaaGK
namespace Go.Proofs.Ytjemjopjiohcoaa
abbrev SetT := Arr 4 UInt64
/-- Is a byte in a set? -/
def memS (s : SetT) (c : Nat) : Bool := (s.l.getD (c / 64) 0).toNat.testBit (c % 64)
theorem tb (x k : Nat) : x.testBit k = decide (x / 2 ^ k % 2 = 1) := Nat.testBit_eq_decide_div_mod_eq
theorem mem_at {s : SetT} {c : Nat} {y : UInt64} (hy : s.l[c / 64]? = some y) : memS s c = decide (y.toNat / 2 ^ (c % 64) % 2 = 1) := by
  unfold memS
  rw [List.getD_eq_getElem?_getD, hy, tb]; rfl
theorem has_ok (s : SetT) (c : UInt8) : class_Has_R s c (memS s c.toNat) := by
  have hc := c.toNat_lt
  have h1 : (c.toNat : Int).tdiv 64 = ((c.toNat / 64 : Nat) : Int) := td _ 64
  have h2 : (c.toNat : Int).tmod 64 = ((c.toNat % 64 : Nat) : Int) := tm _ 64
  unfold class_Has_R
  rw [h1, h2]
  refine ⟨by decide, exU8 (by omega) fun c4 h4 => atA (by omega) (by omega) fun y hy => ⟨by decide, exU8' (by omega) fun c8 h8 => ⟨by omega, ?_⟩⟩⟩
  have hmin : min ((c8.toNat : Int) : Int).toNat IntKind.u64.bits = c.toNat % 64 := by show min _ 64 = _; omega
  have hyl := y.toNat_lt
  have hle : y.toNat / 2 ^ (c.toNat % 64) ≤ y.toNat := Nat.div_le_self _ _
  rw [hmin, fdp]
  rw [show ((c4.toNat : Int) : Int).toNat = c.toNat / 64 by omega] at hy
  rw [mem_at hy]
  generalize y.toNat / 2 ^ (c.toNat % 64) = q at hle
  refine exU64' (by omega) fun c10 h10 => exAnd (b := 1) ?_
  rw [ decide_eq_decide, UInt64.toNat_and, show (1 : UInt64).toNat = 1 from rfl, Nat.and_one_is_mod]
  omega
theorem rhas_ok (s : SetT) (c : UInt8) : palinoderef05_Has_R s c (memS s c.toNat) := by
  have hc := c.toNat_lt
  have h1 : (c.toNat : Int).tdiv 64 = ((c.toNat / 64 : Nat) : Int) := td _ 64
  have h2 : (c.toNat : Int).tmod 64 = ((c.toNat % 64 : Nat) : Int) := tm _ 64
  unfold palinoderef05_Has_R
  rw [h1]
  refine ⟨by decide, exU8 (by omega) fun c4 h4 => atA (by omega) (by omega) fun y hy => ?_⟩
  rw [show ((c4.toNat : Int) : Int).toNat = c.toNat / 64 by omega] at hy
  refine loop_ (fun s m => ∃ i, i ≤ c.toNat % 64 ∧ m = c.toNat % 64 - i ∧ s.2.toNat = i ∧ s.1.toNat = y.toNat / 2 ^ i) _ ⟨0, by omega, rfl, rfl, by simp⟩ ?_
  rintro ⟨w, i'⟩ m ⟨i, hi, rfl, h3, h4⟩
  simp only at h3 h4
  have hwl := w.toNat_lt
  show palinoderef05_Has_l1 c _ w i' _
  unfold palinoderef05_Has_l1
  rw [h2]
  refine ⟨by decide, exU8' (by omega) fun c76 h5 => split_ (fun h6 => ?_) fun h6 => ?_⟩
  · have h7 : (w.toNat : Int).tdiv 2 = ((w.toNat / 2 : Nat) : Int) := td _ 2
    simp only [h7]
    refine ⟨by decide, exU64 (by omega) fun c80 h8 => exU8 (by omega) fun c82 h9 => ⟨c.toNat % 64 - (i + 1), by omega, i + 1, by omega, rfl, by show c82.toNat = _; omega, ?_⟩⟩
    show c80.toNat = _
    rw [Nat.pow_succ, ← Nat.div_div_eq_div_mul, ← h4]
    omega
  · have h7 : (w.toNat : Int).tmod 2 = ((w.toNat % 2 : Nat) : Int) := tm _ 2
    simp only [h7]
    refine ⟨by decide, exU64' (by omega) fun c84 h8 => ?_⟩
    obtain rfl : i = c.toNat % 64 := by omega
    rw [mem_at hy, decide_eq_decide, ← h4]
    omega
/-- The set of all words that aren't in a set's. -/
def notS (s : SetT) : SetT := ⟨s.l.map (~~~ ·), by rw [List.length_map]; exact s.len⟩
def orS (s u : SetT) : SetT := ⟨List.zipWith (· ||| ·) s.l u.l, by rw [List.length_zipWith, s.len, u.len]; rfl⟩
theorem setT_cases {P : SetT → Prop} (h : ∀ a b c d, P ⟨[a, b, c, d], rfl⟩) (s : SetT) : P s := by
  obtain ⟨l, hl⟩ := s
  match l, hl with
  | [a, b, c, d], _ => exact h a b c d
theorem xor_all (y : UInt64) : (18446744073709551615 : UInt64) ^^^ y = ~~~ y := by
  apply UInt64.toBitVec_inj.1
  rw [UInt64.toBitVec_xor, UInt64.toBitVec_not, show (18446744073709551615 : UInt64).toBitVec = BitVec.allOnes 64 from rfl, BitVec.allOnes_xor]
theorem not_ok (s : SetT) : class_Not_R s (notS s) := by
  refine loop_ (fun st m => ∃ k, k ≤ 4 ∧ m = 4 - k ∧ st.1 = (k : Int) ∧ st.2.l = (s.l.take k).map (~~~ ·) ++ s.l.drop k) 4 ⟨0, by omega, rfl, rfl, by simp⟩ ?_
  rintro ⟨x, f⟩ m ⟨k, hk, rfl, h1, h2⟩
  simp only at h1 h2
  subst h1
  show class_Not_l1 _ (k : Int) f _
  refine split_ (fun h3 => ?_) fun h3 => ?_
  · have hk4 : k < s.l.length := by rw [s.len]; omega
    have hf : f.l[k]? = some s.l[k] := by rw [h2, List.getElem?_append_right (by simp; omega), List.length_map, List.length_take, Nat.min_eq_left (by omega), Nat.sub_self, List.getElem?_drop, Nat.add_zero, List.getElem?_eq_getElem hk4]
    refine atA (by omega) (by omega) fun y hy => ?_
    rw [Int.toNat_natCast, hf] at hy
    injection hy with hy
    refine exXor (a := 18446744073709551615) (b := y) ?_
    refine atA (by omega) (by omega) fun y' hy' => inR_ (by omega) ⟨4 - (k + 1), by omega, k + 1, by omega, rfl, by simp, ?_⟩
    show f.l.set ((k : Int).toNat) _ = _
    have hml : (List.map (fun x : UInt64 => ~~~ x) (s.l.take k)).length = k := by rw [List.length_map, List.length_take]; omega
    rw [Int.toNat_natCast, h2, xor_all, ← hy, List.set_append_right _ _ (by omega), hml, Nat.sub_self, List.drop_eq_getElem_cons hk4, List.set_cons_zero, List.take_add_one, List.getElem?_eq_getElem hk4, List.map_append, List.append_assoc]
    rfl
  · obtain rfl : k = 4 := by omega
    refine Arr.ext ?_
    show List.map _ s.l = f.l
    rw [h2, List.take_of_length_le (by rw [s.len]; omega), List.drop_eq_nil_of_le (by rw [s.len]; omega), List.append_nil]
/-- A set with a byte more. -/
def withS (s : SetT) (c : Nat) : SetT := Arr.set s (c / 64) (s.l.getD (c / 64) 0 ||| UInt64.ofNat (2 ^ (c % 64)))
theorem with_ok (s : SetT) (c : UInt8) : class_with_R s c (withS s c.toNat) := by
  have hc := c.toNat_lt
  have h1 : (c.toNat : Int).tdiv 64 = ((c.toNat / 64 : Nat) : Int) := td _ 64
  have h2 : (c.toNat : Int).tmod 64 = ((c.toNat % 64 : Nat) : Int) := tm _ 64
  unfold class_with_R
  rw [h1, h2]
  refine ⟨by decide, exU8 (by omega) fun c4 h4 => atA (by omega) (by omega) fun y hy => ⟨by decide, exU8' (by omega) fun c8 h8 => ⟨by omega, ?_⟩⟩⟩
  have hmin : min ((c8.toNat : Int) : Int).toNat IntKind.u64.bits = c.toNat % 64 := by show min _ 64 = _; omega
  rw [show ((c4.toNat : Int) : Int).toNat = c.toNat / 64 by omega] at hy ⊢
  have hp : 2 ^ (c.toNat % 64) ≤ 2 ^ 63 := Nat.pow_le_pow_right (by decide) (by omega)
  have hz : (1 : Int) * 2 ^ (c.toNat % 64) = ((2 ^ (c.toNat % 64) : Nat) : Int) := by simp
  rw [hmin, hz]
  have hg : s.l.getD (c.toNat / 64) 0 = y := by rw [List.getD_eq_getElem?_getD, hy]; rfl
  unfold withS
  rw [hg]
  generalize 2 ^ (c.toNat % 64) = q at hp
  refine exU64 (by omega) fun c10 h10 => exOr ⟨⟨by omega, by omega⟩, y, hy, ?_⟩
  rw [show UInt64.ofNat q = c10 from UInt64.toNat_inj.1 (by rw [UInt64.toNat_ofNat_of_lt' (by simp [UInt64.size]; omega)]; omega)]
def ofS (l : List UInt8) : SetT := l.foldl (fun s c => withS s c.toNat) (Arr.rep 4 0)
theorem ofS_snoc {l : List UInt8} {k : Nat} {c : UInt8} (h : l[k]? = some c) : ofS (l.take (k + 1)) = withS (ofS (l.take k)) c.toNat := by
  unfold ofS
  rw [List.take_add_one, h, List.foldl_append]; rfl
theorem of_ok (l : List UInt8) (hl : l.length ≤ 1000000) : class_Of_R l (ofS l) := by
  refine loop_ (fun st m => ∃ k, k ≤ l.length ∧ m = l.length - k ∧ st.1 = (k : Int) ∧ st.2 = ofS (l.take k)) _ ⟨0, by omega, rfl, rfl, rfl⟩ ?_
  rintro ⟨x, f⟩ m ⟨k, hk, rfl, h1, h2⟩
  simp only at h1 h2
  subst h1; subst h2
  show class_Of_l1 l _ (k : Int) _ _
  refine split_ (fun h3 => ?_) fun h3 => ?_
  · refine at_ (by omega) (by omega) fun y hy => ⟨_, with_ok _ _, inR_ (by omega) ⟨l.length - (k + 1), by omega, k + 1, by omega, rfl, by simp, ?_⟩⟩
    rw [Int.toNat_natCast] at hy
    exact (ofS_snoc hy).symm
  · rw [List.take_of_length_le (by omega)]
theorem ones64 : math_bits_OnesCount64_R 18446744073709551615 64 := by
  unfold math_bits_OnesCount64_R
  repeat (first | refine exD (by decide +kernel) ?_ | refine exZ ?_ | refine ⟨by decide, ?_⟩)
  decide +kernel
theorem count_all : class_Count_R (notS (Arr.rep 4 0)) 256 := by
  refine loop_ (fun st m => ∃ k, k ≤ 4 ∧ m = 4 - k ∧ st.1 = 64 * (k : Int) ∧ st.2 = (k : Int)) 4 ⟨0, by omega, rfl, rfl, rfl⟩ ?_
  rintro ⟨x, f⟩ m ⟨k, hk, rfl, h1, h2⟩
  simp only at h1 h2
  subst h1; subst h2
  show class_Count_l1 _ _ (64 * (k : Int)) (k : Int) _
  refine split_ (fun h3 => ?_) fun h3 => by omega
  refine atA (by omega) (by omega) fun y hy => ?_
  have hy' : y = 18446744073709551615 := by
    rw [Int.toNat_natCast] at hy
    have : k = 0 ∨ k = 1 ∨ k = 2 ∨ k = 3 := by omega
    rcases this with rfl | rfl | rfl | rfl <;> (injection hy with hy; rw [← hy]; decide +kernel)
  subst hy'
  exact ⟨_, ones64, inR_ (by omega) (inR_ (by omega) ⟨4 - (k + 1), by omega, k + 1, by omega, rfl, by simp only; omega, by simp only; omega⟩)⟩
theorem awake_ok : palinodelaw05_awake_R true := by
  refine ⟨_, of_ok [] (by simp), _, not_ok _, _, count_all, split_ (fun _ => ?_) fun h => absurd rfl h⟩
  refine ⟨_, of_ok _ (by simp), _, has_ok _ _, split_ (fun _ => ?_) fun h => absurd (by decide +kernel) h⟩
  exact ⟨_, of_ok _ (by simp), _, has_ok _ _, by decide +kernel⟩
end Go.Proofs.Ytjemjopjiohcoaa
