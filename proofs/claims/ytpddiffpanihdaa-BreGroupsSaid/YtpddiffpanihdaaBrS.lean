/- Taken over from other chapters' plain texts. -/
import Derived.Test.YtpddiffpanihdaaPl
import Derived.Test.YtpddiffpanihdaaGK
namespace Go.Proofs.Ytpddiffpanihdaa
abbrev SetT := Arr 4 UInt64
/-- Is a byte in a set? -/
def memS (s : SetT) (c : Nat) : Bool := (s.l.getD (c / 64) 0).toNat.testBit (c % 64)
theorem tb (x k : Nat) : x.testBit k = decide (x / 2 ^ k % 2 = 1) := Nat.testBit_eq_decide_div_mod_eq
theorem mem_at {s : SetT} {c : Nat} {y : UInt64} (hy : s.l[c / 64]? = some y) : memS s c = decide (y.toNat / 2 ^ (c % 64) % 2 = 1) := by
  unfold memS
  rw [List.getD_eq_getElem?_getD, hy, tb]; rfl
/-- The set of all words that aren't in a set's. -/
def notS (s : SetT) : SetT := ⟨s.l.map (~~~ ·), by rw [List.length_map]; exact s.len⟩
def orS (s u : SetT) : SetT := ⟨List.zipWith (· ||| ·) s.l u.l, by rw [List.length_zipWith, s.len, u.len]; rfl⟩
theorem setT_cases {P : SetT → Prop} (h : ∀ a b c d, P ⟨[a, b, c, d], rfl⟩) (s : SetT) : P s := by
  obtain ⟨l, hl⟩ := s
  match l, hl with
  | [a, b, c, d], _ => exact h a b c d
theorem xor_all (y : UInt64) : (18446744073709551615 : UInt64) ^^^ y = ~~~ y := by
  apply UInt64.toBitVec_inj.1
  rw [UInt64.toBitVec_xor, UInt64.toBitVec_not, show (18446744073709551615 : UInt64).toBitVec = BitVec.allOnes 64 from rfl, BitVec.allOnes_xor]
theorem not_ok (s : SetT) : class_Not_R s (notS s) := by
  refine loop_ (fun st m => ∃ k, k ≤ 4 ∧ m = 4 - k ∧ st.1 = (k : Int) ∧ st.2.l = (s.l.take k).map (~~~ ·) ++ s.l.drop k) 4 ⟨0, by omega, rfl, rfl, by simp⟩ ?_
  rintro ⟨x, f⟩ m ⟨k, hk, rfl, h1, h2⟩
  simp only at h1 h2
  subst h1
  show class_Not_l1 _ (k : Int) f _
  refine split_ (fun h3 => ?_) fun h3 => ?_
  · have hk4 : k < s.l.length := by rw [s.len]; omega
    have hf : f.l[k]? = some s.l[k] := by rw [h2, List.getElem?_append_right (by simp; omega), List.length_map, List.length_take, Nat.min_eq_left (by omega), Nat.sub_self, List.getElem?_drop, Nat.add_zero, List.getElem?_eq_getElem hk4]
    refine atA (by omega) (by omega) fun y hy => ?_
    rw [Int.toNat_natCast, hf] at hy
    injection hy with hy
    refine exXor (a := 18446744073709551615) (b := y) ?_
    refine atA (by omega) (by omega) fun y' hy' => inR_ (by omega) ⟨4 - (k + 1), by omega, k + 1, by omega, rfl, by simp, ?_⟩
    show f.l.set ((k : Int).toNat) _ = _
    have hml : (List.map (fun x : UInt64 => ~~~ x) (s.l.take k)).length = k := by rw [List.length_map, List.length_take]; omega
    rw [Int.toNat_natCast, h2, xor_all, ← hy, List.set_append_right _ _ (by omega), hml, Nat.sub_self, List.drop_eq_getElem_cons hk4, List.set_cons_zero, List.take_add_one, List.getElem?_eq_getElem hk4, List.map_append, List.append_assoc]
    rfl
  · obtain rfl : k = 4 := by omega
    refine Arr.ext ?_
    show List.map _ s.l = f.l
    rw [h2, List.take_of_length_le (by rw [s.len]; omega), List.drop_eq_nil_of_le (by rw [s.len]; omega), List.append_nil]
/-- A set with a byte more. -/
def withS (s : SetT) (c : Nat) : SetT := Arr.set s (c / 64) (s.l.getD (c / 64) 0 ||| UInt64.ofNat (2 ^ (c % 64)))
theorem with_ok (s : SetT) (c : UInt8) : class_with_R s c (withS s c.toNat) := by
  have hc := c.toNat_lt
  have h1 : (c.toNat : Int).tdiv 64 = ((c.toNat / 64 : Nat) : Int) := td _ 64
  have h2 : (c.toNat : Int).tmod 64 = ((c.toNat % 64 : Nat) : Int) := tm _ 64
  unfold class_with_R
  rw [h1, h2]
  refine ⟨by decide, exU8 (by omega) fun c4 h4 => atA (by omega) (by omega) fun y hy => ⟨by decide, exU8' (by omega) fun c8 h8 => ⟨by omega, ?_⟩⟩⟩
  have hmin : min ((c8.toNat : Int) : Int).toNat IntKind.u64.bits = c.toNat % 64 := by show min _ 64 = _; omega
  rw [show ((c4.toNat : Int) : Int).toNat = c.toNat / 64 by omega] at hy ⊢
  have hp : 2 ^ (c.toNat % 64) ≤ 2 ^ 63 := Nat.pow_le_pow_right (by decide) (by omega)
  have hz : (1 : Int) * 2 ^ (c.toNat % 64) = ((2 ^ (c.toNat % 64) : Nat) : Int) := by simp
  rw [hmin, hz]
  have hg : s.l.getD (c.toNat / 64) 0 = y := by rw [List.getD_eq_getElem?_getD, hy]; rfl
  unfold withS
  rw [hg]
  generalize 2 ^ (c.toNat % 64) = q at hp
  refine exU64 (by omega) fun c10 h10 => exOr ⟨⟨by omega, by omega⟩, y, hy, ?_⟩
  rw [show UInt64.ofNat q = c10 from UInt64.toNat_inj.1 (by rw [UInt64.toNat_ofNat_of_lt' (by simp [UInt64.size]; omega)]; omega)]
def ofS (l : List UInt8) : SetT := l.foldl (fun s c => withS s c.toNat) (Arr.rep 4 0)
theorem ofS_snoc {l : List UInt8} {k : Nat} {c : UInt8} (h : l[k]? = some c) : ofS (l.take (k + 1)) = withS (ofS (l.take k)) c.toNat := by
  unfold ofS
  rw [List.take_add_one, h, List.foldl_append]; rfl
theorem of_ok (l : List UInt8) (hl : l.length ≤ 1000000) : class_Of_R l (ofS l) := by
  refine loop_ (fun st m => ∃ k, k ≤ l.length ∧ m = l.length - k ∧ st.1 = (k : Int) ∧ st.2 = ofS (l.take k)) _ ⟨0, by omega, rfl, rfl, rfl⟩ ?_
  rintro ⟨x, f⟩ m ⟨k, hk, rfl, h1, h2⟩
  simp only at h1 h2
  subst h1; subst h2
  show class_Of_l1 l _ (k : Int) _ _
  refine split_ (fun h3 => ?_) fun h3 => ?_
  · refine at_ (by omega) (by omega) fun y hy => ⟨_, with_ok _ _, inR_ (by omega) ⟨l.length - (k + 1), by omega, k + 1, by omega, rfl, by simp, ?_⟩⟩
    rw [Int.toNat_natCast] at hy
    exact (ofS_snoc hy).symm
  · rw [List.take_of_length_le (by omega)]
theorem union2_ok (u : SetT) (x : Int) (ag1 : Int × SetT → Prop) (f : SetT) (r : SetT) (hx : 0 ≤ x ∧ x ≤ 1000) (h : ag1 (x + 1, orS f u)) : LoopR (fun ag2 s => class_Union_l2 u x ag1 ag2 s.1 s.2 r) (0, f) := by
  refine loop_ (fun st m => ∃ k, k ≤ 4 ∧ m = 4 - k ∧ st.1 = (k : Int) ∧ st.2.l = List.zipWith (· ||| ·) (f.l.take k) (u.l.take k) ++ f.l.drop k) 4 ⟨0, by omega, rfl, rfl, by simp⟩ ?_
  rintro ⟨y, g⟩ m ⟨k, hk, rfl, h1, h2⟩
  simp only at h1 h2
  subst h1
  show class_Union_l2 u x ag1 _ (k : Int) g _
  refine split_ (fun h3 => ?_) fun h3 => ?_
  · have hf4 : k < f.l.length := by rw [f.len]; omega
    have hu4 : k < u.l.length := by rw [u.len]; omega
    have hml : (List.zipWith (· ||| ·) (f.l.take k) (u.l.take k)).length = k := by rw [List.length_zipWith, List.length_take, List.length_take]; omega
    have hg : g.l[k]? = some f.l[k] := by rw [h2, List.getElem?_append_right (by omega), hml, Nat.sub_self, List.getElem?_drop, Nat.add_zero, List.getElem?_eq_getElem hf4]
    refine atA (by omega) (by omega) fun a ha => atA (by omega) (by omega) fun b hb => exOr (atA (by omega) (by omega) fun c hc => inR_ (by omega) ⟨4 - (k + 1), by omega, k + 1, by omega, rfl, by simp, ?_⟩)
    rw [Int.toNat_natCast, hg] at ha
    rw [Int.toNat_natCast, List.getElem?_eq_getElem hu4] at hb
    injection ha with ha
    injection hb with hb
    show g.l.set ((k : Int).toNat) _ = _
    rw [Int.toNat_natCast, h2, ← ha, ← hb, List.set_append_right _ _ (by omega), hml, Nat.sub_self, List.drop_eq_getElem_cons hf4, List.set_cons_zero, List.take_add_one, List.take_add_one, List.getElem?_eq_getElem hf4, List.getElem?_eq_getElem hu4, List.zipWith_append (by rw [List.length_take, List.length_take]; omega), List.append_assoc]
    rfl
  · obtain rfl : k = 4 := by omega
    have : g = orS f u := by
      apply Arr.ext
      show g.l = List.zipWith _ f.l u.l
      rw [h2, List.take_of_length_le (by rw [f.len]; omega), List.take_of_length_le (by rw [u.len]; omega), List.drop_eq_nil_of_le (by rw [f.len]; omega), List.append_nil]
    subst this
    exact ⟨⟨by omega, by omega⟩, h⟩
def unS (l : List SetT) : SetT := l.foldl orS (Arr.rep 4 0)
theorem unS_snoc {l : List SetT} {k : Nat} {u : SetT} (h : l[k]? = some u) : unS (l.take (k + 1)) = orS (unS (l.take k)) u := by
  unfold unS
  rw [List.take_add_one, h, List.foldl_append]; rfl
theorem union_ok (l : List SetT) (hl : l.length ≤ 100) : class_Union_R l (unS l) := by
  refine loop_ (fun st m => ∃ k, k ≤ l.length ∧ m = l.length - k ∧ st.1 = (k : Int) ∧ st.2 = unS (l.take k)) _ ⟨0, by omega, rfl, rfl, rfl⟩ ?_
  rintro ⟨x, f⟩ m ⟨k, hk, rfl, h1, h2⟩
  simp only at h1 h2
  subst h1; subst h2
  show class_Union_l1 l _ (k : Int) _ _
  refine split_ (fun h3 => ?_) fun h3 => ?_
  · refine at_ (by omega) (by omega) fun u hu => union2_ok _ _ _ _ _ (by omega) ⟨l.length - (k + 1), by omega, k + 1, by omega, rfl, by simp, ?_⟩
    rw [Int.toNat_natCast] at hu
    exact (unS_snoc hu).symm
  · rw [List.take_of_length_le (by omega)]
theorem mem_or (s u : SetT) (c : Nat) (hc : c < 256) : memS (orS s u) c = (memS s c || memS u c) := by
  have h1 : c / 64 < s.l.length := by rw [s.len]; omega
  have h2 : c / 64 < u.l.length := by rw [u.len]; omega
  unfold memS orS
  simp only [List.getD_eq_getElem?_getD, List.getElem?_zipWith, List.getElem?_eq_getElem h1, List.getElem?_eq_getElem h2, Option.getD_some, UInt64.toNat_or, Nat.testBit_or]
theorem mem_un (l : List SetT) (c : Nat) (hc : c < 256) : memS (unS l) c = l.any (memS · c) := by
  have h : ∀ (l : List SetT) (s : SetT), memS (l.foldl orS s) c = (memS s c || l.any (memS · c)) := by
    intro l
    induction l with
    | nil => intro s; simp
    | cons u l ih => intro s; rw [List.foldl_cons, ih, mem_or _ _ _ hc, List.any_cons, Bool.or_assoc]
  unfold unS
  rw [h]
  have : memS (Arr.rep 4 0) c = false := by
    unfold memS
    rw [List.getD_eq_getElem?_getD]
    show (((List.replicate 4 (0 : UInt64))[c / 64]?).getD 0).toNat.testBit _ = false
    rw [List.getElem?_replicate, if_pos (by omega)]
    simp
  rw [this, Bool.false_or]
theorem or_zero (u : UInt64) : (0 : UInt64) ||| u = u := UInt64.toNat_inj.1 (by rw [UInt64.toNat_or]; exact Nat.zero_or _)
theorem tb_two (w : UInt64) (k j : Nat) (hk : k < 64) : (w ||| UInt64.ofNat (2 ^ k)).toNat.testBit j = (w.toNat.testBit j || decide (k = j)) := by
  have hp : 2 ^ k ≤ 2 ^ 63 := Nat.pow_le_pow_right (by decide) (by omega)
  rw [UInt64.toNat_or, Nat.testBit_or, UInt64.toNat_ofNat_of_lt' (by simp [UInt64.size]; omega), Nat.testBit_two_pow]
theorem mem_with (s : SetT) (c d : Nat) (hc : c < 256) (hd : d < 256) : memS (withS s c) d = (memS s d || decide (c = d)) := by
  have hcl : c / 64 < s.l.length := by rw [s.len]; omega
  unfold memS withS
  simp only [Arr.set, List.getD_eq_getElem?_getD, List.getElem?_set]
  by_cases h : c / 64 = d / 64
  · rw [if_pos h, if_pos hcl, Option.getD_some, tb_two _ _ _ (by omega), h]
    congr 1
    rw [decide_eq_decide]
    omega
  · rw [if_neg h, decide_eq_false (fun e => h (by rw [e])), Bool.or_false]
theorem mem_of (l : List UInt8) (d : Nat) (hd : d < 256) : memS (ofS l) d = l.any (fun c => decide (c.toNat = d)) := by
  have h : ∀ (l : List UInt8) (s : SetT), memS (l.foldl (fun s c => withS s c.toNat) s) d = (memS s d || l.any (fun c => decide (c.toNat = d))) := by
    intro l
    induction l with
    | nil => intro s; simp
    | cons c l ih => intro s; rw [List.foldl_cons, ih, mem_with _ _ _ (c.toNat_lt) hd, List.any_cons, Bool.or_assoc]
  unfold ofS
  rw [h]
  have : memS (Arr.rep 4 0) d = false := by
    unfold memS
    rw [List.getD_eq_getElem?_getD]
    show (((List.replicate 4 (0 : UInt64))[d / 64]?).getD 0).toNat.testBit _ = false
    rw [List.getElem?_replicate, if_pos (by omega)]
    simp
  rw [this, Bool.false_or]
theorem set_ext {s u : SetT} (h : ∀ c, c < 256 → memS s c = memS u c) : s = u := by
  apply Arr.ext
  apply List.ext_getElem (by rw [s.len, u.len])
  intro i h1 h2
  have hi : i < 4 := by rw [s.len] at h1; exact h1
  apply UInt64.toNat_inj.1
  apply Nat.eq_of_testBit_eq
  intro j
  by_cases hj : j < 64
  · have := h (64 * i + j) (by omega)
    unfold memS at this
    rw [show (64 * i + j) / 64 = i by omega, show (64 * i + j) % 64 = j by omega] at this
    simpa [List.getD_eq_getElem?_getD, List.getElem?_eq_getElem h1, List.getElem?_eq_getElem h2] using this
  · have hb : ∀ w : UInt64, w.toNat.testBit j = false := fun w => Nat.testBit_lt_two_pow (Nat.lt_of_lt_of_le w.toNat_lt (Nat.pow_le_pow_right (by decide) (by omega)))
    rw [hb, hb]
def isS (x : ByteArray) (n : Nat) : Bool × Bool :=
  if (x.toList == ((⟨#[117, 112, 112, 101, 114]⟩ : ByteArray)).toList) = true then (decide (65 ≤ n ∧ n ≤ 90), true) else
  if (x.toList == ((⟨#[108, 111, 119, 101, 114]⟩ : ByteArray)).toList) = true then (decide (97 ≤ n ∧ n ≤ 122), true) else
  if (x.toList == ((⟨#[100, 105, 103, 105, 116]⟩ : ByteArray)).toList) = true then (decide (48 ≤ n ∧ n ≤ 57), true) else
  if (x.toList == ((⟨#[97, 108, 112, 104, 97]⟩ : ByteArray)).toList) = true then (decide ((65 ≤ n ∧ n ≤ 90) ∨ (97 ≤ n ∧ n ≤ 122)), true) else
  if (x.toList == ((⟨#[97, 108, 110, 117, 109]⟩ : ByteArray)).toList) = true then (decide ((65 ≤ n ∧ n ≤ 90) ∨ (97 ≤ n ∧ n ≤ 122) ∨ (48 ≤ n ∧ n ≤ 57)), true) else
  if (x.toList == ((⟨#[98, 108, 97, 110, 107]⟩ : ByteArray)).toList) = true then (decide (n = 32 ∨ n = 9), true) else
  if (x.toList == ((⟨#[115, 112, 97, 99, 101]⟩ : ByteArray)).toList) = true then (decide (n = 32 ∨ (9 ≤ n ∧ n ≤ 13)), true) else
  if (x.toList == ((⟨#[99, 110, 116, 114, 108]⟩ : ByteArray)).toList) = true then (decide (n ≤ 31 ∨ n = 127), true) else
  if (x.toList == ((⟨#[103, 114, 97, 112, 104]⟩ : ByteArray)).toList) = true then (decide (33 ≤ n ∧ n ≤ 126), true) else
  if (x.toList == ((⟨#[112, 114, 105, 110, 116]⟩ : ByteArray)).toList) = true then (decide (32 ≤ n ∧ n ≤ 126), true) else
  if (x.toList == ((⟨#[112, 117, 110, 99, 116]⟩ : ByteArray)).toList) = true then (decide ((33 ≤ n ∧ n ≤ 126) ∧ ¬ ((65 ≤ n ∧ n ≤ 90) ∨ (97 ≤ n ∧ n ≤ 122) ∨ (48 ≤ n ∧ n ≤ 57))), true) else
  if (x.toList == ((⟨#[120, 100, 105, 103, 105, 116]⟩ : ByteArray)).toList) = true then (decide ((48 ≤ n ∧ n ≤ 57) ∨ (65 ≤ n ∧ n ≤ 70) ∨ (97 ≤ n ∧ n ≤ 102)), true) else
  (false, false)
theorem within_iff (c lo hi : UInt8) (r : Bool) : digit_within_R c lo hi r ↔ r = decide (lo.toNat ≤ c.toNat ∧ c.toNat ≤ hi.toNat) := by
  unfold digit_within_R
  constructor
  · rintro ⟨h1, h2⟩
    by_cases h : (lo.toNat : Int) ≤ (c.toNat : Int)
    · rw [h1 h, decide_eq_decide]; omega
    · rw [h2 h, eq_comm, decide_eq_false_iff_not]; omega
  · rintro rfl
    refine ⟨fun h => ?_, fun h => ?_⟩
    · rw [decide_eq_decide]; omega
    · rw [decide_eq_false_iff_not]; omega
theorem upper_iff (c : UInt8) (r : Bool) : digit_isUpper_R c r ↔ r = decide (65 ≤ c.toNat ∧ c.toNat ≤ 90) := by
  unfold digit_isUpper_R
  simp only [within_iff, exists_eq_left]; rfl
theorem lower_iff (c : UInt8) (r : Bool) : digit_isLower_R c r ↔ r = decide (97 ≤ c.toNat ∧ c.toNat ≤ 122) := by
  unfold digit_isLower_R
  simp only [within_iff, exists_eq_left]; rfl
theorem digit_iff (c : UInt8) (r : Bool) : digit_isDigit_R c r ↔ r = decide (48 ≤ c.toNat ∧ c.toNat ≤ 57) := by
  unfold digit_isDigit_R
  simp only [within_iff, exists_eq_left]; rfl
theorem graph_iff (c : UInt8) (r : Bool) : digit_isGraph_R c r ↔ r = decide (33 ≤ c.toNat ∧ c.toNat ≤ 126) := by
  unfold digit_isGraph_R
  simp only [within_iff, exists_eq_left]; rfl
theorem dec_or (p q : Prop) [Decidable p] [Decidable q] (r : Bool) : ((decide p = true → r = true) ∧ (¬ (decide p = true) → r = decide q)) ↔ r = decide (p ∨ q) := by
  by_cases hp : p <;> by_cases hq : q <;> simp [hp, hq]
theorem alnum_iff (c : UInt8) (r : Bool) : digit_isAlnum_R c r ↔ r = decide ((48 ≤ c.toNat ∧ c.toNat ≤ 57) ∨ (65 ≤ c.toNat ∧ c.toNat ≤ 90) ∨ (97 ≤ c.toNat ∧ c.toNat ≤ 122)) := by
  unfold digit_isAlnum_R
  simp only [digit_iff, upper_iff, lower_iff, exists_eq_left, dec_or]
theorem blank_iff (c : UInt8) (r : Bool) : digit_isBlank_R c r ↔ r = decide (c.toNat = 32 ∨ c.toNat = 9) := by
  unfold digit_isBlank_R
  by_cases h : (c.toNat : Int) = 32
  · have h1 : c.toNat = 32 := by omega
    simp [h1]
  · have h1 : ¬ c.toNat = 32 := by omega
    simp only [h, not_false_eq_true, true_implies, false_implies, true_and, h1, false_or]
    constructor <;> (intro e; rw [e, decide_eq_decide]; omega)
theorem pair_ (a b : Bool) : ((a, true) = (b, true)) ↔ a = b := by simp
theorem dis_ok (x : ByteArray) (c : UInt8) : digit_Is_R x c (isS x c.toNat) := by
  have hA : (10 : UInt8).toNat = 10 := rfl
  have hB : (13 : UInt8).toNat = 13 := rfl
  have hC : (65 : UInt8).toNat = 65 := rfl
  have hD : (70 : UInt8).toNat = 70 := rfl
  have hE : (97 : UInt8).toNat = 97 := rfl
  have hF : (102 : UInt8).toNat = 102 := rfl
  unfold digit_Is_R isS
  refine ⟨fun h => ?_, fun h => ?_⟩
  · rw [if_pos h]
    exact ⟨_, (upper_iff _ _).2 rfl, rfl⟩
  rw [if_neg h]
  refine ⟨fun h => ?_, fun h => ?_⟩
  · rw [if_pos h]
    exact ⟨_, (lower_iff _ _).2 rfl, rfl⟩
  rw [if_neg h]
  refine ⟨fun h => ?_, fun h => ?_⟩
  · rw [if_pos h]
    exact ⟨_, (digit_iff _ _).2 rfl, rfl⟩
  rw [if_neg h]
  refine ⟨fun h => ?_, fun h => ?_⟩
  · rw [if_pos h]
    simp only [upper_iff, lower_iff, exists_eq_left, pair_, decide_eq_decide, decide_eq_true_eq]
    omega
  rw [if_neg h]
  refine ⟨fun h => ?_, fun h => ?_⟩
  · rw [if_pos h]
    exact ⟨_, (alnum_iff _ _).2 rfl, by rw [pair_, decide_eq_decide]; omega⟩
  rw [if_neg h]
  refine ⟨fun h => ?_, fun h => ?_⟩
  · rw [if_pos h]
    exact ⟨_, (blank_iff _ _).2 rfl, rfl⟩
  rw [if_neg h]
  refine ⟨fun h => ?_, fun h => ?_⟩
  · rw [if_pos h]
    simp only [blank_iff, within_iff, hA, hB, exists_eq_left, pair_, decide_eq_decide, decide_eq_true_eq]
    omega
  rw [if_neg h]
  refine ⟨fun h => ?_, fun h => ?_⟩
  · rw [if_pos h]
    simp only [pair_, decide_eq_decide, decide_eq_true_eq]
    omega
  rw [if_neg h]
  refine ⟨fun h => ?_, fun h => ?_⟩
  · rw [if_pos h]
    exact ⟨_, (graph_iff _ _).2 rfl, rfl⟩
  rw [if_neg h]
  refine ⟨fun h => ?_, fun h => ?_⟩
  · rw [if_pos h]
    simp only [graph_iff, exists_eq_left, pair_, decide_eq_decide, decide_eq_true_eq]
    omega
  rw [if_neg h]
  refine ⟨fun h => ?_, fun h => ?_⟩
  · rw [if_pos h]
    simp only [graph_iff, alnum_iff, ← decide_not, decide_eq_false_iff_not, exists_eq_left, pair_, decide_eq_decide, decide_eq_true_eq]
    omega
  rw [if_neg h]
  refine ⟨fun h => ?_, fun h => ?_⟩
  · rw [if_pos h]
    simp only [digit_iff, within_iff, hC, hD, hE, hF, exists_eq_left, pair_, decide_eq_decide, decide_eq_true_eq]
    omega
  rw [if_neg h]
theorem is_snd (x : ByteArray) (n : Nat) : (isS x n).2 = (isS x 0).2 := by
  unfold isS
  by_cases h : (x.toList == ((⟨#[117, 112, 112, 101, 114]⟩ : ByteArray)).toList) = true
  · rw [if_pos h, if_pos h]
  rw [if_neg h, if_neg h]
  clear h
  by_cases h : (x.toList == ((⟨#[108, 111, 119, 101, 114]⟩ : ByteArray)).toList) = true
  · rw [if_pos h, if_pos h]
  rw [if_neg h, if_neg h]
  clear h
  by_cases h : (x.toList == ((⟨#[100, 105, 103, 105, 116]⟩ : ByteArray)).toList) = true
  · rw [if_pos h, if_pos h]
  rw [if_neg h, if_neg h]
  clear h
  by_cases h : (x.toList == ((⟨#[97, 108, 112, 104, 97]⟩ : ByteArray)).toList) = true
  · rw [if_pos h, if_pos h]
  rw [if_neg h, if_neg h]
  clear h
  by_cases h : (x.toList == ((⟨#[97, 108, 110, 117, 109]⟩ : ByteArray)).toList) = true
  · rw [if_pos h, if_pos h]
  rw [if_neg h, if_neg h]
  clear h
  by_cases h : (x.toList == ((⟨#[98, 108, 97, 110, 107]⟩ : ByteArray)).toList) = true
  · rw [if_pos h, if_pos h]
  rw [if_neg h, if_neg h]
  clear h
  by_cases h : (x.toList == ((⟨#[115, 112, 97, 99, 101]⟩ : ByteArray)).toList) = true
  · rw [if_pos h, if_pos h]
  rw [if_neg h, if_neg h]
  clear h
  by_cases h : (x.toList == ((⟨#[99, 110, 116, 114, 108]⟩ : ByteArray)).toList) = true
  · rw [if_pos h, if_pos h]
  rw [if_neg h, if_neg h]
  clear h
  by_cases h : (x.toList == ((⟨#[103, 114, 97, 112, 104]⟩ : ByteArray)).toList) = true
  · rw [if_pos h, if_pos h]
  rw [if_neg h, if_neg h]
  clear h
  by_cases h : (x.toList == ((⟨#[112, 114, 105, 110, 116]⟩ : ByteArray)).toList) = true
  · rw [if_pos h, if_pos h]
  rw [if_neg h, if_neg h]
  clear h
  by_cases h : (x.toList == ((⟨#[112, 117, 110, 99, 116]⟩ : ByteArray)).toList) = true
  · rw [if_pos h, if_pos h]
  rw [if_neg h, if_neg h]
  clear h
  by_cases h : (x.toList == ((⟨#[120, 100, 105, 103, 105, 116]⟩ : ByteArray)).toList) = true
  · rw [if_pos h, if_pos h]
  rw [if_neg h, if_neg h]
theorem is_no (x : ByteArray) (n : Nat) (h0 : (isS x 0).2 = false) : (isS x n).1 = false := by
  rw [← is_snd x n] at h0
  revert h0
  unfold isS
  by_cases h : (x.toList == ((⟨#[117, 112, 112, 101, 114]⟩ : ByteArray)).toList) = true
  · rw [if_pos h]; intro h0; cases h0
  rw [if_neg h]
  clear h
  by_cases h : (x.toList == ((⟨#[108, 111, 119, 101, 114]⟩ : ByteArray)).toList) = true
  · rw [if_pos h]; intro h0; cases h0
  rw [if_neg h]
  clear h
  by_cases h : (x.toList == ((⟨#[100, 105, 103, 105, 116]⟩ : ByteArray)).toList) = true
  · rw [if_pos h]; intro h0; cases h0
  rw [if_neg h]
  clear h
  by_cases h : (x.toList == ((⟨#[97, 108, 112, 104, 97]⟩ : ByteArray)).toList) = true
  · rw [if_pos h]; intro h0; cases h0
  rw [if_neg h]
  clear h
  by_cases h : (x.toList == ((⟨#[97, 108, 110, 117, 109]⟩ : ByteArray)).toList) = true
  · rw [if_pos h]; intro h0; cases h0
  rw [if_neg h]
  clear h
  by_cases h : (x.toList == ((⟨#[98, 108, 97, 110, 107]⟩ : ByteArray)).toList) = true
  · rw [if_pos h]; intro h0; cases h0
  rw [if_neg h]
  clear h
  by_cases h : (x.toList == ((⟨#[115, 112, 97, 99, 101]⟩ : ByteArray)).toList) = true
  · rw [if_pos h]; intro h0; cases h0
  rw [if_neg h]
  clear h
  by_cases h : (x.toList == ((⟨#[99, 110, 116, 114, 108]⟩ : ByteArray)).toList) = true
  · rw [if_pos h]; intro h0; cases h0
  rw [if_neg h]
  clear h
  by_cases h : (x.toList == ((⟨#[103, 114, 97, 112, 104]⟩ : ByteArray)).toList) = true
  · rw [if_pos h]; intro h0; cases h0
  rw [if_neg h]
  clear h
  by_cases h : (x.toList == ((⟨#[112, 114, 105, 110, 116]⟩ : ByteArray)).toList) = true
  · rw [if_pos h]; intro h0; cases h0
  rw [if_neg h]
  clear h
  by_cases h : (x.toList == ((⟨#[112, 117, 110, 99, 116]⟩ : ByteArray)).toList) = true
  · rw [if_pos h]; intro h0; cases h0
  rw [if_neg h]
  clear h
  by_cases h : (x.toList == ((⟨#[120, 100, 105, 103, 105, 116]⟩ : ByteArray)).toList) = true
  · rw [if_pos h]; intro h0; cases h0
  rw [if_neg h]
  clear h
  intro _; rfl
/-- The set of the bytes under k that are told. -/
def pset (p : Nat → Bool) : Nat → SetT
  | 0 => Arr.rep 4 0
  | k + 1 => if p k = true then withS (pset p k) k else pset p k
theorem mem_rep (d : Nat) (hd : d < 256) : memS (Arr.rep 4 0) d = false := by
  unfold memS
  rw [List.getD_eq_getElem?_getD]
  show (((List.replicate 4 (0 : UInt64))[d / 64]?).getD 0).toNat.testBit _ = false
  rw [List.getElem?_replicate, if_pos (by omega)]
  simp
theorem mem_pset (p : Nat → Bool) (k d : Nat) (hk : k ≤ 256) (hd : d < 256) : memS (pset p k) d = (decide (d < k) && p d) := by
  induction k with
  | zero => rw [decide_eq_false (by omega), Bool.false_and]; exact mem_rep d hd
  | succ k ih =>
    have ih := ih (by omega)
    unfold pset
    by_cases h : p k = true
    · rw [if_pos h, mem_with _ _ _ (by omega) hd, ih]
      by_cases h1 : d = k
      · subst h1; rw [decide_eq_true (p := d < d + 1) (by omega), h]; simp
      · rw [decide_eq_false (p := k = d) (by omega), Bool.or_false, show decide (d < k + 1) = decide (d < k) by rw [decide_eq_decide]; omega]
    · rw [if_neg h, ih]
      by_cases h1 : d = k
      · subst h1; rw [Bool.eq_false_iff.2 h]; simp
      · rw [show decide (d < k + 1) = decide (d < k) by rw [decide_eq_decide]; omega]
theorem is_pset {s : SetT} {p : Nat → Bool} (h : ∀ d, d < 256 → memS s d = p d) : pset p 256 = s := by
  apply set_ext
  intro d hd
  rw [mem_pset _ _ _ (by omega) hd, decide_eq_true (by omega), Bool.true_and, h d hd]
theorem range_ok (a b : UInt8) : class_Range_R a b (pset (fun c => decide (a.toNat ≤ c ∧ c ≤ b.toNat)) 256) := by
  have hb := b.toNat_lt
  have ha := a.toNat_lt
  refine loop_ (fun st m => ∃ c : Nat, a.toNat ≤ c ∧ c ≤ 256 ∧ m = 257 - c ∧ st.1 = (c : Int) ∧ (c = a.toNat ∨ c ≤ b.toNat + 1) ∧ ∀ d, d < 256 → memS st.2 d = decide (a.toNat ≤ d ∧ d < c)) _ ⟨a.toNat, by omega, by omega, rfl, rfl, .inl rfl, fun d hd => by rw [mem_rep d hd, eq_comm, decide_eq_false_iff_not]; omega⟩ ?_
  rintro ⟨x, f⟩ m ⟨c, h1, h2, rfl, h3, h4, h5⟩
  simp only at h3 h5
  subst h3
  show class_Range_l1 b _ (c : Int) f _
  refine split_ (fun h => ?_) fun h => ?_
  · refine exU8 (by omega) fun y hy => ⟨_, with_ok f y, inR_ (by omega) ⟨257 - (c + 1), by omega, c + 1, by omega, by omega, rfl, by simp, .inr (by omega), fun d hd => ?_⟩⟩
    have hyc : y.toNat = c := by omega
    rw [mem_with _ _ _ (by omega) hd, h5 d hd, hyc, Bool.eq_iff_iff, Bool.or_eq_true, decide_eq_true_eq, decide_eq_true_eq, decide_eq_true_eq]
    omega
  · refine is_pset fun d hd => ?_
    rw [h5 d hd, decide_eq_decide]
    omega
theorem named_ok (x : ByteArray) : class_Named_R x (pset (fun c => (isS x c).1) 256, (isS x 0).2) := by
  refine loop_ (fun st m => ∃ c : Nat, c ≤ 256 ∧ m = 256 - c ∧ st.1 = (c : Int) ∧ (c = 0 ∨ (isS x 0).2 = true) ∧ ∀ d, d < 256 → memS st.2 d = (decide (d < c) && (isS x d).1)) _ ⟨0, by omega, rfl, rfl, .inl rfl, fun d hd => by rw [mem_rep d hd, decide_eq_false (by omega), Bool.false_and]⟩ ?_
  rintro ⟨i, f⟩ m ⟨c, h1, rfl, h3, h4, h5⟩
  simp only at h3 h5
  subst h3
  show class_Named_l1 x _ (c : Int) f _
  refine split_ (fun h => ?_) fun h => ?_
  · refine exU8 (by omega) fun y hy => ⟨_, dis_ok x y, split_ (fun h6 => ?_) fun h6 => ?_⟩
    · rw [is_snd] at h6
      have h7 := Bool.eq_false_iff.2 h6
      rw [h7]
      congr 1
      refine is_pset fun d hd => ?_
      rw [is_no x d h7]; exact mem_rep d hd
    · rw [is_snd, Decidable.not_not] at h6
      have hyc : y.toNat = c := by omega
      rw [hyc]
      refine split_ (fun h7 => ?_) fun h7 => ?_
      · refine exU8 (by omega) fun z hz => ⟨_, with_ok f z, inR_ (by omega) ⟨256 - (c + 1), by omega, c + 1, by omega, rfl, by simp, .inr h6, fun d hd => ?_⟩⟩
        have hzc : z.toNat = c := by omega
        rw [mem_with _ _ _ (by omega) hd, h5 d hd, hzc]
        by_cases h8 : d = c
        · subst h8; rw [decide_eq_true (p := d < d + 1) (by omega), h7]; simp
        · rw [decide_eq_false (p := c = d) (by omega), Bool.or_false, show decide (d < c + 1) = decide (d < c) by rw [decide_eq_decide]; omega]
      · refine inR_ (by omega) ⟨256 - (c + 1), by omega, c + 1, by omega, rfl, by simp, .inr h6, fun d hd => ?_⟩
        rw [h5 d hd]
        by_cases h8 : d = c
        · subst h8; rw [Bool.eq_false_iff.2 h7]; simp
        · rw [show decide (d < c + 1) = decide (d < c) by rw [decide_eq_decide]; omega]
  · have h6 : (isS x 0).2 = true := h4.resolve_left (by omega)
    rw [h6]
    congr 1
    refine is_pset fun d hd => ?_
    rw [h5 d hd, decide_eq_true (by omega), Bool.true_and]
theorem u8_inj {a b : UInt8} (h : (a.toNat : Int) = (b.toNat : Int)) : a = b := UInt8.toNat_inj.1 (by omega)
end Go.Proofs.Ytpddiffpanihdaa
