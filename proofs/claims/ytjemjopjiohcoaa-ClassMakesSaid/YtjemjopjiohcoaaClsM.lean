/- Sets of bytes, of rows and of classes. -/
import Derived.Test.YtjemjopjiohcoaaClsI
import Derived.Test.YtjemjopjiohcoaaClsB
namespace Go.Proofs.Ytjemjopjiohcoaa
/-- The set of the bytes under k that are told. -/
def pset (p : Nat → Bool) : Nat → SetT
  | 0 => Arr.rep 4 0
  | k + 1 => if p k = true then withS (pset p k) k else pset p k
theorem mem_rep (d : Nat) (hd : d < 256) : memS (Arr.rep 4 0) d = false := by
  unfold memS
  rw [List.getD_eq_getElem?_getD]
  show (((List.replicate 4 (0 : UInt64))[d / 64]?).getD 0).toNat.testBit _ = false
  rw [List.getElem?_replicate, if_pos (by omega)]
  simp
theorem mem_pset (p : Nat → Bool) (k d : Nat) (hk : k ≤ 256) (hd : d < 256) : memS (pset p k) d = (decide (d < k) && p d) := by
  induction k with
  | zero => rw [decide_eq_false (by omega), Bool.false_and]; exact mem_rep d hd
  | succ k ih =>
    have ih := ih (by omega)
    unfold pset
    by_cases h : p k = true
    · rw [if_pos h, mem_with _ _ _ (by omega) hd, ih]
      by_cases h1 : d = k
      · subst h1; rw [decide_eq_true (p := d < d + 1) (by omega), h]; simp
      · rw [decide_eq_false (p := k = d) (by omega), Bool.or_false, show decide (d < k + 1) = decide (d < k) by rw [decide_eq_decide]; omega]
    · rw [if_neg h, ih]
      by_cases h1 : d = k
      · subst h1; rw [Bool.eq_false_iff.2 h]; simp
      · rw [show decide (d < k + 1) = decide (d < k) by rw [decide_eq_decide]; omega]
theorem is_pset {s : SetT} {p : Nat → Bool} (h : ∀ d, d < 256 → memS s d = p d) : pset p 256 = s := by
  apply set_ext
  intro d hd
  rw [mem_pset _ _ _ (by omega) hd, decide_eq_true (by omega), Bool.true_and, h d hd]
theorem range_ok (a b : UInt8) : class_Range_R a b (pset (fun c => decide (a.toNat ≤ c ∧ c ≤ b.toNat)) 256) := by
  have hb := b.toNat_lt
  have ha := a.toNat_lt
  refine loop_ (fun st m => ∃ c : Nat, a.toNat ≤ c ∧ c ≤ 256 ∧ m = 257 - c ∧ st.1 = (c : Int) ∧ (c = a.toNat ∨ c ≤ b.toNat + 1) ∧ ∀ d, d < 256 → memS st.2 d = decide (a.toNat ≤ d ∧ d < c)) _ ⟨a.toNat, by omega, by omega, rfl, rfl, .inl rfl, fun d hd => by rw [mem_rep d hd, eq_comm, decide_eq_false_iff_not]; omega⟩ ?_
  rintro ⟨x, f⟩ m ⟨c, h1, h2, rfl, h3, h4, h5⟩
  simp only at h3 h5
  subst h3
  show class_Range_l1 b _ (c : Int) f _
  refine split_ (fun h => ?_) fun h => ?_
  · refine exU8 (by omega) fun y hy => ⟨_, with_ok f y, inR_ (by omega) ⟨257 - (c + 1), by omega, c + 1, by omega, by omega, rfl, by simp, .inr (by omega), fun d hd => ?_⟩⟩
    have hyc : y.toNat = c := by omega
    rw [mem_with _ _ _ (by omega) hd, h5 d hd, hyc, Bool.eq_iff_iff, Bool.or_eq_true, decide_eq_true_eq, decide_eq_true_eq, decide_eq_true_eq]
    omega
  · refine is_pset fun d hd => ?_
    rw [h5 d hd, decide_eq_decide]
    omega
theorem named_ok (x : ByteArray) : class_Named_R x (pset (fun c => (isS x c).1) 256, (isS x 0).2) := by
  refine loop_ (fun st m => ∃ c : Nat, c ≤ 256 ∧ m = 256 - c ∧ st.1 = (c : Int) ∧ (c = 0 ∨ (isS x 0).2 = true) ∧ ∀ d, d < 256 → memS st.2 d = (decide (d < c) && (isS x d).1)) _ ⟨0, by omega, rfl, rfl, .inl rfl, fun d hd => by rw [mem_rep d hd, decide_eq_false (by omega), Bool.false_and]⟩ ?_
  rintro ⟨i, f⟩ m ⟨c, h1, rfl, h3, h4, h5⟩
  simp only at h3 h5
  subst h3
  show class_Named_l1 x _ (c : Int) f _
  refine split_ (fun h => ?_) fun h => ?_
  · refine exU8 (by omega) fun y hy => ⟨_, dis_ok x y, split_ (fun h6 => ?_) fun h6 => ?_⟩
    · rw [is_snd] at h6
      have h7 := Bool.eq_false_iff.2 h6
      rw [h7]
      congr 1
      refine is_pset fun d hd => ?_
      rw [is_no x d h7]; exact mem_rep d hd
    · rw [is_snd, Decidable.not_not] at h6
      have hyc : y.toNat = c := by omega
      rw [hyc]
      refine split_ (fun h7 => ?_) fun h7 => ?_
      · refine exU8 (by omega) fun z hz => ⟨_, with_ok f z, inR_ (by omega) ⟨256 - (c + 1), by omega, c + 1, by omega, rfl, by simp, .inr h6, fun d hd => ?_⟩⟩
        have hzc : z.toNat = c := by omega
        rw [mem_with _ _ _ (by omega) hd, h5 d hd, hzc]
        by_cases h8 : d = c
        · subst h8; rw [decide_eq_true (p := d < d + 1) (by omega), h7]; simp
        · rw [decide_eq_false (p := c = d) (by omega), Bool.or_false, show decide (d < c + 1) = decide (d < c) by rw [decide_eq_decide]; omega]
      · refine inR_ (by omega) ⟨256 - (c + 1), by omega, c + 1, by omega, rfl, by simp, .inr h6, fun d hd => ?_⟩
        rw [h5 d hd]
        by_cases h8 : d = c
        · subst h8; rw [Bool.eq_false_iff.2 h7]; simp
        · rw [show decide (d < c + 1) = decide (d < c) by rw [decide_eq_decide]; omega]
  · have h6 : (isS x 0).2 = true := h4.resolve_left (by omega)
    rw [h6]
    congr 1
    refine is_pset fun d hd => ?_
    rw [h5 d hd, decide_eq_true (by omega), Bool.true_and]
theorem big_div (W e : Nat) (hW : W < 18446744073709551616) (he : 64 ≤ e) : W / 2 ^ e = 0 :=
  Nat.div_eq_of_lt (Nat.lt_of_lt_of_le hW (Nat.pow_le_pow_right (by decide) he : 2 ^ 64 ≤ 2 ^ e))
def bitP (f : Arr 256 Bool) (c : Nat) : Bool := f.l.getD c false
/-- The word w of the set, of which the bits under e are still lacking. -/
def RofI (F g : SetT) (n : Nat) : Prop := ∀ w, w < 4 → ∃ y, g.l[w]? = some y ∧ y.toNat = (F.l.getD w 0).toNat / 2 ^ (n - 64 * w)
theorem rofI_step {F f g : SetT} {k : Nat} {c : UInt64} (hk : k < 256) (hI : RofI F f (k + 1)) (hc : c.toNat = (F.l.getD (k / 64) 0).toNat / 2 ^ (k % 64)) (hg : ∀ w : Nat, g.l[w]? = (f.l.set (k / 64) c)[w]?) : RofI F g k := by
  intro w hw
  rw [hg, List.getElem?_set]
  by_cases h : k / 64 = w
  · rw [if_pos h, if_pos (by rw [f.len]; omega)]
    refine ⟨c, rfl, ?_⟩
    rw [hc, h, show k - 64 * w = k % 64 by omega]
  · rw [if_neg h]
    obtain ⟨y, hy, hv⟩ := hI w hw
    refine ⟨y, hy, ?_⟩
    rw [hv]
    rcases (by omega : w < k / 64 ∨ k / 64 < w) with h1 | h1
    · rw [big_div _ _ (UInt64.toNat_lt _) (by omega), big_div _ _ (UInt64.toNat_lt _) (by omega)]
    · rw [show k + 1 - 64 * w = 0 by omega, show k - 64 * w = 0 by omega]
theorem rof_ok (f : Arr 256 Bool) : palinoderef05_Of_R f (pset (bitP f) 256) := by
  generalize hF : pset (bitP f) 256 = F
  have hmem : ∀ d, d < 256 → memS F d = bitP f d := fun d hd => by rw [← hF, mem_pset _ _ _ (by omega) hd, decide_eq_true (by omega), Bool.true_and]
  refine loop_ (fun st m => ∃ n : Nat, n ≤ 256 ∧ m = n ∧ st.1 = (n : Int) - 1 ∧ RofI F st.2 n) 256 ⟨256, by omega, rfl, rfl, fun w hw => ⟨0, ?_, ?_⟩⟩ ?_
  · show (List.replicate 4 (0 : UInt64))[w]? = _
    rw [List.getElem?_replicate, if_pos hw]
  · rw [big_div _ _ (UInt64.toNat_lt _) (by omega)]; rfl
  rintro ⟨i, g⟩ m ⟨n, h1, rfl, h3, hI⟩
  simp only at h3 hI
  subst h3
  show palinoderef05_Of_l1 f _ ((m : Int) - 1) g F
  refine split_ (fun h => ?_) fun h => ?_
  · obtain ⟨k, rfl⟩ : ∃ k, m = k + 1 := ⟨m - 1, by omega⟩
    have hz : ((k + 1 : Nat) : Int) - 1 = (k : Int) := by omega
    have h2 : (k : Int).tdiv 64 = ((k / 64 : Nat) : Int) := td _ 64
    obtain ⟨y, hy, hv⟩ := hI (k / 64) (by omega)
    rw [show k + 1 - 64 * (k / 64) = k % 64 + 1 by omega] at hv
    have hb := hmem k (by omega)
    have hq : (F.l.getD (k / 64) 0).toNat / 2 ^ (k % 64) = 2 * y.toNat + if bitP f k = true then 1 else 0 := by
      rw [← hb, hv, Nat.pow_succ, ← Nat.div_div_eq_div_mul]
      unfold memS
      rw [tb]
      generalize (F.l.getD (k / 64) 0).toNat / 2 ^ (k % 64) = Q
      by_cases h9 : Q % 2 = 1
      · rw [decide_eq_true h9, if_pos rfl]; omega
      · rw [decide_eq_false h9, if_neg (by decide)]; omega
    have hle : (F.l.getD (k / 64) 0).toNat / 2 ^ (k % 64) < 18446744073709551616 := Nat.lt_of_le_of_lt (Nat.div_le_self _ _) (UInt64.toNat_lt _)
    rw [hq] at hle
    rw [hz, h2]
    have hgl := g.len
    refine ⟨by decide, inR_ (by omega) ⟨by decide, inR_ (by omega) ⟨by omega, y, by rw [Int.toNat_natCast]; exact hy, ?_⟩⟩⟩
    refine exU64 (by omega) fun c hc => ⟨by omega, y, by rw [Int.toNat_natCast]; exact hy, atA (by omega) (by omega) fun z hz' => ?_⟩
    rw [Int.toNat_natCast] at hz'
    have hzb : bitP f k = z := by unfold bitP; rw [List.getD_eq_getElem?_getD, hz']; rfl
    rw [hzb] at hq hle
    rw [Int.toNat_natCast]
    refine split_ (fun h6 => ?_) fun h6 => ?_
    · rw [if_pos h6] at hq hle
      have hcs : (Arr.set g (k / 64) c).l[k / 64]? = some c := by
        show (g.l.set (k / 64) c)[k / 64]? = some c
        rw [List.getElem?_set, if_pos rfl, if_pos (by omega)]
      refine ⟨by decide, inR_ (by omega) ⟨by decide, inR_ (by omega) ⟨by omega, c, hcs, exU64 (by omega) fun c2 hc2 => ⟨by omega, c, hcs, ?_⟩⟩⟩⟩
      refine inR_ (by omega) ⟨k, by omega, k, by omega, rfl, rfl, rofI_step (by omega) hI (c := c2) (by rw [hq]; omega) fun w => ?_⟩
      show ((g.l.set (k / 64) c).set (k / 64) c2)[w]? = _
      rw [List.set_set]
    · rw [if_neg h6] at hq hle
      exact inR_ (by omega) ⟨k, by omega, k, by omega, rfl, rfl, rofI_step (by omega) hI (c := c) (by rw [hq]; omega) fun w => rfl⟩
  · obtain rfl : m = 0 := by omega
    apply Arr.ext
    apply List.ext_getElem?
    intro w
    by_cases hw : w < 4
    · obtain ⟨y, hy, hv⟩ := hI w hw
      rw [show 0 - 64 * w = 0 by omega, Nat.pow_zero, Nat.div_one] at hv
      rw [hy]
      have : F.l[w]? = some (F.l.getD w 0) := by
        rw [List.getD_eq_getElem?_getD, List.getElem?_eq_getElem (by rw [F.len]; exact hw)]; rfl
      rw [this, UInt64.toNat_inj.1 hv]
    · rw [List.getElem?_eq_none (by rw [F.len]; omega), List.getElem?_eq_none (by rw [g.len]; omega)]
theorem u8_inj {a b : UInt8} (h : (a.toNat : Int) = (b.toNat : Int)) : a = b := UInt8.toNat_inj.1 (by omega)
theorem makes_true (l : List UInt8) (a b : UInt8) (name : ByteArray) : palinodelaw05_ClassMakes_R l a b name true := by
  have ha := a.toNat_lt
  have hb := b.toNat_lt
  refine split_ (fun _ => ⟨true, awake_ok, rfl⟩) fun h => ?_
  have hl : l.length ≤ 300 := by
    apply Decidable.byContradiction
    intro h1
    exact h (by rw [decide_eq_true (p := 300 < (l.length : Int)) (by omega), Bool.true_or])
  clear h
  refine loop_ (fun st m => ∃ k : Nat, k ≤ l.length ∧ m = l.length - k ∧ st.1 = (k : Int) ∧ ∀ d, d < 256 → st.2.l[d]? = some ((l.take k).any fun c => decide (c.toNat = d))) _ ⟨0, by omega, rfl, rfl, fun d hd => ?_⟩ ?_
  · show (List.replicate 256 false)[d]? = _
    rw [List.getElem?_replicate, if_pos hd]; rfl
  rintro ⟨x, f⟩ m ⟨k, hk, rfl, h1, hof⟩
  simp only at h1 hof
  subst h1
  show palinodelaw05_ClassMakes_l2 l a name b _ (k : Int) f true
  refine split_ (fun h1 => ?_) fun h1 => ?_
  · refine at_ (by omega) (by omega) fun y hy => atA (by omega) (by have := y.toNat_lt; omega) fun z hz => inR_ (by omega) ⟨l.length - (k + 1), by omega, k + 1, by omega, rfl, by simp, fun d hd => ?_⟩
    rw [Int.toNat_natCast] at hy
    show (f.l.set ((y.toNat : Int)).toNat true)[d]? = _
    rw [Int.toNat_natCast, List.getElem?_set, List.take_add_one, hy, List.any_append]
    by_cases h2 : y.toNat = d
    · rw [if_pos h2, if_pos (by rw [f.len]; exact y.toNat_lt)]
      simp [h2]
    · rw [if_neg h2, hof d hd]
      simp [h2]
  have hkl : k = l.length := by omega
  subst hkl
  rw [List.take_length] at hof
  clear h1 hk
  have hF : ofS l = pset (bitP f) 256 := by
    refine (is_pset fun d hd => ?_).symm
    rw [mem_of l d hd]
    unfold bitP
    rw [List.getD_eq_getElem?_getD, hof d hd]; rfl
  refine loop_ (fun st m => ∃ k : Nat, k ≤ 256 ∧ m = 256 - k ∧ st.2.1 = (k : Int) ∧ (k = 256 → st.1 = (isS name 0).2) ∧ (∀ d, d < 256 → st.2.2.1.l[d]? = some (decide (d < k) && decide (a.toNat ≤ d ∧ d ≤ b.toNat))) ∧ ∀ d, d < 256 → st.2.2.2.l[d]? = some (decide (d < k) && (isS name d).1)) _ ⟨0, by omega, rfl, rfl, by omega, fun d hd => ?_, fun d hd => ?_⟩ ?_
  · show (List.replicate 256 false)[d]? = _
    rw [List.getElem?_replicate, if_pos hd]; rfl
  · show (List.replicate 256 false)[d]? = _
    rw [List.getElem?_replicate, if_pos hd]; rfl
  rintro ⟨ok, x, row, nam⟩ m ⟨k, hk, rfl, h1, h2, h3, h4⟩
  simp only at h1 h2 h3 h4
  subst h1
  show palinodelaw05_ClassMakes_l3 a name b l f _ ok (k : Int) row nam true
  have more : ∀ (g : Arr 256 Bool) (p : Nat → Bool) (z : Bool), z = p k → k < 256 → (∀ d, d < 256 → g.l[d]? = some (decide (d < k) && p d)) → ∀ d, d < 256 → (g.l.set k z)[d]? = some (decide (d < k + 1) && p d) := by
    intro g p z hz hk2 hg d hd
    rw [List.getElem?_set]
    by_cases h5 : k = d
    · subst h5
      rw [if_pos rfl, if_pos (by rw [g.len]; exact hd), decide_eq_true (by omega), Bool.true_and, hz]
    · rw [if_neg h5, hg d hd, show decide (d < k + 1) = decide (d < k) by rw [decide_eq_decide]; omega]
  refine split_ (fun h5 => ?_) fun h5 => ?_
  · have last : ∀ z : Bool, z = decide (a.toNat ≤ k ∧ k ≤ b.toNat) → palinodelaw05_ClassMakes_j4 (k : Int) name nam (fun s' => ∃ m', m' < 256 - k ∧ ∃ k : Nat, k ≤ 256 ∧ m' = 256 - k ∧ s'.2.1 = (k : Int) ∧ (k = 256 → s'.1 = (isS name 0).2) ∧ (∀ d, d < 256 → s'.2.2.1.l[d]? = some (decide (d < k) && decide (a.toNat ≤ d ∧ d ≤ b.toNat))) ∧ ∀ d, d < 256 → s'.2.2.2.l[d]? = some (decide (d < k) && (isS name d).1)) (Arr.set row k z) true := by
      intro z hz
      refine exU8 (by omega) fun c hc => ⟨_, ris_ok name c, atA (by omega) (by omega) fun w hw => inR_ (by omega) ⟨256 - (k + 1), by omega, k + 1, by omega, rfl, by simp, fun _ => is_snd name _, more row (fun d => decide (a.toNat ≤ d ∧ d ≤ b.toNat)) z hz (by omega) h3, ?_⟩⟩
      rw [Int.toNat_natCast, show c.toNat = k by omega]
      exact more nam (fun d => (isS name d).1) _ rfl (by omega) h4
    refine split_ (fun h6 => atA (by omega) (by omega) fun w hw => ?_) fun h6 => atA (by omega) (by omega) fun w hw => ?_
    · rw [Int.toNat_natCast]
      exact last _ (by rw [decide_eq_decide]; omega)
    · rw [Int.toNat_natCast]
      exact last _ (by rw [eq_comm, decide_eq_false_iff_not]; omega)
  · obtain rfl : k = 256 := by omega
    have hok := h2 rfl
    have hR : ∀ (g : Arr 256 Bool) (p : Nat → Bool), (∀ d, d < 256 → g.l[d]? = some (decide (d < 256) && p d)) → pset p 256 = pset (bitP g) 256 := by
      intro g p hg
      refine is_pset fun d hd => ?_
      rw [mem_pset _ _ _ (by omega) hd, decide_eq_true hd, Bool.true_and]
      unfold bitP
      rw [List.getD_eq_getElem?_getD, hg d hd, decide_eq_true hd, Bool.true_and]; rfl
    refine ⟨_, named_ok name, _, of_ok l (by omega), _, rof_ok f, split_ (fun _ => ?_) fun h6 => absurd hF h6⟩
    refine ⟨_, range_ok a b, _, rof_ok row, split_ (fun _ => ?_) fun h6 => absurd (hR row (fun d => decide (a.toNat ≤ d ∧ d ≤ b.toNat)) h3) h6⟩
    refine ⟨_, rof_ok nam, split_ (fun _ => ?_) fun h6 => absurd (hR nam (fun d => (isS name d).1) h4) h6⟩
    refine split_ (fun _ => ⟨true, awake_ok, rfl⟩) fun h6 => absurd ?_ h6
    rw [hok]; exact beq_self_eq_true _
theorem makes_law (l : List UInt8) (a b : UInt8) (name : ByteArray) : Con Try.prog 6 [.sl 1 none (List.map eb l), .v (.int .u8 (a.toNat : Int)), .v (.int .u8 (b.toNat : Int)), .v (.string name)] [] [] (Ret (.v (.bool true))) := palinodelaw05_ClassMakes_con l a b name true (makes_true l a b name)
end Go.Proofs.Ytjemjopjiohcoaa
