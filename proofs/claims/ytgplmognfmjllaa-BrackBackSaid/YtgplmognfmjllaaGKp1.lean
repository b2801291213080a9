/- What functions' texts ask for, and the walks that show it (printed by a program). -/
import Derived.Test.YtgplmognfmjllaaIdx
namespace Go.Proofs.Ytgplmognfmjllaa
abbrev E_palinode_api_Set (x : Arr 4 (UInt64)) : List Sd := ((List.map ew x.l).flatten)
instance : EncLen E_palinode_api_Set 4 := ⟨fun _ => (by first | rfl | exact seg_lenE (by rfl) | exact len_app rfl (seg_lenE (by rfl)) (by rfl) | exact len_app (seg_lenE (by rfl)) rfl (by rfl) | exact len_app rfl (len_app (seg_lenE (by rfl)) rfl (by rfl)) (by rfl) | (simp only [seg_len, cellsS, List.length_append, List.length_cons, List.length_nil]; done) | (simp only [seg_len, cellsS, List.length_append, List.length_cons, List.length_nil]; rfl))⟩
/-- digit.within -/
def digit_within_R (c1 : UInt8) (low2 : UInt8) (high3 : UInt8) (r : Bool) : Prop :=
  (((low2.toNat : Int) ≤ (c1.toNat : Int) → r = (decide ((c1.toNat : Int) ≤ (high3.toNat : Int)))) ∧ (¬ ((low2.toNat : Int) ≤ (c1.toNat : Int)) → r = false))
def digit_within_ev (fuel : Nat) (c1 : UInt8) (low2 : UInt8) (high3 : UInt8) : Option (Bool) :=
  (if (low2.toNat : Int) ≤ (c1.toNat : Int) then some (decide ((c1.toNat : Int) ≤ (high3.toNat : Int))) else some false)
theorem digit_within_ok {fuel : Nat} {c1 : UInt8} {low2 : UInt8} {high3 : UInt8} {r : Bool} (h : digit_within_ev fuel c1 low2 high3 = some r) : digit_within_R c1 low2 high3 r := by
  unfold digit_within_ev at h
  unfold digit_within_R
  refine ⟨fun g1 => ?_, fun g1 => ?_⟩
  · rw [if_pos g1] at h
    exact (Option.some.inj h).symm
  · rw [if_neg g1] at h
    exact (Option.some.inj h).symm
set_option maxHeartbeats 4000000 in
theorem digit_within_con (c1 : UInt8) (low2 : UInt8) (high3 : UInt8) (r : Bool) (h : digit_within_R c1 low2 high3 r) : Con Try.prog 45 [.v (.int .u8 ((c1.toNat : Int))), .v (.int .u8 ((low2.toNat : Int))), .v (.int .u8 ((high3.toNat : Int)))] [] [] (Ret (.v (.bool r))) := by
  refine xenter Try.func45 rfl rfl fun g hg => ?_
  simp only [Try.ntmps45, slots]
  refine xseq ?_
  refine xregion ?_
  refine xvalP (pv_assign rfl) rfl rfl ?_
  refine xnil ?_
  refine xthen ?_
  refine xseq ?_
  refine xregion ?_
  refine xvalP (pv_move rfl) rfl rfl ?_
  refine xvalP (pv_move rfl) rfl rfl ?_
  refine xvalP (pv_bin2 rfl rfl rfl) rfl rfl ?_
  refine xvalP (pv_move rfl) rfl rfl ?_
  by_cases hp8 : (low2.toNat : Int) ≤ (c1.toNat : Int)
  · replace h := h.1 hp8
    refine xsetB 10 (decide_eq_true hp8) rfl ?_
    refine xvalP (pv_move rfl) rfl rfl ?_
    refine xvalP (pv_move rfl) rfl rfl ?_
    refine xvalP (pv_bin2 rfl rfl rfl) rfl rfl ?_
    refine xvalP (pv_pick rfl rfl) rfl rfl ?_
    refine xvalP (pv_assign rfl) rfl rfl ?_
    refine xnil ?_
    refine xthen ?_
    refine xretc ?_
    replace h := h.symm
    subst h
    exact xret1 hg rfl rfl (.refl _) (SubM.of (.nil _) (.nil _)) ⟨rfl, rfl, rfl⟩
  · replace h := h.2 hp8
    refine xsetB 10 (decide_eq_false hp8) rfl ?_
    refine xskip rfl rfl ?_
    refine xskip rfl rfl ?_
    refine xskip rfl rfl ?_
    refine xvalP (pv_pick rfl rfl) rfl rfl ?_
    refine xvalP (pv_assign rfl) rfl rfl ?_
    refine xnil ?_
    refine xthen ?_
    refine xretc ?_
    replace h := h.symm
    subst h
    exact xret1 hg rfl rfl (.refl _) (SubM.of (.nil _) (.nil _)) ⟨rfl, rfl, rfl⟩
/-- digit.isUpper -/
def digit_isUpper_R (c1 : UInt8) (r : Bool) : Prop :=
  ∃ y3 : Bool, digit_within_R c1 (65 : UInt8) (90 : UInt8) y3 ∧ r = y3
def digit_isUpper_ev (fuel : Nat) (c1 : UInt8) : Option (Bool) :=
  ((digit_within_ev fuel c1 (65 : UInt8) (90 : UInt8)).bind fun y3 => some y3)
theorem digit_isUpper_ok {fuel : Nat} {c1 : UInt8} {r : Bool} (h : digit_isUpper_ev fuel c1 = some r) : digit_isUpper_R c1 r := by
  unfold digit_isUpper_ev at h
  unfold digit_isUpper_R
  obtain ⟨q2, g2, h⟩ := bind_ok h
  refine ⟨q2, digit_within_ok g2, ?_⟩
  exact (Option.some.inj h).symm
set_option maxHeartbeats 4000000 in
theorem digit_isUpper_con (c1 : UInt8) (r : Bool) (h : digit_isUpper_R c1 r) : Con Try.prog 40 [.v (.int .u8 ((c1.toNat : Int)))] [] [] (Ret (.v (.bool r))) := by
  refine xenter Try.func40 rfl rfl fun g hg => ?_
  simp only [Try.ntmps40, slots]
  refine xseq ?_
  refine xregion ?_
  refine xvalP (pv_assign rfl) rfl rfl ?_
  refine xnil ?_
  refine xthen ?_
  refine xseq ?_
  refine xregion ?_
  refine xvalP (pv_move rfl) rfl rfl ?_
  obtain ⟨y3, h2, h⟩ := h
  refine xcall0 (digit_within_con c1 (65 : UInt8) (90 : UInt8) _ h2) Try.func45 (by kernel_rfl) rfl (.cons rfl (.refl _) (.cons rfl (.refl _) (.cons rfl (.refl _) .nil))) rfl rfl ?_
  refine xvalP (pv_assign rfl) rfl rfl ?_
  refine xnil ?_
  refine xthen ?_
  refine xretc ?_
  replace h := h.symm
  subst h
  exact xret1 hg rfl rfl (.refl _) (SubM.of (.nil _) (.nil _)) ⟨rfl, rfl, rfl⟩
/-- digit.isLower -/
def digit_isLower_R (c1 : UInt8) (r : Bool) : Prop :=
  ∃ y3 : Bool, digit_within_R c1 (97 : UInt8) (122 : UInt8) y3 ∧ r = y3
def digit_isLower_ev (fuel : Nat) (c1 : UInt8) : Option (Bool) :=
  ((digit_within_ev fuel c1 (97 : UInt8) (122 : UInt8)).bind fun y3 => some y3)
theorem digit_isLower_ok {fuel : Nat} {c1 : UInt8} {r : Bool} (h : digit_isLower_ev fuel c1 = some r) : digit_isLower_R c1 r := by
  unfold digit_isLower_ev at h
  unfold digit_isLower_R
  obtain ⟨q3, g3, h⟩ := bind_ok h
  refine ⟨q3, digit_within_ok g3, ?_⟩
  exact (Option.some.inj h).symm
set_option maxHeartbeats 4000000 in
theorem digit_isLower_con (c1 : UInt8) (r : Bool) (h : digit_isLower_R c1 r) : Con Try.prog 41 [.v (.int .u8 ((c1.toNat : Int)))] [] [] (Ret (.v (.bool r))) := by
  refine xenter Try.func41 rfl rfl fun g hg => ?_
  simp only [Try.ntmps41, slots]
  refine xseq ?_
  refine xregion ?_
  refine xvalP (pv_assign rfl) rfl rfl ?_
  refine xnil ?_
  refine xthen ?_
  refine xseq ?_
  refine xregion ?_
  refine xvalP (pv_move rfl) rfl rfl ?_
  obtain ⟨y3, h2, h⟩ := h
  refine xcall0 (digit_within_con c1 (97 : UInt8) (122 : UInt8) _ h2) Try.func45 (by kernel_rfl) rfl (.cons rfl (.refl _) (.cons rfl (.refl _) (.cons rfl (.refl _) .nil))) rfl rfl ?_
  refine xvalP (pv_assign rfl) rfl rfl ?_
  refine xnil ?_
  refine xthen ?_
  refine xretc ?_
  replace h := h.symm
  subst h
  exact xret1 hg rfl rfl (.refl _) (SubM.of (.nil _) (.nil _)) ⟨rfl, rfl, rfl⟩
/-- digit.isDigit -/
def digit_isDigit_R (c1 : UInt8) (r : Bool) : Prop :=
  ∃ y3 : Bool, digit_within_R c1 (48 : UInt8) (57 : UInt8) y3 ∧ r = y3
def digit_isDigit_ev (fuel : Nat) (c1 : UInt8) : Option (Bool) :=
  ((digit_within_ev fuel c1 (48 : UInt8) (57 : UInt8)).bind fun y3 => some y3)
theorem digit_isDigit_ok {fuel : Nat} {c1 : UInt8} {r : Bool} (h : digit_isDigit_ev fuel c1 = some r) : digit_isDigit_R c1 r := by
  unfold digit_isDigit_ev at h
  unfold digit_isDigit_R
  obtain ⟨q4, g4, h⟩ := bind_ok h
  refine ⟨q4, digit_within_ok g4, ?_⟩
  exact (Option.some.inj h).symm
set_option maxHeartbeats 4000000 in
theorem digit_isDigit_con (c1 : UInt8) (r : Bool) (h : digit_isDigit_R c1 r) : Con Try.prog 42 [.v (.int .u8 ((c1.toNat : Int)))] [] [] (Ret (.v (.bool r))) := by
  refine xenter Try.func42 rfl rfl fun g hg => ?_
  simp only [Try.ntmps42, slots]
  refine xseq ?_
  refine xregion ?_
  refine xvalP (pv_assign rfl) rfl rfl ?_
  refine xnil ?_
  refine xthen ?_
  refine xseq ?_
  refine xregion ?_
  refine xvalP (pv_move rfl) rfl rfl ?_
  obtain ⟨y3, h2, h⟩ := h
  refine xcall0 (digit_within_con c1 (48 : UInt8) (57 : UInt8) _ h2) Try.func45 (by kernel_rfl) rfl (.cons rfl (.refl _) (.cons rfl (.refl _) (.cons rfl (.refl _) .nil))) rfl rfl ?_
  refine xvalP (pv_assign rfl) rfl rfl ?_
  refine xnil ?_
  refine xthen ?_
  refine xretc ?_
  replace h := h.symm
  subst h
  exact xret1 hg rfl rfl (.refl _) (SubM.of (.nil _) (.nil _)) ⟨rfl, rfl, rfl⟩
/-- digit.isAlnum -/
def digit_isAlnum_R (c1 : UInt8) (r : Bool) : Prop :=
  ∃ y11 : Bool, digit_isDigit_R c1 y11 ∧ ((y11 = true → r = true) ∧ (¬ (y11 = true) → ∃ y14 : Bool, digit_isUpper_R c1 y14 ∧ ((y14 = true → r = true) ∧ (¬ (y14 = true) → ∃ y17 : Bool, digit_isLower_R c1 y17 ∧ r = y17))))
def digit_isAlnum_ev (fuel : Nat) (c1 : UInt8) : Option (Bool) :=
  ((digit_isDigit_ev fuel c1).bind fun y11 => (if y11 = true then some true else ((digit_isUpper_ev fuel c1).bind fun y14 => (if y14 = true then some true else ((digit_isLower_ev fuel c1).bind fun y17 => some y17)))))
theorem digit_isAlnum_ok {fuel : Nat} {c1 : UInt8} {r : Bool} (h : digit_isAlnum_ev fuel c1 = some r) : digit_isAlnum_R c1 r := by
  unfold digit_isAlnum_ev at h
  unfold digit_isAlnum_R
  obtain ⟨q5, g5, h⟩ := bind_ok h
  refine ⟨q5, digit_isDigit_ok g5, ?_⟩
  refine ⟨fun g6 => ?_, fun g6 => ?_⟩
  · rw [if_pos g6] at h
    exact (Option.some.inj h).symm
  · rw [if_neg g6] at h
    obtain ⟨q7, g7, h⟩ := bind_ok h
    refine ⟨q7, digit_isUpper_ok g7, ?_⟩
    refine ⟨fun g8 => ?_, fun g8 => ?_⟩
    · rw [if_pos g8] at h
      exact (Option.some.inj h).symm
    · rw [if_neg g8] at h
      obtain ⟨q9, g9, h⟩ := bind_ok h
      refine ⟨q9, digit_isLower_ok g9, ?_⟩
      exact (Option.some.inj h).symm
set_option maxHeartbeats 4000000 in
theorem digit_isAlnum_con (c1 : UInt8) (r : Bool) (h : digit_isAlnum_R c1 r) : Con Try.prog 43 [.v (.int .u8 ((c1.toNat : Int)))] [] [] (Ret (.v (.bool r))) := by
  refine xenter Try.func43 rfl rfl fun g hg => ?_
  simp only [Try.ntmps43, slots]
  refine xseq ?_
  refine xregion ?_
  refine xvalP (pv_assign rfl) rfl rfl ?_
  refine xnil ?_
  refine xthen ?_
  refine xseq ?_
  refine xregion ?_
  refine xvalP (pv_move rfl) rfl rfl ?_
  obtain ⟨y11, h10, h⟩ := h
  refine xcall0 (digit_isDigit_con c1 _ h10) Try.func42 (by kernel_rfl) rfl (.cons rfl (.refl _) .nil) rfl rfl ?_
  refine xvalP (pv_move rfl) rfl rfl ?_
  by_cases hp12 : y11 = true
  · replace h := h.1 hp12
    refine xsetB 5 hp12 rfl ?_
    refine xskip rfl rfl ?_
    refine xskip rfl rfl ?_
    refine xvalP (pv_pick rfl rfl) rfl rfl ?_
    refine xvalP (pv_move rfl) rfl rfl ?_
    refine xskip rfl rfl ?_
    refine xskip rfl rfl ?_
    refine xvalP (pv_pick rfl rfl) rfl rfl ?_
    refine xvalP (pv_assign rfl) rfl rfl ?_
    refine xnil ?_
    refine xthen ?_
    refine xretc ?_
    replace h := h.symm
    subst h
    exact xret1 hg rfl rfl (.refl _) (SubM.of (.nil _) (.nil _)) ⟨rfl, rfl, rfl⟩
  · replace h := h.2 hp12
    refine xsetB 5 (b_f hp12) rfl ?_
    refine xvalP (pv_move rfl) rfl rfl ?_
    obtain ⟨y14, h13, h⟩ := h
    refine xcall0 (digit_isUpper_con c1 _ h13) Try.func40 (by kernel_rfl) rfl (.cons rfl (.refl _) .nil) rfl rfl ?_
    refine xvalP (pv_pick rfl rfl) rfl rfl ?_
    refine xvalP (pv_move rfl) rfl rfl ?_
    by_cases hp15 : y14 = true
    · replace h := h.1 hp15
      refine xsetB 9 hp15 rfl ?_
      refine xskip rfl rfl ?_
      refine xskip rfl rfl ?_
      refine xvalP (pv_pick rfl rfl) rfl rfl ?_
      refine xvalP (pv_assign rfl) rfl rfl ?_
      refine xnil ?_
      refine xthen ?_
      refine xretc ?_
      replace h := h.symm
      subst h
      exact xret1 hg rfl rfl (.refl _) (SubM.of (.nil _) (.nil _)) ⟨rfl, rfl, rfl⟩
    · replace h := h.2 hp15
      refine xsetB 9 (b_f hp15) rfl ?_
      refine xvalP (pv_move rfl) rfl rfl ?_
      obtain ⟨y17, h16, h⟩ := h
      refine xcall0 (digit_isLower_con c1 _ h16) Try.func41 (by kernel_rfl) rfl (.cons rfl (.refl _) .nil) rfl rfl ?_
      refine xvalP (pv_pick rfl rfl) rfl rfl ?_
      refine xvalP (pv_assign rfl) rfl rfl ?_
      refine xnil ?_
      refine xthen ?_
      refine xretc ?_
      replace h := h.symm
      subst h
      exact xret1 hg rfl rfl (.refl _) (SubM.of (.nil _) (.nil _)) ⟨rfl, rfl, rfl⟩
/-- digit.isBlank -/
def digit_isBlank_R (c1 : UInt8) (r : Bool) : Prop :=
  (((c1.toNat : Int) = 32 → r = true) ∧ (¬ ((c1.toNat : Int) = 32) → r = (decide ((c1.toNat : Int) = 9))))
def digit_isBlank_ev (fuel : Nat) (c1 : UInt8) : Option (Bool) :=
  (if (c1.toNat : Int) = 32 then some true else some (decide ((c1.toNat : Int) = 9)))
theorem digit_isBlank_ok {fuel : Nat} {c1 : UInt8} {r : Bool} (h : digit_isBlank_ev fuel c1 = some r) : digit_isBlank_R c1 r := by
  unfold digit_isBlank_ev at h
  unfold digit_isBlank_R
  refine ⟨fun g10 => ?_, fun g10 => ?_⟩
  · rw [if_pos g10] at h
    exact (Option.some.inj h).symm
  · rw [if_neg g10] at h
    exact (Option.some.inj h).symm
set_option maxHeartbeats 4000000 in
theorem digit_isBlank_con (c1 : UInt8) (r : Bool) (h : digit_isBlank_R c1 r) : Con Try.prog 44 [.v (.int .u8 ((c1.toNat : Int)))] [] [] (Ret (.v (.bool r))) := by
  refine xenter Try.func44 rfl rfl fun g hg => ?_
  simp only [Try.ntmps44, slots]
  refine xseq ?_
  refine xregion ?_
  refine xvalP (pv_assign rfl) rfl rfl ?_
  refine xnil ?_
  refine xthen ?_
  refine xseq ?_
  refine xregion ?_
  refine xvalP (pv_move rfl) rfl rfl ?_
  refine xvalP (pv_bin2 rfl rfl rfl) rfl rfl ?_
  refine xvalP (pv_move rfl) rfl rfl ?_
  by_cases hp6 : (c1.toNat : Int) = 32
  · replace h := h.1 hp6
    refine xsetB 5 (decide_eq_true hp6) rfl ?_
    refine xskip rfl rfl ?_
    refine xskip rfl rfl ?_
    refine xvalP (pv_pick rfl rfl) rfl rfl ?_
    refine xvalP (pv_assign rfl) rfl rfl ?_
    refine xnil ?_
    refine xthen ?_
    refine xretc ?_
    replace h := h.symm
    subst h
    exact xret1 hg rfl rfl (.refl _) (SubM.of (.nil _) (.nil _)) ⟨rfl, rfl, rfl⟩
  · replace h := h.2 hp6
    refine xsetB 5 (decide_eq_false hp6) rfl ?_
    refine xvalP (pv_move rfl) rfl rfl ?_
    refine xvalP (pv_bin2 rfl rfl rfl) rfl rfl ?_
    refine xvalP (pv_pick rfl rfl) rfl rfl ?_
    refine xvalP (pv_assign rfl) rfl rfl ?_
    refine xnil ?_
    refine xthen ?_
    refine xretc ?_
    replace h := h.symm
    subst h
    exact xret1 hg rfl rfl (.refl _) (SubM.of (.nil _) (.nil _)) ⟨rfl, rfl, rfl⟩
/-- digit.isGraph -/
def digit_isGraph_R (c1 : UInt8) (r : Bool) : Prop :=
  ∃ y3 : Bool, digit_within_R c1 (33 : UInt8) (126 : UInt8) y3 ∧ r = y3
def digit_isGraph_ev (fuel : Nat) (c1 : UInt8) : Option (Bool) :=
  ((digit_within_ev fuel c1 (33 : UInt8) (126 : UInt8)).bind fun y3 => some y3)
theorem digit_isGraph_ok {fuel : Nat} {c1 : UInt8} {r : Bool} (h : digit_isGraph_ev fuel c1 = some r) : digit_isGraph_R c1 r := by
  unfold digit_isGraph_ev at h
  unfold digit_isGraph_R
  obtain ⟨q11, g11, h⟩ := bind_ok h
  refine ⟨q11, digit_within_ok g11, ?_⟩
  exact (Option.some.inj h).symm
set_option maxHeartbeats 4000000 in
theorem digit_isGraph_con (c1 : UInt8) (r : Bool) (h : digit_isGraph_R c1 r) : Con Try.prog 46 [.v (.int .u8 ((c1.toNat : Int)))] [] [] (Ret (.v (.bool r))) := by
  refine xenter Try.func46 rfl rfl fun g hg => ?_
  simp only [Try.ntmps46, slots]
  refine xseq ?_
  refine xregion ?_
  refine xvalP (pv_assign rfl) rfl rfl ?_
  refine xnil ?_
  refine xthen ?_
  refine xseq ?_
  refine xregion ?_
  refine xvalP (pv_move rfl) rfl rfl ?_
  obtain ⟨y3, h2, h⟩ := h
  refine xcall0 (digit_within_con c1 (33 : UInt8) (126 : UInt8) _ h2) Try.func45 (by kernel_rfl) rfl (.cons rfl (.refl _) (.cons rfl (.refl _) (.cons rfl (.refl _) .nil))) rfl rfl ?_
  refine xvalP (pv_assign rfl) rfl rfl ?_
  refine xnil ?_
  refine xthen ?_
  refine xretc ?_
  replace h := h.symm
  subst h
  exact xret1 hg rfl rfl (.refl _) (SubM.of (.nil _) (.nil _)) ⟨rfl, rfl, rfl⟩
/-- digit.Is -/
def digit_Is_R (x1 : ByteArray) (x2 : UInt8) (r : Bool × Bool) : Prop :=
  (((x1.toList == ((⟨#[117, 112, 112, 101, 114]⟩ : ByteArray)).toList) = true → ∃ y102 : Bool, digit_isUpper_R x2 y102 ∧ r = (y102, true)) ∧ (¬ ((x1.toList == ((⟨#[117, 112, 112, 101, 114]⟩ : ByteArray)).toList) = true) → (((x1.toList == ((⟨#[108, 111, 119, 101, 114]⟩ : ByteArray)).toList) = true → ∃ y106 : Bool, digit_isLower_R x2 y106 ∧ r = (y106, true)) ∧ (¬ ((x1.toList == ((⟨#[108, 111, 119, 101, 114]⟩ : ByteArray)).toList) = true) → (((x1.toList == ((⟨#[100, 105, 103, 105, 116]⟩ : ByteArray)).toList) = true → ∃ y110 : Bool, digit_isDigit_R x2 y110 ∧ r = (y110, true)) ∧ (¬ ((x1.toList == ((⟨#[100, 105, 103, 105, 116]⟩ : ByteArray)).toList) = true) → (((x1.toList == ((⟨#[97, 108, 112, 104, 97]⟩ : ByteArray)).toList) = true → ∃ y119 : Bool, digit_isUpper_R x2 y119 ∧ ((y119 = true → r = (true, true)) ∧ (¬ (y119 = true) → ∃ y122 : Bool, digit_isLower_R x2 y122 ∧ r = (y122, true)))) ∧ (¬ ((x1.toList == ((⟨#[97, 108, 112, 104, 97]⟩ : ByteArray)).toList) = true) → (((x1.toList == ((⟨#[97, 108, 110, 117, 109]⟩ : ByteArray)).toList) = true → ∃ y126 : Bool, digit_isAlnum_R x2 y126 ∧ r = (y126, true)) ∧ (¬ ((x1.toList == ((⟨#[97, 108, 110, 117, 109]⟩ : ByteArray)).toList) = true) → (((x1.toList == ((⟨#[98, 108, 97, 110, 107]⟩ : ByteArray)).toList) = true → ∃ y130 : Bool, digit_isBlank_R x2 y130 ∧ r = (y130, true)) ∧ (¬ ((x1.toList == ((⟨#[98, 108, 97, 110, 107]⟩ : ByteArray)).toList) = true) → (((x1.toList == ((⟨#[115, 112, 97, 99, 101]⟩ : ByteArray)).toList) = true → ∃ y139 : Bool, digit_isBlank_R x2 y139 ∧ ((y139 = true → r = (true, true)) ∧ (¬ (y139 = true) → ∃ y142 : Bool, digit_within_R x2 (10 : UInt8) (13 : UInt8) y142 ∧ r = (y142, true)))) ∧ (¬ ((x1.toList == ((⟨#[115, 112, 97, 99, 101]⟩ : ByteArray)).toList) = true) → (((x1.toList == ((⟨#[99, 110, 116, 114, 108]⟩ : ByteArray)).toList) = true → (((x2.toNat : Int) < 32 → r = (true, true)) ∧ (¬ ((x2.toNat : Int) < 32) → r = ((decide ((x2.toNat : Int) = 127)), true)))) ∧ (¬ ((x1.toList == ((⟨#[99, 110, 116, 114, 108]⟩ : ByteArray)).toList) = true) → (((x1.toList == ((⟨#[103, 114, 97, 112, 104]⟩ : ByteArray)).toList) = true → ∃ y154 : Bool, digit_isGraph_R x2 y154 ∧ r = (y154, true)) ∧ (¬ ((x1.toList == ((⟨#[103, 114, 97, 112, 104]⟩ : ByteArray)).toList) = true) → (((x1.toList == ((⟨#[112, 114, 105, 110, 116]⟩ : ByteArray)).toList) = true → ∃ y162 : Bool, digit_isGraph_R x2 y162 ∧ ((y162 = true → r = (true, true)) ∧ (¬ (y162 = true) → r = ((decide ((x2.toNat : Int) = 32)), true)))) ∧ (¬ ((x1.toList == ((⟨#[112, 114, 105, 110, 116]⟩ : ByteArray)).toList) = true) → (((x1.toList == ((⟨#[112, 117, 110, 99, 116]⟩ : ByteArray)).toList) = true → ∃ y173 : Bool, digit_isGraph_R x2 y173 ∧ ((y173 = true → ∃ y176 : Bool, digit_isAlnum_R x2 y176 ∧ r = ((!y176), true)) ∧ (¬ (y173 = true) → r = (false, true)))) ∧ (¬ ((x1.toList == ((⟨#[112, 117, 110, 99, 116]⟩ : ByteArray)).toList) = true) → (((x1.toList == ((⟨#[120, 100, 105, 103, 105, 116]⟩ : ByteArray)).toList) = true → ∃ y188 : Bool, digit_isDigit_R x2 y188 ∧ ((y188 = true → r = (true, true)) ∧ (¬ (y188 = true) → ∃ y191 : Bool, digit_within_R x2 (65 : UInt8) (70 : UInt8) y191 ∧ ((y191 = true → r = (true, true)) ∧ (¬ (y191 = true) → ∃ y194 : Bool, digit_within_R x2 (97 : UInt8) (102 : UInt8) y194 ∧ r = (y194, true)))))) ∧ (¬ ((x1.toList == ((⟨#[120, 100, 105, 103, 105, 116]⟩ : ByteArray)).toList) = true) → r = (false, false)))))))))))))))))))))))))
def digit_Is_ev (fuel : Nat) (x1 : ByteArray) (x2 : UInt8) : Option (Bool × Bool) :=
  (if (x1.toList == ((⟨#[117, 112, 112, 101, 114]⟩ : ByteArray)).toList) = true then ((digit_isUpper_ev fuel x2).bind fun y102 => some (y102, true)) else (if (x1.toList == ((⟨#[108, 111, 119, 101, 114]⟩ : ByteArray)).toList) = true then ((digit_isLower_ev fuel x2).bind fun y106 => some (y106, true)) else (if (x1.toList == ((⟨#[100, 105, 103, 105, 116]⟩ : ByteArray)).toList) = true then ((digit_isDigit_ev fuel x2).bind fun y110 => some (y110, true)) else (if (x1.toList == ((⟨#[97, 108, 112, 104, 97]⟩ : ByteArray)).toList) = true then ((digit_isUpper_ev fuel x2).bind fun y119 => (if y119 = true then some (true, true) else ((digit_isLower_ev fuel x2).bind fun y122 => some (y122, true)))) else (if (x1.toList == ((⟨#[97, 108, 110, 117, 109]⟩ : ByteArray)).toList) = true then ((digit_isAlnum_ev fuel x2).bind fun y126 => some (y126, true)) else (if (x1.toList == ((⟨#[98, 108, 97, 110, 107]⟩ : ByteArray)).toList) = true then ((digit_isBlank_ev fuel x2).bind fun y130 => some (y130, true)) else (if (x1.toList == ((⟨#[115, 112, 97, 99, 101]⟩ : ByteArray)).toList) = true then ((digit_isBlank_ev fuel x2).bind fun y139 => (if y139 = true then some (true, true) else ((digit_within_ev fuel x2 (10 : UInt8) (13 : UInt8)).bind fun y142 => some (y142, true)))) else (if (x1.toList == ((⟨#[99, 110, 116, 114, 108]⟩ : ByteArray)).toList) = true then (if (x2.toNat : Int) < 32 then some (true, true) else some ((decide ((x2.toNat : Int) = 127)), true)) else (if (x1.toList == ((⟨#[103, 114, 97, 112, 104]⟩ : ByteArray)).toList) = true then ((digit_isGraph_ev fuel x2).bind fun y154 => some (y154, true)) else (if (x1.toList == ((⟨#[112, 114, 105, 110, 116]⟩ : ByteArray)).toList) = true then ((digit_isGraph_ev fuel x2).bind fun y162 => (if y162 = true then some (true, true) else some ((decide ((x2.toNat : Int) = 32)), true))) else (if (x1.toList == ((⟨#[112, 117, 110, 99, 116]⟩ : ByteArray)).toList) = true then ((digit_isGraph_ev fuel x2).bind fun y173 => (if y173 = true then ((digit_isAlnum_ev fuel x2).bind fun y176 => some ((!y176), true)) else some (false, true))) else (if (x1.toList == ((⟨#[120, 100, 105, 103, 105, 116]⟩ : ByteArray)).toList) = true then ((digit_isDigit_ev fuel x2).bind fun y188 => (if y188 = true then some (true, true) else ((digit_within_ev fuel x2 (65 : UInt8) (70 : UInt8)).bind fun y191 => (if y191 = true then some (true, true) else ((digit_within_ev fuel x2 (97 : UInt8) (102 : UInt8)).bind fun y194 => some (y194, true)))))) else some (false, false)))))))))))))
theorem digit_Is_ok {fuel : Nat} {x1 : ByteArray} {x2 : UInt8} {r : Bool × Bool} (h : digit_Is_ev fuel x1 x2 = some r) : digit_Is_R x1 x2 r := by
  unfold digit_Is_ev at h
  unfold digit_Is_R
  refine ⟨fun g12 => ?_, fun g12 => ?_⟩
  · rw [if_pos g12] at h
    obtain ⟨q13, g13, h⟩ := bind_ok h
    refine ⟨q13, digit_isUpper_ok g13, ?_⟩
    exact (Option.some.inj h).symm
  · rw [if_neg g12] at h
    refine ⟨fun g14 => ?_, fun g14 => ?_⟩
    · rw [if_pos g14] at h
      obtain ⟨q15, g15, h⟩ := bind_ok h
      refine ⟨q15, digit_isLower_ok g15, ?_⟩
      exact (Option.some.inj h).symm
    · rw [if_neg g14] at h
      refine ⟨fun g16 => ?_, fun g16 => ?_⟩
      · rw [if_pos g16] at h
        obtain ⟨q17, g17, h⟩ := bind_ok h
        refine ⟨q17, digit_isDigit_ok g17, ?_⟩
        exact (Option.some.inj h).symm
      · rw [if_neg g16] at h
        refine ⟨fun g18 => ?_, fun g18 => ?_⟩
        · rw [if_pos g18] at h
          obtain ⟨q19, g19, h⟩ := bind_ok h
          refine ⟨q19, digit_isUpper_ok g19, ?_⟩
          refine ⟨fun g20 => ?_, fun g20 => ?_⟩
          · rw [if_pos g20] at h
            exact (Option.some.inj h).symm
          · rw [if_neg g20] at h
            obtain ⟨q21, g21, h⟩ := bind_ok h
            refine ⟨q21, digit_isLower_ok g21, ?_⟩
            exact (Option.some.inj h).symm
        · rw [if_neg g18] at h
          refine ⟨fun g22 => ?_, fun g22 => ?_⟩
          · rw [if_pos g22] at h
            obtain ⟨q23, g23, h⟩ := bind_ok h
            refine ⟨q23, digit_isAlnum_ok g23, ?_⟩
            exact (Option.some.inj h).symm
          · rw [if_neg g22] at h
            refine ⟨fun g24 => ?_, fun g24 => ?_⟩
            · rw [if_pos g24] at h
              obtain ⟨q25, g25, h⟩ := bind_ok h
              refine ⟨q25, digit_isBlank_ok g25, ?_⟩
              exact (Option.some.inj h).symm
            · rw [if_neg g24] at h
              refine ⟨fun g26 => ?_, fun g26 => ?_⟩
              · rw [if_pos g26] at h
                obtain ⟨q27, g27, h⟩ := bind_ok h
                refine ⟨q27, digit_isBlank_ok g27, ?_⟩
                refine ⟨fun g28 => ?_, fun g28 => ?_⟩
                · rw [if_pos g28] at h
                  exact (Option.some.inj h).symm
                · rw [if_neg g28] at h
                  obtain ⟨q29, g29, h⟩ := bind_ok h
                  refine ⟨q29, digit_within_ok g29, ?_⟩
                  exact (Option.some.inj h).symm
              · rw [if_neg g26] at h
                refine ⟨fun g30 => ?_, fun g30 => ?_⟩
                · rw [if_pos g30] at h
                  refine ⟨fun g31 => ?_, fun g31 => ?_⟩
                  · rw [if_pos g31] at h
                    exact (Option.some.inj h).symm
                  · rw [if_neg g31] at h
                    exact (Option.some.inj h).symm
                · rw [if_neg g30] at h
                  refine ⟨fun g32 => ?_, fun g32 => ?_⟩
                  · rw [if_pos g32] at h
                    obtain ⟨q33, g33, h⟩ := bind_ok h
                    refine ⟨q33, digit_isGraph_ok g33, ?_⟩
                    exact (Option.some.inj h).symm
                  · rw [if_neg g32] at h
                    refine ⟨fun g34 => ?_, fun g34 => ?_⟩
                    · rw [if_pos g34] at h
                      obtain ⟨q35, g35, h⟩ := bind_ok h
                      refine ⟨q35, digit_isGraph_ok g35, ?_⟩
                      refine ⟨fun g36 => ?_, fun g36 => ?_⟩
                      · rw [if_pos g36] at h
                        exact (Option.some.inj h).symm
                      · rw [if_neg g36] at h
                        exact (Option.some.inj h).symm
                    · rw [if_neg g34] at h
                      refine ⟨fun g37 => ?_, fun g37 => ?_⟩
                      · rw [if_pos g37] at h
                        obtain ⟨q38, g38, h⟩ := bind_ok h
                        refine ⟨q38, digit_isGraph_ok g38, ?_⟩
                        refine ⟨fun g39 => ?_, fun g39 => ?_⟩
                        · rw [if_pos g39] at h
                          obtain ⟨q40, g40, h⟩ := bind_ok h
                          refine ⟨q40, digit_isAlnum_ok g40, ?_⟩
                          exact (Option.some.inj h).symm
                        · rw [if_neg g39] at h
                          exact (Option.some.inj h).symm
                      · rw [if_neg g37] at h
                        refine ⟨fun g41 => ?_, fun g41 => ?_⟩
                        · rw [if_pos g41] at h
                          obtain ⟨q42, g42, h⟩ := bind_ok h
                          refine ⟨q42, digit_isDigit_ok g42, ?_⟩
                          refine ⟨fun g43 => ?_, fun g43 => ?_⟩
                          · rw [if_pos g43] at h
                            exact (Option.some.inj h).symm
                          · rw [if_neg g43] at h
                            obtain ⟨q44, g44, h⟩ := bind_ok h
                            refine ⟨q44, digit_within_ok g44, ?_⟩
                            refine ⟨fun g45 => ?_, fun g45 => ?_⟩
                            · rw [if_pos g45] at h
                              exact (Option.some.inj h).symm
                            · rw [if_neg g45] at h
                              obtain ⟨q46, g46, h⟩ := bind_ok h
                              refine ⟨q46, digit_within_ok g46, ?_⟩
                              exact (Option.some.inj h).symm
                        · rw [if_neg g41] at h
                          exact (Option.some.inj h).symm
set_option maxHeartbeats 4000000 in
theorem digit_Is_con (x1 : ByteArray) (x2 : UInt8) (r : Bool × Bool) (h : digit_Is_R x1 x2 r) : Con Try.prog 37 [.v (.string x1), .v (.int .u8 ((x2.toNat : Int)))] [] [] (fun rr bx tk => rr = .tup [.v (.bool r.1), .v (.bool r.2)] ∧ bx = [] ∧ tk = []) := by
  refine xenter Try.func37 rfl rfl fun g hg => ?_
  simp only [Try.ntmps37, slots]
  refine xseq ?_
  refine xregion ?_
  refine xvalP (pv_assign rfl) rfl rfl ?_
  refine xvalP (pv_assign rfl) rfl rfl ?_
  refine xnil ?_
  refine xthen ?_
  refine xseq ?_
  refine xseq ?_
  refine xregion ?_
  refine xvalP (pv_move rfl) rfl rfl ?_
  refine xnil ?_
  refine xthen ?_
  refine xblock ?_
  refine xseq ?_
  refine xregion ?_
  refine xvalP (pv_bin2 rfl rfl rfl) rfl rfl ?_
  refine xvalP (pv_assign rfl) rfl rfl ?_
  refine xnil ?_
  refine xthen ?_
  by_cases hp100 : (x1.toList == ((⟨#[117, 112, 112, 101, 114]⟩ : ByteArray)).toList) = true
  · replace h := h.1 hp100
    refine xcondT' hp100 rfl ?_
    refine xseq ?_
    refine xregion ?_
    refine xvalP (pv_move rfl) rfl rfl ?_
    obtain ⟨y102, h101, h⟩ := h
    refine xcall0 (digit_isUpper_con x2 _ h101) Try.func40 (by kernel_rfl) rfl (.cons rfl (.refl _) .nil) rfl rfl ?_
    refine xvalP (pv_assign rfl) rfl rfl ?_
    refine xvalP (pv_assign rfl) rfl rfl ?_
    refine xnil ?_
    refine xthen ?_
    refine xretc ?_
    refine xin_ret ?_
    refine xthen_ret ?_
    replace h := h.symm
    subst h
    exact xret2 hg rfl rfl (.refl _) rfl (.refl _) (SubM.of (.nil _) (.nil _)) ⟨rfl, rfl, rfl⟩
  · replace h := h.2 hp100
    refine xcondF' (b_f hp100) rfl ?_
    refine xseq ?_
    refine xregion ?_
    refine xvalP (pv_bin2 rfl rfl rfl) rfl rfl ?_
    refine xvalP (pv_assign rfl) rfl rfl ?_
    refine xnil ?_
    refine xthen ?_
    by_cases hp104 : (x1.toList == ((⟨#[108, 111, 119, 101, 114]⟩ : ByteArray)).toList) = true
    · replace h := h.1 hp104
      refine xcondT' hp104 rfl ?_
      refine xseq ?_
      refine xregion ?_
      refine xvalP (pv_move rfl) rfl rfl ?_
      obtain ⟨y106, h105, h⟩ := h
      refine xcall0 (digit_isLower_con x2 _ h105) Try.func41 (by kernel_rfl) rfl (.cons rfl (.refl _) .nil) rfl rfl ?_
      refine xvalP (pv_assign rfl) rfl rfl ?_
      refine xvalP (pv_assign rfl) rfl rfl ?_
      refine xnil ?_
      refine xthen ?_
      refine xretc ?_
      refine xin_ret ?_
      refine xthen_ret ?_
      replace h := h.symm
      subst h
      exact xret2 hg rfl rfl (.refl _) rfl (.refl _) (SubM.of (.nil _) (.nil _)) ⟨rfl, rfl, rfl⟩
    · replace h := h.2 hp104
      refine xcondF' (b_f hp104) rfl ?_
      refine xseq ?_
      refine xregion ?_
      refine xvalP (pv_bin2 rfl rfl rfl) rfl rfl ?_
      refine xvalP (pv_assign rfl) rfl rfl ?_
      refine xnil ?_
      refine xthen ?_
      by_cases hp108 : (x1.toList == ((⟨#[100, 105, 103, 105, 116]⟩ : ByteArray)).toList) = true
      · replace h := h.1 hp108
        refine xcondT' hp108 rfl ?_
        refine xseq ?_
        refine xregion ?_
        refine xvalP (pv_move rfl) rfl rfl ?_
        obtain ⟨y110, h109, h⟩ := h
        refine xcall0 (digit_isDigit_con x2 _ h109) Try.func42 (by kernel_rfl) rfl (.cons rfl (.refl _) .nil) rfl rfl ?_
        refine xvalP (pv_assign rfl) rfl rfl ?_
        refine xvalP (pv_assign rfl) rfl rfl ?_
        refine xnil ?_
        refine xthen ?_
        refine xretc ?_
        refine xin_ret ?_
        refine xthen_ret ?_
        replace h := h.symm
        subst h
        exact xret2 hg rfl rfl (.refl _) rfl (.refl _) (SubM.of (.nil _) (.nil _)) ⟨rfl, rfl, rfl⟩
      · replace h := h.2 hp108
        refine xcondF' (b_f hp108) rfl ?_
        refine xseq ?_
        refine xregion ?_
        refine xvalP (pv_bin2 rfl rfl rfl) rfl rfl ?_
        refine xvalP (pv_assign rfl) rfl rfl ?_
        refine xnil ?_
        refine xthen ?_
        by_cases hp112 : (x1.toList == ((⟨#[97, 108, 112, 104, 97]⟩ : ByteArray)).toList) = true
        · replace h := h.1 hp112
          refine xcondT' hp112 rfl ?_
          refine xseq ?_
          refine xregion ?_
          refine xvalP (pv_move rfl) rfl rfl ?_
          obtain ⟨y119, h118, h⟩ := h
          refine xcall0 (digit_isUpper_con x2 _ h118) Try.func40 (by kernel_rfl) rfl (.cons rfl (.refl _) .nil) rfl rfl ?_
          refine xvalP (pv_move rfl) rfl rfl ?_
          by_cases hp120 : y119 = true
          · replace h := h.1 hp120
            refine xsetB 23 hp120 rfl ?_
            refine xskip rfl rfl ?_
            refine xskip rfl rfl ?_
            refine xvalP (pv_pick rfl rfl) rfl rfl ?_
            refine xvalP (pv_assign rfl) rfl rfl ?_
            refine xvalP (pv_assign rfl) rfl rfl ?_
            refine xnil ?_
            refine xthen ?_
            refine xretc ?_
            refine xin_ret ?_
            refine xthen_ret ?_
            replace h := h.symm
            subst h
            exact xret2 hg rfl rfl (.refl _) rfl (.refl _) (SubM.of (.nil _) (.nil _)) ⟨rfl, rfl, rfl⟩
          · replace h := h.2 hp120
            refine xsetB 23 (b_f hp120) rfl ?_
            refine xvalP (pv_move rfl) rfl rfl ?_
            obtain ⟨y122, h121, h⟩ := h
            refine xcall0 (digit_isLower_con x2 _ h121) Try.func41 (by kernel_rfl) rfl (.cons rfl (.refl _) .nil) rfl rfl ?_
            refine xvalP (pv_pick rfl rfl) rfl rfl ?_
            refine xvalP (pv_assign rfl) rfl rfl ?_
            refine xvalP (pv_assign rfl) rfl rfl ?_
            refine xnil ?_
            refine xthen ?_
            refine xretc ?_
            refine xin_ret ?_
            refine xthen_ret ?_
            replace h := h.symm
            subst h
            exact xret2 hg rfl rfl (.refl _) rfl (.refl _) (SubM.of (.nil _) (.nil _)) ⟨rfl, rfl, rfl⟩
        · replace h := h.2 hp112
          refine xcondF' (b_f hp112) rfl ?_
          refine xseq ?_
          refine xregion ?_
          refine xvalP (pv_bin2 rfl rfl rfl) rfl rfl ?_
          refine xvalP (pv_assign rfl) rfl rfl ?_
          refine xnil ?_
          refine xthen ?_
          by_cases hp124 : (x1.toList == ((⟨#[97, 108, 110, 117, 109]⟩ : ByteArray)).toList) = true
          · replace h := h.1 hp124
            refine xcondT' hp124 rfl ?_
            refine xseq ?_
            refine xregion ?_
            refine xvalP (pv_move rfl) rfl rfl ?_
            obtain ⟨y126, h125, h⟩ := h
            refine xcall0 (digit_isAlnum_con x2 _ h125) Try.func43 (by kernel_rfl) rfl (.cons rfl (.refl _) .nil) rfl rfl ?_
            refine xvalP (pv_assign rfl) rfl rfl ?_
            refine xvalP (pv_assign rfl) rfl rfl ?_
            refine xnil ?_
            refine xthen ?_
            refine xretc ?_
            refine xin_ret ?_
            refine xthen_ret ?_
            replace h := h.symm
            subst h
            exact xret2 hg rfl rfl (.refl _) rfl (.refl _) (SubM.of (.nil _) (.nil _)) ⟨rfl, rfl, rfl⟩
          · replace h := h.2 hp124
            refine xcondF' (b_f hp124) rfl ?_
            refine xseq ?_
            refine xregion ?_
            refine xvalP (pv_bin2 rfl rfl rfl) rfl rfl ?_
            refine xvalP (pv_assign rfl) rfl rfl ?_
            refine xnil ?_
            refine xthen ?_
            by_cases hp128 : (x1.toList == ((⟨#[98, 108, 97, 110, 107]⟩ : ByteArray)).toList) = true
            · replace h := h.1 hp128
              refine xcondT' hp128 rfl ?_
              refine xseq ?_
              refine xregion ?_
              refine xvalP (pv_move rfl) rfl rfl ?_
              obtain ⟨y130, h129, h⟩ := h
              refine xcall0 (digit_isBlank_con x2 _ h129) Try.func44 (by kernel_rfl) rfl (.cons rfl (.refl _) .nil) rfl rfl ?_
              refine xvalP (pv_assign rfl) rfl rfl ?_
              refine xvalP (pv_assign rfl) rfl rfl ?_
              refine xnil ?_
              refine xthen ?_
              refine xretc ?_
              refine xin_ret ?_
              refine xthen_ret ?_
              replace h := h.symm
              subst h
              exact xret2 hg rfl rfl (.refl _) rfl (.refl _) (SubM.of (.nil _) (.nil _)) ⟨rfl, rfl, rfl⟩
            · replace h := h.2 hp128
              refine xcondF' (b_f hp128) rfl ?_
              refine xseq ?_
              refine xregion ?_
              refine xvalP (pv_bin2 rfl rfl rfl) rfl rfl ?_
              refine xvalP (pv_assign rfl) rfl rfl ?_
              refine xnil ?_
              refine xthen ?_
              by_cases hp132 : (x1.toList == ((⟨#[115, 112, 97, 99, 101]⟩ : ByteArray)).toList) = true
              · replace h := h.1 hp132
                refine xcondT' hp132 rfl ?_
                refine xseq ?_
                refine xregion ?_
                refine xvalP (pv_move rfl) rfl rfl ?_
                obtain ⟨y139, h138, h⟩ := h
                refine xcall0 (digit_isBlank_con x2 _ h138) Try.func44 (by kernel_rfl) rfl (.cons rfl (.refl _) .nil) rfl rfl ?_
                refine xvalP (pv_move rfl) rfl rfl ?_
                by_cases hp140 : y139 = true
                · replace h := h.1 hp140
                  refine xsetB 39 hp140 rfl ?_
                  refine xskip rfl rfl ?_
                  refine xskip rfl rfl ?_
                  refine xvalP (pv_pick rfl rfl) rfl rfl ?_
                  refine xvalP (pv_assign rfl) rfl rfl ?_
                  refine xvalP (pv_assign rfl) rfl rfl ?_
                  refine xnil ?_
                  refine xthen ?_
                  refine xretc ?_
                  refine xin_ret ?_
                  refine xthen_ret ?_
                  replace h := h.symm
                  subst h
                  exact xret2 hg rfl rfl (.refl _) rfl (.refl _) (SubM.of (.nil _) (.nil _)) ⟨rfl, rfl, rfl⟩
                · replace h := h.2 hp140
                  refine xsetB 39 (b_f hp140) rfl ?_
                  refine xvalP (pv_move rfl) rfl rfl ?_
                  obtain ⟨y142, h141, h⟩ := h
                  refine xcall0 (digit_within_con x2 (10 : UInt8) (13 : UInt8) _ h141) Try.func45 (by kernel_rfl) rfl (.cons rfl (.refl _) (.cons rfl (.refl _) (.cons rfl (.refl _) .nil))) rfl rfl ?_
                  refine xvalP (pv_pick rfl rfl) rfl rfl ?_
                  refine xvalP (pv_assign rfl) rfl rfl ?_
                  refine xvalP (pv_assign rfl) rfl rfl ?_
                  refine xnil ?_
                  refine xthen ?_
                  refine xretc ?_
                  refine xin_ret ?_
                  refine xthen_ret ?_
                  replace h := h.symm
                  subst h
                  exact xret2 hg rfl rfl (.refl _) rfl (.refl _) (SubM.of (.nil _) (.nil _)) ⟨rfl, rfl, rfl⟩
              · replace h := h.2 hp132
                refine xcondF' (b_f hp132) rfl ?_
                refine xseq ?_
                refine xregion ?_
                refine xvalP (pv_bin2 rfl rfl rfl) rfl rfl ?_
                refine xvalP (pv_assign rfl) rfl rfl ?_
                refine xnil ?_
                refine xthen ?_
                by_cases hp144 : (x1.toList == ((⟨#[99, 110, 116, 114, 108]⟩ : ByteArray)).toList) = true
                · replace h := h.1 hp144
                  refine xcondT' hp144 rfl ?_
                  refine xseq ?_
                  refine xregion ?_
                  refine xvalP (pv_move rfl) rfl rfl ?_
                  refine xvalP (pv_bin2 rfl rfl rfl) rfl rfl ?_
                  refine xvalP (pv_move rfl) rfl rfl ?_
                  by_cases hp149 : (x2.toNat : Int) < 32
                  · replace h := h.1 hp149
                    refine xsetB 47 (decide_eq_true hp149) rfl ?_
                    refine xskip rfl rfl ?_
                    refine xskip rfl rfl ?_
                    refine xvalP (pv_pick rfl rfl) rfl rfl ?_
                    refine xvalP (pv_assign rfl) rfl rfl ?_
                    refine xvalP (pv_assign rfl) rfl rfl ?_
                    refine xnil ?_
                    refine xthen ?_
                    refine xretc ?_
                    refine xin_ret ?_
                    refine xthen_ret ?_
                    replace h := h.symm
                    subst h
                    exact xret2 hg rfl rfl (.refl _) rfl (.refl _) (SubM.of (.nil _) (.nil _)) ⟨rfl, rfl, rfl⟩
                  · replace h := h.2 hp149
                    refine xsetB 47 (decide_eq_false hp149) rfl ?_
                    refine xvalP (pv_move rfl) rfl rfl ?_
                    refine xvalP (pv_bin2 rfl rfl rfl) rfl rfl ?_
                    refine xvalP (pv_pick rfl rfl) rfl rfl ?_
                    refine xvalP (pv_assign rfl) rfl rfl ?_
                    refine xvalP (pv_assign rfl) rfl rfl ?_
                    refine xnil ?_
                    refine xthen ?_
                    refine xretc ?_
                    refine xin_ret ?_
                    refine xthen_ret ?_
                    replace h := h.symm
                    subst h
                    exact xret2 hg rfl rfl (.refl _) rfl (.refl _) (SubM.of (.nil _) (.nil _)) ⟨rfl, rfl, rfl⟩
                · replace h := h.2 hp144
                  refine xcondF' (b_f hp144) rfl ?_
                  refine xseq ?_
                  refine xregion ?_
                  refine xvalP (pv_bin2 rfl rfl rfl) rfl rfl ?_
                  refine xvalP (pv_assign rfl) rfl rfl ?_
                  refine xnil ?_
                  refine xthen ?_
                  by_cases hp152 : (x1.toList == ((⟨#[103, 114, 97, 112, 104]⟩ : ByteArray)).toList) = true
                  · replace h := h.1 hp152
                    refine xcondT' hp152 rfl ?_
                    refine xseq ?_
                    refine xregion ?_
                    refine xvalP (pv_move rfl) rfl rfl ?_
                    obtain ⟨y154, h153, h⟩ := h
                    refine xcall0 (digit_isGraph_con x2 _ h153) Try.func46 (by kernel_rfl) rfl (.cons rfl (.refl _) .nil) rfl rfl ?_
                    refine xvalP (pv_assign rfl) rfl rfl ?_
                    refine xvalP (pv_assign rfl) rfl rfl ?_
                    refine xnil ?_
                    refine xthen ?_
                    refine xretc ?_
                    refine xin_ret ?_
                    refine xthen_ret ?_
                    replace h := h.symm
                    subst h
                    exact xret2 hg rfl rfl (.refl _) rfl (.refl _) (SubM.of (.nil _) (.nil _)) ⟨rfl, rfl, rfl⟩
                  · replace h := h.2 hp152
                    refine xcondF' (b_f hp152) rfl ?_
                    refine xseq ?_
                    refine xregion ?_
                    refine xvalP (pv_bin2 rfl rfl rfl) rfl rfl ?_
                    refine xvalP (pv_assign rfl) rfl rfl ?_
                    refine xnil ?_
                    refine xthen ?_
                    by_cases hp156 : (x1.toList == ((⟨#[112, 114, 105, 110, 116]⟩ : ByteArray)).toList) = true
                    · replace h := h.1 hp156
                      refine xcondT' hp156 rfl ?_
                      refine xseq ?_
                      refine xregion ?_
                      refine xvalP (pv_move rfl) rfl rfl ?_
                      obtain ⟨y162, h161, h⟩ := h
                      refine xcall0 (digit_isGraph_con x2 _ h161) Try.func46 (by kernel_rfl) rfl (.cons rfl (.refl _) .nil) rfl rfl ?_
                      refine xvalP (pv_move rfl) rfl rfl ?_
                      by_cases hp163 : y162 = true
                      · replace h := h.1 hp163
                        refine xsetB 59 hp163 rfl ?_
                        refine xskip rfl rfl ?_
                        refine xskip rfl rfl ?_
                        refine xvalP (pv_pick rfl rfl) rfl rfl ?_
                        refine xvalP (pv_assign rfl) rfl rfl ?_
                        refine xvalP (pv_assign rfl) rfl rfl ?_
                        refine xnil ?_
                        refine xthen ?_
                        refine xretc ?_
                        refine xin_ret ?_
                        refine xthen_ret ?_
                        replace h := h.symm
                        subst h
                        exact xret2 hg rfl rfl (.refl _) rfl (.refl _) (SubM.of (.nil _) (.nil _)) ⟨rfl, rfl, rfl⟩
                      · replace h := h.2 hp163
                        refine xsetB 59 (b_f hp163) rfl ?_
                        refine xvalP (pv_move rfl) rfl rfl ?_
                        refine xvalP (pv_bin2 rfl rfl rfl) rfl rfl ?_
                        refine xvalP (pv_pick rfl rfl) rfl rfl ?_
                        refine xvalP (pv_assign rfl) rfl rfl ?_
                        refine xvalP (pv_assign rfl) rfl rfl ?_
                        refine xnil ?_
                        refine xthen ?_
                        refine xretc ?_
                        refine xin_ret ?_
                        refine xthen_ret ?_
                        replace h := h.symm
                        subst h
                        exact xret2 hg rfl rfl (.refl _) rfl (.refl _) (SubM.of (.nil _) (.nil _)) ⟨rfl, rfl, rfl⟩
                    · replace h := h.2 hp156
                      refine xcondF' (b_f hp156) rfl ?_
                      refine xseq ?_
                      refine xregion ?_
                      refine xvalP (pv_bin2 rfl rfl rfl) rfl rfl ?_
                      refine xvalP (pv_assign rfl) rfl rfl ?_
                      refine xnil ?_
                      refine xthen ?_
                      by_cases hp166 : (x1.toList == ((⟨#[112, 117, 110, 99, 116]⟩ : ByteArray)).toList) = true
                      · replace h := h.1 hp166
                        refine xcondT' hp166 rfl ?_
                        refine xseq ?_
                        refine xregion ?_
                        refine xvalP (pv_move rfl) rfl rfl ?_
                        obtain ⟨y173, h172, h⟩ := h
                        refine xcall0 (digit_isGraph_con x2 _ h172) Try.func46 (by kernel_rfl) rfl (.cons rfl (.refl _) .nil) rfl rfl ?_
                        refine xvalP (pv_move rfl) rfl rfl ?_
                        by_cases hp174 : y173 = true
                        · replace h := h.1 hp174
                          refine xsetB 67 hp174 rfl ?_
                          refine xvalP (pv_move rfl) rfl rfl ?_
                          obtain ⟨y176, h175, h⟩ := h
                          refine xcall0 (digit_isAlnum_con x2 _ h175) Try.func43 (by kernel_rfl) rfl (.cons rfl (.refl _) .nil) rfl rfl ?_
                          refine xvalP (pv_not rfl) rfl rfl ?_
                          refine xvalP (pv_pick rfl rfl) rfl rfl ?_
                          refine xvalP (pv_assign rfl) rfl rfl ?_
                          refine xvalP (pv_assign rfl) rfl rfl ?_
                          refine xnil ?_
                          refine xthen ?_
                          refine xretc ?_
                          refine xin_ret ?_
                          refine xthen_ret ?_
                          replace h := h.symm
                          subst h
                          exact xret2 hg rfl rfl (.refl _) rfl (.refl _) (SubM.of (.nil _) (.nil _)) ⟨rfl, rfl, rfl⟩
                        · replace h := h.2 hp174
                          refine xsetB 67 (b_f hp174) rfl ?_
                          refine xskip rfl rfl ?_
                          refine xskip rfl rfl ?_
                          refine xskip rfl rfl ?_
                          refine xvalP (pv_pick rfl rfl) rfl rfl ?_
                          refine xvalP (pv_assign rfl) rfl rfl ?_
                          refine xvalP (pv_assign rfl) rfl rfl ?_
                          refine xnil ?_
                          refine xthen ?_
                          refine xretc ?_
                          refine xin_ret ?_
                          refine xthen_ret ?_
                          replace h := h.symm
                          subst h
                          exact xret2 hg rfl rfl (.refl _) rfl (.refl _) (SubM.of (.nil _) (.nil _)) ⟨rfl, rfl, rfl⟩
                      · replace h := h.2 hp166
                        refine xcondF' (b_f hp166) rfl ?_
                        refine xseq ?_
                        refine xregion ?_
                        refine xvalP (pv_bin2 rfl rfl rfl) rfl rfl ?_
                        refine xvalP (pv_assign rfl) rfl rfl ?_
                        refine xnil ?_
                        refine xthen ?_
                        by_cases hp178 : (x1.toList == ((⟨#[120, 100, 105, 103, 105, 116]⟩ : ByteArray)).toList) = true
                        · replace h := h.1 hp178
                          refine xcondT' hp178 rfl ?_
                          refine xseq ?_
                          refine xregion ?_
                          refine xvalP (pv_move rfl) rfl rfl ?_
                          obtain ⟨y188, h187, h⟩ := h
                          refine xcall0 (digit_isDigit_con x2 _ h187) Try.func42 (by kernel_rfl) rfl (.cons rfl (.refl _) .nil) rfl rfl ?_
                          refine xvalP (pv_move rfl) rfl rfl ?_
                          by_cases hp189 : y188 = true
                          · replace h := h.1 hp189
                            refine xsetB 76 hp189 rfl ?_
                            refine xskip rfl rfl ?_
                            refine xskip rfl rfl ?_
                            refine xvalP (pv_pick rfl rfl) rfl rfl ?_
                            refine xvalP (pv_move rfl) rfl rfl ?_
                            refine xskip rfl rfl ?_
                            refine xskip rfl rfl ?_
                            refine xvalP (pv_pick rfl rfl) rfl rfl ?_
                            refine xvalP (pv_assign rfl) rfl rfl ?_
                            refine xvalP (pv_assign rfl) rfl rfl ?_
                            refine xnil ?_
                            refine xthen ?_
                            refine xretc ?_
                            refine xin_ret ?_
                            refine xthen_ret ?_
                            replace h := h.symm
                            subst h
                            exact xret2 hg rfl rfl (.refl _) rfl (.refl _) (SubM.of (.nil _) (.nil _)) ⟨rfl, rfl, rfl⟩
                          · replace h := h.2 hp189
                            refine xsetB 76 (b_f hp189) rfl ?_
                            refine xvalP (pv_move rfl) rfl rfl ?_
                            obtain ⟨y191, h190, h⟩ := h
                            refine xcall0 (digit_within_con x2 (65 : UInt8) (70 : UInt8) _ h190) Try.func45 (by kernel_rfl) rfl (.cons rfl (.refl _) (.cons rfl (.refl _) (.cons rfl (.refl _) .nil))) rfl rfl ?_
                            refine xvalP (pv_pick rfl rfl) rfl rfl ?_
                            refine xvalP (pv_move rfl) rfl rfl ?_
                            by_cases hp192 : y191 = true
                            · replace h := h.1 hp192
                              refine xsetB 80 hp192 rfl ?_
                              refine xskip rfl rfl ?_
                              refine xskip rfl rfl ?_
                              refine xvalP (pv_pick rfl rfl) rfl rfl ?_
                              refine xvalP (pv_assign rfl) rfl rfl ?_
                              refine xvalP (pv_assign rfl) rfl rfl ?_
                              refine xnil ?_
                              refine xthen ?_
                              refine xretc ?_
                              refine xin_ret ?_
                              refine xthen_ret ?_
                              replace h := h.symm
                              subst h
                              exact xret2 hg rfl rfl (.refl _) rfl (.refl _) (SubM.of (.nil _) (.nil _)) ⟨rfl, rfl, rfl⟩
                            · replace h := h.2 hp192
                              refine xsetB 80 (b_f hp192) rfl ?_
                              refine xvalP (pv_move rfl) rfl rfl ?_
                              obtain ⟨y194, h193, h⟩ := h
                              refine xcall0 (digit_within_con x2 (97 : UInt8) (102 : UInt8) _ h193) Try.func45 (by kernel_rfl) rfl (.cons rfl (.refl _) (.cons rfl (.refl _) (.cons rfl (.refl _) .nil))) rfl rfl ?_
                              refine xvalP (pv_pick rfl rfl) rfl rfl ?_
                              refine xvalP (pv_assign rfl) rfl rfl ?_
                              refine xvalP (pv_assign rfl) rfl rfl ?_
                              refine xnil ?_
                              refine xthen ?_
                              refine xretc ?_
                              refine xin_ret ?_
                              refine xthen_ret ?_
                              replace h := h.symm
                              subst h
                              exact xret2 hg rfl rfl (.refl _) rfl (.refl _) (SubM.of (.nil _) (.nil _)) ⟨rfl, rfl, rfl⟩
                        · replace h := h.2 hp178
                          refine xcondF' (b_f hp178) rfl ?_
                          refine xskipc ?_
                          refine xin_normal ?_
                          refine xthen ?_
                          refine xseq ?_
                          refine xregion ?_
                          refine xvalP (pv_assign rfl) rfl rfl ?_
                          refine xvalP (pv_assign rfl) rfl rfl ?_
                          refine xnil ?_
                          refine xthen ?_
                          refine xretc ?_
                          replace h := h.symm
                          subst h
                          exact xret2 hg rfl rfl (.refl _) rfl (.refl _) (SubM.of (.nil _) (.nil _)) ⟨rfl, rfl, rfl⟩
/-- class.with -/
def class_with_R (sv1 : Arr 4 (UInt64)) (c2 : UInt8) (r : (Arr 4 (UInt64))) : Prop :=
  (64 : Int) ≠ 0 ∧ ∃ c4 : UInt8, (c4.toNat : Int) = IntKind.u8.wrap (((c2.toNat : Int)).tdiv 64) ∧ (0 ≤ ((c4.toNat : Int) : Int) ∧ ((c4.toNat : Int) : Int) < 4) ∧ ∃ y6 : UInt64, sv1.l[((c4.toNat : Int) : Int).toNat]? = some y6 ∧ (64 : Int) ≠ 0 ∧ ∃ c8 : UInt8, (c8.toNat : Int) = (((c2.toNat : Int)).tmod 64) ∧ (0 : Int) ≤ (c8.toNat : Int) ∧ ∃ c10 : UInt64, (c10.toNat : Int) = IntKind.u64.wrap ((1 : Int) * 2 ^ (min ((c8.toNat : Int) : Int).toNat IntKind.u64.bits)) ∧ ∃ c12 : UInt64, (c12.toNat : Int) = IntKind.u64.wrap (BitVec.ofInt IntKind.u64.bits (y6.toNat : Int) ||| BitVec.ofInt IntKind.u64.bits (c10.toNat : Int)).toNat ∧ (0 ≤ ((c4.toNat : Int) : Int) ∧ ((c4.toNat : Int) : Int) < 4) ∧ ∃ y14 : UInt64, sv1.l[((c4.toNat : Int) : Int).toNat]? = some y14 ∧ r = (Arr.set sv1 ((c4.toNat : Int) : Int).toNat c12)
def class_with_ev (fuel : Nat) (sv1 : Arr 4 (UInt64)) (c2 : UInt8) : Option ((Arr 4 (UInt64))) :=
  (if (64 : Int) ≠ 0 then (exB (IntKind.u8.wrap (((c2.toNat : Int)).tdiv 64)) fun c4 => (if (0 ≤ ((c4.toNat : Int) : Int) ∧ ((c4.toNat : Int) : Int) < 4) then ((sv1.l[((c4.toNat : Int) : Int).toNat]?).bind fun y6 => (if (64 : Int) ≠ 0 then (exB ((((c2.toNat : Int)).tmod 64)) fun c8 => (if (0 : Int) ≤ (c8.toNat : Int) then (exL (IntKind.u64.wrap ((1 : Int) * 2 ^ (min ((c8.toNat : Int) : Int).toNat IntKind.u64.bits))) fun c10 => (exL (IntKind.u64.wrap (BitVec.ofInt IntKind.u64.bits (y6.toNat : Int) ||| BitVec.ofInt IntKind.u64.bits (c10.toNat : Int)).toNat) fun c12 => (if (0 ≤ ((c4.toNat : Int) : Int) ∧ ((c4.toNat : Int) : Int) < 4) then ((sv1.l[((c4.toNat : Int) : Int).toNat]?).bind fun y14 => some (Arr.set sv1 ((c4.toNat : Int) : Int).toNat c12)) else none))) else none)) else none)) else none)) else none)
theorem class_with_ok {fuel : Nat} {sv1 : Arr 4 (UInt64)} {c2 : UInt8} {r : (Arr 4 (UInt64))} (h : class_with_ev fuel sv1 c2 = some r) : class_with_R sv1 c2 r := by
  unfold class_with_ev at h
  unfold class_with_R
  obtain ⟨g47, h⟩ := if_ok h
  refine ⟨g47, ?_⟩
  obtain ⟨q48, g48, h⟩ := exB_ok h
  refine ⟨q48, g48, ?_⟩
  obtain ⟨g49, h⟩ := if_ok h
  refine ⟨g49, ?_⟩
  obtain ⟨q50, g50, h⟩ := bind_ok h
  refine ⟨q50, g50, ?_⟩
  obtain ⟨g51, h⟩ := if_ok h
  refine ⟨g51, ?_⟩
  obtain ⟨q52, g52, h⟩ := exB_ok h
  refine ⟨q52, g52, ?_⟩
  obtain ⟨g53, h⟩ := if_ok h
  refine ⟨g53, ?_⟩
  obtain ⟨q54, g54, h⟩ := exL_ok h
  refine ⟨q54, g54, ?_⟩
  obtain ⟨q55, g55, h⟩ := exL_ok h
  refine ⟨q55, g55, ?_⟩
  obtain ⟨g56, h⟩ := if_ok h
  refine ⟨g56, ?_⟩
  obtain ⟨q57, g57, h⟩ := bind_ok h
  refine ⟨q57, g57, ?_⟩
  exact (Option.some.inj h).symm
set_option maxHeartbeats 4000000 in
theorem class_with_con (sv1 : Arr 4 (UInt64)) (c2 : UInt8) (r : (Arr 4 (UInt64))) (h : class_with_R sv1 c2 r) : Con Try.prog 26 [.agg ((List.map ew sv1.l).flatten), .v (.int .u8 ((c2.toNat : Int)))] [] [] (Ret (.agg ((List.map ew r.l).flatten))) := by
  refine xenter Try.func26 rfl rfl fun g hg => ?_
  simp only [Try.ntmps26, slots]
  refine xseq ?_
  refine xregion ?_
  refine xbox rfl rfl rfl rfl fun b2 => ?_
  refine xalloc InfC.h rfl rfl fun b4 => ?_
  refine xreb 0 ((List.map ew ((Arr.rep 4 (0 : UInt64))).l).flatten) rfl rfl ?_
  refine xnil ?_
  refine xthen ?_
  refine xseq ?_
  refine xregion ?_
  refine xvalP (pv_move rfl) rfl rfl ?_
  obtain ⟨h3, h⟩ := h
  obtain ⟨c4, h3r, h⟩ := h
  refine xvalP (pv_quoW h3 h3r rfl rfl rfl) rfl rfl ?_
  obtain ⟨h5, h⟩ := h
  obtain ⟨y6, h5b, h⟩ := h
  refine xvalP (pv_indexAddrBA h5 UndC.h ShpC.h rfl rfl) rfl rfl ?_
  refine xval (qv_loadA (f := ew) (a := sv1) (k := 1) (off := 0) (i := ((c4.toNat : Int) : Int).toNat) 1 [] [] h5b (by first | rfl | exact (List.append_nil _).symm | exact List.append_nil _ | exact List.append_assoc _ _ _ | exact (List.append_assoc _ _ _).symm | exact congrArg _ (List.append_nil _).symm | exact congrArg _ (List.append_nil _) | (simp; done) | (simp [cellsS]; done)) (by first | rfl | omega | (simp only [List.length_cons, List.length_nil]; omega) | (simp only [seg_len, List.length_append, List.length_cons, List.length_nil]; omega)) (by decide) rfl ShpC.h rfl rfl) rfl rfl ?_
  refine xvalP (pv_move rfl) rfl rfl ?_
  obtain ⟨h7, h⟩ := h
  obtain ⟨c8, h7r, h⟩ := h
  refine xvalP (pv_remW h7 h7r rfl rfl rfl) rfl rfl ?_
  obtain ⟨h9, h⟩ := h
  obtain ⟨c10, h9r, h⟩ := h
  refine xvalP (pv_shlW h9 h9r rfl rfl) rfl rfl ?_
  obtain ⟨c12, h11, h⟩ := h
  refine xvalP (pv_wr h11 rfl rfl rfl) rfl rfl ?_
  obtain ⟨h13, h⟩ := h
  obtain ⟨y14, h13b, h⟩ := h
  refine xvalP (pv_indexAddrBA h13 UndC.h ShpC.h rfl rfl) rfl rfl ?_
  refine xstoreA (f := ew) (a := sv1) (k := 1) (off := 0) (i := ((c4.toNat : Int) : Int).toNat) 1 [] [] c12 h13b (by first | rfl | exact (List.append_nil _).symm | exact List.append_nil _ | exact List.append_assoc _ _ _ | exact (List.append_assoc _ _ _).symm | exact congrArg _ (List.append_nil _).symm | exact congrArg _ (List.append_nil _) | (simp; done) | (simp [cellsS]; done)) (by first | rfl | omega | (simp only [List.length_cons, List.length_nil]; omega) | (simp only [seg_len, List.length_append, List.length_cons, List.length_nil]; omega)) (by decide) ShpC.h rfl rfl rfl rfl (by first | rfl | exact seg_lenE (by rfl) | exact len_app rfl (seg_lenE (by rfl)) (by rfl) | exact len_app (seg_lenE (by rfl)) rfl (by rfl) | exact len_app rfl (len_app (seg_lenE (by rfl)) rfl (by rfl)) (by rfl) | (simp only [seg_len, cellsS, List.length_append, List.length_cons, List.length_nil]; done) | (simp only [seg_len, cellsS, List.length_append, List.length_cons, List.length_nil]; rfl)) rfl rfl ?_
  refine xreb 1 ((List.map ew ((Arr.set sv1 ((c4.toNat : Int) : Int).toNat c12)).l).flatten) rfl (by first | rfl | exact (List.append_nil _).symm | exact List.append_nil _ | exact List.append_assoc _ _ _ | exact (List.append_assoc _ _ _).symm | exact congrArg _ (List.append_nil _).symm | exact congrArg _ (List.append_nil _) | (simp; done) | (simp [cellsS]; done)) ?_
  refine xnil ?_
  refine xthen ?_
  refine xseq ?_
  refine xregion ?_
  refine xval (qv_loadP 1 [] ((List.map ew ((Arr.set sv1 ((c4.toNat : Int) : Int).toNat c12)).l).flatten) [] (by first | rfl | exact (List.append_nil _).symm | exact List.append_nil _ | exact List.append_assoc _ _ _ | exact (List.append_assoc _ _ _).symm | exact congrArg _ (List.append_nil _).symm | exact congrArg _ (List.append_nil _) | (simp; done) | (simp [cellsS]; done)) (by first | rfl | exact seg_lenE (by rfl) | exact len_app rfl (seg_lenE (by rfl)) (by rfl) | exact len_app (seg_lenE (by rfl)) rfl (by rfl) | exact len_app rfl (len_app (seg_lenE (by rfl)) rfl (by rfl)) (by rfl) | (simp only [seg_len, cellsS, List.length_append, List.length_cons, List.length_nil]; done) | (simp only [seg_len, cellsS, List.length_append, List.length_cons, List.length_nil]; rfl)) (by first | rfl | exact seg_lenE (by rfl) | exact len_app rfl (seg_lenE (by rfl)) (by rfl) | exact len_app (seg_lenE (by rfl)) rfl (by rfl) | exact len_app rfl (len_app (seg_lenE (by rfl)) rfl (by rfl)) (by rfl) | (simp only [seg_len, cellsS, List.length_append, List.length_cons, List.length_nil]; done) | (simp only [seg_len, cellsS, List.length_append, List.length_cons, List.length_nil]; rfl)) (part_all (seg_lenE (by rfl))) ShpC.h rfl rfl) rfl rfl ?_
  refine xstoreP 0 [] ((List.map ew ((Arr.rep 4 (0 : UInt64))).l).flatten) [] (by first | rfl | exact (List.append_nil _).symm | exact List.append_nil _ | exact List.append_assoc _ _ _ | exact (List.append_assoc _ _ _).symm | exact congrArg _ (List.append_nil _).symm | exact congrArg _ (List.append_nil _) | (simp; done) | (simp [cellsS]; done)) (by first | rfl | exact seg_lenE (by rfl) | exact len_app rfl (seg_lenE (by rfl)) (by rfl) | exact len_app (seg_lenE (by rfl)) rfl (by rfl) | exact len_app rfl (len_app (seg_lenE (by rfl)) rfl (by rfl)) (by rfl) | (simp only [seg_len, cellsS, List.length_append, List.length_cons, List.length_nil]; done) | (simp only [seg_len, cellsS, List.length_append, List.length_cons, List.length_nil]; rfl)) (by first | rfl | exact seg_lenE (by rfl) | exact len_app rfl (seg_lenE (by rfl)) (by rfl) | exact len_app (seg_lenE (by rfl)) rfl (by rfl) | exact len_app rfl (len_app (seg_lenE (by rfl)) rfl (by rfl)) (by rfl) | (simp only [seg_len, cellsS, List.length_append, List.length_cons, List.length_nil]; done) | (simp only [seg_len, cellsS, List.length_append, List.length_cons, List.length_nil]; rfl)) ShpC.h rfl rfl rfl rfl (by first | rfl | exact seg_lenE (by rfl) | exact len_app rfl (seg_lenE (by rfl)) (by rfl) | exact len_app (seg_lenE (by rfl)) rfl (by rfl) | exact len_app rfl (len_app (seg_lenE (by rfl)) rfl (by rfl)) (by rfl) | (simp only [seg_len, cellsS, List.length_append, List.length_cons, List.length_nil]; done) | (simp only [seg_len, cellsS, List.length_append, List.length_cons, List.length_nil]; rfl)) rfl ?_
  refine xreb 0 ((List.map ew ((Arr.set sv1 ((c4.toNat : Int) : Int).toNat c12)).l).flatten) rfl (by first | rfl | exact (List.append_nil _).symm | exact List.append_nil _ | exact List.append_assoc _ _ _ | exact (List.append_assoc _ _ _).symm | exact congrArg _ (List.append_nil _).symm | exact congrArg _ (List.append_nil _) | (simp; done) | (simp [cellsS]; done)) ?_
  refine xnil ?_
  refine xthen ?_
  refine xretc ?_
  replace h := h.symm
  subst h
  exact xretL (rs := [.cell 4 26]) (ss := [.agg ((List.map ew ((Arr.set sv1 ((c4.toNat : Int) : Int).toNat c12)).l).flatten)]) hg rfl (by refine RetL.cell 0 ShpC.h rfl rfl (part_midE (pre := []) (mid := ((List.map ew ((Arr.set sv1 ((c4.toNat : Int) : Int).toNat c12)).l).flatten)) (post := []) (by first | rfl | exact (List.append_nil _).symm | exact List.append_nil _ | exact List.append_assoc _ _ _ | exact (List.append_assoc _ _ _).symm | exact congrArg _ (List.append_nil _).symm | exact congrArg _ (List.append_nil _) | (simp; done) | (simp [cellsS]; done)) (by first | rfl | exact seg_lenE (by rfl) | exact len_app rfl (seg_lenE (by rfl)) (by rfl) | exact len_app (seg_lenE (by rfl)) rfl (by rfl) | exact len_app rfl (len_app (seg_lenE (by rfl)) rfl (by rfl)) (by rfl) | (simp only [seg_len, cellsS, List.length_append, List.length_cons, List.length_nil]; done) | (simp only [seg_len, cellsS, List.length_append, List.length_cons, List.length_nil]; rfl)) (by first | rfl | exact seg_lenE (by rfl) | exact len_app rfl (seg_lenE (by rfl)) (by rfl) | exact len_app (seg_lenE (by rfl)) rfl (by rfl) | exact len_app rfl (len_app (seg_lenE (by rfl)) rfl (by rfl)) (by rfl) | (simp only [seg_len, cellsS, List.length_append, List.length_cons, List.length_nil]; done) | (simp only [seg_len, cellsS, List.length_append, List.length_cons, List.length_nil]; rfl)) (part_all (seg_lenE (by rfl)))) (len_midE (pre := []) (mid := ((List.map ew ((Arr.set sv1 ((c4.toNat : Int) : Int).toNat c12)).l).flatten)) (post := []) (by first | rfl | exact (List.append_nil _).symm | exact List.append_nil _ | exact List.append_assoc _ _ _ | exact (List.append_assoc _ _ _).symm | exact congrArg _ (List.append_nil _).symm | exact congrArg _ (List.append_nil _) | (simp; done) | (simp [cellsS]; done)) (by first | rfl | exact seg_lenE (by rfl) | exact len_app rfl (seg_lenE (by rfl)) (by rfl) | exact len_app (seg_lenE (by rfl)) rfl (by rfl) | exact len_app rfl (len_app (seg_lenE (by rfl)) rfl (by rfl)) (by rfl) | (simp only [seg_len, cellsS, List.length_append, List.length_cons, List.length_nil]; done) | (simp only [seg_len, cellsS, List.length_append, List.length_cons, List.length_nil]; rfl)) (by first | rfl | exact seg_lenE (by rfl) | exact len_app rfl (seg_lenE (by rfl)) (by rfl) | exact len_app (seg_lenE (by rfl)) rfl (by rfl) | exact len_app rfl (len_app (seg_lenE (by rfl)) rfl (by rfl)) (by rfl) | (simp only [seg_len, cellsS, List.length_append, List.length_cons, List.length_nil]; done) | (simp only [seg_len, cellsS, List.length_append, List.length_cons, List.length_nil]; rfl))) (by first | with_reducible exact Wk.refl _ | exact Wk.nil_own _ | exact Wk.nil_pl _ | with_reducible exact Wk.tok _ _ _ | exact Wk.tok _ _ _ | exact .eq rfl) ?_; exact RetL.nil) (SubM.of (.nil _) (.nil _)) ⟨rfl, rfl, rfl⟩
/-- class.Named -/
def class_Named_l1 (name1 : ByteArray) (ag1 : (Int × (Arr 4 (UInt64))) → Prop) (x112 : Int) (f113 : Arr 4 (UInt64)) (r : (Arr 4 (UInt64)) × Bool) : Prop :=
  ((x112 < 256 → ∃ c156 : UInt8, (c156.toNat : Int) = IntKind.u8.wrap x112 ∧ ∃ y158 : Bool × Bool, digit_Is_R name1 c156 y158 ∧ ((¬ (y158.2 = true) → r = ((Arr.rep 4 (0 : UInt64)), false)) ∧ (¬ (¬ (y158.2 = true)) → ((y158.1 = true → ∃ c163 : UInt8, (c163.toNat : Int) = IntKind.u8.wrap x112 ∧ ∃ y165 : (Arr 4 (UInt64)), class_with_R f113 c163 y165 ∧ InR (x112 + 1) ∧ ag1 ((x112 + 1), y165)) ∧ (¬ (y158.1 = true) → InR (x112 + 1) ∧ ag1 ((x112 + 1), f113)))))) ∧ (¬ (x112 < 256) → r = (f113, true)))
def class_Named_R (name1 : ByteArray) (r : (Arr 4 (UInt64)) × Bool) : Prop :=
  LoopR (fun ag1 s => class_Named_l1 name1 ag1 s.1 s.2 r) (0, (Arr.rep 4 (0 : UInt64)))
def class_Named_l1_ev (fuel : Nat) (name1 : ByteArray) (ag1e : (Int × (Arr 4 (UInt64))) → Option ((Arr 4 (UInt64)) × Bool)) (x112 : Int) (f113 : Arr 4 (UInt64)) : Option ((Arr 4 (UInt64)) × Bool) :=
  (if x112 < 256 then (exB (IntKind.u8.wrap x112) fun c156 => ((digit_Is_ev fuel name1 c156).bind fun y158 => (if ¬ (y158.2 = true) then some ((Arr.rep 4 (0 : UInt64)), false) else (if y158.1 = true then (exB (IntKind.u8.wrap x112) fun c163 => ((class_with_ev fuel f113 c163).bind fun y165 => (if InR (x112 + 1) then ag1e ((x112 + 1), y165) else none))) else (if InR (x112 + 1) then ag1e ((x112 + 1), f113) else none))))) else some (f113, true))
theorem class_Named_l1_ok {fuel : Nat} {name1 : ByteArray} {ag1e : (Int × (Arr 4 (UInt64))) → Option ((Arr 4 (UInt64)) × Bool)} {ag1 : (Int × (Arr 4 (UInt64))) → Prop} {x112 : Int} {f113 : Arr 4 (UInt64)} {r : (Arr 4 (UInt64)) × Bool} (hagag1 : ∀ s, ag1e s = some r → ag1 s) (h : class_Named_l1_ev fuel name1 ag1e x112 f113 = some r) : class_Named_l1 name1 ag1 x112 f113 r := by
  unfold class_Named_l1_ev at h
  unfold class_Named_l1
  refine ⟨fun g58 => ?_, fun g58 => ?_⟩
  · rw [if_pos g58] at h
    obtain ⟨q59, g59, h⟩ := exB_ok h
    refine ⟨q59, g59, ?_⟩
    obtain ⟨q60, g60, h⟩ := bind_ok h
    refine ⟨q60, digit_Is_ok g60, ?_⟩
    refine ⟨fun g61 => ?_, fun g61 => ?_⟩
    · rw [if_pos g61] at h
      exact (Option.some.inj h).symm
    · rw [if_neg g61] at h
      refine ⟨fun g62 => ?_, fun g62 => ?_⟩
      · rw [if_pos g62] at h
        obtain ⟨q63, g63, h⟩ := exB_ok h
        refine ⟨q63, g63, ?_⟩
        obtain ⟨q64, g64, h⟩ := bind_ok h
        refine ⟨q64, class_with_ok g64, ?_⟩
        obtain ⟨g65, h⟩ := if_ok h
        refine ⟨g65, ?_⟩
        exact hagag1 _ h
      · rw [if_neg g62] at h
        obtain ⟨g66, h⟩ := if_ok h
        refine ⟨g66, ?_⟩
        exact hagag1 _ h
  · rw [if_neg g58] at h
    exact (Option.some.inj h).symm
def class_Named_ev (fuel : Nat) (name1 : ByteArray) : Option ((Arr 4 (UInt64)) × Bool) :=
  (loopE (fun ag1e s => class_Named_l1_ev fuel name1 ag1e s.1 s.2) fuel (0, (Arr.rep 4 (0 : UInt64))))
theorem class_Named_ok {fuel : Nat} {name1 : ByteArray} {r : (Arr 4 (UInt64)) × Bool} (h : class_Named_ev fuel name1 = some r) : class_Named_R name1 r := by
  unfold class_Named_ev at h
  unfold class_Named_R
  refine loopE_ok ?_ h
  intro ae ag s hag h
  exact class_Named_l1_ok hag h
set_option maxHeartbeats 4000000 in
theorem class_Named_con (name1 : ByteArray) (r : (Arr 4 (UInt64)) × Bool) (h : class_Named_R name1 r) : Con Try.prog 31 [.v (.string name1)] [] [] (fun rr bx tk => rr = .tup [.agg ((List.map ew r.1.l).flatten), .v (.bool r.2)] ∧ bx = [] ∧ tk = []) := by
  refine xenter Try.func31 rfl rfl fun g hg => ?_
  simp only [Try.ntmps31, slots]
  refine xseq ?_
  refine xregion ?_
  refine xalloc InfC.h rfl rfl fun b2 => ?_
  refine xreb 0 ((List.map ew ((Arr.rep 4 (0 : UInt64))).l).flatten) rfl rfl ?_
  refine xvalP (pv_assign rfl) rfl rfl ?_
  refine xnil ?_
  refine xthen ?_
  refine xseq ?_
  refine xregion ?_
  refine xalloc InfC.h rfl rfl fun b4 => ?_
  refine xreb 0 ((List.map ew ((Arr.rep 4 (0 : UInt64))).l).flatten) rfl rfl ?_
  refine xnil ?_
  refine xthen ?_
  refine xseq ?_
  refine xseq ?_
  refine xregion ?_
  refine xvalP (pv_move rfl) rfl rfl ?_
  refine xnil ?_
  refine xthen ?_
  refine xblock ?_
  obtain ⟨Inv, ⟨m0, hI⟩, hS⟩ := h
  refine xloop (fun σ m => ∃ (x112 : Int), ∃ (f113 : Arr 4 (UInt64)), Inv (x112, f113) m ∧ σ = ⟨[(0, .v (.string name1)), (2, .v (.pointer (some ⟨b2, 0, none⟩))), (4, .v (.pointer (some ⟨b4, 0, none⟩))), (8, .v (.int .i64 x112))], [⟨b4, 26, ((List.map ew f113.l).flatten)⟩, ⟨b2, 26, ((List.map ew ((Arr.rep 4 (0 : UInt64))).l).flatten)⟩], []⟩) ⟨0, (Arr.rep 4 (0 : UInt64)), hI, rfl⟩ ⟨(.cons rfl (.refl _) (.cons rfl (.refl _) (.cons rfl (.refl _) (.cons rfl (.refl _) (.nil _))))), (SubM.of (.keep rfl rfl (.refl _) (.keep rfl rfl (.refl _) (.nil _))) (.nil _))⟩ ?_
  rintro _ m ⟨x112, f113, hI, rfl⟩
  obtain ⟨ag1, hag1, h⟩ : ∃ ag, (∀ s', ag s' → ∃ m', m' < m ∧ Inv s' m') ∧ class_Named_l1 name1 ag x112 f113 r := ⟨_, fun _ h => h, hS (x112, f113) _ hI⟩
  clear hS hI
  refine xseq ?_
  refine xregion ?_
  refine xvalP (pv_bin2 rfl rfl rfl) rfl rfl ?_
  refine xnil ?_
  refine xthen ?_
  refine xseq ?_
  by_cases hp143 : x112 < 256
  · replace h := h.1 hp143
    refine xcondT' (decide_eq_true hp143) rfl ?_
    refine xskipc ?_
    refine xthen ?_
    refine xseq ?_
    refine xblock ?_
    refine xseq ?_
    refine xregion ?_
    refine xvalP (pv_move rfl) rfl rfl ?_
    refine xvalP (pv_assign rfl) rfl rfl ?_
    refine xnil ?_
    refine xthen ?_
    refine xseq ?_
    refine xregion ?_
    refine xvalP (pv_move rfl) rfl rfl ?_
    refine xvalP (pv_move rfl) rfl rfl ?_
    obtain ⟨c156, h155, h⟩ := h
    refine xvalP (pv_convW h155 UndC.h UndC.h rfl) rfl rfl ?_
    obtain ⟨y158, h157, h⟩ := h
    refine xcallF (Fb := [⟨b4, 26, ((List.map ew f113.l).flatten)⟩, ⟨b2, 26, ((List.map ew ((Arr.rep 4 (0 : UInt64))).l).flatten)⟩]) (Ft := []) (digit_Is_con name1 c156 _ h157) Try.func37 (by kernel_rfl) rfl (.cons rfl (.refl _) (.cons rfl (.refl _) .nil)) (by exact (SubM.of (by repeat (first | with_reducible exact SubB.refl _ | exact SubB.nil _ | refine SubB.keep rfl rfl (by first | with_reducible exact WkL.refl _ | ((repeat (first | exact WkL.nil | refine WkL.cons (by first | with_reducible exact Wk.refl _ | exact Wk.nil_own _ | exact Wk.nil_pl _ | with_reducible exact Wk.tok _ _ _ | exact Wk.tok _ _ _ | exact Wk.eq (by first | rfl | (simp []; done) | (simp []; omega))) ?_)); done) | exact WkL.refl _) ?_ | refine SubB.drop ?_)) (by repeat (first | exact SubT.nil _ | refine SubT.add ?_ | (refine SubT.keep ?_ ?_; focus (first | with_reducible rfl | (simp []; done))) | refine SubT.drop ?_)))) rfl rfl ?_
    rintro _ _ _ ⟨rfl, rfl, rfl⟩
    simp only [List.nil_append, List.cons_append]
    refine xvalP (pv_move rfl) rfl rfl ?_
    refine xvalP (pv_extract rfl rfl) rfl rfl ?_
    refine xvalP (pv_extract rfl rfl) rfl rfl ?_
    refine xvalP (pv_assign rfl) rfl rfl ?_
    refine xvalP (pv_assign rfl) rfl rfl ?_
    refine xnil ?_
    refine xthen ?_
    refine xseq ?_
    refine xseq ?_
    refine xregion ?_
    refine xvalP (pv_move rfl) rfl rfl ?_
    refine xvalP (pv_not rfl) rfl rfl ?_
    refine xnil ?_
    refine xthen ?_
    by_cases hp160 : ¬ (y158.2 = true)
    · replace h := h.1 hp160
      refine xcondT' (not_t (b_f hp160)) rfl ?_
      refine xseq ?_
      refine xregion ?_
      refine xvalP (pv_buildAC (cs := ((List.map ew ((Arr.rep 4 (0 : UInt64))).l).flatten)) UndC.h ShpC.h InfC.h rfl (by rfl)) rfl rfl ?_
      refine xstoreP 1 [] ((List.map ew ((Arr.rep 4 (0 : UInt64))).l).flatten) [] (by first | rfl | exact (List.append_nil _).symm | exact List.append_nil _ | exact List.append_assoc _ _ _ | exact (List.append_assoc _ _ _).symm | exact congrArg _ (List.append_nil _).symm | exact congrArg _ (List.append_nil _) | (simp; done) | (simp [cellsS]; done)) (by first | rfl | exact seg_lenE (by rfl) | exact len_app rfl (seg_lenE (by rfl)) (by rfl) | exact len_app (seg_lenE (by rfl)) rfl (by rfl) | exact len_app rfl (len_app (seg_lenE (by rfl)) rfl (by rfl)) (by rfl) | (simp only [seg_len, cellsS, List.length_append, List.length_cons, List.length_nil]; done) | (simp only [seg_len, cellsS, List.length_append, List.length_cons, List.length_nil]; rfl)) (by first | rfl | exact seg_lenE (by rfl) | exact len_app rfl (seg_lenE (by rfl)) (by rfl) | exact len_app (seg_lenE (by rfl)) rfl (by rfl) | exact len_app rfl (len_app (seg_lenE (by rfl)) rfl (by rfl)) (by rfl) | (simp only [seg_len, cellsS, List.length_append, List.length_cons, List.length_nil]; done) | (simp only [seg_len, cellsS, List.length_append, List.length_cons, List.length_nil]; rfl)) ShpC.h rfl rfl rfl rfl (by first | rfl | exact seg_lenE (by rfl) | exact len_app rfl (seg_lenE (by rfl)) (by rfl) | exact len_app (seg_lenE (by rfl)) rfl (by rfl) | exact len_app rfl (len_app (seg_lenE (by rfl)) rfl (by rfl)) (by rfl) | (simp only [seg_len, cellsS, List.length_append, List.length_cons, List.length_nil]; done) | (simp only [seg_len, cellsS, List.length_append, List.length_cons, List.length_nil]; rfl)) rfl ?_
      refine xreb 1 ((List.map ew ((Arr.rep 4 (0 : UInt64))).l).flatten) rfl (by first | rfl | exact (List.append_nil _).symm | exact List.append_nil _ | exact List.append_assoc _ _ _ | exact (List.append_assoc _ _ _).symm | exact congrArg _ (List.append_nil _).symm | exact congrArg _ (List.append_nil _) | (simp; done) | (simp [cellsS]; done)) ?_
      refine xvalP (pv_assign rfl) rfl rfl ?_
      refine xnil ?_
      refine xthen ?_
      refine xretc ?_
      refine xthen_ret ?_
      refine xin_ret ?_
      refine xthen_ret ?_
      refine xthen_ret ?_
      refine xin_ret ?_
      refine xthen_ret ?_
      replace h := h.symm
      subst h
      exact xretL (rs := [.cell 2 26, .tmp 3]) (ss := [.agg ((List.map ew ((Arr.rep 4 (0 : UInt64))).l).flatten), .v (.bool false)]) hg rfl (by refine RetL.cell 1 ShpC.h rfl rfl (part_midE (pre := []) (mid := ((List.map ew ((Arr.rep 4 (0 : UInt64))).l).flatten)) (post := []) (by first | rfl | exact (List.append_nil _).symm | exact List.append_nil _ | exact List.append_assoc _ _ _ | exact (List.append_assoc _ _ _).symm | exact congrArg _ (List.append_nil _).symm | exact congrArg _ (List.append_nil _) | (simp; done) | (simp [cellsS]; done)) (by first | rfl | exact seg_lenE (by rfl) | exact len_app rfl (seg_lenE (by rfl)) (by rfl) | exact len_app (seg_lenE (by rfl)) rfl (by rfl) | exact len_app rfl (len_app (seg_lenE (by rfl)) rfl (by rfl)) (by rfl) | (simp only [seg_len, cellsS, List.length_append, List.length_cons, List.length_nil]; done) | (simp only [seg_len, cellsS, List.length_append, List.length_cons, List.length_nil]; rfl)) (by first | rfl | exact seg_lenE (by rfl) | exact len_app rfl (seg_lenE (by rfl)) (by rfl) | exact len_app (seg_lenE (by rfl)) rfl (by rfl) | exact len_app rfl (len_app (seg_lenE (by rfl)) rfl (by rfl)) (by rfl) | (simp only [seg_len, cellsS, List.length_append, List.length_cons, List.length_nil]; done) | (simp only [seg_len, cellsS, List.length_append, List.length_cons, List.length_nil]; rfl)) (part_all (seg_lenE (by rfl)))) (len_midE (pre := []) (mid := ((List.map ew ((Arr.rep 4 (0 : UInt64))).l).flatten)) (post := []) (by first | rfl | exact (List.append_nil _).symm | exact List.append_nil _ | exact List.append_assoc _ _ _ | exact (List.append_assoc _ _ _).symm | exact congrArg _ (List.append_nil _).symm | exact congrArg _ (List.append_nil _) | (simp; done) | (simp [cellsS]; done)) (by first | rfl | exact seg_lenE (by rfl) | exact len_app rfl (seg_lenE (by rfl)) (by rfl) | exact len_app (seg_lenE (by rfl)) rfl (by rfl) | exact len_app rfl (len_app (seg_lenE (by rfl)) rfl (by rfl)) (by rfl) | (simp only [seg_len, cellsS, List.length_append, List.length_cons, List.length_nil]; done) | (simp only [seg_len, cellsS, List.length_append, List.length_cons, List.length_nil]; rfl)) (by first | rfl | exact seg_lenE (by rfl) | exact len_app rfl (seg_lenE (by rfl)) (by rfl) | exact len_app (seg_lenE (by rfl)) rfl (by rfl) | exact len_app rfl (len_app (seg_lenE (by rfl)) rfl (by rfl)) (by rfl) | (simp only [seg_len, cellsS, List.length_append, List.length_cons, List.length_nil]; done) | (simp only [seg_len, cellsS, List.length_append, List.length_cons, List.length_nil]; rfl))) (by first | with_reducible exact Wk.refl _ | exact Wk.nil_own _ | exact Wk.nil_pl _ | with_reducible exact Wk.tok _ _ _ | exact Wk.tok _ _ _ | exact .eq rfl) ?_; refine RetL.tmp rfl (.refl _) ?_; exact RetL.nil) (SubM.of (.nil _) (.nil _)) ⟨rfl, rfl, rfl⟩
    · replace h := h.2 hp160
      refine xcondF' (not_f (Decidable.of_not_not hp160)) rfl ?_
      refine xskipc ?_
      refine xthen ?_
      refine xseq ?_
      refine xregion ?_
      refine xvalP (pv_move rfl) rfl rfl ?_
      refine xnil ?_
      refine xthen ?_
      by_cases hp161 : y158.1 = true
      · replace h := h.1 hp161
        refine xcondT' hp161 rfl ?_
        refine xregion ?_
        refine xval (qv_loadP 0 [] ((List.map ew f113.l).flatten) [] (by first | rfl | exact (List.append_nil _).symm | exact List.append_nil _ | exact List.append_assoc _ _ _ | exact (List.append_assoc _ _ _).symm | exact congrArg _ (List.append_nil _).symm | exact congrArg _ (List.append_nil _) | (simp; done) | (simp [cellsS]; done)) (by first | rfl | exact seg_lenE (by rfl) | exact len_app rfl (seg_lenE (by rfl)) (by rfl) | exact len_app (seg_lenE (by rfl)) rfl (by rfl) | exact len_app rfl (len_app (seg_lenE (by rfl)) rfl (by rfl)) (by rfl) | (simp only [seg_len, cellsS, List.length_append, List.length_cons, List.length_nil]; done) | (simp only [seg_len, cellsS, List.length_append, List.length_cons, List.length_nil]; rfl)) (by first | rfl | exact seg_lenE (by rfl) | exact len_app rfl (seg_lenE (by rfl)) (by rfl) | exact len_app (seg_lenE (by rfl)) rfl (by rfl) | exact len_app rfl (len_app (seg_lenE (by rfl)) rfl (by rfl)) (by rfl) | (simp only [seg_len, cellsS, List.length_append, List.length_cons, List.length_nil]; done) | (simp only [seg_len, cellsS, List.length_append, List.length_cons, List.length_nil]; rfl)) (part_all (seg_lenE (by rfl))) ShpC.h rfl rfl) rfl rfl ?_
        refine xvalP (pv_move rfl) rfl rfl ?_
        obtain ⟨c163, h162, h⟩ := h
        refine xvalP (pv_convW h162 UndC.h UndC.h rfl) rfl rfl ?_
        obtain ⟨y165, h164, h⟩ := h
        refine xcall0 (class_with_con f113 c163 _ h164) Try.func26 (by kernel_rfl) rfl (.cons rfl (.refl _) (.cons rfl (.refl _) .nil)) rfl rfl ?_
        refine xstoreP 0 [] ((List.map ew f113.l).flatten) [] (by first | rfl | exact (List.append_nil _).symm | exact List.append_nil _ | exact List.append_assoc _ _ _ | exact (List.append_assoc _ _ _).symm | exact congrArg _ (List.append_nil _).symm | exact congrArg _ (List.append_nil _) | (simp; done) | (simp [cellsS]; done)) (by first | rfl | exact seg_lenE (by rfl) | exact len_app rfl (seg_lenE (by rfl)) (by rfl) | exact len_app (seg_lenE (by rfl)) rfl (by rfl) | exact len_app rfl (len_app (seg_lenE (by rfl)) rfl (by rfl)) (by rfl) | (simp only [seg_len, cellsS, List.length_append, List.length_cons, List.length_nil]; done) | (simp only [seg_len, cellsS, List.length_append, List.length_cons, List.length_nil]; rfl)) (by first | rfl | exact seg_lenE (by rfl) | exact len_app rfl (seg_lenE (by rfl)) (by rfl) | exact len_app (seg_lenE (by rfl)) rfl (by rfl) | exact len_app rfl (len_app (seg_lenE (by rfl)) rfl (by rfl)) (by rfl) | (simp only [seg_len, cellsS, List.length_append, List.length_cons, List.length_nil]; done) | (simp only [seg_len, cellsS, List.length_append, List.length_cons, List.length_nil]; rfl)) ShpC.h rfl rfl rfl rfl (by first | rfl | exact seg_lenE (by rfl) | exact len_app rfl (seg_lenE (by rfl)) (by rfl) | exact len_app (seg_lenE (by rfl)) rfl (by rfl) | exact len_app rfl (len_app (seg_lenE (by rfl)) rfl (by rfl)) (by rfl) | (simp only [seg_len, cellsS, List.length_append, List.length_cons, List.length_nil]; done) | (simp only [seg_len, cellsS, List.length_append, List.length_cons, List.length_nil]; rfl)) rfl ?_
        refine xreb 0 ((List.map ew y165.l).flatten) rfl (by first | rfl | exact (List.append_nil _).symm | exact List.append_nil _ | exact List.append_assoc _ _ _ | exact (List.append_assoc _ _ _).symm | exact congrArg _ (List.append_nil _).symm | exact congrArg _ (List.append_nil _) | (simp; done) | (simp [cellsS]; done)) ?_
        refine xnil ?_
        refine xin_normal ?_
        refine xthen ?_
        refine xregion ?_
        obtain ⟨h166, h⟩ := h
        refine xvalP (pv_addI h166 rfl rfl) rfl rfl ?_
        refine xvalP (pv_move rfl) rfl rfl ?_
        refine xnil ?_
        obtain ⟨m', hm, hI⟩ := hag1 _ h
        exact xagain ⟨(x112 + 1), y165, hI, rfl⟩ hm ⟨(.cons rfl (.refl _) (.cons rfl (.refl _) (.cons rfl (.refl _) (.cons rfl (.refl _) (.nil _))))), (SubM.of (.keep rfl rfl (.refl _) (.keep rfl rfl (.refl _) (.nil _))) (.nil _))⟩
      · replace h := h.2 hp161
        refine xcondF' (b_f hp161) rfl ?_
        refine xskipc ?_
        refine xin_normal ?_
        refine xthen ?_
        refine xregion ?_
        obtain ⟨h167, h⟩ := h
        refine xvalP (pv_addI h167 rfl rfl) rfl rfl ?_
        refine xvalP (pv_move rfl) rfl rfl ?_
        refine xnil ?_
        obtain ⟨m', hm, hI⟩ := hag1 _ h
        exact xagain ⟨(x112 + 1), f113, hI, rfl⟩ hm ⟨(.cons rfl (.refl _) (.cons rfl (.refl _) (.cons rfl (.refl _) (.cons rfl (.refl _) (.nil _))))), (SubM.of (.keep rfl rfl (.refl _) (.keep rfl rfl (.refl _) (.nil _))) (.nil _))⟩
  · replace h := h.2 hp143
    refine xcondF' (decide_eq_false hp143) rfl ?_
    refine xexit ?_
    refine xthen_exit ?_
    refine xthen_exit ?_
    refine xin_same rfl ?_
    refine xthen ?_
    refine xseq ?_
    refine xregion ?_
    refine xval (qv_loadP 0 [] ((List.map ew f113.l).flatten) [] (by first | rfl | exact (List.append_nil _).symm | exact List.append_nil _ | exact List.append_assoc _ _ _ | exact (List.append_assoc _ _ _).symm | exact congrArg _ (List.append_nil _).symm | exact congrArg _ (List.append_nil _) | (simp; done) | (simp [cellsS]; done)) (by first | rfl | exact seg_lenE (by rfl) | exact len_app rfl (seg_lenE (by rfl)) (by rfl) | exact len_app (seg_lenE (by rfl)) rfl (by rfl) | exact len_app rfl (len_app (seg_lenE (by rfl)) rfl (by rfl)) (by rfl) | (simp only [seg_len, cellsS, List.length_append, List.length_cons, List.length_nil]; done) | (simp only [seg_len, cellsS, List.length_append, List.length_cons, List.length_nil]; rfl)) (by first | rfl | exact seg_lenE (by rfl) | exact len_app rfl (seg_lenE (by rfl)) (by rfl) | exact len_app (seg_lenE (by rfl)) rfl (by rfl) | exact len_app rfl (len_app (seg_lenE (by rfl)) rfl (by rfl)) (by rfl) | (simp only [seg_len, cellsS, List.length_append, List.length_cons, List.length_nil]; done) | (simp only [seg_len, cellsS, List.length_append, List.length_cons, List.length_nil]; rfl)) (part_all (seg_lenE (by rfl))) ShpC.h rfl rfl) rfl rfl ?_
    refine xstoreP 1 [] ((List.map ew ((Arr.rep 4 (0 : UInt64))).l).flatten) [] (by first | rfl | exact (List.append_nil _).symm | exact List.append_nil _ | exact List.append_assoc _ _ _ | exact (List.append_assoc _ _ _).symm | exact congrArg _ (List.append_nil _).symm | exact congrArg _ (List.append_nil _) | (simp; done) | (simp [cellsS]; done)) (by first | rfl | exact seg_lenE (by rfl) | exact len_app rfl (seg_lenE (by rfl)) (by rfl) | exact len_app (seg_lenE (by rfl)) rfl (by rfl) | exact len_app rfl (len_app (seg_lenE (by rfl)) rfl (by rfl)) (by rfl) | (simp only [seg_len, cellsS, List.length_append, List.length_cons, List.length_nil]; done) | (simp only [seg_len, cellsS, List.length_append, List.length_cons, List.length_nil]; rfl)) (by first | rfl | exact seg_lenE (by rfl) | exact len_app rfl (seg_lenE (by rfl)) (by rfl) | exact len_app (seg_lenE (by rfl)) rfl (by rfl) | exact len_app rfl (len_app (seg_lenE (by rfl)) rfl (by rfl)) (by rfl) | (simp only [seg_len, cellsS, List.length_append, List.length_cons, List.length_nil]; done) | (simp only [seg_len, cellsS, List.length_append, List.length_cons, List.length_nil]; rfl)) ShpC.h rfl rfl rfl rfl (by first | rfl | exact seg_lenE (by rfl) | exact len_app rfl (seg_lenE (by rfl)) (by rfl) | exact len_app (seg_lenE (by rfl)) rfl (by rfl) | exact len_app rfl (len_app (seg_lenE (by rfl)) rfl (by rfl)) (by rfl) | (simp only [seg_len, cellsS, List.length_append, List.length_cons, List.length_nil]; done) | (simp only [seg_len, cellsS, List.length_append, List.length_cons, List.length_nil]; rfl)) rfl ?_
    refine xreb 1 ((List.map ew f113.l).flatten) rfl (by first | rfl | exact (List.append_nil _).symm | exact List.append_nil _ | exact List.append_assoc _ _ _ | exact (List.append_assoc _ _ _).symm | exact congrArg _ (List.append_nil _).symm | exact congrArg _ (List.append_nil _) | (simp; done) | (simp [cellsS]; done)) ?_
    refine xvalP (pv_assign rfl) rfl rfl ?_
    refine xnil ?_
    refine xthen ?_
    refine xretc ?_
    replace h := h.symm
    subst h
    exact xretL (rs := [.cell 2 26, .tmp 3]) (ss := [.agg ((List.map ew f113.l).flatten), .v (.bool true)]) hg rfl (by refine RetL.cell 1 ShpC.h rfl rfl (part_midE (pre := []) (mid := ((List.map ew f113.l).flatten)) (post := []) (by first | rfl | exact (List.append_nil _).symm | exact List.append_nil _ | exact List.append_assoc _ _ _ | exact (List.append_assoc _ _ _).symm | exact congrArg _ (List.append_nil _).symm | exact congrArg _ (List.append_nil _) | (simp; done) | (simp [cellsS]; done)) (by first | rfl | exact seg_lenE (by rfl) | exact len_app rfl (seg_lenE (by rfl)) (by rfl) | exact len_app (seg_lenE (by rfl)) rfl (by rfl) | exact len_app rfl (len_app (seg_lenE (by rfl)) rfl (by rfl)) (by rfl) | (simp only [seg_len, cellsS, List.length_append, List.length_cons, List.length_nil]; done) | (simp only [seg_len, cellsS, List.length_append, List.length_cons, List.length_nil]; rfl)) (by first | rfl | exact seg_lenE (by rfl) | exact len_app rfl (seg_lenE (by rfl)) (by rfl) | exact len_app (seg_lenE (by rfl)) rfl (by rfl) | exact len_app rfl (len_app (seg_lenE (by rfl)) rfl (by rfl)) (by rfl) | (simp only [seg_len, cellsS, List.length_append, List.length_cons, List.length_nil]; done) | (simp only [seg_len, cellsS, List.length_append, List.length_cons, List.length_nil]; rfl)) (part_all (seg_lenE (by rfl)))) (len_midE (pre := []) (mid := ((List.map ew f113.l).flatten)) (post := []) (by first | rfl | exact (List.append_nil _).symm | exact List.append_nil _ | exact List.append_assoc _ _ _ | exact (List.append_assoc _ _ _).symm | exact congrArg _ (List.append_nil _).symm | exact congrArg _ (List.append_nil _) | (simp; done) | (simp [cellsS]; done)) (by first | rfl | exact seg_lenE (by rfl) | exact len_app rfl (seg_lenE (by rfl)) (by rfl) | exact len_app (seg_lenE (by rfl)) rfl (by rfl) | exact len_app rfl (len_app (seg_lenE (by rfl)) rfl (by rfl)) (by rfl) | (simp only [seg_len, cellsS, List.length_append, List.length_cons, List.length_nil]; done) | (simp only [seg_len, cellsS, List.length_append, List.length_cons, List.length_nil]; rfl)) (by first | rfl | exact seg_lenE (by rfl) | exact len_app rfl (seg_lenE (by rfl)) (by rfl) | exact len_app (seg_lenE (by rfl)) rfl (by rfl) | exact len_app rfl (len_app (seg_lenE (by rfl)) rfl (by rfl)) (by rfl) | (simp only [seg_len, cellsS, List.length_append, List.length_cons, List.length_nil]; done) | (simp only [seg_len, cellsS, List.length_append, List.length_cons, List.length_nil]; rfl))) (by first | with_reducible exact Wk.refl _ | exact Wk.nil_own _ | exact Wk.nil_pl _ | with_reducible exact Wk.tok _ _ _ | exact Wk.tok _ _ _ | exact .eq rfl) ?_; refine RetL.tmp rfl (.refl _) ?_; exact RetL.nil) (SubM.of (.nil _) (.nil _)) ⟨rfl, rfl, rfl⟩
end Go.Proofs.Ytgplmognfmjllaa
