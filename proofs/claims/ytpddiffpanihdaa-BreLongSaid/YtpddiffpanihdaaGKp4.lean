
/- What functions' texts ask for, and the walks that show it (printed by a program). -/
import Derived.Test.YtpddiffpanihdaaGKp3
namespace Go.Proofs.Ytpddiffpanihdaa
/-- digit.Is -/
def digit_Is_R (x1 : ByteArray) (x2 : UInt8) (r : Bool × Bool) : Prop :=
 (((x1.toList == ((⟨#[117, 112, 112, 101, 114]⟩ : ByteArray)).toList) = true → ∃ y102 : Bool, digit_isUpper_R x2 y102 ∧ r = (y102, true)) ∧ (¬ ((x1.toList == ((⟨#[117, 112, 112, 101, 114]⟩ : ByteArray)).toList) = true) → (((x1.toList == ((⟨#[108, 111, 119, 101, 114]⟩ : ByteArray)).toList) = true → ∃ y106 : Bool, digit_isLower_R x2 y106 ∧ r = (y106, true)) ∧ (¬ ((x1.toList == ((⟨#[108, 111, 119, 101, 114]⟩ : ByteArray)).toList) = true) → (((x1.toList == ((⟨#[100, 105, 103, 105, 116]⟩ : ByteArray)).toList) = true → ∃ y110 : Bool, digit_isDigit_R x2 y110 ∧ r = (y110, true)) ∧ (¬ ((x1.toList == ((⟨#[100, 105, 103, 105, 116]⟩ : ByteArray)).toList) = true) → (((x1.toList == ((⟨#[97, 108, 112, 104, 97]⟩ : ByteArray)).toList) = true → ∃ y119 : Bool, digit_isUpper_R x2 y119 ∧ ((y119 = true → r = (true, true)) ∧ (¬ (y119 = true) → ∃ y122 : Bool, digit_isLower_R x2 y122 ∧ r = (y122, true)))) ∧ (¬ ((x1.toList == ((⟨#[97, 108, 112, 104, 97]⟩ : ByteArray)).toList) = true) → (((x1.toList == ((⟨#[97, 108, 110, 117, 109]⟩ : ByteArray)).toList) = true → ∃ y126 : Bool, digit_isAlnum_R x2 y126 ∧ r = (y126, true)) ∧ (¬ ((x1.toList == ((⟨#[97, 108, 110, 117, 109]⟩ : ByteArray)).toList) = true) → (((x1.toList == ((⟨#[98, 108, 97, 110, 107]⟩ : ByteArray)).toList) = true → ∃ y130 : Bool, digit_isBlank_R x2 y130 ∧ r = (y130, true)) ∧ (¬ ((x1.toList == ((⟨#[98, 108, 97, 110, 107]⟩ : ByteArray)).toList) = true) → (((x1.toList == ((⟨#[115, 112, 97, 99, 101]⟩ : ByteArray)).toList) = true → ∃ y139 : Bool, digit_isBlank_R x2 y139 ∧ ((y139 = true → r = (true, true)) ∧ (¬ (y139 = true) → ∃ y142 : Bool, digit_within_R x2 (10 : UInt8) (13 : UInt8) y142 ∧ r = (y142, true)))) ∧ (¬ ((x1.toList == ((⟨#[115, 112, 97, 99, 101]⟩ : ByteArray)).toList) = true) → (((x1.toList == ((⟨#[99, 110, 116, 114, 108]⟩ : ByteArray)).toList) = true → (((x2.toNat : Int) < 32 → r = (true, true)) ∧ (¬ ((x2.toNat : Int) < 32) → r = ((decide ((x2.toNat : Int) = 127)), true)))) ∧ (¬ ((x1.toList == ((⟨#[99, 110, 116, 114, 108]⟩ : ByteArray)).toList) = true) → (((x1.toList == ((⟨#[103, 114, 97, 112, 104]⟩ : ByteArray)).toList) = true → ∃ y154 : Bool, digit_isGraph_R x2 y154 ∧ r = (y154, true)) ∧ (¬ ((x1.toList == ((⟨#[103, 114, 97, 112, 104]⟩ : ByteArray)).toList) = true) → (((x1.toList == ((⟨#[112, 114, 105, 110, 116]⟩ : ByteArray)).toList) = true → ∃ y162 : Bool, digit_isGraph_R x2 y162 ∧ ((y162 = true → r = (true, true)) ∧ (¬ (y162 = true) → r = ((decide ((x2.toNat : Int) = 32)), true)))) ∧ (¬ ((x1.toList == ((⟨#[112, 114, 105, 110, 116]⟩ : ByteArray)).toList) = true) → (((x1.toList == ((⟨#[112, 117, 110, 99, 116]⟩ : ByteArray)).toList) = true → ∃ y173 : Bool, digit_isGraph_R x2 y173 ∧ ((y173 = true → ∃ y176 : Bool, digit_isAlnum_R x2 y176 ∧ r = ((!y176), true)) ∧ (¬ (y173 = true) → r = (false, true)))) ∧ (¬ ((x1.toList == ((⟨#[112, 117, 110, 99, 116]⟩ : ByteArray)).toList) = true) → (((x1.toList == ((⟨#[120, 100, 105, 103, 105, 116]⟩ : ByteArray)).toList) = true → ∃ y188 : Bool, digit_isDigit_R x2 y188 ∧ ((y188 = true → r = (true, true)) ∧ (¬ (y188 = true) → ∃ y191 : Bool, digit_within_R x2 (65 : UInt8) (70 : UInt8) y191 ∧ ((y191 = true → r = (true, true)) ∧ (¬ (y191 = true) → ∃ y194 : Bool, digit_within_R x2 (97 : UInt8) (102 : UInt8) y194 ∧ r = (y194, true)))))) ∧ (¬ ((x1.toList == ((⟨#[120, 100, 105, 103, 105, 116]⟩ : ByteArray)).toList) = true) → r = (false, false)))))))))))))))))))))))))
def digit_Is_ev (fuel : Nat) (x1 : ByteArray) (x2 : UInt8) : Option (Bool × Bool) :=
 (if (x1.toList == ((⟨#[117, 112, 112, 101, 114]⟩ : ByteArray)).toList) = true then ((digit_isUpper_ev fuel x2).bind fun y102 => some (y102, true)) else (if (x1.toList == ((⟨#[108, 111, 119, 101, 114]⟩ : ByteArray)).toList) = true then ((digit_isLower_ev fuel x2).bind fun y106 => some (y106, true)) else (if (x1.toList == ((⟨#[100, 105, 103, 105, 116]⟩ : ByteArray)).toList) = true then ((digit_isDigit_ev fuel x2).bind fun y110 => some (y110, true)) else (if (x1.toList == ((⟨#[97, 108, 112, 104, 97]⟩ : ByteArray)).toList) = true then ((digit_isUpper_ev fuel x2).bind fun y119 => (if y119 = true then some (true, true) else ((digit_isLower_ev fuel x2).bind fun y122 => some (y122, true)))) else (if (x1.toList == ((⟨#[97, 108, 110, 117, 109]⟩ : ByteArray)).toList) = true then ((digit_isAlnum_ev fuel x2).bind fun y126 => some (y126, true)) else (if (x1.toList == ((⟨#[98, 108, 97, 110, 107]⟩ : ByteArray)).toList) = true then ((digit_isBlank_ev fuel x2).bind fun y130 => some (y130, true)) else (if (x1.toList == ((⟨#[115, 112, 97, 99, 101]⟩ : ByteArray)).toList) = true then ((digit_isBlank_ev fuel x2).bind fun y139 => (if y139 = true then some (true, true) else ((digit_within_ev fuel x2 (10 : UInt8) (13 : UInt8)).bind fun y142 => some (y142, true)))) else (if (x1.toList == ((⟨#[99, 110, 116, 114, 108]⟩ : ByteArray)).toList) = true then (if (x2.toNat : Int) < 32 then some (true, true) else some ((decide ((x2.toNat : Int) = 127)), true)) else (if (x1.toList == ((⟨#[103, 114, 97, 112, 104]⟩ : ByteArray)).toList) = true then ((digit_isGraph_ev fuel x2).bind fun y154 => some (y154, true)) else (if (x1.toList == ((⟨#[112, 114, 105, 110, 116]⟩ : ByteArray)).toList) = true then ((digit_isGraph_ev fuel x2).bind fun y162 => (if y162 = true then some (true, true) else some ((decide ((x2.toNat : Int) = 32)), true))) else (if (x1.toList == ((⟨#[112, 117, 110, 99, 116]⟩ : ByteArray)).toList) = true then ((digit_isGraph_ev fuel x2).bind fun y173 => (if y173 = true then ((digit_isAlnum_ev fuel x2).bind fun y176 => some ((!y176), true)) else some (false, true))) else (if (x1.toList == ((⟨#[120, 100, 105, 103, 105, 116]⟩ : ByteArray)).toList) = true then ((digit_isDigit_ev fuel x2).bind fun y188 => (if y188 = true then some (true, true) else ((digit_within_ev fuel x2 (65 : UInt8) (70 : UInt8)).bind fun y191 => (if y191 = true then some (true, true) else ((digit_within_ev fuel x2 (97 : UInt8) (102 : UInt8)).bind fun y194 => some (y194, true)))))) else some (false, false)))))))))))))
theorem digit_Is_ok {fuel : Nat} {x1 : ByteArray} {x2 : UInt8} {r : Bool × Bool} (h : digit_Is_ev fuel x1 x2 = some r) : digit_Is_R x1 x2 r := by
 unfold digit_Is_ev at h
 unfold digit_Is_R
 refine ⟨fun g140 => ?_, fun g140 => ?_⟩
 ·rw [if_pos g140] at h
  obtain ⟨q141, g141, h⟩ := bind_ok h
  refine ⟨q141, digit_isUpper_ok g141, ?_⟩
  exact (Option.some.inj h).symm
 ·rw [if_neg g140] at h
  refine ⟨fun g142 => ?_, fun g142 => ?_⟩
  ·rw [if_pos g142] at h
   obtain ⟨q143, g143, h⟩ := bind_ok h
   refine ⟨q143, digit_isLower_ok g143, ?_⟩
   exact (Option.some.inj h).symm
  ·rw [if_neg g142] at h
   refine ⟨fun g144 => ?_, fun g144 => ?_⟩
   ·rw [if_pos g144] at h
    obtain ⟨q145, g145, h⟩ := bind_ok h
    refine ⟨q145, digit_isDigit_ok g145, ?_⟩
    exact (Option.some.inj h).symm
   ·rw [if_neg g144] at h
    refine ⟨fun g146 => ?_, fun g146 => ?_⟩
    ·rw [if_pos g146] at h
     obtain ⟨q147, g147, h⟩ := bind_ok h
     refine ⟨q147, digit_isUpper_ok g147, ?_⟩
     refine ⟨fun g148 => ?_, fun g148 => ?_⟩
     ·rw [if_pos g148] at h
      exact (Option.some.inj h).symm
     ·rw [if_neg g148] at h
      obtain ⟨q149, g149, h⟩ := bind_ok h
      refine ⟨q149, digit_isLower_ok g149, ?_⟩
      exact (Option.some.inj h).symm
    ·rw [if_neg g146] at h
     refine ⟨fun g150 => ?_, fun g150 => ?_⟩
     ·rw [if_pos g150] at h
      obtain ⟨q151, g151, h⟩ := bind_ok h
      refine ⟨q151, digit_isAlnum_ok g151, ?_⟩
      exact (Option.some.inj h).symm
     ·rw [if_neg g150] at h
      refine ⟨fun g152 => ?_, fun g152 => ?_⟩
      ·rw [if_pos g152] at h
       obtain ⟨q153, g153, h⟩ := bind_ok h
       refine ⟨q153, digit_isBlank_ok g153, ?_⟩
       exact (Option.some.inj h).symm
      ·rw [if_neg g152] at h
       refine ⟨fun g154 => ?_, fun g154 => ?_⟩
       ·rw [if_pos g154] at h
        obtain ⟨q155, g155, h⟩ := bind_ok h
        refine ⟨q155, digit_isBlank_ok g155, ?_⟩
        refine ⟨fun g156 => ?_, fun g156 => ?_⟩
        ·rw [if_pos g156] at h
         exact (Option.some.inj h).symm
        ·rw [if_neg g156] at h
         obtain ⟨q157, g157, h⟩ := bind_ok h
         refine ⟨q157, digit_within_ok g157, ?_⟩
         exact (Option.some.inj h).symm
       ·rw [if_neg g154] at h
        refine ⟨fun g158 => ?_, fun g158 => ?_⟩
        ·rw [if_pos g158] at h
         refine ⟨fun g159 => ?_, fun g159 => ?_⟩
         ·rw [if_pos g159] at h
          exact (Option.some.inj h).symm
         ·rw [if_neg g159] at h
          exact (Option.some.inj h).symm
        ·rw [if_neg g158] at h
         refine ⟨fun g160 => ?_, fun g160 => ?_⟩
         ·rw [if_pos g160] at h
          obtain ⟨q161, g161, h⟩ := bind_ok h
          refine ⟨q161, digit_isGraph_ok g161, ?_⟩
          exact (Option.some.inj h).symm
         ·rw [if_neg g160] at h
          refine ⟨fun g162 => ?_, fun g162 => ?_⟩
          ·rw [if_pos g162] at h
           obtain ⟨q163, g163, h⟩ := bind_ok h
           refine ⟨q163, digit_isGraph_ok g163, ?_⟩
           refine ⟨fun g164 => ?_, fun g164 => ?_⟩
           ·rw [if_pos g164] at h
            exact (Option.some.inj h).symm
           ·rw [if_neg g164] at h
            exact (Option.some.inj h).symm
          ·rw [if_neg g162] at h
           refine ⟨fun g165 => ?_, fun g165 => ?_⟩
           ·rw [if_pos g165] at h
            obtain ⟨q166, g166, h⟩ := bind_ok h
            refine ⟨q166, digit_isGraph_ok g166, ?_⟩
            refine ⟨fun g167 => ?_, fun g167 => ?_⟩
            ·rw [if_pos g167] at h
             obtain ⟨q168, g168, h⟩ := bind_ok h
             refine ⟨q168, digit_isAlnum_ok g168, ?_⟩
             exact (Option.some.inj h).symm
            ·rw [if_neg g167] at h
             exact (Option.some.inj h).symm
           ·rw [if_neg g165] at h
            refine ⟨fun g169 => ?_, fun g169 => ?_⟩
            ·rw [if_pos g169] at h
             obtain ⟨q170, g170, h⟩ := bind_ok h
             refine ⟨q170, digit_isDigit_ok g170, ?_⟩
             refine ⟨fun g171 => ?_, fun g171 => ?_⟩
             ·rw [if_pos g171] at h
              exact (Option.some.inj h).symm
             ·rw [if_neg g171] at h
              obtain ⟨q172, g172, h⟩ := bind_ok h
              refine ⟨q172, digit_within_ok g172, ?_⟩
              refine ⟨fun g173 => ?_, fun g173 => ?_⟩
              ·rw [if_pos g173] at h
               exact (Option.some.inj h).symm
              ·rw [if_neg g173] at h
               obtain ⟨q174, g174, h⟩ := bind_ok h
               refine ⟨q174, digit_within_ok g174, ?_⟩
               exact (Option.some.inj h).symm
            ·rw [if_neg g169] at h
             exact (Option.some.inj h).symm
set_option maxHeartbeats 4000000 in
theorem digit_Is_con (x1 : ByteArray) (x2 : UInt8) (r : Bool × Bool) (h : digit_Is_R x1 x2 r) : Con Try.prog 62 [.v (.string x1), .v (.int .u8 ((x2.toNat : Int)))] [] [] (fun rr bx tk => rr = .tup [.v (.bool r.1), .v (.bool r.2)] ∧ bx = [] ∧ tk = []) := by
 refine xenter Try.func62 rfl rfl fun g hg => ?_
 simp only [Try.ntmps62, slots]
 refine sr_ ?_
 refine as_ ?_
 refine as_ ?_
 refine nt_ ?_
 refine xseq ?_
 refine sr_ ?_
 refine mv_ ?_
 refine nt_ ?_
 refine xblock ?_
 refine sr_ ?_
 refine vp_ (pv_bin2 rfl rfl rfl) ?_
 refine as_ ?_
 refine nt_ ?_
 by_cases hp100 : (x1.toList == ((⟨#[117, 112, 112, 101, 114]⟩ : ByteArray)).toList) = true
 ·replace h := h.1 hp100
  refine xcondT' hp100 rfl ?_
  refine sr_ ?_
  refine mv_ ?_
  obtain ⟨y102, h101, h⟩ := h
  refine xcall0 (digit_isUpper_con x2 _ h101) Try.func73 (by kernel_rfl) rfl (.cons rfl (.refl _) .nil) rfl rfl ?_
  refine as_ ?_
  refine as_ ?_
  refine nt_ ?_
  refine xretc ?_
  refine xin_ret ?_
  refine xthen_ret ?_
  replace h := h.symm
  subst h
  exact xret2 hg rfl rfl (.refl _) rfl (.refl _) (SubM.of (.nil _) (.nil _)) ⟨rfl, rfl, rfl⟩
 ·replace h := h.2 hp100
  refine xcondF' (b_f hp100) rfl ?_
  refine sr_ ?_
  refine vp_ (pv_bin2 rfl rfl rfl) ?_
  refine as_ ?_
  refine nt_ ?_
  by_cases hp104 : (x1.toList == ((⟨#[108, 111, 119, 101, 114]⟩ : ByteArray)).toList) = true
  ·replace h := h.1 hp104
   refine xcondT' hp104 rfl ?_
   refine sr_ ?_
   refine mv_ ?_
   obtain ⟨y106, h105, h⟩ := h
   refine xcall0 (digit_isLower_con x2 _ h105) Try.func74 (by kernel_rfl) rfl (.cons rfl (.refl _) .nil) rfl rfl ?_
   refine as_ ?_
   refine as_ ?_
   refine nt_ ?_
   refine xretc ?_
   refine xin_ret ?_
   refine xthen_ret ?_
   replace h := h.symm
   subst h
   exact xret2 hg rfl rfl (.refl _) rfl (.refl _) (SubM.of (.nil _) (.nil _)) ⟨rfl, rfl, rfl⟩
  ·replace h := h.2 hp104
   refine xcondF' (b_f hp104) rfl ?_
   refine sr_ ?_
   refine vp_ (pv_bin2 rfl rfl rfl) ?_
   refine as_ ?_
   refine nt_ ?_
   by_cases hp108 : (x1.toList == ((⟨#[100, 105, 103, 105, 116]⟩ : ByteArray)).toList) = true
   ·replace h := h.1 hp108
    refine xcondT' hp108 rfl ?_
    refine sr_ ?_
    refine mv_ ?_
    obtain ⟨y110, h109, h⟩ := h
    refine xcall0 (digit_isDigit_con x2 _ h109) Try.func67 (by kernel_rfl) rfl (.cons rfl (.refl _) .nil) rfl rfl ?_
    refine as_ ?_
    refine as_ ?_
    refine nt_ ?_
    refine xretc ?_
    refine xin_ret ?_
    refine xthen_ret ?_
    replace h := h.symm
    subst h
    exact xret2 hg rfl rfl (.refl _) rfl (.refl _) (SubM.of (.nil _) (.nil _)) ⟨rfl, rfl, rfl⟩
   ·replace h := h.2 hp108
    refine xcondF' (b_f hp108) rfl ?_
    refine sr_ ?_
    refine vp_ (pv_bin2 rfl rfl rfl) ?_
    refine as_ ?_
    refine nt_ ?_
    by_cases hp112 : (x1.toList == ((⟨#[97, 108, 112, 104, 97]⟩ : ByteArray)).toList) = true
    ·replace h := h.1 hp112
     refine xcondT' hp112 rfl ?_
     refine sr_ ?_
     refine mv_ ?_
     obtain ⟨y119, h118, h⟩ := h
     refine xcall0 (digit_isUpper_con x2 _ h118) Try.func73 (by kernel_rfl) rfl (.cons rfl (.refl _) .nil) rfl rfl ?_
     refine mv_ ?_
     by_cases hp120 : y119 = true
     ·replace h := h.1 hp120
      refine xsetB 23 hp120 rfl ?_
      refine sk_ ?_
      refine sk_ ?_
      refine pk_ ?_
      refine as_ ?_
      refine as_ ?_
      refine nt_ ?_
      refine xretc ?_
      refine xin_ret ?_
      refine xthen_ret ?_
      replace h := h.symm
      subst h
      exact xret2 hg rfl rfl (.refl _) rfl (.refl _) (SubM.of (.nil _) (.nil _)) ⟨rfl, rfl, rfl⟩
     ·replace h := h.2 hp120
      refine xsetB 23 (b_f hp120) rfl ?_
      refine mv_ ?_
      obtain ⟨y122, h121, h⟩ := h
      refine xcall0 (digit_isLower_con x2 _ h121) Try.func74 (by kernel_rfl) rfl (.cons rfl (.refl _) .nil) rfl rfl ?_
      refine pk_ ?_
      refine as_ ?_
      refine as_ ?_
      refine nt_ ?_
      refine xretc ?_
      refine xin_ret ?_
      refine xthen_ret ?_
      replace h := h.symm
      subst h
      exact xret2 hg rfl rfl (.refl _) rfl (.refl _) (SubM.of (.nil _) (.nil _)) ⟨rfl, rfl, rfl⟩
    ·replace h := h.2 hp112
     refine xcondF' (b_f hp112) rfl ?_
     refine sr_ ?_
     refine vp_ (pv_bin2 rfl rfl rfl) ?_
     refine as_ ?_
     refine nt_ ?_
     by_cases hp124 : (x1.toList == ((⟨#[97, 108, 110, 117, 109]⟩ : ByteArray)).toList) = true
     ·replace h := h.1 hp124
      refine xcondT' hp124 rfl ?_
      refine sr_ ?_
      refine mv_ ?_
      obtain ⟨y126, h125, h⟩ := h
      refine xcall0 (digit_isAlnum_con x2 _ h125) Try.func75 (by kernel_rfl) rfl (.cons rfl (.refl _) .nil) rfl rfl ?_
      refine as_ ?_
      refine as_ ?_
      refine nt_ ?_
      refine xretc ?_
      refine xin_ret ?_
      refine xthen_ret ?_
      replace h := h.symm
      subst h
      exact xret2 hg rfl rfl (.refl _) rfl (.refl _) (SubM.of (.nil _) (.nil _)) ⟨rfl, rfl, rfl⟩
     ·replace h := h.2 hp124
      refine xcondF' (b_f hp124) rfl ?_
      refine sr_ ?_
      refine vp_ (pv_bin2 rfl rfl rfl) ?_
      refine as_ ?_
      refine nt_ ?_
      by_cases hp128 : (x1.toList == ((⟨#[98, 108, 97, 110, 107]⟩ : ByteArray)).toList) = true
      ·replace h := h.1 hp128
       refine xcondT' hp128 rfl ?_
       refine sr_ ?_
       refine mv_ ?_
       obtain ⟨y130, h129, h⟩ := h
       refine xcall0 (digit_isBlank_con x2 _ h129) Try.func76 (by kernel_rfl) rfl (.cons rfl (.refl _) .nil) rfl rfl ?_
       refine as_ ?_
       refine as_ ?_
       refine nt_ ?_
       refine xretc ?_
       refine xin_ret ?_
       refine xthen_ret ?_
       replace h := h.symm
       subst h
       exact xret2 hg rfl rfl (.refl _) rfl (.refl _) (SubM.of (.nil _) (.nil _)) ⟨rfl, rfl, rfl⟩
      ·replace h := h.2 hp128
       refine xcondF' (b_f hp128) rfl ?_
       refine sr_ ?_
       refine vp_ (pv_bin2 rfl rfl rfl) ?_
       refine as_ ?_
       refine nt_ ?_
       by_cases hp132 : (x1.toList == ((⟨#[115, 112, 97, 99, 101]⟩ : ByteArray)).toList) = true
       ·replace h := h.1 hp132
        refine xcondT' hp132 rfl ?_
        refine sr_ ?_
        refine mv_ ?_
        obtain ⟨y139, h138, h⟩ := h
        refine xcall0 (digit_isBlank_con x2 _ h138) Try.func76 (by kernel_rfl) rfl (.cons rfl (.refl _) .nil) rfl rfl ?_
        refine mv_ ?_
        by_cases hp140 : y139 = true
        ·replace h := h.1 hp140
         refine xsetB 39 hp140 rfl ?_
         refine sk_ ?_
         refine sk_ ?_
         refine pk_ ?_
         refine as_ ?_
         refine as_ ?_
         refine nt_ ?_
         refine xretc ?_
         refine xin_ret ?_
         refine xthen_ret ?_
         replace h := h.symm
         subst h
         exact xret2 hg rfl rfl (.refl _) rfl (.refl _) (SubM.of (.nil _) (.nil _)) ⟨rfl, rfl, rfl⟩
        ·replace h := h.2 hp140
         refine xsetB 39 (b_f hp140) rfl ?_
         refine mv_ ?_
         obtain ⟨y142, h141, h⟩ := h
         refine xcall0 (digit_within_con x2 (10 : UInt8) (13 : UInt8) _ h141) Try.func77 (by kernel_rfl) rfl (.cons rfl (.refl _) (.cons rfl (.refl _) (.cons rfl (.refl _) .nil))) rfl rfl ?_
         refine pk_ ?_
         refine as_ ?_
         refine as_ ?_
         refine nt_ ?_
         refine xretc ?_
         refine xin_ret ?_
         refine xthen_ret ?_
         replace h := h.symm
         subst h
         exact xret2 hg rfl rfl (.refl _) rfl (.refl _) (SubM.of (.nil _) (.nil _)) ⟨rfl, rfl, rfl⟩
       ·replace h := h.2 hp132
        refine xcondF' (b_f hp132) rfl ?_
        refine sr_ ?_
        refine vp_ (pv_bin2 rfl rfl rfl) ?_
        refine as_ ?_
        refine nt_ ?_
        by_cases hp144 : (x1.toList == ((⟨#[99, 110, 116, 114, 108]⟩ : ByteArray)).toList) = true
        ·replace h := h.1 hp144
         refine xcondT' hp144 rfl ?_
         refine sr_ ?_
         refine mv_ ?_
         refine vp_ (pv_bin2 rfl rfl rfl) ?_
         refine mv_ ?_
         by_cases hp149 : (x2.toNat : Int) < 32
         ·replace h := h.1 hp149
          refine xsetB 47 (decide_eq_true hp149) rfl ?_
          refine sk_ ?_
          refine sk_ ?_
          refine pk_ ?_
          refine as_ ?_
          refine as_ ?_
          refine nt_ ?_
          refine xretc ?_
          refine xin_ret ?_
          refine xthen_ret ?_
          replace h := h.symm
          subst h
          exact xret2 hg rfl rfl (.refl _) rfl (.refl _) (SubM.of (.nil _) (.nil _)) ⟨rfl, rfl, rfl⟩
         ·replace h := h.2 hp149
          refine xsetB 47 (decide_eq_false hp149) rfl ?_
          refine mv_ ?_
          refine vp_ (pv_bin2 rfl rfl rfl) ?_
          refine pk_ ?_
          refine as_ ?_
          refine as_ ?_
          refine nt_ ?_
          refine xretc ?_
          refine xin_ret ?_
          refine xthen_ret ?_
          replace h := h.symm
          subst h
          exact xret2 hg rfl rfl (.refl _) rfl (.refl _) (SubM.of (.nil _) (.nil _)) ⟨rfl, rfl, rfl⟩
        ·replace h := h.2 hp144
         refine xcondF' (b_f hp144) rfl ?_
         refine sr_ ?_
         refine vp_ (pv_bin2 rfl rfl rfl) ?_
         refine as_ ?_
         refine nt_ ?_
         by_cases hp152 : (x1.toList == ((⟨#[103, 114, 97, 112, 104]⟩ : ByteArray)).toList) = true
         ·replace h := h.1 hp152
          refine xcondT' hp152 rfl ?_
          refine sr_ ?_
          refine mv_ ?_
          obtain ⟨y154, h153, h⟩ := h
          refine xcall0 (digit_isGraph_con x2 _ h153) Try.func78 (by kernel_rfl) rfl (.cons rfl (.refl _) .nil) rfl rfl ?_
          refine as_ ?_
          refine as_ ?_
          refine nt_ ?_
          refine xretc ?_
          refine xin_ret ?_
          refine xthen_ret ?_
          replace h := h.symm
          subst h
          exact xret2 hg rfl rfl (.refl _) rfl (.refl _) (SubM.of (.nil _) (.nil _)) ⟨rfl, rfl, rfl⟩
         ·replace h := h.2 hp152
          refine xcondF' (b_f hp152) rfl ?_
          refine sr_ ?_
          refine vp_ (pv_bin2 rfl rfl rfl) ?_
          refine as_ ?_
          refine nt_ ?_
          by_cases hp156 : (x1.toList == ((⟨#[112, 114, 105, 110, 116]⟩ : ByteArray)).toList) = true
          ·replace h := h.1 hp156
           refine xcondT' hp156 rfl ?_
           refine sr_ ?_
           refine mv_ ?_
           obtain ⟨y162, h161, h⟩ := h
           refine xcall0 (digit_isGraph_con x2 _ h161) Try.func78 (by kernel_rfl) rfl (.cons rfl (.refl _) .nil) rfl rfl ?_
           refine mv_ ?_
           by_cases hp163 : y162 = true
           ·replace h := h.1 hp163
            refine xsetB 59 hp163 rfl ?_
            refine sk_ ?_
            refine sk_ ?_
            refine pk_ ?_
            refine as_ ?_
            refine as_ ?_
            refine nt_ ?_
            refine xretc ?_
            refine xin_ret ?_
            refine xthen_ret ?_
            replace h := h.symm
            subst h
            exact xret2 hg rfl rfl (.refl _) rfl (.refl _) (SubM.of (.nil _) (.nil _)) ⟨rfl, rfl, rfl⟩
           ·replace h := h.2 hp163
            refine xsetB 59 (b_f hp163) rfl ?_
            refine mv_ ?_
            refine vp_ (pv_bin2 rfl rfl rfl) ?_
            refine pk_ ?_
            refine as_ ?_
            refine as_ ?_
            refine nt_ ?_
            refine xretc ?_
            refine xin_ret ?_
            refine xthen_ret ?_
            replace h := h.symm
            subst h
            exact xret2 hg rfl rfl (.refl _) rfl (.refl _) (SubM.of (.nil _) (.nil _)) ⟨rfl, rfl, rfl⟩
          ·replace h := h.2 hp156
           refine xcondF' (b_f hp156) rfl ?_
           refine sr_ ?_
           refine vp_ (pv_bin2 rfl rfl rfl) ?_
           refine as_ ?_
           refine nt_ ?_
           by_cases hp166 : (x1.toList == ((⟨#[112, 117, 110, 99, 116]⟩ : ByteArray)).toList) = true
           ·replace h := h.1 hp166
            refine xcondT' hp166 rfl ?_
            refine sr_ ?_
            refine mv_ ?_
            obtain ⟨y173, h172, h⟩ := h
            refine xcall0 (digit_isGraph_con x2 _ h172) Try.func78 (by kernel_rfl) rfl (.cons rfl (.refl _) .nil) rfl rfl ?_
            refine mv_ ?_
            by_cases hp174 : y173 = true
            ·replace h := h.1 hp174
             refine xsetB 67 hp174 rfl ?_
             refine mv_ ?_
             obtain ⟨y176, h175, h⟩ := h
             refine xcall0 (digit_isAlnum_con x2 _ h175) Try.func75 (by kernel_rfl) rfl (.cons rfl (.refl _) .nil) rfl rfl ?_
             refine vp_ (pv_not rfl) ?_
             refine pk_ ?_
             refine as_ ?_
             refine as_ ?_
             refine nt_ ?_
             refine xretc ?_
             refine xin_ret ?_
             refine xthen_ret ?_
             replace h := h.symm
             subst h
             exact xret2 hg rfl rfl (.refl _) rfl (.refl _) (SubM.of (.nil _) (.nil _)) ⟨rfl, rfl, rfl⟩
            ·replace h := h.2 hp174
             refine xsetB 67 (b_f hp174) rfl ?_
             refine sk_ ?_
             refine sk_ ?_
             refine sk_ ?_
             refine pk_ ?_
             refine as_ ?_
             refine as_ ?_
             refine nt_ ?_
             refine xretc ?_
             refine xin_ret ?_
             refine xthen_ret ?_
             replace h := h.symm
             subst h
             exact xret2 hg rfl rfl (.refl _) rfl (.refl _) (SubM.of (.nil _) (.nil _)) ⟨rfl, rfl, rfl⟩
           ·replace h := h.2 hp166
            refine xcondF' (b_f hp166) rfl ?_
            refine sr_ ?_
            refine vp_ (pv_bin2 rfl rfl rfl) ?_
            refine as_ ?_
            refine nt_ ?_
            by_cases hp178 : (x1.toList == ((⟨#[120, 100, 105, 103, 105, 116]⟩ : ByteArray)).toList) = true
            ·replace h := h.1 hp178
             refine xcondT' hp178 rfl ?_
             refine sr_ ?_
             refine mv_ ?_
             obtain ⟨y188, h187, h⟩ := h
             refine xcall0 (digit_isDigit_con x2 _ h187) Try.func67 (by kernel_rfl) rfl (.cons rfl (.refl _) .nil) rfl rfl ?_
             refine mv_ ?_
             by_cases hp189 : y188 = true
             ·replace h := h.1 hp189
              refine xsetB 76 hp189 rfl ?_
              refine sk_ ?_
              refine sk_ ?_
              refine pk_ ?_
              refine mv_ ?_
              refine sk_ ?_
              refine sk_ ?_
              refine pk_ ?_
              refine as_ ?_
              refine as_ ?_
              refine nt_ ?_
              refine xretc ?_
              refine xin_ret ?_
              refine xthen_ret ?_
              replace h := h.symm
              subst h
              exact xret2 hg rfl rfl (.refl _) rfl (.refl _) (SubM.of (.nil _) (.nil _)) ⟨rfl, rfl, rfl⟩
             ·replace h := h.2 hp189
              refine xsetB 76 (b_f hp189) rfl ?_
              refine mv_ ?_
              obtain ⟨y191, h190, h⟩ := h
              refine xcall0 (digit_within_con x2 (65 : UInt8) (70 : UInt8) _ h190) Try.func77 (by kernel_rfl) rfl (.cons rfl (.refl _) (.cons rfl (.refl _) (.cons rfl (.refl _) .nil))) rfl rfl ?_
              refine pk_ ?_
              refine mv_ ?_
              by_cases hp192 : y191 = true
              ·replace h := h.1 hp192
               refine xsetB 80 hp192 rfl ?_
               refine sk_ ?_
               refine sk_ ?_
               refine pk_ ?_
               refine as_ ?_
               refine as_ ?_
               refine nt_ ?_
               refine xretc ?_
               refine xin_ret ?_
               refine xthen_ret ?_
               replace h := h.symm
               subst h
               exact xret2 hg rfl rfl (.refl _) rfl (.refl _) (SubM.of (.nil _) (.nil _)) ⟨rfl, rfl, rfl⟩
              ·replace h := h.2 hp192
               refine xsetB 80 (b_f hp192) rfl ?_
               refine mv_ ?_
               obtain ⟨y194, h193, h⟩ := h
               refine xcall0 (digit_within_con x2 (97 : UInt8) (102 : UInt8) _ h193) Try.func77 (by kernel_rfl) rfl (.cons rfl (.refl _) (.cons rfl (.refl _) (.cons rfl (.refl _) .nil))) rfl rfl ?_
               refine pk_ ?_
               refine as_ ?_
               refine as_ ?_
               refine nt_ ?_
               refine xretc ?_
               refine xin_ret ?_
               refine xthen_ret ?_
               replace h := h.symm
               subst h
               exact xret2 hg rfl rfl (.refl _) rfl (.refl _) (SubM.of (.nil _) (.nil _)) ⟨rfl, rfl, rfl⟩
            ·replace h := h.2 hp178
             refine xcondF' (b_f hp178) rfl ?_
             refine xskipc ?_
             refine xin_normal ?_
             refine xthen ?_
             refine sr_ ?_
             refine as_ ?_
             refine as_ ?_
             refine nt_ ?_
             refine xretc ?_
             replace h := h.symm
             subst h
             exact xret2 hg rfl rfl (.refl _) rfl (.refl _) (SubM.of (.nil _) (.nil _)) ⟨rfl, rfl, rfl⟩
/-- class.Named -/
def class_Named_l1 (name1 : ByteArray) (ag1 : (Int × (Arr 4 (UInt64))) → Prop) (x112 : Int) (f113 : Arr 4 (UInt64)) (r : (Arr 4 (UInt64)) × Bool) : Prop :=
 ((x112 < 256 → ∃ c156 : UInt8, (c156.toNat : Int) = IntKind.u8.wrap x112 ∧ ∃ y158 : Bool × Bool, digit_Is_R name1 c156 y158 ∧ ((¬ (y158.2 = true) → r = ((Arr.rep 4 (0 : UInt64)), false)) ∧ (¬ (¬ (y158.2 = true)) → ((y158.1 = true → ∃ c163 : UInt8, (c163.toNat : Int) = IntKind.u8.wrap x112 ∧ ∃ y165 : (Arr 4 (UInt64)), class_with_R f113 c163 y165 ∧ InR (x112 + 1) ∧ ag1 ((x112 + 1), y165)) ∧ (¬ (y158.1 = true) → InR (x112 + 1) ∧ ag1 ((x112 + 1), f113)))))) ∧ (¬ (x112 < 256) → r = (f113, true)))
def class_Named_R (name1 : ByteArray) (r : (Arr 4 (UInt64)) × Bool) : Prop :=
 LoopR (fun ag1 s => class_Named_l1 name1 ag1 s.1 s.2 r) (0, (Arr.rep 4 (0 : UInt64)))
def class_Named_l1_ev (fuel : Nat) (name1 : ByteArray) (ag1e : (Int × (Arr 4 (UInt64))) → Option ((Arr 4 (UInt64)) × Bool)) (x112 : Int) (f113 : Arr 4 (UInt64)) : Option ((Arr 4 (UInt64)) × Bool) :=
 (if x112 < 256 then (exB (IntKind.u8.wrap x112) fun c156 => ((digit_Is_ev fuel name1 c156).bind fun y158 => (if ¬ (y158.2 = true) then some ((Arr.rep 4 (0 : UInt64)), false) else (if y158.1 = true then (exB (IntKind.u8.wrap x112) fun c163 => ((class_with_ev fuel f113 c163).bind fun y165 => (if InR (x112 + 1) then ag1e ((x112 + 1), y165) else none))) else (if InR (x112 + 1) then ag1e ((x112 + 1), f113) else none))))) else some (f113, true))
theorem class_Named_l1_ok {fuel : Nat} {name1 : ByteArray} {ag1e : (Int × (Arr 4 (UInt64))) → Option ((Arr 4 (UInt64)) × Bool)} {ag1 : (Int × (Arr 4 (UInt64))) → Prop} {x112 : Int} {f113 : Arr 4 (UInt64)} {r : (Arr 4 (UInt64)) × Bool} (hagag1 : ∀ s, ag1e s = some r → ag1 s) (h : class_Named_l1_ev fuel name1 ag1e x112 f113 = some r) : class_Named_l1 name1 ag1 x112 f113 r := by
 unfold class_Named_l1_ev at h
 unfold class_Named_l1
 refine ⟨fun g175 => ?_, fun g175 => ?_⟩
 ·rw [if_pos g175] at h
  obtain ⟨q176, g176, h⟩ := exB_ok h
  refine ⟨q176, g176, ?_⟩
  obtain ⟨q177, g177, h⟩ := bind_ok h
  refine ⟨q177, digit_Is_ok g177, ?_⟩
  refine ⟨fun g178 => ?_, fun g178 => ?_⟩
  ·rw [if_pos g178] at h
   exact (Option.some.inj h).symm
  ·rw [if_neg g178] at h
   refine ⟨fun g179 => ?_, fun g179 => ?_⟩
   ·rw [if_pos g179] at h
    obtain ⟨q180, g180, h⟩ := exB_ok h
    refine ⟨q180, g180, ?_⟩
    obtain ⟨q181, g181, h⟩ := bind_ok h
    refine ⟨q181, class_with_ok g181, ?_⟩
    obtain ⟨g182, h⟩ := if_ok h
    refine ⟨g182, ?_⟩
    exact hagag1 _ h
   ·rw [if_neg g179] at h
    obtain ⟨g183, h⟩ := if_ok h
    refine ⟨g183, ?_⟩
    exact hagag1 _ h
 ·rw [if_neg g175] at h
  exact (Option.some.inj h).symm
def class_Named_ev (fuel : Nat) (name1 : ByteArray) : Option ((Arr 4 (UInt64)) × Bool) :=
 (loopE (fun ag1e s => class_Named_l1_ev fuel name1 ag1e s.1 s.2) fuel (0, (Arr.rep 4 (0 : UInt64))))
theorem class_Named_ok {fuel : Nat} {name1 : ByteArray} {r : (Arr 4 (UInt64)) × Bool} (h : class_Named_ev fuel name1 = some r) : class_Named_R name1 r := by
 unfold class_Named_ev at h
 unfold class_Named_R
 refine loopE_ok ?_ h
 intro ae ag s hag h
 exact class_Named_l1_ok hag h
set_option maxHeartbeats 4000000 in
theorem class_Named_con (name1 : ByteArray) (r : (Arr 4 (UInt64)) × Bool) (h : class_Named_R name1 r) : Con Try.prog 87 [.v (.string name1)] [] [] (fun rr bx tk => rr = .tup [.agg ((List.map ew r.1.l).flatten), .v (.bool r.2)] ∧ bx = [] ∧ tk = []) := by
 refine xenter Try.func87 rfl rfl fun g hg => ?_
 simp only [Try.ntmps87, slots]
 refine sr_ ?_
 refine xalloc InfC.h rfl rfl fun b2 => ?_
 refine xreb 0 ((List.map ew ((Arr.rep 4 (0 : UInt64))).l).flatten) rfl rfl ?_
 refine as_ ?_
 refine nt_ ?_
 refine sr_ ?_
 refine xalloc InfC.h rfl rfl fun b4 => ?_
 refine xreb 0 ((List.map ew ((Arr.rep 4 (0 : UInt64))).l).flatten) rfl rfl ?_
 refine nt_ ?_
 refine xseq ?_
 refine sr_ ?_
 refine mv_ ?_
 refine nt_ ?_
 refine xblock ?_
 obtain ⟨Inv, ⟨m0, hI⟩, hS⟩ := h
 refine xloop (fun σ m => ∃ (x112 : Int), ∃ (f113 : Arr 4 (UInt64)), Inv (x112, f113) m ∧ σ = ⟨[(0, .v (.string name1)), (2, .v (.pointer (some ⟨b2, 0, none⟩))), (4, .v (.pointer (some ⟨b4, 0, none⟩))), (8, .v (.int .i64 x112))], [⟨b4, 40, ((List.map ew f113.l).flatten)⟩, ⟨b2, 40, ((List.map ew ((Arr.rep 4 (0 : UInt64))).l).flatten)⟩], []⟩) ⟨0, (Arr.rep 4 (0 : UInt64)), hI, rfl⟩ (by exact ⟨lk_, (SubM.of (.keep rfl rfl (.refl _) (.keep rfl rfl (.refl _) (.nil _))) (.nil _))⟩) ?_
 rintro _ m ⟨x112, f113, hI, rfl⟩
 obtain ⟨ag1, hag1, h⟩ : ∃ ag, (∀ s', ag s' → ∃ m', m' < m ∧ Inv s' m') ∧ class_Named_l1 name1 ag x112 f113 r := ⟨_, fun _ h => h, hS (x112, f113) _ hI⟩
 clear hS hI
 refine sr_ ?_
 refine vp_ (pv_bin2 rfl rfl rfl) ?_
 refine nt_ ?_
 refine xseq ?_
 by_cases hp143 : x112 < 256
 ·replace h := h.1 hp143
  refine xcondT' (decide_eq_true hp143) rfl ?_
  refine xskipc ?_
  refine xthen ?_
  refine xseq ?_
  refine xblock ?_
  refine sr_ ?_
  refine mv_ ?_
  refine as_ ?_
  refine nt_ ?_
  refine sr_ ?_
  refine mv_ ?_
  refine mv_ ?_
  obtain ⟨c156, h155, h⟩ := h
  refine vp_ (pv_convW h155 UndC.h UndC.h rfl) ?_
  obtain ⟨y158, h157, h⟩ := h
  refine xcallF (Fb := [⟨b4, 40, ((List.map ew f113.l).flatten)⟩, ⟨b2, 40, ((List.map ew ((Arr.rep 4 (0 : UInt64))).l).flatten)⟩]) (Ft := []) (digit_Is_con name1 c156 _ h157) Try.func62 (by kernel_rfl) rfl (.cons rfl (.refl _) (.cons rfl (.refl _) .nil)) (by exact sm_) rfl rfl ?_
  rintro _ _ _ ⟨rfl, rfl, rfl⟩
  simp only [List.nil_append, List.cons_append]
  refine mv_ ?_
  refine vp_ (pv_extract rfl rfl) ?_
  refine vp_ (pv_extract rfl rfl) ?_
  refine as_ ?_
  refine as_ ?_
  refine nt_ ?_
  refine xseq ?_
  refine sr_ ?_
  refine mv_ ?_
  refine vp_ (pv_not rfl) ?_
  refine nt_ ?_
  by_cases hp160 : ¬ (y158.2 = true)
  ·replace h := h.1 hp160
   refine xcondT' (not_t (b_f hp160)) rfl ?_
   refine sr_ ?_
   refine vp_ (pv_buildAC (cs := ((List.map ew ((Arr.rep 4 (0 : UInt64))).l).flatten)) UndC.h ShpC.h InfC.h rfl (by rfl)) ?_
   refine xstoreQ 1 [] ((List.map ew ((Arr.rep 4 (0 : UInt64))).l).flatten) [] ((List.map ew ((Arr.rep 4 (0 : UInt64))).l).flatten) ShpC.h rfl rfl rfl rfl rfl ?_
   refine as_ ?_
   refine nt_ ?_
   refine xretc ?_
   refine xthen_ret ?_
   refine xin_ret ?_
   refine xthen_ret ?_
   refine xthen_ret ?_
   refine xin_ret ?_
   refine xthen_ret ?_
   replace h := h.symm
   subst h
   exact xretL (rs := [.cell 2 40, .tmp 3]) (ss := [.agg ((List.map ew ((Arr.rep 4 (0 : UInt64))).l).flatten), .v (.bool false)]) hg rfl (by refine RetL.cell 1 ShpC.h rfl rfl (part_midE (pre := []) (mid := ((List.map ew ((Arr.rep 4 (0 : UInt64))).l).flatten)) (post := []) sq_ sl_ sl_ (part_all (seg_lenE (by rfl)))) (len_midE (pre := []) (mid := ((List.map ew ((Arr.rep 4 (0 : UInt64))).l).flatten)) (post := []) sq_ sl_ sl_) wk_ ?_; refine RetL.tmp rfl (.refl _) ?_; exact RetL.nil) (SubM.of (.nil _) (.nil _)) ⟨rfl, rfl, rfl⟩
  ·replace h := h.2 hp160
   refine xcondF' (not_f (Decidable.of_not_not hp160)) rfl ?_
   refine xskipc ?_
   refine xthen ?_
   refine sr_ ?_
   refine mv_ ?_
   refine nt_ ?_
   by_cases hp161 : y158.1 = true
   ·replace h := h.1 hp161
    refine xcondT' hp161 rfl ?_
    refine xregion ?_
    refine v_ (qv_loadP 0 [] ((List.map ew f113.l).flatten) [] sq_ sl_ sl_ (part_all (seg_lenE (by rfl))) ShpC.h rfl rfl) ?_
    refine mv_ ?_
    obtain ⟨c163, h162, h⟩ := h
    refine vp_ (pv_convW h162 UndC.h UndC.h rfl) ?_
    obtain ⟨y165, h164, h⟩ := h
    refine xcall0 (class_with_con f113 c163 _ h164) Try.func61 (by kernel_rfl) rfl (.cons rfl (.refl _) (.cons rfl (.refl _) .nil)) rfl rfl ?_
    refine xstoreQ 0 [] ((List.map ew f113.l).flatten) [] ((List.map ew y165.l).flatten) ShpC.h rfl rfl rfl rfl rfl ?_
    refine xnil ?_
    refine xin_normal ?_
    refine xthen ?_
    refine xregion ?_
    obtain ⟨h166, h⟩ := h
    refine vp_ (pv_addI h166 rfl rfl) ?_
    refine mv_ ?_
    refine xnil ?_
    obtain ⟨m', hm, hI⟩ := hag1 _ h
    exact xagain ⟨(x112 + 1), y165, hI, rfl⟩ hm ⟨lk_, (SubM.of (.keep rfl rfl (.refl _) (.keep rfl rfl (.refl _) (.nil _))) (.nil _))⟩
   ·replace h := h.2 hp161
    refine xcondF' (b_f hp161) rfl ?_
    refine xskipc ?_
    refine xin_normal ?_
    refine xthen ?_
    refine xregion ?_
    obtain ⟨h167, h⟩ := h
    refine vp_ (pv_addI h167 rfl rfl) ?_
    refine mv_ ?_
    refine xnil ?_
    obtain ⟨m', hm, hI⟩ := hag1 _ h
    exact xagain ⟨(x112 + 1), f113, hI, rfl⟩ hm ⟨lk_, (SubM.of (.keep rfl rfl (.refl _) (.keep rfl rfl (.refl _) (.nil _))) (.nil _))⟩
 ·replace h := h.2 hp143
  refine xcondF' (decide_eq_false hp143) rfl ?_
  refine xexit ?_
  refine xthen_exit ?_
  refine xthen_exit ?_
  refine xin_same rfl ?_
  refine xthen ?_
  refine sr_ ?_
  refine v_ (qv_loadP 0 [] ((List.map ew f113.l).flatten) [] sq_ sl_ sl_ (part_all (seg_lenE (by rfl))) ShpC.h rfl rfl) ?_
  refine xstoreQ 1 [] ((List.map ew ((Arr.rep 4 (0 : UInt64))).l).flatten) [] ((List.map ew f113.l).flatten) ShpC.h rfl rfl rfl rfl rfl ?_
  refine as_ ?_
  refine nt_ ?_
  refine xretc ?_
  replace h := h.symm
  subst h
  exact xretL (rs := [.cell 2 40, .tmp 3]) (ss := [.agg ((List.map ew f113.l).flatten), .v (.bool true)]) hg rfl (by refine RetL.cell 1 ShpC.h rfl rfl (part_midE (pre := []) (mid := ((List.map ew f113.l).flatten)) (post := []) sq_ sl_ sl_ (part_all (seg_lenE (by rfl)))) (len_midE (pre := []) (mid := ((List.map ew f113.l).flatten)) (post := []) sq_ sl_ sl_) wk_ ?_; refine RetL.tmp rfl (.refl _) ?_; exact RetL.nil) (SubM.of (.nil _) (.nil _)) ⟨rfl, rfl, rfl⟩
/-- brack.named -/
def brack_named_R (bv1 : List UInt8) (atv2 : Int) (r : (UInt8 × (Arr 4 (UInt64)) × Bool × Int) × Int) : Prop :=
 InR (atv2 + 1) ∧ 0 ≤ ((atv2 + 1) : Int) ∧ ∃ y4 : UInt8, bv1[((atv2 + 1) : Int).toNat]? = some y4 ∧ InR (atv2 + 2) ∧ (0 ≤ ((atv2 + 2) : Int) ∧ ((atv2 + 2) : Int) ≤ (bv1.length : Int)) ∧ ∃ y9 : Int, bytes_Index_R (bv1.drop ((atv2 + 2) : Int).toNat) ([y4, (93 : UInt8)]) y9 ∧ ((y9 < 0 → r = (((0 : UInt8), (Arr.rep 4 (0 : UInt64)), false, 0), 11)) ∧ (¬ (y9 < 0) → InR (atv2 + 2) ∧ InR (atv2 + 2) ∧ InR ((atv2 + 2) + y9) ∧ (0 ≤ ((atv2 + 2) : Int) ∧ ((atv2 + 2) : Int) ≤ (((atv2 + 2) + y9) : Int) ∧ (((atv2 + 2) + y9) : Int) ≤ (bv1.length : Int)) ∧ InR (atv2 + y9) ∧ InR ((atv2 + y9) + 4) ∧ (((y4.toNat : Int) = 58 → ∃ y31 : (Arr 4 (UInt64)) × Bool, class_Named_R (⟨(((bv1.take (((atv2 + 2) + y9) : Int).toNat).drop ((atv2 + 2) : Int).toNat)).toArray⟩ : ByteArray) y31 ∧ ((¬ (y31.2 = true) → r = (((0 : UInt8), (Arr.rep 4 (0 : UInt64)), false, 0), 12)) ∧ (¬ (¬ (y31.2 = true)) → r = (((0 : UInt8), y31.1, true, ((atv2 + y9) + 4)), 0)))) ∧ (¬ ((y4.toNat : Int) = 58) → ((¬ (((((bv1.take (((atv2 + 2) + y9) : Int).toNat).drop ((atv2 + 2) : Int).toNat)).length : Int) = 1) → r = (((0 : UInt8), (Arr.rep 4 (0 : UInt64)), false, 0), 12)) ∧ (¬ (¬ (((((bv1.take (((atv2 + 2) + y9) : Int).toNat).drop ((atv2 + 2) : Int).toNat)).length : Int) = 1)) → 0 ≤ (0 : Int) ∧ ∃ y40 : UInt8, (((bv1.take (((atv2 + 2) + y9) : Int).toNat).drop ((atv2 + 2) : Int).toNat))[(0 : Int).toNat]? = some y40 ∧ r = ((y40, (Arr.rep 4 (0 : UInt64)), false, ((atv2 + y9) + 4)), 0)))))))
def brack_named_ev (fuel : Nat) (bv1 : List UInt8) (atv2 : Int) : Option ((UInt8 × (Arr 4 (UInt64)) × Bool × Int) × Int) :=
 (if InR (atv2 + 1) then (if 0 ≤ ((atv2 + 1) : Int) then ((bv1[((atv2 + 1) : Int).toNat]?).bind fun y4 => (if InR (atv2 + 2) then (if (0 ≤ ((atv2 + 2) : Int) ∧ ((atv2 + 2) : Int) ≤ (bv1.length : Int)) then ((bytes_Index_ev fuel (bv1.drop ((atv2 + 2) : Int).toNat) ([y4, (93 : UInt8)])).bind fun y9 => (if y9 < 0 then some (((0 : UInt8), (Arr.rep 4 (0 : UInt64)), false, 0), 11) else (if InR (atv2 + 2) then (if InR (atv2 + 2) then (if InR ((atv2 + 2) + y9) then (if (0 ≤ ((atv2 + 2) : Int) ∧ ((atv2 + 2) : Int) ≤ (((atv2 + 2) + y9) : Int) ∧ (((atv2 + 2) + y9) : Int) ≤ (bv1.length : Int)) then (if InR (atv2 + y9) then (if InR ((atv2 + y9) + 4) then (if (y4.toNat : Int) = 58 then ((class_Named_ev fuel (⟨(((bv1.take (((atv2 + 2) + y9) : Int).toNat).drop ((atv2 + 2) : Int).toNat)).toArray⟩ : ByteArray)).bind fun y31 => (if ¬ (y31.2 = true) then some (((0 : UInt8), (Arr.rep 4 (0 : UInt64)), false, 0), 12) else some (((0 : UInt8), y31.1, true, ((atv2 + y9) + 4)), 0))) else (if ¬ (((((bv1.take (((atv2 + 2) + y9) : Int).toNat).drop ((atv2 + 2) : Int).toNat)).length : Int) = 1) then some (((0 : UInt8), (Arr.rep 4 (0 : UInt64)), false, 0), 12) else (if 0 ≤ (0 : Int) then (((((bv1.take (((atv2 + 2) + y9) : Int).toNat).drop ((atv2 + 2) : Int).toNat))[(0 : Int).toNat]?).bind fun y40 => some ((y40, (Arr.rep 4 (0 : UInt64)), false, ((atv2 + y9) + 4)), 0)) else none))) else none) else none) else none) else none) else none) else none))) else none) else none)) else none) else none)
theorem brack_named_ok {fuel : Nat} {bv1 : List UInt8} {atv2 : Int} {r : (UInt8 × (Arr 4 (UInt64)) × Bool × Int) × Int} (h : brack_named_ev fuel bv1 atv2 = some r) : brack_named_R bv1 atv2 r := by
 unfold brack_named_ev at h
 unfold brack_named_R
 obtain ⟨g184, h⟩ := if_ok h
 refine ⟨g184, ?_⟩
 obtain ⟨g185, h⟩ := if_ok h
 refine ⟨g185, ?_⟩
 obtain ⟨q186, g186, h⟩ := bind_ok h
 refine ⟨q186, g186, ?_⟩
 obtain ⟨g187, h⟩ := if_ok h
 refine ⟨g187, ?_⟩
 obtain ⟨g188, h⟩ := if_ok h
 refine ⟨g188, ?_⟩
 obtain ⟨q189, g189, h⟩ := bind_ok h
 refine ⟨q189, bytes_Index_ok g189, ?_⟩
 refine ⟨fun g190 => ?_, fun g190 => ?_⟩
 ·rw [if_pos g190] at h
  exact (Option.some.inj h).symm
 ·rw [if_neg g190] at h
  obtain ⟨g191, h⟩ := if_ok h
  refine ⟨g191, ?_⟩
  obtain ⟨g192, h⟩ := if_ok h
  refine ⟨g192, ?_⟩
  obtain ⟨g193, h⟩ := if_ok h
  refine ⟨g193, ?_⟩
  obtain ⟨g194, h⟩ := if_ok h
  refine ⟨g194, ?_⟩
  obtain ⟨g195, h⟩ := if_ok h
  refine ⟨g195, ?_⟩
  obtain ⟨g196, h⟩ := if_ok h
  refine ⟨g196, ?_⟩
  refine ⟨fun g197 => ?_, fun g197 => ?_⟩
  ·rw [if_pos g197] at h
   obtain ⟨q198, g198, h⟩ := bind_ok h
   refine ⟨q198, class_Named_ok g198, ?_⟩
   refine ⟨fun g199 => ?_, fun g199 => ?_⟩
   ·rw [if_pos g199] at h
    exact (Option.some.inj h).symm
   ·rw [if_neg g199] at h
    exact (Option.some.inj h).symm
  ·rw [if_neg g197] at h
   refine ⟨fun g200 => ?_, fun g200 => ?_⟩
   ·rw [if_pos g200] at h
    exact (Option.some.inj h).symm
   ·rw [if_neg g200] at h
    obtain ⟨g201, h⟩ := if_ok h
    refine ⟨g201, ?_⟩
    obtain ⟨q202, g202, h⟩ := bind_ok h
    refine ⟨q202, g202, ?_⟩
    exact (Option.some.inj h).symm
set_option maxHeartbeats 4000000 in
theorem brack_named_con (bv1 : List UInt8) (atv2 : Int) (r : (UInt8 × (Arr 4 (UInt64)) × Bool × Int) × Int) (h : brack_named_R bv1 atv2 r) : Con Try.prog 85 [.sl 1 none (List.map eb bv1), .v (.int .i64 atv2)] [] [] (fun rr bx tk => rr = .tup [.agg ([.v (.int .u8 ((r.1.1.toNat : Int)))] ++ ((List.map ew r.1.2.1.l).flatten ++ [.v (.bool r.1.2.2.1), .v (.int .i64 r.1.2.2.2)])), .v (.int .i64 r.2)] ∧ bx = [] ∧ tk = []) := by
 refine xenter Try.func85 rfl rfl fun g hg => ?_
 simp only [Try.ntmps85, slots]
 refine sr_ ?_
 refine xalloc InfC.h rfl rfl fun b4 => ?_
 refine xreb 0 ([.v (.int .u8 0)] ++ ((List.map ew ((Arr.rep 4 (0 : UInt64))).l).flatten ++ [.v (.bool false), .v (.int .i64 0)])) rfl rfl ?_
 refine as_ ?_
 refine nt_ ?_
 refine sr_ ?_
 refine mv_ ?_
 refine mv_ ?_
 obtain ⟨h3, h⟩ := h
 refine vp_ (pv_addI h3 rfl rfl) ?_
 obtain ⟨h5a, h⟩ := h
 obtain ⟨y4, h5b, h⟩ := h
 refine vp_ (pv_indexAddrM h5a h5b UndC.h ShpC.h rfl rfl) ?_
 refine v_ (qv_load ShpC.h rfl rfl rfl) ?_
 refine as_ ?_
 refine nt_ ?_
 refine sr_ ?_
 refine mv_ ?_
 refine mv_ ?_
 obtain ⟨h6, h⟩ := h
 refine vp_ (pv_addI h6 rfl rfl) ?_
 obtain ⟨h7, h⟩ := h
 refine vp_ (pv_sliceLo h7 UndC.h ShpC.h rfl rfl) ?_
 refine mv_ ?_
 refine xbuildSliceM (f := eb) [y4, (93 : UInt8)] UndC.h InfC.h rfl rfl wr_ rfl rfl rfl rfl fun s22 => ?_
 obtain ⟨y9, h8, h⟩ := h
 refine xcall0 (bytes_Index_con (bv1.drop ((atv2 + 2) : Int).toNat) ([y4, (93 : UInt8)]) _ h8) Try.func86 (by kernel_rfl) rfl (.cons rfl (.refl _) (.cons rfl (.tok _ _ _) .nil)) rfl rfl ?_
 refine as_ ?_
 refine nt_ ?_
 refine xseq ?_
 refine sr_ ?_
 refine mv_ ?_
 refine vp_ (pv_bin2 rfl rfl rfl) ?_
 refine nt_ ?_
 by_cases hp13 : y9 < 0
 ·replace h := h.1 hp13
  refine xcondT' (decide_eq_true hp13) rfl ?_
  refine sr_ ?_
  refine vp_ (pv_buildC (cs := ([.v (.int .u8 0)] ++ ((List.map ew ((Arr.rep 4 (0 : UInt64))).l).flatten ++ [.v (.bool false), .v (.int .i64 0)]))) StrC.h rfl (by exact congrArg some sq_)) ?_
  refine xstoreQ 0 [] ([.v (.int .u8 0)] ++ ((List.map ew ((Arr.rep 4 (0 : UInt64))).l).flatten ++ [.v (.bool false), .v (.int .i64 0)])) [] ([.v (.int .u8 0)] ++ ((List.map ew ((Arr.rep 4 (0 : UInt64))).l).flatten ++ [.v (.bool false), .v (.int .i64 0)])) ShpC.h rfl rfl rfl rfl rfl ?_
  refine as_ ?_
  refine nt_ ?_
  refine xretc ?_
  refine xthen_ret ?_
  replace h := h.symm
  subst h
  exact xretL (rs := [.cell 4 118, .tmp 5]) (ss := [.agg ([.v (.int .u8 (((0 : UInt8).toNat : Int)))] ++ ((List.map ew ((Arr.rep 4 (0 : UInt64))).l).flatten ++ [.v (.bool false), .v (.int .i64 0)])), .v (.int .i64 11)]) hg rfl (by refine RetL.cell 0 ShpC.h rfl rfl (part_midE (pre := []) (mid := ([.v (.int .u8 0)] ++ ((List.map ew ((Arr.rep 4 (0 : UInt64))).l).flatten ++ [.v (.bool false), .v (.int .i64 0)]))) (post := []) sq_ sl_ sl_ (part_all sl_)) (len_midE (pre := []) (mid := ([.v (.int .u8 0)] ++ ((List.map ew ((Arr.rep 4 (0 : UInt64))).l).flatten ++ [.v (.bool false), .v (.int .i64 0)]))) (post := []) sq_ sl_ sl_) wk_ ?_; refine RetL.tmp rfl (.refl _) ?_; exact RetL.nil) (SubM.of (.nil _) (.nil _)) ⟨rfl, rfl, rfl⟩
 ·replace h := h.2 hp13
  refine xcondF' (decide_eq_false hp13) rfl ?_
  refine xskipc ?_
  refine xthen ?_
  refine sr_ ?_
  refine mv_ ?_
  refine mv_ ?_
  obtain ⟨h14, h⟩ := h
  refine vp_ (pv_addI h14 rfl rfl) ?_
  refine mv_ ?_
  obtain ⟨h15, h⟩ := h
  refine vp_ (pv_addI h15 rfl rfl) ?_
  refine mv_ ?_
  obtain ⟨h16, h⟩ := h
  refine vp_ (pv_addI h16 rfl rfl) ?_
  obtain ⟨h17, h⟩ := h
  refine vp_ (pv_sliceLH h17 UndC.h ShpC.h rfl rfl rfl) ?_
  refine as_ ?_
  refine nt_ ?_
  refine sr_ ?_
  refine mv_ ?_
  refine mv_ ?_
  obtain ⟨h18, h⟩ := h
  refine vp_ (pv_addI h18 rfl rfl) ?_
  obtain ⟨h19, h⟩ := h
  refine vp_ (pv_addI h19 rfl rfl) ?_
  refine vp_ (pv_buildC (cs := ([.v (.int .u8 0)] ++ ((List.map ew ((Arr.rep 4 (0 : UInt64))).l).flatten ++ [.v (.bool false), .v (.int .i64 (((atv2 + y9) + 4)))]))) StrC.h rfl (by refine fill_step ([.v (.int .u8 0)] ++ ((List.map ew ((Arr.rep 4 (0 : UInt64))).l).flatten ++ [.v (.bool false)])) [.v (.int .i64 0)] [] sq_ sl_ sl_ sl_ rfl rfl ?_; exact congrArg some sq_)) ?_
  refine xalloc InfC.h rfl rfl fun b9 => ?_
  refine xreb 0 ([.v (.int .u8 0)] ++ ((List.map ew ((Arr.rep 4 (0 : UInt64))).l).flatten ++ [.v (.bool false), .v (.int .i64 0)])) rfl rfl ?_
  refine xstoreQ 0 [] ([.v (.int .u8 0)] ++ ((List.map ew ((Arr.rep 4 (0 : UInt64))).l).flatten ++ [.v (.bool false), .v (.int .i64 0)])) [] ([.v (.int .u8 0)] ++ ((List.map ew ((Arr.rep 4 (0 : UInt64))).l).flatten ++ [.v (.bool false), .v (.int .i64 (((atv2 + y9) + 4)))])) ShpC.h rfl rfl rfl rfl rfl ?_
  refine nt_ ?_
  refine xseq ?_
  refine sr_ ?_
  refine mv_ ?_
  refine vp_ (pv_bin2 rfl rfl rfl) ?_
  refine nt_ ?_
  by_cases hp28 : (y4.toNat : Int) = 58
  ·replace h := h.1 hp28
   refine xcondT' (decide_eq_true hp28) rfl ?_
   refine sr_ ?_
   refine mv_ ?_
   refine v_ (pv_str (bs := ((bv1.take (((atv2 + 2) + y9) : Int).toNat).drop ((atv2 + 2) : Int).toNat)) UndC.h UndC.h UndC.h rfl rfl rfl (fun _ h => by injection h with h; exact h.symm)) ?_
   obtain ⟨y31, h30, h⟩ := h
   refine xcallF (Fb := [⟨b9, 118, ([.v (.int .u8 0)] ++ ((List.map ew ((Arr.rep 4 (0 : UInt64))).l).flatten ++ [.v (.bool false), .v (.int .i64 (((atv2 + y9) + 4)))]))⟩, ⟨b4, 118, ([.v (.int .u8 0)] ++ ((List.map ew ((Arr.rep 4 (0 : UInt64))).l).flatten ++ [.v (.bool false), .v (.int .i64 0)]))⟩]) (Ft := [⟨(some (s22, 2)), 5, 1, ([y4, (93 : UInt8)]).length⟩]) (class_Named_con (⟨(((bv1.take (((atv2 + 2) + y9) : Int).toNat).drop ((atv2 + 2) : Int).toNat)).toArray⟩ : ByteArray) _ h30) Try.func87 (by kernel_rfl) rfl (.cons rfl (.refl _) .nil) (by exact sm_) rfl rfl ?_
   rintro _ _ _ ⟨rfl, rfl, rfl⟩
   simp only [List.nil_append, List.cons_append]
   refine mv_ ?_
   refine vp_ (pv_extract rfl rfl) ?_
   refine vp_ (pv_extract rfl rfl) ?_
   refine xalloc InfC.h rfl rfl fun b10 => ?_
   refine xreb 0 ((List.map ew ((Arr.rep 4 (0 : UInt64))).l).flatten) rfl rfl ?_
   refine xstoreQ 0 [] ((List.map ew ((Arr.rep 4 (0 : UInt64))).l).flatten) [] ((List.map ew y31.1.l).flatten) ShpC.h rfl rfl rfl rfl rfl ?_
   refine as_ ?_
   refine nt_ ?_
   refine xseq ?_
   refine sr_ ?_
   refine mv_ ?_
   refine vp_ (pv_not rfl) ?_
   refine nt_ ?_
   by_cases hp33 : ¬ (y31.2 = true)
   ·replace h := h.1 hp33
    refine xcondT' (not_t (b_f hp33)) rfl ?_
    refine sr_ ?_
    refine vp_ (pv_buildC (cs := ([.v (.int .u8 0)] ++ ((List.map ew ((Arr.rep 4 (0 : UInt64))).l).flatten ++ [.v (.bool false), .v (.int .i64 0)]))) StrC.h rfl (by exact congrArg some sq_)) ?_
    refine xstoreQ 2 [] ([.v (.int .u8 0)] ++ ((List.map ew ((Arr.rep 4 (0 : UInt64))).l).flatten ++ [.v (.bool false), .v (.int .i64 0)])) [] ([.v (.int .u8 0)] ++ ((List.map ew ((Arr.rep 4 (0 : UInt64))).l).flatten ++ [.v (.bool false), .v (.int .i64 0)])) ShpC.h rfl rfl rfl rfl rfl ?_
    refine as_ ?_
    refine nt_ ?_
    refine xretc ?_
    refine xthen_ret ?_
    refine xthen_ret ?_
    replace h := h.symm
    subst h
    exact xretL (rs := [.cell 4 118, .tmp 5]) (ss := [.agg ([.v (.int .u8 (((0 : UInt8).toNat : Int)))] ++ ((List.map ew ((Arr.rep 4 (0 : UInt64))).l).flatten ++ [.v (.bool false), .v (.int .i64 0)])), .v (.int .i64 12)]) hg rfl (by refine RetL.cell 2 ShpC.h rfl rfl (part_midE (pre := []) (mid := ([.v (.int .u8 0)] ++ ((List.map ew ((Arr.rep 4 (0 : UInt64))).l).flatten ++ [.v (.bool false), .v (.int .i64 0)]))) (post := []) sq_ sl_ sl_ (part_all sl_)) (len_midE (pre := []) (mid := ([.v (.int .u8 0)] ++ ((List.map ew ((Arr.rep 4 (0 : UInt64))).l).flatten ++ [.v (.bool false), .v (.int .i64 0)]))) (post := []) sq_ sl_ sl_) wk_ ?_; refine RetL.tmp rfl (.refl _) ?_; exact RetL.nil) (SubM.of (.nil _) (.nil _)) ⟨rfl, rfl, rfl⟩
   ·replace h := h.2 hp33
    refine xcondF' (not_f (Decidable.of_not_not hp33)) rfl ?_
    refine xskipc ?_
    refine xthen ?_
    refine sr_ ?_
    refine v_ (qv_loadP 0 [] ((List.map ew y31.1.l).flatten) [] sq_ sl_ sl_ (part_all (seg_lenE (by rfl))) ShpC.h rfl rfl) ?_
    refine vp_ (qv_fieldAddrB FldC.h rfl) ?_
    refine xstoreQ 1 [.v (.int .u8 0)] ((List.map ew ((Arr.rep 4 (0 : UInt64))).l).flatten) [.v (.bool false), .v (.int .i64 (((atv2 + y9) + 4)))] ([.v (.int .u8 0)] ++ ((List.map ew y31.1.l).flatten ++ [.v (.bool false), .v (.int .i64 (((atv2 + y9) + 4)))])) ShpC.h rfl rfl rfl rfl rfl ?_
    refine vp_ (qv_fieldAddrB FldC.h rfl) ?_
    refine xstoreQ 1 ([.v (.int .u8 0)] ++ (List.map ew y31.1.l).flatten) [.v (.bool false)] [.v (.int .i64 (((atv2 + y9) + 4)))] ([.v (.int .u8 0)] ++ ((List.map ew y31.1.l).flatten ++ [.v (.bool true), .v (.int .i64 (((atv2 + y9) + 4)))])) ShpC.h rfl rfl rfl rfl rfl ?_
    refine nt_ ?_
    refine sr_ ?_
    refine v_ (qv_loadP 1 [] ([.v (.int .u8 0)] ++ ((List.map ew y31.1.l).flatten ++ [.v (.bool true), .v (.int .i64 (((atv2 + y9) + 4)))])) [] sq_ sl_ sl_ (part_all sl_) ShpC.h rfl rfl) ?_
    refine xstoreQ 2 [] ([.v (.int .u8 0)] ++ ((List.map ew ((Arr.rep 4 (0 : UInt64))).l).flatten ++ [.v (.bool false), .v (.int .i64 0)])) [] ([.v (.int .u8 0)] ++ ((List.map ew y31.1.l).flatten ++ [.v (.bool true), .v (.int .i64 (((atv2 + y9) + 4)))])) ShpC.h rfl rfl rfl rfl rfl ?_
    refine as_ ?_
    refine nt_ ?_
    refine xretc ?_
    refine xthen_ret ?_
    replace h := h.symm
    subst h
    exact xretL (rs := [.cell 4 118, .tmp 5]) (ss := [.agg ([.v (.int .u8 (((0 : UInt8).toNat : Int)))] ++ ((List.map ew y31.1.l).flatten ++ [.v (.bool true), .v (.int .i64 (((atv2 + y9) + 4)))])), .v (.int .i64 0)]) hg rfl (by refine RetL.cell 2 ShpC.h rfl rfl (part_midE (pre := []) (mid := ([.v (.int .u8 0)] ++ ((List.map ew y31.1.l).flatten ++ [.v (.bool true), .v (.int .i64 (((atv2 + y9) + 4)))]))) (post := []) sq_ sl_ sl_ (part_all sl_)) (len_midE (pre := []) (mid := ([.v (.int .u8 0)] ++ ((List.map ew y31.1.l).flatten ++ [.v (.bool true), .v (.int .i64 (((atv2 + y9) + 4)))]))) (post := []) sq_ sl_ sl_) wk_ ?_; refine RetL.tmp rfl (.refl _) ?_; exact RetL.nil) (SubM.of (.nil _) (.nil _)) ⟨rfl, rfl, rfl⟩
  ·replace h := h.2 hp28
   refine xcondF' (decide_eq_false hp28) rfl ?_
   refine xskipc ?_
   refine xthen ?_
   refine xseq ?_
   refine sr_ ?_
   refine mv_ ?_
   refine vp_ (pv_lenM UndC.h rfl) ?_
   refine vp_ (pv_bin2 rfl rfl rfl) ?_
   refine nt_ ?_
   by_cases hp39 : ¬ (((((bv1.take (((atv2 + 2) + y9) : Int).toNat).drop ((atv2 + 2) : Int).toNat)).length : Int) = 1)
   ·replace h := h.1 hp39
    refine xcondT' (not_t (decide_eq_false hp39)) rfl ?_
    refine sr_ ?_
    refine vp_ (pv_buildC (cs := ([.v (.int .u8 0)] ++ ((List.map ew ((Arr.rep 4 (0 : UInt64))).l).flatten ++ [.v (.bool false), .v (.int .i64 0)]))) StrC.h rfl (by exact congrArg some sq_)) ?_
    refine xstoreQ 1 [] ([.v (.int .u8 0)] ++ ((List.map ew ((Arr.rep 4 (0 : UInt64))).l).flatten ++ [.v (.bool false), .v (.int .i64 0)])) [] ([.v (.int .u8 0)] ++ ((List.map ew ((Arr.rep 4 (0 : UInt64))).l).flatten ++ [.v (.bool false), .v (.int .i64 0)])) ShpC.h rfl rfl rfl rfl rfl ?_
    refine as_ ?_
    refine nt_ ?_
    refine xretc ?_
    refine xthen_ret ?_
    replace h := h.symm
    subst h
    exact xretL (rs := [.cell 4 118, .tmp 5]) (ss := [.agg ([.v (.int .u8 (((0 : UInt8).toNat : Int)))] ++ ((List.map ew ((Arr.rep 4 (0 : UInt64))).l).flatten ++ [.v (.bool false), .v (.int .i64 0)])), .v (.int .i64 12)]) hg rfl (by refine RetL.cell 1 ShpC.h rfl rfl (part_midE (pre := []) (mid := ([.v (.int .u8 0)] ++ ((List.map ew ((Arr.rep 4 (0 : UInt64))).l).flatten ++ [.v (.bool false), .v (.int .i64 0)]))) (post := []) sq_ sl_ sl_ (part_all sl_)) (len_midE (pre := []) (mid := ([.v (.int .u8 0)] ++ ((List.map ew ((Arr.rep 4 (0 : UInt64))).l).flatten ++ [.v (.bool false), .v (.int .i64 0)]))) (post := []) sq_ sl_ sl_) wk_ ?_; refine RetL.tmp rfl (.refl _) ?_; exact RetL.nil) (SubM.of (.nil _) (.nil _)) ⟨rfl, rfl, rfl⟩
   ·replace h := h.2 hp39
    refine xcondF' (not_f (decide_eq_true (Decidable.of_not_not hp39))) rfl ?_
    refine xskipc ?_
    refine xthen ?_
    refine sr_ ?_
    refine mv_ ?_
    obtain ⟨h41a, h⟩ := h
    obtain ⟨y40, h41b, h⟩ := h
    refine vp_ (pv_indexAddrM h41a h41b UndC.h ShpC.h rfl rfl) ?_
    refine v_ (qv_load ShpC.h rfl rfl rfl) ?_
    refine vp_ (qv_fieldAddrB FldC.h rfl) ?_
    refine xstore 0 ShpC.h rfl rfl rfl rfl rfl rfl rfl ?_
    refine nt_ ?_
    refine sr_ ?_
    refine v_ (qv_loadP 0 [] ([.v (.int .u8 ((y40.toNat : Int)))] ++ ((List.map ew ((Arr.rep 4 (0 : UInt64))).l).flatten ++ [.v (.bool false), .v (.int .i64 (((atv2 + y9) + 4)))])) [] sq_ sl_ sl_ (part_all sl_) ShpC.h rfl rfl) ?_
    refine xstoreQ 1 [] ([.v (.int .u8 0)] ++ ((List.map ew ((Arr.rep 4 (0 : UInt64))).l).flatten ++ [.v (.bool false), .v (.int .i64 0)])) [] ([.v (.int .u8 ((y40.toNat : Int)))] ++ ((List.map ew ((Arr.rep 4 (0 : UInt64))).l).flatten ++ [.v (.bool false), .v (.int .i64 (((atv2 + y9) + 4)))])) ShpC.h rfl rfl rfl rfl rfl ?_
    refine as_ ?_
    refine nt_ ?_
    refine xretc ?_
    replace h := h.symm
    subst h
    exact xretL (rs := [.cell 4 118, .tmp 5]) (ss := [.agg ([.v (.int .u8 ((y40.toNat : Int)))] ++ ((List.map ew ((Arr.rep 4 (0 : UInt64))).l).flatten ++ [.v (.bool false), .v (.int .i64 (((atv2 + y9) + 4)))])), .v (.int .i64 0)]) hg rfl (by refine RetL.cell 1 ShpC.h rfl rfl (part_midE (pre := []) (mid := ([.v (.int .u8 ((y40.toNat : Int)))] ++ ((List.map ew ((Arr.rep 4 (0 : UInt64))).l).flatten ++ [.v (.bool false), .v (.int .i64 (((atv2 + y9) + 4)))]))) (post := []) sq_ sl_ sl_ (part_all sl_)) (len_midE (pre := []) (mid := ([.v (.int .u8 ((y40.toNat : Int)))] ++ ((List.map ew ((Arr.rep 4 (0 : UInt64))).l).flatten ++ [.v (.bool false), .v (.int .i64 (((atv2 + y9) + 4)))]))) (post := []) sq_ sl_ sl_) wk_ ?_; refine RetL.tmp rfl (.refl _) ?_; exact RetL.nil) (SubM.of (.nil _) (.nil _)) ⟨rfl, rfl, rfl⟩
end Go.Proofs.Ytpddiffpanihdaa
