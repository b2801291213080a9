
/- What functions' texts ask for, and the walks that show it (printed by a program). -/
import Derived.Test.YtnjnbegjhklcgaaGKp5
namespace Go.Proofs.Ytnjnbegjhklcgaa
/-- bytes.HasPrefix -/
def bytes_HasPrefix_R (sv1 : List UInt8) (prefixv2 : List UInt8) (r : Bool) : Prop :=
 (((prefixv2.length : Int) ≤ (sv1.length : Int) → (0 ≤ ((prefixv2.length : Int) : Int) ∧ ((prefixv2.length : Int) : Int) ≤ (sv1.length : Int)) ∧ ∃ y18 : Bool, bytes_Equal_R (sv1.take ((prefixv2.length : Int) : Int).toNat) prefixv2 y18 ∧ r = y18) ∧ (¬ ((prefixv2.length : Int) ≤ (sv1.length : Int)) → r = false))
def bytes_HasPrefix_ev (fuel : Nat) (sv1 : List UInt8) (prefixv2 : List UInt8) : Option (Bool) :=
 (if (prefixv2.length : Int) ≤ (sv1.length : Int) then (if (0 ≤ ((prefixv2.length : Int) : Int) ∧ ((prefixv2.length : Int) : Int) ≤ (sv1.length : Int)) then ((bytes_Equal_ev fuel (sv1.take ((prefixv2.length : Int) : Int).toNat) prefixv2).bind fun y18 => some y18) else none) else some false)
theorem bytes_HasPrefix_ok {fuel : Nat} {sv1 : List UInt8} {prefixv2 : List UInt8} {r : Bool} (h : bytes_HasPrefix_ev fuel sv1 prefixv2 = some r) : bytes_HasPrefix_R sv1 prefixv2 r := by
 unfold bytes_HasPrefix_ev at h
 unfold bytes_HasPrefix_R
 refine ⟨fun g214 => ?_, fun g214 => ?_⟩
 ·rw [if_pos g214] at h
  obtain ⟨g215, h⟩ := if_ok h
  refine ⟨g215, ?_⟩
  obtain ⟨q216, g216, h⟩ := bind_ok h
  refine ⟨q216, bytes_Equal_ok g216, ?_⟩
  exact (Option.some.inj h).symm
 ·rw [if_neg g214] at h
  exact (Option.some.inj h).symm
set_option maxHeartbeats 4000000 in
theorem bytes_HasPrefix_con (sv1 : List UInt8) (prefixv2 : List UInt8) (r : Bool) (h : bytes_HasPrefix_R sv1 prefixv2 r) : Con Try.prog 38 [.sl 1 none (List.map eb sv1), .sl 1 none (List.map eb prefixv2)] [] [] (Ret (.v (.bool r))) := by
 refine xenter Try.func38 rfl rfl fun g hg => ?_
 simp only [Try.ntmps38, slots]
 refine sr_ ?_
 refine as_ ?_
 refine nt_ ?_
 refine sr_ ?_
 refine mv_ ?_
 refine vp_ (pv_lenM UndC.h rfl) ?_
 refine mv_ ?_
 refine vp_ (pv_lenM UndC.h rfl) ?_
 refine vp_ (pv_bin2 rfl rfl rfl) ?_
 refine mv_ ?_
 by_cases hp14 : (prefixv2.length : Int) ≤ (sv1.length : Int)
 ·replace h := h.1 hp14
  refine xsetB 10 (decide_eq_true hp14) rfl ?_
  refine mv_ ?_
  refine mv_ ?_
  refine vp_ (pv_lenM UndC.h rfl) ?_
  obtain ⟨h16, h⟩ := h
  refine vp_ (pv_sliceHi h16 UndC.h ShpC.h rfl rfl) ?_
  refine mv_ ?_
  obtain ⟨y18, h17, h⟩ := h
  refine xcall0 (bytes_Equal_con (sv1.take ((prefixv2.length : Int) : Int).toNat) prefixv2 _ h17) Try.func39 (by kernel_rfl) rfl (.cons rfl (.refl _) (.cons rfl (.refl _) .nil)) rfl rfl ?_
  refine pk_ ?_
  refine as_ ?_
  refine nt_ ?_
  refine xretc ?_
  replace h := h.symm
  subst h
  exact xret1 hg rfl rfl (.refl _) (SubM.of (.nil _) (.nil _)) ⟨rfl, rfl, rfl⟩
 ·replace h := h.2 hp14
  refine xsetB 10 (decide_eq_false hp14) rfl ?_
  refine sk_ ?_
  refine sk_ ?_
  refine sk_ ?_
  refine sk_ ?_
  refine sk_ ?_
  refine sk_ ?_
  refine pk_ ?_
  refine as_ ?_
  refine nt_ ?_
  refine xretc ?_
  replace h := h.symm
  subst h
  exact xret1 hg rfl rfl (.refl _) (SubM.of (.nil _) (.nil _)) ⟨rfl, rfl, rfl⟩
end Go.Proofs.Ytnjnbegjhklcgaa
