
/- What functions' texts ask for, and the walks that show it (printed by a program). -/
import Derived.Test.YtpddiffpanihdaaGKp2
namespace Go.Proofs.Ytpddiffpanihdaa
/-- digit.Num -/
def digit_Num_j2 (x2 : Int) (x193 : Int) (x194 : Int) (x195 : Bool) (r : Int × Int × Int) : Prop :=
 ((x194 = x2 → r = (0, 0, 9)) ∧ (¬ (x194 = x2) → ((x195 = true → r = (0, 0, 3)) ∧ (¬ (x195 = true) → r = (x193, x194, 0)))))
def digit_Num_j5 (x251 : Int) (ag3 : (Int × Int × Bool) → Prop) (x350 : Bool) (x360 : Int) (r : Int × Int × Int) : Prop :=
 InR (x251 + 1) ∧ ag3 (x360, (x251 + 1), x350)
def digit_Num_j4 (x250 : Int) (c342 : UInt8) (x251 : Int) (ag3 : (Int × Int × Bool) → Prop) (x350 : Bool) (r : Int × Int × Int) : Prop :=
 ((¬ (x350 = true) → InR (x250 * 10) ∧ InR ((x250 * 10) + (c342.toNat : Int)) ∧ digit_Num_j5 x251 ag3 x350 ((x250 * 10) + (c342.toNat : Int)) r) ∧ (¬ (¬ (x350 = true)) → digit_Num_j5 x251 ag3 x350 x250 r))
def digit_Num_l3 (x1 : List UInt8) (x3 : Int) (x2 : Int) (ag3 : (Int × Int × Bool) → Prop) (x250 : Int) (x251 : Int) (x252 : Bool) (r : Int × Int × Int) : Prop :=
 ((x251 < (x1.length : Int) → 0 ≤ (x251 : Int) ∧ ∃ y334 : UInt8, x1[(x251 : Int).toNat]? = some y334 ∧ ∃ y337 : Bool, digit_isDigit_R y334 y337 ∧ ((y337 = true → 0 ≤ (x251 : Int) ∧ ∃ y339 : UInt8, x1[(x251 : Int).toNat]? = some y339 ∧ ∃ c342 : UInt8, (c342.toNat : Int) = IntKind.u8.wrap ((y339.toNat : Int) - 48) ∧ ((x252 = true → digit_Num_j4 x250 c342 x251 ag3 true r) ∧ (¬ (x252 = true) → InR (x3 - (c342.toNat : Int)) ∧ (10 : Int) ≠ 0 ∧ InR (((x3 - (c342.toNat : Int)) : Int).tdiv (10)) ∧ digit_Num_j4 x250 c342 x251 ag3 ((decide ((((x3 - (c342.toNat : Int)) : Int).tdiv (10)) < x250)) || (decide (x3 < (c342.toNat : Int)))) r))) ∧ (¬ (y337 = true) → digit_Num_j2 x2 x250 x251 x252 r))) ∧ (¬ (x251 < (x1.length : Int)) → digit_Num_j2 x2 x250 x251 x252 r))
def digit_Num_j1 (x1 : List UInt8) (x3 : Int) (x2 : Int) (x18 : Bool) (r : Int × Int × Int) : Prop :=
 ((x18 = true → r = (0, 0, 1)) ∧ (¬ (x18 = true) → LoopR (fun ag3 s => digit_Num_l3 x1 x3 x2 ag3 s.1 s.2.1 s.2.2 r) (0, x2, false)))
def digit_Num_R (x1 : List UInt8) (x2 : Int) (x3 : Int) (r : Int × Int × Int) : Prop :=
 digit_Num_j1 x1 x3 x2 ((decide (x2 < 0)) || (decide ((x1.length : Int) < x2))) r
def digit_Num_j2_ev (fuel : Nat) (x2 : Int) (x193 : Int) (x194 : Int) (x195 : Bool) : Option (Int × Int × Int) :=
 (if x194 = x2 then some (0, 0, 9) else (if x195 = true then some (0, 0, 3) else some (x193, x194, 0)))
theorem digit_Num_j2_ok {fuel : Nat} {x2 : Int} {x193 : Int} {x194 : Int} {x195 : Bool} {r : Int × Int × Int} (h : digit_Num_j2_ev fuel x2 x193 x194 x195 = some r) : digit_Num_j2 x2 x193 x194 x195 r := by
 unfold digit_Num_j2_ev at h
 unfold digit_Num_j2
 refine ⟨fun g83 => ?_, fun g83 => ?_⟩
 ·rw [if_pos g83] at h
  exact (Option.some.inj h).symm
 ·rw [if_neg g83] at h
  refine ⟨fun g84 => ?_, fun g84 => ?_⟩
  ·rw [if_pos g84] at h
   exact (Option.some.inj h).symm
  ·rw [if_neg g84] at h
   exact (Option.some.inj h).symm
def digit_Num_j5_ev (fuel : Nat) (x251 : Int) (ag3e : (Int × Int × Bool) → Option (Int × Int × Int)) (x350 : Bool) (x360 : Int) : Option (Int × Int × Int) :=
 (if InR (x251 + 1) then ag3e (x360, (x251 + 1), x350) else none)
theorem digit_Num_j5_ok {fuel : Nat} {x251 : Int} {ag3 : (Int × Int × Bool) → Prop} {ag3e : (Int × Int × Bool) → Option (Int × Int × Int)} {x350 : Bool} {x360 : Int} {r : Int × Int × Int} (hagag3 : ∀ s, ag3e s = some r → ag3 s) (h : digit_Num_j5_ev fuel x251 ag3e x350 x360 = some r) : digit_Num_j5 x251 ag3 x350 x360 r := by
 unfold digit_Num_j5_ev at h
 unfold digit_Num_j5
 obtain ⟨g85, h⟩ := if_ok h
 refine ⟨g85, ?_⟩
 exact hagag3 _ h
def digit_Num_j4_ev (fuel : Nat) (x250 : Int) (c342 : UInt8) (x251 : Int) (ag3e : (Int × Int × Bool) → Option (Int × Int × Int)) (x350 : Bool) : Option (Int × Int × Int) :=
 (if ¬ (x350 = true) then (if InR (x250 * 10) then (if InR ((x250 * 10) + (c342.toNat : Int)) then digit_Num_j5_ev fuel x251 ag3e x350 ((x250 * 10) + (c342.toNat : Int)) else none) else none) else digit_Num_j5_ev fuel x251 ag3e x350 x250)
theorem digit_Num_j4_ok {fuel : Nat} {x250 : Int} {c342 : UInt8} {x251 : Int} {ag3 : (Int × Int × Bool) → Prop} {ag3e : (Int × Int × Bool) → Option (Int × Int × Int)} {x350 : Bool} {r : Int × Int × Int} (hagag3 : ∀ s, ag3e s = some r → ag3 s) (h : digit_Num_j4_ev fuel x250 c342 x251 ag3e x350 = some r) : digit_Num_j4 x250 c342 x251 ag3 x350 r := by
 unfold digit_Num_j4_ev at h
 unfold digit_Num_j4
 refine ⟨fun g86 => ?_, fun g86 => ?_⟩
 ·rw [if_pos g86] at h
  obtain ⟨g87, h⟩ := if_ok h
  refine ⟨g87, ?_⟩
  obtain ⟨g88, h⟩ := if_ok h
  refine ⟨g88, ?_⟩
  exact digit_Num_j5_ok hagag3 h
 ·rw [if_neg g86] at h
  exact digit_Num_j5_ok hagag3 h
def digit_Num_l3_ev (fuel : Nat) (x1 : List UInt8) (x3 : Int) (x2 : Int) (ag3e : (Int × Int × Bool) → Option (Int × Int × Int)) (x250 : Int) (x251 : Int) (x252 : Bool) : Option (Int × Int × Int) :=
 (if x251 < (x1.length : Int) then (if 0 ≤ (x251 : Int) then ((x1[(x251 : Int).toNat]?).bind fun y334 => ((digit_isDigit_ev fuel y334).bind fun y337 => (if y337 = true then (if 0 ≤ (x251 : Int) then ((x1[(x251 : Int).toNat]?).bind fun y339 => (exB (IntKind.u8.wrap ((y339.toNat : Int) - 48)) fun c342 => (if x252 = true then digit_Num_j4_ev fuel x250 c342 x251 ag3e true else (if InR (x3 - (c342.toNat : Int)) then (if (10 : Int) ≠ 0 then (if InR (((x3 - (c342.toNat : Int)) : Int).tdiv (10)) then digit_Num_j4_ev fuel x250 c342 x251 ag3e ((decide ((((x3 - (c342.toNat : Int)) : Int).tdiv (10)) < x250)) || (decide (x3 < (c342.toNat : Int)))) else none) else none) else none)))) else none) else digit_Num_j2_ev fuel x2 x250 x251 x252))) else none) else digit_Num_j2_ev fuel x2 x250 x251 x252)
theorem digit_Num_l3_ok {fuel : Nat} {x1 : List UInt8} {x3 : Int} {x2 : Int} {ag3e : (Int × Int × Bool) → Option (Int × Int × Int)} {ag3 : (Int × Int × Bool) → Prop} {x250 : Int} {x251 : Int} {x252 : Bool} {r : Int × Int × Int} (hagag3 : ∀ s, ag3e s = some r → ag3 s) (h : digit_Num_l3_ev fuel x1 x3 x2 ag3e x250 x251 x252 = some r) : digit_Num_l3 x1 x3 x2 ag3 x250 x251 x252 r := by
 unfold digit_Num_l3_ev at h
 unfold digit_Num_l3
 refine ⟨fun g89 => ?_, fun g89 => ?_⟩
 ·rw [if_pos g89] at h
  obtain ⟨g90, h⟩ := if_ok h
  refine ⟨g90, ?_⟩
  obtain ⟨q91, g91, h⟩ := bind_ok h
  refine ⟨q91, g91, ?_⟩
  obtain ⟨q92, g92, h⟩ := bind_ok h
  refine ⟨q92, digit_isDigit_ok g92, ?_⟩
  refine ⟨fun g93 => ?_, fun g93 => ?_⟩
  ·rw [if_pos g93] at h
   obtain ⟨g94, h⟩ := if_ok h
   refine ⟨g94, ?_⟩
   obtain ⟨q95, g95, h⟩ := bind_ok h
   refine ⟨q95, g95, ?_⟩
   obtain ⟨q96, g96, h⟩ := exB_ok h
   refine ⟨q96, g96, ?_⟩
   refine ⟨fun g97 => ?_, fun g97 => ?_⟩
   ·rw [if_pos g97] at h
    exact digit_Num_j4_ok hagag3 h
   ·rw [if_neg g97] at h
    obtain ⟨g98, h⟩ := if_ok h
    refine ⟨g98, ?_⟩
    obtain ⟨g99, h⟩ := if_ok h
    refine ⟨g99, ?_⟩
    obtain ⟨g100, h⟩ := if_ok h
    refine ⟨g100, ?_⟩
    exact digit_Num_j4_ok hagag3 h
  ·rw [if_neg g93] at h
   exact digit_Num_j2_ok h
 ·rw [if_neg g89] at h
  exact digit_Num_j2_ok h
def digit_Num_j1_ev (fuel : Nat) (x1 : List UInt8) (x3 : Int) (x2 : Int) (x18 : Bool) : Option (Int × Int × Int) :=
 (if x18 = true then some (0, 0, 1) else (loopE (fun ag3e s => digit_Num_l3_ev fuel x1 x3 x2 ag3e s.1 s.2.1 s.2.2) fuel (0, x2, false)))
theorem digit_Num_j1_ok {fuel : Nat} {x1 : List UInt8} {x3 : Int} {x2 : Int} {x18 : Bool} {r : Int × Int × Int} (h : digit_Num_j1_ev fuel x1 x3 x2 x18 = some r) : digit_Num_j1 x1 x3 x2 x18 r := by
 unfold digit_Num_j1_ev at h
 unfold digit_Num_j1
 refine ⟨fun g101 => ?_, fun g101 => ?_⟩
 ·rw [if_pos g101] at h
  exact (Option.some.inj h).symm
 ·rw [if_neg g101] at h
  refine loopE_ok ?_ h
  intro ae ag s hag h
  exact digit_Num_l3_ok hag h
def digit_Num_ev (fuel : Nat) (x1 : List UInt8) (x2 : Int) (x3 : Int) : Option (Int × Int × Int) :=
 digit_Num_j1_ev fuel x1 x3 x2 ((decide (x2 < 0)) || (decide ((x1.length : Int) < x2)))
theorem digit_Num_ok {fuel : Nat} {x1 : List UInt8} {x2 : Int} {x3 : Int} {r : Int × Int × Int} (h : digit_Num_ev fuel x1 x2 x3 = some r) : digit_Num_R x1 x2 x3 r := by
 unfold digit_Num_ev at h
 unfold digit_Num_R
 exact digit_Num_j1_ok h
set_option maxHeartbeats 4000000 in
theorem digit_Num_con (x1 : List UInt8) (x2 : Int) (x3 : Int) (r : Int × Int × Int) (h : digit_Num_R x1 x2 x3 r) : Con Try.prog 53 [.sl 1 none (List.map eb x1), .v (.int .i64 x2), .v (.int .i64 x3)] [] [] (fun rr bx tk => rr = .tup [.v (.int .i64 r.1), .v (.int .i64 r.2.1), .v (.int .i64 r.2.2)] ∧ bx = [] ∧ tk = []) := by
 refine xenter Try.func53 rfl rfl fun g hg => ?_
 simp only [Try.ntmps53, slots]
 unfold digit_Num_R at h
 refine sr_ ?_
 refine as_ ?_
 refine as_ ?_
 refine as_ ?_
 refine nt_ ?_
 refine xseq ?_
 refine xseqM (fun σ => ∃ (x18 : Bool), digit_Num_j1 x1 x3 x2 x18 r ∧ σ = ⟨[(0, .sl 1 none (List.map eb x1)), (1, .v (.int .i64 x2)), (2, .v (.int .i64 x3)), (6, .v (.int .i64 0)), (18, .v (.bool x18))], [], []⟩) ?_ ?_
 ·refine xregion ?_
  refine mv_ ?_
  refine vp_ (pv_bin2 rfl rfl rfl) ?_
  refine mv_ ?_
  by_cases hp20 : x2 < 0
  ·rw [or_tt (show (decide (x2 < 0)) = true from (decide_eq_true hp20))] at h
   refine xsetB 13 (decide_eq_true hp20) rfl ?_
   refine sk_ ?_
   refine sk_ ?_
   refine sk_ ?_
   refine sk_ ?_
   refine pk_ ?_
   refine xnil ?_
   exact xmeet ⟨true, h, rfl⟩ ⟨lk_, (SubM.of (.nil _) (.nil _))⟩
  ·rw [or_ff (show (decide (x2 < 0)) = false from (decide_eq_false hp20))] at h
   refine xsetB 13 (decide_eq_false hp20) rfl ?_
   refine mv_ ?_
   refine mv_ ?_
   refine vp_ (pv_lenM UndC.h rfl) ?_
   refine vp_ (pv_bin2 rfl rfl rfl) ?_
   refine pk_ ?_
   refine xnil ?_
   exact xmeet ⟨(decide ((x1.length : Int) < x2)), h, rfl⟩ ⟨lk_, (SubM.of (.nil _) (.nil _))⟩
 ·clear h
  rintro _ ⟨x18, h, rfl⟩
  by_cases hp23 : x18 = true
  ·replace h := h.1 hp23
   refine xcondT' hp23 rfl ?_
   refine sr_ ?_
   refine as_ ?_
   refine as_ ?_
   refine as_ ?_
   refine nt_ ?_
   refine xretc ?_
   refine xthen_ret ?_
   replace h := h.symm
   subst h
   exact xret3 hg rfl rfl (.refl _) rfl (.refl _) rfl (.refl _) (SubM.of (.nil _) (.nil _)) ⟨rfl, rfl, rfl⟩
  ·replace h := h.2 hp23
   refine xcondF' (b_f hp23) rfl ?_
   refine xskipc ?_
   refine xthen ?_
   refine sr_ ?_
   refine mv_ ?_
   refine as_ ?_
   refine nt_ ?_
   refine sr_ ?_
   refine as_ ?_
   refine nt_ ?_
   refine xseqM (fun σ => ∃ (x193 : Int), ∃ (x194 : Int), ∃ (x195 : Bool), digit_Num_j2 x2 x193 x194 x195 r ∧ σ = ⟨[(1, .v (.int .i64 x2)), (6, .v (.int .i64 x193)), (7, .v (.int .i64 x194)), (9, .v (.bool x195))], [], []⟩) ?_ ?_
   ·refine xblock ?_
    obtain ⟨Inv, ⟨m0, hI⟩, hS⟩ := h
    refine xloop (fun σ m => ∃ (x250 : Int), ∃ (x251 : Int), ∃ (x252 : Bool), Inv (x250, x251, x252) m ∧ σ = ⟨[(0, .sl 1 none (List.map eb x1)), (1, .v (.int .i64 x2)), (2, .v (.int .i64 x3)), (6, .v (.int .i64 x250)), (7, .v (.int .i64 x251)), (9, .v (.bool x252))], [], []⟩) ⟨0, x2, false, hI, rfl⟩ (by exact ⟨lk_, (SubM.of (.nil _) (.nil _))⟩) ?_
    rintro _ m ⟨x250, x251, x252, hI, rfl⟩
    obtain ⟨ag3, hag3, h⟩ : ∃ ag, (∀ s', ag s' → ∃ m', m' < m ∧ Inv s' m') ∧ digit_Num_l3 x1 x3 x2 ag x250 x251 x252 r := ⟨_, fun _ h => h, hS (x250, x251, x252) _ hI⟩
    clear hS hI
    refine xseq ?_
    refine sr_ ?_
    refine mv_ ?_
    refine mv_ ?_
    refine vp_ (pv_lenM UndC.h rfl) ?_
    refine vp_ (pv_bin2 rfl rfl rfl) ?_
    refine mv_ ?_
    by_cases hp333 : x251 < (x1.length : Int)
    ·replace h := h.1 hp333
     refine xsetB 24 (decide_eq_true hp333) rfl ?_
     refine mv_ ?_
     refine mv_ ?_
     obtain ⟨h335a, h⟩ := h
     obtain ⟨y334, h335b, h⟩ := h
     refine vp_ (pv_indexAddrM h335a h335b UndC.h ShpC.h rfl rfl) ?_
     refine v_ (qv_load ShpC.h rfl rfl rfl) ?_
     obtain ⟨y337, h336, h⟩ := h
     refine xcall0 (digit_isDigit_con y334 _ h336) Try.func67 (by kernel_rfl) rfl (.cons rfl (.refl _) .nil) rfl rfl ?_
     refine pk_ ?_
     refine nt_ ?_
     by_cases hp338 : y337 = true
     ·replace h := h.1 hp338
      refine xcondT' hp338 rfl ?_
      refine xskipc ?_
      refine xthen ?_
      refine xblock ?_
      refine sr_ ?_
      refine mv_ ?_
      refine mv_ ?_
      obtain ⟨h340a, h⟩ := h
      obtain ⟨y339, h340b, h⟩ := h
      refine vp_ (pv_indexAddrM h340a h340b UndC.h ShpC.h rfl rfl) ?_
      refine v_ (qv_load ShpC.h rfl rfl rfl) ?_
      obtain ⟨c342, h341, h⟩ := h
      refine vp_ (pv_wr h341 rfl rfl rfl) ?_
      refine vp_ (pv_convW (w8 c342) UndC.h UndC.h rfl) ?_
      refine as_ ?_
      refine nt_ ?_
      refine xseqM (fun σ => ∃ (x350 : Bool), digit_Num_j4 x250 c342 x251 ag3 x350 r ∧ σ = ⟨[(0, .sl 1 none (List.map eb x1)), (1, .v (.int .i64 x2)), (2, .v (.int .i64 x3)), (6, .v (.int .i64 x250)), (7, .v (.int .i64 x251)), (9, .v (.bool x350)), (10, .v (.int .i64 ((c342.toNat : Int)))), (25, .sl 1 none (List.map eb x1)), (26, .v (.int .i64 x251)), (27, .el [.v (.int .u8 ((y334.toNat : Int)))]), (28, .v (.int .u8 ((y334.toNat : Int)))), (29, .v (.bool y337))], [], []⟩) ?_ ?_
      ·refine xregion ?_
       refine mv_ ?_
       refine mv_ ?_
       by_cases hp351 : x252 = true
       ·replace h := h.1 hp351
        refine xsetB 38 hp351 rfl ?_
        refine sk_ ?_
        refine sk_ ?_
        refine sk_ ?_
        refine sk_ ?_
        refine sk_ ?_
        refine sk_ ?_
        refine pk_ ?_
        refine mv_ ?_
        refine sk_ ?_
        refine sk_ ?_
        refine sk_ ?_
        refine pk_ ?_
        refine as_ ?_
        refine xnil ?_
        exact xmeet ⟨true, h, rfl⟩ ⟨lk_, (SubM.of (.nil _) (.nil _))⟩
       ·replace h := h.2 hp351
        refine xsetB 38 (b_f hp351) rfl ?_
        refine mv_ ?_
        refine mv_ ?_
        refine mv_ ?_
        obtain ⟨h352, h⟩ := h
        refine vp_ (pv_subI h352 rfl rfl) ?_
        obtain ⟨h353, h⟩ := h
        obtain ⟨h353r, h⟩ := h
        refine vp_ (pv_quoW h353 (wrap_id h353r.1 h353r.2).symm rfl rfl rfl) ?_
        refine vp_ (pv_bin2 rfl rfl rfl) ?_
        refine pk_ ?_
        refine mv_ ?_
        by_cases hp355 : (((x3 - (c342.toNat : Int)) : Int).tdiv (10)) < x250
        ·rw [or_tt (show (decide ((((x3 - (c342.toNat : Int)) : Int).tdiv (10)) < x250)) = true from (decide_eq_true hp355))] at h
         refine xsetB 46 (decide_eq_true hp355) rfl ?_
         refine sk_ ?_
         refine sk_ ?_
         refine sk_ ?_
         refine pk_ ?_
         refine as_ ?_
         refine xnil ?_
         exact xmeet ⟨true, h, rfl⟩ ⟨lk_, (SubM.of (.nil _) (.nil _))⟩
        ·rw [or_ff (show (decide ((((x3 - (c342.toNat : Int)) : Int).tdiv (10)) < x250)) = false from (decide_eq_false hp355))] at h
         refine xsetB 46 (decide_eq_false hp355) rfl ?_
         refine mv_ ?_
         refine mv_ ?_
         refine vp_ (pv_bin2 rfl rfl rfl) ?_
         refine pk_ ?_
         refine as_ ?_
         refine xnil ?_
         exact xmeet ⟨(decide (x3 < (c342.toNat : Int))), h, rfl⟩ ⟨lk_, (SubM.of (.nil _) (.nil _))⟩
      ·clear h
       rintro _ ⟨x350, h, rfl⟩
       refine xseqM (fun σ => ∃ (x360 : Int), digit_Num_j5 x251 ag3 x350 x360 r ∧ σ = ⟨[(0, .sl 1 none (List.map eb x1)), (1, .v (.int .i64 x2)), (2, .v (.int .i64 x3)), (6, .v (.int .i64 x360)), (7, .v (.int .i64 x251)), (9, .v (.bool x350)), (25, .sl 1 none (List.map eb x1)), (26, .v (.int .i64 x251)), (27, .el [.v (.int .u8 ((y334.toNat : Int)))]), (28, .v (.int .u8 ((y334.toNat : Int)))), (29, .v (.bool y337))], [], []⟩) ?_ ?_
       ·refine xseq ?_
        refine xregion ?_
        refine mv_ ?_
        refine vp_ (pv_not rfl) ?_
        refine nt_ ?_
        by_cases hp361 : ¬ (x350 = true)
        ·replace h := h.1 hp361
         refine xcondT' (not_t (b_f hp361)) rfl ?_
         refine xregion ?_
         refine mv_ ?_
         obtain ⟨h362, h⟩ := h
         refine vp_ (pv_mulI h362 rfl rfl) ?_
         refine mv_ ?_
         obtain ⟨h363, h⟩ := h
         refine vp_ (pv_addI h363 rfl rfl) ?_
         refine as_ ?_
         refine xnil ?_
         exact xmeet ⟨((x250 * 10) + (c342.toNat : Int)), h, rfl⟩ ⟨lk_, (SubM.of (.nil _) (.nil _))⟩
        ·replace h := h.2 hp361
         refine xcondF' (not_f (Decidable.of_not_not hp361)) rfl ?_
         refine xskipc ?_
         exact xmeet ⟨x250, h, rfl⟩ ⟨lk_, (SubM.of (.nil _) (.nil _))⟩
       ·clear h
        rintro _ ⟨x360, h, rfl⟩
        refine xregion ?_
        refine mv_ ?_
        obtain ⟨h364, h⟩ := h
        refine vp_ (pv_addI h364 rfl rfl) ?_
        refine as_ ?_
        refine xnil ?_
        refine xin_normal ?_
        obtain ⟨m', hm, hI⟩ := hag3 _ h
        exact xagain ⟨x360, (x251 + 1), x350, hI, rfl⟩ hm ⟨lk_, (SubM.of (.nil _) (.nil _))⟩
     ·replace h := h.2 hp338
      refine xcondF' (b_f hp338) rfl ?_
      refine xexit ?_
      refine xthen_exit ?_
      refine xthen_exit ?_
      refine xin_same rfl ?_
      exact xmeet ⟨x250, x251, x252, h, rfl⟩ ⟨lk_, (SubM.of (.nil _) (.nil _))⟩
    ·replace h := h.2 hp333
     refine xsetB 24 (decide_eq_false hp333) rfl ?_
     refine sk_ ?_
     refine sk_ ?_
     refine sk_ ?_
     refine sk_ ?_
     refine sk_ ?_
     refine pk_ ?_
     refine nt_ ?_
     refine xcondF rfl ?_
     refine xexit ?_
     refine xthen_exit ?_
     refine xthen_exit ?_
     refine xin_same rfl ?_
     exact xmeet ⟨x250, x251, x252, h, rfl⟩ ⟨lk_, (SubM.of (.nil _) (.nil _))⟩
   ·clear h
    rintro _ ⟨x193, x194, x195, h, rfl⟩
    refine xseq ?_
    refine xblock ?_
    refine sr_ ?_
    refine mv_ ?_
    refine mv_ ?_
    refine vp_ (pv_bin2 rfl rfl rfl) ?_
    refine as_ ?_
    refine nt_ ?_
    by_cases hp369 : x194 = x2
    ·replace h := h.1 hp369
     refine xcondT' (decide_eq_true hp369) rfl ?_
     refine sr_ ?_
     refine as_ ?_
     refine as_ ?_
     refine as_ ?_
     refine nt_ ?_
     refine xretc ?_
     refine xin_ret ?_
     refine xthen_ret ?_
     replace h := h.symm
     subst h
     exact xret3 hg rfl rfl (.refl _) rfl (.refl _) rfl (.refl _) (SubM.of (.nil _) (.nil _)) ⟨rfl, rfl, rfl⟩
    ·replace h := h.2 hp369
     refine xcondF' (decide_eq_false hp369) rfl ?_
     refine sr_ ?_
     refine mv_ ?_
     refine as_ ?_
     refine nt_ ?_
     by_cases hp370 : x195 = true
     ·replace h := h.1 hp370
      refine xcondT' hp370 rfl ?_
      refine sr_ ?_
      refine as_ ?_
      refine as_ ?_
      refine as_ ?_
      refine nt_ ?_
      refine xretc ?_
      refine xin_ret ?_
      refine xthen_ret ?_
      replace h := h.symm
      subst h
      exact xret3 hg rfl rfl (.refl _) rfl (.refl _) rfl (.refl _) (SubM.of (.nil _) (.nil _)) ⟨rfl, rfl, rfl⟩
     ·replace h := h.2 hp370
      refine xcondF' (b_f hp370) rfl ?_
      refine xskipc ?_
      refine xin_normal ?_
      refine xthen ?_
      refine sr_ ?_
      refine mv_ ?_
      refine mv_ ?_
      refine as_ ?_
      refine as_ ?_
      refine as_ ?_
      refine nt_ ?_
      refine xretc ?_
      replace h := h.symm
      subst h
      exact xret3 hg rfl rfl (.refl _) rfl (.refl _) rfl (.refl _) (SubM.of (.nil _) (.nil _)) ⟨rfl, rfl, rfl⟩
/-- (*bre.parser).repeat -/
def bre_parser_repeat_j4 (y19 : (List (Int × Int))) (o1 : ((List (Int × Int × Int × Int × Int × Int × (Arr 4 (UInt64)))) × Int) × (List UInt8) × Int × (Arr 10 (Bool))) (x63 : Int) (x3 : Int) (y25 : Int × Int × Int) (x64 : Int) (x118 : Bool) (r : Int × (List (Int × Int)) × (((List (Int × Int × Int × Int × Int × Int × (Arr 4 (UInt64)))) × Int) × (List UInt8) × Int × (Arr 10 (Bool)))) : Prop :=
 ((x118 = true → r = (0, y19, ((o1.1.1, o1.1.2), o1.2.1, x63, o1.2.2.2))) ∧ (¬ (x118 = true) → InR (x63 + 2) ∧ ∃ y128 : Int × (((List (Int × Int × Int × Int × Int × Int × (Arr 4 (UInt64)))) × Int) × (List UInt8) × Int × (Arr 10 (Bool))), tree_Builder_Rep_R ((o1.1.1, o1.1.2), o1.2.1, (x63 + 2), o1.2.2.2) x3 y25.1 x64 y128 ∧ r = (y128.1, ([] : List (Int × Int)), ((y128.2.1.1, y128.2.1.2), y128.2.2.1, y128.2.2.2.1, y128.2.2.2.2))))
def bre_parser_repeat_j1 (o1 : ((List (Int × Int × Int × Int × Int × Int × (Arr 4 (UInt64)))) × Int) × (List UInt8) × Int × (Arr 10 (Bool))) (y19 : (List (Int × Int))) (x3 : Int) (y25 : Int × Int × Int) (x63 : Int) (x64 : Int) (r : Int × (List (Int × Int)) × (((List (Int × Int × Int × Int × Int × Int × (Arr 4 (UInt64)))) × Int) × (List UInt8) × Int × (Arr 10 (Bool)))) : Prop :=
 ∃ y120 : Bool, bre_parser_has_R ((o1.1.1, o1.1.2), o1.2.1, x63, o1.2.2.2) (⟨#[92, 125]⟩ : ByteArray) y120 ∧ bre_parser_repeat_j4 y19 o1 x63 x3 y25 x64 ((!y120) || ((!(decide (x64 = (-1)))) && (decide (x64 < y25.1)))) r
def bre_parser_repeat_j3 (o1 : ((List (Int × Int × Int × Int × Int × Int × (Arr 4 (UInt64)))) × Int) × (List UInt8) × Int × (Arr 10 (Bool))) (y19 : (List (Int × Int))) (x3 : Int) (y25 : Int × Int × Int) (x87 : Int) (x88 : Int) (r : Int × (List (Int × Int)) × (((List (Int × Int × Int × Int × Int × Int × (Arr 4 (UInt64)))) × Int) × (List UInt8) × Int × (Arr 10 (Bool)))) : Prop :=
 InR (x87 + 1) ∧ bre_parser_repeat_j1 o1 y19 x3 y25 (x87 + 1) x88 r
def bre_parser_repeat_j2 (y25 : Int × Int × Int) (o1 : ((List (Int × Int × Int × Int × Int × Int × (Arr 4 (UInt64)))) × Int) × (List UInt8) × Int × (Arr 10 (Bool))) (y19 : (List (Int × Int))) (x3 : Int) (x71 : Bool) (r : Int × (List (Int × Int)) × (((List (Int × Int × Int × Int × Int × Int × (Arr 4 (UInt64)))) × Int) × (List UInt8) × Int × (Arr 10 (Bool)))) : Prop :=
 ((x71 = true → InR (y25.2.1 + 1) ∧ ∃ y91 : Int × Int × Int, digit_Num_R o1.2.1 (y25.2.1 + 1) 255 y91 ∧ ((y91.2.2 = 0 → InR (y91.2.1 - 1) ∧ bre_parser_repeat_j3 o1 y19 x3 y25 (y91.2.1 - 1) y91.1 r) ∧ (¬ (y91.2.2 = 0) → ((¬ (y91.2.2 = 9) → r = (0, y19, ((o1.1.1, o1.1.2), o1.2.1, o1.2.2.1, o1.2.2.2))) ∧ (¬ (¬ (y91.2.2 = 9)) → bre_parser_repeat_j3 o1 y19 x3 y25 y25.2.1 (-1) r))))) ∧ (¬ (x71 = true) → bre_parser_repeat_j1 o1 y19 x3 y25 y25.2.1 y25.1 r))
def bre_parser_repeat_R (o1 : ((List (Int × Int × Int × Int × Int × Int × (Arr 4 (UInt64)))) × Int) × (List UInt8) × Int × (Arr 10 (Bool))) (x3 : Int) (r : Int × (List (Int × Int)) × (((List (Int × Int × Int × Int × Int × Int × (Arr 4 (UInt64)))) × Int) × (List UInt8) × Int × (Arr 10 (Bool)))) : Prop :=
 ∃ y12 : Bool, bre_parser_has_R ((o1.1.1, o1.1.2), o1.2.1, o1.2.2.1, o1.2.2.2) (⟨#[42]⟩ : ByteArray) y12 ∧ ((y12 = true → InR (o1.2.2.1 + 1) ∧ ∃ y16 : Int × (((List (Int × Int × Int × Int × Int × Int × (Arr 4 (UInt64)))) × Int) × (List UInt8) × Int × (Arr 10 (Bool))), tree_Builder_Rep_R ((o1.1.1, o1.1.2), o1.2.1, (o1.2.2.1 + 1), o1.2.2.2) x3 0 (-1) y16 ∧ r = (y16.1, ([] : List (Int × Int)), ((y16.2.1.1, y16.2.1.2), y16.2.2.1, y16.2.2.2.1, y16.2.2.2.2))) ∧ (¬ (y12 = true) → ∃ y19 : (List (Int × Int)), bre_parser_fail_R ((o1.1.1, o1.1.2), o1.2.1, o1.2.2.1, o1.2.2.2) 13 y19 ∧ InR (o1.2.2.1 + 2) ∧ ∃ y25 : Int × Int × Int, digit_Num_R o1.2.1 (o1.2.2.1 + 2) 255 y25 ∧ ((¬ (y25.2.2 = 0) → r = (0, y19, ((o1.1.1, o1.1.2), o1.2.1, o1.2.2.1, o1.2.2.2))) ∧ (¬ (¬ (y25.2.2 = 0)) → ((y25.2.1 < (o1.2.1.length : Int) → 0 ≤ (y25.2.1 : Int) ∧ ∃ y75 : UInt8, o1.2.1[(y25.2.1 : Int).toNat]? = some y75 ∧ bre_parser_repeat_j2 y25 o1 y19 x3 (decide ((y75.toNat : Int) = 44)) r) ∧ (¬ (y25.2.1 < (o1.2.1.length : Int)) → bre_parser_repeat_j2 y25 o1 y19 x3 false r))))))
def bre_parser_repeat_j4_ev (fuel : Nat) (y19 : (List (Int × Int))) (o1 : ((List (Int × Int × Int × Int × Int × Int × (Arr 4 (UInt64)))) × Int) × (List UInt8) × Int × (Arr 10 (Bool))) (x63 : Int) (x3 : Int) (y25 : Int × Int × Int) (x64 : Int) (x118 : Bool) : Option (Int × (List (Int × Int)) × (((List (Int × Int × Int × Int × Int × Int × (Arr 4 (UInt64)))) × Int) × (List UInt8) × Int × (Arr 10 (Bool)))) :=
 (if x118 = true then some (0, y19, ((o1.1.1, o1.1.2), o1.2.1, x63, o1.2.2.2)) else (if InR (x63 + 2) then ((tree_Builder_Rep_ev fuel ((o1.1.1, o1.1.2), o1.2.1, (x63 + 2), o1.2.2.2) x3 y25.1 x64).bind fun y128 => some (y128.1, ([] : List (Int × Int)), ((y128.2.1.1, y128.2.1.2), y128.2.2.1, y128.2.2.2.1, y128.2.2.2.2))) else none))
theorem bre_parser_repeat_j4_ok {fuel : Nat} {y19 : (List (Int × Int))} {o1 : ((List (Int × Int × Int × Int × Int × Int × (Arr 4 (UInt64)))) × Int) × (List UInt8) × Int × (Arr 10 (Bool))} {x63 : Int} {x3 : Int} {y25 : Int × Int × Int} {x64 : Int} {x118 : Bool} {r : Int × (List (Int × Int)) × (((List (Int × Int × Int × Int × Int × Int × (Arr 4 (UInt64)))) × Int) × (List UInt8) × Int × (Arr 10 (Bool)))} (h : bre_parser_repeat_j4_ev fuel y19 o1 x63 x3 y25 x64 x118 = some r) : bre_parser_repeat_j4 y19 o1 x63 x3 y25 x64 x118 r := by
 unfold bre_parser_repeat_j4_ev at h
 unfold bre_parser_repeat_j4
 refine ⟨fun g102 => ?_, fun g102 => ?_⟩
 ·rw [if_pos g102] at h
  exact (Option.some.inj h).symm
 ·rw [if_neg g102] at h
  obtain ⟨g103, h⟩ := if_ok h
  refine ⟨g103, ?_⟩
  obtain ⟨q104, g104, h⟩ := bind_ok h
  refine ⟨q104, tree_Builder_Rep_ok g104, ?_⟩
  exact (Option.some.inj h).symm
def bre_parser_repeat_j1_ev (fuel : Nat) (o1 : ((List (Int × Int × Int × Int × Int × Int × (Arr 4 (UInt64)))) × Int) × (List UInt8) × Int × (Arr 10 (Bool))) (y19 : (List (Int × Int))) (x3 : Int) (y25 : Int × Int × Int) (x63 : Int) (x64 : Int) : Option (Int × (List (Int × Int)) × (((List (Int × Int × Int × Int × Int × Int × (Arr 4 (UInt64)))) × Int) × (List UInt8) × Int × (Arr 10 (Bool)))) :=
 ((bre_parser_has_ev fuel ((o1.1.1, o1.1.2), o1.2.1, x63, o1.2.2.2) (⟨#[92, 125]⟩ : ByteArray)).bind fun y120 => bre_parser_repeat_j4_ev fuel y19 o1 x63 x3 y25 x64 ((!y120) || ((!(decide (x64 = (-1)))) && (decide (x64 < y25.1)))))
theorem bre_parser_repeat_j1_ok {fuel : Nat} {o1 : ((List (Int × Int × Int × Int × Int × Int × (Arr 4 (UInt64)))) × Int) × (List UInt8) × Int × (Arr 10 (Bool))} {y19 : (List (Int × Int))} {x3 : Int} {y25 : Int × Int × Int} {x63 : Int} {x64 : Int} {r : Int × (List (Int × Int)) × (((List (Int × Int × Int × Int × Int × Int × (Arr 4 (UInt64)))) × Int) × (List UInt8) × Int × (Arr 10 (Bool)))} (h : bre_parser_repeat_j1_ev fuel o1 y19 x3 y25 x63 x64 = some r) : bre_parser_repeat_j1 o1 y19 x3 y25 x63 x64 r := by
 unfold bre_parser_repeat_j1_ev at h
 unfold bre_parser_repeat_j1
 obtain ⟨q105, g105, h⟩ := bind_ok h
 refine ⟨q105, bre_parser_has_ok g105, ?_⟩
 exact bre_parser_repeat_j4_ok h
def bre_parser_repeat_j3_ev (fuel : Nat) (o1 : ((List (Int × Int × Int × Int × Int × Int × (Arr 4 (UInt64)))) × Int) × (List UInt8) × Int × (Arr 10 (Bool))) (y19 : (List (Int × Int))) (x3 : Int) (y25 : Int × Int × Int) (x87 : Int) (x88 : Int) : Option (Int × (List (Int × Int)) × (((List (Int × Int × Int × Int × Int × Int × (Arr 4 (UInt64)))) × Int) × (List UInt8) × Int × (Arr 10 (Bool)))) :=
 (if InR (x87 + 1) then bre_parser_repeat_j1_ev fuel o1 y19 x3 y25 (x87 + 1) x88 else none)
theorem bre_parser_repeat_j3_ok {fuel : Nat} {o1 : ((List (Int × Int × Int × Int × Int × Int × (Arr 4 (UInt64)))) × Int) × (List UInt8) × Int × (Arr 10 (Bool))} {y19 : (List (Int × Int))} {x3 : Int} {y25 : Int × Int × Int} {x87 : Int} {x88 : Int} {r : Int × (List (Int × Int)) × (((List (Int × Int × Int × Int × Int × Int × (Arr 4 (UInt64)))) × Int) × (List UInt8) × Int × (Arr 10 (Bool)))} (h : bre_parser_repeat_j3_ev fuel o1 y19 x3 y25 x87 x88 = some r) : bre_parser_repeat_j3 o1 y19 x3 y25 x87 x88 r := by
 unfold bre_parser_repeat_j3_ev at h
 unfold bre_parser_repeat_j3
 obtain ⟨g106, h⟩ := if_ok h
 refine ⟨g106, ?_⟩
 exact bre_parser_repeat_j1_ok h
def bre_parser_repeat_j2_ev (fuel : Nat) (y25 : Int × Int × Int) (o1 : ((List (Int × Int × Int × Int × Int × Int × (Arr 4 (UInt64)))) × Int) × (List UInt8) × Int × (Arr 10 (Bool))) (y19 : (List (Int × Int))) (x3 : Int) (x71 : Bool) : Option (Int × (List (Int × Int)) × (((List (Int × Int × Int × Int × Int × Int × (Arr 4 (UInt64)))) × Int) × (List UInt8) × Int × (Arr 10 (Bool)))) :=
 (if x71 = true then (if InR (y25.2.1 + 1) then ((digit_Num_ev fuel o1.2.1 (y25.2.1 + 1) 255).bind fun y91 => (if y91.2.2 = 0 then (if InR (y91.2.1 - 1) then bre_parser_repeat_j3_ev fuel o1 y19 x3 y25 (y91.2.1 - 1) y91.1 else none) else (if ¬ (y91.2.2 = 9) then some (0, y19, ((o1.1.1, o1.1.2), o1.2.1, o1.2.2.1, o1.2.2.2)) else bre_parser_repeat_j3_ev fuel o1 y19 x3 y25 y25.2.1 (-1)))) else none) else bre_parser_repeat_j1_ev fuel o1 y19 x3 y25 y25.2.1 y25.1)
theorem bre_parser_repeat_j2_ok {fuel : Nat} {y25 : Int × Int × Int} {o1 : ((List (Int × Int × Int × Int × Int × Int × (Arr 4 (UInt64)))) × Int) × (List UInt8) × Int × (Arr 10 (Bool))} {y19 : (List (Int × Int))} {x3 : Int} {x71 : Bool} {r : Int × (List (Int × Int)) × (((List (Int × Int × Int × Int × Int × Int × (Arr 4 (UInt64)))) × Int) × (List UInt8) × Int × (Arr 10 (Bool)))} (h : bre_parser_repeat_j2_ev fuel y25 o1 y19 x3 x71 = some r) : bre_parser_repeat_j2 y25 o1 y19 x3 x71 r := by
 unfold bre_parser_repeat_j2_ev at h
 unfold bre_parser_repeat_j2
 refine ⟨fun g107 => ?_, fun g107 => ?_⟩
 ·rw [if_pos g107] at h
  obtain ⟨g108, h⟩ := if_ok h
  refine ⟨g108, ?_⟩
  obtain ⟨q109, g109, h⟩ := bind_ok h
  refine ⟨q109, digit_Num_ok g109, ?_⟩
  refine ⟨fun g110 => ?_, fun g110 => ?_⟩
  ·rw [if_pos g110] at h
   obtain ⟨g111, h⟩ := if_ok h
   refine ⟨g111, ?_⟩
   exact bre_parser_repeat_j3_ok h
  ·rw [if_neg g110] at h
   refine ⟨fun g112 => ?_, fun g112 => ?_⟩
   ·rw [if_pos g112] at h
    exact (Option.some.inj h).symm
   ·rw [if_neg g112] at h
    exact bre_parser_repeat_j3_ok h
 ·rw [if_neg g107] at h
  exact bre_parser_repeat_j1_ok h
def bre_parser_repeat_ev (fuel : Nat) (o1 : ((List (Int × Int × Int × Int × Int × Int × (Arr 4 (UInt64)))) × Int) × (List UInt8) × Int × (Arr 10 (Bool))) (x3 : Int) : Option (Int × (List (Int × Int)) × (((List (Int × Int × Int × Int × Int × Int × (Arr 4 (UInt64)))) × Int) × (List UInt8) × Int × (Arr 10 (Bool)))) :=
 ((bre_parser_has_ev fuel ((o1.1.1, o1.1.2), o1.2.1, o1.2.2.1, o1.2.2.2) (⟨#[42]⟩ : ByteArray)).bind fun y12 => (if y12 = true then (if InR (o1.2.2.1 + 1) then ((tree_Builder_Rep_ev fuel ((o1.1.1, o1.1.2), o1.2.1, (o1.2.2.1 + 1), o1.2.2.2) x3 0 (-1)).bind fun y16 => some (y16.1, ([] : List (Int × Int)), ((y16.2.1.1, y16.2.1.2), y16.2.2.1, y16.2.2.2.1, y16.2.2.2.2))) else none) else ((bre_parser_fail_ev fuel ((o1.1.1, o1.1.2), o1.2.1, o1.2.2.1, o1.2.2.2) 13).bind fun y19 => (if InR (o1.2.2.1 + 2) then ((digit_Num_ev fuel o1.2.1 (o1.2.2.1 + 2) 255).bind fun y25 => (if ¬ (y25.2.2 = 0) then some (0, y19, ((o1.1.1, o1.1.2), o1.2.1, o1.2.2.1, o1.2.2.2)) else (if y25.2.1 < (o1.2.1.length : Int) then (if 0 ≤ (y25.2.1 : Int) then ((o1.2.1[(y25.2.1 : Int).toNat]?).bind fun y75 => bre_parser_repeat_j2_ev fuel y25 o1 y19 x3 (decide ((y75.toNat : Int) = 44))) else none) else bre_parser_repeat_j2_ev fuel y25 o1 y19 x3 false))) else none))))
theorem bre_parser_repeat_ok {fuel : Nat} {o1 : ((List (Int × Int × Int × Int × Int × Int × (Arr 4 (UInt64)))) × Int) × (List UInt8) × Int × (Arr 10 (Bool))} {x3 : Int} {r : Int × (List (Int × Int)) × (((List (Int × Int × Int × Int × Int × Int × (Arr 4 (UInt64)))) × Int) × (List UInt8) × Int × (Arr 10 (Bool)))} (h : bre_parser_repeat_ev fuel o1 x3 = some r) : bre_parser_repeat_R o1 x3 r := by
 unfold bre_parser_repeat_ev at h
 unfold bre_parser_repeat_R
 obtain ⟨q113, g113, h⟩ := bind_ok h
 refine ⟨q113, bre_parser_has_ok g113, ?_⟩
 refine ⟨fun g114 => ?_, fun g114 => ?_⟩
 ·rw [if_pos g114] at h
  obtain ⟨g115, h⟩ := if_ok h
  refine ⟨g115, ?_⟩
  obtain ⟨q116, g116, h⟩ := bind_ok h
  refine ⟨q116, tree_Builder_Rep_ok g116, ?_⟩
  exact (Option.some.inj h).symm
 ·rw [if_neg g114] at h
  obtain ⟨q117, g117, h⟩ := bind_ok h
  refine ⟨q117, bre_parser_fail_ok g117, ?_⟩
  obtain ⟨g118, h⟩ := if_ok h
  refine ⟨g118, ?_⟩
  obtain ⟨q119, g119, h⟩ := bind_ok h
  refine ⟨q119, digit_Num_ok g119, ?_⟩
  refine ⟨fun g120 => ?_, fun g120 => ?_⟩
  ·rw [if_pos g120] at h
   exact (Option.some.inj h).symm
  ·rw [if_neg g120] at h
   refine ⟨fun g121 => ?_, fun g121 => ?_⟩
   ·rw [if_pos g121] at h
    obtain ⟨g122, h⟩ := if_ok h
    refine ⟨g122, ?_⟩
    obtain ⟨q123, g123, h⟩ := bind_ok h
    refine ⟨q123, g123, ?_⟩
    exact bre_parser_repeat_j2_ok h
   ·rw [if_neg g121] at h
    exact bre_parser_repeat_j2_ok h
set_option maxHeartbeats 4000000 in
theorem bre_parser_repeat_con (o1 : ((List (Int × Int × Int × Int × Int × Int × (Arr 4 (UInt64)))) × Int) × (List UInt8) × Int × (Arr 10 (Bool))) (x3 : Int) (bx0 : Nat) (ia2 : Option (Nat × Nat)) (r : Int × (List (Int × Int)) × (((List (Int × Int × Int × Int × Int × Int × (Arr 4 (UInt64)))) × Int) × (List UInt8) × Int × (Arr 10 (Bool)))) (h : bre_parser_repeat_R o1 x3 r) : Con Try.prog 34 [.v (.pointer (some ⟨bx0, 0, none⟩)), .v (.int .i64 x3)] [⟨bx0, 50, ([.sl 10 (some ia2) (List.map E_palinode_api_Node o1.1.1), .v (.int .i64 o1.1.2), .sl 1 none (List.map eb o1.2.1), .v (.int .i64 o1.2.2.1)] ++ (List.map eB o1.2.2.2.l).flatten)⟩] [⟨ia2, 42, 10, o1.1.1.length⟩] (fun rr bx tk => ∃ j1, rr = .tup [.v (.int .i64 r.1), .pt (List.isEmpty r.2.1) (PC_palinode_bre_wrong r.2.1)] ∧ bx = [⟨bx0, 50, ([.sl 10 (some j1) (List.map E_palinode_api_Node r.2.2.1.1), .v (.int .i64 r.2.2.1.2), .sl 1 none (List.map eb r.2.2.2.1), .v (.int .i64 r.2.2.2.2.1)] ++ (List.map eB r.2.2.2.2.2.l).flatten)⟩] ∧ tk = [⟨j1, 42, 10, r.2.2.1.1.length⟩]) := by
 refine xenter Try.func34 rfl rfl fun g hg => ?_
 simp only [Try.ntmps34, slots]
 refine sr_ ?_
 refine as_ ?_
 refine as_ ?_
 refine nt_ ?_
 refine xseq ?_
 refine sr_ ?_
 refine mv_ ?_
 obtain ⟨y12, h11, h⟩ := h
 refine xcallF (Fb := []) (Ft := []) (bre_parser_has_con ((o1.1.1, o1.1.2), o1.2.1, o1.2.2.1, o1.2.2.2) (⟨#[42]⟩ : ByteArray) bx0 ia2 _ h11) Try.func20 (by kernel_rfl) rfl (.cons rfl (.refl _) (.cons rfl (.refl _) .nil)) (by exact sm_) rfl rfl ?_
 rintro _ _ _ ⟨rfl, rfl, rfl⟩
 simp only [List.nil_append, List.cons_append]
 refine nt_ ?_
 by_cases hp13 : y12 = true
 ·replace h := h.1 hp13
  refine xcondT' hp13 rfl ?_
  refine sr_ ?_
  refine mv_ ?_
  refine vp_ (pv_nilCheck rfl) ?_
  refine vp_ (qv_fieldAddrB FldC.h rfl) ?_
  refine v_ (qv_loadB 0 ShpC.h rfl rfl rfl rfl) ?_
  obtain ⟨h14, h⟩ := h
  refine vp_ (pv_addI h14 rfl rfl) ?_
  refine vp_ (pv_nilCheck rfl) ?_
  refine vp_ (qv_fieldAddrB FldC.h rfl) ?_
  refine xstore 0 ShpC.h rfl rfl rfl rfl rfl rfl rfl ?_
  refine nt_ ?_
  refine sr_ ?_
  refine mv_ ?_
  refine vp_ (pv_nilCheck rfl) ?_
  refine vp_ (qv_fieldAddrB FldC.h rfl) ?_
  refine mv_ ?_
  obtain ⟨y16, h15, h⟩ := h
  refine xcallF (Fb := []) (Ft := []) (tree_Builder_Rep_con ((o1.1.1, o1.1.2), o1.2.1, (o1.2.2.1 + 1), o1.2.2.2) x3 0 (-1) bx0 ia2 _ h15) Try.func52 (by kernel_rfl) rfl (.cons rfl (.refl _) (.cons rfl (.refl _) (.cons rfl (.refl _) (.cons rfl (.refl _) .nil)))) (by exact sm_) rfl rfl ?_
  rintro _ _ _ ⟨i17, rfl, rfl, rfl⟩
  simp only [List.nil_append, List.cons_append]
  refine as_ ?_
  refine as_ ?_
  refine nt_ ?_
  refine xretc ?_
  refine xthen_ret ?_
  replace h := h.symm
  subst h
  exact xret2 hg rfl rfl (.refl _) rfl (Wk.nil_pt _) (SubM.of (.keep rfl rfl (.refl _) (.nil _)) (.keep rfl (.nil _))) ⟨i17, rfl, rfl, rfl⟩
 ·replace h := h.2 hp13
  refine xcondF' (b_f hp13) rfl ?_
  refine xskipc ?_
  refine xthen ?_
  refine sr_ ?_
  refine mv_ ?_
  obtain ⟨y19, h18, h⟩ := h
  refine xcallF (Fb := []) (Ft := []) (bre_parser_fail_con ((o1.1.1, o1.1.2), o1.2.1, o1.2.2.1, o1.2.2.2) 13 bx0 ia2 _ h18) Try.func22 (by kernel_rfl) rfl (.cons rfl (.refl _) (.cons rfl (.refl _) .nil)) (by exact sm_) rfl rfl ?_
  rintro _ _ _ ⟨rfl, rfl, rfl⟩
  simp only [List.nil_append, List.cons_append]
  refine as_ ?_
  refine nt_ ?_
  refine xseq ?_
  refine xregionD (m := 17) (by kernel_rfl) rfl ?_
  obtain ⟨h23, h⟩ := h
  obtain ⟨y25, h24, h⟩ := h
  refine pl_ 0 rfl (pv_move rfl) ?_
  refine pl_ 1 rfl (pv_nilCheck rfl) ?_
  refine pl_ 2 rfl (qv_fieldAddrB FldC.h rfl) ?_
  refine pl_ 4 rfl (pv_move rfl) ?_
  refine pl_ 5 rfl (pv_nilCheck rfl) ?_
  refine pl_ 6 rfl (qv_fieldAddrB FldC.h rfl) ?_
  refine xpvalE 7 [3] rfl (qv_loadB 0 ShpC.h rfl rfl rfl rfl) rfl rfl (by kernel_rfl) (by kernel_rfl) (by kernel_rfl) (fun _ _ _ _ h => h) ?_
  refine pl_ 8 rfl (pv_addI h23 rfl rfl) ?_
  refine xpvalE 3 [] rfl (qv_loadB 0 ShpC.h rfl rfl rfl rfl) rfl rfl (by kernel_rfl) (by kernel_rfl) (by kernel_rfl) (fun _ _ _ _ h => h) ?_
  refine xpstep (i := 9) (by kernel_rfl) rfl ?_
  refine wcallF (Fb := [⟨bx0, 50, ([.sl 10 (some ia2) (List.map E_palinode_api_Node o1.1.1), .v (.int .i64 o1.1.2), .sl 1 none (List.map eb o1.2.1), .v (.int .i64 o1.2.2.1)] ++ (List.map eB o1.2.2.2.l).flatten)⟩]) (Ft := [⟨ia2, 42, 10, o1.1.1.length⟩]) (digit_Num_con o1.2.1 (o1.2.2.1 + 2) 255 _ h24) Try.func53 (by kernel_rfl) rfl (.cons rfl (.refl _) (.cons rfl (.refl _) (.cons rfl (.refl _) .nil))) (by exact sm_) rfl rfl ?_
  rintro _ _ _ ⟨rfl, rfl, rfl⟩
  simp only [List.nil_append, List.cons_append]
  refine pl_ 10 rfl (pv_move rfl) ?_
  refine pl_ 11 rfl (pv_extract rfl rfl) ?_
  refine pl_ 12 rfl (pv_extract rfl rfl) ?_
  refine pl_ 13 rfl (pv_extract rfl rfl) ?_
  refine pl_ 14 rfl (pv_assign rfl) ?_
  refine pl_ 15 rfl (pv_assign rfl) ?_
  refine pl_ 16 rfl (pv_assign rfl) ?_
  refine xpdone (by kernel_rfl) ?_
  refine xthen ?_
  refine xseq ?_
  refine sr_ ?_
  refine mv_ ?_
  refine vp_ (pv_bin2 rfl rfl rfl) ?_
  refine nt_ ?_
  by_cases hp29 : ¬ (y25.2.2 = 0)
  ·replace h := h.1 hp29
   refine xcondT' (not_t (decide_eq_false hp29)) rfl ?_
   refine sr_ ?_
   refine mv_ ?_
   refine as_ ?_
   refine as_ ?_
   refine nt_ ?_
   refine xretc ?_
   refine xthen_ret ?_
   replace h := h.symm
   subst h
   exact xret2 hg rfl rfl (.refl _) rfl (.refl _) (SubM.of (.keep rfl rfl (.refl _) (.nil _)) (.keep rfl (.nil _))) ⟨ia2, rfl, rfl, rfl⟩
  ·replace h := h.2 hp29
   refine xcondF' (not_f (decide_eq_true (Decidable.of_not_not hp29))) rfl ?_
   refine xskipc ?_
   refine xthen ?_
   refine sr_ ?_
   refine mv_ ?_
   refine as_ ?_
   refine nt_ ?_
   refine xseqM (fun σ => ∃ (x63 : Int), ∃ (x64 : Int), bre_parser_repeat_j1 o1 y19 x3 y25 x63 x64 r ∧ σ = ⟨[(0, .v (.pointer (some ⟨bx0, 0, none⟩))), (1, .v (.int .i64 x3)), (6, .pt (List.isEmpty y19) (PC_palinode_bre_wrong y19)), (7, .v (.int .i64 y25.1)), (8, .v (.int .i64 x63)), (10, .v (.int .i64 x64))], [⟨bx0, 50, ([.sl 10 (some ia2) (List.map E_palinode_api_Node o1.1.1), .v (.int .i64 o1.1.2), .sl 1 none (List.map eb o1.2.1), .v (.int .i64 o1.2.2.1)] ++ (List.map eB o1.2.2.2.l).flatten)⟩], [⟨ia2, 42, 10, o1.1.1.length⟩]⟩) ?_ ?_
   ·refine xseqM (fun σ => ∃ (x71 : Bool), bre_parser_repeat_j2 y25 o1 y19 x3 x71 r ∧ σ = ⟨[(0, .v (.pointer (some ⟨bx0, 0, none⟩))), (1, .v (.int .i64 x3)), (6, .pt (List.isEmpty y19) (PC_palinode_bre_wrong y19)), (7, .v (.int .i64 y25.1)), (8, .v (.int .i64 y25.2.1)), (10, .v (.int .i64 y25.1)), (64, .v (.bool x71))], [⟨bx0, 50, ([.sl 10 (some ia2) (List.map E_palinode_api_Node o1.1.1), .v (.int .i64 o1.1.2), .sl 1 none (List.map eb o1.2.1), .v (.int .i64 o1.2.2.1)] ++ (List.map eB o1.2.2.2.l).flatten)⟩], [⟨ia2, 42, 10, o1.1.1.length⟩]⟩) ?_ ?_
    ·refine xregion ?_
     refine mv_ ?_
     refine mv_ ?_
     refine vp_ (pv_nilCheck rfl) ?_
     refine vp_ (qv_fieldAddrB FldC.h rfl) ?_
     refine v_ (qv_loadB 0 ShpC.h rfl rfl rfl rfl) ?_
     refine vp_ (pv_lenM UndC.h rfl) ?_
     refine vp_ (pv_bin2 rfl rfl rfl) ?_
     refine mv_ ?_
     by_cases hp74 : y25.2.1 < (o1.2.1.length : Int)
     ·replace h := h.1 hp74
      refine xsetB 55 (decide_eq_true hp74) rfl ?_
      refine mv_ ?_
      refine vp_ (pv_nilCheck rfl) ?_
      refine vp_ (qv_fieldAddrB FldC.h rfl) ?_
      refine v_ (qv_loadB 0 ShpC.h rfl rfl rfl rfl) ?_
      refine mv_ ?_
      obtain ⟨h76a, h⟩ := h
      obtain ⟨y75, h76b, h⟩ := h
      refine vp_ (pv_indexAddrM h76a h76b UndC.h ShpC.h rfl rfl) ?_
      refine v_ (qv_load ShpC.h rfl rfl rfl) ?_
      refine vp_ (pv_bin2 rfl rfl rfl) ?_
      refine pk_ ?_
      refine xnil ?_
      exact xmeet ⟨(decide ((y75.toNat : Int) = 44)), h, rfl⟩ ⟨lk_, (SubM.of (.keep rfl rfl (.refl _) (.nil _)) (.keep rfl (.nil _)))⟩
     ·replace h := h.2 hp74
      refine xsetB 55 (decide_eq_false hp74) rfl ?_
      refine sk_ ?_
      refine sk_ ?_
      refine sk_ ?_
      refine sk_ ?_
      refine sk_ ?_
      refine sk_ ?_
      refine sk_ ?_
      refine sk_ ?_
      refine pk_ ?_
      refine xnil ?_
      exact xmeet ⟨false, h, rfl⟩ ⟨lk_, (SubM.of (.keep rfl rfl (.refl _) (.nil _)) (.keep rfl (.nil _)))⟩
    ·clear h
     rintro _ ⟨x71, h, rfl⟩
     by_cases hp78 : x71 = true
     ·replace h := h.1 hp78
      refine xcondT' hp78 rfl ?_
      refine sr_ ?_
      refine as_ ?_
      refine nt_ ?_
      refine xseqM (fun σ => ∃ (x87 : Int), ∃ (x88 : Int), bre_parser_repeat_j3 o1 y19 x3 y25 x87 x88 r ∧ σ = ⟨[(0, .v (.pointer (some ⟨bx0, 0, none⟩))), (1, .v (.int .i64 x3)), (6, .pt (List.isEmpty y19) (PC_palinode_bre_wrong y19)), (7, .v (.int .i64 y25.1)), (8, .v (.int .i64 x87)), (10, .v (.int .i64 x88))], [⟨bx0, 50, ([.sl 10 (some ia2) (List.map E_palinode_api_Node o1.1.1), .v (.int .i64 o1.1.2), .sl 1 none (List.map eb o1.2.1), .v (.int .i64 o1.2.2.1)] ++ (List.map eB o1.2.2.2.l).flatten)⟩], [⟨ia2, 42, 10, o1.1.1.length⟩]⟩) ?_ ?_
      ·refine xseq ?_
       refine xregion ?_
       refine mv_ ?_
       refine vp_ (pv_nilCheck rfl) ?_
       refine vp_ (qv_fieldAddrB FldC.h rfl) ?_
       refine v_ (qv_loadB 0 ShpC.h rfl rfl rfl rfl) ?_
       refine mv_ ?_
       obtain ⟨h89, h⟩ := h
       refine vp_ (pv_addI h89 rfl rfl) ?_
       obtain ⟨y91, h90, h⟩ := h
       refine xcallF (Fb := [⟨bx0, 50, ([.sl 10 (some ia2) (List.map E_palinode_api_Node o1.1.1), .v (.int .i64 o1.1.2), .sl 1 none (List.map eb o1.2.1), .v (.int .i64 o1.2.2.1)] ++ (List.map eB o1.2.2.2.l).flatten)⟩]) (Ft := [⟨ia2, 42, 10, o1.1.1.length⟩]) (digit_Num_con o1.2.1 (y25.2.1 + 1) 255 _ h90) Try.func53 (by kernel_rfl) rfl (.cons rfl (.refl _) (.cons rfl (.refl _) (.cons rfl (.refl _) .nil))) (by exact sm_) rfl rfl ?_
       rintro _ _ _ ⟨rfl, rfl, rfl⟩
       simp only [List.nil_append, List.cons_append]
       refine mv_ ?_
       refine vp_ (pv_extract rfl rfl) ?_
       refine vp_ (pv_extract rfl rfl) ?_
       refine vp_ (pv_extract rfl rfl) ?_
       refine as_ ?_
       refine as_ ?_
       refine as_ ?_
       refine nt_ ?_
       refine sr_ ?_
       refine mv_ ?_
       refine vp_ (pv_bin2 rfl rfl rfl) ?_
       refine nt_ ?_
       by_cases hp93 : y91.2.2 = 0
       ·replace h := h.1 hp93
        refine xcondT' (decide_eq_true hp93) rfl ?_
        refine xregion ?_
        refine mv_ ?_
        refine mv_ ?_
        obtain ⟨h94, h⟩ := h
        refine vp_ (pv_subI h94 rfl rfl) ?_
        refine as_ ?_
        refine as_ ?_
        refine xnil ?_
        exact xmeet ⟨(y91.2.1 - 1), y91.1, h, rfl⟩ ⟨lk_, (SubM.of (.keep rfl rfl (.refl _) (.nil _)) (.keep rfl (.nil _)))⟩
       ·replace h := h.2 hp93
        refine xcondF' (decide_eq_false hp93) rfl ?_
        refine sr_ ?_
        refine mv_ ?_
        refine vp_ (pv_bin2 rfl rfl rfl) ?_
        refine nt_ ?_
        by_cases hp96 : ¬ (y91.2.2 = 9)
        ·replace h := h.1 hp96
         refine xcondT' (not_t (decide_eq_false hp96)) rfl ?_
         refine sr_ ?_
         refine mv_ ?_
         refine as_ ?_
         refine as_ ?_
         refine nt_ ?_
         refine xretc ?_
         refine xthen_ret ?_
         refine xthen_ret ?_
         replace h := h.symm
         subst h
         exact xret2 hg rfl rfl (.refl _) rfl (.refl _) (SubM.of (.keep rfl rfl (.refl _) (.nil _)) (.keep rfl (.nil _))) ⟨ia2, rfl, rfl, rfl⟩
        ·replace h := h.2 hp96
         refine xcondF' (not_f (decide_eq_true (Decidable.of_not_not hp96))) rfl ?_
         refine xskipc ?_
         exact xmeet ⟨y25.2.1, (-1), h, rfl⟩ ⟨lk_, (SubM.of (.keep rfl rfl (.refl _) (.nil _)) (.keep rfl (.nil _)))⟩
      ·clear h
       rintro _ ⟨x87, x88, h, rfl⟩
       refine xregion ?_
       refine mv_ ?_
       obtain ⟨h97, h⟩ := h
       refine vp_ (pv_addI h97 rfl rfl) ?_
       refine as_ ?_
       refine xnil ?_
       exact xmeet ⟨(x87 + 1), x88, h, rfl⟩ ⟨lk_, (SubM.of (.keep rfl rfl (.refl _) (.nil _)) (.keep rfl (.nil _)))⟩
     ·replace h := h.2 hp78
      refine xcondF' (b_f hp78) rfl ?_
      refine xskipc ?_
      exact xmeet ⟨y25.2.1, y25.1, h, rfl⟩ ⟨lk_, (SubM.of (.keep rfl rfl (.refl _) (.nil _)) (.keep rfl (.nil _)))⟩
   ·clear h
    rintro _ ⟨x63, x64, h, rfl⟩
    refine sr_ ?_
    refine mv_ ?_
    refine mv_ ?_
    refine vp_ (pv_nilCheck rfl) ?_
    refine vp_ (qv_fieldAddrB FldC.h rfl) ?_
    refine xstore 0 ShpC.h rfl rfl rfl rfl rfl rfl rfl ?_
    refine nt_ ?_
    refine xseq ?_
    refine xseqM (fun σ => ∃ (x118 : Bool), bre_parser_repeat_j4 y19 o1 x63 x3 y25 x64 x118 r ∧ σ = ⟨[(0, .v (.pointer (some ⟨bx0, 0, none⟩))), (1, .v (.int .i64 x3)), (6, .pt (List.isEmpty y19) (PC_palinode_bre_wrong y19)), (7, .v (.int .i64 y25.1)), (10, .v (.int .i64 x64)), (101, .v (.bool x118))], [⟨bx0, 50, ([.sl 10 (some ia2) (List.map E_palinode_api_Node o1.1.1), .v (.int .i64 o1.1.2), .sl 1 none (List.map eb o1.2.1), .v (.int .i64 x63)] ++ (List.map eB o1.2.2.2.l).flatten)⟩], [⟨ia2, 42, 10, o1.1.1.length⟩]⟩) ?_ ?_
    ·refine xregion ?_
     refine mv_ ?_
     obtain ⟨y120, h119, h⟩ := h
     refine xcallF (Fb := []) (Ft := []) (bre_parser_has_con ((o1.1.1, o1.1.2), o1.2.1, x63, o1.2.2.2) (⟨#[92, 125]⟩ : ByteArray) bx0 ia2 _ h119) Try.func20 (by kernel_rfl) rfl (.cons rfl (.refl _) (.cons rfl (.refl _) .nil)) (by exact sm_) rfl rfl ?_
     rintro _ _ _ ⟨rfl, rfl, rfl⟩
     simp only [List.nil_append, List.cons_append]
     refine vp_ (pv_not rfl) ?_
     refine mv_ ?_
     by_cases hp121 : ¬ (y120 = true)
     ·rw [or_tt (show (!y120) = true from (not_t (b_f hp121)))] at h
      refine xsetB 93 (not_t (b_f hp121)) rfl ?_
      refine sk_ ?_
      refine sk_ ?_
      refine sk_ ?_
      refine sk_ ?_
      refine sk_ ?_
      refine sk_ ?_
      refine sk_ ?_
      refine pk_ ?_
      refine xnil ?_
      exact xmeet ⟨true, h, rfl⟩ ⟨lk_, (SubM.of (.keep rfl rfl (.refl _) (.nil _)) (.keep rfl (.nil _)))⟩
     ·rw [or_ff (show (!y120) = false from (not_f (Decidable.of_not_not hp121)))] at h
      refine xsetB 93 (not_f (Decidable.of_not_not hp121)) rfl ?_
      refine mv_ ?_
      refine vp_ (pv_bin2 rfl rfl rfl) ?_
      refine mv_ ?_
      by_cases hp123 : ¬ (x64 = (-1))
      ·rw [and_tt (show (!(decide (x64 = (-1)))) = true from (not_t (decide_eq_false hp123)))] at h
       refine xsetB 96 (not_t (decide_eq_false hp123)) rfl ?_
       refine mv_ ?_
       refine mv_ ?_
       refine vp_ (pv_bin2 rfl rfl rfl) ?_
       refine pk_ ?_
       refine pk_ ?_
       refine xnil ?_
       exact xmeet ⟨(decide (x64 < y25.1)), h, rfl⟩ ⟨lk_, (SubM.of (.keep rfl rfl (.refl _) (.nil _)) (.keep rfl (.nil _)))⟩
      ·rw [and_ff (show (!(decide (x64 = (-1)))) = false from (not_f (decide_eq_true (Decidable.of_not_not hp123))))] at h
       refine xsetB 96 (not_f (decide_eq_true (Decidable.of_not_not hp123))) rfl ?_
       refine sk_ ?_
       refine sk_ ?_
       refine sk_ ?_
       refine pk_ ?_
       refine pk_ ?_
       refine xnil ?_
       exact xmeet ⟨false, h, rfl⟩ ⟨lk_, (SubM.of (.keep rfl rfl (.refl _) (.nil _)) (.keep rfl (.nil _)))⟩
    ·clear h
     rintro _ ⟨x118, h, rfl⟩
     by_cases hp125 : x118 = true
     ·replace h := h.1 hp125
      refine xcondT' hp125 rfl ?_
      refine sr_ ?_
      refine mv_ ?_
      refine as_ ?_
      refine as_ ?_
      refine nt_ ?_
      refine xretc ?_
      refine xthen_ret ?_
      replace h := h.symm
      subst h
      exact xret2 hg rfl rfl (.refl _) rfl (.refl _) (SubM.of (.keep rfl rfl (.refl _) (.nil _)) (.keep rfl (.nil _))) ⟨ia2, rfl, rfl, rfl⟩
     ·replace h := h.2 hp125
      refine xcondF' (b_f hp125) rfl ?_
      refine xskipc ?_
      refine xthen ?_
      refine sr_ ?_
      refine mv_ ?_
      refine vp_ (pv_nilCheck rfl) ?_
      refine vp_ (qv_fieldAddrB FldC.h rfl) ?_
      refine v_ (qv_loadB 0 ShpC.h rfl rfl rfl rfl) ?_
      obtain ⟨h126, h⟩ := h
      refine vp_ (pv_addI h126 rfl rfl) ?_
      refine vp_ (pv_nilCheck rfl) ?_
      refine vp_ (qv_fieldAddrB FldC.h rfl) ?_
      refine xstore 0 ShpC.h rfl rfl rfl rfl rfl rfl rfl ?_
      refine nt_ ?_
      refine sr_ ?_
      refine mv_ ?_
      refine vp_ (pv_nilCheck rfl) ?_
      refine vp_ (qv_fieldAddrB FldC.h rfl) ?_
      refine mv_ ?_
      refine mv_ ?_
      refine mv_ ?_
      obtain ⟨y128, h127, h⟩ := h
      refine xcallF (Fb := []) (Ft := []) (tree_Builder_Rep_con ((o1.1.1, o1.1.2), o1.2.1, (x63 + 2), o1.2.2.2) x3 y25.1 x64 bx0 ia2 _ h127) Try.func52 (by kernel_rfl) rfl (.cons rfl (.refl _) (.cons rfl (.refl _) (.cons rfl (.refl _) (.cons rfl (.refl _) .nil)))) (by exact sm_) rfl rfl ?_
      rintro _ _ _ ⟨i129, rfl, rfl, rfl⟩
      simp only [List.nil_append, List.cons_append]
      refine as_ ?_
      refine as_ ?_
      refine nt_ ?_
      refine xretc ?_
      replace h := h.symm
      subst h
      exact xret2 hg rfl rfl (.refl _) rfl (Wk.nil_pt _) (SubM.of (.keep rfl rfl (.refl _) (.nil _)) (.keep rfl (.nil _))) ⟨i129, rfl, rfl, rfl⟩
/-- class.Not -/
def class_Not_l1 (ag1 : (Int × (Arr 4 (UInt64))) → Prop) (x44 : Int) (f45 : Arr 4 (UInt64)) (r : (Arr 4 (UInt64))) : Prop :=
 ((x44 < 4 → (0 ≤ (x44 : Int) ∧ (x44 : Int) < 4) ∧ ∃ y60 : UInt64, f45.l[(x44 : Int).toNat]? = some y60 ∧ ∃ c62 : UInt64, (c62.toNat : Int) = IntKind.u64.wrap (BitVec.ofInt IntKind.u64.bits IntKind.u64.max ^^^ BitVec.ofInt IntKind.u64.bits (y60.toNat : Int)).toNat ∧ (0 ≤ (x44 : Int) ∧ (x44 : Int) < 4) ∧ ∃ y64 : UInt64, f45.l[(x44 : Int).toNat]? = some y64 ∧ InR (x44 + 1) ∧ ag1 ((x44 + 1), (Arr.set f45 (x44 : Int).toNat c62))) ∧ (¬ (x44 < 4) → r = f45))
def class_Not_R (sv1 : Arr 4 (UInt64)) (r : (Arr 4 (UInt64))) : Prop :=
 LoopR (fun ag1 s => class_Not_l1 ag1 s.1 s.2 r) (0, sv1)
def class_Not_l1_ev (fuel : Nat) (ag1e : (Int × (Arr 4 (UInt64))) → Option ((Arr 4 (UInt64)))) (x44 : Int) (f45 : Arr 4 (UInt64)) : Option ((Arr 4 (UInt64))) :=
 (if x44 < 4 then (if (0 ≤ (x44 : Int) ∧ (x44 : Int) < 4) then ((f45.l[(x44 : Int).toNat]?).bind fun y60 => (exL (IntKind.u64.wrap (BitVec.ofInt IntKind.u64.bits IntKind.u64.max ^^^ BitVec.ofInt IntKind.u64.bits (y60.toNat : Int)).toNat) fun c62 => (if (0 ≤ (x44 : Int) ∧ (x44 : Int) < 4) then ((f45.l[(x44 : Int).toNat]?).bind fun y64 => (if InR (x44 + 1) then ag1e ((x44 + 1), (Arr.set f45 (x44 : Int).toNat c62)) else none)) else none))) else none) else some f45)
theorem class_Not_l1_ok {fuel : Nat} {ag1e : (Int × (Arr 4 (UInt64))) → Option ((Arr 4 (UInt64)))} {ag1 : (Int × (Arr 4 (UInt64))) → Prop} {x44 : Int} {f45 : Arr 4 (UInt64)} {r : (Arr 4 (UInt64))} (hagag1 : ∀ s, ag1e s = some r → ag1 s) (h : class_Not_l1_ev fuel ag1e x44 f45 = some r) : class_Not_l1 ag1 x44 f45 r := by
 unfold class_Not_l1_ev at h
 unfold class_Not_l1
 refine ⟨fun g124 => ?_, fun g124 => ?_⟩
 ·rw [if_pos g124] at h
  obtain ⟨g125, h⟩ := if_ok h
  refine ⟨g125, ?_⟩
  obtain ⟨q126, g126, h⟩ := bind_ok h
  refine ⟨q126, g126, ?_⟩
  obtain ⟨q127, g127, h⟩ := exL_ok h
  refine ⟨q127, g127, ?_⟩
  obtain ⟨g128, h⟩ := if_ok h
  refine ⟨g128, ?_⟩
  obtain ⟨q129, g129, h⟩ := bind_ok h
  refine ⟨q129, g129, ?_⟩
  obtain ⟨g130, h⟩ := if_ok h
  refine ⟨g130, ?_⟩
  exact hagag1 _ h
 ·rw [if_neg g124] at h
  exact (Option.some.inj h).symm
def class_Not_ev (fuel : Nat) (sv1 : Arr 4 (UInt64)) : Option ((Arr 4 (UInt64))) :=
 (loopE (fun ag1e s => class_Not_l1_ev fuel ag1e s.1 s.2) fuel (0, sv1))
theorem class_Not_ok {fuel : Nat} {sv1 : Arr 4 (UInt64)} {r : (Arr 4 (UInt64))} (h : class_Not_ev fuel sv1 = some r) : class_Not_R sv1 r := by
 unfold class_Not_ev at h
 unfold class_Not_R
 refine loopE_ok ?_ h
 intro ae ag s hag h
 exact class_Not_l1_ok hag h
set_option maxHeartbeats 4000000 in
theorem class_Not_con (sv1 : Arr 4 (UInt64)) (r : (Arr 4 (UInt64))) (h : class_Not_R sv1 r) : Con Try.prog 48 [.agg ((List.map ew sv1.l).flatten)] [] [] (Ret (.agg ((List.map ew r.l).flatten))) := by
 refine xenter Try.func48 rfl rfl fun g hg => ?_
 simp only [Try.ntmps48, slots]
 refine sr_ ?_
 refine xbox rfl rfl rfl rfl fun b1 => ?_
 refine xalloc InfC.h rfl rfl fun b2 => ?_
 refine xreb 0 ((List.map ew ((Arr.rep 4 (0 : UInt64))).l).flatten) rfl rfl ?_
 refine nt_ ?_
 refine xseq ?_
 refine sr_ ?_
 refine mv_ ?_
 refine nt_ ?_
 refine xblock ?_
 obtain ⟨Inv, ⟨m0, hI⟩, hS⟩ := h
 refine xloop (fun σ m => ∃ (x44 : Int), ∃ (f45 : Arr 4 (UInt64)), Inv (x44, f45) m ∧ σ = ⟨[(1, .v (.pointer (some ⟨b1, 0, none⟩))), (2, .v (.pointer (some ⟨b2, 0, none⟩))), (4, .v (.int .i64 x44))], [⟨b2, 40, ((List.map ew ((Arr.rep 4 (0 : UInt64))).l).flatten)⟩, ⟨b1, 40, ((List.map ew f45.l).flatten)⟩], []⟩) ⟨0, sv1, hI, rfl⟩ (by exact ⟨lk_, (SubM.of (.keep rfl rfl (.refl _) (.keep rfl rfl (.refl _) (.nil _))) (.nil _))⟩) ?_
 rintro _ m ⟨x44, f45, hI, rfl⟩
 obtain ⟨ag1, hag1, h⟩ : ∃ ag, (∀ s', ag s' → ∃ m', m' < m ∧ Inv s' m') ∧ class_Not_l1 ag x44 f45 r := ⟨_, fun _ h => h, hS (x44, f45) _ hI⟩
 clear hS hI
 refine sr_ ?_
 refine vp_ (pv_bin2 rfl rfl rfl) ?_
 refine nt_ ?_
 refine xseq ?_
 by_cases hp58 : x44 < 4
 ·replace h := h.1 hp58
  refine xcondT' (decide_eq_true hp58) rfl ?_
  refine xskipc ?_
  refine xthen ?_
  refine xseq ?_
  refine xblock ?_
  refine sr_ ?_
  refine mv_ ?_
  refine as_ ?_
  refine nt_ ?_
  refine xregion ?_
  refine mv_ ?_
  refine mv_ ?_
  obtain ⟨h59, h⟩ := h
  obtain ⟨y60, h59b, h⟩ := h
  refine vp_ (pv_indexAddrBA h59 UndC.h ShpC.h rfl rfl) ?_
  refine v_ (qv_loadA (f := ew) (a := f45) (k := 1) (off := 0) (i := (x44 : Int).toNat) 1 [] [] h59b sq_ so_ (by decide) rfl ShpC.h rfl rfl) ?_
  obtain ⟨c62, h61, h⟩ := h
  refine vp_ (pv_xorU h61 rfl) ?_
  obtain ⟨h63, h⟩ := h
  obtain ⟨y64, h63b, h⟩ := h
  refine vp_ (pv_indexAddrBA h63 UndC.h ShpC.h rfl rfl) ?_
  refine xstoreA (f := ew) (a := f45) (k := 1) (off := 0) (i := (x44 : Int).toNat) 1 [] [] c62 h63b sq_ so_ (by decide) ShpC.h rfl rfl rfl rfl sl_ rfl rfl ?_
  refine xreb 1 ((List.map ew ((Arr.set f45 (x44 : Int).toNat c62)).l).flatten) rfl sq_ ?_
  refine xnil ?_
  refine xin_normal ?_
  refine xthen ?_
  refine xregion ?_
  obtain ⟨h65, h⟩ := h
  refine vp_ (pv_addI h65 rfl rfl) ?_
  refine mv_ ?_
  refine xnil ?_
  obtain ⟨m', hm, hI⟩ := hag1 _ h
  exact xagain ⟨(x44 + 1), (Arr.set f45 (x44 : Int).toNat c62), hI, rfl⟩ hm ⟨lk_, (SubM.of (.keep rfl rfl (.refl _) (.keep rfl rfl (.refl _) (.nil _))) (.nil _))⟩
 ·replace h := h.2 hp58
  refine xcondF' (decide_eq_false hp58) rfl ?_
  refine xexit ?_
  refine xthen_exit ?_
  refine xthen_exit ?_
  refine xin_same rfl ?_
  refine xthen ?_
  refine sr_ ?_
  refine v_ (qv_loadP 1 [] ((List.map ew f45.l).flatten) [] sq_ sl_ sl_ (part_all (seg_lenE (by rfl))) ShpC.h rfl rfl) ?_
  refine xstoreQ 0 [] ((List.map ew ((Arr.rep 4 (0 : UInt64))).l).flatten) [] ((List.map ew f45.l).flatten) ShpC.h rfl rfl rfl rfl rfl ?_
  refine nt_ ?_
  refine xretc ?_
  replace h := h.symm
  subst h
  exact xretL (rs := [.cell 2 40]) (ss := [.agg ((List.map ew f45.l).flatten)]) hg rfl (by refine RetL.cell 0 ShpC.h rfl rfl (part_midE (pre := []) (mid := ((List.map ew f45.l).flatten)) (post := []) sq_ sl_ sl_ (part_all (seg_lenE (by rfl)))) (len_midE (pre := []) (mid := ((List.map ew f45.l).flatten)) (post := []) sq_ sl_ sl_) wk_ ?_; exact RetL.nil) (SubM.of (.nil _) (.nil _)) ⟨rfl, rfl, rfl⟩
/-- digit.isUpper -/
def digit_isUpper_R (c1 : UInt8) (r : Bool) : Prop :=
 ∃ y3 : Bool, digit_within_R c1 (65 : UInt8) (90 : UInt8) y3 ∧ r = y3
def digit_isUpper_ev (fuel : Nat) (c1 : UInt8) : Option (Bool) :=
 ((digit_within_ev fuel c1 (65 : UInt8) (90 : UInt8)).bind fun y3 => some y3)
theorem digit_isUpper_ok {fuel : Nat} {c1 : UInt8} {r : Bool} (h : digit_isUpper_ev fuel c1 = some r) : digit_isUpper_R c1 r := by
 unfold digit_isUpper_ev at h
 unfold digit_isUpper_R
 obtain ⟨q131, g131, h⟩ := bind_ok h
 refine ⟨q131, digit_within_ok g131, ?_⟩
 exact (Option.some.inj h).symm
set_option maxHeartbeats 4000000 in
theorem digit_isUpper_con (c1 : UInt8) (r : Bool) (h : digit_isUpper_R c1 r) : Con Try.prog 73 [.v (.int .u8 ((c1.toNat : Int)))] [] [] (Ret (.v (.bool r))) := by
 refine xenter Try.func73 rfl rfl fun g hg => ?_
 simp only [Try.ntmps73, slots]
 refine sr_ ?_
 refine as_ ?_
 refine nt_ ?_
 refine sr_ ?_
 refine mv_ ?_
 obtain ⟨y3, h2, h⟩ := h
 refine xcall0 (digit_within_con c1 (65 : UInt8) (90 : UInt8) _ h2) Try.func77 (by kernel_rfl) rfl (.cons rfl (.refl _) (.cons rfl (.refl _) (.cons rfl (.refl _) .nil))) rfl rfl ?_
 refine as_ ?_
 refine nt_ ?_
 refine xretc ?_
 replace h := h.symm
 subst h
 exact xret1 hg rfl rfl (.refl _) (SubM.of (.nil _) (.nil _)) ⟨rfl, rfl, rfl⟩
/-- digit.isLower -/
def digit_isLower_R (c1 : UInt8) (r : Bool) : Prop :=
 ∃ y3 : Bool, digit_within_R c1 (97 : UInt8) (122 : UInt8) y3 ∧ r = y3
def digit_isLower_ev (fuel : Nat) (c1 : UInt8) : Option (Bool) :=
 ((digit_within_ev fuel c1 (97 : UInt8) (122 : UInt8)).bind fun y3 => some y3)
theorem digit_isLower_ok {fuel : Nat} {c1 : UInt8} {r : Bool} (h : digit_isLower_ev fuel c1 = some r) : digit_isLower_R c1 r := by
 unfold digit_isLower_ev at h
 unfold digit_isLower_R
 obtain ⟨q132, g132, h⟩ := bind_ok h
 refine ⟨q132, digit_within_ok g132, ?_⟩
 exact (Option.some.inj h).symm
set_option maxHeartbeats 4000000 in
theorem digit_isLower_con (c1 : UInt8) (r : Bool) (h : digit_isLower_R c1 r) : Con Try.prog 74 [.v (.int .u8 ((c1.toNat : Int)))] [] [] (Ret (.v (.bool r))) := by
 refine xenter Try.func74 rfl rfl fun g hg => ?_
 simp only [Try.ntmps74, slots]
 refine sr_ ?_
 refine as_ ?_
 refine nt_ ?_
 refine sr_ ?_
 refine mv_ ?_
 obtain ⟨y3, h2, h⟩ := h
 refine xcall0 (digit_within_con c1 (97 : UInt8) (122 : UInt8) _ h2) Try.func77 (by kernel_rfl) rfl (.cons rfl (.refl _) (.cons rfl (.refl _) (.cons rfl (.refl _) .nil))) rfl rfl ?_
 refine as_ ?_
 refine nt_ ?_
 refine xretc ?_
 replace h := h.symm
 subst h
 exact xret1 hg rfl rfl (.refl _) (SubM.of (.nil _) (.nil _)) ⟨rfl, rfl, rfl⟩
/-- digit.isAlnum -/
def digit_isAlnum_R (c1 : UInt8) (r : Bool) : Prop :=
 ∃ y11 : Bool, digit_isDigit_R c1 y11 ∧ ((y11 = true → r = true) ∧ (¬ (y11 = true) → ∃ y14 : Bool, digit_isUpper_R c1 y14 ∧ ((y14 = true → r = true) ∧ (¬ (y14 = true) → ∃ y17 : Bool, digit_isLower_R c1 y17 ∧ r = y17))))
def digit_isAlnum_ev (fuel : Nat) (c1 : UInt8) : Option (Bool) :=
 ((digit_isDigit_ev fuel c1).bind fun y11 => (if y11 = true then some true else ((digit_isUpper_ev fuel c1).bind fun y14 => (if y14 = true then some true else ((digit_isLower_ev fuel c1).bind fun y17 => some y17)))))
theorem digit_isAlnum_ok {fuel : Nat} {c1 : UInt8} {r : Bool} (h : digit_isAlnum_ev fuel c1 = some r) : digit_isAlnum_R c1 r := by
 unfold digit_isAlnum_ev at h
 unfold digit_isAlnum_R
 obtain ⟨q133, g133, h⟩ := bind_ok h
 refine ⟨q133, digit_isDigit_ok g133, ?_⟩
 refine ⟨fun g134 => ?_, fun g134 => ?_⟩
 ·rw [if_pos g134] at h
  exact (Option.some.inj h).symm
 ·rw [if_neg g134] at h
  obtain ⟨q135, g135, h⟩ := bind_ok h
  refine ⟨q135, digit_isUpper_ok g135, ?_⟩
  refine ⟨fun g136 => ?_, fun g136 => ?_⟩
  ·rw [if_pos g136] at h
   exact (Option.some.inj h).symm
  ·rw [if_neg g136] at h
   obtain ⟨q137, g137, h⟩ := bind_ok h
   refine ⟨q137, digit_isLower_ok g137, ?_⟩
   exact (Option.some.inj h).symm
set_option maxHeartbeats 4000000 in
theorem digit_isAlnum_con (c1 : UInt8) (r : Bool) (h : digit_isAlnum_R c1 r) : Con Try.prog 75 [.v (.int .u8 ((c1.toNat : Int)))] [] [] (Ret (.v (.bool r))) := by
 refine xenter Try.func75 rfl rfl fun g hg => ?_
 simp only [Try.ntmps75, slots]
 refine sr_ ?_
 refine as_ ?_
 refine nt_ ?_
 refine sr_ ?_
 refine mv_ ?_
 obtain ⟨y11, h10, h⟩ := h
 refine xcall0 (digit_isDigit_con c1 _ h10) Try.func67 (by kernel_rfl) rfl (.cons rfl (.refl _) .nil) rfl rfl ?_
 refine mv_ ?_
 by_cases hp12 : y11 = true
 ·replace h := h.1 hp12
  refine xsetB 5 hp12 rfl ?_
  refine sk_ ?_
  refine sk_ ?_
  refine pk_ ?_
  refine mv_ ?_
  refine sk_ ?_
  refine sk_ ?_
  refine pk_ ?_
  refine as_ ?_
  refine nt_ ?_
  refine xretc ?_
  replace h := h.symm
  subst h
  exact xret1 hg rfl rfl (.refl _) (SubM.of (.nil _) (.nil _)) ⟨rfl, rfl, rfl⟩
 ·replace h := h.2 hp12
  refine xsetB 5 (b_f hp12) rfl ?_
  refine mv_ ?_
  obtain ⟨y14, h13, h⟩ := h
  refine xcall0 (digit_isUpper_con c1 _ h13) Try.func73 (by kernel_rfl) rfl (.cons rfl (.refl _) .nil) rfl rfl ?_
  refine pk_ ?_
  refine mv_ ?_
  by_cases hp15 : y14 = true
  ·replace h := h.1 hp15
   refine xsetB 9 hp15 rfl ?_
   refine sk_ ?_
   refine sk_ ?_
   refine pk_ ?_
   refine as_ ?_
   refine nt_ ?_
   refine xretc ?_
   replace h := h.symm
   subst h
   exact xret1 hg rfl rfl (.refl _) (SubM.of (.nil _) (.nil _)) ⟨rfl, rfl, rfl⟩
  ·replace h := h.2 hp15
   refine xsetB 9 (b_f hp15) rfl ?_
   refine mv_ ?_
   obtain ⟨y17, h16, h⟩ := h
   refine xcall0 (digit_isLower_con c1 _ h16) Try.func74 (by kernel_rfl) rfl (.cons rfl (.refl _) .nil) rfl rfl ?_
   refine pk_ ?_
   refine as_ ?_
   refine nt_ ?_
   refine xretc ?_
   replace h := h.symm
   subst h
   exact xret1 hg rfl rfl (.refl _) (SubM.of (.nil _) (.nil _)) ⟨rfl, rfl, rfl⟩
/-- digit.isBlank -/
def digit_isBlank_R (c1 : UInt8) (r : Bool) : Prop :=
 (((c1.toNat : Int) = 32 → r = true) ∧ (¬ ((c1.toNat : Int) = 32) → r = (decide ((c1.toNat : Int) = 9))))
def digit_isBlank_ev (fuel : Nat) (c1 : UInt8) : Option (Bool) :=
 (if (c1.toNat : Int) = 32 then some true else some (decide ((c1.toNat : Int) = 9)))
theorem digit_isBlank_ok {fuel : Nat} {c1 : UInt8} {r : Bool} (h : digit_isBlank_ev fuel c1 = some r) : digit_isBlank_R c1 r := by
 unfold digit_isBlank_ev at h
 unfold digit_isBlank_R
 refine ⟨fun g138 => ?_, fun g138 => ?_⟩
 ·rw [if_pos g138] at h
  exact (Option.some.inj h).symm
 ·rw [if_neg g138] at h
  exact (Option.some.inj h).symm
set_option maxHeartbeats 4000000 in
theorem digit_isBlank_con (c1 : UInt8) (r : Bool) (h : digit_isBlank_R c1 r) : Con Try.prog 76 [.v (.int .u8 ((c1.toNat : Int)))] [] [] (Ret (.v (.bool r))) := by
 refine xenter Try.func76 rfl rfl fun g hg => ?_
 simp only [Try.ntmps76, slots]
 refine sr_ ?_
 refine as_ ?_
 refine nt_ ?_
 refine sr_ ?_
 refine mv_ ?_
 refine vp_ (pv_bin2 rfl rfl rfl) ?_
 refine mv_ ?_
 by_cases hp6 : (c1.toNat : Int) = 32
 ·replace h := h.1 hp6
  refine xsetB 5 (decide_eq_true hp6) rfl ?_
  refine sk_ ?_
  refine sk_ ?_
  refine pk_ ?_
  refine as_ ?_
  refine nt_ ?_
  refine xretc ?_
  replace h := h.symm
  subst h
  exact xret1 hg rfl rfl (.refl _) (SubM.of (.nil _) (.nil _)) ⟨rfl, rfl, rfl⟩
 ·replace h := h.2 hp6
  refine xsetB 5 (decide_eq_false hp6) rfl ?_
  refine mv_ ?_
  refine vp_ (pv_bin2 rfl rfl rfl) ?_
  refine pk_ ?_
  refine as_ ?_
  refine nt_ ?_
  refine xretc ?_
  replace h := h.symm
  subst h
  exact xret1 hg rfl rfl (.refl _) (SubM.of (.nil _) (.nil _)) ⟨rfl, rfl, rfl⟩
/-- digit.isGraph -/
def digit_isGraph_R (c1 : UInt8) (r : Bool) : Prop :=
 ∃ y3 : Bool, digit_within_R c1 (33 : UInt8) (126 : UInt8) y3 ∧ r = y3
def digit_isGraph_ev (fuel : Nat) (c1 : UInt8) : Option (Bool) :=
 ((digit_within_ev fuel c1 (33 : UInt8) (126 : UInt8)).bind fun y3 => some y3)
theorem digit_isGraph_ok {fuel : Nat} {c1 : UInt8} {r : Bool} (h : digit_isGraph_ev fuel c1 = some r) : digit_isGraph_R c1 r := by
 unfold digit_isGraph_ev at h
 unfold digit_isGraph_R
 obtain ⟨q139, g139, h⟩ := bind_ok h
 refine ⟨q139, digit_within_ok g139, ?_⟩
 exact (Option.some.inj h).symm
set_option maxHeartbeats 4000000 in
theorem digit_isGraph_con (c1 : UInt8) (r : Bool) (h : digit_isGraph_R c1 r) : Con Try.prog 78 [.v (.int .u8 ((c1.toNat : Int)))] [] [] (Ret (.v (.bool r))) := by
 refine xenter Try.func78 rfl rfl fun g hg => ?_
 simp only [Try.ntmps78, slots]
 refine sr_ ?_
 refine as_ ?_
 refine nt_ ?_
 refine sr_ ?_
 refine mv_ ?_
 obtain ⟨y3, h2, h⟩ := h
 refine xcall0 (digit_within_con c1 (33 : UInt8) (126 : UInt8) _ h2) Try.func77 (by kernel_rfl) rfl (.cons rfl (.refl _) (.cons rfl (.refl _) (.cons rfl (.refl _) .nil))) rfl rfl ?_
 refine as_ ?_
 refine nt_ ?_
 refine xretc ?_
 replace h := h.symm
 subst h
 exact xret1 hg rfl rfl (.refl _) (SubM.of (.nil _) (.nil _)) ⟨rfl, rfl, rfl⟩
end Go.Proofs.Ytpddiffpanihdaa
