
/- What functions' texts ask for, and the walks that show it (printed by a program). -/
import Derived.Test.YtpddiffpanihdaaGKp4
namespace Go.Proofs.Ytpddiffpanihdaa
/-- brack.read -/
def brack_read_j3 (x2 : Int) (x1 : List UInt8) (x86 : Bool) (r : (UInt8 × (Arr 4 (UInt64)) × Bool × Int) × Int) : Prop :=
 ((x86 = true → InR (x2 + 2) ∧ r = (((10 : UInt8), (Arr.rep 4 (0 : UInt64)), false, (x2 + 2)), 0)) ∧ (¬ (x86 = true) → 0 ≤ (x2 : Int) ∧ ∃ y94 : UInt8, x1[(x2 : Int).toNat]? = some y94 ∧ InR (x2 + 1) ∧ r = ((y94, (Arr.rep 4 (0 : UInt64)), false, (x2 + 1)), 0)))
def brack_read_j2 (x1 : List UInt8) (x2 : Int) (x16 : UInt8) (x68 : Bool) (r : (UInt8 × (Arr 4 (UInt64)) × Bool × Int) × Int) : Prop :=
 ((x68 = true → ∃ y80 : (UInt8 × (Arr 4 (UInt64)) × Bool × Int) × Int, brack_named_R x1 x2 y80 ∧ r = (y80.1, y80.2)) ∧ (¬ (x68 = true) → 0 ≤ (x2 : Int) ∧ ∃ y87 : UInt8, x1[(x2 : Int).toNat]? = some y87 ∧ brack_read_j3 x2 x1 ((decide ((y87.toNat : Int) = 92)) && (decide ((x16.toNat : Int) = 110))) r))
def brack_read_j1 (x2 : Int) (x1 : List UInt8) (x16 : UInt8) (r : (UInt8 × (Arr 4 (UInt64)) × Bool × Int) × Int) : Prop :=
 0 ≤ (x2 : Int) ∧ ∃ y69 : UInt8, x1[(x2 : Int).toNat]? = some y69 ∧ brack_read_j2 x1 x2 x16 ((decide ((y69.toNat : Int) = 91)) && ((decide ((x16.toNat : Int) = 58)) || ((decide ((x16.toNat : Int) = 46)) || (decide ((x16.toNat : Int) = 61))))) r
def brack_read_R (x1 : List UInt8) (x2 : Int) (r : (UInt8 × (Arr 4 (UInt64)) × Bool × Int) × Int) : Prop :=
 (((x1.length : Int) ≤ x2 → r = (((0 : UInt8), (Arr.rep 4 (0 : UInt64)), false, 0), 11)) ∧ (¬ ((x1.length : Int) ≤ x2) → InR (x2 + 1) ∧ (((x2 + 1) < (x1.length : Int) → InR (x2 + 1) ∧ 0 ≤ ((x2 + 1) : Int) ∧ ∃ y22 : UInt8, x1[((x2 + 1) : Int).toNat]? = some y22 ∧ brack_read_j1 x2 x1 y22 r) ∧ (¬ ((x2 + 1) < (x1.length : Int)) → brack_read_j1 x2 x1 (0 : UInt8) r))))
def brack_read_j3_ev (fuel : Nat) (x2 : Int) (x1 : List UInt8) (x86 : Bool) : Option ((UInt8 × (Arr 4 (UInt64)) × Bool × Int) × Int) :=
 (if x86 = true then (if InR (x2 + 2) then some (((10 : UInt8), (Arr.rep 4 (0 : UInt64)), false, (x2 + 2)), 0) else none) else (if 0 ≤ (x2 : Int) then ((x1[(x2 : Int).toNat]?).bind fun y94 => (if InR (x2 + 1) then some ((y94, (Arr.rep 4 (0 : UInt64)), false, (x2 + 1)), 0) else none)) else none))
theorem brack_read_j3_ok {fuel : Nat} {x2 : Int} {x1 : List UInt8} {x86 : Bool} {r : (UInt8 × (Arr 4 (UInt64)) × Bool × Int) × Int} (h : brack_read_j3_ev fuel x2 x1 x86 = some r) : brack_read_j3 x2 x1 x86 r := by
 unfold brack_read_j3_ev at h
 unfold brack_read_j3
 refine ⟨fun g203 => ?_, fun g203 => ?_⟩
 ·rw [if_pos g203] at h
  obtain ⟨g204, h⟩ := if_ok h
  refine ⟨g204, ?_⟩
  exact (Option.some.inj h).symm
 ·rw [if_neg g203] at h
  obtain ⟨g205, h⟩ := if_ok h
  refine ⟨g205, ?_⟩
  obtain ⟨q206, g206, h⟩ := bind_ok h
  refine ⟨q206, g206, ?_⟩
  obtain ⟨g207, h⟩ := if_ok h
  refine ⟨g207, ?_⟩
  exact (Option.some.inj h).symm
def brack_read_j2_ev (fuel : Nat) (x1 : List UInt8) (x2 : Int) (x16 : UInt8) (x68 : Bool) : Option ((UInt8 × (Arr 4 (UInt64)) × Bool × Int) × Int) :=
 (if x68 = true then ((brack_named_ev fuel x1 x2).bind fun y80 => some (y80.1, y80.2)) else (if 0 ≤ (x2 : Int) then ((x1[(x2 : Int).toNat]?).bind fun y87 => brack_read_j3_ev fuel x2 x1 ((decide ((y87.toNat : Int) = 92)) && (decide ((x16.toNat : Int) = 110)))) else none))
theorem brack_read_j2_ok {fuel : Nat} {x1 : List UInt8} {x2 : Int} {x16 : UInt8} {x68 : Bool} {r : (UInt8 × (Arr 4 (UInt64)) × Bool × Int) × Int} (h : brack_read_j2_ev fuel x1 x2 x16 x68 = some r) : brack_read_j2 x1 x2 x16 x68 r := by
 unfold brack_read_j2_ev at h
 unfold brack_read_j2
 refine ⟨fun g208 => ?_, fun g208 => ?_⟩
 ·rw [if_pos g208] at h
  obtain ⟨q209, g209, h⟩ := bind_ok h
  refine ⟨q209, brack_named_ok g209, ?_⟩
  exact (Option.some.inj h).symm
 ·rw [if_neg g208] at h
  obtain ⟨g210, h⟩ := if_ok h
  refine ⟨g210, ?_⟩
  obtain ⟨q211, g211, h⟩ := bind_ok h
  refine ⟨q211, g211, ?_⟩
  exact brack_read_j3_ok h
def brack_read_j1_ev (fuel : Nat) (x2 : Int) (x1 : List UInt8) (x16 : UInt8) : Option ((UInt8 × (Arr 4 (UInt64)) × Bool × Int) × Int) :=
 (if 0 ≤ (x2 : Int) then ((x1[(x2 : Int).toNat]?).bind fun y69 => brack_read_j2_ev fuel x1 x2 x16 ((decide ((y69.toNat : Int) = 91)) && ((decide ((x16.toNat : Int) = 58)) || ((decide ((x16.toNat : Int) = 46)) || (decide ((x16.toNat : Int) = 61)))))) else none)
theorem brack_read_j1_ok {fuel : Nat} {x2 : Int} {x1 : List UInt8} {x16 : UInt8} {r : (UInt8 × (Arr 4 (UInt64)) × Bool × Int) × Int} (h : brack_read_j1_ev fuel x2 x1 x16 = some r) : brack_read_j1 x2 x1 x16 r := by
 unfold brack_read_j1_ev at h
 unfold brack_read_j1
 obtain ⟨g212, h⟩ := if_ok h
 refine ⟨g212, ?_⟩
 obtain ⟨q213, g213, h⟩ := bind_ok h
 refine ⟨q213, g213, ?_⟩
 exact brack_read_j2_ok h
def brack_read_ev (fuel : Nat) (x1 : List UInt8) (x2 : Int) : Option ((UInt8 × (Arr 4 (UInt64)) × Bool × Int) × Int) :=
 (if (x1.length : Int) ≤ x2 then some (((0 : UInt8), (Arr.rep 4 (0 : UInt64)), false, 0), 11) else (if InR (x2 + 1) then (if (x2 + 1) < (x1.length : Int) then (if InR (x2 + 1) then (if 0 ≤ ((x2 + 1) : Int) then ((x1[((x2 + 1) : Int).toNat]?).bind fun y22 => brack_read_j1_ev fuel x2 x1 y22) else none) else none) else brack_read_j1_ev fuel x2 x1 (0 : UInt8)) else none))
theorem brack_read_ok {fuel : Nat} {x1 : List UInt8} {x2 : Int} {r : (UInt8 × (Arr 4 (UInt64)) × Bool × Int) × Int} (h : brack_read_ev fuel x1 x2 = some r) : brack_read_R x1 x2 r := by
 unfold brack_read_ev at h
 unfold brack_read_R
 refine ⟨fun g214 => ?_, fun g214 => ?_⟩
 ·rw [if_pos g214] at h
  exact (Option.some.inj h).symm
 ·rw [if_neg g214] at h
  obtain ⟨g215, h⟩ := if_ok h
  refine ⟨g215, ?_⟩
  refine ⟨fun g216 => ?_, fun g216 => ?_⟩
  ·rw [if_pos g216] at h
   obtain ⟨g217, h⟩ := if_ok h
   refine ⟨g217, ?_⟩
   obtain ⟨g218, h⟩ := if_ok h
   refine ⟨g218, ?_⟩
   obtain ⟨q219, g219, h⟩ := bind_ok h
   refine ⟨q219, g219, ?_⟩
   exact brack_read_j1_ok h
  ·rw [if_neg g216] at h
   exact brack_read_j1_ok h
set_option maxHeartbeats 4000000 in
theorem brack_read_con (x1 : List UInt8) (x2 : Int) (r : (UInt8 × (Arr 4 (UInt64)) × Bool × Int) × Int) (h : brack_read_R x1 x2 r) : Con Try.prog 81 [.sl 1 none (List.map eb x1), .v (.int .i64 x2)] [] [] (fun rr bx tk => rr = .tup [.agg ([.v (.int .u8 ((r.1.1.toNat : Int)))] ++ ((List.map ew r.1.2.1.l).flatten ++ [.v (.bool r.1.2.2.1), .v (.int .i64 r.1.2.2.2)])), .v (.int .i64 r.2)] ∧ bx = [] ∧ tk = []) := by
 refine xenter Try.func81 rfl rfl fun g hg => ?_
 simp only [Try.ntmps81, slots]
 refine sr_ ?_
 refine xalloc InfC.h rfl rfl fun b4 => ?_
 refine xreb 0 ([.v (.int .u8 0)] ++ ((List.map ew ((Arr.rep 4 (0 : UInt64))).l).flatten ++ [.v (.bool false), .v (.int .i64 0)])) rfl rfl ?_
 refine as_ ?_
 refine nt_ ?_
 refine xseq ?_
 refine sr_ ?_
 refine mv_ ?_
 refine mv_ ?_
 refine vp_ (pv_lenM UndC.h rfl) ?_
 refine vp_ (pv_bin2 rfl rfl rfl) ?_
 refine nt_ ?_
 by_cases hp8 : (x1.length : Int) ≤ x2
 ·replace h := h.1 hp8
  refine xcondT' (decide_eq_true hp8) rfl ?_
  refine sr_ ?_
  refine vp_ (pv_buildC (cs := ([.v (.int .u8 0)] ++ ((List.map ew ((Arr.rep 4 (0 : UInt64))).l).flatten ++ [.v (.bool false), .v (.int .i64 0)]))) StrC.h rfl (by exact congrArg some sq_)) ?_
  refine xstoreQ 0 [] ([.v (.int .u8 0)] ++ ((List.map ew ((Arr.rep 4 (0 : UInt64))).l).flatten ++ [.v (.bool false), .v (.int .i64 0)])) [] ([.v (.int .u8 0)] ++ ((List.map ew ((Arr.rep 4 (0 : UInt64))).l).flatten ++ [.v (.bool false), .v (.int .i64 0)])) ShpC.h rfl rfl rfl rfl rfl ?_
  refine as_ ?_
  refine nt_ ?_
  refine xretc ?_
  refine xthen_ret ?_
  replace h := h.symm
  subst h
  exact xretL (rs := [.cell 4 118, .tmp 5]) (ss := [.agg ([.v (.int .u8 (((0 : UInt8).toNat : Int)))] ++ ((List.map ew ((Arr.rep 4 (0 : UInt64))).l).flatten ++ [.v (.bool false), .v (.int .i64 0)])), .v (.int .i64 11)]) hg rfl (by refine RetL.cell 0 ShpC.h rfl rfl (part_midE (pre := []) (mid := ([.v (.int .u8 0)] ++ ((List.map ew ((Arr.rep 4 (0 : UInt64))).l).flatten ++ [.v (.bool false), .v (.int .i64 0)]))) (post := []) sq_ sl_ sl_ (part_all sl_)) (len_midE (pre := []) (mid := ([.v (.int .u8 0)] ++ ((List.map ew ((Arr.rep 4 (0 : UInt64))).l).flatten ++ [.v (.bool false), .v (.int .i64 0)]))) (post := []) sq_ sl_ sl_) wk_ ?_; refine RetL.tmp rfl (.refl _) ?_; exact RetL.nil) (SubM.of (.nil _) (.nil _)) ⟨rfl, rfl, rfl⟩
 ·replace h := h.2 hp8
  refine xcondF' (decide_eq_false hp8) rfl ?_
  refine xskipc ?_
  refine xthen ?_
  refine sr_ ?_
  refine as_ ?_
  refine nt_ ?_
  refine xseqM (fun σ => ∃ (x16 : UInt8), brack_read_j1 x2 x1 x16 r ∧ σ = ⟨[(0, .sl 1 none (List.map eb x1)), (1, .v (.int .i64 x2)), (4, .v (.pointer (some ⟨b4, 0, none⟩))), (6, .v (.int .u8 ((x16.toNat : Int))))], [⟨b4, 118, ([.v (.int .u8 0)] ++ ((List.map ew ((Arr.rep 4 (0 : UInt64))).l).flatten ++ [.v (.bool false), .v (.int .i64 0)]))⟩], []⟩) ?_ ?_
  ·refine xseq ?_
   refine xregion ?_
   refine mv_ ?_
   obtain ⟨h17, h⟩ := h
   refine vp_ (pv_addI h17 rfl rfl) ?_
   refine mv_ ?_
   refine vp_ (pv_lenM UndC.h rfl) ?_
   refine vp_ (pv_bin2 rfl rfl rfl) ?_
   refine nt_ ?_
   by_cases hp20 : (x2 + 1) < (x1.length : Int)
   ·replace h := h.1 hp20
    refine xcondT' (decide_eq_true hp20) rfl ?_
    refine xregion ?_
    refine mv_ ?_
    refine mv_ ?_
    obtain ⟨h21, h⟩ := h
    refine vp_ (pv_addI h21 rfl rfl) ?_
    obtain ⟨h23a, h⟩ := h
    obtain ⟨y22, h23b, h⟩ := h
    refine vp_ (pv_indexAddrM h23a h23b UndC.h ShpC.h rfl rfl) ?_
    refine v_ (qv_load ShpC.h rfl rfl rfl) ?_
    refine as_ ?_
    refine xnil ?_
    exact xmeet ⟨y22, h, rfl⟩ ⟨lk_, (SubM.of (.keep rfl rfl (.refl _) (.nil _)) (.nil _))⟩
   ·replace h := h.2 hp20
    refine xcondF' (decide_eq_false hp20) rfl ?_
    refine xskipc ?_
    exact xmeet ⟨(0 : UInt8), h, rfl⟩ ⟨lk_, (SubM.of (.keep rfl rfl (.refl _) (.nil _)) (.nil _))⟩
  ·clear h
   rintro _ ⟨x16, h, rfl⟩
   refine xseq ?_
   refine xblock ?_
   refine xseqM (fun σ => ∃ (x68 : Bool), brack_read_j2 x1 x2 x16 x68 r ∧ σ = ⟨[(0, .sl 1 none (List.map eb x1)), (1, .v (.int .i64 x2)), (4, .v (.pointer (some ⟨b4, 0, none⟩))), (6, .v (.int .u8 ((x16.toNat : Int)))), (22, .v (.bool x68))], [⟨b4, 118, ([.v (.int .u8 0)] ++ ((List.map ew ((Arr.rep 4 (0 : UInt64))).l).flatten ++ [.v (.bool false), .v (.int .i64 0)]))⟩], []⟩) ?_ ?_
   ·refine xregion ?_
    refine mv_ ?_
    refine mv_ ?_
    obtain ⟨h70a, h⟩ := h
    obtain ⟨y69, h70b, h⟩ := h
    refine vp_ (pv_indexAddrM h70a h70b UndC.h ShpC.h rfl rfl) ?_
    refine v_ (qv_load ShpC.h rfl rfl rfl) ?_
    refine vp_ (pv_bin2 rfl rfl rfl) ?_
    refine mv_ ?_
    by_cases hp72 : (y69.toNat : Int) = 91
    ·rw [and_tt (show (decide ((y69.toNat : Int) = 91)) = true from (decide_eq_true hp72))] at h
     refine xsetB 28 (decide_eq_true hp72) rfl ?_
     refine mv_ ?_
     refine vp_ (pv_bin2 rfl rfl rfl) ?_
     refine mv_ ?_
     by_cases hp74 : (x16.toNat : Int) = 58
     ·rw [or_tt (show (decide ((x16.toNat : Int) = 58)) = true from (decide_eq_true hp74))] at h
      refine xsetB 31 (decide_eq_true hp74) rfl ?_
      refine sk_ ?_
      refine sk_ ?_
      refine pk_ ?_
      refine mv_ ?_
      refine sk_ ?_
      refine sk_ ?_
      refine pk_ ?_
      refine pk_ ?_
      refine as_ ?_
      refine xnil ?_
      exact xmeet ⟨true, h, rfl⟩ ⟨lk_, (SubM.of (.keep rfl rfl (.refl _) (.nil _)) (.nil _))⟩
     ·rw [or_ff (show (decide ((x16.toNat : Int) = 58)) = false from (decide_eq_false hp74))] at h
      refine xsetB 31 (decide_eq_false hp74) rfl ?_
      refine mv_ ?_
      refine vp_ (pv_bin2 rfl rfl rfl) ?_
      refine pk_ ?_
      refine mv_ ?_
      by_cases hp76 : (x16.toNat : Int) = 46
      ·rw [or_tt (show (decide ((x16.toNat : Int) = 46)) = true from (decide_eq_true hp76))] at h
       refine xsetB 35 (decide_eq_true hp76) rfl ?_
       refine sk_ ?_
       refine sk_ ?_
       refine pk_ ?_
       refine pk_ ?_
       refine as_ ?_
       refine xnil ?_
       exact xmeet ⟨true, h, rfl⟩ ⟨lk_, (SubM.of (.keep rfl rfl (.refl _) (.nil _)) (.nil _))⟩
      ·rw [or_ff (show (decide ((x16.toNat : Int) = 46)) = false from (decide_eq_false hp76))] at h
       refine xsetB 35 (decide_eq_false hp76) rfl ?_
       refine mv_ ?_
       refine vp_ (pv_bin2 rfl rfl rfl) ?_
       refine pk_ ?_
       refine pk_ ?_
       refine as_ ?_
       refine xnil ?_
       exact xmeet ⟨(decide ((x16.toNat : Int) = 61)), h, rfl⟩ ⟨lk_, (SubM.of (.keep rfl rfl (.refl _) (.nil _)) (.nil _))⟩
    ·rw [and_ff (show (decide ((y69.toNat : Int) = 91)) = false from (decide_eq_false hp72))] at h
     refine xsetB 28 (decide_eq_false hp72) rfl ?_
     refine sk_ ?_
     refine sk_ ?_
     refine sk_ ?_
     refine sk_ ?_
     refine sk_ ?_
     refine sk_ ?_
     refine sk_ ?_
     refine sk_ ?_
     refine sk_ ?_
     refine sk_ ?_
     refine pk_ ?_
     refine as_ ?_
     refine xnil ?_
     exact xmeet ⟨false, h, rfl⟩ ⟨lk_, (SubM.of (.keep rfl rfl (.refl _) (.nil _)) (.nil _))⟩
   ·clear h
    rintro _ ⟨x68, h, rfl⟩
    by_cases hp78 : x68 = true
    ·replace h := h.1 hp78
     refine xcondT' hp78 rfl ?_
     refine sr_ ?_
     refine mv_ ?_
     refine mv_ ?_
     obtain ⟨y80, h79, h⟩ := h
     refine xcallF (Fb := [⟨b4, 118, ([.v (.int .u8 0)] ++ ((List.map ew ((Arr.rep 4 (0 : UInt64))).l).flatten ++ [.v (.bool false), .v (.int .i64 0)]))⟩]) (Ft := []) (brack_named_con x1 x2 _ h79) Try.func85 (by kernel_rfl) rfl (.cons rfl (.refl _) (.cons rfl (.refl _) .nil)) (by exact sm_) rfl rfl ?_
     rintro _ _ _ ⟨rfl, rfl, rfl⟩
     simp only [List.nil_append, List.cons_append]
     refine vp_ (pv_extract rfl rfl) ?_
     refine vp_ (pv_extract rfl rfl) ?_
     refine xstoreQ 0 [] ([.v (.int .u8 0)] ++ ((List.map ew ((Arr.rep 4 (0 : UInt64))).l).flatten ++ [.v (.bool false), .v (.int .i64 0)])) [] ([.v (.int .u8 ((y80.1.1.toNat : Int)))] ++ ((List.map ew y80.1.2.1.l).flatten ++ [.v (.bool y80.1.2.2.1), .v (.int .i64 y80.1.2.2.2)])) ShpC.h rfl rfl rfl rfl rfl ?_
     refine as_ ?_
     refine nt_ ?_
     refine xretc ?_
     refine xin_ret ?_
     refine xthen_ret ?_
     replace h := h.symm
     subst h
     exact xretL (rs := [.cell 4 118, .tmp 5]) (ss := [.agg ([.v (.int .u8 ((y80.1.1.toNat : Int)))] ++ ((List.map ew y80.1.2.1.l).flatten ++ [.v (.bool y80.1.2.2.1), .v (.int .i64 y80.1.2.2.2)])), .v (.int .i64 y80.2)]) hg rfl (by refine RetL.cell 0 ShpC.h rfl rfl (part_midE (pre := []) (mid := ([.v (.int .u8 ((y80.1.1.toNat : Int)))] ++ ((List.map ew y80.1.2.1.l).flatten ++ [.v (.bool y80.1.2.2.1), .v (.int .i64 y80.1.2.2.2)]))) (post := []) sq_ sl_ sl_ (part_all sl_)) (len_midE (pre := []) (mid := ([.v (.int .u8 ((y80.1.1.toNat : Int)))] ++ ((List.map ew y80.1.2.1.l).flatten ++ [.v (.bool y80.1.2.2.1), .v (.int .i64 y80.1.2.2.2)]))) (post := []) sq_ sl_ sl_) wk_ ?_; refine RetL.tmp rfl (.refl _) ?_; exact RetL.nil) (SubM.of (.nil _) (.nil _)) ⟨rfl, rfl, rfl⟩
    ·replace h := h.2 hp78
     refine xcondF' (b_f hp78) rfl ?_
     refine xseqM (fun σ => ∃ (x86 : Bool), brack_read_j3 x2 x1 x86 r ∧ σ = ⟨[(0, .sl 1 none (List.map eb x1)), (1, .v (.int .i64 x2)), (4, .v (.pointer (some ⟨b4, 0, none⟩))), (45, .v (.bool x86))], [⟨b4, 118, ([.v (.int .u8 0)] ++ ((List.map ew ((Arr.rep 4 (0 : UInt64))).l).flatten ++ [.v (.bool false), .v (.int .i64 0)]))⟩], []⟩) ?_ ?_
     ·refine xregion ?_
      refine mv_ ?_
      refine mv_ ?_
      obtain ⟨h88a, h⟩ := h
      obtain ⟨y87, h88b, h⟩ := h
      refine vp_ (pv_indexAddrM h88a h88b UndC.h ShpC.h rfl rfl) ?_
      refine v_ (qv_load ShpC.h rfl rfl rfl) ?_
      refine vp_ (pv_bin2 rfl rfl rfl) ?_
      refine mv_ ?_
      by_cases hp90 : (y87.toNat : Int) = 92
      ·rw [and_tt (show (decide ((y87.toNat : Int) = 92)) = true from (decide_eq_true hp90))] at h
       refine xsetB 51 (decide_eq_true hp90) rfl ?_
       refine mv_ ?_
       refine vp_ (pv_bin2 rfl rfl rfl) ?_
       refine pk_ ?_
       refine as_ ?_
       refine xnil ?_
       exact xmeet ⟨(decide ((x16.toNat : Int) = 110)), h, rfl⟩ ⟨lk_, (SubM.of (.keep rfl rfl (.refl _) (.nil _)) (.nil _))⟩
      ·rw [and_ff (show (decide ((y87.toNat : Int) = 92)) = false from (decide_eq_false hp90))] at h
       refine xsetB 51 (decide_eq_false hp90) rfl ?_
       refine sk_ ?_
       refine sk_ ?_
       refine pk_ ?_
       refine as_ ?_
       refine xnil ?_
       exact xmeet ⟨false, h, rfl⟩ ⟨lk_, (SubM.of (.keep rfl rfl (.refl _) (.nil _)) (.nil _))⟩
     ·clear h
      rintro _ ⟨x86, h, rfl⟩
      by_cases hp92 : x86 = true
      ·replace h := h.1 hp92
       refine xcondT' hp92 rfl ?_
       refine sr_ ?_
       refine mv_ ?_
       obtain ⟨h93, h⟩ := h
       refine vp_ (pv_addI h93 rfl rfl) ?_
       refine vp_ (pv_buildC (cs := ([.v (.int .u8 10)] ++ ((List.map ew ((Arr.rep 4 (0 : UInt64))).l).flatten ++ [.v (.bool false), .v (.int .i64 ((x2 + 2)))]))) StrC.h rfl (by refine fill_step [] [.v (.int .u8 0)] (((List.map ew ((Arr.rep 4 (0 : UInt64))).l).flatten ++ [.v (.bool false), .v (.int .i64 0)])) sq_ sl_ sl_ sl_ rfl rfl ?_; refine fill_step ([.v (.int .u8 10)] ++ ((List.map ew ((Arr.rep 4 (0 : UInt64))).l).flatten ++ [.v (.bool false)])) [.v (.int .i64 0)] [] sq_ sl_ sl_ sl_ rfl rfl ?_; exact congrArg some sq_)) ?_
       refine xstoreQ 0 [] ([.v (.int .u8 0)] ++ ((List.map ew ((Arr.rep 4 (0 : UInt64))).l).flatten ++ [.v (.bool false), .v (.int .i64 0)])) [] ([.v (.int .u8 10)] ++ ((List.map ew ((Arr.rep 4 (0 : UInt64))).l).flatten ++ [.v (.bool false), .v (.int .i64 ((x2 + 2)))])) ShpC.h rfl rfl rfl rfl rfl ?_
       refine as_ ?_
       refine nt_ ?_
       refine xretc ?_
       refine xin_ret ?_
       refine xthen_ret ?_
       replace h := h.symm
       subst h
       exact xretL (rs := [.cell 4 118, .tmp 5]) (ss := [.agg ([.v (.int .u8 (((10 : UInt8).toNat : Int)))] ++ ((List.map ew ((Arr.rep 4 (0 : UInt64))).l).flatten ++ [.v (.bool false), .v (.int .i64 ((x2 + 2)))])), .v (.int .i64 0)]) hg rfl (by refine RetL.cell 0 ShpC.h rfl rfl (part_midE (pre := []) (mid := ([.v (.int .u8 10)] ++ ((List.map ew ((Arr.rep 4 (0 : UInt64))).l).flatten ++ [.v (.bool false), .v (.int .i64 ((x2 + 2)))]))) (post := []) sq_ sl_ sl_ (part_all sl_)) (len_midE (pre := []) (mid := ([.v (.int .u8 10)] ++ ((List.map ew ((Arr.rep 4 (0 : UInt64))).l).flatten ++ [.v (.bool false), .v (.int .i64 ((x2 + 2)))]))) (post := []) sq_ sl_ sl_) wk_ ?_; refine RetL.tmp rfl (.refl _) ?_; exact RetL.nil) (SubM.of (.nil _) (.nil _)) ⟨rfl, rfl, rfl⟩
      ·replace h := h.2 hp92
       refine xcondF' (b_f hp92) rfl ?_
       refine xskipc ?_
       refine xin_normal ?_
       refine xthen ?_
       refine sr_ ?_
       refine mv_ ?_
       refine mv_ ?_
       obtain ⟨h95a, h⟩ := h
       obtain ⟨y94, h95b, h⟩ := h
       refine vp_ (pv_indexAddrM h95a h95b UndC.h ShpC.h rfl rfl) ?_
       refine v_ (qv_load ShpC.h rfl rfl rfl) ?_
       refine mv_ ?_
       obtain ⟨h96, h⟩ := h
       refine vp_ (pv_addI h96 rfl rfl) ?_
       refine vp_ (pv_buildC (cs := ([.v (.int .u8 ((y94.toNat : Int)))] ++ ((List.map ew ((Arr.rep 4 (0 : UInt64))).l).flatten ++ [.v (.bool false), .v (.int .i64 ((x2 + 1)))]))) StrC.h rfl (by refine fill_step [] [.v (.int .u8 0)] (((List.map ew ((Arr.rep 4 (0 : UInt64))).l).flatten ++ [.v (.bool false), .v (.int .i64 0)])) sq_ sl_ sl_ sl_ rfl rfl ?_; refine fill_step ([.v (.int .u8 ((y94.toNat : Int)))] ++ ((List.map ew ((Arr.rep 4 (0 : UInt64))).l).flatten ++ [.v (.bool false)])) [.v (.int .i64 0)] [] sq_ sl_ sl_ sl_ rfl rfl ?_; exact congrArg some sq_)) ?_
       refine xstoreQ 0 [] ([.v (.int .u8 0)] ++ ((List.map ew ((Arr.rep 4 (0 : UInt64))).l).flatten ++ [.v (.bool false), .v (.int .i64 0)])) [] ([.v (.int .u8 ((y94.toNat : Int)))] ++ ((List.map ew ((Arr.rep 4 (0 : UInt64))).l).flatten ++ [.v (.bool false), .v (.int .i64 ((x2 + 1)))])) ShpC.h rfl rfl rfl rfl rfl ?_
       refine as_ ?_
       refine nt_ ?_
       refine xretc ?_
       replace h := h.symm
       subst h
       exact xretL (rs := [.cell 4 118, .tmp 5]) (ss := [.agg ([.v (.int .u8 ((y94.toNat : Int)))] ++ ((List.map ew ((Arr.rep 4 (0 : UInt64))).l).flatten ++ [.v (.bool false), .v (.int .i64 ((x2 + 1)))])), .v (.int .i64 0)]) hg rfl (by refine RetL.cell 0 ShpC.h rfl rfl (part_midE (pre := []) (mid := ([.v (.int .u8 ((y94.toNat : Int)))] ++ ((List.map ew ((Arr.rep 4 (0 : UInt64))).l).flatten ++ [.v (.bool false), .v (.int .i64 ((x2 + 1)))]))) (post := []) sq_ sl_ sl_ (part_all sl_)) (len_midE (pre := []) (mid := ([.v (.int .u8 ((y94.toNat : Int)))] ++ ((List.map ew ((Arr.rep 4 (0 : UInt64))).l).flatten ++ [.v (.bool false), .v (.int .i64 ((x2 + 1)))]))) (post := []) sq_ sl_ sl_) wk_ ?_; refine RetL.tmp rfl (.refl _) ?_; exact RetL.nil) (SubM.of (.nil _) (.nil _)) ⟨rfl, rfl, rfl⟩
/-- brack.isDash -/
def brack_isDash_j1 (x18 : Bool) (r : Bool) : Prop :=
 r = x18
def brack_isDash_R (bv1 : List UInt8) (atv2 : Int) (r : Bool) : Prop :=
 ((atv2 < (bv1.length : Int) → 0 ≤ (atv2 : Int) ∧ ∃ y22 : UInt8, bv1[(atv2 : Int).toNat]? = some y22 ∧ (((y22.toNat : Int) = 45 → InR (atv2 + 1) ∧ (((bv1.length : Int) ≤ (atv2 + 1) → brack_isDash_j1 true r) ∧ (¬ ((bv1.length : Int) ≤ (atv2 + 1)) → InR (atv2 + 1) ∧ 0 ≤ ((atv2 + 1) : Int) ∧ ∃ y31 : UInt8, bv1[((atv2 + 1) : Int).toNat]? = some y31 ∧ brack_isDash_j1 (!(decide ((y31.toNat : Int) = 93))) r))) ∧ (¬ ((y22.toNat : Int) = 45) → brack_isDash_j1 false r))) ∧ (¬ (atv2 < (bv1.length : Int)) → brack_isDash_j1 false r))
def brack_isDash_j1_ev (fuel : Nat) (x18 : Bool) : Option (Bool) :=
 some x18
theorem brack_isDash_j1_ok {fuel : Nat} {x18 : Bool} {r : Bool} (h : brack_isDash_j1_ev fuel x18 = some r) : brack_isDash_j1 x18 r := by
 unfold brack_isDash_j1_ev at h
 unfold brack_isDash_j1
 exact (Option.some.inj h).symm
def brack_isDash_ev (fuel : Nat) (bv1 : List UInt8) (atv2 : Int) : Option (Bool) :=
 (if atv2 < (bv1.length : Int) then (if 0 ≤ (atv2 : Int) then ((bv1[(atv2 : Int).toNat]?).bind fun y22 => (if (y22.toNat : Int) = 45 then (if InR (atv2 + 1) then (if (bv1.length : Int) ≤ (atv2 + 1) then brack_isDash_j1_ev fuel true else (if InR (atv2 + 1) then (if 0 ≤ ((atv2 + 1) : Int) then ((bv1[((atv2 + 1) : Int).toNat]?).bind fun y31 => brack_isDash_j1_ev fuel (!(decide ((y31.toNat : Int) = 93)))) else none) else none)) else none) else brack_isDash_j1_ev fuel false)) else none) else brack_isDash_j1_ev fuel false)
theorem brack_isDash_ok {fuel : Nat} {bv1 : List UInt8} {atv2 : Int} {r : Bool} (h : brack_isDash_ev fuel bv1 atv2 = some r) : brack_isDash_R bv1 atv2 r := by
 unfold brack_isDash_ev at h
 unfold brack_isDash_R
 refine ⟨fun g220 => ?_, fun g220 => ?_⟩
 ·rw [if_pos g220] at h
  obtain ⟨g221, h⟩ := if_ok h
  refine ⟨g221, ?_⟩
  obtain ⟨q222, g222, h⟩ := bind_ok h
  refine ⟨q222, g222, ?_⟩
  refine ⟨fun g223 => ?_, fun g223 => ?_⟩
  ·rw [if_pos g223] at h
   obtain ⟨g224, h⟩ := if_ok h
   refine ⟨g224, ?_⟩
   refine ⟨fun g225 => ?_, fun g225 => ?_⟩
   ·rw [if_pos g225] at h
    exact brack_isDash_j1_ok h
   ·rw [if_neg g225] at h
    obtain ⟨g226, h⟩ := if_ok h
    refine ⟨g226, ?_⟩
    obtain ⟨g227, h⟩ := if_ok h
    refine ⟨g227, ?_⟩
    obtain ⟨q228, g228, h⟩ := bind_ok h
    refine ⟨q228, g228, ?_⟩
    exact brack_isDash_j1_ok h
  ·rw [if_neg g223] at h
   exact brack_isDash_j1_ok h
 ·rw [if_neg g220] at h
  exact brack_isDash_j1_ok h
set_option maxHeartbeats 4000000 in
theorem brack_isDash_con (bv1 : List UInt8) (atv2 : Int) (r : Bool) (h : brack_isDash_R bv1 atv2 r) : Con Try.prog 82 [.sl 1 none (List.map eb bv1), .v (.int .i64 atv2)] [] [] (Ret (.v (.bool r))) := by
 refine xenter Try.func82 rfl rfl fun g hg => ?_
 simp only [Try.ntmps82, slots]
 refine sr_ ?_
 refine as_ ?_
 refine nt_ ?_
 refine xseqM (fun σ => ∃ (x18 : Bool), brack_isDash_j1 x18 r ∧ σ = ⟨[(4, .v (.bool x18))], [], []⟩) ?_ ?_
 ·refine xregion ?_
  refine mv_ ?_
  refine mv_ ?_
  refine vp_ (pv_lenM UndC.h rfl) ?_
  refine vp_ (pv_bin2 rfl rfl rfl) ?_
  refine mv_ ?_
  by_cases hp21 : atv2 < (bv1.length : Int)
  ·replace h := h.1 hp21
   refine xsetB 9 (decide_eq_true hp21) rfl ?_
   refine mv_ ?_
   refine mv_ ?_
   obtain ⟨h23a, h⟩ := h
   obtain ⟨y22, h23b, h⟩ := h
   refine vp_ (pv_indexAddrM h23a h23b UndC.h ShpC.h rfl rfl) ?_
   refine v_ (qv_load ShpC.h rfl rfl rfl) ?_
   refine vp_ (pv_bin2 rfl rfl rfl) ?_
   refine pk_ ?_
   refine mv_ ?_
   by_cases hp25 : (y22.toNat : Int) = 45
   ·replace h := h.1 hp25
    refine xsetB 16 (decide_eq_true hp25) rfl ?_
    refine mv_ ?_
    obtain ⟨h26, h⟩ := h
    refine vp_ (pv_addI h26 rfl rfl) ?_
    refine mv_ ?_
    refine vp_ (pv_lenM UndC.h rfl) ?_
    refine vp_ (pv_bin2 rfl rfl rfl) ?_
    refine mv_ ?_
    by_cases hp29 : (bv1.length : Int) ≤ (atv2 + 1)
    ·replace h := h.1 hp29
     refine xsetB 22 (decide_eq_true hp29) rfl ?_
     refine sk_ ?_
     refine sk_ ?_
     refine sk_ ?_
     refine sk_ ?_
     refine sk_ ?_
     refine sk_ ?_
     refine pk_ ?_
     refine pk_ ?_
     refine as_ ?_
     refine xnil ?_
     exact xmeet ⟨true, h, rfl⟩ ⟨(.cons rfl (.refl _) (.nil _)), (SubM.of (.nil _) (.nil _))⟩
    ·replace h := h.2 hp29
     refine xsetB 22 (decide_eq_false hp29) rfl ?_
     refine mv_ ?_
     refine mv_ ?_
     obtain ⟨h30, h⟩ := h
     refine vp_ (pv_addI h30 rfl rfl) ?_
     obtain ⟨h32a, h⟩ := h
     obtain ⟨y31, h32b, h⟩ := h
     refine vp_ (pv_indexAddrM h32a h32b UndC.h ShpC.h rfl rfl) ?_
     refine v_ (qv_load ShpC.h rfl rfl rfl) ?_
     refine vp_ (pv_bin2 rfl rfl rfl) ?_
     refine pk_ ?_
     refine pk_ ?_
     refine as_ ?_
     refine xnil ?_
     exact xmeet ⟨(!(decide ((y31.toNat : Int) = 93))), h, rfl⟩ ⟨(.cons rfl (.refl _) (.nil _)), (SubM.of (.nil _) (.nil _))⟩
   ·replace h := h.2 hp25
    refine xsetB 16 (decide_eq_false hp25) rfl ?_
    refine sk_ ?_
    refine sk_ ?_
    refine sk_ ?_
    refine sk_ ?_
    refine sk_ ?_
    refine sk_ ?_
    refine sk_ ?_
    refine sk_ ?_
    refine sk_ ?_
    refine sk_ ?_
    refine sk_ ?_
    refine sk_ ?_
    refine sk_ ?_
    refine pk_ ?_
    refine as_ ?_
    refine xnil ?_
    exact xmeet ⟨false, h, rfl⟩ ⟨(.cons rfl (.refl _) (.nil _)), (SubM.of (.nil _) (.nil _))⟩
  ·replace h := h.2 hp21
   refine xsetB 9 (decide_eq_false hp21) rfl ?_
   refine sk_ ?_
   refine sk_ ?_
   refine sk_ ?_
   refine sk_ ?_
   refine sk_ ?_
   refine pk_ ?_
   refine mv_ ?_
   refine sk_ ?_
   refine sk_ ?_
   refine sk_ ?_
   refine sk_ ?_
   refine sk_ ?_
   refine sk_ ?_
   refine sk_ ?_
   refine sk_ ?_
   refine sk_ ?_
   refine sk_ ?_
   refine sk_ ?_
   refine sk_ ?_
   refine sk_ ?_
   refine pk_ ?_
   refine as_ ?_
   refine xnil ?_
   exact xmeet ⟨false, h, rfl⟩ ⟨(.cons rfl (.refl _) (.nil _)), (SubM.of (.nil _) (.nil _))⟩
 ·clear h
  rintro _ ⟨x18, h, rfl⟩
  refine xretc ?_
  replace h := h.symm
  subst h
  exact xret1 hg rfl rfl (.refl _) (SubM.of (.nil _) (.nil _)) ⟨rfl, rfl, rfl⟩
/-- class.Range -/
def class_Range_l1 (bv2 : UInt8) (ag1 : (Int × (Arr 4 (UInt64))) → Prop) (c51 : Int) (f52 : Arr 4 (UInt64)) (r : (Arr 4 (UInt64))) : Prop :=
 ((c51 ≤ (bv2.toNat : Int) → ∃ c71 : UInt8, (c71.toNat : Int) = IntKind.u8.wrap c51 ∧ ∃ y73 : (Arr 4 (UInt64)), class_with_R f52 c71 y73 ∧ InR (c51 + 1) ∧ ag1 ((c51 + 1), y73)) ∧ (¬ (c51 ≤ (bv2.toNat : Int)) → r = f52))
def class_Range_R (a1 : UInt8) (bv2 : UInt8) (r : (Arr 4 (UInt64))) : Prop :=
 LoopR (fun ag1 s => class_Range_l1 bv2 ag1 s.1 s.2 r) ((a1.toNat : Int), (Arr.rep 4 (0 : UInt64)))
def class_Range_l1_ev (fuel : Nat) (bv2 : UInt8) (ag1e : (Int × (Arr 4 (UInt64))) → Option ((Arr 4 (UInt64)))) (c51 : Int) (f52 : Arr 4 (UInt64)) : Option ((Arr 4 (UInt64))) :=
 (if c51 ≤ (bv2.toNat : Int) then (exB (IntKind.u8.wrap c51) fun c71 => ((class_with_ev fuel f52 c71).bind fun y73 => (if InR (c51 + 1) then ag1e ((c51 + 1), y73) else none))) else some f52)
theorem class_Range_l1_ok {fuel : Nat} {bv2 : UInt8} {ag1e : (Int × (Arr 4 (UInt64))) → Option ((Arr 4 (UInt64)))} {ag1 : (Int × (Arr 4 (UInt64))) → Prop} {c51 : Int} {f52 : Arr 4 (UInt64)} {r : (Arr 4 (UInt64))} (hagag1 : ∀ s, ag1e s = some r → ag1 s) (h : class_Range_l1_ev fuel bv2 ag1e c51 f52 = some r) : class_Range_l1 bv2 ag1 c51 f52 r := by
 unfold class_Range_l1_ev at h
 unfold class_Range_l1
 refine ⟨fun g229 => ?_, fun g229 => ?_⟩
 ·rw [if_pos g229] at h
  obtain ⟨q230, g230, h⟩ := exB_ok h
  refine ⟨q230, g230, ?_⟩
  obtain ⟨q231, g231, h⟩ := bind_ok h
  refine ⟨q231, class_with_ok g231, ?_⟩
  obtain ⟨g232, h⟩ := if_ok h
  refine ⟨g232, ?_⟩
  exact hagag1 _ h
 ·rw [if_neg g229] at h
  exact (Option.some.inj h).symm
def class_Range_ev (fuel : Nat) (a1 : UInt8) (bv2 : UInt8) : Option ((Arr 4 (UInt64))) :=
 (loopE (fun ag1e s => class_Range_l1_ev fuel bv2 ag1e s.1 s.2) fuel ((a1.toNat : Int), (Arr.rep 4 (0 : UInt64))))
theorem class_Range_ok {fuel : Nat} {a1 : UInt8} {bv2 : UInt8} {r : (Arr 4 (UInt64))} (h : class_Range_ev fuel a1 bv2 = some r) : class_Range_R a1 bv2 r := by
 unfold class_Range_ev at h
 unfold class_Range_R
 refine loopE_ok ?_ h
 intro ae ag s hag h
 exact class_Range_l1_ok hag h
set_option maxHeartbeats 4000000 in
theorem class_Range_con (a1 : UInt8) (bv2 : UInt8) (r : (Arr 4 (UInt64))) (h : class_Range_R a1 bv2 r) : Con Try.prog 83 [.v (.int .u8 ((a1.toNat : Int))), .v (.int .u8 ((bv2.toNat : Int)))] [] [] (Ret (.agg ((List.map ew r.l).flatten))) := by
 refine xenter Try.func83 rfl rfl fun g hg => ?_
 simp only [Try.ntmps83, slots]
 refine sr_ ?_
 refine xalloc InfC.h rfl rfl fun b4 => ?_
 refine xreb 0 ((List.map ew ((Arr.rep 4 (0 : UInt64))).l).flatten) rfl rfl ?_
 refine nt_ ?_
 refine sr_ ?_
 refine xalloc InfC.h rfl rfl fun b5 => ?_
 refine xreb 0 ((List.map ew ((Arr.rep 4 (0 : UInt64))).l).flatten) rfl rfl ?_
 refine nt_ ?_
 refine xseq ?_
 refine sr_ ?_
 refine mv_ ?_
 refine vp_ (pv_convW (w8 a1) UndC.h UndC.h rfl) ?_
 refine as_ ?_
 refine nt_ ?_
 refine xblock ?_
 obtain ⟨Inv, ⟨m0, hI⟩, hS⟩ := h
 refine xloop (fun σ m => ∃ (c51 : Int), ∃ (f52 : Arr 4 (UInt64)), Inv (c51, f52) m ∧ σ = ⟨[(1, .v (.int .u8 ((bv2.toNat : Int)))), (4, .v (.pointer (some ⟨b4, 0, none⟩))), (5, .v (.pointer (some ⟨b5, 0, none⟩))), (6, .v (.int .i64 c51))], [⟨b5, 40, ((List.map ew f52.l).flatten)⟩, ⟨b4, 40, ((List.map ew ((Arr.rep 4 (0 : UInt64))).l).flatten)⟩], []⟩) ⟨(a1.toNat : Int), (Arr.rep 4 (0 : UInt64)), hI, rfl⟩ (by exact ⟨lk_, (SubM.of (.keep rfl rfl (.refl _) (.keep rfl rfl (.refl _) (.nil _))) (.nil _))⟩) ?_
 rintro _ m ⟨c51, f52, hI, rfl⟩
 obtain ⟨ag1, hag1, h⟩ : ∃ ag, (∀ s', ag s' → ∃ m', m' < m ∧ Inv s' m') ∧ class_Range_l1 bv2 ag c51 f52 r := ⟨_, fun _ h => h, hS (c51, f52) _ hI⟩
 clear hS hI
 refine xseq ?_
 refine sr_ ?_
 refine mv_ ?_
 refine mv_ ?_
 refine vp_ (pv_convW (w8 bv2) UndC.h UndC.h rfl) ?_
 refine vp_ (pv_bin2 rfl rfl rfl) ?_
 refine nt_ ?_
 by_cases hp69 : c51 ≤ (bv2.toNat : Int)
 ·replace h := h.1 hp69
  refine xcondT' (decide_eq_true hp69) rfl ?_
  refine xskipc ?_
  refine xthen ?_
  refine xseq ?_
  refine xblock ?_
  refine xregion ?_
  refine v_ (qv_loadP 0 [] ((List.map ew f52.l).flatten) [] sq_ sl_ sl_ (part_all (seg_lenE (by rfl))) ShpC.h rfl rfl) ?_
  refine mv_ ?_
  obtain ⟨c71, h70, h⟩ := h
  refine vp_ (pv_convW h70 UndC.h UndC.h rfl) ?_
  obtain ⟨y73, h72, h⟩ := h
  refine xcall0 (class_with_con f52 c71 _ h72) Try.func61 (by kernel_rfl) rfl (.cons rfl (.refl _) (.cons rfl (.refl _) .nil)) rfl rfl ?_
  refine xstoreQ 0 [] ((List.map ew f52.l).flatten) [] ((List.map ew y73.l).flatten) ShpC.h rfl rfl rfl rfl rfl ?_
  refine xnil ?_
  refine xin_normal ?_
  refine xthen ?_
  refine xregion ?_
  refine mv_ ?_
  obtain ⟨h74, h⟩ := h
  refine vp_ (pv_addI h74 rfl rfl) ?_
  refine as_ ?_
  refine xnil ?_
  obtain ⟨m', hm, hI⟩ := hag1 _ h
  exact xagain ⟨(c51 + 1), y73, hI, rfl⟩ hm ⟨lk_, (SubM.of (.keep rfl rfl (.refl _) (.keep rfl rfl (.refl _) (.nil _))) (.nil _))⟩
 ·replace h := h.2 hp69
  refine xcondF' (decide_eq_false hp69) rfl ?_
  refine xexit ?_
  refine xthen_exit ?_
  refine xthen_exit ?_
  refine xin_same rfl ?_
  refine xthen ?_
  refine sr_ ?_
  refine v_ (qv_loadP 0 [] ((List.map ew f52.l).flatten) [] sq_ sl_ sl_ (part_all (seg_lenE (by rfl))) ShpC.h rfl rfl) ?_
  refine xstoreQ 1 [] ((List.map ew ((Arr.rep 4 (0 : UInt64))).l).flatten) [] ((List.map ew f52.l).flatten) ShpC.h rfl rfl rfl rfl rfl ?_
  refine nt_ ?_
  refine xretc ?_
  replace h := h.symm
  subst h
  exact xretL (rs := [.cell 4 40]) (ss := [.agg ((List.map ew f52.l).flatten)]) hg rfl (by refine RetL.cell 1 ShpC.h rfl rfl (part_midE (pre := []) (mid := ((List.map ew f52.l).flatten)) (post := []) sq_ sl_ sl_ (part_all (seg_lenE (by rfl)))) (len_midE (pre := []) (mid := ((List.map ew f52.l).flatten)) (post := []) sq_ sl_ sl_) wk_ ?_; exact RetL.nil) (SubM.of (.nil _) (.nil _)) ⟨rfl, rfl, rfl⟩
/-- brack.part -/
def brack_part_j1 (y4 : (UInt8 × (Arr 4 (UInt64)) × Bool × Int) × Int) (y31 : (UInt8 × (Arr 4 (UInt64)) × Bool × Int) × Int) (x44 : Bool) (r : (Arr 4 (UInt64)) × Int × Int) : Prop :=
 ((x44 = true → r = ((Arr.rep 4 (0 : UInt64)), 0, 3)) ∧ (¬ (x44 = true) → ∃ y51 : (Arr 4 (UInt64)), class_Range_R y4.1.1 y31.1.1 y51 ∧ r = (y51, y31.1.2.2.2, 0)))
def brack_part_R (x1 : List UInt8) (x2 : Int) (r : (Arr 4 (UInt64)) × Int × Int) : Prop :=
 ∃ y4 : (UInt8 × (Arr 4 (UInt64)) × Bool × Int) × Int, brack_read_R x1 x2 y4 ∧ ((¬ (y4.2 = 0) → r = ((Arr.rep 4 (0 : UInt64)), 0, y4.2)) ∧ (¬ (¬ (y4.2 = 0)) → ∃ y19 : Bool, brack_isDash_R x1 y4.1.2.2.2 y19 ∧ ((¬ (y19 = true) → ((y4.1.2.2.1 = true → r = (y4.1.2.1, y4.1.2.2.2, 0)) ∧ (¬ (y4.1.2.2.1 = true) → ∃ y26 : (Arr 4 (UInt64)), class_Of_R ([y4.1.1]) y26 ∧ r = (y26, y4.1.2.2.2, 0)))) ∧ (¬ (¬ (y19 = true)) → ((y4.1.2.2.1 = true → r = ((Arr.rep 4 (0 : UInt64)), 0, 3)) ∧ (¬ (y4.1.2.2.1 = true) → InR (y4.1.2.2.2 + 1) ∧ ∃ y31 : (UInt8 × (Arr 4 (UInt64)) × Bool × Int) × Int, brack_read_R x1 (y4.1.2.2.2 + 1) y31 ∧ ((¬ (y31.2 = 0) → r = ((Arr.rep 4 (0 : UInt64)), 0, y31.2)) ∧ (¬ (¬ (y31.2 = 0)) → brack_part_j1 y4 y31 (y31.1.2.2.1 || (decide ((y31.1.1.toNat : Int) < (y4.1.1.toNat : Int)))) r))))))))
def brack_part_j1_ev (fuel : Nat) (y4 : (UInt8 × (Arr 4 (UInt64)) × Bool × Int) × Int) (y31 : (UInt8 × (Arr 4 (UInt64)) × Bool × Int) × Int) (x44 : Bool) : Option ((Arr 4 (UInt64)) × Int × Int) :=
 (if x44 = true then some ((Arr.rep 4 (0 : UInt64)), 0, 3) else ((class_Range_ev fuel y4.1.1 y31.1.1).bind fun y51 => some (y51, y31.1.2.2.2, 0)))
theorem brack_part_j1_ok {fuel : Nat} {y4 : (UInt8 × (Arr 4 (UInt64)) × Bool × Int) × Int} {y31 : (UInt8 × (Arr 4 (UInt64)) × Bool × Int) × Int} {x44 : Bool} {r : (Arr 4 (UInt64)) × Int × Int} (h : brack_part_j1_ev fuel y4 y31 x44 = some r) : brack_part_j1 y4 y31 x44 r := by
 unfold brack_part_j1_ev at h
 unfold brack_part_j1
 refine ⟨fun g233 => ?_, fun g233 => ?_⟩
 ·rw [if_pos g233] at h
  exact (Option.some.inj h).symm
 ·rw [if_neg g233] at h
  obtain ⟨q234, g234, h⟩ := bind_ok h
  refine ⟨q234, class_Range_ok g234, ?_⟩
  exact (Option.some.inj h).symm
def brack_part_ev (fuel : Nat) (x1 : List UInt8) (x2 : Int) : Option ((Arr 4 (UInt64)) × Int × Int) :=
 ((brack_read_ev fuel x1 x2).bind fun y4 => (if ¬ (y4.2 = 0) then some ((Arr.rep 4 (0 : UInt64)), 0, y4.2) else ((brack_isDash_ev fuel x1 y4.1.2.2.2).bind fun y19 => (if ¬ (y19 = true) then (if y4.1.2.2.1 = true then some (y4.1.2.1, y4.1.2.2.2, 0) else ((class_Of_ev fuel ([y4.1.1])).bind fun y26 => some (y26, y4.1.2.2.2, 0))) else (if y4.1.2.2.1 = true then some ((Arr.rep 4 (0 : UInt64)), 0, 3) else (if InR (y4.1.2.2.2 + 1) then ((brack_read_ev fuel x1 (y4.1.2.2.2 + 1)).bind fun y31 => (if ¬ (y31.2 = 0) then some ((Arr.rep 4 (0 : UInt64)), 0, y31.2) else brack_part_j1_ev fuel y4 y31 (y31.1.2.2.1 || (decide ((y31.1.1.toNat : Int) < (y4.1.1.toNat : Int)))))) else none))))))
theorem brack_part_ok {fuel : Nat} {x1 : List UInt8} {x2 : Int} {r : (Arr 4 (UInt64)) × Int × Int} (h : brack_part_ev fuel x1 x2 = some r) : brack_part_R x1 x2 r := by
 unfold brack_part_ev at h
 unfold brack_part_R
 obtain ⟨q235, g235, h⟩ := bind_ok h
 refine ⟨q235, brack_read_ok g235, ?_⟩
 refine ⟨fun g236 => ?_, fun g236 => ?_⟩
 ·rw [if_pos g236] at h
  exact (Option.some.inj h).symm
 ·rw [if_neg g236] at h
  obtain ⟨q237, g237, h⟩ := bind_ok h
  refine ⟨q237, brack_isDash_ok g237, ?_⟩
  refine ⟨fun g238 => ?_, fun g238 => ?_⟩
  ·rw [if_pos g238] at h
   refine ⟨fun g239 => ?_, fun g239 => ?_⟩
   ·rw [if_pos g239] at h
    exact (Option.some.inj h).symm
   ·rw [if_neg g239] at h
    obtain ⟨q240, g240, h⟩ := bind_ok h
    refine ⟨q240, class_Of_ok g240, ?_⟩
    exact (Option.some.inj h).symm
  ·rw [if_neg g238] at h
   refine ⟨fun g241 => ?_, fun g241 => ?_⟩
   ·rw [if_pos g241] at h
    exact (Option.some.inj h).symm
   ·rw [if_neg g241] at h
    obtain ⟨g242, h⟩ := if_ok h
    refine ⟨g242, ?_⟩
    obtain ⟨q243, g243, h⟩ := bind_ok h
    refine ⟨q243, brack_read_ok g243, ?_⟩
    refine ⟨fun g244 => ?_, fun g244 => ?_⟩
    ·rw [if_pos g244] at h
     exact (Option.some.inj h).symm
    ·rw [if_neg g244] at h
     exact brack_part_j1_ok h
set_option maxHeartbeats 4000000 in
theorem brack_part_con (x1 : List UInt8) (x2 : Int) (r : (Arr 4 (UInt64)) × Int × Int) (h : brack_part_R x1 x2 r) : Con Try.prog 65 [.sl 1 none (List.map eb x1), .v (.int .i64 x2)] [] [] (fun rr bx tk => rr = .tup [.agg ((List.map ew r.1.l).flatten), .v (.int .i64 r.2.1), .v (.int .i64 r.2.2)] ∧ bx = [] ∧ tk = []) := by
 refine xenter Try.func65 rfl rfl fun g hg => ?_
 simp only [Try.ntmps65, slots]
 refine sr_ ?_
 refine xalloc InfC.h rfl rfl fun b4 => ?_
 refine xreb 0 ((List.map ew ((Arr.rep 4 (0 : UInt64))).l).flatten) rfl rfl ?_
 refine as_ ?_
 refine as_ ?_
 refine nt_ ?_
 refine sr_ ?_
 refine mv_ ?_
 refine mv_ ?_
 obtain ⟨y4, h3, h⟩ := h
 refine xcallF (Fb := [⟨b4, 40, ((List.map ew ((Arr.rep 4 (0 : UInt64))).l).flatten)⟩]) (Ft := []) (brack_read_con x1 x2 _ h3) Try.func81 (by kernel_rfl) rfl (.cons rfl (.refl _) (.cons rfl (.refl _) .nil)) (by exact sm_) rfl rfl ?_
 rintro _ _ _ ⟨rfl, rfl, rfl⟩
 simp only [List.nil_append, List.cons_append]
 refine mv_ ?_
 refine vp_ (pv_extract rfl rfl) ?_
 refine vp_ (pv_extract rfl rfl) ?_
 refine xalloc InfC.h rfl rfl fun b7 => ?_
 refine xreb 0 ([.v (.int .u8 0)] ++ ((List.map ew ((Arr.rep 4 (0 : UInt64))).l).flatten ++ [.v (.bool false), .v (.int .i64 0)])) rfl rfl ?_
 refine xstoreQ 0 [] ([.v (.int .u8 0)] ++ ((List.map ew ((Arr.rep 4 (0 : UInt64))).l).flatten ++ [.v (.bool false), .v (.int .i64 0)])) [] ([.v (.int .u8 ((y4.1.1.toNat : Int)))] ++ ((List.map ew y4.1.2.1.l).flatten ++ [.v (.bool y4.1.2.2.1), .v (.int .i64 y4.1.2.2.2)])) ShpC.h rfl rfl rfl rfl rfl ?_
 refine as_ ?_
 refine nt_ ?_
 refine xseq ?_
 refine sr_ ?_
 refine mv_ ?_
 refine vp_ (pv_bin2 rfl rfl rfl) ?_
 refine nt_ ?_
 by_cases hp8 : ¬ (y4.2 = 0)
 ·replace h := h.1 hp8
  refine xcondT' (not_t (decide_eq_false hp8)) rfl ?_
  refine sr_ ?_
  refine vp_ (pv_buildAC (cs := ((List.map ew ((Arr.rep 4 (0 : UInt64))).l).flatten)) UndC.h ShpC.h InfC.h rfl (by rfl)) ?_
  refine mv_ ?_
  refine xstoreQ 1 [] ((List.map ew ((Arr.rep 4 (0 : UInt64))).l).flatten) [] ((List.map ew ((Arr.rep 4 (0 : UInt64))).l).flatten) ShpC.h rfl rfl rfl rfl rfl ?_
  refine as_ ?_
  refine as_ ?_
  refine nt_ ?_
  refine xretc ?_
  refine xthen_ret ?_
  replace h := h.symm
  subst h
  exact xretL (rs := [.cell 4 40, .tmp 5, .tmp 6]) (ss := [.agg ((List.map ew ((Arr.rep 4 (0 : UInt64))).l).flatten), .v (.int .i64 0), .v (.int .i64 y4.2)]) hg rfl (by refine RetL.cell 1 ShpC.h rfl rfl (part_midE (pre := []) (mid := ((List.map ew ((Arr.rep 4 (0 : UInt64))).l).flatten)) (post := []) sq_ sl_ sl_ (part_all (seg_lenE (by rfl)))) (len_midE (pre := []) (mid := ((List.map ew ((Arr.rep 4 (0 : UInt64))).l).flatten)) (post := []) sq_ sl_ sl_) wk_ ?_; refine RetL.tmp rfl (.refl _) ?_; refine RetL.tmp rfl (.refl _) ?_; exact RetL.nil) (SubM.of (.nil _) (.nil _)) ⟨rfl, rfl, rfl⟩
 ·replace h := h.2 hp8
  refine xcondF' (not_f (decide_eq_true (Decidable.of_not_not hp8))) rfl ?_
  refine xskipc ?_
  refine xthen ?_
  refine xseq ?_
  refine sr_ ?_
  refine mv_ ?_
  refine vp_ (qv_fieldAddrB FldC.h rfl) ?_
  refine v_ (qv_loadP 0 ([.v (.int .u8 ((y4.1.1.toNat : Int)))] ++ ((List.map ew y4.1.2.1.l).flatten ++ [.v (.bool y4.1.2.2.1)])) [.v (.int .i64 y4.1.2.2.2)] [] sq_ sl_ sl_ rfl ShpC.h rfl rfl) ?_
  obtain ⟨y19, h18, h⟩ := h
  refine xcall0 (brack_isDash_con x1 y4.1.2.2.2 _ h18) Try.func82 (by kernel_rfl) rfl (.cons rfl (.refl _) (.cons rfl (.refl _) .nil)) rfl rfl ?_
  refine vp_ (pv_not rfl) ?_
  refine nt_ ?_
  by_cases hp20 : ¬ (y19 = true)
  ·replace h := h.1 hp20
   refine xcondT' (not_t (b_f hp20)) rfl ?_
   refine xseq ?_
   refine sr_ ?_
   refine vp_ (qv_fieldAddrB FldC.h rfl) ?_
   refine v_ (qv_loadP 0 ([.v (.int .u8 ((y4.1.1.toNat : Int)))] ++ (List.map ew y4.1.2.1.l).flatten) [.v (.bool y4.1.2.2.1)] [.v (.int .i64 y4.1.2.2.2)] sq_ sl_ sl_ rfl ShpC.h rfl rfl) ?_
   refine nt_ ?_
   by_cases hp22 : y4.1.2.2.1 = true
   ·replace h := h.1 hp22
    refine xcondT' hp22 rfl ?_
    refine xseq ?_
    refine xregionD (m := 7) (by kernel_rfl) rfl ?_
    refine pl_ 0 rfl (qv_fieldAddrB FldC.h rfl) ?_
    refine pl_ 2 rfl (qv_fieldAddrB FldC.h rfl) ?_
    refine xpvalE 1 [3] rfl (qv_loadP 0 [.v (.int .u8 ((y4.1.1.toNat : Int)))] ((List.map ew y4.1.2.1.l).flatten) [.v (.bool y4.1.2.2.1), .v (.int .i64 y4.1.2.2.2)] sq_ sl_ sl_ (part_all (seg_lenE (by rfl))) ShpC.h rfl rfl) rfl rfl (by kernel_rfl) (by kernel_rfl) (by kernel_rfl) (fun _ _ _ _ h => h) ?_
    refine xfl0 [⟨3, 30, .v (.int .i64 y4.1.2.2.2)⟩] 3 ?_
    refine xflstep 4 (by kernel_rfl) rfl (.cons rfl rfl rfl (fun _ => rfl) (fun _ => qv_loadP 0 ([.v (.int .u8 ((y4.1.1.toNat : Int)))] ++ ((List.map ew y4.1.2.1.l).flatten ++ [.v (.bool y4.1.2.2.1)])) [.v (.int .i64 y4.1.2.2.2)] [] sq_ sl_ sl_ rfl ShpC.h rfl rfl) .nil) fun D l td hR => ?_
    refine wstoreQ 1 [] ((List.map ew ((Arr.rep 4 (0 : UInt64))).l).flatten) [] ((List.map ew y4.1.2.1.l).flatten) ShpC.h rfl rfl rfl rfl rfl ?_
    refine xflgo0 hR ?_
    refine xflend (l' := #[true, true, true, true, true, false, false]) (by kernel_rfl) (.cons rfl rfl rfl (fun _ => rfl) (fun _ => qv_loadP 0 ([.v (.int .u8 ((y4.1.1.toNat : Int)))] ++ ((List.map ew y4.1.2.1.l).flatten ++ [.v (.bool y4.1.2.2.1)])) [.v (.int .i64 y4.1.2.2.2)] [] sq_ sl_ sl_ rfl ShpC.h rfl rfl) .nil) (by kernel_rfl) rfl (by kernel_rfl) (by kernel_rfl) ?_
    simp only [List.nil_append, List.cons_append, List.map_cons, List.map_nil]
    refine pl_ 5 rfl (pv_assign rfl) ?_
    refine pl_ 6 rfl (pv_assign rfl) ?_
    refine xpdone (by kernel_rfl) ?_
    refine xthen ?_
    refine xretc ?_
    refine xthen_ret ?_
    refine xthen_ret ?_
    replace h := h.symm
    subst h
    exact xretL (rs := [.cell 4 40, .tmp 5, .tmp 6]) (ss := [.agg ((List.map ew y4.1.2.1.l).flatten), .v (.int .i64 y4.1.2.2.2), .v (.int .i64 0)]) hg rfl (by refine RetL.cell 1 ShpC.h rfl rfl (part_midE (pre := []) (mid := ((List.map ew y4.1.2.1.l).flatten)) (post := []) sq_ sl_ sl_ (part_all (seg_lenE (by rfl)))) (len_midE (pre := []) (mid := ((List.map ew y4.1.2.1.l).flatten)) (post := []) sq_ sl_ sl_) wk_ ?_; refine RetL.tmp rfl (.refl _) ?_; refine RetL.tmp rfl (.refl _) ?_; exact RetL.nil) (SubM.of (.nil _) (.nil _)) ⟨rfl, rfl, rfl⟩
   ·replace h := h.2 hp22
    refine xcondF' (b_f hp22) rfl ?_
    refine xskipc ?_
    refine xthen ?_
    refine xseq ?_
    refine xregionD (m := 9) (by kernel_rfl) rfl ?_
    obtain ⟨y26, h25, h⟩ := h
    refine pl_ 0 rfl (qv_fieldAddrB FldC.h rfl) ?_
    refine pl_ 4 rfl (qv_fieldAddrB FldC.h rfl) ?_
    refine xpvalE 1 [5] rfl (qv_loadB 0 ShpC.h rfl rfl rfl rfl) rfl rfl (by kernel_rfl) (by kernel_rfl) (by kernel_rfl) (fun _ _ _ _ h => h) ?_
    refine xfl0 [⟨5, 36, .v (.int .i64 y4.1.2.2.2)⟩] 5 ?_
    refine xflstep 2 (by kernel_rfl) rfl (.cons rfl rfl rfl (fun _ => rfl) (fun _ => qv_loadP 0 ([.v (.int .u8 ((y4.1.1.toNat : Int)))] ++ ((List.map ew y4.1.2.1.l).flatten ++ [.v (.bool y4.1.2.2.1)])) [.v (.int .i64 y4.1.2.2.2)] [] sq_ sl_ sl_ rfl ShpC.h rfl rfl) .nil) fun D l td hR => ?_
    refine wbuildSliceM (f := eb) [y4.1.1] UndC.h InfC.h rfl rfl wr_ rfl rfl rfl rfl fun s33 => ?_
    refine xflgo1 hR ?_
    refine xflstep 3 (by kernel_rfl) rfl (.cons rfl rfl rfl (fun _ => rfl) (fun _ => qv_loadP 0 ([.v (.int .u8 ((y4.1.1.toNat : Int)))] ++ ((List.map ew y4.1.2.1.l).flatten ++ [.v (.bool y4.1.2.2.1)])) [.v (.int .i64 y4.1.2.2.2)] [] sq_ sl_ sl_ rfl ShpC.h rfl rfl) .nil) fun D l td hR => ?_
    refine wcall0 (class_Of_con ([y4.1.1]) _ h25) Try.func46 (by kernel_rfl) rfl (.cons rfl (.tok _ _ _) .nil) rfl rfl ?_
    refine xflgo1 hR ?_
    refine xflstep 6 (by kernel_rfl) rfl (.cons rfl rfl rfl (fun _ => rfl) (fun _ => qv_loadP 0 ([.v (.int .u8 ((y4.1.1.toNat : Int)))] ++ ((List.map ew y4.1.2.1.l).flatten ++ [.v (.bool y4.1.2.2.1)])) [.v (.int .i64 y4.1.2.2.2)] [] sq_ sl_ sl_ rfl ShpC.h rfl rfl) .nil) fun D l td hR => ?_
    refine wstoreQ 1 [] ((List.map ew ((Arr.rep 4 (0 : UInt64))).l).flatten) [] ((List.map ew y26.l).flatten) ShpC.h rfl rfl rfl rfl rfl ?_
    refine xflgo0 hR ?_
    refine xflend (l' := #[true, true, true, true, true, true, true, false, false]) (by kernel_rfl) (.cons rfl rfl rfl (fun _ => rfl) (fun _ => qv_loadP 0 ([.v (.int .u8 ((y4.1.1.toNat : Int)))] ++ ((List.map ew y4.1.2.1.l).flatten ++ [.v (.bool y4.1.2.2.1)])) [.v (.int .i64 y4.1.2.2.2)] [] sq_ sl_ sl_ rfl ShpC.h rfl rfl) .nil) (by kernel_rfl) rfl (by kernel_rfl) (by kernel_rfl) ?_
    simp only [List.nil_append, List.cons_append, List.map_cons, List.map_nil]
    refine pl_ 7 rfl (pv_assign rfl) ?_
    refine pl_ 8 rfl (pv_assign rfl) ?_
    refine xpdone (by kernel_rfl) ?_
    refine xthen ?_
    refine xretc ?_
    refine xthen_ret ?_
    replace h := h.symm
    subst h
    exact xretL (rs := [.cell 4 40, .tmp 5, .tmp 6]) (ss := [.agg ((List.map ew y26.l).flatten), .v (.int .i64 y4.1.2.2.2), .v (.int .i64 0)]) hg rfl (by refine RetL.cell 1 ShpC.h rfl rfl (part_midE (pre := []) (mid := ((List.map ew y26.l).flatten)) (post := []) sq_ sl_ sl_ (part_all (seg_lenE (by rfl)))) (len_midE (pre := []) (mid := ((List.map ew y26.l).flatten)) (post := []) sq_ sl_ sl_) wk_ ?_; refine RetL.tmp rfl (.refl _) ?_; refine RetL.tmp rfl (.refl _) ?_; exact RetL.nil) (SubM.of (.nil _) (.nil _)) ⟨rfl, rfl, rfl⟩
  ·replace h := h.2 hp20
   refine xcondF' (not_f (Decidable.of_not_not hp20)) rfl ?_
   refine xskipc ?_
   refine xthen ?_
   refine xseq ?_
   refine sr_ ?_
   refine vp_ (qv_fieldAddrB FldC.h rfl) ?_
   refine v_ (qv_loadP 0 ([.v (.int .u8 ((y4.1.1.toNat : Int)))] ++ (List.map ew y4.1.2.1.l).flatten) [.v (.bool y4.1.2.2.1)] [.v (.int .i64 y4.1.2.2.2)] sq_ sl_ sl_ rfl ShpC.h rfl rfl) ?_
   refine nt_ ?_
   by_cases hp28 : y4.1.2.2.1 = true
   ·replace h := h.1 hp28
    refine xcondT' hp28 rfl ?_
    refine sr_ ?_
    refine vp_ (pv_buildAC (cs := ((List.map ew ((Arr.rep 4 (0 : UInt64))).l).flatten)) UndC.h ShpC.h InfC.h rfl (by rfl)) ?_
    refine xstoreQ 1 [] ((List.map ew ((Arr.rep 4 (0 : UInt64))).l).flatten) [] ((List.map ew ((Arr.rep 4 (0 : UInt64))).l).flatten) ShpC.h rfl rfl rfl rfl rfl ?_
    refine as_ ?_
    refine as_ ?_
    refine nt_ ?_
    refine xretc ?_
    refine xthen_ret ?_
    replace h := h.symm
    subst h
    exact xretL (rs := [.cell 4 40, .tmp 5, .tmp 6]) (ss := [.agg ((List.map ew ((Arr.rep 4 (0 : UInt64))).l).flatten), .v (.int .i64 0), .v (.int .i64 3)]) hg rfl (by refine RetL.cell 1 ShpC.h rfl rfl (part_midE (pre := []) (mid := ((List.map ew ((Arr.rep 4 (0 : UInt64))).l).flatten)) (post := []) sq_ sl_ sl_ (part_all (seg_lenE (by rfl)))) (len_midE (pre := []) (mid := ((List.map ew ((Arr.rep 4 (0 : UInt64))).l).flatten)) (post := []) sq_ sl_ sl_) wk_ ?_; refine RetL.tmp rfl (.refl _) ?_; refine RetL.tmp rfl (.refl _) ?_; exact RetL.nil) (SubM.of (.nil _) (.nil _)) ⟨rfl, rfl, rfl⟩
   ·replace h := h.2 hp28
    refine xcondF' (b_f hp28) rfl ?_
    refine xskipc ?_
    refine xthen ?_
    refine sr_ ?_
    refine mv_ ?_
    refine vp_ (qv_fieldAddrB FldC.h rfl) ?_
    refine v_ (qv_loadP 0 ([.v (.int .u8 ((y4.1.1.toNat : Int)))] ++ ((List.map ew y4.1.2.1.l).flatten ++ [.v (.bool y4.1.2.2.1)])) [.v (.int .i64 y4.1.2.2.2)] [] sq_ sl_ sl_ rfl ShpC.h rfl rfl) ?_
    obtain ⟨h29, h⟩ := h
    refine vp_ (pv_addI h29 rfl rfl) ?_
    obtain ⟨y31, h30, h⟩ := h
    refine xcallF (Fb := [⟨b7, 118, ([.v (.int .u8 ((y4.1.1.toNat : Int)))] ++ ((List.map ew y4.1.2.1.l).flatten ++ [.v (.bool y4.1.2.2.1), .v (.int .i64 y4.1.2.2.2)]))⟩, ⟨b4, 40, ((List.map ew ((Arr.rep 4 (0 : UInt64))).l).flatten)⟩]) (Ft := []) (brack_read_con x1 (y4.1.2.2.2 + 1) _ h30) Try.func81 (by kernel_rfl) rfl (.cons rfl (.refl _) (.cons rfl (.refl _) .nil)) (by exact sm_) rfl rfl ?_
    rintro _ _ _ ⟨rfl, rfl, rfl⟩
    simp only [List.nil_append, List.cons_append]
    refine mv_ ?_
    refine vp_ (pv_extract rfl rfl) ?_
    refine vp_ (pv_extract rfl rfl) ?_
    refine xalloc InfC.h rfl rfl fun b9 => ?_
    refine xreb 0 ([.v (.int .u8 0)] ++ ((List.map ew ((Arr.rep 4 (0 : UInt64))).l).flatten ++ [.v (.bool false), .v (.int .i64 0)])) rfl rfl ?_
    refine xstoreQ 0 [] ([.v (.int .u8 0)] ++ ((List.map ew ((Arr.rep 4 (0 : UInt64))).l).flatten ++ [.v (.bool false), .v (.int .i64 0)])) [] ([.v (.int .u8 ((y31.1.1.toNat : Int)))] ++ ((List.map ew y31.1.2.1.l).flatten ++ [.v (.bool y31.1.2.2.1), .v (.int .i64 y31.1.2.2.2)])) ShpC.h rfl rfl rfl rfl rfl ?_
    refine as_ ?_
    refine nt_ ?_
    refine xseq ?_
    refine xblock ?_
    refine sr_ ?_
    refine mv_ ?_
    refine vp_ (pv_bin2 rfl rfl rfl) ?_
    refine as_ ?_
    refine nt_ ?_
    by_cases hp41 : ¬ (y31.2 = 0)
    ·replace h := h.1 hp41
     refine xcondT' (not_t (decide_eq_false hp41)) rfl ?_
     refine sr_ ?_
     refine vp_ (pv_buildAC (cs := ((List.map ew ((Arr.rep 4 (0 : UInt64))).l).flatten)) UndC.h ShpC.h InfC.h rfl (by rfl)) ?_
     refine mv_ ?_
     refine xstoreQ 2 [] ((List.map ew ((Arr.rep 4 (0 : UInt64))).l).flatten) [] ((List.map ew ((Arr.rep 4 (0 : UInt64))).l).flatten) ShpC.h rfl rfl rfl rfl rfl ?_
     refine as_ ?_
     refine as_ ?_
     refine nt_ ?_
     refine xretc ?_
     refine xin_ret ?_
     refine xthen_ret ?_
     replace h := h.symm
     subst h
     exact xretL (rs := [.cell 4 40, .tmp 5, .tmp 6]) (ss := [.agg ((List.map ew ((Arr.rep 4 (0 : UInt64))).l).flatten), .v (.int .i64 0), .v (.int .i64 y31.2)]) hg rfl (by refine RetL.cell 2 ShpC.h rfl rfl (part_midE (pre := []) (mid := ((List.map ew ((Arr.rep 4 (0 : UInt64))).l).flatten)) (post := []) sq_ sl_ sl_ (part_all (seg_lenE (by rfl)))) (len_midE (pre := []) (mid := ((List.map ew ((Arr.rep 4 (0 : UInt64))).l).flatten)) (post := []) sq_ sl_ sl_) wk_ ?_; refine RetL.tmp rfl (.refl _) ?_; refine RetL.tmp rfl (.refl _) ?_; exact RetL.nil) (SubM.of (.nil _) (.nil _)) ⟨rfl, rfl, rfl⟩
    ·replace h := h.2 hp41
     refine xcondF' (not_f (decide_eq_true (Decidable.of_not_not hp41))) rfl ?_
     refine xseqM (fun σ => ∃ (x44 : Bool), brack_part_j1 y4 y31 x44 r ∧ σ = ⟨[(4, .v (.pointer (some ⟨b4, 0, none⟩))), (7, .v (.pointer (some ⟨b7, 0, none⟩))), (9, .v (.pointer (some ⟨b9, 0, none⟩))), (53, .v (.bool x44))], [⟨b9, 118, ([.v (.int .u8 ((y31.1.1.toNat : Int)))] ++ ((List.map ew y31.1.2.1.l).flatten ++ [.v (.bool y31.1.2.2.1), .v (.int .i64 y31.1.2.2.2)]))⟩, ⟨b7, 118, ([.v (.int .u8 ((y4.1.1.toNat : Int)))] ++ ((List.map ew y4.1.2.1.l).flatten ++ [.v (.bool y4.1.2.2.1), .v (.int .i64 y4.1.2.2.2)]))⟩, ⟨b4, 40, ((List.map ew ((Arr.rep 4 (0 : UInt64))).l).flatten)⟩], []⟩) ?_ ?_
     ·refine xregion ?_
      refine vp_ (qv_fieldAddrB FldC.h rfl) ?_
      refine v_ (qv_loadP 0 ([.v (.int .u8 ((y31.1.1.toNat : Int)))] ++ (List.map ew y31.1.2.1.l).flatten) [.v (.bool y31.1.2.2.1)] [.v (.int .i64 y31.1.2.2.2)] sq_ sl_ sl_ rfl ShpC.h rfl rfl) ?_
      refine mv_ ?_
      by_cases hp45 : y31.1.2.2.1 = true
      ·rw [or_tt (show y31.1.2.2.1 = true from hp45)] at h
       refine xsetB 56 hp45 rfl ?_
       refine sk_ ?_
       refine sk_ ?_
       refine sk_ ?_
       refine sk_ ?_
       refine sk_ ?_
       refine pk_ ?_
       refine as_ ?_
       refine xnil ?_
       exact xmeet ⟨true, h, rfl⟩ ⟨lk_, (SubM.of (.keep rfl rfl (.refl _) (.keep rfl rfl (.refl _) (.keep rfl rfl (.refl _) (.nil _)))) (.nil _))⟩
      ·rw [or_ff (show y31.1.2.2.1 = false from (b_f hp45))] at h
       refine xsetB 56 (b_f hp45) rfl ?_
       refine vp_ (qv_fieldAddrB FldC.h rfl) ?_
       refine v_ (qv_loadB 0 ShpC.h rfl rfl rfl rfl) ?_
       refine vp_ (qv_fieldAddrB FldC.h rfl) ?_
       refine v_ (qv_loadB 1 ShpC.h rfl rfl rfl rfl) ?_
       refine vp_ (pv_bin2 rfl rfl rfl) ?_
       refine pk_ ?_
       refine as_ ?_
       refine xnil ?_
       exact xmeet ⟨(decide ((y31.1.1.toNat : Int) < (y4.1.1.toNat : Int))), h, rfl⟩ ⟨lk_, (SubM.of (.keep rfl rfl (.refl _) (.keep rfl rfl (.refl _) (.keep rfl rfl (.refl _) (.nil _)))) (.nil _))⟩
     ·clear h
      rintro _ ⟨x44, h, rfl⟩
      by_cases hp47 : x44 = true
      ·replace h := h.1 hp47
       refine xcondT' hp47 rfl ?_
       refine sr_ ?_
       refine vp_ (pv_buildAC (cs := ((List.map ew ((Arr.rep 4 (0 : UInt64))).l).flatten)) UndC.h ShpC.h InfC.h rfl (by rfl)) ?_
       refine xstoreQ 2 [] ((List.map ew ((Arr.rep 4 (0 : UInt64))).l).flatten) [] ((List.map ew ((Arr.rep 4 (0 : UInt64))).l).flatten) ShpC.h rfl rfl rfl rfl rfl ?_
       refine as_ ?_
       refine as_ ?_
       refine nt_ ?_
       refine xretc ?_
       refine xin_ret ?_
       refine xthen_ret ?_
       replace h := h.symm
       subst h
       exact xretL (rs := [.cell 4 40, .tmp 5, .tmp 6]) (ss := [.agg ((List.map ew ((Arr.rep 4 (0 : UInt64))).l).flatten), .v (.int .i64 0), .v (.int .i64 3)]) hg rfl (by refine RetL.cell 2 ShpC.h rfl rfl (part_midE (pre := []) (mid := ((List.map ew ((Arr.rep 4 (0 : UInt64))).l).flatten)) (post := []) sq_ sl_ sl_ (part_all (seg_lenE (by rfl)))) (len_midE (pre := []) (mid := ((List.map ew ((Arr.rep 4 (0 : UInt64))).l).flatten)) (post := []) sq_ sl_ sl_) wk_ ?_; refine RetL.tmp rfl (.refl _) ?_; refine RetL.tmp rfl (.refl _) ?_; exact RetL.nil) (SubM.of (.nil _) (.nil _)) ⟨rfl, rfl, rfl⟩
      ·replace h := h.2 hp47
       refine xcondF' (b_f hp47) rfl ?_
       refine xskipc ?_
       refine xin_normal ?_
       refine xthen ?_
       refine xseq ?_
       refine xregionD (m := 10) (by kernel_rfl) rfl ?_
       obtain ⟨y51, h50, h⟩ := h
       refine pl_ 0 rfl (qv_fieldAddrB FldC.h rfl) ?_
       refine pl_ 2 rfl (qv_fieldAddrB FldC.h rfl) ?_
       refine pl_ 5 rfl (qv_fieldAddrB FldC.h rfl) ?_
       refine xpvalE 1 [3, 6] rfl (qv_loadB 1 ShpC.h rfl rfl rfl rfl) rfl rfl (by kernel_rfl) (by kernel_rfl) (by kernel_rfl) (fun _ _ _ _ h => h) ?_
       refine xpvalE 3 [6] rfl (qv_loadB 0 ShpC.h rfl rfl rfl rfl) rfl rfl (by kernel_rfl) (by kernel_rfl) (by kernel_rfl) (fun _ _ _ _ h => h) ?_
       refine xfl0 [⟨6, 70, .v (.int .i64 y31.1.2.2.2)⟩] 4 ?_
       refine xflstep 4 (by kernel_rfl) rfl (.cons rfl rfl rfl (fun _ => rfl) (fun _ => qv_loadP 0 ([.v (.int .u8 ((y31.1.1.toNat : Int)))] ++ ((List.map ew y31.1.2.1.l).flatten ++ [.v (.bool y31.1.2.2.1)])) [.v (.int .i64 y31.1.2.2.2)] [] sq_ sl_ sl_ rfl ShpC.h rfl rfl) .nil) fun D l td hR => ?_
       refine wcall0 (class_Range_con y4.1.1 y31.1.1 _ h50) Try.func83 (by kernel_rfl) rfl (.cons rfl (.refl _) (.cons rfl (.refl _) .nil)) rfl rfl ?_
       refine xflgo1 hR ?_
       refine xflstep 7 (by kernel_rfl) rfl (.cons rfl rfl rfl (fun _ => rfl) (fun _ => qv_loadP 0 ([.v (.int .u8 ((y31.1.1.toNat : Int)))] ++ ((List.map ew y31.1.2.1.l).flatten ++ [.v (.bool y31.1.2.2.1)])) [.v (.int .i64 y31.1.2.2.2)] [] sq_ sl_ sl_ rfl ShpC.h rfl rfl) .nil) fun D l td hR => ?_
       refine wstoreQ 2 [] ((List.map ew ((Arr.rep 4 (0 : UInt64))).l).flatten) [] ((List.map ew y51.l).flatten) ShpC.h rfl rfl rfl rfl rfl ?_
       refine xflgo0 hR ?_
       refine xflend (l' := #[true, true, true, true, true, true, true, true, false, false]) (by kernel_rfl) (.cons rfl rfl rfl (fun _ => rfl) (fun _ => qv_loadP 0 ([.v (.int .u8 ((y31.1.1.toNat : Int)))] ++ ((List.map ew y31.1.2.1.l).flatten ++ [.v (.bool y31.1.2.2.1)])) [.v (.int .i64 y31.1.2.2.2)] [] sq_ sl_ sl_ rfl ShpC.h rfl rfl) .nil) (by kernel_rfl) rfl (by kernel_rfl) (by kernel_rfl) ?_
       simp only [List.nil_append, List.cons_append, List.map_cons, List.map_nil]
       refine pl_ 8 rfl (pv_assign rfl) ?_
       refine pl_ 9 rfl (pv_assign rfl) ?_
       refine xpdone (by kernel_rfl) ?_
       refine xthen ?_
       refine xretc ?_
       replace h := h.symm
       subst h
       exact xretL (rs := [.cell 4 40, .tmp 5, .tmp 6]) (ss := [.agg ((List.map ew y51.l).flatten), .v (.int .i64 y31.1.2.2.2), .v (.int .i64 0)]) hg rfl (by refine RetL.cell 2 ShpC.h rfl rfl (part_midE (pre := []) (mid := ((List.map ew y51.l).flatten)) (post := []) sq_ sl_ sl_ (part_all (seg_lenE (by rfl)))) (len_midE (pre := []) (mid := ((List.map ew y51.l).flatten)) (post := []) sq_ sl_ sl_) wk_ ?_; refine RetL.tmp rfl (.refl _) ?_; refine RetL.tmp rfl (.refl _) ?_; exact RetL.nil) (SubM.of (.nil _) (.nil _)) ⟨rfl, rfl, rfl⟩
/-- class.Union -/
def class_Union_l2 (y735 : Arr 4 (UInt64)) (x534 : Int) (ag1 : (Int × (Arr 4 (UInt64))) → Prop) (ag2 : (Int × (Arr 4 (UInt64))) → Prop) (x757 : Int) (f758 : Arr 4 (UInt64)) (r : (Arr 4 (UInt64))) : Prop :=
 ((x757 < 4 → (0 ≤ (x757 : Int) ∧ (x757 : Int) < 4) ∧ ∃ y791 : UInt64, f758.l[(x757 : Int).toNat]? = some y791 ∧ (0 ≤ (x757 : Int) ∧ (x757 : Int) < 4) ∧ ∃ y793 : UInt64, y735.l[(x757 : Int).toNat]? = some y793 ∧ ∃ c795 : UInt64, (c795.toNat : Int) = IntKind.u64.wrap (BitVec.ofInt IntKind.u64.bits (y791.toNat : Int) ||| BitVec.ofInt IntKind.u64.bits (y793.toNat : Int)).toNat ∧ (0 ≤ (x757 : Int) ∧ (x757 : Int) < 4) ∧ ∃ y797 : UInt64, f758.l[(x757 : Int).toNat]? = some y797 ∧ InR (x757 + 1) ∧ ag2 ((x757 + 1), (Arr.set f758 (x757 : Int).toNat c795))) ∧ (¬ (x757 < 4) → InR (x534 + 1) ∧ ag1 ((x534 + 1), f758)))
def class_Union_l1 (l1 : List (Arr 4 (UInt64))) (ag1 : (Int × (Arr 4 (UInt64))) → Prop) (x534 : Int) (f535 : Arr 4 (UInt64)) (r : (Arr 4 (UInt64))) : Prop :=
 ((x534 < (l1.length : Int) → 0 ≤ (x534 : Int) ∧ ∃ y735 : Arr 4 (UInt64), l1[(x534 : Int).toNat]? = some y735 ∧ LoopR (fun ag2 s => class_Union_l2 y735 x534 ag1 ag2 s.1 s.2 r) (0, f535)) ∧ (¬ (x534 < (l1.length : Int)) → r = f535))
def class_Union_R (l1 : List (Arr 4 (UInt64))) (r : (Arr 4 (UInt64))) : Prop :=
 LoopR (fun ag1 s => class_Union_l1 l1 ag1 s.1 s.2 r) (0, (Arr.rep 4 (0 : UInt64)))
def class_Union_l2_ev (fuel : Nat) (y735 : Arr 4 (UInt64)) (x534 : Int) (ag1e : (Int × (Arr 4 (UInt64))) → Option ((Arr 4 (UInt64)))) (ag2e : (Int × (Arr 4 (UInt64))) → Option ((Arr 4 (UInt64)))) (x757 : Int) (f758 : Arr 4 (UInt64)) : Option ((Arr 4 (UInt64))) :=
 (if x757 < 4 then (if (0 ≤ (x757 : Int) ∧ (x757 : Int) < 4) then ((f758.l[(x757 : Int).toNat]?).bind fun y791 => (if (0 ≤ (x757 : Int) ∧ (x757 : Int) < 4) then ((y735.l[(x757 : Int).toNat]?).bind fun y793 => (exL (IntKind.u64.wrap (BitVec.ofInt IntKind.u64.bits (y791.toNat : Int) ||| BitVec.ofInt IntKind.u64.bits (y793.toNat : Int)).toNat) fun c795 => (if (0 ≤ (x757 : Int) ∧ (x757 : Int) < 4) then ((f758.l[(x757 : Int).toNat]?).bind fun y797 => (if InR (x757 + 1) then ag2e ((x757 + 1), (Arr.set f758 (x757 : Int).toNat c795)) else none)) else none))) else none)) else none) else (if InR (x534 + 1) then ag1e ((x534 + 1), f758) else none))
theorem class_Union_l2_ok {fuel : Nat} {y735 : Arr 4 (UInt64)} {x534 : Int} {ag1 : (Int × (Arr 4 (UInt64))) → Prop} {ag1e : (Int × (Arr 4 (UInt64))) → Option ((Arr 4 (UInt64)))} {ag2e : (Int × (Arr 4 (UInt64))) → Option ((Arr 4 (UInt64)))} {ag2 : (Int × (Arr 4 (UInt64))) → Prop} {x757 : Int} {f758 : Arr 4 (UInt64)} {r : (Arr 4 (UInt64))} (hagag1 : ∀ s, ag1e s = some r → ag1 s) (hagag2 : ∀ s, ag2e s = some r → ag2 s) (h : class_Union_l2_ev fuel y735 x534 ag1e ag2e x757 f758 = some r) : class_Union_l2 y735 x534 ag1 ag2 x757 f758 r := by
 unfold class_Union_l2_ev at h
 unfold class_Union_l2
 refine ⟨fun g245 => ?_, fun g245 => ?_⟩
 ·rw [if_pos g245] at h
  obtain ⟨g246, h⟩ := if_ok h
  refine ⟨g246, ?_⟩
  obtain ⟨q247, g247, h⟩ := bind_ok h
  refine ⟨q247, g247, ?_⟩
  obtain ⟨g248, h⟩ := if_ok h
  refine ⟨g248, ?_⟩
  obtain ⟨q249, g249, h⟩ := bind_ok h
  refine ⟨q249, g249, ?_⟩
  obtain ⟨q250, g250, h⟩ := exL_ok h
  refine ⟨q250, g250, ?_⟩
  obtain ⟨g251, h⟩ := if_ok h
  refine ⟨g251, ?_⟩
  obtain ⟨q252, g252, h⟩ := bind_ok h
  refine ⟨q252, g252, ?_⟩
  obtain ⟨g253, h⟩ := if_ok h
  refine ⟨g253, ?_⟩
  exact hagag2 _ h
 ·rw [if_neg g245] at h
  obtain ⟨g254, h⟩ := if_ok h
  refine ⟨g254, ?_⟩
  exact hagag1 _ h
def class_Union_l1_ev (fuel : Nat) (l1 : List (Arr 4 (UInt64))) (ag1e : (Int × (Arr 4 (UInt64))) → Option ((Arr 4 (UInt64)))) (x534 : Int) (f535 : Arr 4 (UInt64)) : Option ((Arr 4 (UInt64))) :=
 (if x534 < (l1.length : Int) then (if 0 ≤ (x534 : Int) then ((l1[(x534 : Int).toNat]?).bind fun y735 => (loopE (fun ag2e s => class_Union_l2_ev fuel y735 x534 ag1e ag2e s.1 s.2) fuel (0, f535))) else none) else some f535)
theorem class_Union_l1_ok {fuel : Nat} {l1 : List (Arr 4 (UInt64))} {ag1e : (Int × (Arr 4 (UInt64))) → Option ((Arr 4 (UInt64)))} {ag1 : (Int × (Arr 4 (UInt64))) → Prop} {x534 : Int} {f535 : Arr 4 (UInt64)} {r : (Arr 4 (UInt64))} (hagag1 : ∀ s, ag1e s = some r → ag1 s) (h : class_Union_l1_ev fuel l1 ag1e x534 f535 = some r) : class_Union_l1 l1 ag1 x534 f535 r := by
 unfold class_Union_l1_ev at h
 unfold class_Union_l1
 refine ⟨fun g255 => ?_, fun g255 => ?_⟩
 ·rw [if_pos g255] at h
  obtain ⟨g256, h⟩ := if_ok h
  refine ⟨g256, ?_⟩
  obtain ⟨q257, g257, h⟩ := bind_ok h
  refine ⟨q257, g257, ?_⟩
  refine loopE_ok ?_ h
  intro ae ag s hag h
  exact class_Union_l2_ok hagag1 hag h
 ·rw [if_neg g255] at h
  exact (Option.some.inj h).symm
def class_Union_ev (fuel : Nat) (l1 : List (Arr 4 (UInt64))) : Option ((Arr 4 (UInt64))) :=
 (loopE (fun ag1e s => class_Union_l1_ev fuel l1 ag1e s.1 s.2) fuel (0, (Arr.rep 4 (0 : UInt64))))
theorem class_Union_ok {fuel : Nat} {l1 : List (Arr 4 (UInt64))} {r : (Arr 4 (UInt64))} (h : class_Union_ev fuel l1 = some r) : class_Union_R l1 r := by
 unfold class_Union_ev at h
 unfold class_Union_R
 refine loopE_ok ?_ h
 intro ae ag s hag h
 exact class_Union_l1_ok hag h
set_option maxHeartbeats 4000000 in
theorem class_Union_con (l1 : List (Arr 4 (UInt64))) (r : (Arr 4 (UInt64))) (h : class_Union_R l1 r) : Con Try.prog 66 [.sl 4 none (List.map E_palinode_api_Set l1)] [] [] (Ret (.agg ((List.map ew r.l).flatten))) := by
 refine xenter Try.func66 rfl rfl fun g hg => ?_
 simp only [Try.ntmps66, slots]
 refine sr_ ?_
 refine xalloc InfC.h rfl rfl fun b2 => ?_
 refine xreb 0 ((List.map ew ((Arr.rep 4 (0 : UInt64))).l).flatten) rfl rfl ?_
 refine nt_ ?_
 refine sr_ ?_
 refine xalloc InfC.h rfl rfl fun b3 => ?_
 refine xreb 0 ((List.map ew ((Arr.rep 4 (0 : UInt64))).l).flatten) rfl rfl ?_
 refine nt_ ?_
 refine xseq ?_
 refine sr_ ?_
 refine mv_ ?_
 refine vp_ (pv_lenM UndC.h rfl) ?_
 refine mv_ ?_
 refine nt_ ?_
 refine xblock ?_
 obtain ⟨Inv, ⟨m0, hI⟩, hS⟩ := h
 refine xloop (fun σ m => ∃ (x534 : Int), ∃ (f535 : Arr 4 (UInt64)), Inv (x534, f535) m ∧ σ = ⟨[(2, .v (.pointer (some ⟨b2, 0, none⟩))), (3, .v (.pointer (some ⟨b3, 0, none⟩))), (7, .sl 4 none (List.map E_palinode_api_Set l1)), (8, .v (.int .i64 ((l1.length : Int)))), (9, .v (.int .i64 x534))], [⟨b3, 40, ((List.map ew f535.l).flatten)⟩, ⟨b2, 40, ((List.map ew ((Arr.rep 4 (0 : UInt64))).l).flatten)⟩], []⟩) ⟨0, (Arr.rep 4 (0 : UInt64)), hI, rfl⟩ (by exact ⟨lk_, (SubM.of (.keep rfl rfl (.refl _) (.keep rfl rfl (.refl _) (.nil _))) (.nil _))⟩) ?_
 rintro _ m ⟨x534, f535, hI, rfl⟩
 obtain ⟨ag1, hag1, h⟩ : ∃ ag, (∀ s', ag s' → ∃ m', m' < m ∧ Inv s' m') ∧ class_Union_l1 l1 ag x534 f535 r := ⟨_, fun _ h => h, hS (x534, f535) _ hI⟩
 clear hS hI
 refine sr_ ?_
 refine vp_ (pv_bin2 rfl rfl rfl) ?_
 refine nt_ ?_
 refine xseq ?_
 by_cases hp670 : x534 < (l1.length : Int)
 ·replace h := h.1 hp670
  refine xcondT' (decide_eq_true hp670) rfl ?_
  refine xskipc ?_
  refine xthen ?_
  refine xseq ?_
  refine xblock ?_
  refine sr_ ?_
  obtain ⟨h736a, h⟩ := h
  obtain ⟨y735, h736b, h⟩ := h
  refine vp_ (pv_indexAddrM h736a h736b UndC.h ShpC.h rfl rfl) ?_
  refine v_ (qv_loadEP ((List.map ew y735.l).flatten) [] sq_ sl_ (part_all (seg_lenE (by rfl))) ShpC.h rfl) ?_
  refine xalloc InfC.h rfl rfl fun b5 => ?_
  refine xreb 0 ((List.map ew ((Arr.rep 4 (0 : UInt64))).l).flatten) rfl rfl ?_
  refine xstoreQ 0 [] ((List.map ew ((Arr.rep 4 (0 : UInt64))).l).flatten) [] ((List.map ew y735.l).flatten) ShpC.h rfl rfl rfl rfl rfl ?_
  refine nt_ ?_
  refine sr_ ?_
  refine mv_ ?_
  refine nt_ ?_
  refine xblock ?_
  obtain ⟨Inv, ⟨m0, hI⟩, hS⟩ := h
  refine xloop (fun σ m => ∃ (x757 : Int), ∃ (f758 : Arr 4 (UInt64)), Inv (x757, f758) m ∧ σ = ⟨[(2, .v (.pointer (some ⟨b2, 0, none⟩))), (3, .v (.pointer (some ⟨b3, 0, none⟩))), (5, .v (.pointer (some ⟨b5, 0, none⟩))), (7, .sl 4 none (List.map E_palinode_api_Set l1)), (8, .v (.int .i64 ((l1.length : Int)))), (9, .v (.int .i64 x534)), (13, .v (.int .i64 x757))], [⟨b5, 40, ((List.map ew y735.l).flatten)⟩, ⟨b3, 40, ((List.map ew f758.l).flatten)⟩, ⟨b2, 40, ((List.map ew ((Arr.rep 4 (0 : UInt64))).l).flatten)⟩], []⟩) ⟨0, f535, hI, rfl⟩ (by exact ⟨lk_, (SubM.of (.keep rfl rfl (.refl _) (.keep rfl rfl (.refl _) (.keep rfl rfl (.refl _) (.nil _)))) (.nil _))⟩) ?_
  rintro _ m ⟨x757, f758, hI, rfl⟩
  obtain ⟨ag2, hag2, h⟩ : ∃ ag, (∀ s', ag s' → ∃ m', m' < m ∧ Inv s' m') ∧ class_Union_l2 y735 x534 ag1 ag x757 f758 r := ⟨_, fun _ h => h, hS (x757, f758) _ hI⟩
  clear hS hI
  refine sr_ ?_
  refine vp_ (pv_bin2 rfl rfl rfl) ?_
  refine nt_ ?_
  refine xseq ?_
  by_cases hp781 : x757 < 4
  ·replace h := h.1 hp781
   refine xcondT' (decide_eq_true hp781) rfl ?_
   refine xskipc ?_
   refine xthen ?_
   refine xseq ?_
   refine xblock ?_
   refine sr_ ?_
   refine mv_ ?_
   refine as_ ?_
   refine nt_ ?_
   refine xregionD (m := 9) (by kernel_rfl) rfl ?_
   obtain ⟨h790, h⟩ := h
   obtain ⟨y791, h790b, h⟩ := h
   obtain ⟨h792, h⟩ := h
   obtain ⟨y793, h792b, h⟩ := h
   obtain ⟨c795, h794, h⟩ := h
   obtain ⟨h796, h⟩ := h
   obtain ⟨y797, h796b, h⟩ := h
   refine pl_ 0 rfl (pv_move rfl) ?_
   refine pl_ 1 rfl (pv_indexAddrBA h790 UndC.h ShpC.h rfl rfl) ?_
   refine pl_ 3 rfl (pv_move rfl) ?_
   refine pl_ 4 rfl (pv_indexAddrBA h792 UndC.h ShpC.h rfl rfl) ?_
   refine xpvalE 2 [5] rfl (qv_loadA (f := ew) (a := f758) (k := 1) (off := 0) (i := (x757 : Int).toNat) 1 [] [] h790b sq_ so_ (by decide) rfl ShpC.h rfl rfl) rfl rfl (by kernel_rfl) (by kernel_rfl) (by kernel_rfl) (fun _ _ _ _ h => h) ?_
   refine xpvalE 5 [] rfl (qv_loadA (f := ew) (a := y735) (k := 1) (off := 0) (i := (x757 : Int).toNat) 0 [] [] h792b sq_ so_ (by decide) rfl ShpC.h rfl rfl) rfl rfl (by kernel_rfl) (by kernel_rfl) (by kernel_rfl) (fun _ _ _ _ h => h) ?_
   refine pl_ 6 rfl (pv_wr h794 rfl rfl rfl) ?_
   refine pl_ 7 rfl (pv_indexAddrBA h796 UndC.h ShpC.h rfl rfl) ?_
   refine xpstep (i := 8) (by kernel_rfl) rfl ?_
   refine wstoreA (f := ew) (a := f758) (k := 1) (off := 0) (i := (x757 : Int).toNat) 1 [] [] c795 h796b sq_ so_ (by decide) ShpC.h rfl rfl rfl rfl sl_ rfl rfl ?_
   refine preb 1 ((List.map ew ((Arr.set f758 (x757 : Int).toNat c795)).l).flatten) rfl sq_ ?_
   refine xpdone (by kernel_rfl) ?_
   refine xin_normal ?_
   refine xthen ?_
   refine xregion ?_
   obtain ⟨h798, h⟩ := h
   refine vp_ (pv_addI h798 rfl rfl) ?_
   refine mv_ ?_
   refine xnil ?_
   obtain ⟨m', hm, hI⟩ := hag2 _ h
   exact xagain ⟨(x757 + 1), (Arr.set f758 (x757 : Int).toNat c795), hI, rfl⟩ hm ⟨lk_, (SubM.of (.keep rfl rfl (.refl _) (.keep rfl rfl (.refl _) (.keep rfl rfl (.refl _) (.nil _)))) (.nil _))⟩
  ·replace h := h.2 hp781
   refine xcondF' (decide_eq_false hp781) rfl ?_
   refine xexit ?_
   refine xthen_exit ?_
   refine xthen_exit ?_
   refine xin_same rfl ?_
   refine xin_normal ?_
   refine xthen ?_
   refine xregion ?_
   obtain ⟨h799, h⟩ := h
   refine vp_ (pv_addI h799 rfl rfl) ?_
   refine mv_ ?_
   refine xnil ?_
   obtain ⟨m', hm, hI⟩ := hag1 _ h
   exact xagain ⟨(x534 + 1), f758, hI, rfl⟩ hm ⟨lk_, (SubM.of (.drop (.keep rfl rfl (.refl _) (.keep rfl rfl (.refl _) (.nil _)))) (.nil _))⟩
 ·replace h := h.2 hp670
  refine xcondF' (decide_eq_false hp670) rfl ?_
  refine xexit ?_
  refine xthen_exit ?_
  refine xthen_exit ?_
  refine xin_same rfl ?_
  refine xthen ?_
  refine sr_ ?_
  refine v_ (qv_loadP 0 [] ((List.map ew f535.l).flatten) [] sq_ sl_ sl_ (part_all (seg_lenE (by rfl))) ShpC.h rfl rfl) ?_
  refine xstoreQ 1 [] ((List.map ew ((Arr.rep 4 (0 : UInt64))).l).flatten) [] ((List.map ew f535.l).flatten) ShpC.h rfl rfl rfl rfl rfl ?_
  refine nt_ ?_
  refine xretc ?_
  replace h := h.symm
  subst h
  exact xretL (rs := [.cell 2 40]) (ss := [.agg ((List.map ew f535.l).flatten)]) hg rfl (by refine RetL.cell 1 ShpC.h rfl rfl (part_midE (pre := []) (mid := ((List.map ew f535.l).flatten)) (post := []) sq_ sl_ sl_ (part_all (seg_lenE (by rfl)))) (len_midE (pre := []) (mid := ((List.map ew f535.l).flatten)) (post := []) sq_ sl_ sl_) wk_ ?_; exact RetL.nil) (SubM.of (.nil _) (.nil _)) ⟨rfl, rfl, rfl⟩
end Go.Proofs.Ytpddiffpanihdaa
