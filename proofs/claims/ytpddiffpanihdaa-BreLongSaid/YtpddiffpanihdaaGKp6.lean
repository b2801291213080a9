
/- What functions' texts ask for, and the walks that show it (printed by a program). -/
import Derived.Test.YtpddiffpanihdaaGKp5
namespace Go.Proofs.Ytpddiffpanihdaa
/-- brack.Parse -/
def brack_Parse_j5 (x1 : List UInt8) (x340 : Int) (f342 : Arr 4 (UInt64)) (ag4 : (Int × Bool × (Arr 4 (UInt64))) → Prop) (r : (Arr 4 (UInt64)) × Int × Int) : Prop :=
 ∃ y496 : (Arr 4 (UInt64)) × Int × Int, brack_part_R x1 x340 y496 ∧ ((¬ (y496.2.2 = 0) → r = ((Arr.rep 4 (0 : UInt64)), 0, y496.2.2)) ∧ (¬ (¬ (y496.2.2 = 0)) → ∃ y502 : (Arr 4 (UInt64)), class_Union_R ([f342, y496.1]) y502 ∧ ag4 (y496.2.1, false, y502)))
def brack_Parse_j6 (x340 : Int) (f490 : Arr 4 (UInt64)) (r : (Arr 4 (UInt64)) × Int × Int) : Prop :=
 InR (x340 + 1) ∧ r = (f490, (x340 + 1), 0)
def brack_Parse_l4 (x1 : List UInt8) (x29 : Bool) (ag4 : (Int × Bool × (Arr 4 (UInt64))) → Prop) (x340 : Int) (x341 : Bool) (f342 : Arr 4 (UInt64)) (r : (Arr 4 (UInt64)) × Int × Int) : Prop :=
 ((x340 < (x1.length : Int) → 0 ≤ (x340 : Int) ∧ ∃ y482 : UInt8, x1[(x340 : Int).toNat]? = some y482 ∧ (((y482.toNat : Int) = 93 → ((¬ (x341 = true) → ((x29 = true → ∃ y493 : (Arr 4 (UInt64)), class_Not_R f342 y493 ∧ brack_Parse_j6 x340 y493 r) ∧ (¬ (x29 = true) → brack_Parse_j6 x340 f342 r))) ∧ (¬ (¬ (x341 = true)) → brack_Parse_j5 x1 x340 f342 ag4 r))) ∧ (¬ ((y482.toNat : Int) = 93) → brack_Parse_j5 x1 x340 f342 ag4 r))) ∧ (¬ (x340 < (x1.length : Int)) → brack_Parse_j5 x1 x340 f342 ag4 r))
def brack_Parse_j3 (x1 : List UInt8) (x29 : Bool) (x38 : Int) (r : (Arr 4 (UInt64)) × Int × Int) : Prop :=
 LoopR (fun ag4 s => brack_Parse_l4 x1 x29 ag4 s.1 s.2.1 s.2.2 r) (x38, true, (Arr.rep 4 (0 : UInt64)))
def brack_Parse_j2 (x2 : Int) (x1 : List UInt8) (x29 : Bool) (r : (Arr 4 (UInt64)) × Int × Int) : Prop :=
 ((x29 = true → InR (x2 + 1) ∧ brack_Parse_j3 x1 x29 (x2 + 1) r) ∧ (¬ (x29 = true) → brack_Parse_j3 x1 x29 x2 r))
def brack_Parse_j1 (x2 : Int) (x1 : List UInt8) (x17 : Bool) (r : (Arr 4 (UInt64)) × Int × Int) : Prop :=
 ((x17 = true → r = ((Arr.rep 4 (0 : UInt64)), 0, 1)) ∧ (¬ (x17 = true) → ((x2 < (x1.length : Int) → 0 ≤ (x2 : Int) ∧ ∃ y33 : UInt8, x1[(x2 : Int).toNat]? = some y33 ∧ brack_Parse_j2 x2 x1 (decide ((y33.toNat : Int) = 94)) r) ∧ (¬ (x2 < (x1.length : Int)) → brack_Parse_j2 x2 x1 false r))))
def brack_Parse_R (x1 : List UInt8) (x2 : Int) (r : (Arr 4 (UInt64)) × Int × Int) : Prop :=
 brack_Parse_j1 x2 x1 ((decide (x2 < 0)) || (decide ((x1.length : Int) < x2))) r
def brack_Parse_j5_ev (fuel : Nat) (x1 : List UInt8) (x340 : Int) (f342 : Arr 4 (UInt64)) (ag4e : (Int × Bool × (Arr 4 (UInt64))) → Option ((Arr 4 (UInt64)) × Int × Int)) : Option ((Arr 4 (UInt64)) × Int × Int) :=
 ((brack_part_ev fuel x1 x340).bind fun y496 => (if ¬ (y496.2.2 = 0) then some ((Arr.rep 4 (0 : UInt64)), 0, y496.2.2) else ((class_Union_ev fuel ([f342, y496.1])).bind fun y502 => ag4e (y496.2.1, false, y502))))
theorem brack_Parse_j5_ok {fuel : Nat} {x1 : List UInt8} {x340 : Int} {f342 : Arr 4 (UInt64)} {ag4 : (Int × Bool × (Arr 4 (UInt64))) → Prop} {ag4e : (Int × Bool × (Arr 4 (UInt64))) → Option ((Arr 4 (UInt64)) × Int × Int)} {r : (Arr 4 (UInt64)) × Int × Int} (hagag4 : ∀ s, ag4e s = some r → ag4 s) (h : brack_Parse_j5_ev fuel x1 x340 f342 ag4e = some r) : brack_Parse_j5 x1 x340 f342 ag4 r := by
 unfold brack_Parse_j5_ev at h
 unfold brack_Parse_j5
 obtain ⟨q258, g258, h⟩ := bind_ok h
 refine ⟨q258, brack_part_ok g258, ?_⟩
 refine ⟨fun g259 => ?_, fun g259 => ?_⟩
 ·rw [if_pos g259] at h
  exact (Option.some.inj h).symm
 ·rw [if_neg g259] at h
  obtain ⟨q260, g260, h⟩ := bind_ok h
  refine ⟨q260, class_Union_ok g260, ?_⟩
  exact hagag4 _ h
def brack_Parse_j6_ev (fuel : Nat) (x340 : Int) (f490 : Arr 4 (UInt64)) : Option ((Arr 4 (UInt64)) × Int × Int) :=
 (if InR (x340 + 1) then some (f490, (x340 + 1), 0) else none)
theorem brack_Parse_j6_ok {fuel : Nat} {x340 : Int} {f490 : Arr 4 (UInt64)} {r : (Arr 4 (UInt64)) × Int × Int} (h : brack_Parse_j6_ev fuel x340 f490 = some r) : brack_Parse_j6 x340 f490 r := by
 unfold brack_Parse_j6_ev at h
 unfold brack_Parse_j6
 obtain ⟨g261, h⟩ := if_ok h
 refine ⟨g261, ?_⟩
 exact (Option.some.inj h).symm
def brack_Parse_l4_ev (fuel : Nat) (x1 : List UInt8) (x29 : Bool) (ag4e : (Int × Bool × (Arr 4 (UInt64))) → Option ((Arr 4 (UInt64)) × Int × Int)) (x340 : Int) (x341 : Bool) (f342 : Arr 4 (UInt64)) : Option ((Arr 4 (UInt64)) × Int × Int) :=
 (if x340 < (x1.length : Int) then (if 0 ≤ (x340 : Int) then ((x1[(x340 : Int).toNat]?).bind fun y482 => (if (y482.toNat : Int) = 93 then (if ¬ (x341 = true) then (if x29 = true then ((class_Not_ev fuel f342).bind fun y493 => brack_Parse_j6_ev fuel x340 y493) else brack_Parse_j6_ev fuel x340 f342) else brack_Parse_j5_ev fuel x1 x340 f342 ag4e) else brack_Parse_j5_ev fuel x1 x340 f342 ag4e)) else none) else brack_Parse_j5_ev fuel x1 x340 f342 ag4e)
theorem brack_Parse_l4_ok {fuel : Nat} {x1 : List UInt8} {x29 : Bool} {ag4e : (Int × Bool × (Arr 4 (UInt64))) → Option ((Arr 4 (UInt64)) × Int × Int)} {ag4 : (Int × Bool × (Arr 4 (UInt64))) → Prop} {x340 : Int} {x341 : Bool} {f342 : Arr 4 (UInt64)} {r : (Arr 4 (UInt64)) × Int × Int} (hagag4 : ∀ s, ag4e s = some r → ag4 s) (h : brack_Parse_l4_ev fuel x1 x29 ag4e x340 x341 f342 = some r) : brack_Parse_l4 x1 x29 ag4 x340 x341 f342 r := by
 unfold brack_Parse_l4_ev at h
 unfold brack_Parse_l4
 refine ⟨fun g262 => ?_, fun g262 => ?_⟩
 ·rw [if_pos g262] at h
  obtain ⟨g263, h⟩ := if_ok h
  refine ⟨g263, ?_⟩
  obtain ⟨q264, g264, h⟩ := bind_ok h
  refine ⟨q264, g264, ?_⟩
  refine ⟨fun g265 => ?_, fun g265 => ?_⟩
  ·rw [if_pos g265] at h
   refine ⟨fun g266 => ?_, fun g266 => ?_⟩
   ·rw [if_pos g266] at h
    refine ⟨fun g267 => ?_, fun g267 => ?_⟩
    ·rw [if_pos g267] at h
     obtain ⟨q268, g268, h⟩ := bind_ok h
     refine ⟨q268, class_Not_ok g268, ?_⟩
     exact brack_Parse_j6_ok h
    ·rw [if_neg g267] at h
     exact brack_Parse_j6_ok h
   ·rw [if_neg g266] at h
    exact brack_Parse_j5_ok hagag4 h
  ·rw [if_neg g265] at h
   exact brack_Parse_j5_ok hagag4 h
 ·rw [if_neg g262] at h
  exact brack_Parse_j5_ok hagag4 h
def brack_Parse_j3_ev (fuel : Nat) (x1 : List UInt8) (x29 : Bool) (x38 : Int) : Option ((Arr 4 (UInt64)) × Int × Int) :=
 (loopE (fun ag4e s => brack_Parse_l4_ev fuel x1 x29 ag4e s.1 s.2.1 s.2.2) fuel (x38, true, (Arr.rep 4 (0 : UInt64))))
theorem brack_Parse_j3_ok {fuel : Nat} {x1 : List UInt8} {x29 : Bool} {x38 : Int} {r : (Arr 4 (UInt64)) × Int × Int} (h : brack_Parse_j3_ev fuel x1 x29 x38 = some r) : brack_Parse_j3 x1 x29 x38 r := by
 unfold brack_Parse_j3_ev at h
 unfold brack_Parse_j3
 refine loopE_ok ?_ h
 intro ae ag s hag h
 exact brack_Parse_l4_ok hag h
def brack_Parse_j2_ev (fuel : Nat) (x2 : Int) (x1 : List UInt8) (x29 : Bool) : Option ((Arr 4 (UInt64)) × Int × Int) :=
 (if x29 = true then (if InR (x2 + 1) then brack_Parse_j3_ev fuel x1 x29 (x2 + 1) else none) else brack_Parse_j3_ev fuel x1 x29 x2)
theorem brack_Parse_j2_ok {fuel : Nat} {x2 : Int} {x1 : List UInt8} {x29 : Bool} {r : (Arr 4 (UInt64)) × Int × Int} (h : brack_Parse_j2_ev fuel x2 x1 x29 = some r) : brack_Parse_j2 x2 x1 x29 r := by
 unfold brack_Parse_j2_ev at h
 unfold brack_Parse_j2
 refine ⟨fun g269 => ?_, fun g269 => ?_⟩
 ·rw [if_pos g269] at h
  obtain ⟨g270, h⟩ := if_ok h
  refine ⟨g270, ?_⟩
  exact brack_Parse_j3_ok h
 ·rw [if_neg g269] at h
  exact brack_Parse_j3_ok h
def brack_Parse_j1_ev (fuel : Nat) (x2 : Int) (x1 : List UInt8) (x17 : Bool) : Option ((Arr 4 (UInt64)) × Int × Int) :=
 (if x17 = true then some ((Arr.rep 4 (0 : UInt64)), 0, 1) else (if x2 < (x1.length : Int) then (if 0 ≤ (x2 : Int) then ((x1[(x2 : Int).toNat]?).bind fun y33 => brack_Parse_j2_ev fuel x2 x1 (decide ((y33.toNat : Int) = 94))) else none) else brack_Parse_j2_ev fuel x2 x1 false))
theorem brack_Parse_j1_ok {fuel : Nat} {x2 : Int} {x1 : List UInt8} {x17 : Bool} {r : (Arr 4 (UInt64)) × Int × Int} (h : brack_Parse_j1_ev fuel x2 x1 x17 = some r) : brack_Parse_j1 x2 x1 x17 r := by
 unfold brack_Parse_j1_ev at h
 unfold brack_Parse_j1
 refine ⟨fun g271 => ?_, fun g271 => ?_⟩
 ·rw [if_pos g271] at h
  exact (Option.some.inj h).symm
 ·rw [if_neg g271] at h
  refine ⟨fun g272 => ?_, fun g272 => ?_⟩
  ·rw [if_pos g272] at h
   obtain ⟨g273, h⟩ := if_ok h
   refine ⟨g273, ?_⟩
   obtain ⟨q274, g274, h⟩ := bind_ok h
   refine ⟨q274, g274, ?_⟩
   exact brack_Parse_j2_ok h
  ·rw [if_neg g272] at h
   exact brack_Parse_j2_ok h
def brack_Parse_ev (fuel : Nat) (x1 : List UInt8) (x2 : Int) : Option ((Arr 4 (UInt64)) × Int × Int) :=
 brack_Parse_j1_ev fuel x2 x1 ((decide (x2 < 0)) || (decide ((x1.length : Int) < x2)))
theorem brack_Parse_ok {fuel : Nat} {x1 : List UInt8} {x2 : Int} {r : (Arr 4 (UInt64)) × Int × Int} (h : brack_Parse_ev fuel x1 x2 = some r) : brack_Parse_R x1 x2 r := by
 unfold brack_Parse_ev at h
 unfold brack_Parse_R
 exact brack_Parse_j1_ok h
set_option maxHeartbeats 4000000 in
theorem brack_Parse_con (x1 : List UInt8) (x2 : Int) (r : (Arr 4 (UInt64)) × Int × Int) (h : brack_Parse_R x1 x2 r) : Con Try.prog 49 [.sl 1 none (List.map eb x1), .v (.int .i64 x2)] [] [] (fun rr bx tk => rr = .tup [.agg ((List.map ew r.1.l).flatten), .v (.int .i64 r.2.1), .v (.int .i64 r.2.2)] ∧ bx = [] ∧ tk = []) := by
 refine xenter Try.func49 rfl rfl fun g hg => ?_
 simp only [Try.ntmps49, slots]
 unfold brack_Parse_R at h
 refine sr_ ?_
 refine xalloc InfC.h rfl rfl fun b4 => ?_
 refine xreb 0 ((List.map ew ((Arr.rep 4 (0 : UInt64))).l).flatten) rfl rfl ?_
 refine as_ ?_
 refine as_ ?_
 refine nt_ ?_
 refine xseq ?_
 refine xseqM (fun σ => ∃ (x17 : Bool), brack_Parse_j1 x2 x1 x17 r ∧ σ = ⟨[(0, .sl 1 none (List.map eb x1)), (1, .v (.int .i64 x2)), (4, .v (.pointer (some ⟨b4, 0, none⟩))), (20, .v (.bool x17))], [⟨b4, 40, ((List.map ew ((Arr.rep 4 (0 : UInt64))).l).flatten)⟩], []⟩) ?_ ?_
 ·refine xregion ?_
  refine mv_ ?_
  refine vp_ (pv_bin2 rfl rfl rfl) ?_
  refine mv_ ?_
  by_cases hp19 : x2 < 0
  ·rw [or_tt (show (decide (x2 < 0)) = true from (decide_eq_true hp19))] at h
   refine xsetB 15 (decide_eq_true hp19) rfl ?_
   refine sk_ ?_
   refine sk_ ?_
   refine sk_ ?_
   refine sk_ ?_
   refine pk_ ?_
   refine xnil ?_
   exact xmeet ⟨true, h, rfl⟩ ⟨lk_, (SubM.of (.keep rfl rfl (.refl _) (.nil _)) (.nil _))⟩
  ·rw [or_ff (show (decide (x2 < 0)) = false from (decide_eq_false hp19))] at h
   refine xsetB 15 (decide_eq_false hp19) rfl ?_
   refine mv_ ?_
   refine mv_ ?_
   refine vp_ (pv_lenM UndC.h rfl) ?_
   refine vp_ (pv_bin2 rfl rfl rfl) ?_
   refine pk_ ?_
   refine xnil ?_
   exact xmeet ⟨(decide ((x1.length : Int) < x2)), h, rfl⟩ ⟨lk_, (SubM.of (.keep rfl rfl (.refl _) (.nil _)) (.nil _))⟩
 ·clear h
  rintro _ ⟨x17, h, rfl⟩
  by_cases hp22 : x17 = true
  ·replace h := h.1 hp22
   refine xcondT' hp22 rfl ?_
   refine sr_ ?_
   refine vp_ (pv_buildAC (cs := ((List.map ew ((Arr.rep 4 (0 : UInt64))).l).flatten)) UndC.h ShpC.h InfC.h rfl (by rfl)) ?_
   refine xstoreQ 0 [] ((List.map ew ((Arr.rep 4 (0 : UInt64))).l).flatten) [] ((List.map ew ((Arr.rep 4 (0 : UInt64))).l).flatten) ShpC.h rfl rfl rfl rfl rfl ?_
   refine as_ ?_
   refine as_ ?_
   refine nt_ ?_
   refine xretc ?_
   refine xthen_ret ?_
   replace h := h.symm
   subst h
   exact xretL (rs := [.cell 4 40, .tmp 5, .tmp 6]) (ss := [.agg ((List.map ew ((Arr.rep 4 (0 : UInt64))).l).flatten), .v (.int .i64 0), .v (.int .i64 1)]) hg rfl (by refine RetL.cell 0 ShpC.h rfl rfl (part_midE (pre := []) (mid := ((List.map ew ((Arr.rep 4 (0 : UInt64))).l).flatten)) (post := []) sq_ sl_ sl_ (part_all (seg_lenE (by rfl)))) (len_midE (pre := []) (mid := ((List.map ew ((Arr.rep 4 (0 : UInt64))).l).flatten)) (post := []) sq_ sl_ sl_) wk_ ?_; refine RetL.tmp rfl (.refl _) ?_; refine RetL.tmp rfl (.refl _) ?_; exact RetL.nil) (SubM.of (.nil _) (.nil _)) ⟨rfl, rfl, rfl⟩
  ·replace h := h.2 hp22
   refine xcondF' (b_f hp22) rfl ?_
   refine xskipc ?_
   refine xthen ?_
   refine xseqM (fun σ => ∃ (x29 : Bool), brack_Parse_j2 x2 x1 x29 r ∧ σ = ⟨[(0, .sl 1 none (List.map eb x1)), (1, .v (.int .i64 x2)), (4, .v (.pointer (some ⟨b4, 0, none⟩))), (7, .v (.bool x29))], [⟨b4, 40, ((List.map ew ((Arr.rep 4 (0 : UInt64))).l).flatten)⟩], []⟩) ?_ ?_
   ·refine xregion ?_
    refine mv_ ?_
    refine mv_ ?_
    refine vp_ (pv_lenM UndC.h rfl) ?_
    refine vp_ (pv_bin2 rfl rfl rfl) ?_
    refine mv_ ?_
    by_cases hp32 : x2 < (x1.length : Int)
    ·replace h := h.1 hp32
     refine xsetB 26 (decide_eq_true hp32) rfl ?_
     refine mv_ ?_
     refine mv_ ?_
     obtain ⟨h34a, h⟩ := h
     obtain ⟨y33, h34b, h⟩ := h
     refine vp_ (pv_indexAddrM h34a h34b UndC.h ShpC.h rfl rfl) ?_
     refine v_ (qv_load ShpC.h rfl rfl rfl) ?_
     refine vp_ (pv_bin2 rfl rfl rfl) ?_
     refine pk_ ?_
     refine as_ ?_
     refine xnil ?_
     exact xmeet ⟨(decide ((y33.toNat : Int) = 94)), h, rfl⟩ ⟨lk_, (SubM.of (.keep rfl rfl (.refl _) (.nil _)) (.nil _))⟩
    ·replace h := h.2 hp32
     refine xsetB 26 (decide_eq_false hp32) rfl ?_
     refine sk_ ?_
     refine sk_ ?_
     refine sk_ ?_
     refine sk_ ?_
     refine sk_ ?_
     refine pk_ ?_
     refine as_ ?_
     refine xnil ?_
     exact xmeet ⟨false, h, rfl⟩ ⟨lk_, (SubM.of (.keep rfl rfl (.refl _) (.nil _)) (.nil _))⟩
   ·clear h
    rintro _ ⟨x29, h, rfl⟩
    refine xseqM (fun σ => ∃ (x38 : Int), brack_Parse_j3 x1 x29 x38 r ∧ σ = ⟨[(0, .sl 1 none (List.map eb x1)), (1, .v (.int .i64 x38)), (4, .v (.pointer (some ⟨b4, 0, none⟩))), (7, .v (.bool x29))], [⟨b4, 40, ((List.map ew ((Arr.rep 4 (0 : UInt64))).l).flatten)⟩], []⟩) ?_ ?_
    ·refine xseq ?_
     refine xregion ?_
     refine mv_ ?_
     refine nt_ ?_
     by_cases hp39 : x29 = true
     ·replace h := h.1 hp39
      refine xcondT' hp39 rfl ?_
      refine xregion ?_
      refine mv_ ?_
      obtain ⟨h40, h⟩ := h
      refine vp_ (pv_addI h40 rfl rfl) ?_
      refine as_ ?_
      refine xnil ?_
      exact xmeet ⟨(x2 + 1), h, rfl⟩ ⟨lk_, (SubM.of (.keep rfl rfl (.refl _) (.nil _)) (.nil _))⟩
     ·replace h := h.2 hp39
      refine xcondF' (b_f hp39) rfl ?_
      refine xskipc ?_
      exact xmeet ⟨x2, h, rfl⟩ ⟨lk_, (SubM.of (.keep rfl rfl (.refl _) (.nil _)) (.nil _))⟩
    ·clear h
     rintro _ ⟨x38, h, rfl⟩
     refine sr_ ?_
     refine xalloc InfC.h rfl rfl fun b8 => ?_
     refine xreb 0 ((List.map ew ((Arr.rep 4 (0 : UInt64))).l).flatten) rfl rfl ?_
     refine nt_ ?_
     refine xseq ?_
     refine sr_ ?_
     refine as_ ?_
     refine nt_ ?_
     refine xblock ?_
     obtain ⟨Inv, ⟨m0, hI⟩, hS⟩ := h
     refine xloop (fun σ m => ∃ (x340 : Int), ∃ (x341 : Bool), ∃ (f342 : Arr 4 (UInt64)), Inv (x340, x341, f342) m ∧ σ = ⟨[(0, .sl 1 none (List.map eb x1)), (1, .v (.int .i64 x340)), (4, .v (.pointer (some ⟨b4, 0, none⟩))), (7, .v (.bool x29)), (8, .v (.pointer (some ⟨b8, 0, none⟩))), (9, .v (.bool x341))], [⟨b8, 40, ((List.map ew f342.l).flatten)⟩, ⟨b4, 40, ((List.map ew ((Arr.rep 4 (0 : UInt64))).l).flatten)⟩], []⟩) ⟨x38, true, (Arr.rep 4 (0 : UInt64)), hI, rfl⟩ (by exact ⟨lk_, (SubM.of (.keep rfl rfl (.refl _) (.keep rfl rfl (.refl _) (.nil _))) (.nil _))⟩) ?_
     rintro _ m ⟨x340, x341, f342, hI, rfl⟩
     obtain ⟨ag4, hag4, h⟩ : ∃ ag, (∀ s', ag s' → ∃ m', m' < m ∧ Inv s' m') ∧ brack_Parse_l4 x1 x29 ag x340 x341 f342 r := ⟨_, fun _ h => h, hS (x340, x341, f342) _ hI⟩
     clear hS hI
     refine xseq ?_
     refine xblock ?_
     refine xseqM (fun σ => brack_Parse_j5 x1 x340 f342 ag4 r ∧ σ = ⟨[(0, .sl 1 none (List.map eb x1)), (1, .v (.int .i64 x340)), (4, .v (.pointer (some ⟨b4, 0, none⟩))), (7, .v (.bool x29)), (8, .v (.pointer (some ⟨b8, 0, none⟩)))], [⟨b8, 40, ((List.map ew f342.l).flatten)⟩, ⟨b4, 40, ((List.map ew ((Arr.rep 4 (0 : UInt64))).l).flatten)⟩], []⟩) ?_ ?_
     ·refine xseq ?_
      refine xregion ?_
      refine mv_ ?_
      refine mv_ ?_
      refine vp_ (pv_lenM UndC.h rfl) ?_
      refine vp_ (pv_bin2 rfl rfl rfl) ?_
      refine mv_ ?_
      by_cases hp481 : x340 < (x1.length : Int)
      ·replace h := h.1 hp481
       refine xsetB 40 (decide_eq_true hp481) rfl ?_
       refine mv_ ?_
       refine mv_ ?_
       obtain ⟨h483a, h⟩ := h
       obtain ⟨y482, h483b, h⟩ := h
       refine vp_ (pv_indexAddrM h483a h483b UndC.h ShpC.h rfl rfl) ?_
       refine v_ (qv_load ShpC.h rfl rfl rfl) ?_
       refine vp_ (pv_bin2 rfl rfl rfl) ?_
       refine pk_ ?_
       refine mv_ ?_
       by_cases hp485 : (y482.toNat : Int) = 93
       ·replace h := h.1 hp485
        refine xsetB 47 (decide_eq_true hp485) rfl ?_
        refine mv_ ?_
        refine vp_ (pv_not rfl) ?_
        refine pk_ ?_
        refine nt_ ?_
        by_cases hp486 : ¬ (x341 = true)
        ·replace h := h.1 hp486
         refine xcondT' (not_t (b_f hp486)) rfl ?_
         refine xexit ?_
         refine xthen_exit ?_
         refine xin_other rfl ?_
         refine xthen_exit ?_
         refine xthen_exit ?_
         refine xin_same rfl ?_
         refine xthen ?_
         refine xseqM (fun σ => ∃ (f490 : Arr 4 (UInt64)), brack_Parse_j6 x340 f490 r ∧ σ = ⟨[(1, .v (.int .i64 x340)), (4, .v (.pointer (some ⟨b4, 0, none⟩))), (8, .v (.pointer (some ⟨b8, 0, none⟩)))], [⟨b8, 40, ((List.map ew f490.l).flatten)⟩, ⟨b4, 40, ((List.map ew ((Arr.rep 4 (0 : UInt64))).l).flatten)⟩], []⟩) ?_ ?_
         ·refine xseq ?_
          refine xregion ?_
          refine mv_ ?_
          refine nt_ ?_
          by_cases hp491 : x29 = true
          ·replace h := h.1 hp491
           refine xcondT' hp491 rfl ?_
           refine xregion ?_
           refine v_ (qv_loadP 0 [] ((List.map ew f342.l).flatten) [] sq_ sl_ sl_ (part_all (seg_lenE (by rfl))) ShpC.h rfl rfl) ?_
           obtain ⟨y493, h492, h⟩ := h
           refine xcall0 (class_Not_con f342 _ h492) Try.func48 (by kernel_rfl) rfl (.cons rfl (.refl _) .nil) rfl rfl ?_
           refine xstoreQ 0 [] ((List.map ew f342.l).flatten) [] ((List.map ew y493.l).flatten) ShpC.h rfl rfl rfl rfl rfl ?_
           refine xnil ?_
           exact xmeet ⟨y493, h, rfl⟩ ⟨lk_, (SubM.of (.keep rfl rfl (.refl _) (.keep rfl rfl (.refl _) (.nil _))) (.nil _))⟩
          ·replace h := h.2 hp491
           refine xcondF' (b_f hp491) rfl ?_
           refine xskipc ?_
           exact xmeet ⟨f342, h, rfl⟩ ⟨lk_, (SubM.of (.keep rfl rfl (.refl _) (.keep rfl rfl (.refl _) (.nil _))) (.nil _))⟩
         ·clear h
          rintro _ ⟨f490, h, rfl⟩
          refine sr_ ?_
          refine v_ (qv_loadP 0 [] ((List.map ew f490.l).flatten) [] sq_ sl_ sl_ (part_all (seg_lenE (by rfl))) ShpC.h rfl rfl) ?_
          refine mv_ ?_
          obtain ⟨h494, h⟩ := h
          refine vp_ (pv_addI h494 rfl rfl) ?_
          refine xstoreQ 1 [] ((List.map ew ((Arr.rep 4 (0 : UInt64))).l).flatten) [] ((List.map ew f490.l).flatten) ShpC.h rfl rfl rfl rfl rfl ?_
          refine as_ ?_
          refine as_ ?_
          refine nt_ ?_
          refine xretc ?_
          replace h := h.symm
          subst h
          exact xretL (rs := [.cell 4 40, .tmp 5, .tmp 6]) (ss := [.agg ((List.map ew f490.l).flatten), .v (.int .i64 ((x340 + 1))), .v (.int .i64 0)]) hg rfl (by refine RetL.cell 1 ShpC.h rfl rfl (part_midE (pre := []) (mid := ((List.map ew f490.l).flatten)) (post := []) sq_ sl_ sl_ (part_all (seg_lenE (by rfl)))) (len_midE (pre := []) (mid := ((List.map ew f490.l).flatten)) (post := []) sq_ sl_ sl_) wk_ ?_; refine RetL.tmp rfl (.refl _) ?_; refine RetL.tmp rfl (.refl _) ?_; exact RetL.nil) (SubM.of (.nil _) (.nil _)) ⟨rfl, rfl, rfl⟩
        ·replace h := h.2 hp486
         refine xcondF' (not_f (Decidable.of_not_not hp486)) rfl ?_
         refine xskipc ?_
         exact xmeet ⟨h, rfl⟩ ⟨lk_, (SubM.of (.keep rfl rfl (.refl _) (.keep rfl rfl (.refl _) (.nil _))) (.nil _))⟩
       ·replace h := h.2 hp485
        refine xsetB 47 (decide_eq_false hp485) rfl ?_
        refine sk_ ?_
        refine sk_ ?_
        refine pk_ ?_
        refine nt_ ?_
        refine xcondF rfl ?_
        refine xskipc ?_
        exact xmeet ⟨h, rfl⟩ ⟨lk_, (SubM.of (.keep rfl rfl (.refl _) (.keep rfl rfl (.refl _) (.nil _))) (.nil _))⟩
      ·replace h := h.2 hp481
       refine xsetB 40 (decide_eq_false hp481) rfl ?_
       refine sk_ ?_
       refine sk_ ?_
       refine sk_ ?_
       refine sk_ ?_
       refine sk_ ?_
       refine pk_ ?_
       refine mv_ ?_
       refine sk_ ?_
       refine sk_ ?_
       refine pk_ ?_
       refine nt_ ?_
       refine xcondF rfl ?_
       refine xskipc ?_
       exact xmeet ⟨h, rfl⟩ ⟨lk_, (SubM.of (.keep rfl rfl (.refl _) (.keep rfl rfl (.refl _) (.nil _))) (.nil _))⟩
     ·clear h
      rintro _ ⟨h, rfl⟩
      refine sr_ ?_
      refine mv_ ?_
      refine mv_ ?_
      obtain ⟨y496, h495, h⟩ := h
      refine xcallF (Fb := [⟨b8, 40, ((List.map ew f342.l).flatten)⟩, ⟨b4, 40, ((List.map ew ((Arr.rep 4 (0 : UInt64))).l).flatten)⟩]) (Ft := []) (brack_part_con x1 x340 _ h495) Try.func65 (by kernel_rfl) rfl (.cons rfl (.refl _) (.cons rfl (.refl _) .nil)) (by exact sm_) rfl rfl ?_
      rintro _ _ _ ⟨rfl, rfl, rfl⟩
      simp only [List.nil_append, List.cons_append]
      refine mv_ ?_
      refine vp_ (pv_extract rfl rfl) ?_
      refine vp_ (pv_extract rfl rfl) ?_
      refine vp_ (pv_extract rfl rfl) ?_
      refine xalloc InfC.h rfl rfl fun b10 => ?_
      refine xreb 0 ((List.map ew ((Arr.rep 4 (0 : UInt64))).l).flatten) rfl rfl ?_
      refine xstoreQ 0 [] ((List.map ew ((Arr.rep 4 (0 : UInt64))).l).flatten) [] ((List.map ew y496.1.l).flatten) ShpC.h rfl rfl rfl rfl rfl ?_
      refine as_ ?_
      refine as_ ?_
      refine nt_ ?_
      refine xseq ?_
      refine sr_ ?_
      refine mv_ ?_
      refine vp_ (pv_bin2 rfl rfl rfl) ?_
      refine nt_ ?_
      by_cases hp500 : ¬ (y496.2.2 = 0)
      ·replace h := h.1 hp500
       refine xcondT' (not_t (decide_eq_false hp500)) rfl ?_
       refine sr_ ?_
       refine vp_ (pv_buildAC (cs := ((List.map ew ((Arr.rep 4 (0 : UInt64))).l).flatten)) UndC.h ShpC.h InfC.h rfl (by rfl)) ?_
       refine mv_ ?_
       refine xstoreQ 2 [] ((List.map ew ((Arr.rep 4 (0 : UInt64))).l).flatten) [] ((List.map ew ((Arr.rep 4 (0 : UInt64))).l).flatten) ShpC.h rfl rfl rfl rfl rfl ?_
       refine as_ ?_
       refine as_ ?_
       refine nt_ ?_
       refine xretc ?_
       refine xthen_ret ?_
       refine xin_ret ?_
       refine xthen_ret ?_
       refine xthen_ret ?_
       refine xin_ret ?_
       refine xthen_ret ?_
       replace h := h.symm
       subst h
       exact xretL (rs := [.cell 4 40, .tmp 5, .tmp 6]) (ss := [.agg ((List.map ew ((Arr.rep 4 (0 : UInt64))).l).flatten), .v (.int .i64 0), .v (.int .i64 y496.2.2)]) hg rfl (by refine RetL.cell 2 ShpC.h rfl rfl (part_midE (pre := []) (mid := ((List.map ew ((Arr.rep 4 (0 : UInt64))).l).flatten)) (post := []) sq_ sl_ sl_ (part_all (seg_lenE (by rfl)))) (len_midE (pre := []) (mid := ((List.map ew ((Arr.rep 4 (0 : UInt64))).l).flatten)) (post := []) sq_ sl_ sl_) wk_ ?_; refine RetL.tmp rfl (.refl _) ?_; refine RetL.tmp rfl (.refl _) ?_; exact RetL.nil) (SubM.of (.nil _) (.nil _)) ⟨rfl, rfl, rfl⟩
      ·replace h := h.2 hp500
       refine xcondF' (not_f (decide_eq_true (Decidable.of_not_not hp500))) rfl ?_
       refine xskipc ?_
       refine xthen ?_
       refine xregion ?_
       refine v_ (qv_loadP 1 [] ((List.map ew f342.l).flatten) [] sq_ sl_ sl_ (part_all (seg_lenE (by rfl))) ShpC.h rfl rfl) ?_
       refine v_ (qv_loadP 0 [] ((List.map ew y496.1.l).flatten) [] sq_ sl_ sl_ (part_all (seg_lenE (by rfl))) ShpC.h rfl rfl) ?_
       refine xbuildSliceME (f := E_palinode_api_Set) [f342, y496.1] UndC.h InfC.h rfl (.cons rfl (beq_of (seg_lenE (by rfl))) rfl rfl (.cons rfl (beq_of (seg_lenE (by rfl))) rfl rfl .nil)) wr_ rfl rfl rfl rfl fun s64 => ?_
       obtain ⟨y502, h501, h⟩ := h
       refine xcall0 (class_Union_con ([f342, y496.1]) _ h501) Try.func66 (by kernel_rfl) rfl (.cons rfl (.tok _ _ _) .nil) rfl rfl ?_
       refine mv_ ?_
       refine xstoreQ 1 [] ((List.map ew f342.l).flatten) [] ((List.map ew y502.l).flatten) ShpC.h rfl rfl rfl rfl rfl ?_
       refine as_ ?_
       refine xnil ?_
       refine xin_normal ?_
       refine xthen ?_
       refine xregion ?_
       refine as_ ?_
       refine xnil ?_
       obtain ⟨m', hm, hI⟩ := hag4 _ h
       exact xagain ⟨y496.2.1, false, y502, hI, rfl⟩ hm ⟨lk_, (SubM.of (.drop (.keep rfl rfl (.refl _) (.keep rfl rfl (.refl _) (.nil _)))) (.nil _))⟩
/-- (*bre.parser).isEnd -/
def bre_parser_isEnd_R (o1 : ((List (Int × Int × Int × Int × Int × Int × (Arr 4 (UInt64)))) × Int) × (List UInt8) × Int × (Arr 10 (Bool))) (r : Bool) : Prop :=
 InR (o1.2.2.1 + 1) ∧ (((o1.2.2.1 + 1) = (o1.2.1.length : Int) → r = true) ∧ (¬ ((o1.2.2.1 + 1) = (o1.2.1.length : Int)) → ∃ y14 : Bool, bre_parser_has_R ((o1.1.1, o1.1.2), o1.2.1, o1.2.2.1, o1.2.2.2) (⟨#[36, 92, 41]⟩ : ByteArray) y14 ∧ r = y14))
def bre_parser_isEnd_ev (fuel : Nat) (o1 : ((List (Int × Int × Int × Int × Int × Int × (Arr 4 (UInt64)))) × Int) × (List UInt8) × Int × (Arr 10 (Bool))) : Option (Bool) :=
 (if InR (o1.2.2.1 + 1) then (if (o1.2.2.1 + 1) = (o1.2.1.length : Int) then some true else ((bre_parser_has_ev fuel ((o1.1.1, o1.1.2), o1.2.1, o1.2.2.1, o1.2.2.2) (⟨#[36, 92, 41]⟩ : ByteArray)).bind fun y14 => some y14)) else none)
theorem bre_parser_isEnd_ok {fuel : Nat} {o1 : ((List (Int × Int × Int × Int × Int × Int × (Arr 4 (UInt64)))) × Int) × (List UInt8) × Int × (Arr 10 (Bool))} {r : Bool} (h : bre_parser_isEnd_ev fuel o1 = some r) : bre_parser_isEnd_R o1 r := by
 unfold bre_parser_isEnd_ev at h
 unfold bre_parser_isEnd_R
 obtain ⟨g275, h⟩ := if_ok h
 refine ⟨g275, ?_⟩
 refine ⟨fun g276 => ?_, fun g276 => ?_⟩
 ·rw [if_pos g276] at h
  exact (Option.some.inj h).symm
 ·rw [if_neg g276] at h
  obtain ⟨q277, g277, h⟩ := bind_ok h
  refine ⟨q277, bre_parser_has_ok g277, ?_⟩
  exact (Option.some.inj h).symm
set_option maxHeartbeats 4000000 in
theorem bre_parser_isEnd_con (o1 : ((List (Int × Int × Int × Int × Int × Int × (Arr 4 (UInt64)))) × Int) × (List UInt8) × Int × (Arr 10 (Bool))) (bx0 : Nat) (ia2 : Option (Nat × Nat)) (r : Bool) (h : bre_parser_isEnd_R o1 r) : Con Try.prog 50 [.v (.pointer (some ⟨bx0, 0, none⟩))] [⟨bx0, 50, ([.sl 10 (some ia2) (List.map E_palinode_api_Node o1.1.1), .v (.int .i64 o1.1.2), .sl 1 none (List.map eb o1.2.1), .v (.int .i64 o1.2.2.1)] ++ (List.map eB o1.2.2.2.l).flatten)⟩] [⟨ia2, 42, 10, o1.1.1.length⟩] (fun rr bx tk => rr = .v (.bool r) ∧ bx = [⟨bx0, 50, ([.sl 10 (some ia2) (List.map E_palinode_api_Node o1.1.1), .v (.int .i64 o1.1.2), .sl 1 none (List.map eb o1.2.1), .v (.int .i64 o1.2.2.1)] ++ (List.map eB o1.2.2.2.l).flatten)⟩] ∧ tk = [⟨ia2, 42, 10, o1.1.1.length⟩]) := by
 refine xenter Try.func50 rfl rfl fun g hg => ?_
 simp only [Try.ntmps50, slots]
 refine sr_ ?_
 refine as_ ?_
 refine nt_ ?_
 refine xseq ?_
 refine xregionD (m := 16) (by kernel_rfl) rfl ?_
 obtain ⟨h9, h⟩ := h
 refine pl_ 0 rfl (pv_move rfl) ?_
 refine pl_ 1 rfl (pv_nilCheck rfl) ?_
 refine pl_ 2 rfl (qv_fieldAddrB FldC.h rfl) ?_
 refine pl_ 5 rfl (pv_move rfl) ?_
 refine pl_ 6 rfl (pv_nilCheck rfl) ?_
 refine pl_ 7 rfl (qv_fieldAddrB FldC.h rfl) ?_
 refine xpvalE 3 [8, 9] rfl (qv_loadB 0 ShpC.h rfl rfl rfl rfl) rfl rfl (by kernel_rfl) (by kernel_rfl) (by kernel_rfl) (fun _ _ _ _ h => h) ?_
 refine pl_ 4 rfl (pv_addI h9 rfl rfl) ?_
 refine xpvalE 8 [] rfl (qv_loadB 0 ShpC.h rfl rfl rfl rfl) rfl rfl (by kernel_rfl) (by kernel_rfl) (by kernel_rfl) (fun _ _ _ _ h => h) ?_
 refine pl_ 9 rfl (pv_lenM UndC.h rfl) ?_
 refine pl_ 10 rfl (pv_bin2 rfl rfl rfl) ?_
 refine pl_ 11 rfl (pv_move rfl) ?_
 by_cases hp12 : (o1.2.2.1 + 1) = (o1.2.1.length : Int)
 ·replace h := h.1 hp12
  refine psetB 14 (decide_eq_true hp12) rfl ?_
  refine xpskip 12 rfl rfl rfl (by kernel_rfl) (by kernel_rfl) (by kernel_rfl) (fun _ _ _ _ h => h) ?_
  refine xpskip 13 rfl rfl rfl (by kernel_rfl) (by kernel_rfl) (by kernel_rfl) (fun _ _ _ _ h => h) ?_
  refine pl_ 14 rfl (pv_pick rfl rfl) ?_
  refine pl_ 15 rfl (pv_assign rfl) ?_
  refine xpdone (by kernel_rfl) ?_
  refine xthen ?_
  refine xretc ?_
  replace h := h.symm
  subst h
  exact xret1 hg rfl rfl (.refl _) (SubM.of (.keep rfl rfl (.refl _) (.nil _)) (.keep rfl (.nil _))) ⟨rfl, rfl, rfl⟩
 ·replace h := h.2 hp12
  refine psetB 14 (decide_eq_false hp12) rfl ?_
  obtain ⟨y14, h13, h⟩ := h
  refine pl_ 12 rfl (pv_move rfl) ?_
  refine xpstep (i := 13) (by kernel_rfl) rfl ?_
  refine wcallF (Fb := []) (Ft := []) (bre_parser_has_con ((o1.1.1, o1.1.2), o1.2.1, o1.2.2.1, o1.2.2.2) (⟨#[36, 92, 41]⟩ : ByteArray) bx0 ia2 _ h13) Try.func20 (by kernel_rfl) rfl (.cons rfl (.refl _) (.cons rfl (.refl _) .nil)) (by exact sm_) rfl rfl ?_
  rintro _ _ _ ⟨rfl, rfl, rfl⟩
  simp only [List.nil_append, List.cons_append]
  refine pl_ 14 rfl (pv_pick rfl rfl) ?_
  refine pl_ 15 rfl (pv_assign rfl) ?_
  refine xpdone (by kernel_rfl) ?_
  refine xthen ?_
  refine xretc ?_
  replace h := h.symm
  subst h
  exact xret1 hg rfl rfl (.refl _) (SubM.of (.keep rfl rfl (.refl _) (.nil _)) (.keep rfl (.nil _))) ⟨rfl, rfl, rfl⟩
/-- (*tree.Builder).Eol -/
def tree_Builder_Eol_R (o1 : ((List (Int × Int × Int × Int × Int × Int × (Arr 4 (UInt64)))) × Int) × (List UInt8) × Int × (Arr 10 (Bool))) (r : Int × (((List (Int × Int × Int × Int × Int × Int × (Arr 4 (UInt64)))) × Int) × (List UInt8) × Int × (Arr 10 (Bool)))) : Prop :=
 ∃ y4 : Int × (((List (Int × Int × Int × Int × Int × Int × (Arr 4 (UInt64)))) × Int) × (List UInt8) × Int × (Arr 10 (Bool))), tree_Builder_put_R ((o1.1.1, o1.1.2), o1.2.1, o1.2.2.1, o1.2.2.2) (8, 0, 0, 0, 0, 0, (Arr.rep 4 (0 : UInt64))) y4 ∧ r = (y4.1, ((y4.2.1.1, y4.2.1.2), y4.2.2.1, y4.2.2.2.1, y4.2.2.2.2))
def tree_Builder_Eol_ev (fuel : Nat) (o1 : ((List (Int × Int × Int × Int × Int × Int × (Arr 4 (UInt64)))) × Int) × (List UInt8) × Int × (Arr 10 (Bool))) : Option (Int × (((List (Int × Int × Int × Int × Int × Int × (Arr 4 (UInt64)))) × Int) × (List UInt8) × Int × (Arr 10 (Bool)))) :=
 ((tree_Builder_put_ev fuel ((o1.1.1, o1.1.2), o1.2.1, o1.2.2.1, o1.2.2.2) (8, 0, 0, 0, 0, 0, (Arr.rep 4 (0 : UInt64)))).bind fun y4 => some (y4.1, ((y4.2.1.1, y4.2.1.2), y4.2.2.1, y4.2.2.2.1, y4.2.2.2.2)))
theorem tree_Builder_Eol_ok {fuel : Nat} {o1 : ((List (Int × Int × Int × Int × Int × Int × (Arr 4 (UInt64)))) × Int) × (List UInt8) × Int × (Arr 10 (Bool))} {r : Int × (((List (Int × Int × Int × Int × Int × Int × (Arr 4 (UInt64)))) × Int) × (List UInt8) × Int × (Arr 10 (Bool)))} (h : tree_Builder_Eol_ev fuel o1 = some r) : tree_Builder_Eol_R o1 r := by
 unfold tree_Builder_Eol_ev at h
 unfold tree_Builder_Eol_R
 obtain ⟨q278, g278, h⟩ := bind_ok h
 refine ⟨q278, tree_Builder_put_ok g278, ?_⟩
 exact (Option.some.inj h).symm
set_option maxHeartbeats 4000000 in
theorem tree_Builder_Eol_con (o1 : ((List (Int × Int × Int × Int × Int × Int × (Arr 4 (UInt64)))) × Int) × (List UInt8) × Int × (Arr 10 (Bool))) (bx0 : Nat) (ia2 : Option (Nat × Nat)) (r : Int × (((List (Int × Int × Int × Int × Int × Int × (Arr 4 (UInt64)))) × Int) × (List UInt8) × Int × (Arr 10 (Bool)))) (h : tree_Builder_Eol_R o1 r) : Con Try.prog 51 [.v (.pointer (some ⟨bx0, 0, none⟩))] [⟨bx0, 50, ([.sl 10 (some ia2) (List.map E_palinode_api_Node o1.1.1), .v (.int .i64 o1.1.2), .sl 1 none (List.map eb o1.2.1), .v (.int .i64 o1.2.2.1)] ++ (List.map eB o1.2.2.2.l).flatten)⟩] [⟨ia2, 42, 10, o1.1.1.length⟩] (fun rr bx tk => ∃ j1, rr = .v (.int .i64 r.1) ∧ bx = [⟨bx0, 50, ([.sl 10 (some j1) (List.map E_palinode_api_Node r.2.1.1), .v (.int .i64 r.2.1.2), .sl 1 none (List.map eb r.2.2.1), .v (.int .i64 r.2.2.2.1)] ++ (List.map eB r.2.2.2.2.l).flatten)⟩] ∧ tk = [⟨j1, 42, 10, r.2.1.1.length⟩]) := by
 refine xenter Try.func51 rfl rfl fun g hg => ?_
 simp only [Try.ntmps51, slots]
 refine sr_ ?_
 refine as_ ?_
 refine nt_ ?_
 refine sr_ ?_
 refine mv_ ?_
 refine vp_ (pv_buildC (cs := ([.v (.int .i64 8), .v (.int .i64 0), .v (.int .i64 0), .v (.int .i64 0), .v (.int .i64 0), .v (.int .i64 0)] ++ (List.map ew ((Arr.rep 4 (0 : UInt64))).l).flatten)) StrC.h rfl (by refine fill_step [] [.v (.int .i64 0)] ([.v (.int .i64 0), .v (.int .i64 0), .v (.int .i64 0), .v (.int .i64 0), .v (.int .i64 0)] ++ (List.map ew ((Arr.rep 4 (0 : UInt64))).l).flatten) sq_ sl_ sl_ sl_ rfl rfl ?_; exact congrArg some sq_)) ?_
 obtain ⟨y4, h3, h⟩ := h
 refine xcallF (Fb := []) (Ft := []) (tree_Builder_put_con ((o1.1.1, o1.1.2), o1.2.1, o1.2.2.1, o1.2.2.2) (8, 0, 0, 0, 0, 0, (Arr.rep 4 (0 : UInt64))) bx0 ia2 _ h3) Try.func31 (by kernel_rfl) rfl (.cons rfl (.refl _) (.cons rfl (.refl _) .nil)) (by exact sm_) rfl rfl ?_
 rintro _ _ _ ⟨i5, rfl, rfl, rfl⟩
 simp only [List.nil_append, List.cons_append]
 refine as_ ?_
 refine nt_ ?_
 refine xretc ?_
 replace h := h.symm
 subst h
 exact xret1 hg rfl rfl (.refl _) (SubM.of (.keep rfl rfl (.refl _) (.nil _)) (.keep rfl (.nil _))) ⟨i5, rfl, rfl, rfl⟩
/-- (*tree.Builder).Back -/
def tree_Builder_Back_R (o1 : ((List (Int × Int × Int × Int × Int × Int × (Arr 4 (UInt64)))) × Int) × (List UInt8) × Int × (Arr 10 (Bool))) (gv3 : Int) (r : Int × (((List (Int × Int × Int × Int × Int × Int × (Arr 4 (UInt64)))) × Int) × (List UInt8) × Int × (Arr 10 (Bool)))) : Prop :=
 ∃ y5 : Int × (((List (Int × Int × Int × Int × Int × Int × (Arr 4 (UInt64)))) × Int) × (List UInt8) × Int × (Arr 10 (Bool))), tree_Builder_put_R ((o1.1.1, o1.1.2), o1.2.1, o1.2.2.1, o1.2.2.2) (6, 0, 0, 0, 0, gv3, (Arr.rep 4 (0 : UInt64))) y5 ∧ r = (y5.1, ((y5.2.1.1, y5.2.1.2), y5.2.2.1, y5.2.2.2.1, y5.2.2.2.2))
def tree_Builder_Back_ev (fuel : Nat) (o1 : ((List (Int × Int × Int × Int × Int × Int × (Arr 4 (UInt64)))) × Int) × (List UInt8) × Int × (Arr 10 (Bool))) (gv3 : Int) : Option (Int × (((List (Int × Int × Int × Int × Int × Int × (Arr 4 (UInt64)))) × Int) × (List UInt8) × Int × (Arr 10 (Bool)))) :=
 ((tree_Builder_put_ev fuel ((o1.1.1, o1.1.2), o1.2.1, o1.2.2.1, o1.2.2.2) (6, 0, 0, 0, 0, gv3, (Arr.rep 4 (0 : UInt64)))).bind fun y5 => some (y5.1, ((y5.2.1.1, y5.2.1.2), y5.2.2.1, y5.2.2.2.1, y5.2.2.2.2)))
theorem tree_Builder_Back_ok {fuel : Nat} {o1 : ((List (Int × Int × Int × Int × Int × Int × (Arr 4 (UInt64)))) × Int) × (List UInt8) × Int × (Arr 10 (Bool))} {gv3 : Int} {r : Int × (((List (Int × Int × Int × Int × Int × Int × (Arr 4 (UInt64)))) × Int) × (List UInt8) × Int × (Arr 10 (Bool)))} (h : tree_Builder_Back_ev fuel o1 gv3 = some r) : tree_Builder_Back_R o1 gv3 r := by
 unfold tree_Builder_Back_ev at h
 unfold tree_Builder_Back_R
 obtain ⟨q279, g279, h⟩ := bind_ok h
 refine ⟨q279, tree_Builder_put_ok g279, ?_⟩
 exact (Option.some.inj h).symm
set_option maxHeartbeats 4000000 in
theorem tree_Builder_Back_con (o1 : ((List (Int × Int × Int × Int × Int × Int × (Arr 4 (UInt64)))) × Int) × (List UInt8) × Int × (Arr 10 (Bool))) (gv3 : Int) (bx0 : Nat) (ia2 : Option (Nat × Nat)) (r : Int × (((List (Int × Int × Int × Int × Int × Int × (Arr 4 (UInt64)))) × Int) × (List UInt8) × Int × (Arr 10 (Bool)))) (h : tree_Builder_Back_R o1 gv3 r) : Con Try.prog 64 [.v (.pointer (some ⟨bx0, 0, none⟩)), .v (.int .i64 gv3)] [⟨bx0, 50, ([.sl 10 (some ia2) (List.map E_palinode_api_Node o1.1.1), .v (.int .i64 o1.1.2), .sl 1 none (List.map eb o1.2.1), .v (.int .i64 o1.2.2.1)] ++ (List.map eB o1.2.2.2.l).flatten)⟩] [⟨ia2, 42, 10, o1.1.1.length⟩] (fun rr bx tk => ∃ j1, rr = .v (.int .i64 r.1) ∧ bx = [⟨bx0, 50, ([.sl 10 (some j1) (List.map E_palinode_api_Node r.2.1.1), .v (.int .i64 r.2.1.2), .sl 1 none (List.map eb r.2.2.1), .v (.int .i64 r.2.2.2.1)] ++ (List.map eB r.2.2.2.2.l).flatten)⟩] ∧ tk = [⟨j1, 42, 10, r.2.1.1.length⟩]) := by
 refine xenter Try.func64 rfl rfl fun g hg => ?_
 simp only [Try.ntmps64, slots]
 refine sr_ ?_
 refine as_ ?_
 refine nt_ ?_
 refine sr_ ?_
 refine mv_ ?_
 refine mv_ ?_
 refine vp_ (pv_buildC (cs := ([.v (.int .i64 6), .v (.int .i64 0), .v (.int .i64 0), .v (.int .i64 0), .v (.int .i64 0), .v (.int .i64 gv3)] ++ (List.map ew ((Arr.rep 4 (0 : UInt64))).l).flatten)) StrC.h rfl (by refine fill_step [] [.v (.int .i64 0)] ([.v (.int .i64 0), .v (.int .i64 0), .v (.int .i64 0), .v (.int .i64 0), .v (.int .i64 0)] ++ (List.map ew ((Arr.rep 4 (0 : UInt64))).l).flatten) sq_ sl_ sl_ sl_ rfl rfl ?_; refine fill_step [.v (.int .i64 6), .v (.int .i64 0), .v (.int .i64 0), .v (.int .i64 0), .v (.int .i64 0)] [.v (.int .i64 0)] ((List.map ew ((Arr.rep 4 (0 : UInt64))).l).flatten) sq_ sl_ sl_ sl_ rfl rfl ?_; exact congrArg some sq_)) ?_
 obtain ⟨y5, h4, h⟩ := h
 refine xcallF (Fb := []) (Ft := []) (tree_Builder_put_con ((o1.1.1, o1.1.2), o1.2.1, o1.2.2.1, o1.2.2.2) (6, 0, 0, 0, 0, gv3, (Arr.rep 4 (0 : UInt64))) bx0 ia2 _ h4) Try.func31 (by kernel_rfl) rfl (.cons rfl (.refl _) (.cons rfl (.refl _) .nil)) (by exact sm_) rfl rfl ?_
 rintro _ _ _ ⟨i6, rfl, rfl, rfl⟩
 simp only [List.nil_append, List.cons_append]
 refine as_ ?_
 refine nt_ ?_
 refine xretc ?_
 replace h := h.symm
 subst h
 exact xret1 hg rfl rfl (.refl _) (SubM.of (.keep rfl rfl (.refl _) (.nil _)) (.keep rfl (.nil _))) ⟨i6, rfl, rfl, rfl⟩
/-- (*tree.Builder).Open -/
def tree_Builder_Open_R (o1 : ((List (Int × Int × Int × Int × Int × Int × (Arr 4 (UInt64)))) × Int) × (List UInt8) × Int × (Arr 10 (Bool))) (r : Int × (((List (Int × Int × Int × Int × Int × Int × (Arr 4 (UInt64)))) × Int) × (List UInt8) × Int × (Arr 10 (Bool)))) : Prop :=
 ((9 ≤ o1.1.2 → r = ((-1), ((o1.1.1, o1.1.2), o1.2.1, o1.2.2.1, o1.2.2.2))) ∧ (¬ (9 ≤ o1.1.2) → InR (o1.1.2 + 1) ∧ r = ((o1.1.2 + 1), ((o1.1.1, (o1.1.2 + 1)), o1.2.1, o1.2.2.1, o1.2.2.2))))
def tree_Builder_Open_ev (fuel : Nat) (o1 : ((List (Int × Int × Int × Int × Int × Int × (Arr 4 (UInt64)))) × Int) × (List UInt8) × Int × (Arr 10 (Bool))) : Option (Int × (((List (Int × Int × Int × Int × Int × Int × (Arr 4 (UInt64)))) × Int) × (List UInt8) × Int × (Arr 10 (Bool)))) :=
 (if 9 ≤ o1.1.2 then some ((-1), ((o1.1.1, o1.1.2), o1.2.1, o1.2.2.1, o1.2.2.2)) else (if InR (o1.1.2 + 1) then some ((o1.1.2 + 1), ((o1.1.1, (o1.1.2 + 1)), o1.2.1, o1.2.2.1, o1.2.2.2)) else none))
theorem tree_Builder_Open_ok {fuel : Nat} {o1 : ((List (Int × Int × Int × Int × Int × Int × (Arr 4 (UInt64)))) × Int) × (List UInt8) × Int × (Arr 10 (Bool))} {r : Int × (((List (Int × Int × Int × Int × Int × Int × (Arr 4 (UInt64)))) × Int) × (List UInt8) × Int × (Arr 10 (Bool)))} (h : tree_Builder_Open_ev fuel o1 = some r) : tree_Builder_Open_R o1 r := by
 unfold tree_Builder_Open_ev at h
 unfold tree_Builder_Open_R
 refine ⟨fun g280 => ?_, fun g280 => ?_⟩
 ·rw [if_pos g280] at h
  exact (Option.some.inj h).symm
 ·rw [if_neg g280] at h
  obtain ⟨g281, h⟩ := if_ok h
  refine ⟨g281, ?_⟩
  exact (Option.some.inj h).symm
set_option maxHeartbeats 4000000 in
theorem tree_Builder_Open_con (o1 : ((List (Int × Int × Int × Int × Int × Int × (Arr 4 (UInt64)))) × Int) × (List UInt8) × Int × (Arr 10 (Bool))) (bx0 : Nat) (ia2 : Option (Nat × Nat)) (r : Int × (((List (Int × Int × Int × Int × Int × Int × (Arr 4 (UInt64)))) × Int) × (List UInt8) × Int × (Arr 10 (Bool)))) (h : tree_Builder_Open_R o1 r) : Con Try.prog 79 [.v (.pointer (some ⟨bx0, 0, none⟩))] [⟨bx0, 50, ([.sl 10 (some ia2) (List.map E_palinode_api_Node o1.1.1), .v (.int .i64 o1.1.2), .sl 1 none (List.map eb o1.2.1), .v (.int .i64 o1.2.2.1)] ++ (List.map eB o1.2.2.2.l).flatten)⟩] [⟨ia2, 42, 10, o1.1.1.length⟩] (fun rr bx tk => ∃ j1, rr = .v (.int .i64 r.1) ∧ bx = [⟨bx0, 50, ([.sl 10 (some j1) (List.map E_palinode_api_Node r.2.1.1), .v (.int .i64 r.2.1.2), .sl 1 none (List.map eb r.2.2.1), .v (.int .i64 r.2.2.2.1)] ++ (List.map eB r.2.2.2.2.l).flatten)⟩] ∧ tk = [⟨j1, 42, 10, r.2.1.1.length⟩]) := by
 refine xenter Try.func79 rfl rfl fun g hg => ?_
 simp only [Try.ntmps79, slots]
 refine sr_ ?_
 refine as_ ?_
 refine nt_ ?_
 refine xseq ?_
 refine sr_ ?_
 refine mv_ ?_
 refine vp_ (pv_nilCheck rfl) ?_
 refine vp_ (qv_fieldAddrB FldC.h rfl) ?_
 refine v_ (qv_loadB 0 ShpC.h rfl rfl rfl rfl) ?_
 refine vp_ (pv_bin2 rfl rfl rfl) ?_
 refine nt_ ?_
 by_cases hp6 : 9 ≤ o1.1.2
 ·replace h := h.1 hp6
  refine xcondT' (decide_eq_true hp6) rfl ?_
  refine sr_ ?_
  refine as_ ?_
  refine nt_ ?_
  refine xretc ?_
  refine xthen_ret ?_
  replace h := h.symm
  subst h
  exact xret1 hg rfl rfl (.refl _) (SubM.of (.keep rfl rfl (.refl _) (.nil _)) (.keep rfl (.nil _))) ⟨ia2, rfl, rfl, rfl⟩
 ·replace h := h.2 hp6
  refine xcondF' (decide_eq_false hp6) rfl ?_
  refine xskipc ?_
  refine xthen ?_
  refine sr_ ?_
  refine mv_ ?_
  refine vp_ (pv_nilCheck rfl) ?_
  refine vp_ (qv_fieldAddrB FldC.h rfl) ?_
  refine v_ (qv_loadB 0 ShpC.h rfl rfl rfl rfl) ?_
  obtain ⟨h7, h⟩ := h
  refine vp_ (pv_addI h7 rfl rfl) ?_
  refine vp_ (pv_nilCheck rfl) ?_
  refine vp_ (qv_fieldAddrB FldC.h rfl) ?_
  refine xstore 0 ShpC.h rfl rfl rfl rfl rfl rfl rfl ?_
  refine nt_ ?_
  refine sr_ ?_
  refine mv_ ?_
  refine vp_ (pv_nilCheck rfl) ?_
  refine vp_ (qv_fieldAddrB FldC.h rfl) ?_
  refine v_ (qv_loadB 0 ShpC.h rfl rfl rfl rfl) ?_
  refine as_ ?_
  refine nt_ ?_
  refine xretc ?_
  replace h := h.symm
  subst h
  exact xret1 hg rfl rfl (.refl _) (SubM.of (.keep rfl rfl (.refl _) (.nil _)) (.keep rfl (.nil _))) ⟨ia2, rfl, rfl, rfl⟩
/-- (*tree.Builder).Group -/
def tree_Builder_Group_R (o1 : ((List (Int × Int × Int × Int × Int × Int × (Arr 4 (UInt64)))) × Int) × (List UInt8) × Int × (Arr 10 (Bool))) (gv3 : Int) (a4 : Int) (r : Int × (((List (Int × Int × Int × Int × Int × Int × (Arr 4 (UInt64)))) × Int) × (List UInt8) × Int × (Arr 10 (Bool)))) : Prop :=
 ∃ y6 : Int × (((List (Int × Int × Int × Int × Int × Int × (Arr 4 (UInt64)))) × Int) × (List UInt8) × Int × (Arr 10 (Bool))), tree_Builder_put_R ((o1.1.1, o1.1.2), o1.2.1, o1.2.2.1, o1.2.2.2) (5, a4, 0, 0, 0, gv3, (Arr.rep 4 (0 : UInt64))) y6 ∧ r = (y6.1, ((y6.2.1.1, y6.2.1.2), y6.2.2.1, y6.2.2.2.1, y6.2.2.2.2))
def tree_Builder_Group_ev (fuel : Nat) (o1 : ((List (Int × Int × Int × Int × Int × Int × (Arr 4 (UInt64)))) × Int) × (List UInt8) × Int × (Arr 10 (Bool))) (gv3 : Int) (a4 : Int) : Option (Int × (((List (Int × Int × Int × Int × Int × Int × (Arr 4 (UInt64)))) × Int) × (List UInt8) × Int × (Arr 10 (Bool)))) :=
 ((tree_Builder_put_ev fuel ((o1.1.1, o1.1.2), o1.2.1, o1.2.2.1, o1.2.2.2) (5, a4, 0, 0, 0, gv3, (Arr.rep 4 (0 : UInt64)))).bind fun y6 => some (y6.1, ((y6.2.1.1, y6.2.1.2), y6.2.2.1, y6.2.2.2.1, y6.2.2.2.2)))
theorem tree_Builder_Group_ok {fuel : Nat} {o1 : ((List (Int × Int × Int × Int × Int × Int × (Arr 4 (UInt64)))) × Int) × (List UInt8) × Int × (Arr 10 (Bool))} {gv3 : Int} {a4 : Int} {r : Int × (((List (Int × Int × Int × Int × Int × Int × (Arr 4 (UInt64)))) × Int) × (List UInt8) × Int × (Arr 10 (Bool)))} (h : tree_Builder_Group_ev fuel o1 gv3 a4 = some r) : tree_Builder_Group_R o1 gv3 a4 r := by
 unfold tree_Builder_Group_ev at h
 unfold tree_Builder_Group_R
 obtain ⟨q282, g282, h⟩ := bind_ok h
 refine ⟨q282, tree_Builder_put_ok g282, ?_⟩
 exact (Option.some.inj h).symm
set_option maxHeartbeats 4000000 in
theorem tree_Builder_Group_con (o1 : ((List (Int × Int × Int × Int × Int × Int × (Arr 4 (UInt64)))) × Int) × (List UInt8) × Int × (Arr 10 (Bool))) (gv3 : Int) (a4 : Int) (bx0 : Nat) (ia2 : Option (Nat × Nat)) (r : Int × (((List (Int × Int × Int × Int × Int × Int × (Arr 4 (UInt64)))) × Int) × (List UInt8) × Int × (Arr 10 (Bool)))) (h : tree_Builder_Group_R o1 gv3 a4 r) : Con Try.prog 80 [.v (.pointer (some ⟨bx0, 0, none⟩)), .v (.int .i64 gv3), .v (.int .i64 a4)] [⟨bx0, 50, ([.sl 10 (some ia2) (List.map E_palinode_api_Node o1.1.1), .v (.int .i64 o1.1.2), .sl 1 none (List.map eb o1.2.1), .v (.int .i64 o1.2.2.1)] ++ (List.map eB o1.2.2.2.l).flatten)⟩] [⟨ia2, 42, 10, o1.1.1.length⟩] (fun rr bx tk => ∃ j1, rr = .v (.int .i64 r.1) ∧ bx = [⟨bx0, 50, ([.sl 10 (some j1) (List.map E_palinode_api_Node r.2.1.1), .v (.int .i64 r.2.1.2), .sl 1 none (List.map eb r.2.2.1), .v (.int .i64 r.2.2.2.1)] ++ (List.map eB r.2.2.2.2.l).flatten)⟩] ∧ tk = [⟨j1, 42, 10, r.2.1.1.length⟩]) := by
 refine xenter Try.func80 rfl rfl fun g hg => ?_
 simp only [Try.ntmps80, slots]
 refine sr_ ?_
 refine as_ ?_
 refine nt_ ?_
 refine sr_ ?_
 refine mv_ ?_
 refine mv_ ?_
 refine mv_ ?_
 refine vp_ (pv_buildC (cs := ([.v (.int .i64 5), .v (.int .i64 a4), .v (.int .i64 0), .v (.int .i64 0), .v (.int .i64 0), .v (.int .i64 gv3)] ++ (List.map ew ((Arr.rep 4 (0 : UInt64))).l).flatten)) StrC.h rfl (by refine fill_step [] [.v (.int .i64 0)] ([.v (.int .i64 0), .v (.int .i64 0), .v (.int .i64 0), .v (.int .i64 0), .v (.int .i64 0)] ++ (List.map ew ((Arr.rep 4 (0 : UInt64))).l).flatten) sq_ sl_ sl_ sl_ rfl rfl ?_; refine fill_step [.v (.int .i64 5)] [.v (.int .i64 0)] ([.v (.int .i64 0), .v (.int .i64 0), .v (.int .i64 0), .v (.int .i64 0)] ++ (List.map ew ((Arr.rep 4 (0 : UInt64))).l).flatten) sq_ sl_ sl_ sl_ rfl rfl ?_; refine fill_step [.v (.int .i64 5), .v (.int .i64 a4), .v (.int .i64 0), .v (.int .i64 0), .v (.int .i64 0)] [.v (.int .i64 0)] ((List.map ew ((Arr.rep 4 (0 : UInt64))).l).flatten) sq_ sl_ sl_ sl_ rfl rfl ?_; exact congrArg some sq_)) ?_
 obtain ⟨y6, h5, h⟩ := h
 refine xcallF (Fb := []) (Ft := []) (tree_Builder_put_con ((o1.1.1, o1.1.2), o1.2.1, o1.2.2.1, o1.2.2.2) (5, a4, 0, 0, 0, gv3, (Arr.rep 4 (0 : UInt64))) bx0 ia2 _ h5) Try.func31 (by kernel_rfl) rfl (.cons rfl (.refl _) (.cons rfl (.refl _) .nil)) (by exact sm_) rfl rfl ?_
 rintro _ _ _ ⟨i7, rfl, rfl, rfl⟩
 simp only [List.nil_append, List.cons_append]
 refine as_ ?_
 refine nt_ ?_
 refine xretc ?_
 replace h := h.symm
 subst h
 exact xret1 hg rfl rfl (.refl _) (SubM.of (.keep rfl rfl (.refl _) (.nil _)) (.keep rfl (.nil _))) ⟨i7, rfl, rfl, rfl⟩
end Go.Proofs.Ytpddiffpanihdaa
