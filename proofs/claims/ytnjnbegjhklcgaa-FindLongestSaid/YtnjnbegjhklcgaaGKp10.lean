
/- What functions' texts ask for, and the walks that show it (printed by a program). -/
import Derived.Test.YtnjnbegjhklcgaaGKp9
namespace Go.Proofs.Ytnjnbegjhklcgaa
/-- palinodelaw12.awake -/
def palinodelaw12_awake_j1 (x29 : Bool) (r : Bool) : Prop :=
 r = x29
def palinodelaw12_awake_R (r : Bool) : Prop :=
 ∃ y2 : (Arr 4 (UInt64)), palinoderef08_One_R (97 : UInt8) y2 ∧ ∃ y5 : (List ((Arr 10 (Int × Int)))) × Int × Int, find_All_R ([(1, 0, 0, 0, 0, 0, y2), (4, 0, 0, 0, (-1), 0, (Arr.rep 4 (0 : UInt64)))], 0) ([(98 : UInt8), (97 : UInt8), (97 : UInt8), (99 : UInt8)]) 99 y5 ∧ ((y5.2.2 = 0 → (((y5.1.length : Int) = 3 → 0 ≤ (0 : Int) ∧ ∃ y35 : (Arr 10 (Int × Int)), y5.1[(0 : Int).toNat]? = some y35 ∧ (0 ≤ (0 : Int) ∧ (0 : Int) < 10) ∧ ∃ y38 : Int × Int, y35.l[(0 : Int).toNat]? = some y38 ∧ (((y38 : Int × Int) = (0, 0) → 0 ≤ (1 : Int) ∧ ∃ y41 : (Arr 10 (Int × Int)), y5.1[(1 : Int).toNat]? = some y41 ∧ (0 ≤ (0 : Int) ∧ (0 : Int) < 10) ∧ ∃ y44 : Int × Int, y41.l[(0 : Int).toNat]? = some y44 ∧ (((y44 : Int × Int) = (1, 3) → 0 ≤ (2 : Int) ∧ ∃ y47 : (Arr 10 (Int × Int)), y5.1[(2 : Int).toNat]? = some y47 ∧ (0 ≤ (0 : Int) ∧ (0 : Int) < 10) ∧ ∃ y50 : Int × Int, y47.l[(0 : Int).toNat]? = some y50 ∧ palinodelaw12_awake_j1 (decide ((y50 : Int × Int) = (4, 4))) r) ∧ (¬ ((y44 : Int × Int) = (1, 3)) → palinodelaw12_awake_j1 false r))) ∧ (¬ ((y38 : Int × Int) = (0, 0)) → palinodelaw12_awake_j1 false r))) ∧ (¬ ((y5.1.length : Int) = 3) → palinodelaw12_awake_j1 false r))) ∧ (¬ (y5.2.2 = 0) → palinodelaw12_awake_j1 false r))
def palinodelaw12_awake_j1_ev (fuel : Nat) (x29 : Bool) : Option (Bool) :=
 some x29
theorem palinodelaw12_awake_j1_ok {fuel : Nat} {x29 : Bool} {r : Bool} (h : palinodelaw12_awake_j1_ev fuel x29 = some r) : palinodelaw12_awake_j1 x29 r := by
 unfold palinodelaw12_awake_j1_ev at h
 unfold palinodelaw12_awake_j1
 exact (Option.some.inj h).symm
def palinodelaw12_awake_ev (fuel : Nat) : Option (Bool) :=
 ((palinoderef08_One_ev fuel (97 : UInt8)).bind fun y2 => ((find_All_ev fuel ([(1, 0, 0, 0, 0, 0, y2), (4, 0, 0, 0, (-1), 0, (Arr.rep 4 (0 : UInt64)))], 0) ([(98 : UInt8), (97 : UInt8), (97 : UInt8), (99 : UInt8)]) 99).bind fun y5 => (if y5.2.2 = 0 then (if (y5.1.length : Int) = 3 then (if 0 ≤ (0 : Int) then ((y5.1[(0 : Int).toNat]?).bind fun y35 => (if (0 ≤ (0 : Int) ∧ (0 : Int) < 10) then ((y35.l[(0 : Int).toNat]?).bind fun y38 => (if (y38 : Int × Int) = (0, 0) then (if 0 ≤ (1 : Int) then ((y5.1[(1 : Int).toNat]?).bind fun y41 => (if (0 ≤ (0 : Int) ∧ (0 : Int) < 10) then ((y41.l[(0 : Int).toNat]?).bind fun y44 => (if (y44 : Int × Int) = (1, 3) then (if 0 ≤ (2 : Int) then ((y5.1[(2 : Int).toNat]?).bind fun y47 => (if (0 ≤ (0 : Int) ∧ (0 : Int) < 10) then ((y47.l[(0 : Int).toNat]?).bind fun y50 => palinodelaw12_awake_j1_ev fuel (decide ((y50 : Int × Int) = (4, 4)))) else none)) else none) else palinodelaw12_awake_j1_ev fuel false)) else none)) else none) else palinodelaw12_awake_j1_ev fuel false)) else none)) else none) else palinodelaw12_awake_j1_ev fuel false) else palinodelaw12_awake_j1_ev fuel false)))
theorem palinodelaw12_awake_ok {fuel : Nat} {r : Bool} (h : palinodelaw12_awake_ev fuel = some r) : palinodelaw12_awake_R r := by
 unfold palinodelaw12_awake_ev at h
 unfold palinodelaw12_awake_R
 obtain ⟨q312, g312, h⟩ := bind_ok h
 refine ⟨q312, palinoderef08_One_ok g312, ?_⟩
 obtain ⟨q313, g313, h⟩ := bind_ok h
 refine ⟨q313, find_All_ok g313, ?_⟩
 refine ⟨fun g314 => ?_, fun g314 => ?_⟩
 ·rw [if_pos g314] at h
  refine ⟨fun g315 => ?_, fun g315 => ?_⟩
  ·rw [if_pos g315] at h
   obtain ⟨g316, h⟩ := if_ok h
   refine ⟨g316, ?_⟩
   obtain ⟨q317, g317, h⟩ := bind_ok h
   refine ⟨q317, g317, ?_⟩
   obtain ⟨g318, h⟩ := if_ok h
   refine ⟨g318, ?_⟩
   obtain ⟨q319, g319, h⟩ := bind_ok h
   refine ⟨q319, g319, ?_⟩
   refine ⟨fun g320 => ?_, fun g320 => ?_⟩
   ·rw [if_pos g320] at h
    obtain ⟨g321, h⟩ := if_ok h
    refine ⟨g321, ?_⟩
    obtain ⟨q322, g322, h⟩ := bind_ok h
    refine ⟨q322, g322, ?_⟩
    obtain ⟨g323, h⟩ := if_ok h
    refine ⟨g323, ?_⟩
    obtain ⟨q324, g324, h⟩ := bind_ok h
    refine ⟨q324, g324, ?_⟩
    refine ⟨fun g325 => ?_, fun g325 => ?_⟩
    ·rw [if_pos g325] at h
     obtain ⟨g326, h⟩ := if_ok h
     refine ⟨g326, ?_⟩
     obtain ⟨q327, g327, h⟩ := bind_ok h
     refine ⟨q327, g327, ?_⟩
     obtain ⟨g328, h⟩ := if_ok h
     refine ⟨g328, ?_⟩
     obtain ⟨q329, g329, h⟩ := bind_ok h
     refine ⟨q329, g329, ?_⟩
     exact palinodelaw12_awake_j1_ok h
    ·rw [if_neg g325] at h
     exact palinodelaw12_awake_j1_ok h
   ·rw [if_neg g320] at h
    exact palinodelaw12_awake_j1_ok h
  ·rw [if_neg g315] at h
   exact palinodelaw12_awake_j1_ok h
 ·rw [if_neg g314] at h
  exact palinodelaw12_awake_j1_ok h
set_option maxHeartbeats 4000000 in
theorem palinodelaw12_awake_con (r : Bool) (h : palinodelaw12_awake_R r) : Con Try.prog 5 [] [] [] (Ret (.v (.bool r))) := by
 refine xenter Try.func5 rfl rfl fun g hg => ?_
 simp only [Try.ntmps5, slots]
 refine sr_ ?_
 refine as_ ?_
 refine nt_ ?_
 refine sr_ ?_
 obtain ⟨y2, h1, h⟩ := h
 refine xcall0 (palinoderef08_One_con (97 : UInt8) _ h1) Try.func9 (by kernel_rfl) rfl (.cons rfl (.refl _) .nil) rfl rfl ?_
 refine vp_ (pv_buildC (cs := ([.v (.int .i64 1), .v (.int .i64 0), .v (.int .i64 0), .v (.int .i64 0), .v (.int .i64 0), .v (.int .i64 0)] ++ (List.map ew y2.l).flatten)) StrC.h rfl (by refine fill_step [] [.v (.int .i64 0)] ([.v (.int .i64 0), .v (.int .i64 0), .v (.int .i64 0), .v (.int .i64 0), .v (.int .i64 0)] ++ (List.map ew ((Arr.rep 4 (0 : UInt64))).l).flatten) sq_ sl_ sl_ sl_ rfl rfl ?_; refine fill_step [.v (.int .i64 1), .v (.int .i64 0), .v (.int .i64 0), .v (.int .i64 0), .v (.int .i64 0), .v (.int .i64 0)] ((List.map ew ((Arr.rep 4 (0 : UInt64))).l).flatten) [] sq_ sl_ sl_ sl_ rfl rfl ?_; exact congrArg some sq_)) ?_
 refine vp_ (pv_buildC (cs := ([.v (.int .i64 4), .v (.int .i64 0), .v (.int .i64 0), .v (.int .i64 0), .v (.int .i64 ((-1))), .v (.int .i64 0)] ++ (List.map ew ((Arr.rep 4 (0 : UInt64))).l).flatten)) StrC.h rfl (by refine fill_step [] [.v (.int .i64 0)] ([.v (.int .i64 0), .v (.int .i64 0), .v (.int .i64 0), .v (.int .i64 0), .v (.int .i64 0)] ++ (List.map ew ((Arr.rep 4 (0 : UInt64))).l).flatten) sq_ sl_ sl_ sl_ rfl rfl ?_; refine fill_step [.v (.int .i64 4)] [.v (.int .i64 0)] ([.v (.int .i64 0), .v (.int .i64 0), .v (.int .i64 0), .v (.int .i64 0)] ++ (List.map ew ((Arr.rep 4 (0 : UInt64))).l).flatten) sq_ sl_ sl_ sl_ rfl rfl ?_; refine fill_step [.v (.int .i64 4), .v (.int .i64 0), .v (.int .i64 0), .v (.int .i64 0)] [.v (.int .i64 0)] ([.v (.int .i64 0)] ++ (List.map ew ((Arr.rep 4 (0 : UInt64))).l).flatten) sq_ sl_ sl_ sl_ rfl rfl ?_; exact congrArg some sq_)) ?_
 refine xbuildSliceME (f := E_palinode_api_Node) [(1, 0, 0, 0, 0, 0, y2), (4, 0, 0, 0, (-1), 0, (Arr.rep 4 (0 : UInt64)))] UndC.h InfC.h rfl (.cons rfl (beq_of sl_) rfl rfl (.cons rfl (beq_of sl_) rfl rfl .nil)) wr_ rfl rfl rfl rfl fun s8 => ?_
 refine vp_ (pv_buildC StrC.h rfl rfl) ?_
 refine xalloc InfC.h rfl rfl fun b1 => ?_
 refine xstore 0 ShpC.h rfl rfl rfl rfl rfl rfl rfl ?_
 refine nt_ ?_
 refine sr_ ?_
 refine v_ (qv_loadB 0 ShpC.h rfl rfl rfl rfl) ?_
 refine xbuildSliceM (f := eb) [(98 : UInt8), (97 : UInt8), (97 : UInt8), (99 : UInt8)] UndC.h InfC.h rfl rfl wr_ rfl rfl rfl rfl fun s12 => ?_
 refine xmark 0 UndC.h UndC.h rfl rfl rfl rfl ?_
 obtain ⟨y5, h4, h⟩ := h
 refine xcallF (Fb := [⟨b1, 24, [.sl 10 (some (some (s8, 2))) (List.map E_palinode_api_Node ([(1, 0, 0, 0, 0, 0, y2), (4, 0, 0, 0, (-1), 0, (Arr.rep 4 (0 : UInt64)))])), .v (.int .i64 0)]⟩]) (Ft := [⟨(some (s8, 2)), 45, 10, ([(1, 0, 0, 0, 0, 0, y2), (4, 0, 0, 0, (-1), 0, (Arr.rep 4 (0 : UInt64)))]).length⟩]) (find_All_con ([(1, 0, 0, 0, 0, 0, y2), (4, 0, 0, 0, (-1), 0, (Arr.rep 4 (0 : UInt64)))], 0) ([(98 : UInt8), (97 : UInt8), (97 : UInt8), (99 : UInt8)]) 99 _ h4) Try.func6 (by kernel_rfl) rfl (.cons rfl (.agg (.cons (.tok _ _ _) (.cons (.refl _) .nil))) (.cons rfl (.refl _) (.cons rfl (.refl _) .nil))) (by exact sm_) rfl rfl ?_
 rintro _ _ _ ⟨i6, rfl, rfl, rfl⟩
 simp only [List.nil_append, List.cons_append]
 refine mv_ ?_
 refine vp_ (pv_extract rfl rfl) ?_
 refine vp_ (pv_extract rfl rfl) ?_
 refine vp_ (pv_extract rfl rfl) ?_
 refine as_ ?_
 refine as_ ?_
 refine as_ ?_
 refine nt_ ?_
 refine xseqM (fun σ => ∃ (x29 : Bool), palinodelaw12_awake_j1 x29 r ∧ σ = ⟨[(0, .v (.bool x29))], [], []⟩) ?_ ?_
 ·refine xregion ?_
  refine mv_ ?_
  refine vp_ (pv_bin2 rfl rfl rfl) ?_
  refine mv_ ?_
  by_cases hp31 : y5.2.2 = 0
  ·replace h := h.1 hp31
   refine xsetB 20 (decide_eq_true hp31) rfl ?_
   refine mv_ ?_
   refine vp_ (pv_lenM UndC.h rfl) ?_
   refine vp_ (pv_bin2 rfl rfl rfl) ?_
   refine pk_ ?_
   refine mv_ ?_
   by_cases hp34 : (y5.1.length : Int) = 3
   ·replace h := h.1 hp34
    refine xsetB 25 (decide_eq_true hp34) rfl ?_
    refine mv_ ?_
    obtain ⟨h36a, h⟩ := h
    obtain ⟨y35, h36b, h⟩ := h
    refine vp_ (pv_indexAddrM h36a h36b UndC.h ShpC.h rfl rfl) ?_
    refine vp_ (qv_fieldAddrE FldC.h rfl) ?_
    obtain ⟨h37, h⟩ := h
    obtain ⟨y38, h37b, h⟩ := h
    refine vp_ (pv_indexAddrEA (f := E_palinode_api_Span) (a := y35) [] h37 h37b sq_ UndC.h ShpC.h rfl rfl) ?_
    refine v_ (qv_load ShpC.h rfl rfl rfl) ?_
    refine vp_ (pv_buildC StrC.h rfl rfl) ?_
    refine vp_ (pv_eqAgg (f := E_palinode_api_Span) (a := y38) (b := (0, 0)) eqc_33 (by decide) (by kernel_rfl) ev_ ev_) ?_
    refine pk_ ?_
    refine mv_ ?_
    by_cases hp40 : (y38 : Int × Int) = (0, 0)
    ·replace h := h.1 hp40
     refine xsetB 34 (decide_eq_true hp40) rfl ?_
     refine mv_ ?_
     obtain ⟨h42a, h⟩ := h
     obtain ⟨y41, h42b, h⟩ := h
     refine vp_ (pv_indexAddrM h42a h42b UndC.h ShpC.h rfl rfl) ?_
     refine vp_ (qv_fieldAddrE FldC.h rfl) ?_
     obtain ⟨h43, h⟩ := h
     obtain ⟨y44, h43b, h⟩ := h
     refine vp_ (pv_indexAddrEA (f := E_palinode_api_Span) (a := y41) [] h43 h43b sq_ UndC.h ShpC.h rfl rfl) ?_
     refine v_ (qv_load ShpC.h rfl rfl rfl) ?_
     refine vp_ (pv_buildC StrC.h rfl rfl) ?_
     refine vp_ (pv_eqAgg (f := E_palinode_api_Span) (a := y44) (b := (1, 3)) eqc_33 (by decide) (by kernel_rfl) ev_ ev_) ?_
     refine pk_ ?_
     refine mv_ ?_
     by_cases hp46 : (y44 : Int × Int) = (1, 3)
     ·replace h := h.1 hp46
      refine xsetB 43 (decide_eq_true hp46) rfl ?_
      refine mv_ ?_
      obtain ⟨h48a, h⟩ := h
      obtain ⟨y47, h48b, h⟩ := h
      refine vp_ (pv_indexAddrM h48a h48b UndC.h ShpC.h rfl rfl) ?_
      refine vp_ (qv_fieldAddrE FldC.h rfl) ?_
      obtain ⟨h49, h⟩ := h
      obtain ⟨y50, h49b, h⟩ := h
      refine vp_ (pv_indexAddrEA (f := E_palinode_api_Span) (a := y47) [] h49 h49b sq_ UndC.h ShpC.h rfl rfl) ?_
      refine v_ (qv_load ShpC.h rfl rfl rfl) ?_
      refine vp_ (pv_buildC StrC.h rfl rfl) ?_
      refine vp_ (pv_eqAgg (f := E_palinode_api_Span) (a := y50) (b := (4, 4)) eqc_33 (by decide) (by kernel_rfl) ev_ ev_) ?_
      refine pk_ ?_
      refine as_ ?_
      refine xnil ?_
      exact xmeet ⟨(decide ((y50 : Int × Int) = (4, 4))), h, rfl⟩ ⟨(.cons rfl (.refl _) (.nil _)), (SubM.of (.nil _) (.nil _))⟩
     ·replace h := h.2 hp46
      refine xsetB 43 (decide_eq_false hp46) rfl ?_
      refine sk_ ?_
      refine sk_ ?_
      refine sk_ ?_
      refine sk_ ?_
      refine sk_ ?_
      refine sk_ ?_
      refine sk_ ?_
      refine pk_ ?_
      refine as_ ?_
      refine xnil ?_
      exact xmeet ⟨false, h, rfl⟩ ⟨(.cons rfl (.refl _) (.nil _)), (SubM.of (.nil _) (.nil _))⟩
    ·replace h := h.2 hp40
     refine xsetB 34 (decide_eq_false hp40) rfl ?_
     refine sk_ ?_
     refine sk_ ?_
     refine sk_ ?_
     refine sk_ ?_
     refine sk_ ?_
     refine sk_ ?_
     refine sk_ ?_
     refine pk_ ?_
     refine mv_ ?_
     refine sk_ ?_
     refine sk_ ?_
     refine sk_ ?_
     refine sk_ ?_
     refine sk_ ?_
     refine sk_ ?_
     refine sk_ ?_
     refine pk_ ?_
     refine as_ ?_
     refine xnil ?_
     exact xmeet ⟨false, h, rfl⟩ ⟨(.cons rfl (.refl _) (.nil _)), (SubM.of (.nil _) (.nil _))⟩
   ·replace h := h.2 hp34
    refine xsetB 25 (decide_eq_false hp34) rfl ?_
    refine sk_ ?_
    refine sk_ ?_
    refine sk_ ?_
    refine sk_ ?_
    refine sk_ ?_
    refine sk_ ?_
    refine sk_ ?_
    refine pk_ ?_
    refine mv_ ?_
    refine sk_ ?_
    refine sk_ ?_
    refine sk_ ?_
    refine sk_ ?_
    refine sk_ ?_
    refine sk_ ?_
    refine sk_ ?_
    refine pk_ ?_
    refine mv_ ?_
    refine sk_ ?_
    refine sk_ ?_
    refine sk_ ?_
    refine sk_ ?_
    refine sk_ ?_
    refine sk_ ?_
    refine sk_ ?_
    refine pk_ ?_
    refine as_ ?_
    refine xnil ?_
    exact xmeet ⟨false, h, rfl⟩ ⟨(.cons rfl (.refl _) (.nil _)), (SubM.of (.nil _) (.nil _))⟩
  ·replace h := h.2 hp31
   refine xsetB 20 (decide_eq_false hp31) rfl ?_
   refine sk_ ?_
   refine sk_ ?_
   refine sk_ ?_
   refine pk_ ?_
   refine mv_ ?_
   refine sk_ ?_
   refine sk_ ?_
   refine sk_ ?_
   refine sk_ ?_
   refine sk_ ?_
   refine sk_ ?_
   refine sk_ ?_
   refine pk_ ?_
   refine mv_ ?_
   refine sk_ ?_
   refine sk_ ?_
   refine sk_ ?_
   refine sk_ ?_
   refine sk_ ?_
   refine sk_ ?_
   refine sk_ ?_
   refine pk_ ?_
   refine mv_ ?_
   refine sk_ ?_
   refine sk_ ?_
   refine sk_ ?_
   refine sk_ ?_
   refine sk_ ?_
   refine sk_ ?_
   refine sk_ ?_
   refine pk_ ?_
   refine as_ ?_
   refine xnil ?_
   exact xmeet ⟨false, h, rfl⟩ ⟨(.cons rfl (.refl _) (.nil _)), (SubM.of (.nil _) (.nil _))⟩
 ·clear h
  rintro _ ⟨x29, h, rfl⟩
  refine xretc ?_
  replace h := h.symm
  subst h
  exact xret1 hg rfl rfl (.refl _) (SubM.of (.nil _) (.nil _)) ⟨rfl, rfl, rfl⟩
/-- palinoderef11.None -/
def palinoderef11_None_l1 (ag1 : (Int × (Arr 10 (Int × Int))) → Prop) (iv31 : Int) (f32 : Arr 10 (Int × Int)) (r : (Arr 10 (Int × Int))) : Prop :=
 ((iv31 < 10 → (0 ≤ (iv31 : Int) ∧ (iv31 : Int) < 10) ∧ ∃ y45 : Int × Int, f32.l[(iv31 : Int).toNat]? = some y45 ∧ InR (iv31 + 1) ∧ ag1 ((iv31 + 1), (Arr.set f32 (iv31 : Int).toNat (((-1), (-1)))))) ∧ (¬ (iv31 < 10) → r = f32))
def palinoderef11_None_R (r : (Arr 10 (Int × Int))) : Prop :=
 LoopR (fun ag1 s => palinoderef11_None_l1 ag1 s.1 s.2 r) (0, (Arr.rep 10 (0, 0)))
set_option maxRecDepth 100000 in
set_option maxHeartbeats 4000000 in
theorem palinoderef11_None_con (r : (Arr 10 (Int × Int))) (h : palinoderef11_None_R r) : Con Try.prog 12 [] [] [] (Ret (.agg ((List.map E_palinode_api_Span r.l).flatten))) := by
 refine xenter Try.func12 rfl rfl fun g hg => ?_
 simp only [Try.ntmps12, slots]
 refine sr_ ?_
 refine xalloc InfC.h rfl rfl fun b0 => ?_
 refine xreb 0 ((List.map E_palinode_api_Span ((Arr.rep 10 (0, 0))).l).flatten) rfl rfl ?_
 refine nt_ ?_
 refine sr_ ?_
 refine xalloc InfC.h rfl rfl fun b1 => ?_
 refine xreb 0 ((List.map E_palinode_api_Span ((Arr.rep 10 (0, 0))).l).flatten) rfl rfl ?_
 refine nt_ ?_
 refine xseq ?_
 refine sr_ ?_
 refine as_ ?_
 refine nt_ ?_
 refine xblock ?_
 obtain ⟨Inv, ⟨m0, hI⟩, hS⟩ := h
 refine xloop (fun σ m => ∃ (iv31 : Int), ∃ (f32 : Arr 10 (Int × Int)), Inv (iv31, f32) m ∧ σ = ⟨[(0, .v (.pointer (some ⟨b0, 0, none⟩))), (1, .v (.pointer (some ⟨b1, 0, none⟩))), (2, .v (.int .i64 iv31))], [⟨b1, 34, ((List.map E_palinode_api_Span f32.l).flatten)⟩, ⟨b0, 34, ((List.map E_palinode_api_Span ((Arr.rep 10 (0, 0))).l).flatten)⟩], []⟩) ⟨0, (Arr.rep 10 (0, 0)), hI, rfl⟩ (by exact ⟨lk_, (SubM.of (.keep rfl rfl (.refl _) (.keep rfl rfl (.refl _) (.nil _))) (.nil _))⟩) ?_
 rintro _ m ⟨iv31, f32, hI, rfl⟩
 obtain ⟨ag1, hag1, h⟩ : ∃ ag, (∀ s', ag s' → ∃ m', m' < m ∧ Inv s' m') ∧ palinoderef11_None_l1 ag iv31 f32 r := ⟨_, fun _ h => h, hS (iv31, f32) _ hI⟩
 clear hS hI
 refine xseq ?_
 refine sr_ ?_
 refine mv_ ?_
 refine vp_ (pv_bin2 rfl rfl rfl) ?_
 refine nt_ ?_
 by_cases hp43 : iv31 < 10
 ·replace h := h.1 hp43
  refine xcondT' (decide_eq_true hp43) rfl ?_
  refine xskipc ?_
  refine xthen ?_
  refine xseq ?_
  refine xblock ?_
  refine xregion ?_
  refine mv_ ?_
  refine vp_ (pv_buildC StrC.h rfl rfl) ?_
  obtain ⟨h44, h⟩ := h
  obtain ⟨y45, h44b, h⟩ := h
  refine vp_ (pv_indexAddrBA h44 UndC.h ShpC.h rfl rfl) ?_
  refine xstoreA (f := E_palinode_api_Span) (a := f32) (k := 2) (off := 0) (i := (iv31 : Int).toNat) 0 [] [] ((-1), (-1)) h44b sq_ so_ (by decide) ShpC.h rfl rfl rfl rfl sl_ rfl rfl ?_
  refine xreb 0 ((List.map E_palinode_api_Span ((Arr.set f32 (iv31 : Int).toNat (((-1), (-1))))).l).flatten) rfl sq_ ?_
  refine xnil ?_
  refine xin_normal ?_
  refine xthen ?_
  refine xregion ?_
  refine mv_ ?_
  obtain ⟨h46, h⟩ := h
  refine vp_ (pv_addI h46 rfl rfl) ?_
  refine as_ ?_
  refine xnil ?_
  obtain ⟨m', hm, hI⟩ := hag1 _ h
  exact xagain ⟨(iv31 + 1), (Arr.set f32 (iv31 : Int).toNat (((-1), (-1)))), hI, rfl⟩ hm ⟨lk_, (SubM.of (.keep rfl rfl (.refl _) (.keep rfl rfl (.refl _) (.nil _))) (.nil _))⟩
 ·replace h := h.2 hp43
  refine xcondF' (decide_eq_false hp43) rfl ?_
  refine xexit ?_
  refine xthen_exit ?_
  refine xthen_exit ?_
  refine xin_same rfl ?_
  refine xthen ?_
  refine sr_ ?_
  refine v_ (qv_loadP 0 [] ((List.map E_palinode_api_Span f32.l).flatten) [] sq_ sl_ sl_ (part_all (seg_lenE (by rfl))) ShpC.h rfl rfl) ?_
  refine xstoreQ 1 [] ((List.map E_palinode_api_Span ((Arr.rep 10 (0, 0))).l).flatten) [] ((List.map E_palinode_api_Span f32.l).flatten) ShpC.h rfl rfl rfl rfl rfl ?_
  refine nt_ ?_
  refine xretc ?_
  replace h := h.symm
  subst h
  exact xretL (rs := [.cell 0 34]) (ss := [.agg ((List.map E_palinode_api_Span f32.l).flatten)]) hg rfl (by refine RetL.cell 1 ShpC.h rfl rfl (part_midE (pre := []) (mid := ((List.map E_palinode_api_Span f32.l).flatten)) (post := []) sq_ sl_ sl_ (part_all (seg_lenE (by rfl)))) (len_midE (pre := []) (mid := ((List.map E_palinode_api_Span f32.l).flatten)) (post := []) sq_ sl_ sl_) wk_ ?_; exact RetL.nil) (SubM.of (.nil _) (.nil _)) ⟨rfl, rfl, rfl⟩
/-- palinoderef05.Has -/
def palinoderef05_Has_l1 (c2 : UInt8) (ag1 : (UInt64 × UInt8) → Prop) (w57 : UInt64) (iv58 : UInt8) (r : Bool) : Prop :=
 (64 : Int) ≠ 0 ∧ ∃ c76 : UInt8, (c76.toNat : Int) = (((c2.toNat : Int)).tmod 64) ∧ (((iv58.toNat : Int) < (c76.toNat : Int) → (2 : Int) ≠ 0 ∧ ∃ c80 : UInt64, (c80.toNat : Int) = IntKind.u64.wrap (((w57.toNat : Int)).tdiv 2) ∧ ∃ c82 : UInt8, (c82.toNat : Int) = IntKind.u8.wrap ((iv58.toNat : Int) + 1) ∧ ag1 (c80, c82)) ∧ (¬ ((iv58.toNat : Int) < (c76.toNat : Int)) → (2 : Int) ≠ 0 ∧ ∃ c84 : UInt64, (c84.toNat : Int) = (((w57.toNat : Int)).tmod 2) ∧ r = (decide ((c84.toNat : Int) = 1))))
def palinoderef05_Has_R (sv1 : Arr 4 (UInt64)) (c2 : UInt8) (r : Bool) : Prop :=
 (64 : Int) ≠ 0 ∧ ∃ c4 : UInt8, (c4.toNat : Int) = IntKind.u8.wrap (((c2.toNat : Int)).tdiv 64) ∧ (0 ≤ ((c4.toNat : Int) : Int) ∧ ((c4.toNat : Int) : Int) < 4) ∧ ∃ y6 : UInt64, sv1.l[((c4.toNat : Int) : Int).toNat]? = some y6 ∧ LoopR (fun ag1 s => palinoderef05_Has_l1 c2 ag1 s.1 s.2 r) (y6, (0 : UInt8))
set_option maxHeartbeats 4000000 in
theorem palinoderef05_Has_con (sv1 : Arr 4 (UInt64)) (c2 : UInt8) (r : Bool) (h : palinoderef05_Has_R sv1 c2 r) : Con Try.prog 16 [.agg ((List.map ew sv1.l).flatten), .v (.int .u8 ((c2.toNat : Int)))] [] [] (Ret (.v (.bool r))) := by
 refine xenter Try.func16 rfl rfl fun g hg => ?_
 simp only [Try.ntmps16, slots]
 refine sr_ ?_
 refine xbox rfl rfl rfl rfl fun b2 => ?_
 refine as_ ?_
 refine nt_ ?_
 refine sr_ ?_
 refine mv_ ?_
 obtain ⟨h3, h⟩ := h
 obtain ⟨c4, h3r, h⟩ := h
 refine vp_ (pv_quoW h3 h3r rfl rfl rfl) ?_
 obtain ⟨h5, h⟩ := h
 obtain ⟨y6, h5b, h⟩ := h
 refine vp_ (pv_indexAddrBA h5 UndC.h ShpC.h rfl rfl) ?_
 refine v_ (qv_loadA (f := ew) (a := sv1) (k := 1) (off := 0) (i := ((c4.toNat : Int) : Int).toNat) 0 [] [] h5b sq_ so_ (by decide) rfl ShpC.h rfl rfl) ?_
 refine as_ ?_
 refine nt_ ?_
 refine xseq ?_
 refine sr_ ?_
 refine as_ ?_
 refine nt_ ?_
 refine xblock ?_
 obtain ⟨Inv, ⟨m0, hI⟩, hS⟩ := h
 refine xloop (fun σ m => ∃ (w57 : UInt64), ∃ (iv58 : UInt8), Inv (w57, iv58) m ∧ σ = ⟨[(1, .v (.int .u8 ((c2.toNat : Int)))), (5, .v (.int .u64 ((w57.toNat : Int)))), (6, .v (.int .u8 ((iv58.toNat : Int))))], [], []⟩) ⟨y6, (0 : UInt8), hI, rfl⟩ (by exact ⟨lk_, (SubM.of (.nil _) (.nil _))⟩) ?_
 rintro _ m ⟨w57, iv58, hI, rfl⟩
 obtain ⟨ag1, hag1, h⟩ : ∃ ag, (∀ s', ag s' → ∃ m', m' < m ∧ Inv s' m') ∧ palinoderef05_Has_l1 c2 ag w57 iv58 r := ⟨_, fun _ h => h, hS (w57, iv58) _ hI⟩
 clear hS hI
 refine xseq ?_
 refine sr_ ?_
 refine mv_ ?_
 refine mv_ ?_
 obtain ⟨h75, h⟩ := h
 obtain ⟨c76, h75r, h⟩ := h
 refine vp_ (pv_remW h75 h75r rfl rfl rfl) ?_
 refine vp_ (pv_bin2 rfl rfl rfl) ?_
 refine nt_ ?_
 by_cases hp78 : (iv58.toNat : Int) < (c76.toNat : Int)
 ·replace h := h.1 hp78
  refine xcondT' (decide_eq_true hp78) rfl ?_
  refine xskipc ?_
  refine xthen ?_
  refine xseq ?_
  refine xblock ?_
  refine xregion ?_
  refine mv_ ?_
  obtain ⟨h79, h⟩ := h
  obtain ⟨c80, h79r, h⟩ := h
  refine vp_ (pv_quoW h79 h79r rfl rfl rfl) ?_
  refine as_ ?_
  refine xnil ?_
  refine xin_normal ?_
  refine xthen ?_
  refine xregion ?_
  refine mv_ ?_
  obtain ⟨c82, h81, h⟩ := h
  refine vp_ (pv_wr h81 rfl rfl rfl) ?_
  refine as_ ?_
  refine xnil ?_
  obtain ⟨m', hm, hI⟩ := hag1 _ h
  exact xagain ⟨c80, c82, hI, rfl⟩ hm ⟨lk_, (SubM.of (.nil _) (.nil _))⟩
 ·replace h := h.2 hp78
  refine xcondF' (decide_eq_false hp78) rfl ?_
  refine xexit ?_
  refine xthen_exit ?_
  refine xthen_exit ?_
  refine xin_same rfl ?_
  refine xthen ?_
  refine sr_ ?_
  refine mv_ ?_
  obtain ⟨h83, h⟩ := h
  obtain ⟨c84, h83r, h⟩ := h
  refine vp_ (pv_remW h83 h83r rfl rfl rfl) ?_
  refine vp_ (pv_bin2 rfl rfl rfl) ?_
  refine as_ ?_
  refine nt_ ?_
  refine xretc ?_
  replace h := h.symm
  subst h
  exact xret1 hg rfl rfl (.refl _) (SubM.of (.nil _) (.nil _)) ⟨rfl, rfl, rfl⟩
/-- palinoderef11.Same -/
def palinoderef11_Same_l1 (sv2 : Int × Int) (text1 : List UInt8) (atv3 : Int) (ag1 : (Int) → Prop) (iv179 : Int) (r : Int) : Prop :=
 InR (sv2.2 - sv2.1) ∧ ((iv179 < (sv2.2 - sv2.1) → InR (sv2.1 + iv179) ∧ 0 ≤ ((sv2.1 + iv179) : Int) ∧ ∃ y246 : UInt8, text1[((sv2.1 + iv179) : Int).toNat]? = some y246 ∧ InR (atv3 + iv179) ∧ 0 ≤ ((atv3 + iv179) : Int) ∧ ∃ y249 : UInt8, text1[((atv3 + iv179) : Int).toNat]? = some y249 ∧ ((¬ ((y246.toNat : Int) = (y249.toNat : Int)) → r = (-1)) ∧ (¬ (¬ ((y246.toNat : Int) = (y249.toNat : Int))) → InR (iv179 + 1) ∧ ag1 (iv179 + 1)))) ∧ (¬ (iv179 < (sv2.2 - sv2.1)) → InR (atv3 + sv2.2) ∧ InR ((atv3 + sv2.2) - sv2.1) ∧ r = ((atv3 + sv2.2) - sv2.1)))
def palinoderef11_Same_R (text1 : List UInt8) (sv2 : Int × Int) (atv3 : Int) (r : Int) : Prop :=
 ((sv2.1 < 0 → r = (-1)) ∧ (¬ (sv2.1 < 0) → InR (sv2.2 - sv2.1) ∧ InR ((text1.length : Int) - atv3) ∧ ((((text1.length : Int) - atv3) < (sv2.2 - sv2.1) → r = (-1)) ∧ (¬ (((text1.length : Int) - atv3) < (sv2.2 - sv2.1)) → LoopR (fun ag1 s => palinoderef11_Same_l1 sv2 text1 atv3 ag1 s r) 0))))
set_option maxHeartbeats 4000000 in
theorem palinoderef11_Same_con (text1 : List UInt8) (sv2 : Int × Int) (atv3 : Int) (r : Int) (h : palinoderef11_Same_R text1 sv2 atv3 r) : Con Try.prog 19 [.sl 1 none (List.map eb text1), .agg [.v (.int .i64 sv2.1), .v (.int .i64 sv2.2)], .v (.int .i64 atv3)] [] [] (Ret (.v (.int .i64 r))) := by
 refine xenter Try.func19 rfl rfl fun g hg => ?_
 simp only [Try.ntmps19, slots]
 refine sr_ ?_
 refine xbox rfl rfl rfl rfl fun b4 => ?_
 refine as_ ?_
 refine nt_ ?_
 refine xseq ?_
 refine sr_ ?_
 refine vp_ (qv_fieldAddrB FldC.h rfl) ?_
 refine v_ (qv_loadB 0 ShpC.h rfl rfl rfl rfl) ?_
 refine vp_ (pv_bin2 rfl rfl rfl) ?_
 refine mv_ ?_
 by_cases hp24 : sv2.1 < 0
 ·replace h := h.1 hp24
  refine xsetB 11 (decide_eq_true hp24) rfl ?_
  refine sk_ ?_
  refine sk_ ?_
  refine sk_ ?_
  refine sk_ ?_
  refine sk_ ?_
  refine sk_ ?_
  refine sk_ ?_
  refine sk_ ?_
  refine sk_ ?_
  refine sk_ ?_
  refine pk_ ?_
  refine nt_ ?_
  refine xcondT rfl ?_
  refine sr_ ?_
  refine as_ ?_
  refine nt_ ?_
  refine xretc ?_
  refine xthen_ret ?_
  replace h := h.symm
  subst h
  exact xret1 hg rfl rfl (.refl _) (SubM.of (.nil _) (.nil _)) ⟨rfl, rfl, rfl⟩
 ·replace h := h.2 hp24
  refine xsetB 11 (decide_eq_false hp24) rfl ?_
  refine vp_ (qv_fieldAddrB FldC.h rfl) ?_
  refine v_ (qv_loadB 0 ShpC.h rfl rfl rfl rfl) ?_
  refine vp_ (qv_fieldAddrB FldC.h rfl) ?_
  refine v_ (qv_loadB 0 ShpC.h rfl rfl rfl rfl) ?_
  obtain ⟨h25, h⟩ := h
  refine vp_ (pv_subI h25 rfl rfl) ?_
  refine mv_ ?_
  refine vp_ (pv_lenM UndC.h rfl) ?_
  refine mv_ ?_
  obtain ⟨h27, h⟩ := h
  refine vp_ (pv_subI h27 rfl rfl) ?_
  refine vp_ (pv_bin2 rfl rfl rfl) ?_
  refine pk_ ?_
  refine nt_ ?_
  by_cases hp29 : ((text1.length : Int) - atv3) < (sv2.2 - sv2.1)
  ·replace h := h.1 hp29
   refine xcondT' (decide_eq_true hp29) rfl ?_
   refine sr_ ?_
   refine as_ ?_
   refine nt_ ?_
   refine xretc ?_
   refine xthen_ret ?_
   replace h := h.symm
   subst h
   exact xret1 hg rfl rfl (.refl _) (SubM.of (.nil _) (.nil _)) ⟨rfl, rfl, rfl⟩
  ·replace h := h.2 hp29
   refine xcondF' (decide_eq_false hp29) rfl ?_
   refine xskipc ?_
   refine xthen ?_
   refine xseq ?_
   refine sr_ ?_
   refine as_ ?_
   refine nt_ ?_
   refine xblock ?_
   obtain ⟨Inv, ⟨m0, hI⟩, hS⟩ := h
   refine xloop (fun σ m => ∃ (iv179 : Int), Inv iv179 m ∧ σ = ⟨[(0, .sl 1 none (List.map eb text1)), (2, .v (.int .i64 atv3)), (4, .v (.pointer (some ⟨b4, 0, none⟩))), (7, .v (.int .i64 iv179))], [⟨b4, 33, [.v (.int .i64 sv2.1), .v (.int .i64 sv2.2)]⟩], []⟩) ⟨0, hI, rfl⟩ (by exact ⟨lk_, (SubM.of (.keep rfl rfl (.refl _) (.nil _)) (.nil _))⟩) ?_
   rintro _ m ⟨iv179, hI, rfl⟩
   obtain ⟨ag1, hag1, h⟩ : ∃ ag, (∀ s', ag s' → ∃ m', m' < m ∧ Inv s' m') ∧ palinoderef11_Same_l1 sv2 text1 atv3 ag iv179 r := ⟨_, fun _ h => h, hS iv179 _ hI⟩
   clear hS hI
   refine xseq ?_
   refine sr_ ?_
   refine mv_ ?_
   refine vp_ (qv_fieldAddrB FldC.h rfl) ?_
   refine v_ (qv_loadB 0 ShpC.h rfl rfl rfl rfl) ?_
   refine vp_ (qv_fieldAddrB FldC.h rfl) ?_
   refine v_ (qv_loadB 0 ShpC.h rfl rfl rfl rfl) ?_
   obtain ⟨h220, h⟩ := h
   refine vp_ (pv_subI h220 rfl rfl) ?_
   refine vp_ (pv_bin2 rfl rfl rfl) ?_
   refine nt_ ?_
   by_cases hp222 : iv179 < (sv2.2 - sv2.1)
   ·replace h := h.1 hp222
    refine xcondT' (decide_eq_true hp222) rfl ?_
    refine xskipc ?_
    refine xthen ?_
    refine xseq ?_
    refine xblock ?_
    refine xseq ?_
    refine xregionD (m := 14) (by kernel_rfl) rfl ?_
    obtain ⟨h245, h⟩ := h
    obtain ⟨h247a, h⟩ := h
    obtain ⟨y246, h247b, h⟩ := h
    obtain ⟨h248, h⟩ := h
    obtain ⟨h250a, h⟩ := h
    obtain ⟨y249, h250b, h⟩ := h
    refine pl_ 0 rfl (pv_move rfl) ?_
    refine pl_ 1 rfl (qv_fieldAddrB FldC.h rfl) ?_
    refine pl_ 3 rfl (pv_move rfl) ?_
    refine pl_ 7 rfl (pv_move rfl) ?_
    refine pl_ 8 rfl (pv_move rfl) ?_
    refine pl_ 9 rfl (pv_move rfl) ?_
    refine pl_ 10 rfl (pv_addI h248 rfl rfl) ?_
    refine pl_ 11 rfl (pv_indexAddrM h250a h250b UndC.h ShpC.h rfl rfl) ?_
    refine xpvalE 2 [12] rfl (qv_loadB 0 ShpC.h rfl rfl rfl rfl) rfl rfl (by kernel_rfl) (by kernel_rfl) (by kernel_rfl) (fun _ _ _ _ h => h) ?_
    refine pl_ 4 rfl (pv_addI h245 rfl rfl) ?_
    refine pl_ 5 rfl (pv_indexAddrM h247a h247b UndC.h ShpC.h rfl rfl) ?_
    refine xpvalE 6 [12] rfl (qv_load ShpC.h rfl rfl rfl) rfl rfl (by kernel_rfl) (by kernel_rfl) (by kernel_rfl) (fun _ _ _ _ h => h) ?_
    refine xpvalE 12 [] rfl (qv_load ShpC.h rfl rfl rfl) rfl rfl (by kernel_rfl) (by kernel_rfl) (by kernel_rfl) (fun _ _ _ _ h => h) ?_
    refine pl_ 13 rfl (pv_bin2 rfl rfl rfl) ?_
    refine xpdone (by kernel_rfl) ?_
    refine xthen ?_
    by_cases hp252 : ¬ ((y246.toNat : Int) = (y249.toNat : Int))
    ·replace h := h.1 hp252
     refine xcondT' (not_t (decide_eq_false hp252)) rfl ?_
     refine sr_ ?_
     refine as_ ?_
     refine nt_ ?_
     refine xretc ?_
     refine xin_ret ?_
     refine xthen_ret ?_
     refine xthen_ret ?_
     refine xin_ret ?_
     refine xthen_ret ?_
     replace h := h.symm
     subst h
     exact xret1 hg rfl rfl (.refl _) (SubM.of (.nil _) (.nil _)) ⟨rfl, rfl, rfl⟩
    ·replace h := h.2 hp252
     refine xcondF' (not_f (decide_eq_true (Decidable.of_not_not hp252))) rfl ?_
     refine xskipc ?_
     refine xin_normal ?_
     refine xthen ?_
     refine xregion ?_
     refine mv_ ?_
     obtain ⟨h253, h⟩ := h
     refine vp_ (pv_addI h253 rfl rfl) ?_
     refine as_ ?_
     refine xnil ?_
     obtain ⟨m', hm, hI⟩ := hag1 _ h
     exact xagain ⟨(iv179 + 1), hI, rfl⟩ hm ⟨lk_, (SubM.of (.keep rfl rfl (.refl _) (.nil _)) (.nil _))⟩
   ·replace h := h.2 hp222
    refine xcondF' (decide_eq_false hp222) rfl ?_
    refine xexit ?_
    refine xthen_exit ?_
    refine xthen_exit ?_
    refine xin_same rfl ?_
    refine xthen ?_
    refine sr_ ?_
    refine mv_ ?_
    refine vp_ (qv_fieldAddrB FldC.h rfl) ?_
    refine v_ (qv_loadB 0 ShpC.h rfl rfl rfl rfl) ?_
    obtain ⟨h254, h⟩ := h
    refine vp_ (pv_addI h254 rfl rfl) ?_
    refine vp_ (qv_fieldAddrB FldC.h rfl) ?_
    refine v_ (qv_loadB 0 ShpC.h rfl rfl rfl rfl) ?_
    obtain ⟨h255, h⟩ := h
    refine vp_ (pv_subI h255 rfl rfl) ?_
    refine as_ ?_
    refine nt_ ?_
    refine xretc ?_
    replace h := h.symm
    subst h
    exact xret1 hg rfl rfl (.refl _) (SubM.of (.nil _) (.nil _)) ⟨rfl, rfl, rfl⟩
/-- palinoderef11.with -/
def palinoderef11_with_l1 (l1 : List (Int × (Arr 10 (Int × Int)))) (p3 : Int × (Arr 10 (Int × Int))) (ag1 : (Int) → Prop) (iv89 : Int) (r : (List (Int × (Arr 10 (Int × Int))))) : Prop :=
 ((iv89 < (l1.length : Int) → 0 ≤ (iv89 : Int) ∧ ∃ y127 : Int × (Arr 10 (Int × Int)), l1[(iv89 : Int).toNat]? = some y127 ∧ (((y127 : Int × (Arr 10 (Int × Int))) = p3 → r = l1) ∧ (¬ ((y127 : Int × (Arr 10 (Int × Int))) = p3) → InR (iv89 + 1) ∧ ag1 (iv89 + 1)))) ∧ (¬ (iv89 < (l1.length : Int)) → Room ((([] : List (Int × (Arr 10 (Int × Int))))).length + l1.length) 168 ∧ Room (((([] : List (Int × (Arr 10 (Int × Int)))) ++ l1)).length + ([p3]).length) 168 ∧ r = ((([] : List (Int × (Arr 10 (Int × Int)))) ++ l1) ++ [p3])))
def palinoderef11_with_R (l1 : List (Int × (Arr 10 (Int × Int)))) (p3 : Int × (Arr 10 (Int × Int))) (r : (List (Int × (Arr 10 (Int × Int))))) : Prop :=
 LoopR (fun ag1 s => palinoderef11_with_l1 l1 p3 ag1 s r) 0
set_option maxHeartbeats 4000000 in
theorem palinoderef11_with_con (l1 : List (Int × (Arr 10 (Int × Int)))) (p3 : Int × (Arr 10 (Int × Int))) (ia2 : Option (Nat × Nat)) (r : (List (Int × (Arr 10 (Int × Int))))) (h : palinoderef11_with_R l1 p3 r) : Con Try.prog 17 [.sl 21 (some ia2) (List.map E_palinode_palinoderef11_Point l1), .agg ([.v (.int .i64 p3.1)] ++ (List.map E_palinode_api_Span p3.2.l).flatten)] [] [⟨ia2, 58, 21, l1.length⟩] (RetM 21 58 E_palinode_palinoderef11_Point r) := by
 refine xenter Try.func17 rfl rfl fun g hg => ?_
 simp only [Try.ntmps17, slots]
 refine sr_ ?_
 refine xbox rfl rfl rfl rfl fun b3 => ?_
 refine as_ ?_
 refine nt_ ?_
 refine xseq ?_
 refine sr_ ?_
 refine as_ ?_
 refine nt_ ?_
 refine xblock ?_
 obtain ⟨Inv, ⟨m0, hI⟩, hS⟩ := h
 refine xloop (fun σ m => ∃ (iv89 : Int), Inv iv89 m ∧ σ = ⟨[(0, .sl 21 (some ia2) (List.map E_palinode_palinoderef11_Point l1)), (3, .v (.pointer (some ⟨b3, 0, none⟩))), (5, .v (.int .i64 iv89))], [⟨b3, 58, ([.v (.int .i64 p3.1)] ++ (List.map E_palinode_api_Span p3.2.l).flatten)⟩], [⟨ia2, 58, 21, l1.length⟩]⟩) ⟨0, hI, rfl⟩ (by exact ⟨lk_, (SubM.of (.keep rfl rfl (.refl _) (.nil _)) (.keep rfl (.nil _)))⟩) ?_
 rintro _ m ⟨iv89, hI, rfl⟩
 obtain ⟨ag1, hag1, h⟩ : ∃ ag, (∀ s', ag s' → ∃ m', m' < m ∧ Inv s' m') ∧ palinoderef11_with_l1 l1 p3 ag iv89 r := ⟨_, fun _ h => h, hS iv89 _ hI⟩
 clear hS hI
 refine xseq ?_
 refine sr_ ?_
 refine mv_ ?_
 refine mv_ ?_
 refine vp_ (pv_lenM UndC.h rfl) ?_
 refine vp_ (pv_bin2 rfl rfl rfl) ?_
 refine nt_ ?_
 by_cases hp116 : iv89 < (l1.length : Int)
 ·replace h := h.1 hp116
  refine xcondT' (decide_eq_true hp116) rfl ?_
  refine xskipc ?_
  refine xthen ?_
  refine xseq ?_
  refine xblock ?_
  refine xseq ?_
  refine xregionD (m := 6) (by kernel_rfl) rfl ?_
  obtain ⟨h128a, h⟩ := h
  obtain ⟨y127, h128b, h⟩ := h
  refine pl_ 0 rfl (pv_move rfl) ?_
  refine pl_ 1 rfl (pv_move rfl) ?_
  refine pl_ 2 rfl (pv_indexAddrM h128a h128b UndC.h ShpC.h rfl rfl) ?_
  refine xpvalE 3 [4] rfl (qv_loadEP ([.v (.int .i64 y127.1)] ++ (List.map E_palinode_api_Span y127.2.l).flatten) [] sq_ sl_ (part_all sl_) ShpC.h rfl) rfl rfl (by kernel_rfl) (by kernel_rfl) (by kernel_rfl) (fun _ _ _ _ h => h) ?_
  refine xpvalE 4 [] rfl (qv_loadP 0 [] ([.v (.int .i64 p3.1)] ++ (List.map E_palinode_api_Span p3.2.l).flatten) [] sq_ sl_ sl_ (part_all sl_) ShpC.h rfl rfl) rfl rfl (by kernel_rfl) (by kernel_rfl) (by kernel_rfl) (fun _ _ _ _ h => h) ?_
  refine pl_ 5 rfl (pv_eqAgg (f := E_palinode_palinoderef11_Point) (a := y127) (b := p3) eqc_58 (by decide) (by kernel_rfl) ev_ ev_) ?_
  refine xpdone (by kernel_rfl) ?_
  refine xthen ?_
  by_cases hp130 : (y127 : Int × (Arr 10 (Int × Int))) = p3
  ·replace h := h.1 hp130
   refine xcondT' (decide_eq_true hp130) rfl ?_
   refine sr_ ?_
   refine mv_ ?_
   refine as_ ?_
   refine nt_ ?_
   refine xretc ?_
   refine xin_ret ?_
   refine xthen_ret ?_
   refine xthen_ret ?_
   refine xin_ret ?_
   refine xthen_ret ?_
   replace h := h.symm
   subst h
   exact xret1 hg rfl rfl (.refl _) (SubM.of (.nil _) (.keep rfl (.nil _))) ⟨ia2, rfl, rfl, rfl⟩
  ·replace h := h.2 hp130
   refine xcondF' (decide_eq_false hp130) rfl ?_
   refine xskipc ?_
   refine xin_normal ?_
   refine xthen ?_
   refine xregion ?_
   refine mv_ ?_
   obtain ⟨h131, h⟩ := h
   refine vp_ (pv_addI h131 rfl rfl) ?_
   refine as_ ?_
   refine xnil ?_
   obtain ⟨m', hm, hI⟩ := hag1 _ h
   exact xagain ⟨(iv89 + 1), hI, rfl⟩ hm ⟨lk_, (SubM.of (.keep rfl rfl (.refl _) (.nil _)) (.keep rfl (.nil _)))⟩
 ·replace h := h.2 hp116
  refine xcondF' (decide_eq_false hp116) rfl ?_
  refine xexit ?_
  refine xthen_exit ?_
  refine xthen_exit ?_
  refine xin_same rfl ?_
  refine xthen ?_
  refine xseq ?_
  refine xregionD (m := 7) (by kernel_rfl) rfl ?_
  obtain ⟨h140, h⟩ := h
  obtain ⟨h142, h⟩ := h
  refine xpcut 2 #[true, true, true, true, true, false, false] (fun σ => ∃ (i141 : Option (Nat × Nat)), ∃ (s23 : Nat), σ = ⟨[(21, .sl 21 (some i141) (List.map E_palinode_palinoderef11_Point ((([] : List (Int × (Arr 10 (Int × Int)))) ++ l1)))), (23, .sl 21 (some (some (s23, 1))) (List.map E_palinode_palinoderef11_Point ([p3])))], [], [⟨(some (s23, 1)), 58, 21, ([p3]).length⟩, ⟨i141, 58, 21, ((([] : List (Int × (Arr 10 (Int × Int)))) ++ l1)).length⟩]⟩) ?_ (fun key144 => ?_)
  ·rintro _ ⟨i141, s23, rfl⟩
   refine xpstep (i := 5) (by kernel_rfl) rfl ?_
   refine wappendM (l := (([] : List (Int × (Arr 10 (Int × Int)))) ++ l1)) (l2 := [p3]) 1 h142 UndC.h InfC.h rfl rfl rfl (.refl _) rfl rfl rfl fun i143 => ?_
   refine pl_ 6 rfl (pv_assign rfl) ?_
   refine xpdone (by kernel_rfl) ?_
   refine xthen ?_
   refine xretc ?_
   replace h := h.symm
   subst h
   exact xret1 hg rfl rfl (.refl _) (SubM.of (.nil _) (.drop (.keep rfl (.nil _)))) ⟨i143, rfl, rfl, rfl⟩
  refine xpcut 3 #[true, true, true, true, false, false, false] (fun σ => ∃ (i141 : Option (Nat × Nat)), σ = ⟨[(21, .sl 21 (some i141) (List.map E_palinode_palinoderef11_Point ((([] : List (Int × (Arr 10 (Int × Int)))) ++ l1)))), (22, .agg ([.v (.int .i64 p3.1)] ++ (List.map E_palinode_api_Span p3.2.l).flatten))], [], [⟨i141, 58, 21, ((([] : List (Int × (Arr 10 (Int × Int)))) ++ l1)).length⟩]⟩) ?_ (fun key145 => ?_)
  ·rintro _ ⟨i141, rfl⟩
   refine xpstep (i := 4) (by kernel_rfl) rfl ?_
   refine wbuildSliceME (f := E_palinode_palinoderef11_Point) [p3] UndC.h InfC.h rfl (.cons rfl (beq_of sl_) rfl rfl .nil) wr_ rfl rfl rfl rfl fun s23 => ?_
   exact xpuse key144 ⟨i141, s23, rfl⟩ ⟨lk_, (SubM.of (.nil _) (.keep rfl (.keep rfl (.nil _))))⟩ rfl (by kernel_rfl)
  refine xpcut 3 #[true, true, false, true, true, false, false] (fun σ => ∃ (s19 : Nat), ∃ (s23 : Nat), σ = ⟨[(19, .sl 21 (some (some (s19, 0))) (List.map E_palinode_palinoderef11_Point (([] : List (Int × (Arr 10 (Int × Int))))))), (20, .sl 21 (some ia2) (List.map E_palinode_palinoderef11_Point l1)), (23, .sl 21 (some (some (s23, 1))) (List.map E_palinode_palinoderef11_Point ([p3])))], [], [⟨(some (s23, 1)), 58, 21, ([p3]).length⟩, ⟨(some (s19, 0)), 58, 21, (([] : List (Int × (Arr 10 (Int × Int))))).length⟩, ⟨ia2, 58, 21, l1.length⟩]⟩) ?_ (fun key146 => ?_)
  ·rintro _ ⟨s19, s23, rfl⟩
   refine xpstep (i := 2) (by kernel_rfl) rfl ?_
   refine wappendM (l := ([] : List (Int × (Arr 10 (Int × Int))))) (l2 := l1) 1 h140 UndC.h InfC.h rfl rfl rfl (.refl _) rfl rfl rfl fun i141 => ?_
   exact xpuse key144 ⟨i141, s23, rfl⟩ ⟨lk_, (SubM.of (.nil _) (.keep rfl (.keep rfl (.nil _))))⟩ rfl (by kernel_rfl)
  refine xpcut 4 #[true, true, false, true, false, false, false] (fun σ => ∃ (s19 : Nat), σ = ⟨[(19, .sl 21 (some (some (s19, 0))) (List.map E_palinode_palinoderef11_Point (([] : List (Int × (Arr 10 (Int × Int))))))), (20, .sl 21 (some ia2) (List.map E_palinode_palinoderef11_Point l1)), (22, .agg ([.v (.int .i64 p3.1)] ++ (List.map E_palinode_api_Span p3.2.l).flatten))], [], [⟨(some (s19, 0)), 58, 21, (([] : List (Int × (Arr 10 (Int × Int))))).length⟩, ⟨ia2, 58, 21, l1.length⟩]⟩) ?_ (fun key147 => ?_)
  ·rintro _ ⟨s19, rfl⟩
   refine xpstepN (is := [2, 4]) (by kernel_rfl) (by simp) ?_
   intro i hi; simp only [List.mem_cons, List.not_mem_nil, or_false] at hi; rcases hi with rfl | rfl
   ·refine ⟨_, rfl, ?_⟩
    refine wappendM (l := ([] : List (Int × (Arr 10 (Int × Int))))) (l2 := l1) 0 h140 UndC.h InfC.h rfl rfl rfl (.refl _) rfl rfl rfl fun i141 => ?_
    exact xpuse key145 ⟨i141, rfl⟩ ⟨lk_, (SubM.of (.nil _) (.keep rfl (.nil _)))⟩ rfl (by kernel_rfl)
   ·refine ⟨_, rfl, ?_⟩
    refine wbuildSliceME (f := E_palinode_palinoderef11_Point) [p3] UndC.h InfC.h rfl (.cons rfl (beq_of sl_) rfl rfl .nil) wr_ rfl rfl rfl rfl fun s23 => ?_
    exact xpuse key146 ⟨s19, s23, rfl⟩ ⟨lk_, (SubM.of (.nil _) (.keep rfl (.keep rfl (.keep rfl (.nil _)))))⟩ rfl (by kernel_rfl)
  refine pl_ 1 rfl (pv_move rfl) ?_
  refine xpstepN (is := [0, 3]) (by kernel_rfl) (by simp) ?_
  intro i hi; simp only [List.mem_cons, List.not_mem_nil, or_false] at hi; rcases hi with rfl | rfl
  ·refine ⟨_, rfl, ?_⟩
   refine wbuildSliceME (f := E_palinode_palinoderef11_Point) ([] : List (Int × (Arr 10 (Int × Int)))) UndC.h InfC.h rfl .nil wr_ rfl rfl rfl rfl fun s19 => ?_
   refine xpstepN (is := [2, 3]) (by kernel_rfl) (by simp) ?_
   intro i hi; simp only [List.mem_cons, List.not_mem_nil, or_false] at hi; rcases hi with rfl | rfl
   ·refine ⟨_, rfl, ?_⟩
    refine wappendM (l := ([] : List (Int × (Arr 10 (Int × Int))))) (l2 := l1) 0 h140 UndC.h InfC.h rfl rfl rfl (.refl _) rfl rfl rfl fun i141 => ?_
    refine xpvalE 3 [] rfl (qv_loadP 0 [] ([.v (.int .i64 p3.1)] ++ (List.map E_palinode_api_Span p3.2.l).flatten) [] sq_ sl_ sl_ (part_all sl_) ShpC.h rfl rfl) rfl rfl (by kernel_rfl) (by kernel_rfl) (by kernel_rfl) (fun _ _ _ _ h => h) ?_
    exact xpuse key145 ⟨i141, rfl⟩ ⟨lk_, (SubM.of (.nil _) (.keep rfl (.nil _)))⟩ rfl (by kernel_rfl)
   ·refine ⟨_, rfl, ?_⟩
    refine wv_ (qv_loadP 0 [] ([.v (.int .i64 p3.1)] ++ (List.map E_palinode_api_Span p3.2.l).flatten) [] sq_ sl_ sl_ (part_all sl_) ShpC.h rfl rfl) ?_
    exact xpuse key147 ⟨s19, rfl⟩ ⟨lk_, (SubM.of (.nil _) (.keep rfl (.keep rfl (.nil _))))⟩ rfl (by kernel_rfl)
  ·refine ⟨_, rfl, ?_⟩
   refine wv_ (qv_loadP 0 [] ([.v (.int .i64 p3.1)] ++ (List.map E_palinode_api_Span p3.2.l).flatten) [] sq_ sl_ sl_ (part_all sl_) ShpC.h rfl rfl) ?_
   refine xpstepN (is := [0, 4]) (by kernel_rfl) (by simp) ?_
   intro i hi; simp only [List.mem_cons, List.not_mem_nil, or_false] at hi; rcases hi with rfl | rfl
   ·refine ⟨_, rfl, ?_⟩
    refine wbuildSliceME (f := E_palinode_palinoderef11_Point) ([] : List (Int × (Arr 10 (Int × Int)))) UndC.h InfC.h rfl .nil wr_ rfl rfl rfl rfl fun s19 => ?_
    exact xpuse key147 ⟨s19, rfl⟩ ⟨lk_, (SubM.of (.nil _) (.keep rfl (.keep rfl (.nil _))))⟩ rfl (by kernel_rfl)
   ·refine ⟨_, rfl, ?_⟩
    refine wbuildSliceME (f := E_palinode_palinoderef11_Point) [p3] UndC.h InfC.h rfl (.cons rfl (beq_of sl_) rfl rfl .nil) wr_ rfl rfl rfl rfl fun s23 => ?_
    refine xpstep (i := 0) (by kernel_rfl) rfl ?_
    refine wbuildSliceME (f := E_palinode_palinoderef11_Point) ([] : List (Int × (Arr 10 (Int × Int)))) UndC.h InfC.h rfl .nil wr_ rfl rfl rfl rfl fun s19 => ?_
    exact xpuse key146 ⟨s19, s23, rfl⟩ ⟨lk_, by refine SubM.trans (SubM.mvT 2 rfl) ?_; refine SubM.trans (SubM.mvT 1 rfl) ?_; refine SubM.trans (SubM.mvT 2 rfl) ?_; (simp only [List.eraseIdx]); exact sm_⟩ rfl (by kernel_rfl)
end Go.Proofs.Ytnjnbegjhklcgaa
