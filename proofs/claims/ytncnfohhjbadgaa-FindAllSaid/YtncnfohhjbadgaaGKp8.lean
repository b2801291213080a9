
/- What functions' texts ask for, and the walks that show it (printed by a program). -/
import Derived.Test.YtncnfohhjbadgaaGKp7
namespace Go.Proofs.Ytncnfohhjbadgaa
/-- palinodelaw12.awake -/
def palinodelaw12_awake_j1 (x29 : Bool) (r : Bool) : Prop :=
 r = x29
def palinodelaw12_awake_R (r : Bool) : Prop :=
 ∃ y2 : (Arr 4 (UInt64)), palinoderef08_One_R (97 : UInt8) y2 ∧ ∃ y5 : (List ((Arr 10 (Int × Int)))) × Int × Int, find_All_R ([(1, 0, 0, 0, 0, 0, y2), (4, 0, 0, 0, (-1), 0, (Arr.rep 4 (0 : UInt64)))], 0) ([(98 : UInt8), (97 : UInt8), (97 : UInt8), (99 : UInt8)]) 99 y5 ∧ ((y5.2.2 = 0 → (((y5.1.length : Int) = 3 → 0 ≤ (0 : Int) ∧ ∃ y35 : (Arr 10 (Int × Int)), y5.1[(0 : Int).toNat]? = some y35 ∧ (0 ≤ (0 : Int) ∧ (0 : Int) < 10) ∧ ∃ y38 : Int × Int, y35.l[(0 : Int).toNat]? = some y38 ∧ (((y38 : Int × Int) = (0, 0) → 0 ≤ (1 : Int) ∧ ∃ y41 : (Arr 10 (Int × Int)), y5.1[(1 : Int).toNat]? = some y41 ∧ (0 ≤ (0 : Int) ∧ (0 : Int) < 10) ∧ ∃ y44 : Int × Int, y41.l[(0 : Int).toNat]? = some y44 ∧ (((y44 : Int × Int) = (1, 3) → 0 ≤ (2 : Int) ∧ ∃ y47 : (Arr 10 (Int × Int)), y5.1[(2 : Int).toNat]? = some y47 ∧ (0 ≤ (0 : Int) ∧ (0 : Int) < 10) ∧ ∃ y50 : Int × Int, y47.l[(0 : Int).toNat]? = some y50 ∧ palinodelaw12_awake_j1 (decide ((y50 : Int × Int) = (4, 4))) r) ∧ (¬ ((y44 : Int × Int) = (1, 3)) → palinodelaw12_awake_j1 false r))) ∧ (¬ ((y38 : Int × Int) = (0, 0)) → palinodelaw12_awake_j1 false r))) ∧ (¬ ((y5.1.length : Int) = 3) → palinodelaw12_awake_j1 false r))) ∧ (¬ (y5.2.2 = 0) → palinodelaw12_awake_j1 false r))
def palinodelaw12_awake_j1_ev (fuel : Nat) (x29 : Bool) : Option (Bool) :=
 some x29
theorem palinodelaw12_awake_j1_ok {fuel : Nat} {x29 : Bool} {r : Bool} (h : palinodelaw12_awake_j1_ev fuel x29 = some r) : palinodelaw12_awake_j1 x29 r := by
 unfold palinodelaw12_awake_j1_ev at h
 unfold palinodelaw12_awake_j1
 exact (Option.some.inj h).symm
def palinodelaw12_awake_ev (fuel : Nat) : Option (Bool) :=
 ((palinoderef08_One_ev fuel (97 : UInt8)).bind fun y2 => ((find_All_ev fuel ([(1, 0, 0, 0, 0, 0, y2), (4, 0, 0, 0, (-1), 0, (Arr.rep 4 (0 : UInt64)))], 0) ([(98 : UInt8), (97 : UInt8), (97 : UInt8), (99 : UInt8)]) 99).bind fun y5 => (if y5.2.2 = 0 then (if (y5.1.length : Int) = 3 then (if 0 ≤ (0 : Int) then ((y5.1[(0 : Int).toNat]?).bind fun y35 => (if (0 ≤ (0 : Int) ∧ (0 : Int) < 10) then ((y35.l[(0 : Int).toNat]?).bind fun y38 => (if (y38 : Int × Int) = (0, 0) then (if 0 ≤ (1 : Int) then ((y5.1[(1 : Int).toNat]?).bind fun y41 => (if (0 ≤ (0 : Int) ∧ (0 : Int) < 10) then ((y41.l[(0 : Int).toNat]?).bind fun y44 => (if (y44 : Int × Int) = (1, 3) then (if 0 ≤ (2 : Int) then ((y5.1[(2 : Int).toNat]?).bind fun y47 => (if (0 ≤ (0 : Int) ∧ (0 : Int) < 10) then ((y47.l[(0 : Int).toNat]?).bind fun y50 => palinodelaw12_awake_j1_ev fuel (decide ((y50 : Int × Int) = (4, 4)))) else none)) else none) else palinodelaw12_awake_j1_ev fuel false)) else none)) else none) else palinodelaw12_awake_j1_ev fuel false)) else none)) else none) else palinodelaw12_awake_j1_ev fuel false) else palinodelaw12_awake_j1_ev fuel false)))
theorem palinodelaw12_awake_ok {fuel : Nat} {r : Bool} (h : palinodelaw12_awake_ev fuel = some r) : palinodelaw12_awake_R r := by
 unfold palinodelaw12_awake_ev at h
 unfold palinodelaw12_awake_R
 obtain ⟨q266, g266, h⟩ := bind_ok h
 refine ⟨q266, palinoderef08_One_ok g266, ?_⟩
 obtain ⟨q267, g267, h⟩ := bind_ok h
 refine ⟨q267, find_All_ok g267, ?_⟩
 refine ⟨fun g268 => ?_, fun g268 => ?_⟩
 ·rw [if_pos g268] at h
  refine ⟨fun g269 => ?_, fun g269 => ?_⟩
  ·rw [if_pos g269] at h
   obtain ⟨g270, h⟩ := if_ok h
   refine ⟨g270, ?_⟩
   obtain ⟨q271, g271, h⟩ := bind_ok h
   refine ⟨q271, g271, ?_⟩
   obtain ⟨g272, h⟩ := if_ok h
   refine ⟨g272, ?_⟩
   obtain ⟨q273, g273, h⟩ := bind_ok h
   refine ⟨q273, g273, ?_⟩
   refine ⟨fun g274 => ?_, fun g274 => ?_⟩
   ·rw [if_pos g274] at h
    obtain ⟨g275, h⟩ := if_ok h
    refine ⟨g275, ?_⟩
    obtain ⟨q276, g276, h⟩ := bind_ok h
    refine ⟨q276, g276, ?_⟩
    obtain ⟨g277, h⟩ := if_ok h
    refine ⟨g277, ?_⟩
    obtain ⟨q278, g278, h⟩ := bind_ok h
    refine ⟨q278, g278, ?_⟩
    refine ⟨fun g279 => ?_, fun g279 => ?_⟩
    ·rw [if_pos g279] at h
     obtain ⟨g280, h⟩ := if_ok h
     refine ⟨g280, ?_⟩
     obtain ⟨q281, g281, h⟩ := bind_ok h
     refine ⟨q281, g281, ?_⟩
     obtain ⟨g282, h⟩ := if_ok h
     refine ⟨g282, ?_⟩
     obtain ⟨q283, g283, h⟩ := bind_ok h
     refine ⟨q283, g283, ?_⟩
     exact palinodelaw12_awake_j1_ok h
    ·rw [if_neg g279] at h
     exact palinodelaw12_awake_j1_ok h
   ·rw [if_neg g274] at h
    exact palinodelaw12_awake_j1_ok h
  ·rw [if_neg g269] at h
   exact palinodelaw12_awake_j1_ok h
 ·rw [if_neg g268] at h
  exact palinodelaw12_awake_j1_ok h
set_option maxHeartbeats 4000000 in
theorem palinodelaw12_awake_con (r : Bool) (h : palinodelaw12_awake_R r) : Con Try.prog 7 [] [] [] (Ret (.v (.bool r))) := by
 refine xenter Try.func7 rfl rfl fun g hg => ?_
 simp only [Try.ntmps7, slots]
 refine sr_ ?_
 refine as_ ?_
 refine nt_ ?_
 refine sr_ ?_
 obtain ⟨y2, h1, h⟩ := h
 refine xcall0 (palinoderef08_One_con (97 : UInt8) _ h1) Try.func15 (by kernel_rfl) rfl (.cons rfl (.refl _) .nil) rfl rfl ?_
 refine vp_ (pv_buildC (cs := ([.v (.int .i64 1), .v (.int .i64 0), .v (.int .i64 0), .v (.int .i64 0), .v (.int .i64 0), .v (.int .i64 0)] ++ (List.map ew y2.l).flatten)) StrC.h rfl (by refine fill_step [] [.v (.int .i64 0)] ([.v (.int .i64 0), .v (.int .i64 0), .v (.int .i64 0), .v (.int .i64 0), .v (.int .i64 0)] ++ (List.map ew ((Arr.rep 4 (0 : UInt64))).l).flatten) sq_ sl_ sl_ sl_ rfl rfl ?_; refine fill_step [.v (.int .i64 1), .v (.int .i64 0), .v (.int .i64 0), .v (.int .i64 0), .v (.int .i64 0), .v (.int .i64 0)] ((List.map ew ((Arr.rep 4 (0 : UInt64))).l).flatten) [] sq_ sl_ sl_ sl_ rfl rfl ?_; exact congrArg some sq_)) ?_
 refine vp_ (pv_buildC (cs := ([.v (.int .i64 4), .v (.int .i64 0), .v (.int .i64 0), .v (.int .i64 0), .v (.int .i64 ((-1))), .v (.int .i64 0)] ++ (List.map ew ((Arr.rep 4 (0 : UInt64))).l).flatten)) StrC.h rfl (by refine fill_step [] [.v (.int .i64 0)] ([.v (.int .i64 0), .v (.int .i64 0), .v (.int .i64 0), .v (.int .i64 0), .v (.int .i64 0)] ++ (List.map ew ((Arr.rep 4 (0 : UInt64))).l).flatten) sq_ sl_ sl_ sl_ rfl rfl ?_; refine fill_step [.v (.int .i64 4)] [.v (.int .i64 0)] ([.v (.int .i64 0), .v (.int .i64 0), .v (.int .i64 0), .v (.int .i64 0)] ++ (List.map ew ((Arr.rep 4 (0 : UInt64))).l).flatten) sq_ sl_ sl_ sl_ rfl rfl ?_; refine fill_step [.v (.int .i64 4), .v (.int .i64 0), .v (.int .i64 0), .v (.int .i64 0)] [.v (.int .i64 0)] ([.v (.int .i64 0)] ++ (List.map ew ((Arr.rep 4 (0 : UInt64))).l).flatten) sq_ sl_ sl_ sl_ rfl rfl ?_; exact congrArg some sq_)) ?_
 refine xbuildSliceME (f := E_palinode_api_Node) [(1, 0, 0, 0, 0, 0, y2), (4, 0, 0, 0, (-1), 0, (Arr.rep 4 (0 : UInt64)))] UndC.h InfC.h rfl (.cons rfl (beq_of sl_) rfl rfl (.cons rfl (beq_of sl_) rfl rfl .nil)) wr_ rfl rfl rfl rfl fun s8 => ?_
 refine vp_ (pv_buildC StrC.h rfl rfl) ?_
 refine xalloc InfC.h rfl rfl fun b1 => ?_
 refine xstore 0 ShpC.h rfl rfl rfl rfl rfl rfl rfl ?_
 refine nt_ ?_
 refine sr_ ?_
 refine v_ (qv_loadB 0 ShpC.h rfl rfl rfl rfl) ?_
 refine xbuildSliceM (f := eb) [(98 : UInt8), (97 : UInt8), (97 : UInt8), (99 : UInt8)] UndC.h InfC.h rfl rfl wr_ rfl rfl rfl rfl fun s12 => ?_
 refine xmark 0 UndC.h UndC.h rfl rfl rfl rfl ?_
 obtain ⟨y5, h4, h⟩ := h
 refine xcallF (Fb := [⟨b1, 24, [.sl 10 (some (some (s8, 2))) (List.map E_palinode_api_Node ([(1, 0, 0, 0, 0, 0, y2), (4, 0, 0, 0, (-1), 0, (Arr.rep 4 (0 : UInt64)))])), .v (.int .i64 0)]⟩]) (Ft := [⟨(some (s8, 2)), 54, 10, ([(1, 0, 0, 0, 0, 0, y2), (4, 0, 0, 0, (-1), 0, (Arr.rep 4 (0 : UInt64)))]).length⟩]) (find_All_con ([(1, 0, 0, 0, 0, 0, y2), (4, 0, 0, 0, (-1), 0, (Arr.rep 4 (0 : UInt64)))], 0) ([(98 : UInt8), (97 : UInt8), (97 : UInt8), (99 : UInt8)]) 99 _ h4) Try.func11 (by kernel_rfl) rfl (.cons rfl (.agg (.cons (.tok _ _ _) (.cons (.refl _) .nil))) (.cons rfl (.refl _) (.cons rfl (.refl _) .nil))) (by exact sm_) rfl rfl ?_
 rintro _ _ _ ⟨i6, rfl, rfl, rfl⟩
 simp only [List.nil_append, List.cons_append]
 refine mv_ ?_
 refine vp_ (pv_extract rfl rfl) ?_
 refine vp_ (pv_extract rfl rfl) ?_
 refine vp_ (pv_extract rfl rfl) ?_
 refine as_ ?_
 refine as_ ?_
 refine as_ ?_
 refine nt_ ?_
 refine xseqM (fun σ => ∃ (x29 : Bool), palinodelaw12_awake_j1 x29 r ∧ σ = ⟨[(0, .v (.bool x29))], [], []⟩) ?_ ?_
 ·refine xregion ?_
  refine mv_ ?_
  refine vp_ (pv_bin2 rfl rfl rfl) ?_
  refine mv_ ?_
  by_cases hp31 : y5.2.2 = 0
  ·replace h := h.1 hp31
   refine xsetB 20 (decide_eq_true hp31) rfl ?_
   refine mv_ ?_
   refine vp_ (pv_lenM UndC.h rfl) ?_
   refine vp_ (pv_bin2 rfl rfl rfl) ?_
   refine pk_ ?_
   refine mv_ ?_
   by_cases hp34 : (y5.1.length : Int) = 3
   ·replace h := h.1 hp34
    refine xsetB 25 (decide_eq_true hp34) rfl ?_
    refine mv_ ?_
    obtain ⟨h36a, h⟩ := h
    obtain ⟨y35, h36b, h⟩ := h
    refine vp_ (pv_indexAddrM h36a h36b UndC.h ShpC.h rfl rfl) ?_
    refine vp_ (qv_fieldAddrE FldC.h rfl) ?_
    obtain ⟨h37, h⟩ := h
    obtain ⟨y38, h37b, h⟩ := h
    refine vp_ (pv_indexAddrEA (f := E_palinode_api_Span) (a := y35) [] h37 h37b sq_ UndC.h ShpC.h rfl rfl) ?_
    refine v_ (qv_load ShpC.h rfl rfl rfl) ?_
    refine vp_ (pv_buildC StrC.h rfl rfl) ?_
    refine vp_ (pv_eqAgg (f := E_palinode_api_Span) (a := y38) (b := (0, 0)) eqc_28 (by decide) (by kernel_rfl) ev_ ev_) ?_
    refine pk_ ?_
    refine mv_ ?_
    by_cases hp40 : (y38 : Int × Int) = (0, 0)
    ·replace h := h.1 hp40
     refine xsetB 34 (decide_eq_true hp40) rfl ?_
     refine mv_ ?_
     obtain ⟨h42a, h⟩ := h
     obtain ⟨y41, h42b, h⟩ := h
     refine vp_ (pv_indexAddrM h42a h42b UndC.h ShpC.h rfl rfl) ?_
     refine vp_ (qv_fieldAddrE FldC.h rfl) ?_
     obtain ⟨h43, h⟩ := h
     obtain ⟨y44, h43b, h⟩ := h
     refine vp_ (pv_indexAddrEA (f := E_palinode_api_Span) (a := y41) [] h43 h43b sq_ UndC.h ShpC.h rfl rfl) ?_
     refine v_ (qv_load ShpC.h rfl rfl rfl) ?_
     refine vp_ (pv_buildC StrC.h rfl rfl) ?_
     refine vp_ (pv_eqAgg (f := E_palinode_api_Span) (a := y44) (b := (1, 3)) eqc_28 (by decide) (by kernel_rfl) ev_ ev_) ?_
     refine pk_ ?_
     refine mv_ ?_
     by_cases hp46 : (y44 : Int × Int) = (1, 3)
     ·replace h := h.1 hp46
      refine xsetB 43 (decide_eq_true hp46) rfl ?_
      refine mv_ ?_
      obtain ⟨h48a, h⟩ := h
      obtain ⟨y47, h48b, h⟩ := h
      refine vp_ (pv_indexAddrM h48a h48b UndC.h ShpC.h rfl rfl) ?_
      refine vp_ (qv_fieldAddrE FldC.h rfl) ?_
      obtain ⟨h49, h⟩ := h
      obtain ⟨y50, h49b, h⟩ := h
      refine vp_ (pv_indexAddrEA (f := E_palinode_api_Span) (a := y47) [] h49 h49b sq_ UndC.h ShpC.h rfl rfl) ?_
      refine v_ (qv_load ShpC.h rfl rfl rfl) ?_
      refine vp_ (pv_buildC StrC.h rfl rfl) ?_
      refine vp_ (pv_eqAgg (f := E_palinode_api_Span) (a := y50) (b := (4, 4)) eqc_28 (by decide) (by kernel_rfl) ev_ ev_) ?_
      refine pk_ ?_
      refine as_ ?_
      refine xnil ?_
      exact xmeet ⟨(decide ((y50 : Int × Int) = (4, 4))), h, rfl⟩ ⟨(.cons rfl (.refl _) (.nil _)), (SubM.of (.nil _) (.nil _))⟩
     ·replace h := h.2 hp46
      refine xsetB 43 (decide_eq_false hp46) rfl ?_
      refine sk_ ?_
      refine sk_ ?_
      refine sk_ ?_
      refine sk_ ?_
      refine sk_ ?_
      refine sk_ ?_
      refine sk_ ?_
      refine pk_ ?_
      refine as_ ?_
      refine xnil ?_
      exact xmeet ⟨false, h, rfl⟩ ⟨(.cons rfl (.refl _) (.nil _)), (SubM.of (.nil _) (.nil _))⟩
    ·replace h := h.2 hp40
     refine xsetB 34 (decide_eq_false hp40) rfl ?_
     refine sk_ ?_
     refine sk_ ?_
     refine sk_ ?_
     refine sk_ ?_
     refine sk_ ?_
     refine sk_ ?_
     refine sk_ ?_
     refine pk_ ?_
     refine mv_ ?_
     refine sk_ ?_
     refine sk_ ?_
     refine sk_ ?_
     refine sk_ ?_
     refine sk_ ?_
     refine sk_ ?_
     refine sk_ ?_
     refine pk_ ?_
     refine as_ ?_
     refine xnil ?_
     exact xmeet ⟨false, h, rfl⟩ ⟨(.cons rfl (.refl _) (.nil _)), (SubM.of (.nil _) (.nil _))⟩
   ·replace h := h.2 hp34
    refine xsetB 25 (decide_eq_false hp34) rfl ?_
    refine sk_ ?_
    refine sk_ ?_
    refine sk_ ?_
    refine sk_ ?_
    refine sk_ ?_
    refine sk_ ?_
    refine sk_ ?_
    refine pk_ ?_
    refine mv_ ?_
    refine sk_ ?_
    refine sk_ ?_
    refine sk_ ?_
    refine sk_ ?_
    refine sk_ ?_
    refine sk_ ?_
    refine sk_ ?_
    refine pk_ ?_
    refine mv_ ?_
    refine sk_ ?_
    refine sk_ ?_
    refine sk_ ?_
    refine sk_ ?_
    refine sk_ ?_
    refine sk_ ?_
    refine sk_ ?_
    refine pk_ ?_
    refine as_ ?_
    refine xnil ?_
    exact xmeet ⟨false, h, rfl⟩ ⟨(.cons rfl (.refl _) (.nil _)), (SubM.of (.nil _) (.nil _))⟩
  ·replace h := h.2 hp31
   refine xsetB 20 (decide_eq_false hp31) rfl ?_
   refine sk_ ?_
   refine sk_ ?_
   refine sk_ ?_
   refine pk_ ?_
   refine mv_ ?_
   refine sk_ ?_
   refine sk_ ?_
   refine sk_ ?_
   refine sk_ ?_
   refine sk_ ?_
   refine sk_ ?_
   refine sk_ ?_
   refine pk_ ?_
   refine mv_ ?_
   refine sk_ ?_
   refine sk_ ?_
   refine sk_ ?_
   refine sk_ ?_
   refine sk_ ?_
   refine sk_ ?_
   refine sk_ ?_
   refine pk_ ?_
   refine mv_ ?_
   refine sk_ ?_
   refine sk_ ?_
   refine sk_ ?_
   refine sk_ ?_
   refine sk_ ?_
   refine sk_ ?_
   refine sk_ ?_
   refine pk_ ?_
   refine as_ ?_
   refine xnil ?_
   exact xmeet ⟨false, h, rfl⟩ ⟨(.cons rfl (.refl _) (.nil _)), (SubM.of (.nil _) (.nil _))⟩
 ·clear h
  rintro _ ⟨x29, h, rfl⟩
  refine xretc ?_
  replace h := h.symm
  subst h
  exact xret1 hg rfl rfl (.refl _) (SubM.of (.nil _) (.nil _)) ⟨rfl, rfl, rfl⟩
end Go.Proofs.Ytncnfohhjbadgaa
