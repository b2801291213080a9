
/- What functions' texts ask for, and the walks that show it (printed by a program). -/
import Derived.Test.YtncnfohhjbadgaaGK
namespace Go.Proofs.Ytncnfohhjbadgaa
/-- palinodelaw12.FindFirst -/
def palinodelaw12_FindFirst_j3 (x111 : Bool) (r : Bool) : Prop :=
 r = x111
def palinodelaw12_FindFirst_j4 (x133 : Bool) (r : Bool) : Prop :=
 r = x133
def palinodelaw12_FindFirst_j2 (y42 : ((Arr 10 (Int × Int))) × Bool × Int × Int) (x1 : (List (Int × Int × Int × Int × Int × Int × (Arr 4 (UInt64)))) × Int) (x2 : List UInt8) (x3 : Int) (x4 : Int) (x91 : Bool) (r : Bool) : Prop :=
 ((x91 = true → ((y42.2.2.2 = 1 → ((¬ (y42.2.1 = true) → ((y42.2.2.1 = 0 → (((y42.1 : (Arr 10 (Int × Int))) = (Arr.rep 10 (0, 0)) → ∃ y120 : Bool, palinodelaw12_awake_R y120 ∧ palinodelaw12_FindFirst_j3 y120 r) ∧ (¬ ((y42.1 : (Arr 10 (Int × Int))) = (Arr.rep 10 (0, 0))) → palinodelaw12_FindFirst_j3 false r))) ∧ (¬ (y42.2.2.1 = 0) → palinodelaw12_FindFirst_j3 false r))) ∧ (¬ (¬ (y42.2.1 = true)) → palinodelaw12_FindFirst_j3 false r))) ∧ (¬ (y42.2.2.2 = 1) → palinodelaw12_FindFirst_j3 false r))) ∧ (¬ (x91 = true) → ∃ y122 : ((Arr 10 (Int × Int))) × Bool × Int × Int, palinoderef12_First_R x1 x2 x3 x4 y122 ∧ (((y42.1 : (Arr 10 (Int × Int))) = y122.1 → (((y42.2.1 == y122.2.1) = true → ((y42.2.2.1 = y122.2.2.1 → ((y42.2.2.2 = y122.2.2.2 → ∃ y143 : Bool, palinodelaw12_awake_R y143 ∧ palinodelaw12_FindFirst_j4 y143 r) ∧ (¬ (y42.2.2.2 = y122.2.2.2) → palinodelaw12_FindFirst_j4 false r))) ∧ (¬ (y42.2.2.1 = y122.2.2.1) → palinodelaw12_FindFirst_j4 false r))) ∧ (¬ ((y42.2.1 == y122.2.1) = true) → palinodelaw12_FindFirst_j4 false r))) ∧ (¬ ((y42.1 : (Arr 10 (Int × Int))) = y122.1) → palinodelaw12_FindFirst_j4 false r))))
def palinodelaw12_FindFirst_j1 (x1 : (List (Int × Int × Int × Int × Int × Int × (Arr 4 (UInt64)))) × Int) (x2 : List UInt8) (x3 : Int) (x4 : Int) (x30 : Bool) (r : Bool) : Prop :=
 ((x30 = true → ∃ y40 : Bool, palinodelaw12_awake_R y40 ∧ r = y40) ∧ (¬ (x30 = true) → ∃ y42 : ((Arr 10 (Int × Int))) × Bool × Int × Int, find_First_R x1 x2 x3 x4 y42 ∧ ∃ y93 : Bool, palinoderef06_Right_R x1 y93 ∧ palinodelaw12_FindFirst_j2 y42 x1 x2 x3 x4 ((!y93) || ((decide (x3 < 0)) || ((decide ((x2.length : Int) < x3)) || (decide (x4 < 0))))) r))
def palinodelaw12_FindFirst_R (x1 : (List (Int × Int × Int × Int × Int × Int × (Arr 4 (UInt64)))) × Int) (x2 : List UInt8) (x3 : Int) (x4 : Int) (r : Bool) : Prop :=
 palinodelaw12_FindFirst_j1 x1 x2 x3 x4 ((decide (40 < (x1.1.length : Int))) || ((decide (10 < (x2.length : Int))) || (decide (2000 < x4)))) r
set_option maxRecDepth 100000 in
set_option maxHeartbeats 4000000 in
theorem palinodelaw12_FindFirst_con (x1 : (List (Int × Int × Int × Int × Int × Int × (Arr 4 (UInt64)))) × Int) (x2 : List UInt8) (x3 : Int) (x4 : Int) (r : Bool) (h : palinodelaw12_FindFirst_R x1 x2 x3 x4 r) : Con Try.prog 3 [.agg [.sl 10 none (List.map E_palinode_api_Node x1.1), .v (.int .i64 x1.2)], .sl 1 none (List.map eb x2), .v (.int .i64 x3), .v (.int .i64 x4)] [] [] (Ret (.v (.bool r))) := by
 refine xenter Try.func3 rfl rfl fun g hg => ?_
 simp only [Try.ntmps3, slots]
 unfold palinodelaw12_FindFirst_R at h
 refine sr_ ?_
 refine xbox rfl rfl rfl rfl fun b4 => ?_
 refine as_ ?_
 refine nt_ ?_
 refine xseq ?_
 refine xseqM (fun σ => ∃ (x30 : Bool), palinodelaw12_FindFirst_j1 x1 x2 x3 x4 x30 r ∧ σ = ⟨[(1, .sl 1 none (List.map eb x2)), (2, .v (.int .i64 x3)), (3, .v (.int .i64 x4)), (4, .v (.pointer (some ⟨b4, 0, none⟩))), (29, .v (.bool x30))], [⟨b4, 24, [.sl 10 none (List.map E_palinode_api_Node x1.1), .v (.int .i64 x1.2)]⟩], []⟩) ?_ ?_
 ·refine xregion ?_
  refine vp_ (qv_fieldAddrB FldC.h rfl) ?_
  refine v_ (qv_loadB 0 ShpC.h rfl rfl rfl rfl) ?_
  refine vp_ (pv_lenM UndC.h rfl) ?_
  refine vp_ (pv_bin2 rfl rfl rfl) ?_
  refine mv_ ?_
  by_cases hp33 : 40 < (x1.1.length : Int)
  ·rw [or_tt (show (decide (40 < (x1.1.length : Int))) = true from (decide_eq_true hp33))] at h
   refine xsetB 21 (decide_eq_true hp33) rfl ?_
   refine sk_ ?_
   refine sk_ ?_
   refine sk_ ?_
   refine pk_ ?_
   refine mv_ ?_
   refine sk_ ?_
   refine sk_ ?_
   refine pk_ ?_
   refine xnil ?_
   exact xmeet ⟨true, h, rfl⟩ ⟨lk_, (SubM.of (.keep rfl rfl (.refl _) (.nil _)) (.nil _))⟩
  ·rw [or_ff (show (decide (40 < (x1.1.length : Int))) = false from (decide_eq_false hp33))] at h
   refine xsetB 21 (decide_eq_false hp33) rfl ?_
   refine mv_ ?_
   refine vp_ (pv_lenM UndC.h rfl) ?_
   refine vp_ (pv_bin2 rfl rfl rfl) ?_
   refine pk_ ?_
   refine mv_ ?_
   by_cases hp36 : 10 < (x2.length : Int)
   ·rw [or_tt (show (decide (10 < (x2.length : Int))) = true from (decide_eq_true hp36))] at h
    refine xsetB 26 (decide_eq_true hp36) rfl ?_
    refine sk_ ?_
    refine sk_ ?_
    refine pk_ ?_
    refine xnil ?_
    exact xmeet ⟨true, h, rfl⟩ ⟨lk_, (SubM.of (.keep rfl rfl (.refl _) (.nil _)) (.nil _))⟩
   ·rw [or_ff (show (decide (10 < (x2.length : Int))) = false from (decide_eq_false hp36))] at h
    refine xsetB 26 (decide_eq_false hp36) rfl ?_
    refine mv_ ?_
    refine vp_ (pv_bin2 rfl rfl rfl) ?_
    refine pk_ ?_
    refine xnil ?_
    exact xmeet ⟨(decide (2000 < x4)), h, rfl⟩ ⟨lk_, (SubM.of (.keep rfl rfl (.refl _) (.nil _)) (.nil _))⟩
 ·clear h
  rintro _ ⟨x30, h, rfl⟩
  by_cases hp38 : x30 = true
  ·replace h := h.1 hp38
   refine xcondT' hp38 rfl ?_
   refine sr_ ?_
   obtain ⟨y40, h39, h⟩ := h
   refine xcall0 (palinodelaw12_awake_con _ h39) Try.func7 (by kernel_rfl) rfl .nil rfl rfl ?_
   refine as_ ?_
   refine nt_ ?_
   refine xretc ?_
   refine xthen_ret ?_
   replace h := h.symm
   subst h
   exact xret1 hg rfl rfl (.refl _) (SubM.of (.nil _) (.nil _)) ⟨rfl, rfl, rfl⟩
  ·replace h := h.2 hp38
   refine xcondF' (b_f hp38) rfl ?_
   refine xskipc ?_
   refine xthen ?_
   refine sr_ ?_
   refine v_ (qv_loadB 0 ShpC.h rfl rfl rfl rfl) ?_
   refine mv_ ?_
   refine mv_ ?_
   refine mv_ ?_
   obtain ⟨y42, h41, h⟩ := h
   refine xcallF (Fb := [⟨b4, 24, [.sl 10 none (List.map E_palinode_api_Node x1.1), .v (.int .i64 x1.2)]⟩]) (Ft := []) (find_First_con x1 x2 x3 x4 _ h41) Try.func8 (by kernel_rfl) rfl (.cons rfl (.refl _) (.cons rfl (.refl _) (.cons rfl (.refl _) (.cons rfl (.refl _) .nil)))) (by exact sm_) rfl rfl ?_
   rintro _ _ _ ⟨rfl, rfl, rfl⟩
   simp only [List.nil_append, List.cons_append]
   refine mv_ ?_
   refine vp_ (pv_extract rfl rfl) ?_
   refine vp_ (pv_extract rfl rfl) ?_
   refine vp_ (pv_extract rfl rfl) ?_
   refine vp_ (pv_extract rfl rfl) ?_
   refine xalloc InfC.h rfl rfl fun b9 => ?_
   refine xreb 0 ((List.map E_palinode_api_Span ((Arr.rep 10 (0, 0))).l).flatten) rfl rfl ?_
   refine xstoreQ 0 [] ((List.map E_palinode_api_Span ((Arr.rep 10 (0, 0))).l).flatten) [] ((List.map E_palinode_api_Span y42.1.l).flatten) ShpC.h rfl rfl rfl rfl rfl ?_
   refine as_ ?_
   refine as_ ?_
   refine as_ ?_
   refine nt_ ?_
   refine xseq ?_
   refine xseqM (fun σ => ∃ (x91 : Bool), palinodelaw12_FindFirst_j2 y42 x1 x2 x3 x4 x91 r ∧ σ = ⟨[(1, .sl 1 none (List.map eb x2)), (2, .v (.int .i64 x3)), (3, .v (.int .i64 x4)), (4, .v (.pointer (some ⟨b4, 0, none⟩))), (9, .v (.pointer (some ⟨b9, 0, none⟩))), (10, .v (.bool y42.2.1)), (11, .v (.int .i64 y42.2.2.1)), (12, .v (.int .i64 y42.2.2.2)), (57, .v (.bool x91))], [⟨b9, 31, ((List.map E_palinode_api_Span y42.1.l).flatten)⟩, ⟨b4, 24, [.sl 10 none (List.map E_palinode_api_Node x1.1), .v (.int .i64 x1.2)]⟩], []⟩) ?_ ?_
   ·refine xregion ?_
    refine v_ (qv_loadB 1 ShpC.h rfl rfl rfl rfl) ?_
    obtain ⟨y93, h92, h⟩ := h
    refine xcall0 (palinoderef06_Right_con x1 _ h92) Try.func9 (by kernel_rfl) rfl (.cons rfl (.refl _) .nil) rfl rfl ?_
    refine vp_ (pv_not rfl) ?_
    refine mv_ ?_
    by_cases hp94 : ¬ (y93 = true)
    ·rw [or_tt (show (!y93) = true from (not_t (b_f hp94)))] at h
     refine xsetB 44 (not_t (b_f hp94)) rfl ?_
     refine sk_ ?_
     refine sk_ ?_
     refine pk_ ?_
     refine mv_ ?_
     refine sk_ ?_
     refine sk_ ?_
     refine sk_ ?_
     refine sk_ ?_
     refine pk_ ?_
     refine mv_ ?_
     refine sk_ ?_
     refine sk_ ?_
     refine pk_ ?_
     refine xnil ?_
     exact xmeet ⟨true, h, rfl⟩ ⟨lk_, (SubM.of (.keep rfl rfl (.refl _) (.keep rfl rfl (.refl _) (.nil _))) (.nil _))⟩
    ·rw [or_ff (show (!y93) = false from (not_f (Decidable.of_not_not hp94)))] at h
     refine xsetB 44 (not_f (Decidable.of_not_not hp94)) rfl ?_
     refine mv_ ?_
     refine vp_ (pv_bin2 rfl rfl rfl) ?_
     refine pk_ ?_
     refine mv_ ?_
     by_cases hp96 : x3 < 0
     ·rw [or_tt (show (decide (x3 < 0)) = true from (decide_eq_true hp96))] at h
      refine xsetB 48 (decide_eq_true hp96) rfl ?_
      refine sk_ ?_
      refine sk_ ?_
      refine sk_ ?_
      refine sk_ ?_
      refine pk_ ?_
      refine mv_ ?_
      refine sk_ ?_
      refine sk_ ?_
      refine pk_ ?_
      refine xnil ?_
      exact xmeet ⟨true, h, rfl⟩ ⟨lk_, (SubM.of (.keep rfl rfl (.refl _) (.keep rfl rfl (.refl _) (.nil _))) (.nil _))⟩
     ·rw [or_ff (show (decide (x3 < 0)) = false from (decide_eq_false hp96))] at h
      refine xsetB 48 (decide_eq_false hp96) rfl ?_
      refine mv_ ?_
      refine mv_ ?_
      refine vp_ (pv_lenM UndC.h rfl) ?_
      refine vp_ (pv_bin2 rfl rfl rfl) ?_
      refine pk_ ?_
      refine mv_ ?_
      by_cases hp99 : (x2.length : Int) < x3
      ·rw [or_tt (show (decide ((x2.length : Int) < x3)) = true from (decide_eq_true hp99))] at h
       refine xsetB 54 (decide_eq_true hp99) rfl ?_
       refine sk_ ?_
       refine sk_ ?_
       refine pk_ ?_
       refine xnil ?_
       exact xmeet ⟨true, h, rfl⟩ ⟨lk_, (SubM.of (.keep rfl rfl (.refl _) (.keep rfl rfl (.refl _) (.nil _))) (.nil _))⟩
      ·rw [or_ff (show (decide ((x2.length : Int) < x3)) = false from (decide_eq_false hp99))] at h
       refine xsetB 54 (decide_eq_false hp99) rfl ?_
       refine mv_ ?_
       refine vp_ (pv_bin2 rfl rfl rfl) ?_
       refine pk_ ?_
       refine xnil ?_
       exact xmeet ⟨(decide (x4 < 0)), h, rfl⟩ ⟨lk_, (SubM.of (.keep rfl rfl (.refl _) (.keep rfl rfl (.refl _) (.nil _))) (.nil _))⟩
   ·clear h
    rintro _ ⟨x91, h, rfl⟩
    by_cases hp101 : x91 = true
    ·replace h := h.1 hp101
     refine xcondT' hp101 rfl ?_
     refine xseqM (fun σ => ∃ (x111 : Bool), palinodelaw12_FindFirst_j3 x111 r ∧ σ = ⟨[(8, .v (.bool x111))], [], []⟩) ?_ ?_
     ·refine xregion ?_
      refine mv_ ?_
      refine vp_ (pv_bin2 rfl rfl rfl) ?_
      refine mv_ ?_
      by_cases hp113 : y42.2.2.2 = 1
      ·replace h := h.1 hp113
       refine xsetB 60 (decide_eq_true hp113) rfl ?_
       refine mv_ ?_
       refine vp_ (pv_not rfl) ?_
       refine pk_ ?_
       refine mv_ ?_
       by_cases hp114 : ¬ (y42.2.1 = true)
       ·replace h := h.1 hp114
        refine xsetB 64 (not_t (b_f hp114)) rfl ?_
        refine mv_ ?_
        refine vp_ (pv_bin2 rfl rfl rfl) ?_
        refine pk_ ?_
        refine mv_ ?_
        by_cases hp116 : y42.2.2.1 = 0
        ·replace h := h.1 hp116
         refine xsetB 68 (decide_eq_true hp116) rfl ?_
         refine v_ (qv_loadP 0 [] ((List.map E_palinode_api_Span y42.1.l).flatten) [] sq_ sl_ sl_ (part_all (seg_lenE (by rfl))) ShpC.h rfl rfl) ?_
         refine vp_ (pv_buildC (cs := ((List.map E_palinode_api_Span ((Arr.rep 10 (0, 0))).l).flatten)) StrC.h rfl (by exact congrArg some sq_)) ?_
         refine vp_ (pv_eqAgg (f := E_palinode_api_Hit) (a := y42.1) (b := (Arr.rep 10 (0, 0))) eqc_31 (by decide) (by kernel_rfl) ev_ ev_) ?_
         refine pk_ ?_
         refine mv_ ?_
         by_cases hp118 : (y42.1 : (Arr 10 (Int × Int))) = (Arr.rep 10 (0, 0))
         ·replace h := h.1 hp118
          refine xsetB 73 (decide_eq_true hp118) rfl ?_
          obtain ⟨y120, h119, h⟩ := h
          refine xcall0 (palinodelaw12_awake_con _ h119) Try.func7 (by kernel_rfl) rfl .nil rfl rfl ?_
          refine pk_ ?_
          refine as_ ?_
          refine xnil ?_
          exact xmeet ⟨y120, h, rfl⟩ ⟨(.cons rfl (.refl _) (.nil _)), (SubM.of (.nil _) (.nil _))⟩
         ·replace h := h.2 hp118
          refine xsetB 73 (decide_eq_false hp118) rfl ?_
          refine sk_ ?_
          refine pk_ ?_
          refine as_ ?_
          refine xnil ?_
          exact xmeet ⟨false, h, rfl⟩ ⟨(.cons rfl (.refl _) (.nil _)), (SubM.of (.nil _) (.nil _))⟩
        ·replace h := h.2 hp116
         refine xsetB 68 (decide_eq_false hp116) rfl ?_
         refine sk_ ?_
         refine sk_ ?_
         refine sk_ ?_
         refine pk_ ?_
         refine mv_ ?_
         refine sk_ ?_
         refine pk_ ?_
         refine as_ ?_
         refine xnil ?_
         exact xmeet ⟨false, h, rfl⟩ ⟨(.cons rfl (.refl _) (.nil _)), (SubM.of (.nil _) (.nil _))⟩
       ·replace h := h.2 hp114
        refine xsetB 64 (not_f (Decidable.of_not_not hp114)) rfl ?_
        refine sk_ ?_
        refine sk_ ?_
        refine pk_ ?_
        refine mv_ ?_
        refine sk_ ?_
        refine sk_ ?_
        refine sk_ ?_
        refine pk_ ?_
        refine mv_ ?_
        refine sk_ ?_
        refine pk_ ?_
        refine as_ ?_
        refine xnil ?_
        exact xmeet ⟨false, h, rfl⟩ ⟨(.cons rfl (.refl _) (.nil _)), (SubM.of (.nil _) (.nil _))⟩
      ·replace h := h.2 hp113
       refine xsetB 60 (decide_eq_false hp113) rfl ?_
       refine sk_ ?_
       refine sk_ ?_
       refine pk_ ?_
       refine mv_ ?_
       refine sk_ ?_
       refine sk_ ?_
       refine pk_ ?_
       refine mv_ ?_
       refine sk_ ?_
       refine sk_ ?_
       refine sk_ ?_
       refine pk_ ?_
       refine mv_ ?_
       refine sk_ ?_
       refine pk_ ?_
       refine as_ ?_
       refine xnil ?_
       exact xmeet ⟨false, h, rfl⟩ ⟨(.cons rfl (.refl _) (.nil _)), (SubM.of (.nil _) (.nil _))⟩
     ·clear h
      rintro _ ⟨x111, h, rfl⟩
      refine xretc ?_
      refine xthen_ret ?_
      replace h := h.symm
      subst h
      exact xret1 hg rfl rfl (.refl _) (SubM.of (.nil _) (.nil _)) ⟨rfl, rfl, rfl⟩
    ·replace h := h.2 hp101
     refine xcondF' (b_f hp101) rfl ?_
     refine xskipc ?_
     refine xthen ?_
     refine sr_ ?_
     refine v_ (qv_loadB 1 ShpC.h rfl rfl rfl rfl) ?_
     refine mv_ ?_
     refine mv_ ?_
     refine mv_ ?_
     obtain ⟨y122, h121, h⟩ := h
     refine xcallF (Fb := [⟨b9, 31, ((List.map E_palinode_api_Span y42.1.l).flatten)⟩, ⟨b4, 24, [.sl 10 none (List.map E_palinode_api_Node x1.1), .v (.int .i64 x1.2)]⟩]) (Ft := []) (palinoderef12_First_con x1 x2 x3 x4 _ h121) Try.func10 (by kernel_rfl) rfl (.cons rfl (.refl _) (.cons rfl (.refl _) (.cons rfl (.refl _) (.cons rfl (.refl _) .nil)))) (by exact sm_) rfl rfl ?_
     rintro _ _ _ ⟨rfl, rfl, rfl⟩
     simp only [List.nil_append, List.cons_append]
     refine mv_ ?_
     refine vp_ (pv_extract rfl rfl) ?_
     refine vp_ (pv_extract rfl rfl) ?_
     refine vp_ (pv_extract rfl rfl) ?_
     refine vp_ (pv_extract rfl rfl) ?_
     refine xalloc InfC.h rfl rfl fun b13 => ?_
     refine xreb 0 ((List.map E_palinode_api_Span ((Arr.rep 10 (0, 0))).l).flatten) rfl rfl ?_
     refine xstoreQ 0 [] ((List.map E_palinode_api_Span ((Arr.rep 10 (0, 0))).l).flatten) [] ((List.map E_palinode_api_Span y122.1.l).flatten) ShpC.h rfl rfl rfl rfl rfl ?_
     refine as_ ?_
     refine as_ ?_
     refine as_ ?_
     refine nt_ ?_
     refine xseqM (fun σ => ∃ (x133 : Bool), palinodelaw12_FindFirst_j4 x133 r ∧ σ = ⟨[(8, .v (.bool x133))], [], []⟩) ?_ ?_
     ·refine xregion ?_
      refine v_ (qv_loadP 1 [] ((List.map E_palinode_api_Span y42.1.l).flatten) [] sq_ sl_ sl_ (part_all (seg_lenE (by rfl))) ShpC.h rfl rfl) ?_
      refine v_ (qv_loadP 0 [] ((List.map E_palinode_api_Span y122.1.l).flatten) [] sq_ sl_ sl_ (part_all (seg_lenE (by rfl))) ShpC.h rfl rfl) ?_
      refine vp_ (pv_eqAgg (f := E_palinode_api_Hit) (a := y42.1) (b := y122.1) eqc_31 (by decide) (by kernel_rfl) ev_ ev_) ?_
      refine mv_ ?_
      by_cases hp135 : (y42.1 : (Arr 10 (Int × Int))) = y122.1
      ·replace h := h.1 hp135
       refine xsetB 89 (decide_eq_true hp135) rfl ?_
       refine mv_ ?_
       refine mv_ ?_
       refine vp_ (pv_eqB UndC.h rfl rfl) ?_
       refine pk_ ?_
       refine mv_ ?_
       by_cases hp137 : (y42.2.1 == y122.2.1) = true
       ·replace h := h.1 hp137
        refine xsetB 94 hp137 rfl ?_
        refine mv_ ?_
        refine mv_ ?_
        refine vp_ (pv_bin2 rfl rfl rfl) ?_
        refine pk_ ?_
        refine mv_ ?_
        by_cases hp139 : y42.2.2.1 = y122.2.2.1
        ·replace h := h.1 hp139
         refine xsetB 99 (decide_eq_true hp139) rfl ?_
         refine mv_ ?_
         refine mv_ ?_
         refine vp_ (pv_bin2 rfl rfl rfl) ?_
         refine pk_ ?_
         refine mv_ ?_
         by_cases hp141 : y42.2.2.2 = y122.2.2.2
         ·replace h := h.1 hp141
          refine xsetB 104 (decide_eq_true hp141) rfl ?_
          obtain ⟨y143, h142, h⟩ := h
          refine xcall0 (palinodelaw12_awake_con _ h142) Try.func7 (by kernel_rfl) rfl .nil rfl rfl ?_
          refine pk_ ?_
          refine as_ ?_
          refine xnil ?_
          exact xmeet ⟨y143, h, rfl⟩ ⟨(.cons rfl (.refl _) (.nil _)), (SubM.of (.nil _) (.nil _))⟩
         ·replace h := h.2 hp141
          refine xsetB 104 (decide_eq_false hp141) rfl ?_
          refine sk_ ?_
          refine pk_ ?_
          refine as_ ?_
          refine xnil ?_
          exact xmeet ⟨false, h, rfl⟩ ⟨(.cons rfl (.refl _) (.nil _)), (SubM.of (.nil _) (.nil _))⟩
        ·replace h := h.2 hp139
         refine xsetB 99 (decide_eq_false hp139) rfl ?_
         refine sk_ ?_
         refine sk_ ?_
         refine sk_ ?_
         refine pk_ ?_
         refine mv_ ?_
         refine sk_ ?_
         refine pk_ ?_
         refine as_ ?_
         refine xnil ?_
         exact xmeet ⟨false, h, rfl⟩ ⟨(.cons rfl (.refl _) (.nil _)), (SubM.of (.nil _) (.nil _))⟩
       ·replace h := h.2 hp137
        refine xsetB 94 (b_f hp137) rfl ?_
        refine sk_ ?_
        refine sk_ ?_
        refine sk_ ?_
        refine pk_ ?_
        refine mv_ ?_
        refine sk_ ?_
        refine sk_ ?_
        refine sk_ ?_
        refine pk_ ?_
        refine mv_ ?_
        refine sk_ ?_
        refine pk_ ?_
        refine as_ ?_
        refine xnil ?_
        exact xmeet ⟨false, h, rfl⟩ ⟨(.cons rfl (.refl _) (.nil _)), (SubM.of (.nil _) (.nil _))⟩
      ·replace h := h.2 hp135
       refine xsetB 89 (decide_eq_false hp135) rfl ?_
       refine sk_ ?_
       refine sk_ ?_
       refine sk_ ?_
       refine pk_ ?_
       refine mv_ ?_
       refine sk_ ?_
       refine sk_ ?_
       refine sk_ ?_
       refine pk_ ?_
       refine mv_ ?_
       refine sk_ ?_
       refine sk_ ?_
       refine sk_ ?_
       refine pk_ ?_
       refine mv_ ?_
       refine sk_ ?_
       refine pk_ ?_
       refine as_ ?_
       refine xnil ?_
       exact xmeet ⟨false, h, rfl⟩ ⟨(.cons rfl (.refl _) (.nil _)), (SubM.of (.nil _) (.nil _))⟩
     ·clear h
      rintro _ ⟨x133, h, rfl⟩
      refine xretc ?_
      replace h := h.symm
      subst h
      exact xret1 hg rfl rfl (.refl _) (SubM.of (.nil _) (.nil _)) ⟨rfl, rfl, rfl⟩
end Go.Proofs.Ytncnfohhjbadgaa
