
/- What functions' texts ask for, and the walks that show it (printed by a program). -/
import Derived.Test.YtnefabncdpkbmaaGK
namespace Go.Proofs.Ytnefabncdpkbmaa
/-- palinodelaw11.MatchRelates -/
def palinodelaw11_MatchRelates_j2 (x92 : Bool) (r : Bool) : Prop :=
 r = x92
def palinodelaw11_MatchRelates_j1 (x1 : (List (Int × Int × Int × Int × Int × Int × (Arr 4 (UInt64)))) × Int) (x2 : List UInt8) (x3 : Int) (x47 : Bool) (r : Bool) : Prop :=
 ((x47 = true → ∃ y63 : Bool, palinodelaw11_awake_R y63 ∧ r = y63) ∧ (¬ (x47 = true) → ∃ y65 : ((Arr 10 (Int × Int))) × Bool × Int × Int, match_At_R x1 x2 x3 3000 y65 ∧ ((y65.2.2.2 = 18 → ((¬ (y65.2.1 = true) → ∃ y81 : Bool, palinodelaw11_awake_R y81 ∧ r = y81) ∧ (¬ (¬ (y65.2.1 = true)) → r = false))) ∧ (¬ (y65.2.2.2 = 18) → ∃ y83 : ((Arr 10 (Int × Int))) × Bool, palinoderef11_Best_R x1 x2 x3 y83 ∧ ((y65.2.2.2 = 0 → (((y65.1 : (Arr 10 (Int × Int))) = y83.1 → (((y65.2.1 == y83.2) = true → ∃ y100 : Bool, palinodelaw11_awake_R y100 ∧ palinodelaw11_MatchRelates_j2 y100 r) ∧ (¬ ((y65.2.1 == y83.2) = true) → palinodelaw11_MatchRelates_j2 false r))) ∧ (¬ ((y65.1 : (Arr 10 (Int × Int))) = y83.1) → palinodelaw11_MatchRelates_j2 false r))) ∧ (¬ (y65.2.2.2 = 0) → palinodelaw11_MatchRelates_j2 false r))))))
def palinodelaw11_MatchRelates_R (x1 : (List (Int × Int × Int × Int × Int × Int × (Arr 4 (UInt64)))) × Int) (x2 : List UInt8) (x3 : Int) (r : Bool) : Prop :=
 ((12 < (x1.1.length : Int) → palinodelaw11_MatchRelates_j1 x1 x2 x3 true r) ∧ (¬ (12 < (x1.1.length : Int)) → ((6 < (x2.length : Int) → palinodelaw11_MatchRelates_j1 x1 x2 x3 true r) ∧ (¬ (6 < (x2.length : Int)) → ((x3 < 0 → palinodelaw11_MatchRelates_j1 x1 x2 x3 true r) ∧ (¬ (x3 < 0) → (((x2.length : Int) < x3 → palinodelaw11_MatchRelates_j1 x1 x2 x3 true r) ∧ (¬ ((x2.length : Int) < x3) → ∃ y60 : Bool, palinoderef06_Right_R x1 y60 ∧ palinodelaw11_MatchRelates_j1 x1 x2 x3 (!y60) r))))))))
set_option maxRecDepth 100000 in
set_option maxHeartbeats 4000000 in
theorem palinodelaw11_MatchRelates_con (x1 : (List (Int × Int × Int × Int × Int × Int × (Arr 4 (UInt64)))) × Int) (x2 : List UInt8) (x3 : Int) (r : Bool) (h : palinodelaw11_MatchRelates_R x1 x2 x3 r) : Con Try.prog 4 [.agg [.sl 10 none (List.map E_palinode_api_Node x1.1), .v (.int .i64 x1.2)], .sl 1 none (List.map eb x2), .v (.int .i64 x3)] [] [] (Ret (.v (.bool r))) := by
 refine xenter Try.func4 rfl rfl fun g hg => ?_
 simp only [Try.ntmps4, slots]
 refine sr_ ?_
 refine xbox rfl rfl rfl rfl fun b3 => ?_
 refine as_ ?_
 refine nt_ ?_
 refine xseq ?_
 refine xseqM (fun σ => ∃ (x47 : Bool), palinodelaw11_MatchRelates_j1 x1 x2 x3 x47 r ∧ σ = ⟨[(1, .sl 1 none (List.map eb x2)), (2, .v (.int .i64 x3)), (3, .v (.pointer (some ⟨b3, 0, none⟩))), (36, .v (.bool x47))], [⟨b3, 24, [.sl 10 none (List.map E_palinode_api_Node x1.1), .v (.int .i64 x1.2)]⟩], []⟩) ?_ ?_
 ·refine xregion ?_
  refine vp_ (qv_fieldAddrB FldC.h rfl) ?_
  refine v_ (qv_loadB 0 ShpC.h rfl rfl rfl rfl) ?_
  refine vp_ (pv_lenM UndC.h rfl) ?_
  refine vp_ (pv_bin2 rfl rfl rfl) ?_
  refine mv_ ?_
  by_cases hp50 : 12 < (x1.1.length : Int)
  ·replace h := h.1 hp50
   refine xsetB 17 (decide_eq_true hp50) rfl ?_
   refine sk_ ?_
   refine sk_ ?_
   refine sk_ ?_
   refine pk_ ?_
   refine mv_ ?_
   refine sk_ ?_
   refine sk_ ?_
   refine pk_ ?_
   refine mv_ ?_
   refine sk_ ?_
   refine sk_ ?_
   refine sk_ ?_
   refine sk_ ?_
   refine pk_ ?_
   refine mv_ ?_
   refine sk_ ?_
   refine sk_ ?_
   refine sk_ ?_
   refine pk_ ?_
   refine xnil ?_
   exact xmeet ⟨true, h, rfl⟩ ⟨lk_, (SubM.of (.keep rfl rfl (.refl _) (.nil _)) (.nil _))⟩
  ·replace h := h.2 hp50
   refine xsetB 17 (decide_eq_false hp50) rfl ?_
   refine mv_ ?_
   refine vp_ (pv_lenM UndC.h rfl) ?_
   refine vp_ (pv_bin2 rfl rfl rfl) ?_
   refine pk_ ?_
   refine mv_ ?_
   by_cases hp53 : 6 < (x2.length : Int)
   ·replace h := h.1 hp53
    refine xsetB 22 (decide_eq_true hp53) rfl ?_
    refine sk_ ?_
    refine sk_ ?_
    refine pk_ ?_
    refine mv_ ?_
    refine sk_ ?_
    refine sk_ ?_
    refine sk_ ?_
    refine sk_ ?_
    refine pk_ ?_
    refine mv_ ?_
    refine sk_ ?_
    refine sk_ ?_
    refine sk_ ?_
    refine pk_ ?_
    refine xnil ?_
    exact xmeet ⟨true, h, rfl⟩ ⟨lk_, (SubM.of (.keep rfl rfl (.refl _) (.nil _)) (.nil _))⟩
   ·replace h := h.2 hp53
    refine xsetB 22 (decide_eq_false hp53) rfl ?_
    refine mv_ ?_
    refine vp_ (pv_bin2 rfl rfl rfl) ?_
    refine pk_ ?_
    refine mv_ ?_
    by_cases hp55 : x3 < 0
    ·replace h := h.1 hp55
     refine xsetB 26 (decide_eq_true hp55) rfl ?_
     refine sk_ ?_
     refine sk_ ?_
     refine sk_ ?_
     refine sk_ ?_
     refine pk_ ?_
     refine mv_ ?_
     refine sk_ ?_
     refine sk_ ?_
     refine sk_ ?_
     refine pk_ ?_
     refine xnil ?_
     exact xmeet ⟨true, h, rfl⟩ ⟨lk_, (SubM.of (.keep rfl rfl (.refl _) (.nil _)) (.nil _))⟩
    ·replace h := h.2 hp55
     refine xsetB 26 (decide_eq_false hp55) rfl ?_
     refine mv_ ?_
     refine mv_ ?_
     refine vp_ (pv_lenM UndC.h rfl) ?_
     refine vp_ (pv_bin2 rfl rfl rfl) ?_
     refine pk_ ?_
     refine mv_ ?_
     by_cases hp58 : (x2.length : Int) < x3
     ·replace h := h.1 hp58
      refine xsetB 32 (decide_eq_true hp58) rfl ?_
      refine sk_ ?_
      refine sk_ ?_
      refine sk_ ?_
      refine pk_ ?_
      refine xnil ?_
      exact xmeet ⟨true, h, rfl⟩ ⟨lk_, (SubM.of (.keep rfl rfl (.refl _) (.nil _)) (.nil _))⟩
     ·replace h := h.2 hp58
      refine xsetB 32 (decide_eq_false hp58) rfl ?_
      refine v_ (qv_loadB 0 ShpC.h rfl rfl rfl rfl) ?_
      obtain ⟨y60, h59, h⟩ := h
      refine xcall0 (palinoderef06_Right_con x1 _ h59) Try.func9 (by kernel_rfl) rfl (.cons rfl (.refl _) .nil) rfl rfl ?_
      refine vp_ (pv_not rfl) ?_
      refine pk_ ?_
      refine xnil ?_
      exact xmeet ⟨(!y60), h, rfl⟩ ⟨lk_, (SubM.of (.keep rfl rfl (.refl _) (.nil _)) (.nil _))⟩
 ·clear h
  rintro _ ⟨x47, h, rfl⟩
  by_cases hp61 : x47 = true
  ·replace h := h.1 hp61
   refine xcondT' hp61 rfl ?_
   refine sr_ ?_
   obtain ⟨y63, h62, h⟩ := h
   refine xcall0 (palinodelaw11_awake_con _ h62) Try.func7 (by kernel_rfl) rfl .nil rfl rfl ?_
   refine as_ ?_
   refine nt_ ?_
   refine xretc ?_
   refine xthen_ret ?_
   replace h := h.symm
   subst h
   exact xret1 hg rfl rfl (.refl _) (SubM.of (.nil _) (.nil _)) ⟨rfl, rfl, rfl⟩
  ·replace h := h.2 hp61
   refine xcondF' (b_f hp61) rfl ?_
   refine xskipc ?_
   refine xthen ?_
   refine sr_ ?_
   refine v_ (qv_loadB 0 ShpC.h rfl rfl rfl rfl) ?_
   refine mv_ ?_
   refine mv_ ?_
   obtain ⟨y65, h64, h⟩ := h
   refine xcallF (Fb := [⟨b3, 24, [.sl 10 none (List.map E_palinode_api_Node x1.1), .v (.int .i64 x1.2)]⟩]) (Ft := []) (match_At_con x1 x2 x3 3000 _ h64) Try.func8 (by kernel_rfl) rfl (.cons rfl (.refl _) (.cons rfl (.refl _) (.cons rfl (.refl _) (.cons rfl (.refl _) .nil)))) (by exact sm_) rfl rfl ?_
   rintro _ _ _ ⟨rfl, rfl, rfl⟩
   simp only [List.nil_append, List.cons_append]
   refine mv_ ?_
   refine vp_ (pv_extract rfl rfl) ?_
   refine vp_ (pv_extract rfl rfl) ?_
   refine vp_ (pv_extract rfl rfl) ?_
   refine vp_ (pv_extract rfl rfl) ?_
   refine xalloc InfC.h rfl rfl fun b7 => ?_
   refine xreb 0 ((List.map E_palinode_api_Span ((Arr.rep 10 (0, 0))).l).flatten) rfl rfl ?_
   refine xstoreQ 0 [] ((List.map E_palinode_api_Span ((Arr.rep 10 (0, 0))).l).flatten) [] ((List.map E_palinode_api_Span y65.1.l).flatten) ShpC.h rfl rfl rfl rfl rfl ?_
   refine as_ ?_
   refine as_ ?_
   refine as_ ?_
   refine nt_ ?_
   refine xseq ?_
   refine sr_ ?_
   refine mv_ ?_
   refine vp_ (pv_bin2 rfl rfl rfl) ?_
   refine nt_ ?_
   by_cases hp75 : y65.2.2.2 = 18
   ·replace h := h.1 hp75
    refine xcondT' (decide_eq_true hp75) rfl ?_
    refine sr_ ?_
    refine mv_ ?_
    refine vp_ (pv_not rfl) ?_
    refine mv_ ?_
    by_cases hp79 : ¬ (y65.2.1 = true)
    ·replace h := h.1 hp79
     refine xsetB 51 (not_t (b_f hp79)) rfl ?_
     obtain ⟨y81, h80, h⟩ := h
     refine xcall0 (palinodelaw11_awake_con _ h80) Try.func7 (by kernel_rfl) rfl .nil rfl rfl ?_
     refine pk_ ?_
     refine as_ ?_
     refine nt_ ?_
     refine xretc ?_
     refine xthen_ret ?_
     replace h := h.symm
     subst h
     exact xret1 hg rfl rfl (.refl _) (SubM.of (.nil _) (.nil _)) ⟨rfl, rfl, rfl⟩
    ·replace h := h.2 hp79
     refine xsetB 51 (not_f (Decidable.of_not_not hp79)) rfl ?_
     refine sk_ ?_
     refine pk_ ?_
     refine as_ ?_
     refine nt_ ?_
     refine xretc ?_
     refine xthen_ret ?_
     replace h := h.symm
     subst h
     exact xret1 hg rfl rfl (.refl _) (SubM.of (.nil _) (.nil _)) ⟨rfl, rfl, rfl⟩
   ·replace h := h.2 hp75
    refine xcondF' (decide_eq_false hp75) rfl ?_
    refine xskipc ?_
    refine xthen ?_
    refine sr_ ?_
    refine v_ (qv_loadB 1 ShpC.h rfl rfl rfl rfl) ?_
    refine mv_ ?_
    refine mv_ ?_
    obtain ⟨y83, h82, h⟩ := h
    refine xcallF (Fb := [⟨b7, 31, ((List.map E_palinode_api_Span y65.1.l).flatten)⟩, ⟨b3, 24, [.sl 10 none (List.map E_palinode_api_Node x1.1), .v (.int .i64 x1.2)]⟩]) (Ft := []) (palinoderef11_Best_con x1 x2 x3 _ h82) Try.func11 (by kernel_rfl) rfl (.cons rfl (.refl _) (.cons rfl (.refl _) (.cons rfl (.refl _) .nil))) (by exact sm_) rfl rfl ?_
    rintro _ _ _ ⟨rfl, rfl, rfl⟩
    simp only [List.nil_append, List.cons_append]
    refine mv_ ?_
    refine vp_ (pv_extract rfl rfl) ?_
    refine vp_ (pv_extract rfl rfl) ?_
    refine xalloc InfC.h rfl rfl fun b11 => ?_
    refine xreb 0 ((List.map E_palinode_api_Span ((Arr.rep 10 (0, 0))).l).flatten) rfl rfl ?_
    refine xstoreQ 0 [] ((List.map E_palinode_api_Span ((Arr.rep 10 (0, 0))).l).flatten) [] ((List.map E_palinode_api_Span y83.1.l).flatten) ShpC.h rfl rfl rfl rfl rfl ?_
    refine as_ ?_
    refine nt_ ?_
    refine xseqM (fun σ => ∃ (x92 : Bool), palinodelaw11_MatchRelates_j2 x92 r ∧ σ = ⟨[(6, .v (.bool x92))], [], []⟩) ?_ ?_
    ·refine xregion ?_
     refine mv_ ?_
     refine vp_ (pv_bin2 rfl rfl rfl) ?_
     refine mv_ ?_
     by_cases hp94 : y65.2.2.2 = 0
     ·replace h := h.1 hp94
      refine xsetB 63 (decide_eq_true hp94) rfl ?_
      refine v_ (qv_loadP 1 [] ((List.map E_palinode_api_Span y65.1.l).flatten) [] sq_ sl_ sl_ (part_all (seg_lenE (by rfl))) ShpC.h rfl rfl) ?_
      refine v_ (qv_loadP 0 [] ((List.map E_palinode_api_Span y83.1.l).flatten) [] sq_ sl_ sl_ (part_all (seg_lenE (by rfl))) ShpC.h rfl rfl) ?_
      refine vp_ (pv_eqAgg (f := E_palinode_api_Hit) (a := y65.1) (b := y83.1) eqc_31 (by decide) (by kernel_rfl) ev_ ev_) ?_
      refine pk_ ?_
      refine mv_ ?_
      by_cases hp96 : (y65.1 : (Arr 10 (Int × Int))) = y83.1
      ·replace h := h.1 hp96
       refine xsetB 68 (decide_eq_true hp96) rfl ?_
       refine mv_ ?_
       refine mv_ ?_
       refine vp_ (pv_eqB UndC.h rfl rfl) ?_
       refine pk_ ?_
       refine mv_ ?_
       by_cases hp98 : (y65.2.1 == y83.2) = true
       ·replace h := h.1 hp98
        refine xsetB 73 hp98 rfl ?_
        obtain ⟨y100, h99, h⟩ := h
        refine xcall0 (palinodelaw11_awake_con _ h99) Try.func7 (by kernel_rfl) rfl .nil rfl rfl ?_
        refine pk_ ?_
        refine as_ ?_
        refine xnil ?_
        exact xmeet ⟨y100, h, rfl⟩ ⟨(.cons rfl (.refl _) (.nil _)), (SubM.of (.nil _) (.nil _))⟩
       ·replace h := h.2 hp98
        refine xsetB 73 (b_f hp98) rfl ?_
        refine sk_ ?_
        refine pk_ ?_
        refine as_ ?_
        refine xnil ?_
        exact xmeet ⟨false, h, rfl⟩ ⟨(.cons rfl (.refl _) (.nil _)), (SubM.of (.nil _) (.nil _))⟩
      ·replace h := h.2 hp96
       refine xsetB 68 (decide_eq_false hp96) rfl ?_
       refine sk_ ?_
       refine sk_ ?_
       refine sk_ ?_
       refine pk_ ?_
       refine mv_ ?_
       refine sk_ ?_
       refine pk_ ?_
       refine as_ ?_
       refine xnil ?_
       exact xmeet ⟨false, h, rfl⟩ ⟨(.cons rfl (.refl _) (.nil _)), (SubM.of (.nil _) (.nil _))⟩
     ·replace h := h.2 hp94
      refine xsetB 63 (decide_eq_false hp94) rfl ?_
      refine sk_ ?_
      refine sk_ ?_
      refine sk_ ?_
      refine pk_ ?_
      refine mv_ ?_
      refine sk_ ?_
      refine sk_ ?_
      refine sk_ ?_
      refine pk_ ?_
      refine mv_ ?_
      refine sk_ ?_
      refine pk_ ?_
      refine as_ ?_
      refine xnil ?_
      exact xmeet ⟨false, h, rfl⟩ ⟨(.cons rfl (.refl _) (.nil _)), (SubM.of (.nil _) (.nil _))⟩
    ·clear h
     rintro _ ⟨x92, h, rfl⟩
     refine xretc ?_
     replace h := h.symm
     subst h
     exact xret1 hg rfl rfl (.refl _) (SubM.of (.nil _) (.nil _)) ⟨rfl, rfl, rfl⟩
end Go.Proofs.Ytnefabncdpkbmaa
