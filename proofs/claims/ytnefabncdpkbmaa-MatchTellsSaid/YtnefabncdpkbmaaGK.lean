
/- What functions' texts ask for, and the walks that show it (printed by a program). -/
import Derived.Test.YtnefabncdpkbmaaGKp9
namespace Go.Proofs.Ytnefabncdpkbmaa
/-- palinoderef11.At -/
def palinoderef11_At_R (re1 : (List (Int × Int × Int × Int × Int × Int × (Arr 4 (UInt64)))) × Int) (text2 : List UInt8) (atv3 : Int) (fuel4 : Int) (r : ((Arr 10 (Int × Int))) × Bool × Int × Int) : Prop :=
  ∃ y15 : (Arr 10 (Int × Int)), palinoderef11_None_R y15 ∧ InR ((re1.1.length : Int) - 1) ∧ ∃ y19 : (Bool × ((Arr 10 (Int × Int))) × Int × Int × Int), palinoderef11_Ways_R (false, (Arr.rep 10 (0, 0)), 0, fuel4, atv3) re1 text2 atv3 y15 ([(0, ((re1.1.length : Int) - 1), 0, 0)]) y19 ∧ ((fuel4 < y19.2.2.1 → r = ((Arr.rep 10 (0, 0)), false, 0, 18)) ∧ (¬ (fuel4 < y19.2.2.1) → InR (fuel4 - y19.2.2.1) ∧ r = (y19.2.1, y19.1, (fuel4 - y19.2.2.1), 0)))
set_option maxRecDepth 100000 in
set_option maxHeartbeats 4000000 in
theorem palinoderef11_At_con (re1 : (List (Int × Int × Int × Int × Int × Int × (Arr 4 (UInt64)))) × Int) (text2 : List UInt8) (atv3 : Int) (fuel4 : Int) (r : ((Arr 10 (Int × Int))) × Bool × Int × Int) (h : palinoderef11_At_R re1 text2 atv3 fuel4 r) : Con Try.prog 10 [.agg [.sl 10 none (List.map E_palinode_api_Node re1.1), .v (.int .i64 re1.2)], .sl 1 none (List.map eb text2), .v (.int .i64 atv3), .v (.int .i64 fuel4)] [] [] (fun rr bx tk => rr = .tup [.agg ((List.map E_palinode_api_Span r.1.l).flatten), .v (.bool r.2.1), .v (.int .i64 r.2.2.1), .v (.int .i64 r.2.2.2)] ∧ bx = [] ∧ tk = []) := by
  refine xenter Try.func10 rfl rfl fun g hg => ?_
  simp only [Try.ntmps10, slots]
  refine xseq ?_
  refine xregion ?_
  refine xbox rfl rfl rfl rfl fun b4 => ?_
  refine xalloc InfC.h rfl rfl fun b8 => ?_
  refine xreb 0 ((List.map E_palinode_api_Span ((Arr.rep 10 (0, 0))).l).flatten) rfl rfl ?_
  refine xvalP (pv_assign rfl) rfl rfl ?_
  refine xvalP (pv_assign rfl) rfl rfl ?_
  refine xvalP (pv_assign rfl) rfl rfl ?_
  refine xnil ?_
  refine xthen ?_
  refine xseq ?_
  refine xregion ?_
  refine xvalP (pv_move rfl) rfl rfl ?_
  refine xvalP (pv_move rfl) rfl rfl ?_
  refine xvalP (pv_buildC (cs := ([.v (.bool false)] ++ ((List.map E_palinode_api_Span ((Arr.rep 10 (0, 0))).l).flatten ++ [.v (.int .i64 0), .v (.int .i64 fuel4), .v (.int .i64 atv3)]))) StrC.h rfl (by refine fill_step ([.v (.bool false)] ++ ((List.map E_palinode_api_Span ((Arr.rep 10 (0, 0))).l).flatten ++ [.v (.int .i64 0)])) [.v (.int .i64 0)] [.v (.int .i64 0)] sq_ sl_ sl_ sl_ rfl rfl ?_; refine fill_step ([.v (.bool false)] ++ ((List.map E_palinode_api_Span ((Arr.rep 10 (0, 0))).l).flatten ++ [.v (.int .i64 0), .v (.int .i64 fuel4)])) [.v (.int .i64 0)] [] sq_ sl_ sl_ sl_ rfl rfl ?_; exact congrArg some sq_)) rfl rfl ?_
  refine xbox rfl rfl rfl rfl fun b16 => ?_
  refine xvalP (pv_assign rfl) rfl rfl ?_
  refine xnil ?_
  refine xthen ?_
  refine xseq ?_
  refine xregionD (m := 12) (by kernel_rfl) rfl ?_
  obtain ⟨y15, h14, h⟩ := h
  obtain ⟨h17, h⟩ := h
  obtain ⟨y19, h18, h⟩ := h
  refine xpcut 1 #[true, true, true, true, true, true, true, true, true, true, true, false] (fun σ => ∃ (s27 : Nat), σ = ⟨[(3, .v (.int .i64 fuel4)), (8, .v (.pointer (some ⟨b8, 0, none⟩))), (12, .v (.pointer (some ⟨b16, 0, none⟩))), (17, .v (.pointer (some ⟨b16, 0, none⟩))), (18, .agg [.sl 10 none (List.map E_palinode_api_Node re1.1), .v (.int .i64 re1.2)]), (19, .sl 1 none (List.map eb text2)), (20, .v (.int .i64 atv3)), (21, .agg ((List.map E_palinode_api_Span y15.l).flatten)), (27, .sl 4 (some (some (s27, 1))) (List.map E_palinode_palinoderef11_Task ([(0, ((re1.1.length : Int) - 1), 0, 0)])))], [⟨b16, 64, ([.v (.bool false)] ++ ((List.map E_palinode_api_Span ((Arr.rep 10 (0, 0))).l).flatten ++ [.v (.int .i64 0), .v (.int .i64 fuel4), .v (.int .i64 atv3)]))⟩, ⟨b8, 31, ((List.map E_palinode_api_Span ((Arr.rep 10 (0, 0))).l).flatten)⟩], [⟨(some (s27, 1)), 68, 4, ([(0, ((re1.1.length : Int) - 1), 0, 0)]).length⟩]⟩) ?_ (fun key20 => ?_)
  · rintro _ ⟨s27, rfl⟩
    refine xpstep (i := 11) (by kernel_rfl) rfl ?_
    refine wcallF (Fb := [⟨b8, 31, ((List.map E_palinode_api_Span ((Arr.rep 10 (0, 0))).l).flatten)⟩]) (Ft := [⟨(some (s27, 1)), 68, 4, ([(0, ((re1.1.length : Int) - 1), 0, 0)]).length⟩]) (palinoderef11_Ways_con (false, (Arr.rep 10 (0, 0)), 0, fuel4, atv3) re1 text2 atv3 y15 ([(0, ((re1.1.length : Int) - 1), 0, 0)]) b16 _ h18) Try.func17 (by kernel_rfl) rfl (.cons rfl (.refl _) (.cons rfl (.refl _) (.cons rfl (.refl _) (.cons rfl (.refl _) (.cons rfl (.refl _) (.cons rfl (.tok _ _ _) .nil)))))) (by exact sm_) rfl rfl ?_
    rintro _ _ _ ⟨rfl, rfl, rfl⟩
    simp only [List.nil_append, List.cons_append]
    refine xpdone (by kernel_rfl) ?_
    refine xthen ?_
    refine xseq ?_
    refine xseq ?_
    refine xregion ?_
    refine xvalP (pv_move rfl) rfl rfl ?_
    refine xvalP (pv_nilCheck rfl) rfl rfl ?_
    refine xvalP (qv_fieldAddrB FldC.h rfl) rfl rfl ?_
    refine xval (qv_loadP 0 ([.v (.bool y19.1)] ++ (List.map E_palinode_api_Span y19.2.1.l).flatten) [.v (.int .i64 y19.2.2.1)] [.v (.int .i64 y19.2.2.2.1), .v (.int .i64 y19.2.2.2.2)] sq_ sl_ sl_ rfl ShpC.h rfl rfl) rfl rfl ?_
    refine xvalP (pv_move rfl) rfl rfl ?_
    refine xvalP (pv_bin2 rfl rfl rfl) rfl rfl ?_
    refine xnil ?_
    refine xthen ?_
    by_cases hp24 : fuel4 < y19.2.2.1
    · replace h := h.1 hp24
      refine xcondT' (decide_eq_true hp24) rfl ?_
      refine xseq ?_
      refine xregion ?_
      refine xvalP (pv_buildC (cs := ((List.map E_palinode_api_Span ((Arr.rep 10 (0, 0))).l).flatten)) StrC.h rfl (by exact congrArg some sq_)) rfl rfl ?_
      refine xstoreQ 1 [] ((List.map E_palinode_api_Span ((Arr.rep 10 (0, 0))).l).flatten) [] ((List.map E_palinode_api_Span ((Arr.rep 10 (0, 0))).l).flatten) ShpC.h rfl rfl rfl rfl rfl ?_
      refine xvalP (pv_assign rfl) rfl rfl ?_
      refine xvalP (pv_assign rfl) rfl rfl ?_
      refine xvalP (pv_assign rfl) rfl rfl ?_
      refine xnil ?_
      refine xthen ?_
      refine xretc ?_
      refine xthen_ret ?_
      replace h := h.symm
      subst h
      exact xretL (rs := [.cell 8 31, .tmp 9, .tmp 10, .tmp 11]) (ss := [.agg ((List.map E_palinode_api_Span ((Arr.rep 10 (0, 0))).l).flatten), .v (.bool false), .v (.int .i64 0), .v (.int .i64 18)]) hg rfl (by refine RetL.cell 1 ShpC.h rfl rfl (part_midE (pre := []) (mid := ((List.map E_palinode_api_Span ((Arr.rep 10 (0, 0))).l).flatten)) (post := []) sq_ sl_ sl_ (part_all (seg_lenE (by rfl)))) (len_midE (pre := []) (mid := ((List.map E_palinode_api_Span ((Arr.rep 10 (0, 0))).l).flatten)) (post := []) sq_ sl_ sl_) wk_ ?_; refine RetL.tmp rfl (.refl _) ?_; refine RetL.tmp rfl (.refl _) ?_; refine RetL.tmp rfl (.refl _) ?_; exact RetL.nil) (SubM.of (.nil _) (.nil _)) ⟨rfl, rfl, rfl⟩
    · replace h := h.2 hp24
      refine xcondF' (decide_eq_false hp24) rfl ?_
      refine xskipc ?_
      refine xthen ?_
      refine xseq ?_
      refine xregionD (m := 18) (by kernel_rfl) rfl ?_
      obtain ⟨h30, h⟩ := h
      refine xpcut 0 #[true, true, true, true, true, true, true, true, true, true, true, true, true, true, true, true, true, true] (fun σ => σ = ⟨[(8, .v (.pointer (some ⟨b8, 0, none⟩))), (9, .v (.bool y19.1)), (10, .v (.int .i64 ((fuel4 - y19.2.2.1)))), (11, .v (.int .i64 0))], [⟨b8, 31, ((List.map E_palinode_api_Span y19.2.1.l).flatten)⟩], []⟩) ?_ (fun key31 => ?_)
      · rintro _ rfl
        refine xpdone (by kernel_rfl) ?_
        refine xthen ?_
        refine xretc ?_
        replace h := h.symm
        subst h
        exact xretL (rs := [.cell 8 31, .tmp 9, .tmp 10, .tmp 11]) (ss := [.agg ((List.map E_palinode_api_Span y19.2.1.l).flatten), .v (.bool y19.1), .v (.int .i64 ((fuel4 - y19.2.2.1))), .v (.int .i64 0)]) hg rfl (by refine RetL.cell 0 ShpC.h rfl rfl (part_midE (pre := []) (mid := ((List.map E_palinode_api_Span y19.2.1.l).flatten)) (post := []) sq_ sl_ sl_ (part_all (seg_lenE (by rfl)))) (len_midE (pre := []) (mid := ((List.map E_palinode_api_Span y19.2.1.l).flatten)) (post := []) sq_ sl_ sl_) wk_ ?_; refine RetL.tmp rfl (.refl _) ?_; refine RetL.tmp rfl (.refl _) ?_; refine RetL.tmp rfl (.refl _) ?_; exact RetL.nil) (SubM.of (.nil _) (.nil _)) ⟨rfl, rfl, rfl⟩
      refine xpcut 4 #[true, true, true, true, true, true, true, true, true, true, true, true, true, true, false, false, false, false] (fun σ => σ = ⟨[(8, .v (.pointer (some ⟨b8, 0, none⟩))), (39, .agg ((List.map E_palinode_api_Span y19.2.1.l).flatten)), (43, .v (.bool y19.1)), (49, .v (.int .i64 ((fuel4 - y19.2.2.1))))], [⟨b8, 31, ((List.map E_palinode_api_Span ((Arr.rep 10 (0, 0))).l).flatten)⟩], []⟩) ?_ (fun key32 => ?_)
      · rintro _ rfl
        refine xpstep (i := 14) (by kernel_rfl) rfl ?_
        refine wstoreQ 0 [] ((List.map E_palinode_api_Span ((Arr.rep 10 (0, 0))).l).flatten) [] ((List.map E_palinode_api_Span y19.2.1.l).flatten) ShpC.h rfl rfl rfl rfl rfl ?_
        refine xpval 15 rfl (pv_assign rfl) rfl rfl (by kernel_rfl) (by kernel_rfl) (by kernel_rfl) (fun _ _ _ _ h => h) ?_
        refine xpval 16 rfl (pv_assign rfl) rfl rfl (by kernel_rfl) (by kernel_rfl) (by kernel_rfl) (fun _ _ _ _ h => h) ?_
        refine xpval 17 rfl (pv_assign rfl) rfl rfl (by kernel_rfl) (by kernel_rfl) (by kernel_rfl) (fun _ _ _ _ h => h) ?_
        exact xpuse key31 rfl ⟨(.cons rfl (.refl _) (.cons rfl (.refl _) (.cons rfl (.refl _) (.cons rfl (.refl _) (.nil _))))), (SubM.of (.keep rfl rfl (.refl _) (.nil _)) (.nil _))⟩ rfl (by kernel_rfl)
      refine xpcut 5 #[true, true, true, true, true, true, true, false, true, true, true, true, true, true, false, false, false, false] (fun σ => σ = ⟨[(8, .v (.pointer (some ⟨b8, 0, none⟩))), (39, .agg ((List.map E_palinode_api_Span y19.2.1.l).flatten)), (42, .v (.pointer (some ⟨b16, 0, none⟩))), (49, .v (.int .i64 ((fuel4 - y19.2.2.1))))], [⟨b16, 64, ([.v (.bool y19.1)] ++ ((List.map E_palinode_api_Span y19.2.1.l).flatten ++ [.v (.int .i64 y19.2.2.1), .v (.int .i64 y19.2.2.2.1), .v (.int .i64 y19.2.2.2.2)]))⟩, ⟨b8, 31, ((List.map E_palinode_api_Span ((Arr.rep 10 (0, 0))).l).flatten)⟩], []⟩) ?_ (fun key33 => ?_)
      · rintro _ rfl
        refine xfl0 [⟨7, 43, .v (.bool y19.1)⟩] 4 ?_
        refine xflstep 14 (by kernel_rfl) rfl (.cons rfl rfl rfl (fun _ => rfl) (fun _ => qv_loadB 0 ShpC.h rfl rfl rfl rfl) .nil) fun D l td hR => ?_
        refine wstoreQ 1 [] ((List.map E_palinode_api_Span ((Arr.rep 10 (0, 0))).l).flatten) [] ((List.map E_palinode_api_Span y19.2.1.l).flatten) ShpC.h rfl rfl rfl rfl rfl ?_
        refine xflgo0 hR ?_
        refine xflend (l' := #[true, true, true, true, true, true, true, true, true, true, true, true, true, true, true, false, false, false]) (by kernel_rfl) (.cons rfl rfl rfl (fun _ => rfl) (fun _ => qv_loadB 0 ShpC.h rfl rfl rfl rfl) .nil) (by kernel_rfl) rfl (by kernel_rfl) (by kernel_rfl) ?_
        simp only [List.nil_append, List.cons_append, List.map_cons, List.map_nil]
        refine xpval 15 rfl (pv_assign rfl) rfl rfl (by kernel_rfl) (by kernel_rfl) (by kernel_rfl) (fun _ _ _ _ h => h) ?_
        refine xpval 16 rfl (pv_assign rfl) rfl rfl (by kernel_rfl) (by kernel_rfl) (by kernel_rfl) (fun _ _ _ _ h => h) ?_
        refine xpval 17 rfl (pv_assign rfl) rfl rfl (by kernel_rfl) (by kernel_rfl) (by kernel_rfl) (fun _ _ _ _ h => h) ?_
        exact xpuse key31 rfl ⟨(.cons rfl (.refl _) (.cons rfl (.refl _) (.cons rfl (.refl _) (.cons rfl (.refl _) (.nil _))))), (SubM.of (.drop (.keep rfl rfl (.refl _) (.nil _))) (.nil _))⟩ rfl (by kernel_rfl)
      refine xpcut 6 #[true, true, true, true, true, true, true, true, true, true, true, true, false, false, false, false, false, false] (fun σ => σ = ⟨[(8, .v (.pointer (some ⟨b8, 0, none⟩))), (39, .agg ((List.map E_palinode_api_Span y19.2.1.l).flatten)), (43, .v (.bool y19.1)), (44, .v (.int .i64 fuel4)), (47, .v (.pointer (some ⟨b16, 21, none⟩)))], [⟨b16, 64, ([.v (.bool y19.1)] ++ ((List.map E_palinode_api_Span y19.2.1.l).flatten ++ [.v (.int .i64 y19.2.2.1), .v (.int .i64 y19.2.2.2.1), .v (.int .i64 y19.2.2.2.2)]))⟩, ⟨b8, 31, ((List.map E_palinode_api_Span ((Arr.rep 10 (0, 0))).l).flatten)⟩], []⟩) ?_ (fun key34 => ?_)
      · rintro _ rfl
        refine xpstepN (is := [12, 14]) (by kernel_rfl) (by simp) ?_
        intro i hi; simp only [List.mem_cons, List.not_mem_nil, or_false] at hi; rcases hi with rfl | rfl
        · refine ⟨_, rfl, ?_⟩
          refine wval (qv_loadP 0 ([.v (.bool y19.1)] ++ (List.map E_palinode_api_Span y19.2.1.l).flatten) [.v (.int .i64 y19.2.2.1)] [.v (.int .i64 y19.2.2.2.1), .v (.int .i64 y19.2.2.2.2)] sq_ sl_ sl_ rfl ShpC.h rfl rfl) rfl rfl ?_
          refine xpval 13 rfl (pv_subI h30 rfl rfl) rfl rfl (by kernel_rfl) (by kernel_rfl) (by kernel_rfl) (fun _ _ _ _ h => h) ?_
          exact xpuse key32 rfl ⟨(.cons rfl (.refl _) (.cons rfl (.refl _) (.cons rfl (.refl _) (.cons rfl (.refl _) (.nil _))))), (SubM.of (.drop (.keep rfl rfl (.refl _) (.nil _))) (.nil _))⟩ rfl (by kernel_rfl)
        · refine ⟨_, rfl, ?_⟩
          refine wstoreQ 1 [] ((List.map E_palinode_api_Span ((Arr.rep 10 (0, 0))).l).flatten) [] ((List.map E_palinode_api_Span y19.2.1.l).flatten) ShpC.h rfl rfl rfl rfl rfl ?_
          refine xpval 15 rfl (pv_assign rfl) rfl rfl (by kernel_rfl) (by kernel_rfl) (by kernel_rfl) (fun _ _ _ _ h => h) ?_
          refine xpvalE 12 [] rfl (qv_loadP 0 ([.v (.bool y19.1)] ++ (List.map E_palinode_api_Span y19.2.1.l).flatten) [.v (.int .i64 y19.2.2.1)] [.v (.int .i64 y19.2.2.2.1), .v (.int .i64 y19.2.2.2.2)] sq_ sl_ sl_ rfl ShpC.h rfl rfl) rfl rfl (by kernel_rfl) (by kernel_rfl) (by kernel_rfl) (fun _ _ _ _ h => h) ?_
          refine xpval 13 rfl (pv_subI h30 rfl rfl) rfl rfl (by kernel_rfl) (by kernel_rfl) (by kernel_rfl) (fun _ _ _ _ h => h) ?_
          refine xpval 16 rfl (pv_assign rfl) rfl rfl (by kernel_rfl) (by kernel_rfl) (by kernel_rfl) (fun _ _ _ _ h => h) ?_
          refine xpval 17 rfl (pv_assign rfl) rfl rfl (by kernel_rfl) (by kernel_rfl) (by kernel_rfl) (fun _ _ _ _ h => h) ?_
          exact xpuse key31 rfl ⟨(.cons rfl (.refl _) (.cons rfl (.refl _) (.cons rfl (.refl _) (.cons rfl (.refl _) (.nil _))))), (SubM.of (.drop (.keep rfl rfl (.refl _) (.nil _))) (.nil _))⟩ rfl (by kernel_rfl)
      refine xpval 0 rfl (pv_move rfl) rfl rfl (by kernel_rfl) (by kernel_rfl) (by kernel_rfl) (fun _ _ _ _ h => h) ?_
      refine xpval 1 rfl (pv_nilCheck rfl) rfl rfl (by kernel_rfl) (by kernel_rfl) (by kernel_rfl) (fun _ _ _ _ h => h) ?_
      refine xpval 2 rfl (qv_fieldAddrB FldC.h rfl) rfl rfl (by kernel_rfl) (by kernel_rfl) (by kernel_rfl) (fun _ _ _ _ h => h) ?_
      refine xpval 4 rfl (pv_move rfl) rfl rfl (by kernel_rfl) (by kernel_rfl) (by kernel_rfl) (fun _ _ _ _ h => h) ?_
      refine xpval 5 rfl (pv_nilCheck rfl) rfl rfl (by kernel_rfl) (by kernel_rfl) (by kernel_rfl) (fun _ _ _ _ h => h) ?_
      refine xpval 6 rfl (qv_fieldAddrB FldC.h rfl) rfl rfl (by kernel_rfl) (by kernel_rfl) (by kernel_rfl) (fun _ _ _ _ h => h) ?_
      refine xpval 8 rfl (pv_move rfl) rfl rfl (by kernel_rfl) (by kernel_rfl) (by kernel_rfl) (fun _ _ _ _ h => h) ?_
      refine xpval 9 rfl (pv_move rfl) rfl rfl (by kernel_rfl) (by kernel_rfl) (by kernel_rfl) (fun _ _ _ _ h => h) ?_
      refine xpval 10 rfl (pv_nilCheck rfl) rfl rfl (by kernel_rfl) (by kernel_rfl) (by kernel_rfl) (fun _ _ _ _ h => h) ?_
      refine xpval 11 rfl (qv_fieldAddrB FldC.h rfl) rfl rfl (by kernel_rfl) (by kernel_rfl) (by kernel_rfl) (fun _ _ _ _ h => h) ?_
      refine xpstepN (is := [3, 7, 12]) (by kernel_rfl) (by simp) ?_
      intro i hi; simp only [List.mem_cons, List.not_mem_nil, or_false] at hi; rcases hi with rfl | rfl | rfl
      · refine ⟨_, rfl, ?_⟩
        refine wval (qv_loadP 0 [.v (.bool y19.1)] ((List.map E_palinode_api_Span y19.2.1.l).flatten) [.v (.int .i64 y19.2.2.1), .v (.int .i64 y19.2.2.2.1), .v (.int .i64 y19.2.2.2.2)] sq_ sl_ sl_ (part_all (seg_lenE (by rfl))) ShpC.h rfl rfl) rfl rfl ?_
        refine xpstepN (is := [7, 12, 14]) (by kernel_rfl) (by simp) ?_
        intro i hi; simp only [List.mem_cons, List.not_mem_nil, or_false] at hi; rcases hi with rfl | rfl | rfl
        · refine ⟨_, rfl, ?_⟩
          refine wval (qv_loadB 0 ShpC.h rfl rfl rfl rfl) rfl rfl ?_
          exact xpuse key34 rfl ⟨(.cons rfl (.refl _) (.cons rfl (.refl _) (.cons rfl (.refl _) (.cons rfl (.refl _) (.cons rfl (.refl _) (.nil _)))))), (SubM.of (.keep rfl rfl (.refl _) (.keep rfl rfl (.refl _) (.nil _))) (.nil _))⟩ rfl (by kernel_rfl)
        · refine ⟨_, rfl, ?_⟩
          refine wval (qv_loadP 0 ([.v (.bool y19.1)] ++ (List.map E_palinode_api_Span y19.2.1.l).flatten) [.v (.int .i64 y19.2.2.1)] [.v (.int .i64 y19.2.2.2.1), .v (.int .i64 y19.2.2.2.2)] sq_ sl_ sl_ rfl ShpC.h rfl rfl) rfl rfl ?_
          refine xpval 13 rfl (pv_subI h30 rfl rfl) rfl rfl (by kernel_rfl) (by kernel_rfl) (by kernel_rfl) (fun _ _ _ _ h => h) ?_
          exact xpuse key33 rfl ⟨(.cons rfl (.refl _) (.cons rfl (.refl _) (.cons rfl (.refl _) (.cons rfl (.refl _) (.nil _))))), (SubM.of (.keep rfl rfl (.refl _) (.keep rfl rfl (.refl _) (.nil _))) (.nil _))⟩ rfl (by kernel_rfl)
        · refine ⟨_, rfl, ?_⟩
          refine wstoreQ 1 [] ((List.map E_palinode_api_Span ((Arr.rep 10 (0, 0))).l).flatten) [] ((List.map E_palinode_api_Span y19.2.1.l).flatten) ShpC.h rfl rfl rfl rfl rfl ?_
          refine xpvalE 12 [7, 15] rfl (qv_loadP 0 ([.v (.bool y19.1)] ++ (List.map E_palinode_api_Span y19.2.1.l).flatten) [.v (.int .i64 y19.2.2.1)] [.v (.int .i64 y19.2.2.2.1), .v (.int .i64 y19.2.2.2.2)] sq_ sl_ sl_ rfl ShpC.h rfl rfl) rfl rfl (by kernel_rfl) (by kernel_rfl) (by kernel_rfl) (fun _ _ _ _ h => h) ?_
          refine xpval 13 rfl (pv_subI h30 rfl rfl) rfl rfl (by kernel_rfl) (by kernel_rfl) (by kernel_rfl) (fun _ _ _ _ h => h) ?_
          refine xpvalE 7 [] rfl (qv_loadB 0 ShpC.h rfl rfl rfl rfl) rfl rfl (by kernel_rfl) (by kernel_rfl) (by kernel_rfl) (fun _ _ _ _ h => h) ?_
          refine xpval 15 rfl (pv_assign rfl) rfl rfl (by kernel_rfl) (by kernel_rfl) (by kernel_rfl) (fun _ _ _ _ h => h) ?_
          refine xpval 16 rfl (pv_assign rfl) rfl rfl (by kernel_rfl) (by kernel_rfl) (by kernel_rfl) (fun _ _ _ _ h => h) ?_
          refine xpval 17 rfl (pv_assign rfl) rfl rfl (by kernel_rfl) (by kernel_rfl) (by kernel_rfl) (fun _ _ _ _ h => h) ?_
          exact xpuse key31 rfl ⟨(.cons rfl (.refl _) (.cons rfl (.refl _) (.cons rfl (.refl _) (.cons rfl (.refl _) (.nil _))))), (SubM.of (.drop (.keep rfl rfl (.refl _) (.nil _))) (.nil _))⟩ rfl (by kernel_rfl)
      · refine ⟨_, rfl, ?_⟩
        refine wval (qv_loadB 0 ShpC.h rfl rfl rfl rfl) rfl rfl ?_
        refine xpstepN (is := [3, 12]) (by kernel_rfl) (by simp) ?_
        intro i hi; simp only [List.mem_cons, List.not_mem_nil, or_false] at hi; rcases hi with rfl | rfl
        · refine ⟨_, rfl, ?_⟩
          refine wval (qv_loadP 0 [.v (.bool y19.1)] ((List.map E_palinode_api_Span y19.2.1.l).flatten) [.v (.int .i64 y19.2.2.1), .v (.int .i64 y19.2.2.2.1), .v (.int .i64 y19.2.2.2.2)] sq_ sl_ sl_ (part_all (seg_lenE (by rfl))) ShpC.h rfl rfl) rfl rfl ?_
          exact xpuse key34 rfl ⟨(.cons rfl (.refl _) (.cons rfl (.refl _) (.cons rfl (.refl _) (.cons rfl (.refl _) (.cons rfl (.refl _) (.nil _)))))), (SubM.of (.keep rfl rfl (.refl _) (.keep rfl rfl (.refl _) (.nil _))) (.nil _))⟩ rfl (by kernel_rfl)
        · refine ⟨_, rfl, ?_⟩
          refine wval (qv_loadP 0 ([.v (.bool y19.1)] ++ (List.map E_palinode_api_Span y19.2.1.l).flatten) [.v (.int .i64 y19.2.2.1)] [.v (.int .i64 y19.2.2.2.1), .v (.int .i64 y19.2.2.2.2)] sq_ sl_ sl_ rfl ShpC.h rfl rfl) rfl rfl ?_
          refine xpval 13 rfl (pv_subI h30 rfl rfl) rfl rfl (by kernel_rfl) (by kernel_rfl) (by kernel_rfl) (fun _ _ _ _ h => h) ?_
          refine xpvalE 3 [] rfl (qv_loadP 0 [.v (.bool y19.1)] ((List.map E_palinode_api_Span y19.2.1.l).flatten) [.v (.int .i64 y19.2.2.1), .v (.int .i64 y19.2.2.2.1), .v (.int .i64 y19.2.2.2.2)] sq_ sl_ sl_ (part_all (seg_lenE (by rfl))) ShpC.h rfl rfl) rfl rfl (by kernel_rfl) (by kernel_rfl) (by kernel_rfl) (fun _ _ _ _ h => h) ?_
          exact xpuse key32 rfl ⟨(.cons rfl (.refl _) (.cons rfl (.refl _) (.cons rfl (.refl _) (.cons rfl (.refl _) (.nil _))))), (SubM.of (.drop (.keep rfl rfl (.refl _) (.nil _))) (.nil _))⟩ rfl (by kernel_rfl)
      · refine ⟨_, rfl, ?_⟩
        refine wval (qv_loadP 0 ([.v (.bool y19.1)] ++ (List.map E_palinode_api_Span y19.2.1.l).flatten) [.v (.int .i64 y19.2.2.1)] [.v (.int .i64 y19.2.2.2.1), .v (.int .i64 y19.2.2.2.2)] sq_ sl_ sl_ rfl ShpC.h rfl rfl) rfl rfl ?_
        refine xpval 13 rfl (pv_subI h30 rfl rfl) rfl rfl (by kernel_rfl) (by kernel_rfl) (by kernel_rfl) (fun _ _ _ _ h => h) ?_
        refine xpvalE 3 [7] rfl (qv_loadP 0 [.v (.bool y19.1)] ((List.map E_palinode_api_Span y19.2.1.l).flatten) [.v (.int .i64 y19.2.2.1), .v (.int .i64 y19.2.2.2.1), .v (.int .i64 y19.2.2.2.2)] sq_ sl_ sl_ (part_all (seg_lenE (by rfl))) ShpC.h rfl rfl) rfl rfl (by kernel_rfl) (by kernel_rfl) (by kernel_rfl) (fun _ _ _ _ h => h) ?_
        exact xpuse key33 rfl ⟨(.cons rfl (.refl _) (.cons rfl (.refl _) (.cons rfl (.refl _) (.cons rfl (.refl _) (.nil _))))), (SubM.of (.keep rfl rfl (.refl _) (.keep rfl rfl (.refl _) (.nil _))) (.nil _))⟩ rfl (by kernel_rfl)
  refine xpcut 2 #[true, true, true, true, true, true, true, true, true, true, false, false] (fun σ => σ = ⟨[(3, .v (.int .i64 fuel4)), (8, .v (.pointer (some ⟨b8, 0, none⟩))), (12, .v (.pointer (some ⟨b16, 0, none⟩))), (17, .v (.pointer (some ⟨b16, 0, none⟩))), (18, .agg [.sl 10 none (List.map E_palinode_api_Node re1.1), .v (.int .i64 re1.2)]), (19, .sl 1 none (List.map eb text2)), (20, .v (.int .i64 atv3)), (21, .agg ((List.map E_palinode_api_Span y15.l).flatten)), (26, .agg [.v (.int .i64 0), .v (.int .i64 (((re1.1.length : Int) - 1))), .v (.int .i64 0), .v (.int .i64 0)])], [⟨b16, 64, ([.v (.bool false)] ++ ((List.map E_palinode_api_Span ((Arr.rep 10 (0, 0))).l).flatten ++ [.v (.int .i64 0), .v (.int .i64 fuel4), .v (.int .i64 atv3)]))⟩, ⟨b8, 31, ((List.map E_palinode_api_Span ((Arr.rep 10 (0, 0))).l).flatten)⟩], []⟩) ?_ (fun key35 => ?_)
  · rintro _ rfl
    refine xpstep (i := 10) (by kernel_rfl) rfl ?_
    refine wbuildSliceM (f := E_palinode_palinoderef11_Task) [(0, ((re1.1.length : Int) - 1), 0, 0)] UndC.h InfC.h rfl rfl wr_ rfl rfl rfl rfl fun s27 => ?_
    exact xpuse key20 ⟨s27, rfl⟩ ⟨(.cons rfl (.refl _) (.cons rfl (.refl _) (.cons rfl (.refl _) (.cons rfl (.refl _) (.cons rfl (.refl _) (.cons rfl (.refl _) (.cons rfl (.refl _) (.cons rfl (.refl _) (.cons rfl (.refl _) (.nil _)))))))))), (SubM.of (.keep rfl rfl (.refl _) (.keep rfl rfl (.refl _) (.nil _))) (.keep rfl (.nil _)))⟩ rfl (by kernel_rfl)
  refine xpcut 3 #[true, true, true, true, false, true, true, true, true, true, false, false] (fun σ => σ = ⟨[(3, .v (.int .i64 fuel4)), (8, .v (.pointer (some ⟨b8, 0, none⟩))), (12, .v (.pointer (some ⟨b16, 0, none⟩))), (17, .v (.pointer (some ⟨b16, 0, none⟩))), (18, .agg [.sl 10 none (List.map E_palinode_api_Node re1.1), .v (.int .i64 re1.2)]), (19, .sl 1 none (List.map eb text2)), (20, .v (.int .i64 atv3)), (26, .agg [.v (.int .i64 0), .v (.int .i64 (((re1.1.length : Int) - 1))), .v (.int .i64 0), .v (.int .i64 0)])], [⟨b16, 64, ([.v (.bool false)] ++ ((List.map E_palinode_api_Span ((Arr.rep 10 (0, 0))).l).flatten ++ [.v (.int .i64 0), .v (.int .i64 fuel4), .v (.int .i64 atv3)]))⟩, ⟨b8, 31, ((List.map E_palinode_api_Span ((Arr.rep 10 (0, 0))).l).flatten)⟩], []⟩) ?_ (fun key36 => ?_)
  · rintro _ rfl
    refine xpstepN (is := [4, 10]) (by kernel_rfl) (by simp) ?_
    intro i hi; simp only [List.mem_cons, List.not_mem_nil, or_false] at hi; rcases hi with rfl | rfl
    · refine ⟨_, rfl, ?_⟩
      refine wcall0 (palinoderef11_None_con _ h14) Try.func18 (by kernel_rfl) rfl .nil rfl rfl ?_
      exact xpuse key35 rfl ⟨(.cons rfl (.refl _) (.cons rfl (.refl _) (.cons rfl (.refl _) (.cons rfl (.refl _) (.cons rfl (.refl _) (.cons rfl (.refl _) (.cons rfl (.refl _) (.cons rfl (.refl _) (.cons rfl (.refl _) (.nil _)))))))))), (SubM.of (.keep rfl rfl (.refl _) (.keep rfl rfl (.refl _) (.nil _))) (.nil _))⟩ rfl (by kernel_rfl)
    · refine ⟨_, rfl, ?_⟩
      refine wbuildSliceM (f := E_palinode_palinoderef11_Task) [(0, ((re1.1.length : Int) - 1), 0, 0)] UndC.h InfC.h rfl rfl wr_ rfl rfl rfl rfl fun s27 => ?_
      refine xpstep (i := 4) (by kernel_rfl) rfl ?_
      refine wcall0 (palinoderef11_None_con _ h14) Try.func18 (by kernel_rfl) rfl .nil rfl rfl ?_
      exact xpuse key20 ⟨s27, rfl⟩ ⟨(.cons rfl (.refl _) (.cons rfl (.refl _) (.cons rfl (.refl _) (.cons rfl (.refl _) (.cons rfl (.refl _) (.cons rfl (.refl _) (.cons rfl (.refl _) (.cons rfl (.refl _) (.cons rfl (.refl _) (.nil _)))))))))), (SubM.of (.keep rfl rfl (.refl _) (.keep rfl rfl (.refl _) (.nil _))) (.keep rfl (.nil _)))⟩ rfl (by kernel_rfl)
  refine xpval 0 rfl (pv_move rfl) rfl rfl (by kernel_rfl) (by kernel_rfl) (by kernel_rfl) (fun _ _ _ _ h => h) ?_
  refine xpval 2 rfl (pv_move rfl) rfl rfl (by kernel_rfl) (by kernel_rfl) (by kernel_rfl) (fun _ _ _ _ h => h) ?_
  refine xpval 3 rfl (pv_move rfl) rfl rfl (by kernel_rfl) (by kernel_rfl) (by kernel_rfl) (fun _ _ _ _ h => h) ?_
  refine xpval 5 rfl (qv_fieldAddrB FldC.h rfl) rfl rfl (by kernel_rfl) (by kernel_rfl) (by kernel_rfl) (fun _ _ _ _ h => h) ?_
  refine xpstepN (is := [1, 4, 6]) (by kernel_rfl) (by simp) ?_
  intro i hi; simp only [List.mem_cons, List.not_mem_nil, or_false] at hi; rcases hi with rfl | rfl | rfl
  · refine ⟨_, rfl, ?_⟩
    refine wval (qv_loadB 2 ShpC.h rfl rfl rfl rfl) rfl rfl ?_
    refine xpstepN (is := [4, 6]) (by kernel_rfl) (by simp) ?_
    intro i hi; simp only [List.mem_cons, List.not_mem_nil, or_false] at hi; rcases hi with rfl | rfl
    · refine ⟨_, rfl, ?_⟩
      refine wcall0 (palinoderef11_None_con _ h14) Try.func18 (by kernel_rfl) rfl .nil rfl rfl ?_
      refine xpvalE 6 [] rfl (qv_loadB 2 ShpC.h rfl rfl rfl rfl) rfl rfl (by kernel_rfl) (by kernel_rfl) (by kernel_rfl) (fun _ _ _ _ h => h) ?_
      refine xpval 7 rfl (pv_lenM UndC.h rfl) rfl rfl (by kernel_rfl) (by kernel_rfl) (by kernel_rfl) (fun _ _ _ _ h => h) ?_
      refine xpval 8 rfl (pv_subI h17 rfl rfl) rfl rfl (by kernel_rfl) (by kernel_rfl) (by kernel_rfl) (fun _ _ _ _ h => h) ?_
      refine xpval 9 rfl (pv_buildC StrC.h rfl rfl) rfl rfl (by kernel_rfl) (by kernel_rfl) (by kernel_rfl) (fun _ _ _ _ h => h) ?_
      exact xpuse key35 rfl ⟨(.cons rfl (.refl _) (.cons rfl (.refl _) (.cons rfl (.refl _) (.cons rfl (.refl _) (.cons rfl (.refl _) (.cons rfl (.refl _) (.cons rfl (.refl _) (.cons rfl (.refl _) (.cons rfl (.refl _) (.nil _)))))))))), (SubM.of (.keep rfl rfl (.refl _) (.keep rfl rfl (.refl _) (.nil _))) (.nil _))⟩ rfl (by kernel_rfl)
    · refine ⟨_, rfl, ?_⟩
      refine wval (qv_loadB 2 ShpC.h rfl rfl rfl rfl) rfl rfl ?_
      refine xpval 7 rfl (pv_lenM UndC.h rfl) rfl rfl (by kernel_rfl) (by kernel_rfl) (by kernel_rfl) (fun _ _ _ _ h => h) ?_
      refine xpval 8 rfl (pv_subI h17 rfl rfl) rfl rfl (by kernel_rfl) (by kernel_rfl) (by kernel_rfl) (fun _ _ _ _ h => h) ?_
      refine xpval 9 rfl (pv_buildC StrC.h rfl rfl) rfl rfl (by kernel_rfl) (by kernel_rfl) (by kernel_rfl) (fun _ _ _ _ h => h) ?_
      exact xpuse key36 rfl ⟨(.cons rfl (.refl _) (.cons rfl (.refl _) (.cons rfl (.refl _) (.cons rfl (.refl _) (.cons rfl (.refl _) (.cons rfl (.refl _) (.cons rfl (.refl _) (.cons rfl (.refl _) (.nil _))))))))), (SubM.of (.keep rfl rfl (.refl _) (.keep rfl rfl (.refl _) (.nil _))) (.nil _))⟩ rfl (by kernel_rfl)
  · refine ⟨_, rfl, ?_⟩
    refine wcall0 (palinoderef11_None_con _ h14) Try.func18 (by kernel_rfl) rfl .nil rfl rfl ?_
    refine xpvalE 6 [1] rfl (qv_loadB 2 ShpC.h rfl rfl rfl rfl) rfl rfl (by kernel_rfl) (by kernel_rfl) (by kernel_rfl) (fun _ _ _ _ h => h) ?_
    refine xpval 7 rfl (pv_lenM UndC.h rfl) rfl rfl (by kernel_rfl) (by kernel_rfl) (by kernel_rfl) (fun _ _ _ _ h => h) ?_
    refine xpval 8 rfl (pv_subI h17 rfl rfl) rfl rfl (by kernel_rfl) (by kernel_rfl) (by kernel_rfl) (fun _ _ _ _ h => h) ?_
    refine xpval 9 rfl (pv_buildC StrC.h rfl rfl) rfl rfl (by kernel_rfl) (by kernel_rfl) (by kernel_rfl) (fun _ _ _ _ h => h) ?_
    refine xpvalE 1 [10] rfl (qv_loadB 2 ShpC.h rfl rfl rfl rfl) rfl rfl (by kernel_rfl) (by kernel_rfl) (by kernel_rfl) (fun _ _ _ _ h => h) ?_
    exact xpuse key35 rfl ⟨(.cons rfl (.refl _) (.cons rfl (.refl _) (.cons rfl (.refl _) (.cons rfl (.refl _) (.cons rfl (.refl _) (.cons rfl (.refl _) (.cons rfl (.refl _) (.cons rfl (.refl _) (.cons rfl (.refl _) (.nil _)))))))))), (SubM.of (.keep rfl rfl (.refl _) (.keep rfl rfl (.refl _) (.nil _))) (.nil _))⟩ rfl (by kernel_rfl)
  · refine ⟨_, rfl, ?_⟩
    refine wval (qv_loadB 2 ShpC.h rfl rfl rfl rfl) rfl rfl ?_
    refine xpval 7 rfl (pv_lenM UndC.h rfl) rfl rfl (by kernel_rfl) (by kernel_rfl) (by kernel_rfl) (fun _ _ _ _ h => h) ?_
    refine xpval 8 rfl (pv_subI h17 rfl rfl) rfl rfl (by kernel_rfl) (by kernel_rfl) (by kernel_rfl) (fun _ _ _ _ h => h) ?_
    refine xpval 9 rfl (pv_buildC StrC.h rfl rfl) rfl rfl (by kernel_rfl) (by kernel_rfl) (by kernel_rfl) (fun _ _ _ _ h => h) ?_
    refine xpstepN (is := [1, 4, 10]) (by kernel_rfl) (by simp) ?_
    intro i hi; simp only [List.mem_cons, List.not_mem_nil, or_false] at hi; rcases hi with rfl | rfl | rfl
    · refine ⟨_, rfl, ?_⟩
      refine wval (qv_loadB 2 ShpC.h rfl rfl rfl rfl) rfl rfl ?_
      exact xpuse key36 rfl ⟨(.cons rfl (.refl _) (.cons rfl (.refl _) (.cons rfl (.refl _) (.cons rfl (.refl _) (.cons rfl (.refl _) (.cons rfl (.refl _) (.cons rfl (.refl _) (.cons rfl (.refl _) (.nil _))))))))), (SubM.of (.keep rfl rfl (.refl _) (.keep rfl rfl (.refl _) (.nil _))) (.nil _))⟩ rfl (by kernel_rfl)
    · refine ⟨_, rfl, ?_⟩
      refine wcall0 (palinoderef11_None_con _ h14) Try.func18 (by kernel_rfl) rfl .nil rfl rfl ?_
      refine xpvalE 1 [10] rfl (qv_loadB 2 ShpC.h rfl rfl rfl rfl) rfl rfl (by kernel_rfl) (by kernel_rfl) (by kernel_rfl) (fun _ _ _ _ h => h) ?_
      exact xpuse key35 rfl ⟨(.cons rfl (.refl _) (.cons rfl (.refl _) (.cons rfl (.refl _) (.cons rfl (.refl _) (.cons rfl (.refl _) (.cons rfl (.refl _) (.cons rfl (.refl _) (.cons rfl (.refl _) (.cons rfl (.refl _) (.nil _)))))))))), (SubM.of (.keep rfl rfl (.refl _) (.keep rfl rfl (.refl _) (.nil _))) (.nil _))⟩ rfl (by kernel_rfl)
    · refine ⟨_, rfl, ?_⟩
      refine wbuildSliceM (f := E_palinode_palinoderef11_Task) [(0, ((re1.1.length : Int) - 1), 0, 0)] UndC.h InfC.h rfl rfl wr_ rfl rfl rfl rfl fun s27 => ?_
      refine xfl0 [⟨1, 18, .agg [.sl 10 none (List.map E_palinode_api_Node re1.1), .v (.int .i64 re1.2)]⟩] 2 ?_
      refine xflstep 4 (by kernel_rfl) rfl (.cons rfl rfl rfl (fun _ => rfl) (fun _ => qv_loadB 2 ShpC.h rfl rfl rfl rfl) .nil) fun D l td hR => ?_
      refine wcall0 (palinoderef11_None_con _ h14) Try.func18 (by kernel_rfl) rfl .nil rfl rfl ?_
      refine xflgo1 hR ?_
      refine xflend (l' := #[true, true, true, true, true, true, true, true, true, true, true, false]) (by kernel_rfl) (.cons rfl rfl rfl (fun _ => rfl) (fun _ => qv_loadB 2 ShpC.h rfl rfl rfl rfl) .nil) (by kernel_rfl) rfl (by kernel_rfl) (by kernel_rfl) ?_
      simp only [List.nil_append, List.cons_append, List.map_cons, List.map_nil]
      exact xpuse key20 ⟨s27, rfl⟩ ⟨(.cons rfl (.refl _) (.cons rfl (.refl _) (.cons rfl (.refl _) (.cons rfl (.refl _) (.cons rfl (.refl _) (.cons rfl (.refl _) (.cons rfl (.refl _) (.cons rfl (.refl _) (.cons rfl (.refl _) (.nil _)))))))))), (SubM.of (.keep rfl rfl (.refl _) (.keep rfl rfl (.refl _) (.nil _))) (.keep rfl (.nil _)))⟩ rfl (by kernel_rfl)
end Go.Proofs.Ytnefabncdpkbmaa
