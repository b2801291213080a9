
/- What functions' texts ask for, and the walks that show it (printed by a program). -/
import Derived.Test.YtncnfohhjbadgaaGKp12
namespace Go.Proofs.Ytncnfohhjbadgaa
/-- palinoderef11.At -/
def palinoderef11_At_R (re1 : (List (Int × Int × Int × Int × Int × Int × (Arr 4 (UInt64)))) × Int) (text2 : List UInt8) (atv3 : Int) (fuel4 : Int) (r : ((Arr 10 (Int × Int))) × Bool × Int × Int) : Prop :=
 ∃ y15 : (Arr 10 (Int × Int)), palinoderef11_None_R y15 ∧ InR ((re1.1.length : Int) - 1) ∧ ∃ y19 : (Bool × ((Arr 10 (Int × Int))) × Int × Int × Int), palinoderef11_Ways_R (false, (Arr.rep 10 (0, 0)), 0, fuel4, atv3) re1 text2 atv3 y15 ([(0, ((re1.1.length : Int) - 1), 0, 0)]) y19 ∧ ((fuel4 < y19.2.2.1 → r = ((Arr.rep 10 (0, 0)), false, 0, 18)) ∧ (¬ (fuel4 < y19.2.2.1) → InR (fuel4 - y19.2.2.1) ∧ r = (y19.2.1, y19.1, (fuel4 - y19.2.2.1), 0)))
set_option maxRecDepth 100000 in
set_option maxHeartbeats 4000000 in
theorem palinoderef11_At_con (re1 : (List (Int × Int × Int × Int × Int × Int × (Arr 4 (UInt64)))) × Int) (text2 : List UInt8) (atv3 : Int) (fuel4 : Int) (r : ((Arr 10 (Int × Int))) × Bool × Int × Int) (h : palinoderef11_At_R re1 text2 atv3 fuel4 r) : Con Try.prog 21 [.agg [.sl 10 none (List.map E_palinode_api_Node re1.1), .v (.int .i64 re1.2)], .sl 1 none (List.map eb text2), .v (.int .i64 atv3), .v (.int .i64 fuel4)] [] [] (fun rr bx tk => rr = .tup [.agg ((List.map E_palinode_api_Span r.1.l).flatten), .v (.bool r.2.1), .v (.int .i64 r.2.2.1), .v (.int .i64 r.2.2.2)] ∧ bx = [] ∧ tk = []) := by
 refine xenter Try.func21 rfl rfl fun g hg => ?_
 simp only [Try.ntmps21, slots]
 refine sr_ ?_
 refine xbox rfl rfl rfl rfl fun b4 => ?_
 refine xalloc InfC.h rfl rfl fun b8 => ?_
 refine xreb 0 ((List.map E_palinode_api_Span ((Arr.rep 10 (0, 0))).l).flatten) rfl rfl ?_
 refine as_ ?_
 refine as_ ?_
 refine as_ ?_
 refine nt_ ?_
 refine sr_ ?_
 refine mv_ ?_
 refine mv_ ?_
 refine vp_ (pv_buildC (cs := ([.v (.bool false)] ++ ((List.map E_palinode_api_Span ((Arr.rep 10 (0, 0))).l).flatten ++ [.v (.int .i64 0), .v (.int .i64 fuel4), .v (.int .i64 atv3)]))) StrC.h rfl (by refine fill_step ([.v (.bool false)] ++ ((List.map E_palinode_api_Span ((Arr.rep 10 (0, 0))).l).flatten ++ [.v (.int .i64 0)])) [.v (.int .i64 0)] [.v (.int .i64 0)] sq_ sl_ sl_ sl_ rfl rfl ?_; refine fill_step ([.v (.bool false)] ++ ((List.map E_palinode_api_Span ((Arr.rep 10 (0, 0))).l).flatten ++ [.v (.int .i64 0), .v (.int .i64 fuel4)])) [.v (.int .i64 0)] [] sq_ sl_ sl_ sl_ rfl rfl ?_; exact congrArg some sq_)) ?_
 refine xbox rfl rfl rfl rfl fun b16 => ?_
 refine as_ ?_
 refine nt_ ?_
 refine xseq ?_
 refine xregionD (m := 12) (by kernel_rfl) rfl ?_
 obtain ⟨y15, h14, h⟩ := h
 obtain ⟨h17, h⟩ := h
 obtain ⟨y19, h18, h⟩ := h
 refine xpcut 1 #[true, true, true, true, true, true, true, true, true, true, true, false] (fun σ => ∃ (s27 : Nat), σ = ⟨[(3, .v (.int .i64 fuel4)), (8, .v (.pointer (some ⟨b8, 0, none⟩))), (12, .v (.pointer (some ⟨b16, 0, none⟩))), (17, .v (.pointer (some ⟨b16, 0, none⟩))), (18, .agg [.sl 10 none (List.map E_palinode_api_Node re1.1), .v (.int .i64 re1.2)]), (19, .sl 1 none (List.map eb text2)), (20, .v (.int .i64 atv3)), (21, .agg ((List.map E_palinode_api_Span y15.l).flatten)), (27, .sl 4 (some (some (s27, 1))) (List.map E_palinode_palinoderef11_Task ([(0, ((re1.1.length : Int) - 1), 0, 0)])))], [⟨b16, 85, ([.v (.bool false)] ++ ((List.map E_palinode_api_Span ((Arr.rep 10 (0, 0))).l).flatten ++ [.v (.int .i64 0), .v (.int .i64 fuel4), .v (.int .i64 atv3)]))⟩, ⟨b8, 31, ((List.map E_palinode_api_Span ((Arr.rep 10 (0, 0))).l).flatten)⟩], [⟨(some (s27, 1)), 88, 4, ([(0, ((re1.1.length : Int) - 1), 0, 0)]).length⟩]⟩) ?_ (fun key20 => ?_)
 ·rintro _ ⟨s27, rfl⟩
  refine xpstep (i := 11) (by kernel_rfl) rfl ?_
  refine wcallF (Fb := [⟨b8, 31, ((List.map E_palinode_api_Span ((Arr.rep 10 (0, 0))).l).flatten)⟩]) (Ft := [⟨(some (s27, 1)), 88, 4, ([(0, ((re1.1.length : Int) - 1), 0, 0)]).length⟩]) (palinoderef11_Ways_con (false, (Arr.rep 10 (0, 0)), 0, fuel4, atv3) re1 text2 atv3 y15 ([(0, ((re1.1.length : Int) - 1), 0, 0)]) b16 _ h18) Try.func31 (by kernel_rfl) rfl (.cons rfl (.refl _) (.cons rfl (.refl _) (.cons rfl (.refl _) (.cons rfl (.refl _) (.cons rfl (.refl _) (.cons rfl (.tok _ _ _) .nil)))))) (by exact sm_) rfl rfl ?_
  rintro _ _ _ ⟨rfl, rfl, rfl⟩
  simp only [List.nil_append, List.cons_append]
  refine xpdone (by kernel_rfl) ?_
  refine xthen ?_
  refine xseq ?_
  refine sr_ ?_
  refine mv_ ?_
  refine vp_ (pv_nilCheck rfl) ?_
  refine vp_ (qv_fieldAddrB FldC.h rfl) ?_
  refine v_ (qv_loadP 0 ([.v (.bool y19.1)] ++ (List.map E_palinode_api_Span y19.2.1.l).flatten) [.v (.int .i64 y19.2.2.1)] [.v (.int .i64 y19.2.2.2.1), .v (.int .i64 y19.2.2.2.2)] sq_ sl_ sl_ rfl ShpC.h rfl rfl) ?_
  refine mv_ ?_
  refine vp_ (pv_bin2 rfl rfl rfl) ?_
  refine nt_ ?_
  by_cases hp24 : fuel4 < y19.2.2.1
  ·replace h := h.1 hp24
   refine xcondT' (decide_eq_true hp24) rfl ?_
   refine sr_ ?_
   refine vp_ (pv_buildC (cs := ((List.map E_palinode_api_Span ((Arr.rep 10 (0, 0))).l).flatten)) StrC.h rfl (by exact congrArg some sq_)) ?_
   refine xstoreQ 1 [] ((List.map E_palinode_api_Span ((Arr.rep 10 (0, 0))).l).flatten) [] ((List.map E_palinode_api_Span ((Arr.rep 10 (0, 0))).l).flatten) ShpC.h rfl rfl rfl rfl rfl ?_
   refine as_ ?_
   refine as_ ?_
   refine as_ ?_
   refine nt_ ?_
   refine xretc ?_
   refine xthen_ret ?_
   replace h := h.symm
   subst h
   exact xretL (rs := [.cell 8 31, .tmp 9, .tmp 10, .tmp 11]) (ss := [.agg ((List.map E_palinode_api_Span ((Arr.rep 10 (0, 0))).l).flatten), .v (.bool false), .v (.int .i64 0), .v (.int .i64 18)]) hg rfl (by refine RetL.cell 1 ShpC.h rfl rfl (part_midE (pre := []) (mid := ((List.map E_palinode_api_Span ((Arr.rep 10 (0, 0))).l).flatten)) (post := []) sq_ sl_ sl_ (part_all (seg_lenE (by rfl)))) (len_midE (pre := []) (mid := ((List.map E_palinode_api_Span ((Arr.rep 10 (0, 0))).l).flatten)) (post := []) sq_ sl_ sl_) wk_ ?_; refine RetL.tmp rfl (.refl _) ?_; refine RetL.tmp rfl (.refl _) ?_; refine RetL.tmp rfl (.refl _) ?_; exact RetL.nil) (SubM.of (.nil _) (.nil _)) ⟨rfl, rfl, rfl⟩
  ·replace h := h.2 hp24
   refine xcondF' (decide_eq_false hp24) rfl ?_
   refine xskipc ?_
   refine xthen ?_
   refine xseq ?_
   refine xregionD (m := 18) (by kernel_rfl) rfl ?_
   obtain ⟨h30, h⟩ := h
   refine xpcut 0 #[true, true, true, true, true, true, true, true, true, true, true, true, true, true, true, true, true, true] (fun σ => σ = ⟨[(8, .v (.pointer (some ⟨b8, 0, none⟩))), (9, .v (.bool y19.1)), (10, .v (.int .i64 ((fuel4 - y19.2.2.1)))), (11, .v (.int .i64 0))], [⟨b8, 31, ((List.map E_palinode_api_Span y19.2.1.l).flatten)⟩], []⟩) ?_ (fun key31 => ?_)
   ·rintro _ rfl
    refine xpdone (by kernel_rfl) ?_
    refine xthen ?_
    refine xretc ?_
    replace h := h.symm
    subst h
    exact xretL (rs := [.cell 8 31, .tmp 9, .tmp 10, .tmp 11]) (ss := [.agg ((List.map E_palinode_api_Span y19.2.1.l).flatten), .v (.bool y19.1), .v (.int .i64 ((fuel4 - y19.2.2.1))), .v (.int .i64 0)]) hg rfl (by refine RetL.cell 0 ShpC.h rfl rfl (part_midE (pre := []) (mid := ((List.map E_palinode_api_Span y19.2.1.l).flatten)) (post := []) sq_ sl_ sl_ (part_all (seg_lenE (by rfl)))) (len_midE (pre := []) (mid := ((List.map E_palinode_api_Span y19.2.1.l).flatten)) (post := []) sq_ sl_ sl_) wk_ ?_; refine RetL.tmp rfl (.refl _) ?_; refine RetL.tmp rfl (.refl _) ?_; refine RetL.tmp rfl (.refl _) ?_; exact RetL.nil) (SubM.of (.nil _) (.nil _)) ⟨rfl, rfl, rfl⟩
   refine xpcut 4 #[true, true, true, true, true, true, true, true, true, true, true, true, true, true, false, false, false, false] (fun σ => σ = ⟨[(8, .v (.pointer (some ⟨b8, 0, none⟩))), (39, .agg ((List.map E_palinode_api_Span y19.2.1.l).flatten)), (43, .v (.bool y19.1)), (49, .v (.int .i64 ((fuel4 - y19.2.2.1))))], [⟨b8, 31, ((List.map E_palinode_api_Span ((Arr.rep 10 (0, 0))).l).flatten)⟩], []⟩) ?_ (fun key32 => ?_)
   ·rintro _ rfl
    refine xpstep (i := 14) (by kernel_rfl) rfl ?_
    refine wstoreQ 0 [] ((List.map E_palinode_api_Span ((Arr.rep 10 (0, 0))).l).flatten) [] ((List.map E_palinode_api_Span y19.2.1.l).flatten) ShpC.h rfl rfl rfl rfl rfl ?_
    refine pl_ 15 rfl (pv_assign rfl) ?_
    refine pl_ 16 rfl (pv_assign rfl) ?_
    refine pl_ 17 rfl (pv_assign rfl) ?_
    exact xpuse key31 rfl ⟨lk_, (SubM.of (.keep rfl rfl (.refl _) (.nil _)) (.nil _))⟩ rfl (by kernel_rfl)
   refine xpcut 5 #[true, true, true, true, true, true, true, false, true, true, true, true, true, true, false, false, false, false] (fun σ => σ = ⟨[(8, .v (.pointer (some ⟨b8, 0, none⟩))), (39, .agg ((List.map E_palinode_api_Span y19.2.1.l).flatten)), (42, .v (.pointer (some ⟨b16, 0, none⟩))), (49, .v (.int .i64 ((fuel4 - y19.2.2.1))))], [⟨b16, 85, ([.v (.bool y19.1)] ++ ((List.map E_palinode_api_Span y19.2.1.l).flatten ++ [.v (.int .i64 y19.2.2.1), .v (.int .i64 y19.2.2.2.1), .v (.int .i64 y19.2.2.2.2)]))⟩, ⟨b8, 31, ((List.map E_palinode_api_Span ((Arr.rep 10 (0, 0))).l).flatten)⟩], []⟩) ?_ (fun key33 => ?_)
   ·rintro _ rfl
    refine xfl0 [⟨7, 43, .v (.bool y19.1)⟩] 4 ?_
    refine xflstep 14 (by kernel_rfl) rfl (.cons rfl rfl rfl (fun _ => rfl) (fun _ => qv_loadB 0 ShpC.h rfl rfl rfl rfl) .nil) fun D l td hR => ?_
    refine wstoreQ 1 [] ((List.map E_palinode_api_Span ((Arr.rep 10 (0, 0))).l).flatten) [] ((List.map E_palinode_api_Span y19.2.1.l).flatten) ShpC.h rfl rfl rfl rfl rfl ?_
    refine xflgo0 hR ?_
    refine xflend (l' := #[true, true, true, true, true, true, true, true, true, true, true, true, true, true, true, false, false, false]) (by kernel_rfl) (.cons rfl rfl rfl (fun _ => rfl) (fun _ => qv_loadB 0 ShpC.h rfl rfl rfl rfl) .nil) (by kernel_rfl) rfl (by kernel_rfl) (by kernel_rfl) ?_
    simp only [List.nil_append, List.cons_append, List.map_cons, List.map_nil]
    refine pl_ 15 rfl (pv_assign rfl) ?_
    refine pl_ 16 rfl (pv_assign rfl) ?_
    refine pl_ 17 rfl (pv_assign rfl) ?_
    exact xpuse key31 rfl ⟨lk_, (SubM.of (.drop (.keep rfl rfl (.refl _) (.nil _))) (.nil _))⟩ rfl (by kernel_rfl)
   refine xpcut 6 #[true, true, true, true, true, true, true, true, true, true, true, true, false, false, false, false, false, false] (fun σ => σ = ⟨[(8, .v (.pointer (some ⟨b8, 0, none⟩))), (39, .agg ((List.map E_palinode_api_Span y19.2.1.l).flatten)), (43, .v (.bool y19.1)), (44, .v (.int .i64 fuel4)), (47, .v (.pointer (some ⟨b16, 21, none⟩)))], [⟨b16, 85, ([.v (.bool y19.1)] ++ ((List.map E_palinode_api_Span y19.2.1.l).flatten ++ [.v (.int .i64 y19.2.2.1), .v (.int .i64 y19.2.2.2.1), .v (.int .i64 y19.2.2.2.2)]))⟩, ⟨b8, 31, ((List.map E_palinode_api_Span ((Arr.rep 10 (0, 0))).l).flatten)⟩], []⟩) ?_ (fun key34 => ?_)
   ·rintro _ rfl
    refine xpstepN (is := [12, 14]) (by kernel_rfl) (by simp) ?_
    intro i hi; simp only [List.mem_cons, List.not_mem_nil, or_false] at hi; rcases hi with rfl | rfl
    ·refine ⟨_, rfl, ?_⟩
     refine wv_ (qv_loadP 0 ([.v (.bool y19.1)] ++ (List.map E_palinode_api_Span y19.2.1.l).flatten) [.v (.int .i64 y19.2.2.1)] [.v (.int .i64 y19.2.2.2.1), .v (.int .i64 y19.2.2.2.2)] sq_ sl_ sl_ rfl ShpC.h rfl rfl) ?_
     refine pl_ 13 rfl (pv_subI h30 rfl rfl) ?_
     exact xpuse key32 rfl ⟨lk_, (SubM.of (.drop (.keep rfl rfl (.refl _) (.nil _))) (.nil _))⟩ rfl (by kernel_rfl)
    ·refine ⟨_, rfl, ?_⟩
     refine wstoreQ 1 [] ((List.map E_palinode_api_Span ((Arr.rep 10 (0, 0))).l).flatten) [] ((List.map E_palinode_api_Span y19.2.1.l).flatten) ShpC.h rfl rfl rfl rfl rfl ?_
     refine pl_ 15 rfl (pv_assign rfl) ?_
     refine xpvalE 12 [] rfl (qv_loadP 0 ([.v (.bool y19.1)] ++ (List.map E_palinode_api_Span y19.2.1.l).flatten) [.v (.int .i64 y19.2.2.1)] [.v (.int .i64 y19.2.2.2.1), .v (.int .i64 y19.2.2.2.2)] sq_ sl_ sl_ rfl ShpC.h rfl rfl) rfl rfl (by kernel_rfl) (by kernel_rfl) (by kernel_rfl) (fun _ _ _ _ h => h) ?_
     refine pl_ 13 rfl (pv_subI h30 rfl rfl) ?_
     refine pl_ 16 rfl (pv_assign rfl) ?_
     refine pl_ 17 rfl (pv_assign rfl) ?_
     exact xpuse key31 rfl ⟨lk_, (SubM.of (.drop (.keep rfl rfl (.refl _) (.nil _))) (.nil _))⟩ rfl (by kernel_rfl)
   refine pl_ 0 rfl (pv_move rfl) ?_
   refine pl_ 1 rfl (pv_nilCheck rfl) ?_
   refine pl_ 2 rfl (qv_fieldAddrB FldC.h rfl) ?_
   refine pl_ 4 rfl (pv_move rfl) ?_
   refine pl_ 5 rfl (pv_nilCheck rfl) ?_
   refine pl_ 6 rfl (qv_fieldAddrB FldC.h rfl) ?_
   refine pl_ 8 rfl (pv_move rfl) ?_
   refine pl_ 9 rfl (pv_move rfl) ?_
   refine pl_ 10 rfl (pv_nilCheck rfl) ?_
   refine pl_ 11 rfl (qv_fieldAddrB FldC.h rfl) ?_
   refine xpstepN (is := [3, 7, 12]) (by kernel_rfl) (by simp) ?_
   intro i hi; simp only [List.mem_cons, List.not_mem_nil, or_false] at hi; rcases hi with rfl | rfl | rfl
   ·refine ⟨_, rfl, ?_⟩
    refine wv_ (qv_loadP 0 [.v (.bool y19.1)] ((List.map E_palinode_api_Span y19.2.1.l).flatten) [.v (.int .i64 y19.2.2.1), .v (.int .i64 y19.2.2.2.1), .v (.int .i64 y19.2.2.2.2)] sq_ sl_ sl_ (part_all (seg_lenE (by rfl))) ShpC.h rfl rfl) ?_
    refine xpstepN (is := [7, 12, 14]) (by kernel_rfl) (by simp) ?_
    intro i hi; simp only [List.mem_cons, List.not_mem_nil, or_false] at hi; rcases hi with rfl | rfl | rfl
    ·refine ⟨_, rfl, ?_⟩
     refine wv_ (qv_loadB 0 ShpC.h rfl rfl rfl rfl) ?_
     exact xpuse key34 rfl ⟨lk_, (SubM.of (.keep rfl rfl (.refl _) (.keep rfl rfl (.refl _) (.nil _))) (.nil _))⟩ rfl (by kernel_rfl)
    ·refine ⟨_, rfl, ?_⟩
     refine wv_ (qv_loadP 0 ([.v (.bool y19.1)] ++ (List.map E_palinode_api_Span y19.2.1.l).flatten) [.v (.int .i64 y19.2.2.1)] [.v (.int .i64 y19.2.2.2.1), .v (.int .i64 y19.2.2.2.2)] sq_ sl_ sl_ rfl ShpC.h rfl rfl) ?_
     refine pl_ 13 rfl (pv_subI h30 rfl rfl) ?_
     exact xpuse key33 rfl ⟨lk_, (SubM.of (.keep rfl rfl (.refl _) (.keep rfl rfl (.refl _) (.nil _))) (.nil _))⟩ rfl (by kernel_rfl)
    ·refine ⟨_, rfl, ?_⟩
     refine wstoreQ 1 [] ((List.map E_palinode_api_Span ((Arr.rep 10 (0, 0))).l).flatten) [] ((List.map E_palinode_api_Span y19.2.1.l).flatten) ShpC.h rfl rfl rfl rfl rfl ?_
     refine xpvalE 12 [7, 15] rfl (qv_loadP 0 ([.v (.bool y19.1)] ++ (List.map E_palinode_api_Span y19.2.1.l).flatten) [.v (.int .i64 y19.2.2.1)] [.v (.int .i64 y19.2.2.2.1), .v (.int .i64 y19.2.2.2.2)] sq_ sl_ sl_ rfl ShpC.h rfl rfl) rfl rfl (by kernel_rfl) (by kernel_rfl) (by kernel_rfl) (fun _ _ _ _ h => h) ?_
     refine pl_ 13 rfl (pv_subI h30 rfl rfl) ?_
     refine xpvalE 7 [] rfl (qv_loadB 0 ShpC.h rfl rfl rfl rfl) rfl rfl (by kernel_rfl) (by kernel_rfl) (by kernel_rfl) (fun _ _ _ _ h => h) ?_
     refine pl_ 15 rfl (pv_assign rfl) ?_
     refine pl_ 16 rfl (pv_assign rfl) ?_
     refine pl_ 17 rfl (pv_assign rfl) ?_
     exact xpuse key31 rfl ⟨lk_, (SubM.of (.drop (.keep rfl rfl (.refl _) (.nil _))) (.nil _))⟩ rfl (by kernel_rfl)
   ·refine ⟨_, rfl, ?_⟩
    refine wv_ (qv_loadB 0 ShpC.h rfl rfl rfl rfl) ?_
    refine xpstepN (is := [3, 12]) (by kernel_rfl) (by simp) ?_
    intro i hi; simp only [List.mem_cons, List.not_mem_nil, or_false] at hi; rcases hi with rfl | rfl
    ·refine ⟨_, rfl, ?_⟩
     refine wv_ (qv_loadP 0 [.v (.bool y19.1)] ((List.map E_palinode_api_Span y19.2.1.l).flatten) [.v (.int .i64 y19.2.2.1), .v (.int .i64 y19.2.2.2.1), .v (.int .i64 y19.2.2.2.2)] sq_ sl_ sl_ (part_all (seg_lenE (by rfl))) ShpC.h rfl rfl) ?_
     exact xpuse key34 rfl ⟨lk_, (SubM.of (.keep rfl rfl (.refl _) (.keep rfl rfl (.refl _) (.nil _))) (.nil _))⟩ rfl (by kernel_rfl)
    ·refine ⟨_, rfl, ?_⟩
     refine wv_ (qv_loadP 0 ([.v (.bool y19.1)] ++ (List.map E_palinode_api_Span y19.2.1.l).flatten) [.v (.int .i64 y19.2.2.1)] [.v (.int .i64 y19.2.2.2.1), .v (.int .i64 y19.2.2.2.2)] sq_ sl_ sl_ rfl ShpC.h rfl rfl) ?_
     refine pl_ 13 rfl (pv_subI h30 rfl rfl) ?_
     refine xpvalE 3 [] rfl (qv_loadP 0 [.v (.bool y19.1)] ((List.map E_palinode_api_Span y19.2.1.l).flatten) [.v (.int .i64 y19.2.2.1), .v (.int .i64 y19.2.2.2.1), .v (.int .i64 y19.2.2.2.2)] sq_ sl_ sl_ (part_all (seg_lenE (by rfl))) ShpC.h rfl rfl) rfl rfl (by kernel_rfl) (by kernel_rfl) (by kernel_rfl) (fun _ _ _ _ h => h) ?_
     exact xpuse key32 rfl ⟨lk_, (SubM.of (.drop (.keep rfl rfl (.refl _) (.nil _))) (.nil _))⟩ rfl (by kernel_rfl)
   ·refine ⟨_, rfl, ?_⟩
    refine wv_ (qv_loadP 0 ([.v (.bool y19.1)] ++ (List.map E_palinode_api_Span y19.2.1.l).flatten) [.v (.int .i64 y19.2.2.1)] [.v (.int .i64 y19.2.2.2.1), .v (.int .i64 y19.2.2.2.2)] sq_ sl_ sl_ rfl ShpC.h rfl rfl) ?_
    refine pl_ 13 rfl (pv_subI h30 rfl rfl) ?_
    refine xpvalE 3 [7] rfl (qv_loadP 0 [.v (.bool y19.1)] ((List.map E_palinode_api_Span y19.2.1.l).flatten) [.v (.int .i64 y19.2.2.1), .v (.int .i64 y19.2.2.2.1), .v (.int .i64 y19.2.2.2.2)] sq_ sl_ sl_ (part_all (seg_lenE (by rfl))) ShpC.h rfl rfl) rfl rfl (by kernel_rfl) (by kernel_rfl) (by kernel_rfl) (fun _ _ _ _ h => h) ?_
    exact xpuse key33 rfl ⟨lk_, (SubM.of (.keep rfl rfl (.refl _) (.keep rfl rfl (.refl _) (.nil _))) (.nil _))⟩ rfl (by kernel_rfl)
 refine xpcut 2 #[true, true, true, true, true, true, true, true, true, true, false, false] (fun σ => σ = ⟨[(3, .v (.int .i64 fuel4)), (8, .v (.pointer (some ⟨b8, 0, none⟩))), (12, .v (.pointer (some ⟨b16, 0, none⟩))), (17, .v (.pointer (some ⟨b16, 0, none⟩))), (18, .agg [.sl 10 none (List.map E_palinode_api_Node re1.1), .v (.int .i64 re1.2)]), (19, .sl 1 none (List.map eb text2)), (20, .v (.int .i64 atv3)), (21, .agg ((List.map E_palinode_api_Span y15.l).flatten)), (26, .agg [.v (.int .i64 0), .v (.int .i64 (((re1.1.length : Int) - 1))), .v (.int .i64 0), .v (.int .i64 0)])], [⟨b16, 85, ([.v (.bool false)] ++ ((List.map E_palinode_api_Span ((Arr.rep 10 (0, 0))).l).flatten ++ [.v (.int .i64 0), .v (.int .i64 fuel4), .v (.int .i64 atv3)]))⟩, ⟨b8, 31, ((List.map E_palinode_api_Span ((Arr.rep 10 (0, 0))).l).flatten)⟩], []⟩) ?_ (fun key35 => ?_)
 ·rintro _ rfl
  refine xpstep (i := 10) (by kernel_rfl) rfl ?_
  refine wbuildSliceM (f := E_palinode_palinoderef11_Task) [(0, ((re1.1.length : Int) - 1), 0, 0)] UndC.h InfC.h rfl rfl wr_ rfl rfl rfl rfl fun s27 => ?_
  exact xpuse key20 ⟨s27, rfl⟩ ⟨lk_, (SubM.of (.keep rfl rfl (.refl _) (.keep rfl rfl (.refl _) (.nil _))) (.keep rfl (.nil _)))⟩ rfl (by kernel_rfl)
 refine xpcut 3 #[true, true, true, true, false, true, true, true, true, true, false, false] (fun σ => σ = ⟨[(3, .v (.int .i64 fuel4)), (8, .v (.pointer (some ⟨b8, 0, none⟩))), (12, .v (.pointer (some ⟨b16, 0, none⟩))), (17, .v (.pointer (some ⟨b16, 0, none⟩))), (18, .agg [.sl 10 none (List.map E_palinode_api_Node re1.1), .v (.int .i64 re1.2)]), (19, .sl 1 none (List.map eb text2)), (20, .v (.int .i64 atv3)), (26, .agg [.v (.int .i64 0), .v (.int .i64 (((re1.1.length : Int) - 1))), .v (.int .i64 0), .v (.int .i64 0)])], [⟨b16, 85, ([.v (.bool false)] ++ ((List.map E_palinode_api_Span ((Arr.rep 10 (0, 0))).l).flatten ++ [.v (.int .i64 0), .v (.int .i64 fuel4), .v (.int .i64 atv3)]))⟩, ⟨b8, 31, ((List.map E_palinode_api_Span ((Arr.rep 10 (0, 0))).l).flatten)⟩], []⟩) ?_ (fun key36 => ?_)
 ·rintro _ rfl
  refine xpstepN (is := [4, 10]) (by kernel_rfl) (by simp) ?_
  intro i hi; simp only [List.mem_cons, List.not_mem_nil, or_false] at hi; rcases hi with rfl | rfl
  ·refine ⟨_, rfl, ?_⟩
   refine wcall0 (palinoderef11_None_con _ h14) Try.func24 (by kernel_rfl) rfl .nil rfl rfl ?_
   exact xpuse key35 rfl ⟨lk_, (SubM.of (.keep rfl rfl (.refl _) (.keep rfl rfl (.refl _) (.nil _))) (.nil _))⟩ rfl (by kernel_rfl)
  ·refine ⟨_, rfl, ?_⟩
   refine wbuildSliceM (f := E_palinode_palinoderef11_Task) [(0, ((re1.1.length : Int) - 1), 0, 0)] UndC.h InfC.h rfl rfl wr_ rfl rfl rfl rfl fun s27 => ?_
   refine xpstep (i := 4) (by kernel_rfl) rfl ?_
   refine wcall0 (palinoderef11_None_con _ h14) Try.func24 (by kernel_rfl) rfl .nil rfl rfl ?_
   exact xpuse key20 ⟨s27, rfl⟩ ⟨lk_, (SubM.of (.keep rfl rfl (.refl _) (.keep rfl rfl (.refl _) (.nil _))) (.keep rfl (.nil _)))⟩ rfl (by kernel_rfl)
 refine pl_ 0 rfl (pv_move rfl) ?_
 refine pl_ 2 rfl (pv_move rfl) ?_
 refine pl_ 3 rfl (pv_move rfl) ?_
 refine pl_ 5 rfl (qv_fieldAddrB FldC.h rfl) ?_
 refine xpstepN (is := [1, 4, 6]) (by kernel_rfl) (by simp) ?_
 intro i hi; simp only [List.mem_cons, List.not_mem_nil, or_false] at hi; rcases hi with rfl | rfl | rfl
 ·refine ⟨_, rfl, ?_⟩
  refine wv_ (qv_loadB 2 ShpC.h rfl rfl rfl rfl) ?_
  refine xpstepN (is := [4, 6]) (by kernel_rfl) (by simp) ?_
  intro i hi; simp only [List.mem_cons, List.not_mem_nil, or_false] at hi; rcases hi with rfl | rfl
  ·refine ⟨_, rfl, ?_⟩
   refine wcall0 (palinoderef11_None_con _ h14) Try.func24 (by kernel_rfl) rfl .nil rfl rfl ?_
   refine xpvalE 6 [] rfl (qv_loadB 2 ShpC.h rfl rfl rfl rfl) rfl rfl (by kernel_rfl) (by kernel_rfl) (by kernel_rfl) (fun _ _ _ _ h => h) ?_
   refine pl_ 7 rfl (pv_lenM UndC.h rfl) ?_
   refine pl_ 8 rfl (pv_subI h17 rfl rfl) ?_
   refine pl_ 9 rfl (pv_buildC StrC.h rfl rfl) ?_
   exact xpuse key35 rfl ⟨lk_, (SubM.of (.keep rfl rfl (.refl _) (.keep rfl rfl (.refl _) (.nil _))) (.nil _))⟩ rfl (by kernel_rfl)
  ·refine ⟨_, rfl, ?_⟩
   refine wv_ (qv_loadB 2 ShpC.h rfl rfl rfl rfl) ?_
   refine pl_ 7 rfl (pv_lenM UndC.h rfl) ?_
   refine pl_ 8 rfl (pv_subI h17 rfl rfl) ?_
   refine pl_ 9 rfl (pv_buildC StrC.h rfl rfl) ?_
   exact xpuse key36 rfl ⟨lk_, (SubM.of (.keep rfl rfl (.refl _) (.keep rfl rfl (.refl _) (.nil _))) (.nil _))⟩ rfl (by kernel_rfl)
 ·refine ⟨_, rfl, ?_⟩
  refine wcall0 (palinoderef11_None_con _ h14) Try.func24 (by kernel_rfl) rfl .nil rfl rfl ?_
  refine xpvalE 6 [1] rfl (qv_loadB 2 ShpC.h rfl rfl rfl rfl) rfl rfl (by kernel_rfl) (by kernel_rfl) (by kernel_rfl) (fun _ _ _ _ h => h) ?_
  refine pl_ 7 rfl (pv_lenM UndC.h rfl) ?_
  refine pl_ 8 rfl (pv_subI h17 rfl rfl) ?_
  refine pl_ 9 rfl (pv_buildC StrC.h rfl rfl) ?_
  refine xpvalE 1 [10] rfl (qv_loadB 2 ShpC.h rfl rfl rfl rfl) rfl rfl (by kernel_rfl) (by kernel_rfl) (by kernel_rfl) (fun _ _ _ _ h => h) ?_
  exact xpuse key35 rfl ⟨lk_, (SubM.of (.keep rfl rfl (.refl _) (.keep rfl rfl (.refl _) (.nil _))) (.nil _))⟩ rfl (by kernel_rfl)
 ·refine ⟨_, rfl, ?_⟩
  refine wv_ (qv_loadB 2 ShpC.h rfl rfl rfl rfl) ?_
  refine pl_ 7 rfl (pv_lenM UndC.h rfl) ?_
  refine pl_ 8 rfl (pv_subI h17 rfl rfl) ?_
  refine pl_ 9 rfl (pv_buildC StrC.h rfl rfl) ?_
  refine xpstepN (is := [1, 4, 10]) (by kernel_rfl) (by simp) ?_
  intro i hi; simp only [List.mem_cons, List.not_mem_nil, or_false] at hi; rcases hi with rfl | rfl | rfl
  ·refine ⟨_, rfl, ?_⟩
   refine wv_ (qv_loadB 2 ShpC.h rfl rfl rfl rfl) ?_
   exact xpuse key36 rfl ⟨lk_, (SubM.of (.keep rfl rfl (.refl _) (.keep rfl rfl (.refl _) (.nil _))) (.nil _))⟩ rfl (by kernel_rfl)
  ·refine ⟨_, rfl, ?_⟩
   refine wcall0 (palinoderef11_None_con _ h14) Try.func24 (by kernel_rfl) rfl .nil rfl rfl ?_
   refine xpvalE 1 [10] rfl (qv_loadB 2 ShpC.h rfl rfl rfl rfl) rfl rfl (by kernel_rfl) (by kernel_rfl) (by kernel_rfl) (fun _ _ _ _ h => h) ?_
   exact xpuse key35 rfl ⟨lk_, (SubM.of (.keep rfl rfl (.refl _) (.keep rfl rfl (.refl _) (.nil _))) (.nil _))⟩ rfl (by kernel_rfl)
  ·refine ⟨_, rfl, ?_⟩
   refine wbuildSliceM (f := E_palinode_palinoderef11_Task) [(0, ((re1.1.length : Int) - 1), 0, 0)] UndC.h InfC.h rfl rfl wr_ rfl rfl rfl rfl fun s27 => ?_
   refine xfl0 [⟨1, 18, .agg [.sl 10 none (List.map E_palinode_api_Node re1.1), .v (.int .i64 re1.2)]⟩] 2 ?_
   refine xflstep 4 (by kernel_rfl) rfl (.cons rfl rfl rfl (fun _ => rfl) (fun _ => qv_loadB 2 ShpC.h rfl rfl rfl rfl) .nil) fun D l td hR => ?_
   refine wcall0 (palinoderef11_None_con _ h14) Try.func24 (by kernel_rfl) rfl .nil rfl rfl ?_
   refine xflgo1 hR ?_
   refine xflend (l' := #[true, true, true, true, true, true, true, true, true, true, true, false]) (by kernel_rfl) (.cons rfl rfl rfl (fun _ => rfl) (fun _ => qv_loadB 2 ShpC.h rfl rfl rfl rfl) .nil) (by kernel_rfl) rfl (by kernel_rfl) (by kernel_rfl) ?_
   simp only [List.nil_append, List.cons_append, List.map_cons, List.map_nil]
   exact xpuse key20 ⟨s27, rfl⟩ ⟨lk_, (SubM.of (.keep rfl rfl (.refl _) (.keep rfl rfl (.refl _) (.nil _))) (.keep rfl (.nil _)))⟩ rfl (by kernel_rfl)
/-- palinoderef12.First -/
def palinoderef12_First_j1 (fuel184 : Int) (r : ((Arr 10 (Int × Int))) × Bool × Int × Int) : Prop :=
 r = ((Arr.rep 10 (0, 0)), false, fuel184, 0)
def palinoderef12_First_j3 (y350 : ((Arr 10 (Int × Int))) × Bool × Int × Int) (atv245 : Int) (ag2 : (Int × Int) → Prop) (x359 : Bool) (r : ((Arr 10 (Int × Int))) × Bool × Int × Int) : Prop :=
 ((x359 = true → r = (y350.1, y350.2.1, y350.2.2.1, y350.2.2.2)) ∧ (¬ (x359 = true) → InR (atv245 + 1) ∧ ag2 (y350.2.2.1, (atv245 + 1))))
def palinoderef12_First_l2 (text2 : List UInt8) (re1 : (List (Int × Int × Int × Int × Int × Int × (Arr 4 (UInt64)))) × Int) (ag2 : (Int × Int) → Prop) (fuel244 : Int) (atv245 : Int) (r : ((Arr 10 (Int × Int))) × Bool × Int × Int) : Prop :=
 ((atv245 ≤ (text2.length : Int) → InR ((text2.length : Int) - atv245) ∧ ∃ y346 : Int, palinoderef06_Least_R re1 y346 ∧ ((((text2.length : Int) - atv245) < y346 → palinoderef12_First_j1 fuel244 r) ∧ (¬ (((text2.length : Int) - atv245) < y346) → ∃ y350 : ((Arr 10 (Int × Int))) × Bool × Int × Int, palinoderef11_At_R re1 text2 atv245 fuel244 y350 ∧ palinoderef12_First_j3 y350 atv245 ag2 ((!(decide (y350.2.2.2 = 0))) || y350.2.1) r))) ∧ (¬ (atv245 ≤ (text2.length : Int)) → palinoderef12_First_j1 fuel244 r))
def palinoderef12_First_R (re1 : (List (Int × Int × Int × Int × Int × Int × (Arr 4 (UInt64)))) × Int) (text2 : List UInt8) (fromv3 : Int) (fuel4 : Int) (r : ((Arr 10 (Int × Int))) × Bool × Int × Int) : Prop :=
 LoopR (fun ag2 s => palinoderef12_First_l2 text2 re1 ag2 s.1 s.2 r) (fuel4, fromv3)
set_option maxRecDepth 100000 in
set_option maxHeartbeats 4000000 in
theorem palinoderef12_First_con (re1 : (List (Int × Int × Int × Int × Int × Int × (Arr 4 (UInt64)))) × Int) (text2 : List UInt8) (fromv3 : Int) (fuel4 : Int) (r : ((Arr 10 (Int × Int))) × Bool × Int × Int) (h : palinoderef12_First_R re1 text2 fromv3 fuel4 r) : Con Try.prog 10 [.agg [.sl 10 none (List.map E_palinode_api_Node re1.1), .v (.int .i64 re1.2)], .sl 1 none (List.map eb text2), .v (.int .i64 fromv3), .v (.int .i64 fuel4)] [] [] (fun rr bx tk => rr = .tup [.agg ((List.map E_palinode_api_Span r.1.l).flatten), .v (.bool r.2.1), .v (.int .i64 r.2.2.1), .v (.int .i64 r.2.2.2)] ∧ bx = [] ∧ tk = []) := by
 refine xenter Try.func10 rfl rfl fun g hg => ?_
 simp only [Try.ntmps10, slots]
 refine sr_ ?_
 refine xbox rfl rfl rfl rfl fun b4 => ?_
 refine xalloc InfC.h rfl rfl fun b8 => ?_
 refine xreb 0 ((List.map E_palinode_api_Span ((Arr.rep 10 (0, 0))).l).flatten) rfl rfl ?_
 refine as_ ?_
 refine as_ ?_
 refine as_ ?_
 refine nt_ ?_
 refine xseqM (fun σ => ∃ (fuel184 : Int), palinoderef12_First_j1 fuel184 r ∧ σ = ⟨[(3, .v (.int .i64 fuel184)), (8, .v (.pointer (some ⟨b8, 0, none⟩)))], [⟨b8, 31, ((List.map E_palinode_api_Span ((Arr.rep 10 (0, 0))).l).flatten)⟩], []⟩) ?_ ?_
 ·refine xseq ?_
  refine xregion ?_
  refine mv_ ?_
  refine as_ ?_
  refine nt_ ?_
  refine xblock ?_
  obtain ⟨Inv, ⟨m0, hI⟩, hS⟩ := h
  refine xloop (fun σ m => ∃ (fuel244 : Int), ∃ (atv245 : Int), Inv (fuel244, atv245) m ∧ σ = ⟨[(1, .sl 1 none (List.map eb text2)), (3, .v (.int .i64 fuel244)), (4, .v (.pointer (some ⟨b4, 0, none⟩))), (8, .v (.pointer (some ⟨b8, 0, none⟩))), (12, .v (.int .i64 atv245))], [⟨b8, 31, ((List.map E_palinode_api_Span ((Arr.rep 10 (0, 0))).l).flatten)⟩, ⟨b4, 24, [.sl 10 none (List.map E_palinode_api_Node re1.1), .v (.int .i64 re1.2)]⟩], []⟩) ⟨fuel4, fromv3, hI, rfl⟩ ⟨lk_, (SubM.of (.keep rfl rfl (.refl _) (.keep rfl rfl (.refl _) (.nil _))) (.nil _))⟩ ?_
  rintro _ m ⟨fuel244, atv245, hI, rfl⟩
  obtain ⟨ag2, hag2, h⟩ : ∃ ag, (∀ s', ag s' → ∃ m', m' < m ∧ Inv s' m') ∧ palinoderef12_First_l2 text2 re1 ag fuel244 atv245 r := ⟨_, fun _ h => h, hS (fuel244, atv245) _ hI⟩
  clear hS hI
  refine xseq ?_
  refine sr_ ?_
  refine mv_ ?_
  refine mv_ ?_
  refine vp_ (pv_lenM UndC.h rfl) ?_
  refine vp_ (pv_bin2 rfl rfl rfl) ?_
  refine nt_ ?_
  by_cases hp310 : atv245 ≤ (text2.length : Int)
  ·replace h := h.1 hp310
   refine xcondT' (decide_eq_true hp310) rfl ?_
   refine xskipc ?_
   refine xthen ?_
   refine xseq ?_
   refine xblock ?_
   refine xseq ?_
   refine sr_ ?_
   refine mv_ ?_
   refine vp_ (pv_lenM UndC.h rfl) ?_
   refine mv_ ?_
   obtain ⟨h344, h⟩ := h
   refine vp_ (pv_subI h344 rfl rfl) ?_
   refine v_ (qv_loadB 1 ShpC.h rfl rfl rfl rfl) ?_
   obtain ⟨y346, h345, h⟩ := h
   refine xcall0 (palinoderef06_Least_con re1 _ h345) Try.func20 (by kernel_rfl) rfl (.cons rfl (.refl _) .nil) rfl rfl ?_
   refine vp_ (pv_bin2 rfl rfl rfl) ?_
   refine nt_ ?_
   by_cases hp348 : ((text2.length : Int) - atv245) < y346
   ·replace h := h.1 hp348
    refine xcondT' (decide_eq_true hp348) rfl ?_
    refine xexit ?_
    refine xthen_exit ?_
    refine xin_other rfl ?_
    refine xthen_exit ?_
    refine xthen_exit ?_
    refine xin_same rfl ?_
    exact xmeet ⟨fuel244, h, rfl⟩ ⟨lk_, (SubM.of (.keep rfl rfl (.refl _) (.nil _)) (.nil _))⟩
   ·replace h := h.2 hp348
    refine xcondF' (decide_eq_false hp348) rfl ?_
    refine xskipc ?_
    refine xthen ?_
    refine sr_ ?_
    refine v_ (qv_loadB 1 ShpC.h rfl rfl rfl rfl) ?_
    refine mv_ ?_
    refine mv_ ?_
    refine mv_ ?_
    obtain ⟨y350, h349, h⟩ := h
    refine xcallF (Fb := [⟨b8, 31, ((List.map E_palinode_api_Span ((Arr.rep 10 (0, 0))).l).flatten)⟩, ⟨b4, 24, [.sl 10 none (List.map E_palinode_api_Node re1.1), .v (.int .i64 re1.2)]⟩]) (Ft := []) (palinoderef11_At_con re1 text2 atv245 fuel244 _ h349) Try.func21 (by kernel_rfl) rfl (.cons rfl (.refl _) (.cons rfl (.refl _) (.cons rfl (.refl _) (.cons rfl (.refl _) .nil)))) (by exact sm_) rfl rfl ?_
    rintro _ _ _ ⟨rfl, rfl, rfl⟩
    simp only [List.nil_append, List.cons_append]
    refine mv_ ?_
    refine vp_ (pv_extract rfl rfl) ?_
    refine vp_ (pv_extract rfl rfl) ?_
    refine vp_ (pv_extract rfl rfl) ?_
    refine vp_ (pv_extract rfl rfl) ?_
    refine xalloc InfC.h rfl rfl fun b13 => ?_
    refine xreb 0 ((List.map E_palinode_api_Span ((Arr.rep 10 (0, 0))).l).flatten) rfl rfl ?_
    refine xstoreQ 0 [] ((List.map E_palinode_api_Span ((Arr.rep 10 (0, 0))).l).flatten) [] ((List.map E_palinode_api_Span y350.1.l).flatten) ShpC.h rfl rfl rfl rfl rfl ?_
    refine as_ ?_
    refine as_ ?_
    refine as_ ?_
    refine nt_ ?_
    refine xseq ?_
    refine xseqM (fun σ => ∃ (x359 : Bool), palinoderef12_First_j3 y350 atv245 ag2 x359 r ∧ σ = ⟨[(1, .sl 1 none (List.map eb text2)), (4, .v (.pointer (some ⟨b4, 0, none⟩))), (8, .v (.pointer (some ⟨b8, 0, none⟩))), (12, .v (.int .i64 atv245)), (13, .v (.pointer (some ⟨b13, 0, none⟩))), (14, .v (.bool y350.2.1)), (15, .v (.int .i64 y350.2.2.1)), (16, .v (.int .i64 y350.2.2.2)), (45, .v (.bool x359))], [⟨b13, 31, ((List.map E_palinode_api_Span y350.1.l).flatten)⟩, ⟨b8, 31, ((List.map E_palinode_api_Span ((Arr.rep 10 (0, 0))).l).flatten)⟩, ⟨b4, 24, [.sl 10 none (List.map E_palinode_api_Node re1.1), .v (.int .i64 re1.2)]⟩], []⟩) ?_ ?_
    ·refine xregion ?_
     refine mv_ ?_
     refine vp_ (pv_bin2 rfl rfl rfl) ?_
     refine mv_ ?_
     by_cases hp361 : ¬ (y350.2.2.2 = 0)
     ·rw [or_tt (show (!(decide (y350.2.2.2 = 0))) = true from (not_t (decide_eq_false hp361)))] at h
      refine xsetB 43 (not_t (decide_eq_false hp361)) rfl ?_
      refine sk_ ?_
      refine pk_ ?_
      refine xnil ?_
      exact xmeet ⟨true, h, rfl⟩ ⟨lk_, (SubM.of (.keep rfl rfl (.refl _) (.keep rfl rfl (.refl _) (.keep rfl rfl (.refl _) (.nil _)))) (.nil _))⟩
     ·rw [or_ff (show (!(decide (y350.2.2.2 = 0))) = false from (not_f (decide_eq_true (Decidable.of_not_not hp361))))] at h
      refine xsetB 43 (not_f (decide_eq_true (Decidable.of_not_not hp361))) rfl ?_
      refine mv_ ?_
      refine pk_ ?_
      refine xnil ?_
      exact xmeet ⟨y350.2.1, h, rfl⟩ ⟨lk_, (SubM.of (.keep rfl rfl (.refl _) (.keep rfl rfl (.refl _) (.keep rfl rfl (.refl _) (.nil _)))) (.nil _))⟩
    ·clear h
     rintro _ ⟨x359, h, rfl⟩
     by_cases hp362 : x359 = true
     ·replace h := h.1 hp362
      refine xcondT' hp362 rfl ?_
      refine sr_ ?_
      refine v_ (qv_loadP 0 [] ((List.map E_palinode_api_Span y350.1.l).flatten) [] sq_ sl_ sl_ (part_all (seg_lenE (by rfl))) ShpC.h rfl rfl) ?_
      refine mv_ ?_
      refine mv_ ?_
      refine mv_ ?_
      refine xstoreQ 1 [] ((List.map E_palinode_api_Span ((Arr.rep 10 (0, 0))).l).flatten) [] ((List.map E_palinode_api_Span y350.1.l).flatten) ShpC.h rfl rfl rfl rfl rfl ?_
      refine as_ ?_
      refine as_ ?_
      refine as_ ?_
      refine nt_ ?_
      refine xretc ?_
      refine xthen_ret ?_
      refine xin_ret ?_
      refine xthen_ret ?_
      refine xthen_ret ?_
      refine xin_ret ?_
      refine xthen_ret ?_
      replace h := h.symm
      subst h
      exact xretL (rs := [.cell 8 31, .tmp 9, .tmp 10, .tmp 11]) (ss := [.agg ((List.map E_palinode_api_Span y350.1.l).flatten), .v (.bool y350.2.1), .v (.int .i64 y350.2.2.1), .v (.int .i64 y350.2.2.2)]) hg rfl (by refine RetL.cell 1 ShpC.h rfl rfl (part_midE (pre := []) (mid := ((List.map E_palinode_api_Span y350.1.l).flatten)) (post := []) sq_ sl_ sl_ (part_all (seg_lenE (by rfl)))) (len_midE (pre := []) (mid := ((List.map E_palinode_api_Span y350.1.l).flatten)) (post := []) sq_ sl_ sl_) wk_ ?_; refine RetL.tmp rfl (.refl _) ?_; refine RetL.tmp rfl (.refl _) ?_; refine RetL.tmp rfl (.refl _) ?_; exact RetL.nil) (SubM.of (.nil _) (.nil _)) ⟨rfl, rfl, rfl⟩
     ·replace h := h.2 hp362
      refine xcondF' (b_f hp362) rfl ?_
      refine xskipc ?_
      refine xthen ?_
      refine xregion ?_
      refine mv_ ?_
      refine as_ ?_
      refine xnil ?_
      refine xin_normal ?_
      refine xthen ?_
      refine xregion ?_
      refine mv_ ?_
      obtain ⟨h363, h⟩ := h
      refine vp_ (pv_addI h363 rfl rfl) ?_
      refine as_ ?_
      refine xnil ?_
      obtain ⟨m', hm, hI⟩ := hag2 _ h
      exact xagain ⟨y350.2.2.1, (atv245 + 1), hI, rfl⟩ hm ⟨lk_, (SubM.of (.drop (.keep rfl rfl (.refl _) (.keep rfl rfl (.refl _) (.nil _)))) (.nil _))⟩
  ·replace h := h.2 hp310
   refine xcondF' (decide_eq_false hp310) rfl ?_
   refine xexit ?_
   refine xthen_exit ?_
   refine xthen_exit ?_
   refine xin_same rfl ?_
   exact xmeet ⟨fuel244, h, rfl⟩ ⟨lk_, (SubM.of (.keep rfl rfl (.refl _) (.nil _)) (.nil _))⟩
 ·clear h
  rintro _ ⟨fuel184, h, rfl⟩
  refine sr_ ?_
  refine vp_ (pv_buildC (cs := ((List.map E_palinode_api_Span ((Arr.rep 10 (0, 0))).l).flatten)) StrC.h rfl (by exact congrArg some sq_)) ?_
  refine mv_ ?_
  refine xstoreQ 0 [] ((List.map E_palinode_api_Span ((Arr.rep 10 (0, 0))).l).flatten) [] ((List.map E_palinode_api_Span ((Arr.rep 10 (0, 0))).l).flatten) ShpC.h rfl rfl rfl rfl rfl ?_
  refine as_ ?_
  refine as_ ?_
  refine as_ ?_
  refine nt_ ?_
  refine xretc ?_
  replace h := h.symm
  subst h
  exact xretL (rs := [.cell 8 31, .tmp 9, .tmp 10, .tmp 11]) (ss := [.agg ((List.map E_palinode_api_Span ((Arr.rep 10 (0, 0))).l).flatten), .v (.bool false), .v (.int .i64 fuel184), .v (.int .i64 0)]) hg rfl (by refine RetL.cell 0 ShpC.h rfl rfl (part_midE (pre := []) (mid := ((List.map E_palinode_api_Span ((Arr.rep 10 (0, 0))).l).flatten)) (post := []) sq_ sl_ sl_ (part_all (seg_lenE (by rfl)))) (len_midE (pre := []) (mid := ((List.map E_palinode_api_Span ((Arr.rep 10 (0, 0))).l).flatten)) (post := []) sq_ sl_ sl_) wk_ ?_; refine RetL.tmp rfl (.refl _) ?_; refine RetL.tmp rfl (.refl _) ?_; refine RetL.tmp rfl (.refl _) ?_; exact RetL.nil) (SubM.of (.nil _) (.nil _)) ⟨rfl, rfl, rfl⟩
/-- palinoderef12.All -/
def palinoderef12_All_j1 (x161 : Int) (x162 : List ((Arr 10 (Int × Int)))) (r : (List ((Arr 10 (Int × Int)))) × Int × Int) : Prop :=
 r = (x162, x161, 0)
def palinoderef12_All_j4 (x216 : List ((Arr 10 (Int × Int)))) (y277 : ((Arr 10 (Int × Int))) × Bool × Int × Int) (ag2 : (Int × (List ((Arr 10 (Int × Int)))) × Int) → Prop) (x289 : Int) (x305 : Bool) (r : (List ((Arr 10 (Int × Int)))) × Int × Int) : Prop :=
 ((x305 = true → Room (x216.length + ([y277.1]).length) 160 ∧ ag2 (y277.2.2.1, (x216 ++ [y277.1]), x289)) ∧ (¬ (x305 = true) → ag2 (y277.2.2.1, x216, x289)))
def palinoderef12_All_j3 (y285 : Int × Int) (x216 : List ((Arr 10 (Int × Int)))) (y277 : ((Arr 10 (Int × Int))) × Bool × Int × Int) (ag2 : (Int × (List ((Arr 10 (Int × Int)))) × Int) → Prop) (x289 : Int) (r : (List ((Arr 10 (Int × Int)))) × Int × Int) : Prop :=
 ((y285.1 < y285.2 → palinoderef12_All_j4 x216 y277 ag2 x289 true r) ∧ (¬ (y285.1 < y285.2) → (((x216.length : Int) = 0 → palinoderef12_All_j4 x216 y277 ag2 x289 true r) ∧ (¬ ((x216.length : Int) = 0) → InR ((x216.length : Int) - 1) ∧ 0 ≤ (((x216.length : Int) - 1) : Int) ∧ ∃ y313 : (Arr 10 (Int × Int)), x216[(((x216.length : Int) - 1) : Int).toNat]? = some y313 ∧ (0 ≤ (0 : Int) ∧ (0 : Int) < 10) ∧ ∃ y316 : Int × Int, y313.l[(0 : Int).toNat]? = some y316 ∧ palinoderef12_All_j4 x216 y277 ag2 x289 (!(decide (y316.2 = y285.1))) r))))
def palinoderef12_All_l2 (x2 : List UInt8) (x1 : (List (Int × Int × Int × Int × Int × Int × (Arr 4 (UInt64)))) × Int) (ag2 : (Int × (List ((Arr 10 (Int × Int)))) × Int) → Prop) (x215 : Int) (x216 : List ((Arr 10 (Int × Int)))) (x218 : Int) (r : (List ((Arr 10 (Int × Int)))) × Int × Int) : Prop :=
 ((x218 ≤ (x2.length : Int) → ∃ y277 : ((Arr 10 (Int × Int))) × Bool × Int × Int, palinoderef12_First_R x1 x2 x218 x215 y277 ∧ ((¬ (y277.2.2.2 = 0) → r = (([] : List ((Arr 10 (Int × Int)))), 0, y277.2.2.2)) ∧ (¬ (¬ (y277.2.2.2 = 0)) → ((¬ (y277.2.1 = true) → palinoderef12_All_j1 y277.2.2.1 x216 r) ∧ (¬ (¬ (y277.2.1 = true)) → (0 ≤ (0 : Int) ∧ (0 : Int) < 10) ∧ ∃ y285 : Int × Int, y277.1.l[(0 : Int).toNat]? = some y285 ∧ ((y285.1 = y285.2 → InR (y285.2 + 1) ∧ palinoderef12_All_j3 y285 x216 y277 ag2 (y285.2 + 1) r) ∧ (¬ (y285.1 = y285.2) → palinoderef12_All_j3 y285 x216 y277 ag2 y285.2 r))))))) ∧ (¬ (x218 ≤ (x2.length : Int)) → palinoderef12_All_j1 x215 x216 r))
def palinoderef12_All_R (x1 : (List (Int × Int × Int × Int × Int × Int × (Arr 4 (UInt64)))) × Int) (x2 : List UInt8) (x3 : Int) (r : (List ((Arr 10 (Int × Int)))) × Int × Int) : Prop :=
 LoopR (fun ag2 s => palinoderef12_All_l2 x2 x1 ag2 s.1 s.2.1 s.2.2 r) (x3, ([] : List ((Arr 10 (Int × Int)))), 0)
set_option maxRecDepth 100000 in
set_option maxHeartbeats 4000000 in
theorem palinoderef12_All_con (x1 : (List (Int × Int × Int × Int × Int × Int × (Arr 4 (UInt64)))) × Int) (x2 : List UInt8) (x3 : Int) (r : (List ((Arr 10 (Int × Int)))) × Int × Int) (h : palinoderef12_All_R x1 x2 x3 r) : Con Try.prog 12 [.agg [.sl 10 none (List.map E_palinode_api_Node x1.1), .v (.int .i64 x1.2)], .sl 1 none (List.map eb x2), .v (.int .i64 x3)] [] [] (fun rr bx tk => ∃ j1, rr = .tup [.sl 20 (some j1) (List.map E_palinode_api_Hit r.1), .v (.int .i64 r.2.1), .v (.int .i64 r.2.2)] ∧ bx = [] ∧ tk = [⟨j1, 31, 20, r.1.length⟩]) := by
 refine xenter Try.func12 rfl rfl fun g hg => ?_
 simp only [Try.ntmps12, slots]
 refine sr_ ?_
 refine xbox rfl rfl rfl rfl fun b3 => ?_
 refine as_ ?_
 refine as_ ?_
 refine as_ ?_
 refine nt_ ?_
 refine sr_ ?_
 refine as_ ?_
 refine nt_ ?_
 refine sr_ ?_
 refine as_ ?_
 refine nt_ ?_
 refine xseqM (fun σ => ∃ (x161 : Int), ∃ (x162 : List ((Arr 10 (Int × Int)))), ∃ (i163 : Option (Nat × Nat)), palinoderef12_All_j1 x161 x162 r ∧ σ = ⟨[(2, .v (.int .i64 x161)), (9, .sl 20 (some i163) (List.map E_palinode_api_Hit x162))], [], [⟨i163, 31, 20, x162.length⟩]⟩) ?_ ?_
 ·refine xblock ?_
  obtain ⟨Inv, ⟨m0, hI⟩, hS⟩ := h
  refine xloop (fun σ m => ∃ (x215 : Int), ∃ (x216 : List ((Arr 10 (Int × Int)))), ∃ (x218 : Int), ∃ (i217 : Option (Nat × Nat)), Inv (x215, x216, x218) m ∧ σ = ⟨[(1, .sl 1 none (List.map eb x2)), (2, .v (.int .i64 x215)), (3, .v (.pointer (some ⟨b3, 0, none⟩))), (9, .sl 20 (some i217) (List.map E_palinode_api_Hit x216)), (10, .v (.int .i64 x218))], [⟨b3, 24, [.sl 10 none (List.map E_palinode_api_Node x1.1), .v (.int .i64 x1.2)]⟩], [⟨i217, 31, 20, x216.length⟩]⟩) ⟨x3, ([] : List ((Arr 10 (Int × Int)))), 0, none, hI, rfl⟩ ⟨(.cons rfl (.refl _) (.cons rfl (.refl _) (.cons rfl (.refl _) (.cons rfl (.nil_own _) (.cons rfl (.refl _) (.nil _)))))), (SubM.of (.keep rfl rfl (.refl _) (.nil _)) (.add (.nil _)))⟩ ?_
  rintro _ m ⟨x215, x216, x218, i217, hI, rfl⟩
  obtain ⟨ag2, hag2, h⟩ : ∃ ag, (∀ s', ag s' → ∃ m', m' < m ∧ Inv s' m') ∧ palinoderef12_All_l2 x2 x1 ag x215 x216 x218 r := ⟨_, fun _ h => h, hS (x215, x216, x218) _ hI⟩
  clear hS hI
  refine xseq ?_
  refine sr_ ?_
  refine mv_ ?_
  refine mv_ ?_
  refine vp_ (pv_lenM UndC.h rfl) ?_
  refine vp_ (pv_bin2 rfl rfl rfl) ?_
  refine nt_ ?_
  by_cases hp275 : x218 ≤ (x2.length : Int)
  ·replace h := h.1 hp275
   refine xcondT' (decide_eq_true hp275) rfl ?_
   refine xskipc ?_
   refine xthen ?_
   refine xblock ?_
   refine sr_ ?_
   refine v_ (qv_loadB 0 ShpC.h rfl rfl rfl rfl) ?_
   refine mv_ ?_
   refine mv_ ?_
   refine mv_ ?_
   obtain ⟨y277, h276, h⟩ := h
   refine xcallF (Fb := [⟨b3, 24, [.sl 10 none (List.map E_palinode_api_Node x1.1), .v (.int .i64 x1.2)]⟩]) (Ft := [⟨i217, 31, 20, x216.length⟩]) (palinoderef12_First_con x1 x2 x218 x215 _ h276) Try.func10 (by kernel_rfl) rfl (.cons rfl (.refl _) (.cons rfl (.refl _) (.cons rfl (.refl _) (.cons rfl (.refl _) .nil)))) (by exact sm_) rfl rfl ?_
   rintro _ _ _ ⟨rfl, rfl, rfl⟩
   simp only [List.nil_append, List.cons_append]
   refine mv_ ?_
   refine vp_ (pv_extract rfl rfl) ?_
   refine vp_ (pv_extract rfl rfl) ?_
   refine vp_ (pv_extract rfl rfl) ?_
   refine vp_ (pv_extract rfl rfl) ?_
   refine xalloc InfC.h rfl rfl fun b11 => ?_
   refine xreb 0 ((List.map E_palinode_api_Span ((Arr.rep 10 (0, 0))).l).flatten) rfl rfl ?_
   refine xstoreQ 0 [] ((List.map E_palinode_api_Span ((Arr.rep 10 (0, 0))).l).flatten) [] ((List.map E_palinode_api_Span y277.1.l).flatten) ShpC.h rfl rfl rfl rfl rfl ?_
   refine as_ ?_
   refine as_ ?_
   refine as_ ?_
   refine nt_ ?_
   refine xseq ?_
   refine sr_ ?_
   refine mv_ ?_
   refine vp_ (pv_bin2 rfl rfl rfl) ?_
   refine nt_ ?_
   by_cases hp281 : ¬ (y277.2.2.2 = 0)
   ·replace h := h.1 hp281
    refine xcondT' (not_t (decide_eq_false hp281)) rfl ?_
    refine sr_ ?_
    refine mv_ ?_
    refine as_ ?_
    refine as_ ?_
    refine as_ ?_
    refine nt_ ?_
    refine xretc ?_
    refine xthen_ret ?_
    refine xin_ret ?_
    refine xthen_ret ?_
    refine xin_ret ?_
    refine xthen_ret ?_
    replace h := h.symm
    subst h
    exact xret3 hg rfl rfl (.nil_own _) rfl (.refl _) rfl (.refl _) sm_ ⟨none, rfl, rfl, rfl⟩
   ·replace h := h.2 hp281
    refine xcondF' (not_f (decide_eq_true (Decidable.of_not_not hp281))) rfl ?_
    refine xskipc ?_
    refine xthen ?_
    refine sr_ ?_
    refine mv_ ?_
    refine as_ ?_
    refine nt_ ?_
    refine xseq ?_
    refine sr_ ?_
    refine mv_ ?_
    refine vp_ (pv_not rfl) ?_
    refine nt_ ?_
    by_cases hp283 : ¬ (y277.2.1 = true)
    ·replace h := h.1 hp283
     refine xcondT' (not_t (b_f hp283)) rfl ?_
     refine xexit ?_
     refine xthen_exit ?_
     refine xin_other rfl ?_
     refine xthen_exit ?_
     refine xin_same rfl ?_
     exact xmeet ⟨y277.2.2.1, x216, i217, h, rfl⟩ ⟨lk_, (SubM.of (.nil _) (.keep rfl (.nil _)))⟩
    ·replace h := h.2 hp283
     refine xcondF' (not_f (Decidable.of_not_not hp283)) rfl ?_
     refine xskipc ?_
     refine xthen ?_
     refine sr_ ?_
     refine vp_ (qv_fieldAddrB FldC.h rfl) ?_
     obtain ⟨h284, h⟩ := h
     obtain ⟨y285, h284b, h⟩ := h
     refine vp_ (pv_indexAddrBA h284 UndC.h ShpC.h rfl rfl) ?_
     refine v_ (qv_loadA (f := E_palinode_api_Span) (a := y277.1) (k := 2) (off := 0) (i := (0 : Int).toNat) 0 [] [] h284b sq_ so_ (by decide) (by first | rfl | exact part_all sl_) ShpC.h rfl rfl) ?_
     refine xalloc InfC.h rfl rfl fun b15 => ?_
     refine xstore 0 ShpC.h rfl rfl rfl rfl rfl rfl rfl ?_
     refine nt_ ?_
     refine sr_ ?_
     refine vp_ (qv_fieldAddrB FldC.h rfl) ?_
     refine v_ (qv_loadB 0 ShpC.h rfl rfl rfl rfl) ?_
     refine as_ ?_
     refine nt_ ?_
     refine xseqM (fun σ => ∃ (x289 : Int), palinoderef12_All_j3 y285 x216 y277 ag2 x289 r ∧ σ = ⟨[(1, .sl 1 none (List.map eb x2)), (2, .v (.int .i64 y277.2.2.1)), (3, .v (.pointer (some ⟨b3, 0, none⟩))), (9, .sl 20 (some i217) (List.map E_palinode_api_Hit x216)), (10, .v (.int .i64 x289)), (11, .v (.pointer (some ⟨b11, 0, none⟩))), (15, .v (.pointer (some ⟨b15, 0, none⟩)))], [⟨b15, 28, [.v (.int .i64 y285.1), .v (.int .i64 y285.2)]⟩, ⟨b11, 31, ((List.map E_palinode_api_Span y277.1.l).flatten)⟩, ⟨b3, 24, [.sl 10 none (List.map E_palinode_api_Node x1.1), .v (.int .i64 x1.2)]⟩], [⟨i217, 31, 20, x216.length⟩]⟩) ?_ ?_
     ·refine xseq ?_
      refine xregion ?_
      refine vp_ (qv_fieldAddrB FldC.h rfl) ?_
      refine v_ (qv_loadB 0 ShpC.h rfl rfl rfl rfl) ?_
      refine vp_ (qv_fieldAddrB FldC.h rfl) ?_
      refine v_ (qv_loadB 0 ShpC.h rfl rfl rfl rfl) ?_
      refine vp_ (pv_bin2 rfl rfl rfl) ?_
      refine nt_ ?_
      by_cases hp291 : y285.1 = y285.2
      ·replace h := h.1 hp291
       refine xcondT' (decide_eq_true hp291) rfl ?_
       refine xregion ?_
       refine vp_ (qv_fieldAddrB FldC.h rfl) ?_
       refine v_ (qv_loadB 0 ShpC.h rfl rfl rfl rfl) ?_
       obtain ⟨h292, h⟩ := h
       refine vp_ (pv_addI h292 rfl rfl) ?_
       refine as_ ?_
       refine xnil ?_
       exact xmeet ⟨(y285.2 + 1), h, rfl⟩ ⟨lk_, (SubM.of (.keep rfl rfl (.refl _) (.keep rfl rfl (.refl _) (.keep rfl rfl (.refl _) (.nil _)))) (.keep rfl (.nil _)))⟩
      ·replace h := h.2 hp291
       refine xcondF' (decide_eq_false hp291) rfl ?_
       refine xskipc ?_
       exact xmeet ⟨y285.2, h, rfl⟩ ⟨lk_, (SubM.of (.keep rfl rfl (.refl _) (.keep rfl rfl (.refl _) (.keep rfl rfl (.refl _) (.nil _)))) (.keep rfl (.nil _)))⟩
     ·clear h
      rintro _ ⟨x289, h, rfl⟩
      refine xseqM (fun σ => ∃ (x305 : Bool), palinoderef12_All_j4 x216 y277 ag2 x289 x305 r ∧ σ = ⟨[(1, .sl 1 none (List.map eb x2)), (2, .v (.int .i64 y277.2.2.1)), (3, .v (.pointer (some ⟨b3, 0, none⟩))), (9, .sl 20 (some i217) (List.map E_palinode_api_Hit x216)), (10, .v (.int .i64 x289)), (11, .v (.pointer (some ⟨b11, 0, none⟩))), (72, .v (.bool x305))], [⟨b11, 31, ((List.map E_palinode_api_Span y277.1.l).flatten)⟩, ⟨b3, 24, [.sl 10 none (List.map E_palinode_api_Node x1.1), .v (.int .i64 x1.2)]⟩], [⟨i217, 31, 20, x216.length⟩]⟩) ?_ ?_
      ·refine xregionD (m := 24) (by kernel_rfl) rfl ?_
       refine pl_ 0 rfl (qv_fieldAddrB FldC.h rfl) ?_
       refine pl_ 2 rfl (qv_fieldAddrB FldC.h rfl) ?_
       refine xpvalE 1 [3] rfl (qv_loadB 0 ShpC.h rfl rfl rfl rfl) rfl rfl (by kernel_rfl) (by kernel_rfl) (by kernel_rfl) (fun _ _ _ _ h => h) ?_
       refine xpvalE 3 [] rfl (qv_loadB 0 ShpC.h rfl rfl rfl rfl) rfl rfl (by kernel_rfl) (by kernel_rfl) (by kernel_rfl) (fun _ _ _ _ h => h) ?_
       refine pl_ 4 rfl (pv_bin2 rfl rfl rfl) ?_
       refine pl_ 5 rfl (pv_move rfl) ?_
       by_cases hp307 : y285.1 < y285.2
       ·replace h := h.1 hp307
        refine psetB 54 (decide_eq_true hp307) rfl ?_
        refine xpskip 6 rfl rfl rfl (by kernel_rfl) (by kernel_rfl) (by kernel_rfl) (fun _ _ _ _ h => h) ?_
        refine xpskip 7 rfl rfl rfl (by kernel_rfl) (by kernel_rfl) (by kernel_rfl) (fun _ _ _ _ h => h) ?_
        refine xpskip 8 rfl rfl rfl (by kernel_rfl) (by kernel_rfl) (by kernel_rfl) (fun _ _ _ _ h => h) ?_
        refine pl_ 9 rfl (pv_pick rfl rfl) ?_
        refine pl_ 10 rfl (pv_move rfl) ?_
        refine xpskip 11 rfl rfl rfl (by kernel_rfl) (by kernel_rfl) (by kernel_rfl) (fun _ _ _ _ h => h) ?_
        refine xpskip 12 rfl rfl rfl (by kernel_rfl) (by kernel_rfl) (by kernel_rfl) (fun _ _ _ _ h => h) ?_
        refine xpskip 13 rfl rfl rfl (by kernel_rfl) (by kernel_rfl) (by kernel_rfl) (fun _ _ _ _ h => h) ?_
        refine xpskip 14 rfl rfl rfl (by kernel_rfl) (by kernel_rfl) (by kernel_rfl) (fun _ _ _ _ h => h) ?_
        refine xpskip 15 rfl rfl rfl (by kernel_rfl) (by kernel_rfl) (by kernel_rfl) (fun _ _ _ _ h => h) ?_
        refine xpskip 16 rfl rfl rfl (by kernel_rfl) (by kernel_rfl) (by kernel_rfl) (fun _ _ _ _ h => h) ?_
        refine xpskip 17 rfl rfl rfl (by kernel_rfl) (by kernel_rfl) (by kernel_rfl) (fun _ _ _ _ h => h) ?_
        refine xpskip 18 rfl rfl rfl (by kernel_rfl) (by kernel_rfl) (by kernel_rfl) (fun _ _ _ _ h => h) ?_
        refine xpskip 19 rfl rfl rfl (by kernel_rfl) (by kernel_rfl) (by kernel_rfl) (fun _ _ _ _ h => h) ?_
        refine xpskip 20 rfl rfl rfl (by kernel_rfl) (by kernel_rfl) (by kernel_rfl) (fun _ _ _ _ h => h) ?_
        refine xpskip 21 rfl rfl rfl (by kernel_rfl) (by kernel_rfl) (by kernel_rfl) (fun _ _ _ _ h => h) ?_
        refine xpskip 22 rfl rfl rfl (by kernel_rfl) (by kernel_rfl) (by kernel_rfl) (fun _ _ _ _ h => h) ?_
        refine pl_ 23 rfl (pv_pick rfl rfl) ?_
        refine xpdone (by kernel_rfl) ?_
        exact xmeet ⟨true, h, rfl⟩ ⟨lk_, (SubM.of (.drop (.keep rfl rfl (.refl _) (.keep rfl rfl (.refl _) (.nil _)))) (.keep rfl (.nil _)))⟩
       ·replace h := h.2 hp307
        refine psetB 54 (decide_eq_false hp307) rfl ?_
        refine pl_ 6 rfl (pv_move rfl) ?_
        refine pl_ 7 rfl (pv_lenM UndC.h rfl) ?_
        refine pl_ 8 rfl (pv_bin2 rfl rfl rfl) ?_
        refine pl_ 9 rfl (pv_pick rfl rfl) ?_
        refine pl_ 10 rfl (pv_move rfl) ?_
        by_cases hp310 : (x216.length : Int) = 0
        ·replace h := h.1 hp310
         refine psetB 59 (decide_eq_true hp310) rfl ?_
         refine xpskip 11 rfl rfl rfl (by kernel_rfl) (by kernel_rfl) (by kernel_rfl) (fun _ _ _ _ h => h) ?_
         refine xpskip 12 rfl rfl rfl (by kernel_rfl) (by kernel_rfl) (by kernel_rfl) (fun _ _ _ _ h => h) ?_
         refine xpskip 13 rfl rfl rfl (by kernel_rfl) (by kernel_rfl) (by kernel_rfl) (fun _ _ _ _ h => h) ?_
         refine xpskip 14 rfl rfl rfl (by kernel_rfl) (by kernel_rfl) (by kernel_rfl) (fun _ _ _ _ h => h) ?_
         refine xpskip 15 rfl rfl rfl (by kernel_rfl) (by kernel_rfl) (by kernel_rfl) (fun _ _ _ _ h => h) ?_
         refine xpskip 16 rfl rfl rfl (by kernel_rfl) (by kernel_rfl) (by kernel_rfl) (fun _ _ _ _ h => h) ?_
         refine xpskip 17 rfl rfl rfl (by kernel_rfl) (by kernel_rfl) (by kernel_rfl) (fun _ _ _ _ h => h) ?_
         refine xpskip 18 rfl rfl rfl (by kernel_rfl) (by kernel_rfl) (by kernel_rfl) (fun _ _ _ _ h => h) ?_
         refine xpskip 19 rfl rfl rfl (by kernel_rfl) (by kernel_rfl) (by kernel_rfl) (fun _ _ _ _ h => h) ?_
         refine xpskip 20 rfl rfl rfl (by kernel_rfl) (by kernel_rfl) (by kernel_rfl) (fun _ _ _ _ h => h) ?_
         refine xpskip 21 rfl rfl rfl (by kernel_rfl) (by kernel_rfl) (by kernel_rfl) (fun _ _ _ _ h => h) ?_
         refine xpskip 22 rfl rfl rfl (by kernel_rfl) (by kernel_rfl) (by kernel_rfl) (fun _ _ _ _ h => h) ?_
         refine pl_ 23 rfl (pv_pick rfl rfl) ?_
         refine xpdone (by kernel_rfl) ?_
         exact xmeet ⟨true, h, rfl⟩ ⟨lk_, (SubM.of (.drop (.keep rfl rfl (.refl _) (.keep rfl rfl (.refl _) (.nil _)))) (.keep rfl (.nil _)))⟩
        ·replace h := h.2 hp310
         refine psetB 59 (decide_eq_false hp310) rfl ?_
         obtain ⟨h312, h⟩ := h
         obtain ⟨h314a, h⟩ := h
         obtain ⟨y313, h314b, h⟩ := h
         obtain ⟨h315, h⟩ := h
         obtain ⟨y316, h315b, h⟩ := h
         refine pl_ 11 rfl (pv_move rfl) ?_
         refine pl_ 12 rfl (pv_move rfl) ?_
         refine pl_ 13 rfl (pv_lenM UndC.h rfl) ?_
         refine pl_ 14 rfl (pv_subI h312 rfl rfl) ?_
         refine pl_ 15 rfl (pv_indexAddrM h314a h314b UndC.h ShpC.h rfl rfl) ?_
         refine pl_ 16 rfl (qv_fieldAddrE FldC.h rfl) ?_
         refine pl_ 17 rfl (pv_indexAddrEA (f := E_palinode_api_Span) (a := y313) [] h315 h315b sq_ UndC.h ShpC.h rfl rfl) ?_
         refine pl_ 18 rfl (qv_fieldAddrE FldC.h rfl) ?_
         refine pl_ 20 rfl (qv_fieldAddrB FldC.h rfl) ?_
         refine xpvalE 19 [21] rfl (qv_load ShpC.h rfl rfl rfl) rfl rfl (by kernel_rfl) (by kernel_rfl) (by kernel_rfl) (fun _ _ _ _ h => h) ?_
         refine xpvalE 21 [] rfl (qv_loadB 0 ShpC.h rfl rfl rfl rfl) rfl rfl (by kernel_rfl) (by kernel_rfl) (by kernel_rfl) (fun _ _ _ _ h => h) ?_
         refine pl_ 22 rfl (pv_bin2 rfl rfl rfl) ?_
         refine pl_ 23 rfl (pv_pick rfl rfl) ?_
         refine xpdone (by kernel_rfl) ?_
         exact xmeet ⟨(!(decide (y316.2 = y285.1))), h, rfl⟩ ⟨lk_, (SubM.of (.drop (.keep rfl rfl (.refl _) (.keep rfl rfl (.refl _) (.nil _)))) (.keep rfl (.nil _)))⟩
      ·clear h
       rintro _ ⟨x305, h, rfl⟩
       by_cases hp318 : x305 = true
       ·replace h := h.1 hp318
        refine xcondT' hp318 rfl ?_
        refine xregion ?_
        refine mv_ ?_
        refine v_ (qv_loadP 0 [] ((List.map E_palinode_api_Span y277.1.l).flatten) [] sq_ sl_ sl_ (part_all (seg_lenE (by rfl))) ShpC.h rfl rfl) ?_
        refine xbuildSliceME (f := E_palinode_api_Hit) [y277.1] UndC.h InfC.h rfl (.cons rfl (beq_of (seg_lenE (by rfl))) rfl rfl .nil) wr_ rfl rfl rfl rfl fun s75 => ?_
        obtain ⟨h319, h⟩ := h
        refine xappendM (l := x216) (l2 := [y277.1]) 1 h319 UndC.h InfC.h rfl rfl rfl (.refl _) rfl rfl rfl fun i320 => ?_
        refine as_ ?_
        refine xnil ?_
        refine xin_normal ?_
        obtain ⟨m', hm, hI⟩ := hag2 _ h
        exact xagain ⟨y277.2.2.1, (x216 ++ [y277.1]), x289, i320, hI, rfl⟩ hm ⟨lk_, (SubM.of (.drop (.keep rfl rfl (.refl _) (.nil _))) (.drop (.keep rfl (.nil _))))⟩
       ·replace h := h.2 hp318
        refine xcondF' (b_f hp318) rfl ?_
        refine xskipc ?_
        refine xin_normal ?_
        obtain ⟨m', hm, hI⟩ := hag2 _ h
        exact xagain ⟨y277.2.2.1, x216, x289, i217, hI, rfl⟩ hm ⟨lk_, (SubM.of (.drop (.keep rfl rfl (.refl _) (.nil _))) (.keep rfl (.nil _)))⟩
  ·replace h := h.2 hp275
   refine xcondF' (decide_eq_false hp275) rfl ?_
   refine xexit ?_
   refine xthen_exit ?_
   refine xthen_exit ?_
   refine xin_same rfl ?_
   exact xmeet ⟨x215, x216, i217, h, rfl⟩ ⟨lk_, (SubM.of (.nil _) (.keep rfl (.nil _)))⟩
 ·clear h
  rintro _ ⟨x161, x162, i163, h, rfl⟩
  refine sr_ ?_
  refine mv_ ?_
  refine mv_ ?_
  refine as_ ?_
  refine as_ ?_
  refine as_ ?_
  refine nt_ ?_
  refine xretc ?_
  replace h := h.symm
  subst h
  exact xret3 hg rfl rfl (.refl _) rfl (.refl _) rfl (.refl _) (SubM.of (.nil _) (.keep rfl (.nil _))) ⟨i163, rfl, rfl, rfl⟩
end Go.Proofs.Ytncnfohhjbadgaa
