
/- What functions' texts ask for, and the walks that show it (printed by a program). -/
import Derived.Test.YtnjnbegjhklcgaaGKp11
namespace Go.Proofs.Ytnjnbegjhklcgaa
/-- palinoderef11.Better -/
def palinoderef11_Better_l1 (a1 : (Arr 10 (Int × Int))) (bv2 : (Arr 10 (Int × Int))) (ag1 : (Int) → Prop) (gv230 : Int) (r : Bool) : Prop :=
 ((gv230 < 10 → (0 ≤ (gv230 : Int) ∧ (gv230 : Int) < 10) ∧ ∃ y310 : Int × Int, a1.l[(gv230 : Int).toNat]? = some y310 ∧ (0 ≤ (gv230 : Int) ∧ (gv230 : Int) < 10) ∧ ∃ y312 : Int × Int, bv2.l[(gv230 : Int).toNat]? = some y312 ∧ (((y310 : Int × Int) = y312 → InR (gv230 + 1) ∧ ag1 (gv230 + 1)) ∧ (¬ ((y310 : Int × Int) = y312) → ((y310.1 < 0 → r = false) ∧ (¬ (y310.1 < 0) → ((y312.1 < 0 → r = true) ∧ (¬ (y312.1 < 0) → ((¬ (y310.1 = y312.1) → r = (decide (y310.1 < y312.1))) ∧ (¬ (¬ (y310.1 = y312.1)) → r = (decide (y312.2 < y310.2))))))))))) ∧ (¬ (gv230 < 10) → r = false))
def palinoderef11_Better_R (a1 : (Arr 10 (Int × Int))) (bv2 : (Arr 10 (Int × Int))) (r : Bool) : Prop :=
 (0 ≤ (0 : Int) ∧ (0 : Int) < 10) ∧ ∃ y15 : Int × Int, a1.l[(0 : Int).toNat]? = some y15 ∧ (0 ≤ (0 : Int) ∧ (0 : Int) < 10) ∧ ∃ y17 : Int × Int, bv2.l[(0 : Int).toNat]? = some y17 ∧ ((¬ (y15.2 = y17.2) → (0 ≤ (0 : Int) ∧ (0 : Int) < 10) ∧ ∃ y21 : Int × Int, a1.l[(0 : Int).toNat]? = some y21 ∧ (0 ≤ (0 : Int) ∧ (0 : Int) < 10) ∧ ∃ y23 : Int × Int, bv2.l[(0 : Int).toNat]? = some y23 ∧ r = (decide (y23.2 < y21.2))) ∧ (¬ (¬ (y15.2 = y17.2)) → LoopR (fun ag1 s => palinoderef11_Better_l1 a1 bv2 ag1 s r) 1))
set_option maxHeartbeats 4000000 in
theorem palinoderef11_Better_con (a1 : (Arr 10 (Int × Int))) (bv2 : (Arr 10 (Int × Int))) (r : Bool) (h : palinoderef11_Better_R a1 bv2 r) : Con Try.prog 13 [.agg ((List.map E_palinode_api_Span a1.l).flatten), .agg ((List.map E_palinode_api_Span bv2.l).flatten)] [] [] (Ret (.v (.bool r))) := by
 refine xenter Try.func13 rfl rfl fun g hg => ?_
 simp only [Try.ntmps13, slots]
 refine sr_ ?_
 refine xbox rfl rfl rfl rfl fun b2 => ?_
 refine xbox rfl rfl rfl rfl fun b3 => ?_
 refine as_ ?_
 refine nt_ ?_
 refine xseq ?_
 refine sr_ ?_
 refine vp_ (qv_fieldAddrB FldC.h rfl) ?_
 obtain ⟨h14, h⟩ := h
 obtain ⟨y15, h14b, h⟩ := h
 refine vp_ (pv_indexAddrBA h14 UndC.h ShpC.h rfl rfl) ?_
 refine vp_ (qv_fieldAddrB FldC.h rfl) ?_
 refine v_ (qv_loadA (f := E_palinode_api_Span) (a := a1) (k := 2) (off := 1) (i := (0 : Int).toNat) 1 [] [] h14b sq_ so_ (by decide) rfl ShpC.h rfl rfl) ?_
 refine vp_ (qv_fieldAddrB FldC.h rfl) ?_
 obtain ⟨h16, h⟩ := h
 obtain ⟨y17, h16b, h⟩ := h
 refine vp_ (pv_indexAddrBA h16 UndC.h ShpC.h rfl rfl) ?_
 refine vp_ (qv_fieldAddrB FldC.h rfl) ?_
 refine v_ (qv_loadA (f := E_palinode_api_Span) (a := bv2) (k := 2) (off := 1) (i := (0 : Int).toNat) 0 [] [] h16b sq_ so_ (by decide) rfl ShpC.h rfl rfl) ?_
 refine vp_ (pv_bin2 rfl rfl rfl) ?_
 refine nt_ ?_
 by_cases hp19 : ¬ (y15.2 = y17.2)
 ·replace h := h.1 hp19
  refine xcondT' (not_t (decide_eq_false hp19)) rfl ?_
  refine sr_ ?_
  refine vp_ (qv_fieldAddrB FldC.h rfl) ?_
  obtain ⟨h20, h⟩ := h
  obtain ⟨y21, h20b, h⟩ := h
  refine vp_ (pv_indexAddrBA h20 UndC.h ShpC.h rfl rfl) ?_
  refine vp_ (qv_fieldAddrB FldC.h rfl) ?_
  refine v_ (qv_loadA (f := E_palinode_api_Span) (a := a1) (k := 2) (off := 1) (i := (0 : Int).toNat) 1 [] [] h20b sq_ so_ (by decide) rfl ShpC.h rfl rfl) ?_
  refine vp_ (qv_fieldAddrB FldC.h rfl) ?_
  obtain ⟨h22, h⟩ := h
  obtain ⟨y23, h22b, h⟩ := h
  refine vp_ (pv_indexAddrBA h22 UndC.h ShpC.h rfl rfl) ?_
  refine vp_ (qv_fieldAddrB FldC.h rfl) ?_
  refine v_ (qv_loadA (f := E_palinode_api_Span) (a := bv2) (k := 2) (off := 1) (i := (0 : Int).toNat) 0 [] [] h22b sq_ so_ (by decide) rfl ShpC.h rfl rfl) ?_
  refine vp_ (pv_bin2 rfl rfl rfl) ?_
  refine as_ ?_
  refine nt_ ?_
  refine xretc ?_
  refine xthen_ret ?_
  replace h := h.symm
  subst h
  exact xret1 hg rfl rfl (.refl _) (SubM.of (.nil _) (.nil _)) ⟨rfl, rfl, rfl⟩
 ·replace h := h.2 hp19
  refine xcondF' (not_f (decide_eq_true (Decidable.of_not_not hp19))) rfl ?_
  refine xskipc ?_
  refine xthen ?_
  refine xseq ?_
  refine sr_ ?_
  refine as_ ?_
  refine nt_ ?_
  refine xblock ?_
  obtain ⟨Inv, ⟨m0, hI⟩, hS⟩ := h
  refine xloop (fun σ m => ∃ (gv230 : Int), Inv gv230 m ∧ σ = ⟨[(2, .v (.pointer (some ⟨b2, 0, none⟩))), (3, .v (.pointer (some ⟨b3, 0, none⟩))), (5, .v (.int .i64 gv230))], [⟨b3, 36, ((List.map E_palinode_api_Span bv2.l).flatten)⟩, ⟨b2, 36, ((List.map E_palinode_api_Span a1.l).flatten)⟩], []⟩) ⟨1, hI, rfl⟩ (by exact ⟨lk_, (SubM.of (.keep rfl rfl (.refl _) (.keep rfl rfl (.refl _) (.nil _))) (.nil _))⟩) ?_
  rintro _ m ⟨gv230, hI, rfl⟩
  obtain ⟨ag1, hag1, h⟩ : ∃ ag, (∀ s', ag s' → ∃ m', m' < m ∧ Inv s' m') ∧ palinoderef11_Better_l1 a1 bv2 ag gv230 r := ⟨_, fun _ h => h, hS gv230 _ hI⟩
  clear hS hI
  refine xseq ?_
  refine sr_ ?_
  refine mv_ ?_
  refine vp_ (pv_bin2 rfl rfl rfl) ?_
  refine nt_ ?_
  by_cases hp285 : gv230 < 10
  ·replace h := h.1 hp285
   refine xcondT' (decide_eq_true hp285) rfl ?_
   refine xskipc ?_
   refine xthen ?_
   refine xseq ?_
   refine xblock ?_
   refine sr_ ?_
   refine mv_ ?_
   refine vp_ (qv_fieldAddrB FldC.h rfl) ?_
   obtain ⟨h309, h⟩ := h
   obtain ⟨y310, h309b, h⟩ := h
   refine vp_ (pv_indexAddrBA h309 UndC.h ShpC.h rfl rfl) ?_
   refine v_ (qv_loadA (f := E_palinode_api_Span) (a := a1) (k := 2) (off := 0) (i := (gv230 : Int).toNat) 1 [] [] h309b sq_ so_ (by decide) (by first | rfl | exact part_all sl_) ShpC.h rfl rfl) ?_
   refine xalloc InfC.h rfl rfl fun b6 => ?_
   refine xstore 0 ShpC.h rfl rfl rfl rfl rfl rfl rfl ?_
   refine nt_ ?_
   refine sr_ ?_
   refine mv_ ?_
   refine vp_ (qv_fieldAddrB FldC.h rfl) ?_
   obtain ⟨h311, h⟩ := h
   obtain ⟨y312, h311b, h⟩ := h
   refine vp_ (pv_indexAddrBA h311 UndC.h ShpC.h rfl rfl) ?_
   refine v_ (qv_loadA (f := E_palinode_api_Span) (a := bv2) (k := 2) (off := 0) (i := (gv230 : Int).toNat) 1 [] [] h311b sq_ so_ (by decide) (by first | rfl | exact part_all sl_) ShpC.h rfl rfl) ?_
   refine xalloc InfC.h rfl rfl fun b7 => ?_
   refine xstore 0 ShpC.h rfl rfl rfl rfl rfl rfl rfl ?_
   refine nt_ ?_
   refine xseq ?_
   refine sr_ ?_
   refine v_ (qv_loadB 1 ShpC.h rfl rfl rfl rfl) ?_
   refine v_ (qv_loadB 0 ShpC.h rfl rfl rfl rfl) ?_
   refine vp_ (pv_eqAgg (f := E_palinode_api_Span) (a := y310) (b := y312) eqc_33 (by decide) (by kernel_rfl) ev_ ev_) ?_
   refine nt_ ?_
   by_cases hp316 : (y310 : Int × Int) = y312
   ·replace h := h.1 hp316
    refine xcondT' (decide_eq_true hp316) rfl ?_
    refine xexit ?_
    refine xthen_exit ?_
    refine xin_same rfl ?_
    refine xthen ?_
    refine xregion ?_
    refine mv_ ?_
    obtain ⟨h317, h⟩ := h
    refine vp_ (pv_addI h317 rfl rfl) ?_
    refine as_ ?_
    refine xnil ?_
    obtain ⟨m', hm, hI⟩ := hag1 _ h
    exact xagain ⟨(gv230 + 1), hI, rfl⟩ hm ⟨lk_, (SubM.of (.drop (.drop (.keep rfl rfl (.refl _) (.keep rfl rfl (.refl _) (.nil _))))) (.nil _))⟩
   ·replace h := h.2 hp316
    refine xcondF' (decide_eq_false hp316) rfl ?_
    refine xskipc ?_
    refine xthen ?_
    refine xseq ?_
    refine sr_ ?_
    refine vp_ (qv_fieldAddrB FldC.h rfl) ?_
    refine v_ (qv_loadB 1 ShpC.h rfl rfl rfl rfl) ?_
    refine vp_ (pv_bin2 rfl rfl rfl) ?_
    refine nt_ ?_
    by_cases hp321 : y310.1 < 0
    ·replace h := h.1 hp321
     refine xcondT' (decide_eq_true hp321) rfl ?_
     refine sr_ ?_
     refine as_ ?_
     refine nt_ ?_
     refine xretc ?_
     refine xthen_ret ?_
     refine xin_ret ?_
     refine xthen_ret ?_
     refine xthen_ret ?_
     refine xin_ret ?_
     refine xthen_ret ?_
     replace h := h.symm
     subst h
     exact xret1 hg rfl rfl (.refl _) (SubM.of (.nil _) (.nil _)) ⟨rfl, rfl, rfl⟩
    ·replace h := h.2 hp321
     refine xcondF' (decide_eq_false hp321) rfl ?_
     refine xskipc ?_
     refine xthen ?_
     refine xseq ?_
     refine sr_ ?_
     refine vp_ (qv_fieldAddrB FldC.h rfl) ?_
     refine v_ (qv_loadB 0 ShpC.h rfl rfl rfl rfl) ?_
     refine vp_ (pv_bin2 rfl rfl rfl) ?_
     refine nt_ ?_
     by_cases hp325 : y312.1 < 0
     ·replace h := h.1 hp325
      refine xcondT' (decide_eq_true hp325) rfl ?_
      refine sr_ ?_
      refine as_ ?_
      refine nt_ ?_
      refine xretc ?_
      refine xthen_ret ?_
      refine xin_ret ?_
      refine xthen_ret ?_
      refine xthen_ret ?_
      refine xin_ret ?_
      refine xthen_ret ?_
      replace h := h.symm
      subst h
      exact xret1 hg rfl rfl (.refl _) (SubM.of (.nil _) (.nil _)) ⟨rfl, rfl, rfl⟩
     ·replace h := h.2 hp325
      refine xcondF' (decide_eq_false hp325) rfl ?_
      refine xskipc ?_
      refine xthen ?_
      refine xseq ?_
      refine sr_ ?_
      refine vp_ (qv_fieldAddrB FldC.h rfl) ?_
      refine v_ (qv_loadB 1 ShpC.h rfl rfl rfl rfl) ?_
      refine vp_ (qv_fieldAddrB FldC.h rfl) ?_
      refine v_ (qv_loadB 0 ShpC.h rfl rfl rfl rfl) ?_
      refine vp_ (pv_bin2 rfl rfl rfl) ?_
      refine nt_ ?_
      by_cases hp330 : ¬ (y310.1 = y312.1)
      ·replace h := h.1 hp330
       refine xcondT' (not_t (decide_eq_false hp330)) rfl ?_
       refine sr_ ?_
       refine vp_ (qv_fieldAddrB FldC.h rfl) ?_
       refine v_ (qv_loadB 1 ShpC.h rfl rfl rfl rfl) ?_
       refine vp_ (qv_fieldAddrB FldC.h rfl) ?_
       refine v_ (qv_loadB 0 ShpC.h rfl rfl rfl rfl) ?_
       refine vp_ (pv_bin2 rfl rfl rfl) ?_
       refine as_ ?_
       refine nt_ ?_
       refine xretc ?_
       refine xthen_ret ?_
       refine xin_ret ?_
       refine xthen_ret ?_
       refine xthen_ret ?_
       refine xin_ret ?_
       refine xthen_ret ?_
       replace h := h.symm
       subst h
       exact xret1 hg rfl rfl (.refl _) (SubM.of (.nil _) (.nil _)) ⟨rfl, rfl, rfl⟩
      ·replace h := h.2 hp330
       refine xcondF' (not_f (decide_eq_true (Decidable.of_not_not hp330))) rfl ?_
       refine xskipc ?_
       refine xthen ?_
       refine sr_ ?_
       refine vp_ (qv_fieldAddrB FldC.h rfl) ?_
       refine v_ (qv_loadB 1 ShpC.h rfl rfl rfl rfl) ?_
       refine vp_ (qv_fieldAddrB FldC.h rfl) ?_
       refine v_ (qv_loadB 0 ShpC.h rfl rfl rfl rfl) ?_
       refine vp_ (pv_bin2 rfl rfl rfl) ?_
       refine as_ ?_
       refine nt_ ?_
       refine xretc ?_
       refine xin_ret ?_
       refine xthen_ret ?_
       refine xthen_ret ?_
       refine xin_ret ?_
       refine xthen_ret ?_
       replace h := h.symm
       subst h
       exact xret1 hg rfl rfl (.refl _) (SubM.of (.nil _) (.nil _)) ⟨rfl, rfl, rfl⟩
  ·replace h := h.2 hp285
   refine xcondF' (decide_eq_false hp285) rfl ?_
   refine xexit ?_
   refine xthen_exit ?_
   refine xthen_exit ?_
   refine xin_same rfl ?_
   refine xthen ?_
   refine sr_ ?_
   refine as_ ?_
   refine nt_ ?_
   refine xretc ?_
   replace h := h.symm
   subst h
   exact xret1 hg rfl rfl (.refl _) (SubM.of (.nil _) (.nil _)) ⟨rfl, rfl, rfl⟩
/-- palinoderef11.Best -/
def palinoderef11_Best_j2 (iv182 : Int) (ag1 : (Int × (Arr 10 (Int × Int))) → Prop) (f246 : Arr 10 (Int × Int)) (r : ((Arr 10 (Int × Int))) × Bool) : Prop :=
 InR (iv182 + 1) ∧ ag1 ((iv182 + 1), f246)
def palinoderef11_Best_j3 (iv182 : Int) (ag1 : (Int × (Arr 10 (Int × Int))) → Prop) (y247 : Int × (Arr 10 (Int × Int))) (atv3 : Int) (y249 : Int × (Arr 10 (Int × Int))) (f183 : Arr 10 (Int × Int)) (x257 : Bool) (r : ((Arr 10 (Int × Int))) × Bool) : Prop :=
 ((x257 = true → palinoderef11_Best_j2 iv182 ag1 (Arr.set y247.2 (0 : Int).toNat ((atv3, y249.1))) r) ∧ (¬ (x257 = true) → palinoderef11_Best_j2 iv182 ag1 f183 r))
def palinoderef11_Best_l1 (y17 : (List (Int × (Arr 10 (Int × Int))))) (atv3 : Int) (ag1 : (Int × (Arr 10 (Int × Int))) → Prop) (iv182 : Int) (f183 : Arr 10 (Int × Int)) (r : ((Arr 10 (Int × Int))) × Bool) : Prop :=
 ((iv182 < (y17.length : Int) → 0 ≤ (iv182 : Int) ∧ ∃ y247 : Int × (Arr 10 (Int × Int)), y17[(iv182 : Int).toNat]? = some y247 ∧ 0 ≤ (iv182 : Int) ∧ ∃ y249 : Int × (Arr 10 (Int × Int)), y17[(iv182 : Int).toNat]? = some y249 ∧ (0 ≤ (0 : Int) ∧ (0 : Int) < 10) ∧ ∃ y252 : Int × Int, y247.2.l[(0 : Int).toNat]? = some y252 ∧ ((iv182 = 0 → palinoderef11_Best_j3 iv182 ag1 y247 atv3 y249 f183 true r) ∧ (¬ (iv182 = 0) → ∃ y261 : Bool, palinoderef11_Better_R (Arr.set y247.2 (0 : Int).toNat ((atv3, y249.1))) f183 y261 ∧ palinoderef11_Best_j3 iv182 ag1 y247 atv3 y249 f183 y261 r))) ∧ (¬ (iv182 < (y17.length : Int)) → r = (f183, (decide (0 < (y17.length : Int))))))
def palinoderef11_Best_R (re1 : (List (Int × Int × Int × Int × Int × Int × (Arr 4 (UInt64)))) × Int) (text2 : List UInt8) (atv3 : Int) (r : ((Arr 10 (Int × Int))) × Bool) : Prop :=
 InR ((re1.1.length : Int) - 1) ∧ ∃ y15 : (Arr 10 (Int × Int)), palinoderef11_None_R y15 ∧ ∃ y17 : (List (Int × (Arr 10 (Int × Int)))), palinoderef11_Reach_R re1 text2 ((re1.1.length : Int) - 1) (atv3, y15) y17 ∧ LoopR (fun ag1 s => palinoderef11_Best_l1 y17 atv3 ag1 s.1 s.2 r) (0, (Arr.rep 10 (0, 0)))
set_option maxRecDepth 100000 in
set_option maxHeartbeats 4000000 in
theorem palinoderef11_Best_con (re1 : (List (Int × Int × Int × Int × Int × Int × (Arr 4 (UInt64)))) × Int) (text2 : List UInt8) (atv3 : Int) (r : ((Arr 10 (Int × Int))) × Bool) (h : palinoderef11_Best_R re1 text2 atv3 r) : Con Try.prog 7 [.agg [.sl 10 none (List.map E_palinode_api_Node re1.1), .v (.int .i64 re1.2)], .sl 1 none (List.map eb text2), .v (.int .i64 atv3)] [] [] (fun rr bx tk => rr = .tup [.agg ((List.map E_palinode_api_Span r.1.l).flatten), .v (.bool r.2)] ∧ bx = [] ∧ tk = []) := by
 refine xenter Try.func7 rfl rfl fun g hg => ?_
 simp only [Try.ntmps7, slots]
 refine sr_ ?_
 refine xbox rfl rfl rfl rfl fun b3 => ?_
 refine xalloc InfC.h rfl rfl fun b6 => ?_
 refine xreb 0 ((List.map E_palinode_api_Span ((Arr.rep 10 (0, 0))).l).flatten) rfl rfl ?_
 refine as_ ?_
 refine nt_ ?_
 refine xseq ?_
 refine xregionD (m := 11) (by kernel_rfl) rfl ?_
 obtain ⟨h13, h⟩ := h
 obtain ⟨y15, h14, h⟩ := h
 obtain ⟨y17, h16, h⟩ := h
 refine xpcut 2 #[true, true, true, true, true, true, true, true, true, false, false] (fun σ => σ = ⟨[(2, .v (.int .i64 atv3)), (6, .v (.pointer (some ⟨b6, 0, none⟩))), (12, .agg [.sl 10 none (List.map E_palinode_api_Node re1.1), .v (.int .i64 re1.2)]), (13, .sl 1 none (List.map eb text2)), (17, .v (.int .i64 (((re1.1.length : Int) - 1)))), (20, .agg ([.v (.int .i64 atv3)] ++ (List.map E_palinode_api_Span y15.l).flatten))], [⟨b6, 36, ((List.map E_palinode_api_Span ((Arr.rep 10 (0, 0))).l).flatten)⟩], []⟩) ?_ (fun key19 => ?_)
 ·rintro _ rfl
  refine xpstep (i := 9) (by kernel_rfl) rfl ?_
  refine wcallM (palinoderef11_Reach_con re1 text2 ((re1.1.length : Int) - 1) (atv3, y15) _ h16) Try.func11 (by kernel_rfl) rfl (.cons rfl (.refl _) (.cons rfl (.refl _) (.cons rfl (.refl _) (.cons rfl (.refl _) .nil)))) rfl rfl fun i18 => ?_
  refine pl_ 10 rfl (pv_assign rfl) ?_
  refine xpdone (by kernel_rfl) ?_
  refine xthen ?_
  refine sr_ ?_
  refine xalloc InfC.h rfl rfl fun b9 => ?_
  refine xreb 0 ((List.map E_palinode_api_Span ((Arr.rep 10 (0, 0))).l).flatten) rfl rfl ?_
  refine nt_ ?_
  refine xseq ?_
  refine sr_ ?_
  refine as_ ?_
  refine nt_ ?_
  refine xblock ?_
  obtain ⟨Inv, ⟨m0, hI⟩, hS⟩ := h
  refine xloop (fun σ m => ∃ (iv182 : Int), ∃ (f183 : Arr 10 (Int × Int)), Inv (iv182, f183) m ∧ σ = ⟨[(2, .v (.int .i64 atv3)), (6, .v (.pointer (some ⟨b6, 0, none⟩))), (8, .sl 21 (some i18) (List.map E_palinode_palinoderef11_Point y17)), (9, .v (.pointer (some ⟨b9, 0, none⟩))), (10, .v (.int .i64 iv182))], [⟨b9, 36, ((List.map E_palinode_api_Span f183.l).flatten)⟩, ⟨b6, 36, ((List.map E_palinode_api_Span ((Arr.rep 10 (0, 0))).l).flatten)⟩], [⟨i18, 58, 21, y17.length⟩]⟩) ⟨0, (Arr.rep 10 (0, 0)), hI, rfl⟩ (by exact ⟨lk_, (SubM.of (.keep rfl rfl (.refl _) (.keep rfl rfl (.refl _) (.nil _))) (.keep rfl (.nil _)))⟩) ?_
  rintro _ m ⟨iv182, f183, hI, rfl⟩
  obtain ⟨ag1, hag1, h⟩ : ∃ ag, (∀ s', ag s' → ∃ m', m' < m ∧ Inv s' m') ∧ palinoderef11_Best_l1 y17 atv3 ag iv182 f183 r := ⟨_, fun _ h => h, hS (iv182, f183) _ hI⟩
  clear hS hI
  refine xseq ?_
  refine sr_ ?_
  refine mv_ ?_
  refine mv_ ?_
  refine vp_ (pv_lenM UndC.h rfl) ?_
  refine vp_ (pv_bin2 rfl rfl rfl) ?_
  refine nt_ ?_
  by_cases hp229 : iv182 < (y17.length : Int)
  ·replace h := h.1 hp229
   refine xcondT' (decide_eq_true hp229) rfl ?_
   refine xskipc ?_
   refine xthen ?_
   refine xseqM (fun σ => ∃ (f246 : Arr 10 (Int × Int)), palinoderef11_Best_j2 iv182 ag1 f246 r ∧ σ = ⟨[(2, .v (.int .i64 atv3)), (6, .v (.pointer (some ⟨b6, 0, none⟩))), (8, .sl 21 (some i18) (List.map E_palinode_palinoderef11_Point y17)), (9, .v (.pointer (some ⟨b9, 0, none⟩))), (10, .v (.int .i64 iv182))], [⟨b9, 36, ((List.map E_palinode_api_Span f246.l).flatten)⟩, ⟨b6, 36, ((List.map E_palinode_api_Span ((Arr.rep 10 (0, 0))).l).flatten)⟩], [⟨i18, 58, 21, y17.length⟩]⟩) ?_ ?_
   ·refine xblock ?_
    refine sr_ ?_
    refine mv_ ?_
    refine mv_ ?_
    obtain ⟨h248a, h⟩ := h
    obtain ⟨y247, h248b, h⟩ := h
    refine vp_ (pv_indexAddrM h248a h248b UndC.h ShpC.h rfl rfl) ?_
    refine vp_ (qv_fieldAddrE FldC.h rfl) ?_
    refine v_ (qv_loadEP ((List.map E_palinode_api_Span y247.2.l).flatten) [] sq_ sl_ (part_all (seg_lenE (by rfl))) ShpC.h rfl) ?_
    refine vp_ (pv_buildC (cs := ((List.map E_palinode_api_Span y247.2.l).flatten)) StrC.h rfl (by refine fill_step [] ((List.map E_palinode_api_Span ((Arr.rep 10 (0, 0))).l).flatten) [] sq_ sl_ sl_ sl_ rfl rfl ?_; exact congrArg some sq_)) ?_
    refine xalloc InfC.h rfl rfl fun b11 => ?_
    refine xreb 0 ((List.map E_palinode_api_Span ((Arr.rep 10 (0, 0))).l).flatten) rfl rfl ?_
    refine xstoreQ 0 [] ((List.map E_palinode_api_Span ((Arr.rep 10 (0, 0))).l).flatten) [] ((List.map E_palinode_api_Span y247.2.l).flatten) ShpC.h rfl rfl rfl rfl rfl ?_
    refine nt_ ?_
    refine sr_ ?_
    refine mv_ ?_
    refine mv_ ?_
    refine mv_ ?_
    obtain ⟨h250a, h⟩ := h
    obtain ⟨y249, h250b, h⟩ := h
    refine vp_ (pv_indexAddrM h250a h250b UndC.h ShpC.h rfl rfl) ?_
    refine vp_ (qv_fieldAddrE FldC.h rfl) ?_
    refine v_ (qv_load ShpC.h rfl rfl rfl) ?_
    refine vp_ (pv_buildC StrC.h rfl rfl) ?_
    refine vp_ (qv_fieldAddrB FldC.h rfl) ?_
    obtain ⟨h251, h⟩ := h
    obtain ⟨y252, h251b, h⟩ := h
    refine vp_ (pv_indexAddrBA h251 UndC.h ShpC.h rfl rfl) ?_
    refine xstoreA (f := E_palinode_api_Span) (a := y247.2) (k := 2) (off := 0) (i := (0 : Int).toNat) 0 [] [] (atv3, y249.1) h251b sq_ so_ (by decide) ShpC.h rfl rfl rfl rfl sl_ rfl rfl ?_
    refine xreb 0 ((List.map E_palinode_api_Span ((Arr.set y247.2 (0 : Int).toNat ((atv3, y249.1)))).l).flatten) rfl sq_ ?_
    refine nt_ ?_
    refine xseqM (fun σ => ∃ (x257 : Bool), palinoderef11_Best_j3 iv182 ag1 y247 atv3 y249 f183 x257 r ∧ σ = ⟨[(2, .v (.int .i64 atv3)), (6, .v (.pointer (some ⟨b6, 0, none⟩))), (8, .sl 21 (some i18) (List.map E_palinode_palinoderef11_Point y17)), (9, .v (.pointer (some ⟨b9, 0, none⟩))), (10, .v (.int .i64 iv182)), (11, .v (.pointer (some ⟨b11, 0, none⟩))), (49, .v (.bool x257))], [⟨b11, 36, ((List.map E_palinode_api_Span ((Arr.set y247.2 (0 : Int).toNat ((atv3, y249.1)))).l).flatten)⟩, ⟨b9, 36, ((List.map E_palinode_api_Span f183.l).flatten)⟩, ⟨b6, 36, ((List.map E_palinode_api_Span ((Arr.rep 10 (0, 0))).l).flatten)⟩], [⟨i18, 58, 21, y17.length⟩]⟩) ?_ ?_
    ·refine xregion ?_
     refine mv_ ?_
     refine vp_ (pv_bin2 rfl rfl rfl) ?_
     refine mv_ ?_
     by_cases hp259 : iv182 = 0
     ·replace h := h.1 hp259
      refine xsetB 45 (decide_eq_true hp259) rfl ?_
      refine sk_ ?_
      refine sk_ ?_
      refine sk_ ?_
      refine pk_ ?_
      refine xnil ?_
      exact xmeet ⟨true, h, rfl⟩ ⟨lk_, (SubM.of (.keep rfl rfl (.refl _) (.keep rfl rfl (.refl _) (.keep rfl rfl (.refl _) (.nil _)))) (.keep rfl (.nil _)))⟩
     ·replace h := h.2 hp259
      refine xsetB 45 (decide_eq_false hp259) rfl ?_
      refine v_ (qv_loadP 0 [] ((List.map E_palinode_api_Span ((Arr.set y247.2 (0 : Int).toNat ((atv3, y249.1)))).l).flatten) [] sq_ sl_ sl_ (part_all (seg_lenE (by rfl))) ShpC.h rfl rfl) ?_
      refine v_ (qv_loadP 1 [] ((List.map E_palinode_api_Span f183.l).flatten) [] sq_ sl_ sl_ (part_all (seg_lenE (by rfl))) ShpC.h rfl rfl) ?_
      obtain ⟨y261, h260, h⟩ := h
      refine xcall0 (palinoderef11_Better_con (Arr.set y247.2 (0 : Int).toNat ((atv3, y249.1))) f183 _ h260) Try.func13 (by kernel_rfl) rfl (.cons rfl (.refl _) (.cons rfl (.refl _) .nil)) rfl rfl ?_
      refine pk_ ?_
      refine xnil ?_
      exact xmeet ⟨y261, h, rfl⟩ ⟨lk_, (SubM.of (.keep rfl rfl (.refl _) (.keep rfl rfl (.refl _) (.keep rfl rfl (.refl _) (.nil _)))) (.keep rfl (.nil _)))⟩
    ·clear h
     rintro _ ⟨x257, h, rfl⟩
     by_cases hp262 : x257 = true
     ·replace h := h.1 hp262
      refine xcondT' hp262 rfl ?_
      refine xregion ?_
      refine v_ (qv_loadP 0 [] ((List.map E_palinode_api_Span ((Arr.set y247.2 (0 : Int).toNat ((atv3, y249.1)))).l).flatten) [] sq_ sl_ sl_ (part_all (seg_lenE (by rfl))) ShpC.h rfl rfl) ?_
      refine xstoreQ 1 [] ((List.map E_palinode_api_Span f183.l).flatten) [] ((List.map E_palinode_api_Span ((Arr.set y247.2 (0 : Int).toNat ((atv3, y249.1)))).l).flatten) ShpC.h rfl rfl rfl rfl rfl ?_
      refine xnil ?_
      refine xin_normal ?_
      exact xmeet ⟨(Arr.set y247.2 (0 : Int).toNat ((atv3, y249.1))), h, rfl⟩ ⟨lk_, (SubM.of (.drop (.keep rfl rfl (.refl _) (.keep rfl rfl (.refl _) (.nil _)))) (.keep rfl (.nil _)))⟩
     ·replace h := h.2 hp262
      refine xcondF' (b_f hp262) rfl ?_
      refine xskipc ?_
      refine xin_normal ?_
      exact xmeet ⟨f183, h, rfl⟩ ⟨lk_, (SubM.of (.drop (.keep rfl rfl (.refl _) (.keep rfl rfl (.refl _) (.nil _)))) (.keep rfl (.nil _)))⟩
   ·clear h
    rintro _ ⟨f246, h, rfl⟩
    refine xregion ?_
    refine mv_ ?_
    obtain ⟨h263, h⟩ := h
    refine vp_ (pv_addI h263 rfl rfl) ?_
    refine as_ ?_
    refine xnil ?_
    obtain ⟨m', hm, hI⟩ := hag1 _ h
    exact xagain ⟨(iv182 + 1), f246, hI, rfl⟩ hm ⟨lk_, (SubM.of (.keep rfl rfl (.refl _) (.keep rfl rfl (.refl _) (.nil _))) (.keep rfl (.nil _)))⟩
  ·replace h := h.2 hp229
   refine xcondF' (decide_eq_false hp229) rfl ?_
   refine xexit ?_
   refine xthen_exit ?_
   refine xthen_exit ?_
   refine xin_same rfl ?_
   refine xthen ?_
   refine sr_ ?_
   refine v_ (qv_loadP 0 [] ((List.map E_palinode_api_Span f183.l).flatten) [] sq_ sl_ sl_ (part_all (seg_lenE (by rfl))) ShpC.h rfl rfl) ?_
   refine mv_ ?_
   refine vp_ (pv_lenM UndC.h rfl) ?_
   refine vp_ (pv_bin2 rfl rfl rfl) ?_
   refine xstoreQ 1 [] ((List.map E_palinode_api_Span ((Arr.rep 10 (0, 0))).l).flatten) [] ((List.map E_palinode_api_Span f183.l).flatten) ShpC.h rfl rfl rfl rfl rfl ?_
   refine as_ ?_
   refine nt_ ?_
   refine xretc ?_
   replace h := h.symm
   subst h
   exact xretL (rs := [.cell 6 36, .tmp 7]) (ss := [.agg ((List.map E_palinode_api_Span f183.l).flatten), .v (.bool (decide (0 < (y17.length : Int))))]) hg rfl (by refine RetL.cell 1 ShpC.h rfl rfl (part_midE (pre := []) (mid := ((List.map E_palinode_api_Span f183.l).flatten)) (post := []) sq_ sl_ sl_ (part_all (seg_lenE (by rfl)))) (len_midE (pre := []) (mid := ((List.map E_palinode_api_Span f183.l).flatten)) (post := []) sq_ sl_ sl_) wk_ ?_; refine RetL.tmp rfl (.refl _) ?_; exact RetL.nil) (SubM.of (.nil _) (.nil _)) ⟨rfl, rfl, rfl⟩
 refine pl_ 1 rfl (pv_move rfl) ?_
 refine pl_ 2 rfl (qv_fieldAddrB FldC.h rfl) ?_
 refine pl_ 6 rfl (pv_move rfl) ?_
 refine xpstepN (is := [0, 3, 7]) (by kernel_rfl) (by simp) ?_
 intro i hi; simp only [List.mem_cons, List.not_mem_nil, or_false] at hi; rcases hi with rfl | rfl | rfl
 ·refine ⟨_, rfl, ?_⟩
  refine wv_ (qv_loadB 1 ShpC.h rfl rfl rfl rfl) ?_
  refine xpstepN (is := [3, 7]) (by kernel_rfl) (by simp) ?_
  intro i hi; simp only [List.mem_cons, List.not_mem_nil, or_false] at hi; rcases hi with rfl | rfl
  ·refine ⟨_, rfl, ?_⟩
   refine wv_ (qv_loadB 1 ShpC.h rfl rfl rfl rfl) ?_
   refine pl_ 4 rfl (pv_lenM UndC.h rfl) ?_
   refine pl_ 5 rfl (pv_subI h13 rfl rfl) ?_
   refine xpstep (i := 7) (by kernel_rfl) rfl ?_
   refine wcall0 (palinoderef11_None_con _ h14) Try.func12 (by kernel_rfl) rfl .nil rfl rfl ?_
   refine pl_ 8 rfl (pv_buildC (cs := ([.v (.int .i64 atv3)] ++ (List.map E_palinode_api_Span y15.l).flatten)) StrC.h rfl (by refine fill_step [] [.v (.int .i64 0)] ((List.map E_palinode_api_Span ((Arr.rep 10 (0, 0))).l).flatten) sq_ sl_ sl_ sl_ rfl rfl ?_; refine fill_step [.v (.int .i64 atv3)] ((List.map E_palinode_api_Span ((Arr.rep 10 (0, 0))).l).flatten) [] sq_ sl_ sl_ sl_ rfl rfl ?_; exact congrArg some sq_)) ?_
   exact xpuse key19 rfl ⟨lk_, (SubM.of (.keep rfl rfl (.refl _) (.nil _)) (.nil _))⟩ rfl (by kernel_rfl)
  ·refine ⟨_, rfl, ?_⟩
   refine wcall0 (palinoderef11_None_con _ h14) Try.func12 (by kernel_rfl) rfl .nil rfl rfl ?_
   refine pl_ 8 rfl (pv_buildC (cs := ([.v (.int .i64 atv3)] ++ (List.map E_palinode_api_Span y15.l).flatten)) StrC.h rfl (by refine fill_step [] [.v (.int .i64 0)] ((List.map E_palinode_api_Span ((Arr.rep 10 (0, 0))).l).flatten) sq_ sl_ sl_ sl_ rfl rfl ?_; refine fill_step [.v (.int .i64 atv3)] ((List.map E_palinode_api_Span ((Arr.rep 10 (0, 0))).l).flatten) [] sq_ sl_ sl_ sl_ rfl rfl ?_; exact congrArg some sq_)) ?_
   refine xpvalE 3 [] rfl (qv_loadB 1 ShpC.h rfl rfl rfl rfl) rfl rfl (by kernel_rfl) (by kernel_rfl) (by kernel_rfl) (fun _ _ _ _ h => h) ?_
   refine pl_ 4 rfl (pv_lenM UndC.h rfl) ?_
   refine pl_ 5 rfl (pv_subI h13 rfl rfl) ?_
   exact xpuse key19 rfl ⟨lk_, (SubM.of (.keep rfl rfl (.refl _) (.nil _)) (.nil _))⟩ rfl (by kernel_rfl)
 ·refine ⟨_, rfl, ?_⟩
  refine wv_ (qv_loadB 1 ShpC.h rfl rfl rfl rfl) ?_
  refine pl_ 4 rfl (pv_lenM UndC.h rfl) ?_
  refine pl_ 5 rfl (pv_subI h13 rfl rfl) ?_
  refine xfl0 [⟨0, 12, .agg [.sl 10 none (List.map E_palinode_api_Node re1.1), .v (.int .i64 re1.2)]⟩] 4 ?_
  refine xflstep 7 (by kernel_rfl) rfl (.cons rfl rfl rfl (fun _ => rfl) (fun _ => qv_loadB 1 ShpC.h rfl rfl rfl rfl) .nil) fun D l td hR => ?_
  refine wcall0 (palinoderef11_None_con _ h14) Try.func12 (by kernel_rfl) rfl .nil rfl rfl ?_
  refine xflgo1 hR ?_
  refine xflval 8 (by kernel_rfl) rfl (fun _ => pv_buildC (cs := ([.v (.int .i64 atv3)] ++ (List.map E_palinode_api_Span y15.l).flatten)) StrC.h rfl (by refine fill_step [] [.v (.int .i64 0)] ((List.map E_palinode_api_Span ((Arr.rep 10 (0, 0))).l).flatten) sq_ sl_ sl_ sl_ rfl rfl ?_; refine fill_step [.v (.int .i64 atv3)] ((List.map E_palinode_api_Span ((Arr.rep 10 (0, 0))).l).flatten) [] sq_ sl_ sl_ sl_ rfl rfl ?_; exact congrArg some sq_)) (fun _ => rfl) rfl (by kernel_rfl) (fun _ _ _ _ h => h) ?_
  refine xflend (l' := #[true, true, true, true, true, true, true, true, true, false, false]) (by kernel_rfl) (.cons rfl rfl rfl (fun _ => rfl) (fun _ => qv_loadB 1 ShpC.h rfl rfl rfl rfl) .nil) (by kernel_rfl) rfl (by kernel_rfl) (by kernel_rfl) ?_
  simp only [List.nil_append, List.cons_append, List.map_cons, List.map_nil]
  exact xpuse key19 rfl ⟨lk_, (SubM.of (.keep rfl rfl (.refl _) (.nil _)) (.nil _))⟩ rfl (by kernel_rfl)
 ·refine ⟨_, rfl, ?_⟩
  refine wcall0 (palinoderef11_None_con _ h14) Try.func12 (by kernel_rfl) rfl .nil rfl rfl ?_
  refine pl_ 8 rfl (pv_buildC (cs := ([.v (.int .i64 atv3)] ++ (List.map E_palinode_api_Span y15.l).flatten)) StrC.h rfl (by refine fill_step [] [.v (.int .i64 0)] ((List.map E_palinode_api_Span ((Arr.rep 10 (0, 0))).l).flatten) sq_ sl_ sl_ sl_ rfl rfl ?_; refine fill_step [.v (.int .i64 atv3)] ((List.map E_palinode_api_Span ((Arr.rep 10 (0, 0))).l).flatten) [] sq_ sl_ sl_ sl_ rfl rfl ?_; exact congrArg some sq_)) ?_
  refine xpvalE 3 [0] rfl (qv_loadB 1 ShpC.h rfl rfl rfl rfl) rfl rfl (by kernel_rfl) (by kernel_rfl) (by kernel_rfl) (fun _ _ _ _ h => h) ?_
  refine pl_ 4 rfl (pv_lenM UndC.h rfl) ?_
  refine pl_ 5 rfl (pv_subI h13 rfl rfl) ?_
  refine xpvalE 0 [] rfl (qv_loadB 1 ShpC.h rfl rfl rfl rfl) rfl rfl (by kernel_rfl) (by kernel_rfl) (by kernel_rfl) (fun _ _ _ _ h => h) ?_
  exact xpuse key19 rfl ⟨lk_, (SubM.of (.keep rfl rfl (.refl _) (.nil _)) (.nil _))⟩ rfl (by kernel_rfl)
end Go.Proofs.Ytnjnbegjhklcgaa
