/- What functions' texts ask for, and the walks that show it (printed by a program). -/
import Derived.Test.YtjemjopjiohcoaaGK
namespace Go.Proofs.Ytjemjopjiohcoaa
/-- palinodelaw05.ClassUnions -/
def palinodelaw05_ClassUnions_j2 (i82 : Int) (ag1 : (Bool × Int) → Prop) (inv112 : Bool) (r : Bool) : Prop :=
  InR (i82 + 1) ∧ ag1 (inv112, (i82 + 1))
def palinodelaw05_ClassUnions_j3 (x138 : Bool) (r : Bool) : Prop :=
  r = x138
def palinodelaw05_ClassUnions_l1 (l1 : List (Arr 4 (UInt64))) (c2 : UInt8) (ag1 : (Bool × Int) → Prop) (inv81 : Bool) (i82 : Int) (r : Bool) : Prop :=
  ((i82 < (l1.length : Int) → ((inv81 = true → palinodelaw05_ClassUnions_j2 i82 ag1 true r) ∧ (¬ (inv81 = true) → 0 ≤ (i82 : Int) ∧ ∃ y114 : Arr 4 (UInt64), l1[(i82 : Int).toNat]? = some y114 ∧ ∃ y117 : Bool, palinoderef05_Has_R y114 c2 y117 ∧ palinodelaw05_ClassUnions_j2 i82 ag1 y117 r))) ∧ (¬ (i82 < (l1.length : Int)) → ∃ y120 : (Arr 4 (UInt64)), class_Union_R l1 y120 ∧ ∃ y140 : Bool, class_Has_R y120 c2 y140 ∧ (((y140 == inv81) = true → ∃ y144 : (Arr 4 (UInt64)), class_Union_R ([y120, y120]) y144 ∧ (((y144 : Arr 4 (UInt64)) = y120 → ∃ y149 : (Arr 4 (UInt64)), class_Union_R ([] : List (Arr 4 (UInt64))) y149 ∧ (((y149 : Arr 4 (UInt64)) = (Arr.rep 4 (0 : UInt64)) → ∃ y153 : Bool, palinodelaw05_awake_R y153 ∧ palinodelaw05_ClassUnions_j3 y153 r) ∧ (¬ ((y149 : Arr 4 (UInt64)) = (Arr.rep 4 (0 : UInt64))) → palinodelaw05_ClassUnions_j3 false r))) ∧ (¬ ((y144 : Arr 4 (UInt64)) = y120) → palinodelaw05_ClassUnions_j3 false r))) ∧ (¬ ((y140 == inv81) = true) → palinodelaw05_ClassUnions_j3 false r))))
def palinodelaw05_ClassUnions_R (l1 : List (Arr 4 (UInt64))) (c2 : UInt8) (r : Bool) : Prop :=
  ((12 < (l1.length : Int) → ∃ y12 : Bool, palinodelaw05_awake_R y12 ∧ r = y12) ∧ (¬ (12 < (l1.length : Int)) → LoopR (fun ag1 s => palinodelaw05_ClassUnions_l1 l1 c2 ag1 s.1 s.2 r) (false, 0)))
set_option maxHeartbeats 4000000 in
theorem palinodelaw05_ClassUnions_con (l1 : List (Arr 4 (UInt64))) (c2 : UInt8) (r : Bool) (h : palinodelaw05_ClassUnions_R l1 c2 r) : Con Try.prog 4 [.sl 4 none (List.map E_palinode_api_Set l1), .v (.int .u8 ((c2.toNat : Int)))] [] [] (Ret (.v (.bool r))) := by
  refine xenter Try.func4 rfl rfl fun g hg => ?_
  simp only [Try.ntmps4, slots]
  refine xseq ?_
  refine xregion ?_
  refine xvalP (pv_assign rfl) rfl rfl ?_
  refine xnil ?_
  refine xthen ?_
  refine xseq ?_
  refine xseq ?_
  refine xregion ?_
  refine xvalP (pv_move rfl) rfl rfl ?_
  refine xvalP (pv_lenM UndC.h rfl) rfl rfl ?_
  refine xvalP (pv_bin2 rfl rfl rfl) rfl rfl ?_
  refine xnil ?_
  refine xthen ?_
  by_cases hp10 : 12 < (l1.length : Int)
  · replace h := h.1 hp10
    refine xcondT' (decide_eq_true hp10) rfl ?_
    refine xseq ?_
    refine xregion ?_
    obtain ⟨y12, h11, h⟩ := h
    refine xcall0 (palinodelaw05_awake_con _ h11) Try.func14 (by kernel_rfl) rfl .nil rfl rfl ?_
    refine xvalP (pv_assign rfl) rfl rfl ?_
    refine xnil ?_
    refine xthen ?_
    refine xretc ?_
    refine xthen_ret ?_
    replace h := h.symm
    subst h
    exact xret1 hg rfl rfl (.refl _) (SubM.of (.nil _) (.nil _)) ⟨rfl, rfl, rfl⟩
  · replace h := h.2 hp10
    refine xcondF' (decide_eq_false hp10) rfl ?_
    refine xskipc ?_
    refine xthen ?_
    refine xseq ?_
    refine xregion ?_
    refine xvalP (pv_assign rfl) rfl rfl ?_
    refine xnil ?_
    refine xthen ?_
    refine xseq ?_
    refine xseq ?_
    refine xregion ?_
    refine xvalP (pv_assign rfl) rfl rfl ?_
    refine xnil ?_
    refine xthen ?_
    refine xblock ?_
    obtain ⟨Inv, ⟨m0, hI⟩, hS⟩ := h
    refine xloop (fun σ m => ∃ (inv81 : Bool), ∃ (i82 : Int), Inv (inv81, i82) m ∧ σ = ⟨[(0, .sl 4 none (List.map E_palinode_api_Set l1)), (1, .v (.int .u8 ((c2.toNat : Int)))), (5, .v (.bool inv81)), (6, .v (.int .i64 i82))], [], []⟩) ⟨false, 0, hI, rfl⟩ ⟨(.cons rfl (.refl _) (.cons rfl (.refl _) (.cons rfl (.refl _) (.cons rfl (.refl _) (.nil _))))), (SubM.of (.nil _) (.nil _))⟩ ?_
    rintro _ m ⟨inv81, i82, hI, rfl⟩
    obtain ⟨ag1, hag1, h⟩ : ∃ ag, (∀ s', ag s' → ∃ m', m' < m ∧ Inv s' m') ∧ palinodelaw05_ClassUnions_l1 l1 c2 ag inv81 i82 r := ⟨_, fun _ h => h, hS (inv81, i82) _ hI⟩
    clear hS hI
    refine xseq ?_
    refine xseq ?_
    refine xregion ?_
    refine xvalP (pv_move rfl) rfl rfl ?_
    refine xvalP (pv_move rfl) rfl rfl ?_
    refine xvalP (pv_lenM UndC.h rfl) rfl rfl ?_
    refine xvalP (pv_bin2 rfl rfl rfl) rfl rfl ?_
    refine xnil ?_
    refine xthen ?_
    by_cases hp106 : i82 < (l1.length : Int)
    · replace h := h.1 hp106
      refine xcondT' (decide_eq_true hp106) rfl ?_
      refine xskipc ?_
      refine xthen ?_
      refine xseqM (fun σ => ∃ (inv112 : Bool), palinodelaw05_ClassUnions_j2 i82 ag1 inv112 r ∧ σ = ⟨[(0, .sl 4 none (List.map E_palinode_api_Set l1)), (1, .v (.int .u8 ((c2.toNat : Int)))), (5, .v (.bool inv112)), (6, .v (.int .i64 i82))], [], []⟩) ?_ ?_
      · refine xblock ?_
        refine xregion ?_
        refine xvalP (pv_move rfl) rfl rfl ?_
        refine xvalP (pv_move rfl) rfl rfl ?_
        by_cases hp113 : inv81 = true
        · replace h := h.1 hp113
          refine xsetB 19 hp113 rfl ?_
          refine xskip rfl rfl ?_
          refine xskip rfl rfl ?_
          refine xskip rfl rfl ?_
          refine xskip rfl rfl ?_
          refine xskip rfl rfl ?_
          refine xskip rfl rfl ?_
          refine xvalP (pv_pick rfl rfl) rfl rfl ?_
          refine xvalP (pv_assign rfl) rfl rfl ?_
          refine xnil ?_
          refine xin_normal ?_
          exact xmeet ⟨true, h, rfl⟩ ⟨(.cons rfl (.refl _) (.cons rfl (.refl _) (.cons rfl (.refl _) (.cons rfl (.refl _) (.nil _))))), (SubM.of (.nil _) (.nil _))⟩
        · replace h := h.2 hp113
          refine xsetB 19 (b_f hp113) rfl ?_
          refine xvalP (pv_move rfl) rfl rfl ?_
          refine xvalP (pv_move rfl) rfl rfl ?_
          obtain ⟨h115a, h⟩ := h
          obtain ⟨y114, h115b, h⟩ := h
          refine xvalP (pv_indexAddrM h115a h115b UndC.h ShpC.h rfl rfl) rfl rfl ?_
          refine xval (qv_loadEP ((List.map ew y114.l).flatten) [] (by first | rfl | exact (List.append_nil _).symm | exact List.append_nil _ | exact List.append_assoc _ _ _ | exact (List.append_assoc _ _ _).symm | exact congrArg _ (List.append_nil _).symm | exact congrArg _ (List.append_nil _) | (simp; done) | (simp [cellsS]; done)) (by first | rfl | exact seg_lenE (by rfl) | exact len_app rfl (seg_lenE (by rfl)) (by rfl) | exact len_app (seg_lenE (by rfl)) rfl (by rfl) | exact len_app rfl (len_app (seg_lenE (by rfl)) rfl (by rfl)) (by rfl) | (simp only [seg_len, cellsS, List.length_append, List.length_cons, List.length_nil]; done) | (simp only [seg_len, cellsS, List.length_append, List.length_cons, List.length_nil]; rfl)) (part_all (seg_lenE (by rfl))) ShpC.h rfl) rfl rfl ?_
          refine xvalP (pv_move rfl) rfl rfl ?_
          obtain ⟨y117, h116, h⟩ := h
          refine xcall0 (palinoderef05_Has_con y114 c2 _ h116) Try.func9 (by kernel_rfl) rfl (.cons rfl (.refl _) (.cons rfl (.refl _) .nil)) rfl rfl ?_
          refine xvalP (pv_pick rfl rfl) rfl rfl ?_
          refine xvalP (pv_assign rfl) rfl rfl ?_
          refine xnil ?_
          refine xin_normal ?_
          exact xmeet ⟨y117, h, rfl⟩ ⟨(.cons rfl (.refl _) (.cons rfl (.refl _) (.cons rfl (.refl _) (.cons rfl (.refl _) (.nil _))))), (SubM.of (.nil _) (.nil _))⟩
      · clear h
        rintro _ ⟨inv112, h, rfl⟩
        refine xregion ?_
        refine xvalP (pv_move rfl) rfl rfl ?_
        obtain ⟨h118, h⟩ := h
        refine xvalP (pv_addI h118 rfl rfl) rfl rfl ?_
        refine xvalP (pv_assign rfl) rfl rfl ?_
        refine xnil ?_
        obtain ⟨m', hm, hI⟩ := hag1 _ h
        exact xagain ⟨inv112, (i82 + 1), hI, rfl⟩ hm ⟨(.cons rfl (.refl _) (.cons rfl (.refl _) (.cons rfl (.refl _) (.cons rfl (.refl _) (.nil _))))), (SubM.of (.nil _) (.nil _))⟩
    · replace h := h.2 hp106
      refine xcondF' (decide_eq_false hp106) rfl ?_
      refine xexit ?_
      refine xthen_exit ?_
      refine xthen_exit ?_
      refine xin_same rfl ?_
      refine xthen ?_
      refine xseq ?_
      refine xregion ?_
      refine xvalP (pv_move rfl) rfl rfl ?_
      obtain ⟨y120, h119, h⟩ := h
      refine xcall0 (class_Union_con l1 _ h119) Try.func15 (by kernel_rfl) rfl (.cons rfl (.refl _) .nil) rfl rfl ?_
      refine xalloc InfC.h rfl rfl fun b7 => ?_
      refine xreb 0 ((List.map ew ((Arr.rep 4 (0 : UInt64))).l).flatten) rfl rfl ?_
      refine xstoreP 0 [] ((List.map ew ((Arr.rep 4 (0 : UInt64))).l).flatten) [] (by first | rfl | exact (List.append_nil _).symm | exact List.append_nil _ | exact List.append_assoc _ _ _ | exact (List.append_assoc _ _ _).symm | exact congrArg _ (List.append_nil _).symm | exact congrArg _ (List.append_nil _) | (simp; done) | (simp [cellsS]; done)) (by first | rfl | exact seg_lenE (by rfl) | exact len_app rfl (seg_lenE (by rfl)) (by rfl) | exact len_app (seg_lenE (by rfl)) rfl (by rfl) | exact len_app rfl (len_app (seg_lenE (by rfl)) rfl (by rfl)) (by rfl) | (simp only [seg_len, cellsS, List.length_append, List.length_cons, List.length_nil]; done) | (simp only [seg_len, cellsS, List.length_append, List.length_cons, List.length_nil]; rfl)) (by first | rfl | exact seg_lenE (by rfl) | exact len_app rfl (seg_lenE (by rfl)) (by rfl) | exact len_app (seg_lenE (by rfl)) rfl (by rfl) | exact len_app rfl (len_app (seg_lenE (by rfl)) rfl (by rfl)) (by rfl) | (simp only [seg_len, cellsS, List.length_append, List.length_cons, List.length_nil]; done) | (simp only [seg_len, cellsS, List.length_append, List.length_cons, List.length_nil]; rfl)) ShpC.h rfl rfl rfl rfl (by first | rfl | exact seg_lenE (by rfl) | exact len_app rfl (seg_lenE (by rfl)) (by rfl) | exact len_app (seg_lenE (by rfl)) rfl (by rfl) | exact len_app rfl (len_app (seg_lenE (by rfl)) rfl (by rfl)) (by rfl) | (simp only [seg_len, cellsS, List.length_append, List.length_cons, List.length_nil]; done) | (simp only [seg_len, cellsS, List.length_append, List.length_cons, List.length_nil]; rfl)) rfl ?_
      refine xreb 0 ((List.map ew y120.l).flatten) rfl (by first | rfl | exact (List.append_nil _).symm | exact List.append_nil _ | exact List.append_assoc _ _ _ | exact (List.append_assoc _ _ _).symm | exact congrArg _ (List.append_nil _).symm | exact congrArg _ (List.append_nil _) | (simp; done) | (simp [cellsS]; done)) ?_
      refine xnil ?_
      refine xthen ?_
      refine xseqM (fun σ => ∃ (x138 : Bool), palinodelaw05_ClassUnions_j3 x138 r ∧ σ = ⟨[(4, .v (.bool x138))], [], []⟩) ?_ ?_
      · refine xregionD (m := 22) (by kernel_rfl) rfl ?_
        obtain ⟨y140, h139, h⟩ := h
        refine xpval 1 rfl (pv_move rfl) rfl rfl (by kernel_rfl) (by kernel_rfl) (by kernel_rfl) (fun _ _ _ _ h => h) ?_
        refine xpval 3 rfl (pv_move rfl) rfl rfl (by kernel_rfl) (by kernel_rfl) (by kernel_rfl) (fun _ _ _ _ h => h) ?_
        refine xpvalE 0 [] rfl (qv_loadP 0 [] ((List.map ew y120.l).flatten) [] (by first | rfl | exact (List.append_nil _).symm | exact List.append_nil _ | exact List.append_assoc _ _ _ | exact (List.append_assoc _ _ _).symm | exact congrArg _ (List.append_nil _).symm | exact congrArg _ (List.append_nil _) | (simp; done) | (simp [cellsS]; done)) (by first | rfl | exact seg_lenE (by rfl) | exact len_app rfl (seg_lenE (by rfl)) (by rfl) | exact len_app (seg_lenE (by rfl)) rfl (by rfl) | exact len_app rfl (len_app (seg_lenE (by rfl)) rfl (by rfl)) (by rfl) | (simp only [seg_len, cellsS, List.length_append, List.length_cons, List.length_nil]; done) | (simp only [seg_len, cellsS, List.length_append, List.length_cons, List.length_nil]; rfl)) (by first | rfl | exact seg_lenE (by rfl) | exact len_app rfl (seg_lenE (by rfl)) (by rfl) | exact len_app (seg_lenE (by rfl)) rfl (by rfl) | exact len_app rfl (len_app (seg_lenE (by rfl)) rfl (by rfl)) (by rfl) | (simp only [seg_len, cellsS, List.length_append, List.length_cons, List.length_nil]; done) | (simp only [seg_len, cellsS, List.length_append, List.length_cons, List.length_nil]; rfl)) (part_all (seg_lenE (by rfl))) ShpC.h rfl rfl) rfl rfl (by kernel_rfl) (by kernel_rfl) (by kernel_rfl) (fun _ _ _ _ h => h) ?_
        refine xpstep (i := 2) (by kernel_rfl) rfl ?_
        refine wcall0 (class_Has_con y120 c2 _ h139) Try.func8 (by kernel_rfl) rfl (.cons rfl (.refl _) (.cons rfl (.refl _) .nil)) rfl rfl ?_
        refine xpval 4 rfl (pv_eqB UndC.h rfl rfl) rfl rfl (by kernel_rfl) (by kernel_rfl) (by kernel_rfl) (fun _ _ _ _ h => h) ?_
        refine xpval 5 rfl (pv_move rfl) rfl rfl (by kernel_rfl) (by kernel_rfl) (by kernel_rfl) (fun _ _ _ _ h => h) ?_
        by_cases hp142 : (y140 == inv81) = true
        · replace h := h.1 hp142
          refine psetB 34 hp142 rfl ?_
          obtain ⟨y144, h143, h⟩ := h
          refine xpcut 8 #[true, true, true, true, true, true, true, true, true, true, true, true, true, true, false, false, false, false, false, false, false, false] (fun σ => σ = ⟨[(42, .v (.bool (decide ((y144 : Arr 4 (UInt64)) = y120))))], [], []⟩) ?_ (fun key146 => ?_)
          · rintro _ rfl
            by_cases hp147 : (y144 : Arr 4 (UInt64)) = y120
            · replace h := h.1 hp147
              refine psetB 42 (decide_eq_true hp147) rfl ?_
              obtain ⟨y149, h148, h⟩ := h
              refine xpval 15 rfl (pv_buildAC (cs := ((List.map ew ((Arr.rep 4 (0 : UInt64))).l).flatten)) UndC.h ShpC.h InfC.h rfl (by rfl)) rfl rfl (by kernel_rfl) (by kernel_rfl) (by kernel_rfl) (fun _ _ _ _ h => h) ?_
              refine xpstep (i := 14) (by kernel_rfl) rfl ?_
              refine wcall0 (class_Union_con ([] : List (Arr 4 (UInt64))) _ h148) Try.func15 (by kernel_rfl) rfl (.cons rfl (.nil_pl _) .nil) rfl rfl ?_
              refine xpval 16 rfl (pv_eqAgg (f := E_palinode_api_Set) (a := y149) (b := (Arr.rep 4 (0 : UInt64))) (eqC_arr (t := 24) (e := 22) (f := ew) UndC.h ShpC.h (by kernel_rfl) inferInstance (fun _ => rfl)) (by decide) (by kernel_rfl) (by first | rfl | exact congrArg (fun q => some (Sd.agg q)) (by first | rfl | exact (List.append_nil _).symm | exact List.append_nil _ | exact List.append_assoc _ _ _ | exact (List.append_assoc _ _ _).symm | exact congrArg _ (List.append_nil _).symm | exact congrArg _ (List.append_nil _) | (simp; done) | (simp [cellsS]; done))) (by first | rfl | exact congrArg (fun q => some (Sd.agg q)) (by first | rfl | exact (List.append_nil _).symm | exact List.append_nil _ | exact List.append_assoc _ _ _ | exact (List.append_assoc _ _ _).symm | exact congrArg _ (List.append_nil _).symm | exact congrArg _ (List.append_nil _) | (simp; done) | (simp [cellsS]; done)))) rfl rfl (by kernel_rfl) (by kernel_rfl) (by kernel_rfl) (fun _ _ _ _ h => h) ?_
              refine xpval 17 rfl (pv_pick rfl rfl) rfl rfl (by kernel_rfl) (by kernel_rfl) (by kernel_rfl) (fun _ _ _ _ h => h) ?_
              refine xpval 18 rfl (pv_move rfl) rfl rfl (by kernel_rfl) (by kernel_rfl) (by kernel_rfl) (fun _ _ _ _ h => h) ?_
              by_cases hp151 : (y149 : Arr 4 (UInt64)) = (Arr.rep 4 (0 : UInt64))
              · replace h := h.1 hp151
                refine psetB 47 (decide_eq_true hp151) rfl ?_
                obtain ⟨y153, h152, h⟩ := h
                refine xpstep (i := 19) (by kernel_rfl) rfl ?_
                refine wcall0 (palinodelaw05_awake_con _ h152) Try.func14 (by kernel_rfl) rfl .nil rfl rfl ?_
                refine xpval 20 rfl (pv_pick rfl rfl) rfl rfl (by kernel_rfl) (by kernel_rfl) (by kernel_rfl) (fun _ _ _ _ h => h) ?_
                refine xpval 21 rfl (pv_assign rfl) rfl rfl (by kernel_rfl) (by kernel_rfl) (by kernel_rfl) (fun _ _ _ _ h => h) ?_
                refine xpdone (by kernel_rfl) ?_
                exact xmeet ⟨y153, h, rfl⟩ ⟨(.cons rfl (.refl _) (.nil _)), (SubM.of (.nil _) (.nil _))⟩
              · replace h := h.2 hp151
                refine psetB 47 (decide_eq_false hp151) rfl ?_
                refine xpskip 19 rfl rfl rfl (by kernel_rfl) (by kernel_rfl) (by kernel_rfl) (fun _ _ _ _ h => h) ?_
                refine xpval 20 rfl (pv_pick rfl rfl) rfl rfl (by kernel_rfl) (by kernel_rfl) (by kernel_rfl) (fun _ _ _ _ h => h) ?_
                refine xpval 21 rfl (pv_assign rfl) rfl rfl (by kernel_rfl) (by kernel_rfl) (by kernel_rfl) (fun _ _ _ _ h => h) ?_
                refine xpdone (by kernel_rfl) ?_
                exact xmeet ⟨false, h, rfl⟩ ⟨(.cons rfl (.refl _) (.nil _)), (SubM.of (.nil _) (.nil _))⟩
            · replace h := h.2 hp147
              refine psetB 42 (decide_eq_false hp147) rfl ?_
              refine xpskip 14 rfl rfl rfl (by kernel_rfl) (by kernel_rfl) (by kernel_rfl) (fun _ _ _ _ h => h) ?_
              refine xpskip 15 rfl rfl rfl (by kernel_rfl) (by kernel_rfl) (by kernel_rfl) (fun _ _ _ _ h => h) ?_
              refine xpskip 16 rfl rfl rfl (by kernel_rfl) (by kernel_rfl) (by kernel_rfl) (fun _ _ _ _ h => h) ?_
              refine xpval 17 rfl (pv_pick rfl rfl) rfl rfl (by kernel_rfl) (by kernel_rfl) (by kernel_rfl) (fun _ _ _ _ h => h) ?_
              refine xpval 18 rfl (pv_move rfl) rfl rfl (by kernel_rfl) (by kernel_rfl) (by kernel_rfl) (fun _ _ _ _ h => h) ?_
              refine xpskip 19 rfl rfl rfl (by kernel_rfl) (by kernel_rfl) (by kernel_rfl) (fun _ _ _ _ h => h) ?_
              refine xpval 20 rfl (pv_pick rfl rfl) rfl rfl (by kernel_rfl) (by kernel_rfl) (by kernel_rfl) (fun _ _ _ _ h => h) ?_
              refine xpval 21 rfl (pv_assign rfl) rfl rfl (by kernel_rfl) (by kernel_rfl) (by kernel_rfl) (fun _ _ _ _ h => h) ?_
              refine xpdone (by kernel_rfl) ?_
              exact xmeet ⟨false, h, rfl⟩ ⟨(.cons rfl (.refl _) (.nil _)), (SubM.of (.nil _) (.nil _))⟩
          refine xpcut 12 #[true, true, true, true, true, true, true, true, true, false, true, false, false, false, false, false, false, false, false, false, false, false] (fun σ => ∃ (i154 : Option (Nat × Nat)), σ = ⟨[(34, .v (.bool true)), (37, .sl 4 (some i154) (List.map E_palinode_api_Set ([y120, y120]))), (39, .agg ((List.map ew y120.l).flatten))], [], [⟨i154, 24, 4, ([y120, y120]).length⟩]⟩) ?_ (fun key155 => ?_)
          · rintro _ ⟨i154, rfl⟩
            refine xpstep (i := 9) (by kernel_rfl) rfl ?_
            refine wcall0 (class_Union_con ([y120, y120]) _ h143) Try.func15 (by kernel_rfl) rfl (.cons rfl (.tok _ _ _) .nil) rfl rfl ?_
            refine xpval 11 rfl (pv_eqAgg (f := E_palinode_api_Set) (a := y144) (b := y120) (eqC_arr (t := 24) (e := 22) (f := ew) UndC.h ShpC.h (by kernel_rfl) inferInstance (fun _ => rfl)) (by decide) (by kernel_rfl) (by first | rfl | exact congrArg (fun q => some (Sd.agg q)) (by first | rfl | exact (List.append_nil _).symm | exact List.append_nil _ | exact List.append_assoc _ _ _ | exact (List.append_assoc _ _ _).symm | exact congrArg _ (List.append_nil _).symm | exact congrArg _ (List.append_nil _) | (simp; done) | (simp [cellsS]; done))) (by first | rfl | exact congrArg (fun q => some (Sd.agg q)) (by first | rfl | exact (List.append_nil _).symm | exact List.append_nil _ | exact List.append_assoc _ _ _ | exact (List.append_assoc _ _ _).symm | exact congrArg _ (List.append_nil _).symm | exact congrArg _ (List.append_nil _) | (simp; done) | (simp [cellsS]; done)))) rfl rfl (by kernel_rfl) (by kernel_rfl) (by kernel_rfl) (fun _ _ _ _ h => h) ?_
            refine xpval 12 rfl (pv_pick rfl rfl) rfl rfl (by kernel_rfl) (by kernel_rfl) (by kernel_rfl) (fun _ _ _ _ h => h) ?_
            refine xpval 13 rfl (pv_move rfl) rfl rfl (by kernel_rfl) (by kernel_rfl) (by kernel_rfl) (fun _ _ _ _ h => h) ?_
            exact xpuse key146 rfl ⟨(.cons rfl (.refl _) (.nil _)), (SubM.of (.nil _) (.nil _))⟩ rfl (by kernel_rfl)
          refine xpvalE 6 [7, 10] rfl (qv_loadP 0 [] ((List.map ew y120.l).flatten) [] (by first | rfl | exact (List.append_nil _).symm | exact List.append_nil _ | exact List.append_assoc _ _ _ | exact (List.append_assoc _ _ _).symm | exact congrArg _ (List.append_nil _).symm | exact congrArg _ (List.append_nil _) | (simp; done) | (simp [cellsS]; done)) (by first | rfl | exact seg_lenE (by rfl) | exact len_app rfl (seg_lenE (by rfl)) (by rfl) | exact len_app (seg_lenE (by rfl)) rfl (by rfl) | exact len_app rfl (len_app (seg_lenE (by rfl)) rfl (by rfl)) (by rfl) | (simp only [seg_len, cellsS, List.length_append, List.length_cons, List.length_nil]; done) | (simp only [seg_len, cellsS, List.length_append, List.length_cons, List.length_nil]; rfl)) (by first | rfl | exact seg_lenE (by rfl) | exact len_app rfl (seg_lenE (by rfl)) (by rfl) | exact len_app (seg_lenE (by rfl)) rfl (by rfl) | exact len_app rfl (len_app (seg_lenE (by rfl)) rfl (by rfl)) (by rfl) | (simp only [seg_len, cellsS, List.length_append, List.length_cons, List.length_nil]; done) | (simp only [seg_len, cellsS, List.length_append, List.length_cons, List.length_nil]; rfl)) (part_all (seg_lenE (by rfl))) ShpC.h rfl rfl) rfl rfl (by kernel_rfl) (by kernel_rfl) (by kernel_rfl) (fun _ _ _ _ h => h) ?_
          refine xpvalE 7 [10] rfl (qv_loadP 0 [] ((List.map ew y120.l).flatten) [] (by first | rfl | exact (List.append_nil _).symm | exact List.append_nil _ | exact List.append_assoc _ _ _ | exact (List.append_assoc _ _ _).symm | exact congrArg _ (List.append_nil _).symm | exact congrArg _ (List.append_nil _) | (simp; done) | (simp [cellsS]; done)) (by first | rfl | exact seg_lenE (by rfl) | exact len_app rfl (seg_lenE (by rfl)) (by rfl) | exact len_app (seg_lenE (by rfl)) rfl (by rfl) | exact len_app rfl (len_app (seg_lenE (by rfl)) rfl (by rfl)) (by rfl) | (simp only [seg_len, cellsS, List.length_append, List.length_cons, List.length_nil]; done) | (simp only [seg_len, cellsS, List.length_append, List.length_cons, List.length_nil]; rfl)) (by first | rfl | exact seg_lenE (by rfl) | exact len_app rfl (seg_lenE (by rfl)) (by rfl) | exact len_app (seg_lenE (by rfl)) rfl (by rfl) | exact len_app rfl (len_app (seg_lenE (by rfl)) rfl (by rfl)) (by rfl) | (simp only [seg_len, cellsS, List.length_append, List.length_cons, List.length_nil]; done) | (simp only [seg_len, cellsS, List.length_append, List.length_cons, List.length_nil]; rfl)) (part_all (seg_lenE (by rfl))) ShpC.h rfl rfl) rfl rfl (by kernel_rfl) (by kernel_rfl) (by kernel_rfl) (fun _ _ _ _ h => h) ?_
          refine xpstepN (is := [8, 10]) (by kernel_rfl) (by simp) ?_
          intro i hi; simp only [List.mem_cons, List.not_mem_nil, or_false] at hi; rcases hi with rfl | rfl
          · refine ⟨_, rfl, ?_⟩
            refine wbuildSliceME (f := E_palinode_api_Set) [y120, y120] UndC.h InfC.h rfl (.cons rfl (beq_of (seg_lenE (by rfl))) rfl rfl (.cons rfl (beq_of (seg_lenE (by rfl))) rfl rfl .nil)) (by first | exact wkR_of rfl | (repeat (first | exact WkR.nil | refine WkR.cons (by (repeat (first | exact WkL.nil | refine WkL.cons (by first | with_reducible exact Wk.refl _ | exact Wk.nil_own _ | exact Wk.nil_pl _ | with_reducible exact Wk.tok _ _ _ | exact Wk.tok _ _ _ | exact Wk.eq (by first | rfl | (simp []; done) | (simp []; omega))) ?_))) ?_))) rfl rfl rfl rfl fun s37 => ?_
            refine xpstepN (is := [9, 10]) (by kernel_rfl) (by simp) ?_
            intro i hi; simp only [List.mem_cons, List.not_mem_nil, or_false] at hi; rcases hi with rfl | rfl
            · refine ⟨_, rfl, ?_⟩
              refine wcall0 (class_Union_con ([y120, y120]) _ h143) Try.func15 (by kernel_rfl) rfl (.cons rfl (.tok _ _ _) .nil) rfl rfl ?_
              refine xpvalE 10 [] rfl (qv_loadP 0 [] ((List.map ew y120.l).flatten) [] (by first | rfl | exact (List.append_nil _).symm | exact List.append_nil _ | exact List.append_assoc _ _ _ | exact (List.append_assoc _ _ _).symm | exact congrArg _ (List.append_nil _).symm | exact congrArg _ (List.append_nil _) | (simp; done) | (simp [cellsS]; done)) (by first | rfl | exact seg_lenE (by rfl) | exact len_app rfl (seg_lenE (by rfl)) (by rfl) | exact len_app (seg_lenE (by rfl)) rfl (by rfl) | exact len_app rfl (len_app (seg_lenE (by rfl)) rfl (by rfl)) (by rfl) | (simp only [seg_len, cellsS, List.length_append, List.length_cons, List.length_nil]; done) | (simp only [seg_len, cellsS, List.length_append, List.length_cons, List.length_nil]; rfl)) (by first | rfl | exact seg_lenE (by rfl) | exact len_app rfl (seg_lenE (by rfl)) (by rfl) | exact len_app (seg_lenE (by rfl)) rfl (by rfl) | exact len_app rfl (len_app (seg_lenE (by rfl)) rfl (by rfl)) (by rfl) | (simp only [seg_len, cellsS, List.length_append, List.length_cons, List.length_nil]; done) | (simp only [seg_len, cellsS, List.length_append, List.length_cons, List.length_nil]; rfl)) (part_all (seg_lenE (by rfl))) ShpC.h rfl rfl) rfl rfl (by kernel_rfl) (by kernel_rfl) (by kernel_rfl) (fun _ _ _ _ h => h) ?_
              refine xpval 11 rfl (pv_eqAgg (f := E_palinode_api_Set) (a := y144) (b := y120) (eqC_arr (t := 24) (e := 22) (f := ew) UndC.h ShpC.h (by kernel_rfl) inferInstance (fun _ => rfl)) (by decide) (by kernel_rfl) (by first | rfl | exact congrArg (fun q => some (Sd.agg q)) (by first | rfl | exact (List.append_nil _).symm | exact List.append_nil _ | exact List.append_assoc _ _ _ | exact (List.append_assoc _ _ _).symm | exact congrArg _ (List.append_nil _).symm | exact congrArg _ (List.append_nil _) | (simp; done) | (simp [cellsS]; done))) (by first | rfl | exact congrArg (fun q => some (Sd.agg q)) (by first | rfl | exact (List.append_nil _).symm | exact List.append_nil _ | exact List.append_assoc _ _ _ | exact (List.append_assoc _ _ _).symm | exact congrArg _ (List.append_nil _).symm | exact congrArg _ (List.append_nil _) | (simp; done) | (simp [cellsS]; done)))) rfl rfl (by kernel_rfl) (by kernel_rfl) (by kernel_rfl) (fun _ _ _ _ h => h) ?_
              refine xpval 12 rfl (pv_pick rfl rfl) rfl rfl (by kernel_rfl) (by kernel_rfl) (by kernel_rfl) (fun _ _ _ _ h => h) ?_
              refine xpval 13 rfl (pv_move rfl) rfl rfl (by kernel_rfl) (by kernel_rfl) (by kernel_rfl) (fun _ _ _ _ h => h) ?_
              exact xpuse key146 rfl ⟨(.cons rfl (.refl _) (.nil _)), (SubM.of (.nil _) (.nil _))⟩ rfl (by kernel_rfl)
            · refine ⟨_, rfl, ?_⟩
              refine wval (qv_loadP 0 [] ((List.map ew y120.l).flatten) [] (by first | rfl | exact (List.append_nil _).symm | exact List.append_nil _ | exact List.append_assoc _ _ _ | exact (List.append_assoc _ _ _).symm | exact congrArg _ (List.append_nil _).symm | exact congrArg _ (List.append_nil _) | (simp; done) | (simp [cellsS]; done)) (by first | rfl | exact seg_lenE (by rfl) | exact len_app rfl (seg_lenE (by rfl)) (by rfl) | exact len_app (seg_lenE (by rfl)) rfl (by rfl) | exact len_app rfl (len_app (seg_lenE (by rfl)) rfl (by rfl)) (by rfl) | (simp only [seg_len, cellsS, List.length_append, List.length_cons, List.length_nil]; done) | (simp only [seg_len, cellsS, List.length_append, List.length_cons, List.length_nil]; rfl)) (by first | rfl | exact seg_lenE (by rfl) | exact len_app rfl (seg_lenE (by rfl)) (by rfl) | exact len_app (seg_lenE (by rfl)) rfl (by rfl) | exact len_app rfl (len_app (seg_lenE (by rfl)) rfl (by rfl)) (by rfl) | (simp only [seg_len, cellsS, List.length_append, List.length_cons, List.length_nil]; done) | (simp only [seg_len, cellsS, List.length_append, List.length_cons, List.length_nil]; rfl)) (part_all (seg_lenE (by rfl))) ShpC.h rfl rfl) rfl rfl ?_
              exact xpuse key155 ⟨(some (s37, 2)), rfl⟩ ⟨(.cons rfl (.refl _) (.cons rfl (.refl _) (.cons rfl (.refl _) (.nil _)))), (SubM.of (.nil _) (.keep rfl (.nil _)))⟩ rfl (by kernel_rfl)
          · refine ⟨_, rfl, ?_⟩
            refine wval (qv_loadP 0 [] ((List.map ew y120.l).flatten) [] (by first | rfl | exact (List.append_nil _).symm | exact List.append_nil _ | exact List.append_assoc _ _ _ | exact (List.append_assoc _ _ _).symm | exact congrArg _ (List.append_nil _).symm | exact congrArg _ (List.append_nil _) | (simp; done) | (simp [cellsS]; done)) (by first | rfl | exact seg_lenE (by rfl) | exact len_app rfl (seg_lenE (by rfl)) (by rfl) | exact len_app (seg_lenE (by rfl)) rfl (by rfl) | exact len_app rfl (len_app (seg_lenE (by rfl)) rfl (by rfl)) (by rfl) | (simp only [seg_len, cellsS, List.length_append, List.length_cons, List.length_nil]; done) | (simp only [seg_len, cellsS, List.length_append, List.length_cons, List.length_nil]; rfl)) (by first | rfl | exact seg_lenE (by rfl) | exact len_app rfl (seg_lenE (by rfl)) (by rfl) | exact len_app (seg_lenE (by rfl)) rfl (by rfl) | exact len_app rfl (len_app (seg_lenE (by rfl)) rfl (by rfl)) (by rfl) | (simp only [seg_len, cellsS, List.length_append, List.length_cons, List.length_nil]; done) | (simp only [seg_len, cellsS, List.length_append, List.length_cons, List.length_nil]; rfl)) (part_all (seg_lenE (by rfl))) ShpC.h rfl rfl) rfl rfl ?_
            refine xpstep (i := 8) (by kernel_rfl) rfl ?_
            refine wbuildSliceME (f := E_palinode_api_Set) [y120, y120] UndC.h InfC.h rfl (.cons rfl (beq_of (seg_lenE (by rfl))) rfl rfl (.cons rfl (beq_of (seg_lenE (by rfl))) rfl rfl .nil)) (by first | exact wkR_of rfl | (repeat (first | exact WkR.nil | refine WkR.cons (by (repeat (first | exact WkL.nil | refine WkL.cons (by first | with_reducible exact Wk.refl _ | exact Wk.nil_own _ | exact Wk.nil_pl _ | with_reducible exact Wk.tok _ _ _ | exact Wk.tok _ _ _ | exact Wk.eq (by first | rfl | (simp []; done) | (simp []; omega))) ?_))) ?_))) rfl rfl rfl rfl fun s37 => ?_
            exact xpuse key155 ⟨(some (s37, 2)), rfl⟩ ⟨(.cons rfl (.refl _) (.cons rfl (.refl _) (.cons rfl (.refl _) (.nil _)))), (SubM.of (.nil _) (.keep rfl (.nil _)))⟩ rfl (by kernel_rfl)
        · replace h := h.2 hp142
          refine psetB 34 (b_f hp142) rfl ?_
          refine xpskip 6 rfl rfl rfl (by kernel_rfl) (by kernel_rfl) (by kernel_rfl) (fun _ _ _ _ h => h) ?_
          refine xpskip 7 rfl rfl rfl (by kernel_rfl) (by kernel_rfl) (by kernel_rfl) (fun _ _ _ _ h => h) ?_
          refine xpskip 8 rfl rfl rfl (by kernel_rfl) (by kernel_rfl) (by kernel_rfl) (fun _ _ _ _ h => h) ?_
          refine xpskip 9 rfl rfl rfl (by kernel_rfl) (by kernel_rfl) (by kernel_rfl) (fun _ _ _ _ h => h) ?_
          refine xpskip 10 rfl rfl rfl (by kernel_rfl) (by kernel_rfl) (by kernel_rfl) (fun _ _ _ _ h => h) ?_
          refine xpskip 11 rfl rfl rfl (by kernel_rfl) (by kernel_rfl) (by kernel_rfl) (fun _ _ _ _ h => h) ?_
          refine xpval 12 rfl (pv_pick rfl rfl) rfl rfl (by kernel_rfl) (by kernel_rfl) (by kernel_rfl) (fun _ _ _ _ h => h) ?_
          refine xpval 13 rfl (pv_move rfl) rfl rfl (by kernel_rfl) (by kernel_rfl) (by kernel_rfl) (fun _ _ _ _ h => h) ?_
          refine xpskip 14 rfl rfl rfl (by kernel_rfl) (by kernel_rfl) (by kernel_rfl) (fun _ _ _ _ h => h) ?_
          refine xpskip 15 rfl rfl rfl (by kernel_rfl) (by kernel_rfl) (by kernel_rfl) (fun _ _ _ _ h => h) ?_
          refine xpskip 16 rfl rfl rfl (by kernel_rfl) (by kernel_rfl) (by kernel_rfl) (fun _ _ _ _ h => h) ?_
          refine xpval 17 rfl (pv_pick rfl rfl) rfl rfl (by kernel_rfl) (by kernel_rfl) (by kernel_rfl) (fun _ _ _ _ h => h) ?_
          refine xpval 18 rfl (pv_move rfl) rfl rfl (by kernel_rfl) (by kernel_rfl) (by kernel_rfl) (fun _ _ _ _ h => h) ?_
          refine xpskip 19 rfl rfl rfl (by kernel_rfl) (by kernel_rfl) (by kernel_rfl) (fun _ _ _ _ h => h) ?_
          refine xpval 20 rfl (pv_pick rfl rfl) rfl rfl (by kernel_rfl) (by kernel_rfl) (by kernel_rfl) (fun _ _ _ _ h => h) ?_
          refine xpval 21 rfl (pv_assign rfl) rfl rfl (by kernel_rfl) (by kernel_rfl) (by kernel_rfl) (fun _ _ _ _ h => h) ?_
          refine xpdone (by kernel_rfl) ?_
          exact xmeet ⟨false, h, rfl⟩ ⟨(.cons rfl (.refl _) (.nil _)), (SubM.of (.nil _) (.nil _))⟩
      · clear h
        rintro _ ⟨x138, h, rfl⟩
        refine xretc ?_
        replace h := h.symm
        subst h
        exact xret1 hg rfl rfl (.refl _) (SubM.of (.nil _) (.nil _)) ⟨rfl, rfl, rfl⟩
end Go.Proofs.Ytjemjopjiohcoaa
