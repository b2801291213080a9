/- What functions' texts ask for, and the walks that show it (printed by a program). -/
import Derived.Test.YtjemjopjiohcoaaGK
namespace Go.Proofs.Ytjemjopjiohcoaa
/-- palinodelaw05.ClassTells -/
def palinodelaw05_ClassTells_j1 (x52 : Bool) (r : Bool) : Prop :=
  r = x52
def palinodelaw05_ClassTells_R (s1 : Arr 4 (UInt64)) (c2 : UInt8) (r : Bool) : Prop :=
  ∃ y4 : (List UInt8), palinoderef05_Bytes_R s1 y4 ∧ ∃ y54 : Bool, class_Has_R s1 c2 y54 ∧ ∃ y56 : Bool, palinoderef05_Has_R s1 c2 y56 ∧ (((y54 == y56) = true → ∃ y61 : (Arr 4 (UInt64)), class_Not_R s1 y61 ∧ ∃ y63 : Bool, class_Has_R y61 c2 y63 ∧ ∃ y65 : Bool, palinoderef05_Has_R s1 c2 y65 ∧ ((¬ ((y63 == y65) = true) → ∃ y70 : (List UInt8), class_Bytes_R s1 y70 ∧ ∃ y73 : Bool, palinoderef01_Same_R y70 y4 y73 ∧ ((y73 = true → ∃ y76 : Int, class_Count_R s1 y76 ∧ ((y76 = (y4.length : Int) → ∃ y81 : (Arr 4 (UInt64)), class_Not_R s1 y81 ∧ ∃ y83 : (Arr 4 (UInt64)), class_Not_R y81 y83 ∧ (((y83 : Arr 4 (UInt64)) = s1 → ∃ y88 : (Arr 4 (UInt64)), class_Not_R s1 y88 ∧ ∃ y90 : Int, class_Count_R y88 y90 ∧ InR (256 - (y4.length : Int)) ∧ ((y90 = (256 - (y4.length : Int)) → ∃ y96 : Bool, palinodelaw05_awake_R y96 ∧ palinodelaw05_ClassTells_j1 y96 r) ∧ (¬ (y90 = (256 - (y4.length : Int))) → palinodelaw05_ClassTells_j1 false r))) ∧ (¬ ((y83 : Arr 4 (UInt64)) = s1) → palinodelaw05_ClassTells_j1 false r))) ∧ (¬ (y76 = (y4.length : Int)) → palinodelaw05_ClassTells_j1 false r))) ∧ (¬ (y73 = true) → palinodelaw05_ClassTells_j1 false r))) ∧ (¬ (¬ ((y63 == y65) = true)) → palinodelaw05_ClassTells_j1 false r))) ∧ (¬ ((y54 == y56) = true) → palinodelaw05_ClassTells_j1 false r))
set_option maxHeartbeats 4000000 in
theorem palinodelaw05_ClassTells_con (s1 : Arr 4 (UInt64)) (c2 : UInt8) (r : Bool) (h : palinodelaw05_ClassTells_R s1 c2 r) : Con Try.prog 3 [.agg ((List.map ew s1.l).flatten), .v (.int .u8 ((c2.toNat : Int)))] [] [] (Ret (.v (.bool r))) := by
  refine xenter Try.func3 rfl rfl fun g hg => ?_
  simp only [Try.ntmps3, slots]
  refine xseq ?_
  refine xregion ?_
  refine xbox rfl rfl rfl rfl fun b2 => ?_
  refine xvalP (pv_assign rfl) rfl rfl ?_
  refine xnil ?_
  refine xthen ?_
  refine xseq ?_
  refine xregion ?_
  refine xval (qv_loadP 0 [] ((List.map ew s1.l).flatten) [] (by first | rfl | exact (List.append_nil _).symm | exact List.append_nil _ | exact List.append_assoc _ _ _ | exact (List.append_assoc _ _ _).symm | exact congrArg _ (List.append_nil _).symm | exact congrArg _ (List.append_nil _) | (simp; done) | (simp [cellsS]; done)) (by first | rfl | exact seg_lenE (by rfl) | exact len_app rfl (seg_lenE (by rfl)) (by rfl) | exact len_app (seg_lenE (by rfl)) rfl (by rfl) | exact len_app rfl (len_app (seg_lenE (by rfl)) rfl (by rfl)) (by rfl) | (simp only [seg_len, cellsS, List.length_append, List.length_cons, List.length_nil]; done) | (simp only [seg_len, cellsS, List.length_append, List.length_cons, List.length_nil]; rfl)) (by first | rfl | exact seg_lenE (by rfl) | exact len_app rfl (seg_lenE (by rfl)) (by rfl) | exact len_app (seg_lenE (by rfl)) rfl (by rfl) | exact len_app rfl (len_app (seg_lenE (by rfl)) rfl (by rfl)) (by rfl) | (simp only [seg_len, cellsS, List.length_append, List.length_cons, List.length_nil]; done) | (simp only [seg_len, cellsS, List.length_append, List.length_cons, List.length_nil]; rfl)) (part_all (seg_lenE (by rfl))) ShpC.h rfl rfl) rfl rfl ?_
  obtain ⟨y4, h3, h⟩ := h
  refine xcallM (palinoderef05_Bytes_con s1 _ h3) Try.func7 (by kernel_rfl) rfl (.cons rfl (.refl _) .nil) rfl rfl fun i5 => ?_
  refine xvalP (pv_assign rfl) rfl rfl ?_
  refine xnil ?_
  refine xthen ?_
  refine xseqM (fun σ => ∃ (x52 : Bool), palinodelaw05_ClassTells_j1 x52 r ∧ σ = ⟨[(4, .v (.bool x52))], [], []⟩) ?_ ?_
  · refine xregionD (m := 50) (by kernel_rfl) rfl ?_
    obtain ⟨y54, h53, h⟩ := h
    obtain ⟨y56, h55, h⟩ := h
    refine xpcut 45 #[true, true, true, true, true, false, false, false, false, false, false, false, false, false, false, false, false, false, false, false, false, false, false, false, false, false, false, false, false, false, false, false, false, false, false, false, false, false, false, false, false, false, false, false, false, false, false, false, false, false] (fun σ => σ = ⟨[(1, .v (.int .u8 ((c2.toNat : Int)))), (2, .v (.pointer (some ⟨b2, 0, none⟩))), (4, .v (.bool false)), (5, .sl 1 (some i5) (List.map eb y4)), (10, .v (.bool y54)), (11, .agg ((List.map ew s1.l).flatten)), (12, .v (.int .u8 ((c2.toNat : Int))))], [⟨b2, 24, ((List.map ew s1.l).flatten)⟩], [⟨i5, 5, 1, y4.length⟩]⟩) ?_ (fun key58 => ?_)
    · rintro _ rfl
      refine xpstep (i := 5) (by kernel_rfl) rfl ?_
      refine wcall0 (palinoderef05_Has_con s1 c2 _ h55) Try.func9 (by kernel_rfl) rfl (.cons rfl (.refl _) (.cons rfl (.refl _) .nil)) rfl rfl ?_
      refine xpval 6 rfl (pv_eqB UndC.h rfl rfl) rfl rfl (by kernel_rfl) (by kernel_rfl) (by kernel_rfl) (fun _ _ _ _ h => h) ?_
      refine xpval 7 rfl (pv_move rfl) rfl rfl (by kernel_rfl) (by kernel_rfl) (by kernel_rfl) (fun _ _ _ _ h => h) ?_
      by_cases hp59 : (y54 == y56) = true
      · replace h := h.1 hp59
        refine psetB 15 hp59 rfl ?_
        obtain ⟨y61, h60, h⟩ := h
        obtain ⟨y63, h62, h⟩ := h
        obtain ⟨y65, h64, h⟩ := h
        refine xpcut 36 #[true, true, true, true, true, true, true, true, true, true, true, true, true, true, false, false, false, false, false, false, false, false, false, false, false, false, false, false, false, false, false, false, false, false, false, false, false, false, false, false, false, false, false, false, false, false, false, false, false, false] (fun σ => σ = ⟨[(2, .v (.pointer (some ⟨b2, 0, none⟩))), (4, .v (.bool false)), (5, .sl 1 (some i5) (List.map eb y4)), (15, .v (.bool true)), (19, .v (.bool y63)), (20, .agg ((List.map ew s1.l).flatten)), (21, .v (.int .u8 ((c2.toNat : Int))))], [⟨b2, 24, ((List.map ew s1.l).flatten)⟩], [⟨i5, 5, 1, y4.length⟩]⟩) ?_ (fun key67 => ?_)
        · rintro _ rfl
          refine xpstep (i := 14) (by kernel_rfl) rfl ?_
          refine wcall0 (palinoderef05_Has_con s1 c2 _ h64) Try.func9 (by kernel_rfl) rfl (.cons rfl (.refl _) (.cons rfl (.refl _) .nil)) rfl rfl ?_
          refine xpval 15 rfl (pv_neB UndC.h rfl rfl) rfl rfl (by kernel_rfl) (by kernel_rfl) (by kernel_rfl) (fun _ _ _ _ h => h) ?_
          refine xpval 16 rfl (pv_pick rfl rfl) rfl rfl (by kernel_rfl) (by kernel_rfl) (by kernel_rfl) (fun _ _ _ _ h => h) ?_
          refine xpval 17 rfl (pv_move rfl) rfl rfl (by kernel_rfl) (by kernel_rfl) (by kernel_rfl) (fun _ _ _ _ h => h) ?_
          by_cases hp68 : ¬ ((y63 == y65) = true)
          · replace h := h.1 hp68
            refine psetB 25 (not_t (b_f hp68)) rfl ?_
            obtain ⟨y70, h69, h⟩ := h
            obtain ⟨y73, h72, h⟩ := h
            refine xpval 20 rfl (pv_move rfl) rfl rfl (by kernel_rfl) (by kernel_rfl) (by kernel_rfl) (fun _ _ _ _ h => h) ?_
            refine xpvalE 18 [] rfl (qv_loadP 0 [] ((List.map ew s1.l).flatten) [] (by first | rfl | exact (List.append_nil _).symm | exact List.append_nil _ | exact List.append_assoc _ _ _ | exact (List.append_assoc _ _ _).symm | exact congrArg _ (List.append_nil _).symm | exact congrArg _ (List.append_nil _) | (simp; done) | (simp [cellsS]; done)) (by first | rfl | exact seg_lenE (by rfl) | exact len_app rfl (seg_lenE (by rfl)) (by rfl) | exact len_app (seg_lenE (by rfl)) rfl (by rfl) | exact len_app rfl (len_app (seg_lenE (by rfl)) rfl (by rfl)) (by rfl) | (simp only [seg_len, cellsS, List.length_append, List.length_cons, List.length_nil]; done) | (simp only [seg_len, cellsS, List.length_append, List.length_cons, List.length_nil]; rfl)) (by first | rfl | exact seg_lenE (by rfl) | exact len_app rfl (seg_lenE (by rfl)) (by rfl) | exact len_app (seg_lenE (by rfl)) rfl (by rfl) | exact len_app rfl (len_app (seg_lenE (by rfl)) rfl (by rfl)) (by rfl) | (simp only [seg_len, cellsS, List.length_append, List.length_cons, List.length_nil]; done) | (simp only [seg_len, cellsS, List.length_append, List.length_cons, List.length_nil]; rfl)) (part_all (seg_lenE (by rfl))) ShpC.h rfl rfl) rfl rfl (by kernel_rfl) (by kernel_rfl) (by kernel_rfl) (fun _ _ _ _ h => h) ?_
            refine xpstep (i := 19) (by kernel_rfl) rfl ?_
            refine wcallM (class_Bytes_con s1 _ h69) Try.func12 (by kernel_rfl) rfl (.cons rfl (.refl _) .nil) rfl rfl fun i71 => ?_
            refine xpstep (i := 21) (by kernel_rfl) rfl ?_
            refine wcall0 (palinoderef01_Same_con y70 y4 _ h72) Try.func11 (by kernel_rfl) rfl (.cons rfl (.tok _ _ _) (.cons rfl (.tok _ _ _) .nil)) rfl rfl ?_
            refine xpval 22 rfl (pv_pick rfl rfl) rfl rfl (by kernel_rfl) (by kernel_rfl) (by kernel_rfl) (fun _ _ _ _ h => h) ?_
            refine xpval 23 rfl (pv_move rfl) rfl rfl (by kernel_rfl) (by kernel_rfl) (by kernel_rfl) (fun _ _ _ _ h => h) ?_
            by_cases hp74 : y73 = true
            · replace h := h.1 hp74
              refine psetB 31 hp74 rfl ?_
              obtain ⟨y76, h75, h⟩ := h
              refine xpval 26 rfl (pv_move rfl) rfl rfl (by kernel_rfl) (by kernel_rfl) (by kernel_rfl) (fun _ _ _ _ h => h) ?_
              refine xpval 27 rfl (pv_lenM UndC.h rfl) rfl rfl (by kernel_rfl) (by kernel_rfl) (by kernel_rfl) (fun _ _ _ _ h => h) ?_
              refine xpvalE 24 [] rfl (qv_loadP 0 [] ((List.map ew s1.l).flatten) [] (by first | rfl | exact (List.append_nil _).symm | exact List.append_nil _ | exact List.append_assoc _ _ _ | exact (List.append_assoc _ _ _).symm | exact congrArg _ (List.append_nil _).symm | exact congrArg _ (List.append_nil _) | (simp; done) | (simp [cellsS]; done)) (by first | rfl | exact seg_lenE (by rfl) | exact len_app rfl (seg_lenE (by rfl)) (by rfl) | exact len_app (seg_lenE (by rfl)) rfl (by rfl) | exact len_app rfl (len_app (seg_lenE (by rfl)) rfl (by rfl)) (by rfl) | (simp only [seg_len, cellsS, List.length_append, List.length_cons, List.length_nil]; done) | (simp only [seg_len, cellsS, List.length_append, List.length_cons, List.length_nil]; rfl)) (by first | rfl | exact seg_lenE (by rfl) | exact len_app rfl (seg_lenE (by rfl)) (by rfl) | exact len_app (seg_lenE (by rfl)) rfl (by rfl) | exact len_app rfl (len_app (seg_lenE (by rfl)) rfl (by rfl)) (by rfl) | (simp only [seg_len, cellsS, List.length_append, List.length_cons, List.length_nil]; done) | (simp only [seg_len, cellsS, List.length_append, List.length_cons, List.length_nil]; rfl)) (part_all (seg_lenE (by rfl))) ShpC.h rfl rfl) rfl rfl (by kernel_rfl) (by kernel_rfl) (by kernel_rfl) (fun _ _ _ _ h => h) ?_
              refine xpstep (i := 25) (by kernel_rfl) rfl ?_
              refine wcall0 (class_Count_con s1 _ h75) Try.func13 (by kernel_rfl) rfl (.cons rfl (.refl _) .nil) rfl rfl ?_
              refine xpval 28 rfl (pv_bin2 rfl rfl rfl) rfl rfl (by kernel_rfl) (by kernel_rfl) (by kernel_rfl) (fun _ _ _ _ h => h) ?_
              refine xpval 29 rfl (pv_pick rfl rfl) rfl rfl (by kernel_rfl) (by kernel_rfl) (by kernel_rfl) (fun _ _ _ _ h => h) ?_
              refine xpval 30 rfl (pv_move rfl) rfl rfl (by kernel_rfl) (by kernel_rfl) (by kernel_rfl) (fun _ _ _ _ h => h) ?_
              by_cases hp79 : y76 = (y4.length : Int)
              · replace h := h.1 hp79
                refine psetB 38 (decide_eq_true hp79) rfl ?_
                obtain ⟨y81, h80, h⟩ := h
                obtain ⟨y83, h82, h⟩ := h
                refine xpcut 12 #[true, true, true, true, true, true, true, true, true, true, true, true, true, true, true, true, true, true, true, true, true, true, true, true, true, true, true, true, true, true, true, true, true, true, true, true, true, true, false, false, false, false, false, false, false, false, false, false, false, false] (fun σ => σ = ⟨[(2, .v (.pointer (some ⟨b2, 0, none⟩))), (4, .v (.bool false)), (5, .sl 1 (some i5) (List.map eb y4)), (45, .v (.bool (decide ((y83 : Arr 4 (UInt64)) = s1))))], [⟨b2, 24, ((List.map ew s1.l).flatten)⟩], [⟨i5, 5, 1, y4.length⟩]⟩) ?_ (fun key85 => ?_)
                · rintro _ rfl
                  by_cases hp86 : (y83 : Arr 4 (UInt64)) = s1
                  · replace h := h.1 hp86
                    refine psetB 45 (decide_eq_true hp86) rfl ?_
                    obtain ⟨y88, h87, h⟩ := h
                    obtain ⟨y90, h89, h⟩ := h
                    obtain ⟨h92, h⟩ := h
                    refine xpval 41 rfl (pv_move rfl) rfl rfl (by kernel_rfl) (by kernel_rfl) (by kernel_rfl) (fun _ _ _ _ h => h) ?_
                    refine xpval 42 rfl (pv_lenM UndC.h rfl) rfl rfl (by kernel_rfl) (by kernel_rfl) (by kernel_rfl) (fun _ _ _ _ h => h) ?_
                    refine xpval 43 rfl (pv_subI h92 rfl rfl) rfl rfl (by kernel_rfl) (by kernel_rfl) (by kernel_rfl) (fun _ _ _ _ h => h) ?_
                    refine xpvalE 38 [] rfl (qv_loadP 0 [] ((List.map ew s1.l).flatten) [] (by first | rfl | exact (List.append_nil _).symm | exact List.append_nil _ | exact List.append_assoc _ _ _ | exact (List.append_assoc _ _ _).symm | exact congrArg _ (List.append_nil _).symm | exact congrArg _ (List.append_nil _) | (simp; done) | (simp [cellsS]; done)) (by first | rfl | exact seg_lenE (by rfl) | exact len_app rfl (seg_lenE (by rfl)) (by rfl) | exact len_app (seg_lenE (by rfl)) rfl (by rfl) | exact len_app rfl (len_app (seg_lenE (by rfl)) rfl (by rfl)) (by rfl) | (simp only [seg_len, cellsS, List.length_append, List.length_cons, List.length_nil]; done) | (simp only [seg_len, cellsS, List.length_append, List.length_cons, List.length_nil]; rfl)) (by first | rfl | exact seg_lenE (by rfl) | exact len_app rfl (seg_lenE (by rfl)) (by rfl) | exact len_app (seg_lenE (by rfl)) rfl (by rfl) | exact len_app rfl (len_app (seg_lenE (by rfl)) rfl (by rfl)) (by rfl) | (simp only [seg_len, cellsS, List.length_append, List.length_cons, List.length_nil]; done) | (simp only [seg_len, cellsS, List.length_append, List.length_cons, List.length_nil]; rfl)) (part_all (seg_lenE (by rfl))) ShpC.h rfl rfl) rfl rfl (by kernel_rfl) (by kernel_rfl) (by kernel_rfl) (fun _ _ _ _ h => h) ?_
                    refine xpstep (i := 39) (by kernel_rfl) rfl ?_
                    refine wcall0 (class_Not_con s1 _ h87) Try.func10 (by kernel_rfl) rfl (.cons rfl (.refl _) .nil) rfl rfl ?_
                    refine xpstep (i := 40) (by kernel_rfl) rfl ?_
                    refine wcall0 (class_Count_con y88 _ h89) Try.func13 (by kernel_rfl) rfl (.cons rfl (.refl _) .nil) rfl rfl ?_
                    refine xpval 44 rfl (pv_bin2 rfl rfl rfl) rfl rfl (by kernel_rfl) (by kernel_rfl) (by kernel_rfl) (fun _ _ _ _ h => h) ?_
                    refine xpval 45 rfl (pv_pick rfl rfl) rfl rfl (by kernel_rfl) (by kernel_rfl) (by kernel_rfl) (fun _ _ _ _ h => h) ?_
                    refine xpval 46 rfl (pv_move rfl) rfl rfl (by kernel_rfl) (by kernel_rfl) (by kernel_rfl) (fun _ _ _ _ h => h) ?_
                    by_cases hp94 : y90 = (256 - (y4.length : Int))
                    · replace h := h.1 hp94
                      refine psetB 54 (decide_eq_true hp94) rfl ?_
                      obtain ⟨y96, h95, h⟩ := h
                      refine xpstep (i := 47) (by kernel_rfl) rfl ?_
                      refine wcall0 (palinodelaw05_awake_con _ h95) Try.func14 (by kernel_rfl) rfl .nil rfl rfl ?_
                      refine xpval 48 rfl (pv_pick rfl rfl) rfl rfl (by kernel_rfl) (by kernel_rfl) (by kernel_rfl) (fun _ _ _ _ h => h) ?_
                      refine xpval 49 rfl (pv_assign rfl) rfl rfl (by kernel_rfl) (by kernel_rfl) (by kernel_rfl) (fun _ _ _ _ h => h) ?_
                      refine xpdone (by kernel_rfl) ?_
                      exact xmeet ⟨y96, h, rfl⟩ ⟨(.cons rfl (.refl _) (.nil _)), (SubM.of (.nil _) (.nil _))⟩
                    · replace h := h.2 hp94
                      refine psetB 54 (decide_eq_false hp94) rfl ?_
                      refine xpskip 47 rfl rfl rfl (by kernel_rfl) (by kernel_rfl) (by kernel_rfl) (fun _ _ _ _ h => h) ?_
                      refine xpval 48 rfl (pv_pick rfl rfl) rfl rfl (by kernel_rfl) (by kernel_rfl) (by kernel_rfl) (fun _ _ _ _ h => h) ?_
                      refine xpval 49 rfl (pv_assign rfl) rfl rfl (by kernel_rfl) (by kernel_rfl) (by kernel_rfl) (fun _ _ _ _ h => h) ?_
                      refine xpdone (by kernel_rfl) ?_
                      exact xmeet ⟨false, h, rfl⟩ ⟨(.cons rfl (.refl _) (.nil _)), (SubM.of (.nil _) (.nil _))⟩
                  · replace h := h.2 hp86
                    refine psetB 45 (decide_eq_false hp86) rfl ?_
                    refine xpskip 38 rfl rfl rfl (by kernel_rfl) (by kernel_rfl) (by kernel_rfl) (fun _ _ _ _ h => h) ?_
                    refine xpskip 39 rfl rfl rfl (by kernel_rfl) (by kernel_rfl) (by kernel_rfl) (fun _ _ _ _ h => h) ?_
                    refine xpskip 40 rfl rfl rfl (by kernel_rfl) (by kernel_rfl) (by kernel_rfl) (fun _ _ _ _ h => h) ?_
                    refine xpskip 41 rfl rfl rfl (by kernel_rfl) (by kernel_rfl) (by kernel_rfl) (fun _ _ _ _ h => h) ?_
                    refine xpskip 42 rfl rfl rfl (by kernel_rfl) (by kernel_rfl) (by kernel_rfl) (fun _ _ _ _ h => h) ?_
                    refine xpskip 43 rfl rfl rfl (by kernel_rfl) (by kernel_rfl) (by kernel_rfl) (fun _ _ _ _ h => h) ?_
                    refine xpskip 44 rfl rfl rfl (by kernel_rfl) (by kernel_rfl) (by kernel_rfl) (fun _ _ _ _ h => h) ?_
                    refine xpval 45 rfl (pv_pick rfl rfl) rfl rfl (by kernel_rfl) (by kernel_rfl) (by kernel_rfl) (fun _ _ _ _ h => h) ?_
                    refine xpval 46 rfl (pv_move rfl) rfl rfl (by kernel_rfl) (by kernel_rfl) (by kernel_rfl) (fun _ _ _ _ h => h) ?_
                    refine xpskip 47 rfl rfl rfl (by kernel_rfl) (by kernel_rfl) (by kernel_rfl) (fun _ _ _ _ h => h) ?_
                    refine xpval 48 rfl (pv_pick rfl rfl) rfl rfl (by kernel_rfl) (by kernel_rfl) (by kernel_rfl) (fun _ _ _ _ h => h) ?_
                    refine xpval 49 rfl (pv_assign rfl) rfl rfl (by kernel_rfl) (by kernel_rfl) (by kernel_rfl) (fun _ _ _ _ h => h) ?_
                    refine xpdone (by kernel_rfl) ?_
                    exact xmeet ⟨false, h, rfl⟩ ⟨(.cons rfl (.refl _) (.nil _)), (SubM.of (.nil _) (.nil _))⟩
                refine xpcut 16 #[true, true, true, true, true, true, true, true, true, true, true, true, true, true, true, true, true, true, true, true, true, true, true, true, true, true, true, true, true, true, true, true, true, false, true, false, false, false, false, false, false, false, false, false, false, false, false, false, false, false] (fun σ => σ = ⟨[(2, .v (.pointer (some ⟨b2, 0, none⟩))), (4, .v (.bool false)), (5, .sl 1 (some i5) (List.map eb y4)), (38, .v (.bool true)), (40, .agg ((List.map ew y81.l).flatten)), (42, .agg ((List.map ew s1.l).flatten))], [⟨b2, 24, ((List.map ew s1.l).flatten)⟩], [⟨i5, 5, 1, y4.length⟩]⟩) ?_ (fun key97 => ?_)
                · rintro _ rfl
                  refine xpstep (i := 33) (by kernel_rfl) rfl ?_
                  refine wcall0 (class_Not_con y81 _ h82) Try.func10 (by kernel_rfl) rfl (.cons rfl (.refl _) .nil) rfl rfl ?_
                  refine xpval 35 rfl (pv_eqAgg (f := E_palinode_api_Set) (a := y83) (b := s1) (eqC_arr (t := 24) (e := 22) (f := ew) UndC.h ShpC.h (by kernel_rfl) inferInstance (fun _ => rfl)) (by decide) (by kernel_rfl) (by first | rfl | exact congrArg (fun q => some (Sd.agg q)) (by first | rfl | exact (List.append_nil _).symm | exact List.append_nil _ | exact List.append_assoc _ _ _ | exact (List.append_assoc _ _ _).symm | exact congrArg _ (List.append_nil _).symm | exact congrArg _ (List.append_nil _) | (simp; done) | (simp [cellsS]; done))) (by first | rfl | exact congrArg (fun q => some (Sd.agg q)) (by first | rfl | exact (List.append_nil _).symm | exact List.append_nil _ | exact List.append_assoc _ _ _ | exact (List.append_assoc _ _ _).symm | exact congrArg _ (List.append_nil _).symm | exact congrArg _ (List.append_nil _) | (simp; done) | (simp [cellsS]; done)))) rfl rfl (by kernel_rfl) (by kernel_rfl) (by kernel_rfl) (fun _ _ _ _ h => h) ?_
                  refine xpval 36 rfl (pv_pick rfl rfl) rfl rfl (by kernel_rfl) (by kernel_rfl) (by kernel_rfl) (fun _ _ _ _ h => h) ?_
                  refine xpval 37 rfl (pv_move rfl) rfl rfl (by kernel_rfl) (by kernel_rfl) (by kernel_rfl) (fun _ _ _ _ h => h) ?_
                  exact xpuse key85 rfl ⟨(.cons rfl (.refl _) (.cons rfl (.refl _) (.cons rfl (.refl _) (.cons rfl (.refl _) (.nil _))))), (SubM.of (.keep rfl rfl (.refl _) (.nil _)) (.keep rfl (.nil _)))⟩ rfl (by kernel_rfl)
                refine xpvalE 31 [34] rfl (qv_loadP 0 [] ((List.map ew s1.l).flatten) [] (by first | rfl | exact (List.append_nil _).symm | exact List.append_nil _ | exact List.append_assoc _ _ _ | exact (List.append_assoc _ _ _).symm | exact congrArg _ (List.append_nil _).symm | exact congrArg _ (List.append_nil _) | (simp; done) | (simp [cellsS]; done)) (by first | rfl | exact seg_lenE (by rfl) | exact len_app rfl (seg_lenE (by rfl)) (by rfl) | exact len_app (seg_lenE (by rfl)) rfl (by rfl) | exact len_app rfl (len_app (seg_lenE (by rfl)) rfl (by rfl)) (by rfl) | (simp only [seg_len, cellsS, List.length_append, List.length_cons, List.length_nil]; done) | (simp only [seg_len, cellsS, List.length_append, List.length_cons, List.length_nil]; rfl)) (by first | rfl | exact seg_lenE (by rfl) | exact len_app rfl (seg_lenE (by rfl)) (by rfl) | exact len_app (seg_lenE (by rfl)) rfl (by rfl) | exact len_app rfl (len_app (seg_lenE (by rfl)) rfl (by rfl)) (by rfl) | (simp only [seg_len, cellsS, List.length_append, List.length_cons, List.length_nil]; done) | (simp only [seg_len, cellsS, List.length_append, List.length_cons, List.length_nil]; rfl)) (part_all (seg_lenE (by rfl))) ShpC.h rfl rfl) rfl rfl (by kernel_rfl) (by kernel_rfl) (by kernel_rfl) (fun _ _ _ _ h => h) ?_
                refine xpstepN (is := [32, 34]) (by kernel_rfl) (by simp) ?_
                intro i hi; simp only [List.mem_cons, List.not_mem_nil, or_false] at hi; rcases hi with rfl | rfl
                · refine ⟨_, rfl, ?_⟩
                  refine wcall0 (class_Not_con s1 _ h80) Try.func10 (by kernel_rfl) rfl (.cons rfl (.refl _) .nil) rfl rfl ?_
                  refine xpstepN (is := [33, 34]) (by kernel_rfl) (by simp) ?_
                  intro i hi; simp only [List.mem_cons, List.not_mem_nil, or_false] at hi; rcases hi with rfl | rfl
                  · refine ⟨_, rfl, ?_⟩
                    refine wcall0 (class_Not_con y81 _ h82) Try.func10 (by kernel_rfl) rfl (.cons rfl (.refl _) .nil) rfl rfl ?_
                    refine xpvalE 34 [] rfl (qv_loadP 0 [] ((List.map ew s1.l).flatten) [] (by first | rfl | exact (List.append_nil _).symm | exact List.append_nil _ | exact List.append_assoc _ _ _ | exact (List.append_assoc _ _ _).symm | exact congrArg _ (List.append_nil _).symm | exact congrArg _ (List.append_nil _) | (simp; done) | (simp [cellsS]; done)) (by first | rfl | exact seg_lenE (by rfl) | exact len_app rfl (seg_lenE (by rfl)) (by rfl) | exact len_app (seg_lenE (by rfl)) rfl (by rfl) | exact len_app rfl (len_app (seg_lenE (by rfl)) rfl (by rfl)) (by rfl) | (simp only [seg_len, cellsS, List.length_append, List.length_cons, List.length_nil]; done) | (simp only [seg_len, cellsS, List.length_append, List.length_cons, List.length_nil]; rfl)) (by first | rfl | exact seg_lenE (by rfl) | exact len_app rfl (seg_lenE (by rfl)) (by rfl) | exact len_app (seg_lenE (by rfl)) rfl (by rfl) | exact len_app rfl (len_app (seg_lenE (by rfl)) rfl (by rfl)) (by rfl) | (simp only [seg_len, cellsS, List.length_append, List.length_cons, List.length_nil]; done) | (simp only [seg_len, cellsS, List.length_append, List.length_cons, List.length_nil]; rfl)) (part_all (seg_lenE (by rfl))) ShpC.h rfl rfl) rfl rfl (by kernel_rfl) (by kernel_rfl) (by kernel_rfl) (fun _ _ _ _ h => h) ?_
                    refine xpval 35 rfl (pv_eqAgg (f := E_palinode_api_Set) (a := y83) (b := s1) (eqC_arr (t := 24) (e := 22) (f := ew) UndC.h ShpC.h (by kernel_rfl) inferInstance (fun _ => rfl)) (by decide) (by kernel_rfl) (by first | rfl | exact congrArg (fun q => some (Sd.agg q)) (by first | rfl | exact (List.append_nil _).symm | exact List.append_nil _ | exact List.append_assoc _ _ _ | exact (List.append_assoc _ _ _).symm | exact congrArg _ (List.append_nil _).symm | exact congrArg _ (List.append_nil _) | (simp; done) | (simp [cellsS]; done))) (by first | rfl | exact congrArg (fun q => some (Sd.agg q)) (by first | rfl | exact (List.append_nil _).symm | exact List.append_nil _ | exact List.append_assoc _ _ _ | exact (List.append_assoc _ _ _).symm | exact congrArg _ (List.append_nil _).symm | exact congrArg _ (List.append_nil _) | (simp; done) | (simp [cellsS]; done)))) rfl rfl (by kernel_rfl) (by kernel_rfl) (by kernel_rfl) (fun _ _ _ _ h => h) ?_
                    refine xpval 36 rfl (pv_pick rfl rfl) rfl rfl (by kernel_rfl) (by kernel_rfl) (by kernel_rfl) (fun _ _ _ _ h => h) ?_
                    refine xpval 37 rfl (pv_move rfl) rfl rfl (by kernel_rfl) (by kernel_rfl) (by kernel_rfl) (fun _ _ _ _ h => h) ?_
                    exact xpuse key85 rfl ⟨(.cons rfl (.refl _) (.cons rfl (.refl _) (.cons rfl (.refl _) (.cons rfl (.refl _) (.nil _))))), (SubM.of (.keep rfl rfl (.refl _) (.nil _)) (.drop (.keep rfl (.nil _))))⟩ rfl (by kernel_rfl)
                  · refine ⟨_, rfl, ?_⟩
                    refine wval (qv_loadP 0 [] ((List.map ew s1.l).flatten) [] (by first | rfl | exact (List.append_nil _).symm | exact List.append_nil _ | exact List.append_assoc _ _ _ | exact (List.append_assoc _ _ _).symm | exact congrArg _ (List.append_nil _).symm | exact congrArg _ (List.append_nil _) | (simp; done) | (simp [cellsS]; done)) (by first | rfl | exact seg_lenE (by rfl) | exact len_app rfl (seg_lenE (by rfl)) (by rfl) | exact len_app (seg_lenE (by rfl)) rfl (by rfl) | exact len_app rfl (len_app (seg_lenE (by rfl)) rfl (by rfl)) (by rfl) | (simp only [seg_len, cellsS, List.length_append, List.length_cons, List.length_nil]; done) | (simp only [seg_len, cellsS, List.length_append, List.length_cons, List.length_nil]; rfl)) (by first | rfl | exact seg_lenE (by rfl) | exact len_app rfl (seg_lenE (by rfl)) (by rfl) | exact len_app (seg_lenE (by rfl)) rfl (by rfl) | exact len_app rfl (len_app (seg_lenE (by rfl)) rfl (by rfl)) (by rfl) | (simp only [seg_len, cellsS, List.length_append, List.length_cons, List.length_nil]; done) | (simp only [seg_len, cellsS, List.length_append, List.length_cons, List.length_nil]; rfl)) (part_all (seg_lenE (by rfl))) ShpC.h rfl rfl) rfl rfl ?_
                    exact xpuse key97 rfl ⟨(.cons rfl (.refl _) (.cons rfl (.refl _) (.cons rfl (.refl _) (.cons rfl (.refl _) (.cons rfl (.refl _) (.cons rfl (.refl _) (.nil _))))))), (SubM.of (.keep rfl rfl (.refl _) (.nil _)) (.drop (.keep rfl (.nil _))))⟩ rfl (by kernel_rfl)
                · refine ⟨_, rfl, ?_⟩
                  refine wval (qv_loadP 0 [] ((List.map ew s1.l).flatten) [] (by first | rfl | exact (List.append_nil _).symm | exact List.append_nil _ | exact List.append_assoc _ _ _ | exact (List.append_assoc _ _ _).symm | exact congrArg _ (List.append_nil _).symm | exact congrArg _ (List.append_nil _) | (simp; done) | (simp [cellsS]; done)) (by first | rfl | exact seg_lenE (by rfl) | exact len_app rfl (seg_lenE (by rfl)) (by rfl) | exact len_app (seg_lenE (by rfl)) rfl (by rfl) | exact len_app rfl (len_app (seg_lenE (by rfl)) rfl (by rfl)) (by rfl) | (simp only [seg_len, cellsS, List.length_append, List.length_cons, List.length_nil]; done) | (simp only [seg_len, cellsS, List.length_append, List.length_cons, List.length_nil]; rfl)) (by first | rfl | exact seg_lenE (by rfl) | exact len_app rfl (seg_lenE (by rfl)) (by rfl) | exact len_app (seg_lenE (by rfl)) rfl (by rfl) | exact len_app rfl (len_app (seg_lenE (by rfl)) rfl (by rfl)) (by rfl) | (simp only [seg_len, cellsS, List.length_append, List.length_cons, List.length_nil]; done) | (simp only [seg_len, cellsS, List.length_append, List.length_cons, List.length_nil]; rfl)) (part_all (seg_lenE (by rfl))) ShpC.h rfl rfl) rfl rfl ?_
                  refine xpstep (i := 32) (by kernel_rfl) rfl ?_
                  refine wcall0 (class_Not_con s1 _ h80) Try.func10 (by kernel_rfl) rfl (.cons rfl (.refl _) .nil) rfl rfl ?_
                  exact xpuse key97 rfl ⟨(.cons rfl (.refl _) (.cons rfl (.refl _) (.cons rfl (.refl _) (.cons rfl (.refl _) (.cons rfl (.refl _) (.cons rfl (.refl _) (.nil _))))))), (SubM.of (.keep rfl rfl (.refl _) (.nil _)) (.drop (.keep rfl (.nil _))))⟩ rfl (by kernel_rfl)
              · replace h := h.2 hp79
                refine psetB 38 (decide_eq_false hp79) rfl ?_
                refine xpskip 31 rfl rfl rfl (by kernel_rfl) (by kernel_rfl) (by kernel_rfl) (fun _ _ _ _ h => h) ?_
                refine xpskip 32 rfl rfl rfl (by kernel_rfl) (by kernel_rfl) (by kernel_rfl) (fun _ _ _ _ h => h) ?_
                refine xpskip 33 rfl rfl rfl (by kernel_rfl) (by kernel_rfl) (by kernel_rfl) (fun _ _ _ _ h => h) ?_
                refine xpskip 34 rfl rfl rfl (by kernel_rfl) (by kernel_rfl) (by kernel_rfl) (fun _ _ _ _ h => h) ?_
                refine xpskip 35 rfl rfl rfl (by kernel_rfl) (by kernel_rfl) (by kernel_rfl) (fun _ _ _ _ h => h) ?_
                refine xpval 36 rfl (pv_pick rfl rfl) rfl rfl (by kernel_rfl) (by kernel_rfl) (by kernel_rfl) (fun _ _ _ _ h => h) ?_
                refine xpval 37 rfl (pv_move rfl) rfl rfl (by kernel_rfl) (by kernel_rfl) (by kernel_rfl) (fun _ _ _ _ h => h) ?_
                refine xpskip 38 rfl rfl rfl (by kernel_rfl) (by kernel_rfl) (by kernel_rfl) (fun _ _ _ _ h => h) ?_
                refine xpskip 39 rfl rfl rfl (by kernel_rfl) (by kernel_rfl) (by kernel_rfl) (fun _ _ _ _ h => h) ?_
                refine xpskip 40 rfl rfl rfl (by kernel_rfl) (by kernel_rfl) (by kernel_rfl) (fun _ _ _ _ h => h) ?_
                refine xpskip 41 rfl rfl rfl (by kernel_rfl) (by kernel_rfl) (by kernel_rfl) (fun _ _ _ _ h => h) ?_
                refine xpskip 42 rfl rfl rfl (by kernel_rfl) (by kernel_rfl) (by kernel_rfl) (fun _ _ _ _ h => h) ?_
                refine xpskip 43 rfl rfl rfl (by kernel_rfl) (by kernel_rfl) (by kernel_rfl) (fun _ _ _ _ h => h) ?_
                refine xpskip 44 rfl rfl rfl (by kernel_rfl) (by kernel_rfl) (by kernel_rfl) (fun _ _ _ _ h => h) ?_
                refine xpval 45 rfl (pv_pick rfl rfl) rfl rfl (by kernel_rfl) (by kernel_rfl) (by kernel_rfl) (fun _ _ _ _ h => h) ?_
                refine xpval 46 rfl (pv_move rfl) rfl rfl (by kernel_rfl) (by kernel_rfl) (by kernel_rfl) (fun _ _ _ _ h => h) ?_
                refine xpskip 47 rfl rfl rfl (by kernel_rfl) (by kernel_rfl) (by kernel_rfl) (fun _ _ _ _ h => h) ?_
                refine xpval 48 rfl (pv_pick rfl rfl) rfl rfl (by kernel_rfl) (by kernel_rfl) (by kernel_rfl) (fun _ _ _ _ h => h) ?_
                refine xpval 49 rfl (pv_assign rfl) rfl rfl (by kernel_rfl) (by kernel_rfl) (by kernel_rfl) (fun _ _ _ _ h => h) ?_
                refine xpdone (by kernel_rfl) ?_
                exact xmeet ⟨false, h, rfl⟩ ⟨(.cons rfl (.refl _) (.nil _)), (SubM.of (.nil _) (.nil _))⟩
            · replace h := h.2 hp74
              refine psetB 31 (b_f hp74) rfl ?_
              refine xpskip 24 rfl rfl rfl (by kernel_rfl) (by kernel_rfl) (by kernel_rfl) (fun _ _ _ _ h => h) ?_
              refine xpskip 25 rfl rfl rfl (by kernel_rfl) (by kernel_rfl) (by kernel_rfl) (fun _ _ _ _ h => h) ?_
              refine xpskip 26 rfl rfl rfl (by kernel_rfl) (by kernel_rfl) (by kernel_rfl) (fun _ _ _ _ h => h) ?_
              refine xpskip 27 rfl rfl rfl (by kernel_rfl) (by kernel_rfl) (by kernel_rfl) (fun _ _ _ _ h => h) ?_
              refine xpskip 28 rfl rfl rfl (by kernel_rfl) (by kernel_rfl) (by kernel_rfl) (fun _ _ _ _ h => h) ?_
              refine xpval 29 rfl (pv_pick rfl rfl) rfl rfl (by kernel_rfl) (by kernel_rfl) (by kernel_rfl) (fun _ _ _ _ h => h) ?_
              refine xpval 30 rfl (pv_move rfl) rfl rfl (by kernel_rfl) (by kernel_rfl) (by kernel_rfl) (fun _ _ _ _ h => h) ?_
              refine xpskip 31 rfl rfl rfl (by kernel_rfl) (by kernel_rfl) (by kernel_rfl) (fun _ _ _ _ h => h) ?_
              refine xpskip 32 rfl rfl rfl (by kernel_rfl) (by kernel_rfl) (by kernel_rfl) (fun _ _ _ _ h => h) ?_
              refine xpskip 33 rfl rfl rfl (by kernel_rfl) (by kernel_rfl) (by kernel_rfl) (fun _ _ _ _ h => h) ?_
              refine xpskip 34 rfl rfl rfl (by kernel_rfl) (by kernel_rfl) (by kernel_rfl) (fun _ _ _ _ h => h) ?_
              refine xpskip 35 rfl rfl rfl (by kernel_rfl) (by kernel_rfl) (by kernel_rfl) (fun _ _ _ _ h => h) ?_
              refine xpval 36 rfl (pv_pick rfl rfl) rfl rfl (by kernel_rfl) (by kernel_rfl) (by kernel_rfl) (fun _ _ _ _ h => h) ?_
              refine xpval 37 rfl (pv_move rfl) rfl rfl (by kernel_rfl) (by kernel_rfl) (by kernel_rfl) (fun _ _ _ _ h => h) ?_
              refine xpskip 38 rfl rfl rfl (by kernel_rfl) (by kernel_rfl) (by kernel_rfl) (fun _ _ _ _ h => h) ?_
              refine xpskip 39 rfl rfl rfl (by kernel_rfl) (by kernel_rfl) (by kernel_rfl) (fun _ _ _ _ h => h) ?_
              refine xpskip 40 rfl rfl rfl (by kernel_rfl) (by kernel_rfl) (by kernel_rfl) (fun _ _ _ _ h => h) ?_
              refine xpskip 41 rfl rfl rfl (by kernel_rfl) (by kernel_rfl) (by kernel_rfl) (fun _ _ _ _ h => h) ?_
              refine xpskip 42 rfl rfl rfl (by kernel_rfl) (by kernel_rfl) (by kernel_rfl) (fun _ _ _ _ h => h) ?_
              refine xpskip 43 rfl rfl rfl (by kernel_rfl) (by kernel_rfl) (by kernel_rfl) (fun _ _ _ _ h => h) ?_
              refine xpskip 44 rfl rfl rfl (by kernel_rfl) (by kernel_rfl) (by kernel_rfl) (fun _ _ _ _ h => h) ?_
              refine xpval 45 rfl (pv_pick rfl rfl) rfl rfl (by kernel_rfl) (by kernel_rfl) (by kernel_rfl) (fun _ _ _ _ h => h) ?_
              refine xpval 46 rfl (pv_move rfl) rfl rfl (by kernel_rfl) (by kernel_rfl) (by kernel_rfl) (fun _ _ _ _ h => h) ?_
              refine xpskip 47 rfl rfl rfl (by kernel_rfl) (by kernel_rfl) (by kernel_rfl) (fun _ _ _ _ h => h) ?_
              refine xpval 48 rfl (pv_pick rfl rfl) rfl rfl (by kernel_rfl) (by kernel_rfl) (by kernel_rfl) (fun _ _ _ _ h => h) ?_
              refine xpval 49 rfl (pv_assign rfl) rfl rfl (by kernel_rfl) (by kernel_rfl) (by kernel_rfl) (fun _ _ _ _ h => h) ?_
              refine xpdone (by kernel_rfl) ?_
              exact xmeet ⟨false, h, rfl⟩ ⟨(.cons rfl (.refl _) (.nil _)), (SubM.of (.nil _) (.nil _))⟩
          · replace h := h.2 hp68
            refine psetB 25 (not_f (Decidable.of_not_not hp68)) rfl ?_
            refine xpskip 18 rfl rfl rfl (by kernel_rfl) (by kernel_rfl) (by kernel_rfl) (fun _ _ _ _ h => h) ?_
            refine xpskip 19 rfl rfl rfl (by kernel_rfl) (by kernel_rfl) (by kernel_rfl) (fun _ _ _ _ h => h) ?_
            refine xpskip 20 rfl rfl rfl (by kernel_rfl) (by kernel_rfl) (by kernel_rfl) (fun _ _ _ _ h => h) ?_
            refine xpskip 21 rfl rfl rfl (by kernel_rfl) (by kernel_rfl) (by kernel_rfl) (fun _ _ _ _ h => h) ?_
            refine xpval 22 rfl (pv_pick rfl rfl) rfl rfl (by kernel_rfl) (by kernel_rfl) (by kernel_rfl) (fun _ _ _ _ h => h) ?_
            refine xpval 23 rfl (pv_move rfl) rfl rfl (by kernel_rfl) (by kernel_rfl) (by kernel_rfl) (fun _ _ _ _ h => h) ?_
            refine xpskip 24 rfl rfl rfl (by kernel_rfl) (by kernel_rfl) (by kernel_rfl) (fun _ _ _ _ h => h) ?_
            refine xpskip 25 rfl rfl rfl (by kernel_rfl) (by kernel_rfl) (by kernel_rfl) (fun _ _ _ _ h => h) ?_
            refine xpskip 26 rfl rfl rfl (by kernel_rfl) (by kernel_rfl) (by kernel_rfl) (fun _ _ _ _ h => h) ?_
            refine xpskip 27 rfl rfl rfl (by kernel_rfl) (by kernel_rfl) (by kernel_rfl) (fun _ _ _ _ h => h) ?_
            refine xpskip 28 rfl rfl rfl (by kernel_rfl) (by kernel_rfl) (by kernel_rfl) (fun _ _ _ _ h => h) ?_
            refine xpval 29 rfl (pv_pick rfl rfl) rfl rfl (by kernel_rfl) (by kernel_rfl) (by kernel_rfl) (fun _ _ _ _ h => h) ?_
            refine xpval 30 rfl (pv_move rfl) rfl rfl (by kernel_rfl) (by kernel_rfl) (by kernel_rfl) (fun _ _ _ _ h => h) ?_
            refine xpskip 31 rfl rfl rfl (by kernel_rfl) (by kernel_rfl) (by kernel_rfl) (fun _ _ _ _ h => h) ?_
            refine xpskip 32 rfl rfl rfl (by kernel_rfl) (by kernel_rfl) (by kernel_rfl) (fun _ _ _ _ h => h) ?_
            refine xpskip 33 rfl rfl rfl (by kernel_rfl) (by kernel_rfl) (by kernel_rfl) (fun _ _ _ _ h => h) ?_
            refine xpskip 34 rfl rfl rfl (by kernel_rfl) (by kernel_rfl) (by kernel_rfl) (fun _ _ _ _ h => h) ?_
            refine xpskip 35 rfl rfl rfl (by kernel_rfl) (by kernel_rfl) (by kernel_rfl) (fun _ _ _ _ h => h) ?_
            refine xpval 36 rfl (pv_pick rfl rfl) rfl rfl (by kernel_rfl) (by kernel_rfl) (by kernel_rfl) (fun _ _ _ _ h => h) ?_
            refine xpval 37 rfl (pv_move rfl) rfl rfl (by kernel_rfl) (by kernel_rfl) (by kernel_rfl) (fun _ _ _ _ h => h) ?_
            refine xpskip 38 rfl rfl rfl (by kernel_rfl) (by kernel_rfl) (by kernel_rfl) (fun _ _ _ _ h => h) ?_
            refine xpskip 39 rfl rfl rfl (by kernel_rfl) (by kernel_rfl) (by kernel_rfl) (fun _ _ _ _ h => h) ?_
            refine xpskip 40 rfl rfl rfl (by kernel_rfl) (by kernel_rfl) (by kernel_rfl) (fun _ _ _ _ h => h) ?_
            refine xpskip 41 rfl rfl rfl (by kernel_rfl) (by kernel_rfl) (by kernel_rfl) (fun _ _ _ _ h => h) ?_
            refine xpskip 42 rfl rfl rfl (by kernel_rfl) (by kernel_rfl) (by kernel_rfl) (fun _ _ _ _ h => h) ?_
            refine xpskip 43 rfl rfl rfl (by kernel_rfl) (by kernel_rfl) (by kernel_rfl) (fun _ _ _ _ h => h) ?_
            refine xpskip 44 rfl rfl rfl (by kernel_rfl) (by kernel_rfl) (by kernel_rfl) (fun _ _ _ _ h => h) ?_
            refine xpval 45 rfl (pv_pick rfl rfl) rfl rfl (by kernel_rfl) (by kernel_rfl) (by kernel_rfl) (fun _ _ _ _ h => h) ?_
            refine xpval 46 rfl (pv_move rfl) rfl rfl (by kernel_rfl) (by kernel_rfl) (by kernel_rfl) (fun _ _ _ _ h => h) ?_
            refine xpskip 47 rfl rfl rfl (by kernel_rfl) (by kernel_rfl) (by kernel_rfl) (fun _ _ _ _ h => h) ?_
            refine xpval 48 rfl (pv_pick rfl rfl) rfl rfl (by kernel_rfl) (by kernel_rfl) (by kernel_rfl) (fun _ _ _ _ h => h) ?_
            refine xpval 49 rfl (pv_assign rfl) rfl rfl (by kernel_rfl) (by kernel_rfl) (by kernel_rfl) (fun _ _ _ _ h => h) ?_
            refine xpdone (by kernel_rfl) ?_
            exact xmeet ⟨false, h, rfl⟩ ⟨(.cons rfl (.refl _) (.nil _)), (SubM.of (.nil _) (.nil _))⟩
        refine xpcut 37 #[true, true, true, true, true, true, true, true, true, true, true, false, true, true, false, false, false, false, false, false, false, false, false, false, false, false, false, false, false, false, false, false, false, false, false, false, false, false, false, false, false, false, false, false, false, false, false, false, false, false] (fun σ => σ = ⟨[(2, .v (.pointer (some ⟨b2, 0, none⟩))), (4, .v (.bool false)), (5, .sl 1 (some i5) (List.map eb y4)), (15, .v (.bool true)), (17, .agg ((List.map ew y61.l).flatten)), (18, .v (.int .u8 ((c2.toNat : Int)))), (20, .agg ((List.map ew s1.l).flatten)), (21, .v (.int .u8 ((c2.toNat : Int))))], [⟨b2, 24, ((List.map ew s1.l).flatten)⟩], [⟨i5, 5, 1, y4.length⟩]⟩) ?_ (fun key98 => ?_)
        · rintro _ rfl
          refine xpstep (i := 11) (by kernel_rfl) rfl ?_
          refine wcall0 (class_Has_con y61 c2 _ h62) Try.func8 (by kernel_rfl) rfl (.cons rfl (.refl _) (.cons rfl (.refl _) .nil)) rfl rfl ?_
          exact xpuse key67 rfl ⟨(.cons rfl (.refl _) (.cons rfl (.refl _) (.cons rfl (.refl _) (.cons rfl (.refl _) (.cons rfl (.refl _) (.cons rfl (.refl _) (.cons rfl (.refl _) (.nil _)))))))), (SubM.of (.keep rfl rfl (.refl _) (.nil _)) (.keep rfl (.nil _)))⟩ rfl (by kernel_rfl)
        refine xpval 10 rfl (pv_move rfl) rfl rfl (by kernel_rfl) (by kernel_rfl) (by kernel_rfl) (fun _ _ _ _ h => h) ?_
        refine xpval 13 rfl (pv_move rfl) rfl rfl (by kernel_rfl) (by kernel_rfl) (by kernel_rfl) (fun _ _ _ _ h => h) ?_
        refine xpvalE 8 [12] rfl (qv_loadP 0 [] ((List.map ew s1.l).flatten) [] (by first | rfl | exact (List.append_nil _).symm | exact List.append_nil _ | exact List.append_assoc _ _ _ | exact (List.append_assoc _ _ _).symm | exact congrArg _ (List.append_nil _).symm | exact congrArg _ (List.append_nil _) | (simp; done) | (simp [cellsS]; done)) (by first | rfl | exact seg_lenE (by rfl) | exact len_app rfl (seg_lenE (by rfl)) (by rfl) | exact len_app (seg_lenE (by rfl)) rfl (by rfl) | exact len_app rfl (len_app (seg_lenE (by rfl)) rfl (by rfl)) (by rfl) | (simp only [seg_len, cellsS, List.length_append, List.length_cons, List.length_nil]; done) | (simp only [seg_len, cellsS, List.length_append, List.length_cons, List.length_nil]; rfl)) (by first | rfl | exact seg_lenE (by rfl) | exact len_app rfl (seg_lenE (by rfl)) (by rfl) | exact len_app (seg_lenE (by rfl)) rfl (by rfl) | exact len_app rfl (len_app (seg_lenE (by rfl)) rfl (by rfl)) (by rfl) | (simp only [seg_len, cellsS, List.length_append, List.length_cons, List.length_nil]; done) | (simp only [seg_len, cellsS, List.length_append, List.length_cons, List.length_nil]; rfl)) (part_all (seg_lenE (by rfl))) ShpC.h rfl rfl) rfl rfl (by kernel_rfl) (by kernel_rfl) (by kernel_rfl) (fun _ _ _ _ h => h) ?_
        refine xpstepN (is := [9, 12]) (by kernel_rfl) (by simp) ?_
        intro i hi; simp only [List.mem_cons, List.not_mem_nil, or_false] at hi; rcases hi with rfl | rfl
        · refine ⟨_, rfl, ?_⟩
          refine wcall0 (class_Not_con s1 _ h60) Try.func10 (by kernel_rfl) rfl (.cons rfl (.refl _) .nil) rfl rfl ?_
          refine xpstepN (is := [11, 12]) (by kernel_rfl) (by simp) ?_
          intro i hi; simp only [List.mem_cons, List.not_mem_nil, or_false] at hi; rcases hi with rfl | rfl
          · refine ⟨_, rfl, ?_⟩
            refine wcall0 (class_Has_con y61 c2 _ h62) Try.func8 (by kernel_rfl) rfl (.cons rfl (.refl _) (.cons rfl (.refl _) .nil)) rfl rfl ?_
            refine xpvalE 12 [] rfl (qv_loadP 0 [] ((List.map ew s1.l).flatten) [] (by first | rfl | exact (List.append_nil _).symm | exact List.append_nil _ | exact List.append_assoc _ _ _ | exact (List.append_assoc _ _ _).symm | exact congrArg _ (List.append_nil _).symm | exact congrArg _ (List.append_nil _) | (simp; done) | (simp [cellsS]; done)) (by first | rfl | exact seg_lenE (by rfl) | exact len_app rfl (seg_lenE (by rfl)) (by rfl) | exact len_app (seg_lenE (by rfl)) rfl (by rfl) | exact len_app rfl (len_app (seg_lenE (by rfl)) rfl (by rfl)) (by rfl) | (simp only [seg_len, cellsS, List.length_append, List.length_cons, List.length_nil]; done) | (simp only [seg_len, cellsS, List.length_append, List.length_cons, List.length_nil]; rfl)) (by first | rfl | exact seg_lenE (by rfl) | exact len_app rfl (seg_lenE (by rfl)) (by rfl) | exact len_app (seg_lenE (by rfl)) rfl (by rfl) | exact len_app rfl (len_app (seg_lenE (by rfl)) rfl (by rfl)) (by rfl) | (simp only [seg_len, cellsS, List.length_append, List.length_cons, List.length_nil]; done) | (simp only [seg_len, cellsS, List.length_append, List.length_cons, List.length_nil]; rfl)) (part_all (seg_lenE (by rfl))) ShpC.h rfl rfl) rfl rfl (by kernel_rfl) (by kernel_rfl) (by kernel_rfl) (fun _ _ _ _ h => h) ?_
            exact xpuse key67 rfl ⟨(.cons rfl (.refl _) (.cons rfl (.refl _) (.cons rfl (.refl _) (.cons rfl (.refl _) (.cons rfl (.refl _) (.cons rfl (.refl _) (.cons rfl (.refl _) (.nil _)))))))), (SubM.of (.keep rfl rfl (.refl _) (.nil _)) (.keep rfl (.nil _)))⟩ rfl (by kernel_rfl)
          · refine ⟨_, rfl, ?_⟩
            refine wval (qv_loadP 0 [] ((List.map ew s1.l).flatten) [] (by first | rfl | exact (List.append_nil _).symm | exact List.append_nil _ | exact List.append_assoc _ _ _ | exact (List.append_assoc _ _ _).symm | exact congrArg _ (List.append_nil _).symm | exact congrArg _ (List.append_nil _) | (simp; done) | (simp [cellsS]; done)) (by first | rfl | exact seg_lenE (by rfl) | exact len_app rfl (seg_lenE (by rfl)) (by rfl) | exact len_app (seg_lenE (by rfl)) rfl (by rfl) | exact len_app rfl (len_app (seg_lenE (by rfl)) rfl (by rfl)) (by rfl) | (simp only [seg_len, cellsS, List.length_append, List.length_cons, List.length_nil]; done) | (simp only [seg_len, cellsS, List.length_append, List.length_cons, List.length_nil]; rfl)) (by first | rfl | exact seg_lenE (by rfl) | exact len_app rfl (seg_lenE (by rfl)) (by rfl) | exact len_app (seg_lenE (by rfl)) rfl (by rfl) | exact len_app rfl (len_app (seg_lenE (by rfl)) rfl (by rfl)) (by rfl) | (simp only [seg_len, cellsS, List.length_append, List.length_cons, List.length_nil]; done) | (simp only [seg_len, cellsS, List.length_append, List.length_cons, List.length_nil]; rfl)) (part_all (seg_lenE (by rfl))) ShpC.h rfl rfl) rfl rfl ?_
            exact xpuse key98 rfl ⟨(.cons rfl (.refl _) (.cons rfl (.refl _) (.cons rfl (.refl _) (.cons rfl (.refl _) (.cons rfl (.refl _) (.cons rfl (.refl _) (.cons rfl (.refl _) (.cons rfl (.refl _) (.nil _))))))))), (SubM.of (.keep rfl rfl (.refl _) (.nil _)) (.keep rfl (.nil _)))⟩ rfl (by kernel_rfl)
        · refine ⟨_, rfl, ?_⟩
          refine wval (qv_loadP 0 [] ((List.map ew s1.l).flatten) [] (by first | rfl | exact (List.append_nil _).symm | exact List.append_nil _ | exact List.append_assoc _ _ _ | exact (List.append_assoc _ _ _).symm | exact congrArg _ (List.append_nil _).symm | exact congrArg _ (List.append_nil _) | (simp; done) | (simp [cellsS]; done)) (by first | rfl | exact seg_lenE (by rfl) | exact len_app rfl (seg_lenE (by rfl)) (by rfl) | exact len_app (seg_lenE (by rfl)) rfl (by rfl) | exact len_app rfl (len_app (seg_lenE (by rfl)) rfl (by rfl)) (by rfl) | (simp only [seg_len, cellsS, List.length_append, List.length_cons, List.length_nil]; done) | (simp only [seg_len, cellsS, List.length_append, List.length_cons, List.length_nil]; rfl)) (by first | rfl | exact seg_lenE (by rfl) | exact len_app rfl (seg_lenE (by rfl)) (by rfl) | exact len_app (seg_lenE (by rfl)) rfl (by rfl) | exact len_app rfl (len_app (seg_lenE (by rfl)) rfl (by rfl)) (by rfl) | (simp only [seg_len, cellsS, List.length_append, List.length_cons, List.length_nil]; done) | (simp only [seg_len, cellsS, List.length_append, List.length_cons, List.length_nil]; rfl)) (part_all (seg_lenE (by rfl))) ShpC.h rfl rfl) rfl rfl ?_
          refine xpstep (i := 9) (by kernel_rfl) rfl ?_
          refine wcall0 (class_Not_con s1 _ h60) Try.func10 (by kernel_rfl) rfl (.cons rfl (.refl _) .nil) rfl rfl ?_
          exact xpuse key98 rfl ⟨(.cons rfl (.refl _) (.cons rfl (.refl _) (.cons rfl (.refl _) (.cons rfl (.refl _) (.cons rfl (.refl _) (.cons rfl (.refl _) (.cons rfl (.refl _) (.cons rfl (.refl _) (.nil _))))))))), (SubM.of (.keep rfl rfl (.refl _) (.nil _)) (.keep rfl (.nil _)))⟩ rfl (by kernel_rfl)
      · replace h := h.2 hp59
        refine psetB 15 (b_f hp59) rfl ?_
        refine xpskip 8 rfl rfl rfl (by kernel_rfl) (by kernel_rfl) (by kernel_rfl) (fun _ _ _ _ h => h) ?_
        refine xpskip 9 rfl rfl rfl (by kernel_rfl) (by kernel_rfl) (by kernel_rfl) (fun _ _ _ _ h => h) ?_
        refine xpskip 10 rfl rfl rfl (by kernel_rfl) (by kernel_rfl) (by kernel_rfl) (fun _ _ _ _ h => h) ?_
        refine xpskip 11 rfl rfl rfl (by kernel_rfl) (by kernel_rfl) (by kernel_rfl) (fun _ _ _ _ h => h) ?_
        refine xpskip 12 rfl rfl rfl (by kernel_rfl) (by kernel_rfl) (by kernel_rfl) (fun _ _ _ _ h => h) ?_
        refine xpskip 13 rfl rfl rfl (by kernel_rfl) (by kernel_rfl) (by kernel_rfl) (fun _ _ _ _ h => h) ?_
        refine xpskip 14 rfl rfl rfl (by kernel_rfl) (by kernel_rfl) (by kernel_rfl) (fun _ _ _ _ h => h) ?_
        refine xpskip 15 rfl rfl rfl (by kernel_rfl) (by kernel_rfl) (by kernel_rfl) (fun _ _ _ _ h => h) ?_
        refine xpval 16 rfl (pv_pick rfl rfl) rfl rfl (by kernel_rfl) (by kernel_rfl) (by kernel_rfl) (fun _ _ _ _ h => h) ?_
        refine xpval 17 rfl (pv_move rfl) rfl rfl (by kernel_rfl) (by kernel_rfl) (by kernel_rfl) (fun _ _ _ _ h => h) ?_
        refine xpskip 18 rfl rfl rfl (by kernel_rfl) (by kernel_rfl) (by kernel_rfl) (fun _ _ _ _ h => h) ?_
        refine xpskip 19 rfl rfl rfl (by kernel_rfl) (by kernel_rfl) (by kernel_rfl) (fun _ _ _ _ h => h) ?_
        refine xpskip 20 rfl rfl rfl (by kernel_rfl) (by kernel_rfl) (by kernel_rfl) (fun _ _ _ _ h => h) ?_
        refine xpskip 21 rfl rfl rfl (by kernel_rfl) (by kernel_rfl) (by kernel_rfl) (fun _ _ _ _ h => h) ?_
        refine xpval 22 rfl (pv_pick rfl rfl) rfl rfl (by kernel_rfl) (by kernel_rfl) (by kernel_rfl) (fun _ _ _ _ h => h) ?_
        refine xpval 23 rfl (pv_move rfl) rfl rfl (by kernel_rfl) (by kernel_rfl) (by kernel_rfl) (fun _ _ _ _ h => h) ?_
        refine xpskip 24 rfl rfl rfl (by kernel_rfl) (by kernel_rfl) (by kernel_rfl) (fun _ _ _ _ h => h) ?_
        refine xpskip 25 rfl rfl rfl (by kernel_rfl) (by kernel_rfl) (by kernel_rfl) (fun _ _ _ _ h => h) ?_
        refine xpskip 26 rfl rfl rfl (by kernel_rfl) (by kernel_rfl) (by kernel_rfl) (fun _ _ _ _ h => h) ?_
        refine xpskip 27 rfl rfl rfl (by kernel_rfl) (by kernel_rfl) (by kernel_rfl) (fun _ _ _ _ h => h) ?_
        refine xpskip 28 rfl rfl rfl (by kernel_rfl) (by kernel_rfl) (by kernel_rfl) (fun _ _ _ _ h => h) ?_
        refine xpval 29 rfl (pv_pick rfl rfl) rfl rfl (by kernel_rfl) (by kernel_rfl) (by kernel_rfl) (fun _ _ _ _ h => h) ?_
        refine xpval 30 rfl (pv_move rfl) rfl rfl (by kernel_rfl) (by kernel_rfl) (by kernel_rfl) (fun _ _ _ _ h => h) ?_
        refine xpskip 31 rfl rfl rfl (by kernel_rfl) (by kernel_rfl) (by kernel_rfl) (fun _ _ _ _ h => h) ?_
        refine xpskip 32 rfl rfl rfl (by kernel_rfl) (by kernel_rfl) (by kernel_rfl) (fun _ _ _ _ h => h) ?_
        refine xpskip 33 rfl rfl rfl (by kernel_rfl) (by kernel_rfl) (by kernel_rfl) (fun _ _ _ _ h => h) ?_
        refine xpskip 34 rfl rfl rfl (by kernel_rfl) (by kernel_rfl) (by kernel_rfl) (fun _ _ _ _ h => h) ?_
        refine xpskip 35 rfl rfl rfl (by kernel_rfl) (by kernel_rfl) (by kernel_rfl) (fun _ _ _ _ h => h) ?_
        refine xpval 36 rfl (pv_pick rfl rfl) rfl rfl (by kernel_rfl) (by kernel_rfl) (by kernel_rfl) (fun _ _ _ _ h => h) ?_
        refine xpval 37 rfl (pv_move rfl) rfl rfl (by kernel_rfl) (by kernel_rfl) (by kernel_rfl) (fun _ _ _ _ h => h) ?_
        refine xpskip 38 rfl rfl rfl (by kernel_rfl) (by kernel_rfl) (by kernel_rfl) (fun _ _ _ _ h => h) ?_
        refine xpskip 39 rfl rfl rfl (by kernel_rfl) (by kernel_rfl) (by kernel_rfl) (fun _ _ _ _ h => h) ?_
        refine xpskip 40 rfl rfl rfl (by kernel_rfl) (by kernel_rfl) (by kernel_rfl) (fun _ _ _ _ h => h) ?_
        refine xpskip 41 rfl rfl rfl (by kernel_rfl) (by kernel_rfl) (by kernel_rfl) (fun _ _ _ _ h => h) ?_
        refine xpskip 42 rfl rfl rfl (by kernel_rfl) (by kernel_rfl) (by kernel_rfl) (fun _ _ _ _ h => h) ?_
        refine xpskip 43 rfl rfl rfl (by kernel_rfl) (by kernel_rfl) (by kernel_rfl) (fun _ _ _ _ h => h) ?_
        refine xpskip 44 rfl rfl rfl (by kernel_rfl) (by kernel_rfl) (by kernel_rfl) (fun _ _ _ _ h => h) ?_
        refine xpval 45 rfl (pv_pick rfl rfl) rfl rfl (by kernel_rfl) (by kernel_rfl) (by kernel_rfl) (fun _ _ _ _ h => h) ?_
        refine xpval 46 rfl (pv_move rfl) rfl rfl (by kernel_rfl) (by kernel_rfl) (by kernel_rfl) (fun _ _ _ _ h => h) ?_
        refine xpskip 47 rfl rfl rfl (by kernel_rfl) (by kernel_rfl) (by kernel_rfl) (fun _ _ _ _ h => h) ?_
        refine xpval 48 rfl (pv_pick rfl rfl) rfl rfl (by kernel_rfl) (by kernel_rfl) (by kernel_rfl) (fun _ _ _ _ h => h) ?_
        refine xpval 49 rfl (pv_assign rfl) rfl rfl (by kernel_rfl) (by kernel_rfl) (by kernel_rfl) (fun _ _ _ _ h => h) ?_
        refine xpdone (by kernel_rfl) ?_
        exact xmeet ⟨false, h, rfl⟩ ⟨(.cons rfl (.refl _) (.nil _)), (SubM.of (.nil _) (.nil _))⟩
    refine xpval 1 rfl (pv_move rfl) rfl rfl (by kernel_rfl) (by kernel_rfl) (by kernel_rfl) (fun _ _ _ _ h => h) ?_
    refine xpval 4 rfl (pv_move rfl) rfl rfl (by kernel_rfl) (by kernel_rfl) (by kernel_rfl) (fun _ _ _ _ h => h) ?_
    refine xpvalE 0 [3] rfl (qv_loadP 0 [] ((List.map ew s1.l).flatten) [] (by first | rfl | exact (List.append_nil _).symm | exact List.append_nil _ | exact List.append_assoc _ _ _ | exact (List.append_assoc _ _ _).symm | exact congrArg _ (List.append_nil _).symm | exact congrArg _ (List.append_nil _) | (simp; done) | (simp [cellsS]; done)) (by first | rfl | exact seg_lenE (by rfl) | exact len_app rfl (seg_lenE (by rfl)) (by rfl) | exact len_app (seg_lenE (by rfl)) rfl (by rfl) | exact len_app rfl (len_app (seg_lenE (by rfl)) rfl (by rfl)) (by rfl) | (simp only [seg_len, cellsS, List.length_append, List.length_cons, List.length_nil]; done) | (simp only [seg_len, cellsS, List.length_append, List.length_cons, List.length_nil]; rfl)) (by first | rfl | exact seg_lenE (by rfl) | exact len_app rfl (seg_lenE (by rfl)) (by rfl) | exact len_app (seg_lenE (by rfl)) rfl (by rfl) | exact len_app rfl (len_app (seg_lenE (by rfl)) rfl (by rfl)) (by rfl) | (simp only [seg_len, cellsS, List.length_append, List.length_cons, List.length_nil]; done) | (simp only [seg_len, cellsS, List.length_append, List.length_cons, List.length_nil]; rfl)) (part_all (seg_lenE (by rfl))) ShpC.h rfl rfl) rfl rfl (by kernel_rfl) (by kernel_rfl) (by kernel_rfl) (fun _ _ _ _ h => h) ?_
    refine xpstepN (is := [2, 3]) (by kernel_rfl) (by simp) ?_
    intro i hi; simp only [List.mem_cons, List.not_mem_nil, or_false] at hi; rcases hi with rfl | rfl
    · refine ⟨_, rfl, ?_⟩
      refine wcall0 (class_Has_con s1 c2 _ h53) Try.func8 (by kernel_rfl) rfl (.cons rfl (.refl _) (.cons rfl (.refl _) .nil)) rfl rfl ?_
      refine xpvalE 3 [] rfl (qv_loadP 0 [] ((List.map ew s1.l).flatten) [] (by first | rfl | exact (List.append_nil _).symm | exact List.append_nil _ | exact List.append_assoc _ _ _ | exact (List.append_assoc _ _ _).symm | exact congrArg _ (List.append_nil _).symm | exact congrArg _ (List.append_nil _) | (simp; done) | (simp [cellsS]; done)) (by first | rfl | exact seg_lenE (by rfl) | exact len_app rfl (seg_lenE (by rfl)) (by rfl) | exact len_app (seg_lenE (by rfl)) rfl (by rfl) | exact len_app rfl (len_app (seg_lenE (by rfl)) rfl (by rfl)) (by rfl) | (simp only [seg_len, cellsS, List.length_append, List.length_cons, List.length_nil]; done) | (simp only [seg_len, cellsS, List.length_append, List.length_cons, List.length_nil]; rfl)) (by first | rfl | exact seg_lenE (by rfl) | exact len_app rfl (seg_lenE (by rfl)) (by rfl) | exact len_app (seg_lenE (by rfl)) rfl (by rfl) | exact len_app rfl (len_app (seg_lenE (by rfl)) rfl (by rfl)) (by rfl) | (simp only [seg_len, cellsS, List.length_append, List.length_cons, List.length_nil]; done) | (simp only [seg_len, cellsS, List.length_append, List.length_cons, List.length_nil]; rfl)) (part_all (seg_lenE (by rfl))) ShpC.h rfl rfl) rfl rfl (by kernel_rfl) (by kernel_rfl) (by kernel_rfl) (fun _ _ _ _ h => h) ?_
      exact xpuse key58 rfl ⟨(.cons rfl (.refl _) (.cons rfl (.refl _) (.cons rfl (.refl _) (.cons rfl (.refl _) (.cons rfl (.refl _) (.cons rfl (.refl _) (.cons rfl (.refl _) (.nil _)))))))), (SubM.of (.keep rfl rfl (.refl _) (.nil _)) (.keep rfl (.nil _)))⟩ rfl (by kernel_rfl)
    · refine ⟨_, rfl, ?_⟩
      refine wval (qv_loadP 0 [] ((List.map ew s1.l).flatten) [] (by first | rfl | exact (List.append_nil _).symm | exact List.append_nil _ | exact List.append_assoc _ _ _ | exact (List.append_assoc _ _ _).symm | exact congrArg _ (List.append_nil _).symm | exact congrArg _ (List.append_nil _) | (simp; done) | (simp [cellsS]; done)) (by first | rfl | exact seg_lenE (by rfl) | exact len_app rfl (seg_lenE (by rfl)) (by rfl) | exact len_app (seg_lenE (by rfl)) rfl (by rfl) | exact len_app rfl (len_app (seg_lenE (by rfl)) rfl (by rfl)) (by rfl) | (simp only [seg_len, cellsS, List.length_append, List.length_cons, List.length_nil]; done) | (simp only [seg_len, cellsS, List.length_append, List.length_cons, List.length_nil]; rfl)) (by first | rfl | exact seg_lenE (by rfl) | exact len_app rfl (seg_lenE (by rfl)) (by rfl) | exact len_app (seg_lenE (by rfl)) rfl (by rfl) | exact len_app rfl (len_app (seg_lenE (by rfl)) rfl (by rfl)) (by rfl) | (simp only [seg_len, cellsS, List.length_append, List.length_cons, List.length_nil]; done) | (simp only [seg_len, cellsS, List.length_append, List.length_cons, List.length_nil]; rfl)) (part_all (seg_lenE (by rfl))) ShpC.h rfl rfl) rfl rfl ?_
      refine xpstep (i := 2) (by kernel_rfl) rfl ?_
      refine wcall0 (class_Has_con s1 c2 _ h53) Try.func8 (by kernel_rfl) rfl (.cons rfl (.refl _) (.cons rfl (.refl _) .nil)) rfl rfl ?_
      exact xpuse key58 rfl ⟨(.cons rfl (.refl _) (.cons rfl (.refl _) (.cons rfl (.refl _) (.cons rfl (.refl _) (.cons rfl (.refl _) (.cons rfl (.refl _) (.cons rfl (.refl _) (.nil _)))))))), (SubM.of (.keep rfl rfl (.refl _) (.nil _)) (.keep rfl (.nil _)))⟩ rfl (by kernel_rfl)
  · clear h
    rintro _ ⟨x52, h, rfl⟩
    refine xretc ?_
    replace h := h.symm
    subst h
    exact xret1 hg rfl rfl (.refl _) (SubM.of (.nil _) (.nil _)) ⟨rfl, rfl, rfl⟩
end Go.Proofs.Ytjemjopjiohcoaa
