/- What functions' texts ask for, and the walks that show it (printed by a program). -/
import Derived.Test.YtgplmognfmjllaaGKp4
namespace Go.Proofs.Ytgplmognfmjllaa
/-- brack.Text -/
def brack_Text_j5 (x372 : Int) (ag4 : ((List UInt8) × Int) → Prop) (x370 : List UInt8) (y466 : UInt8) (x477 : Bool) (r : (List UInt8)) : Prop :=
  ((x477 = true → InR (x372 + 1) ∧ ag4 (x370, (x372 + 1))) ∧ (¬ (x477 = true) → (((y466.toNat : Int) = 10 → Room (x370.length + ([(92 : UInt8), (110 : UInt8)]).length) 1 ∧ InR (x372 + 1) ∧ ag4 ((x370 ++ [(92 : UInt8), (110 : UInt8)]), (x372 + 1))) ∧ (¬ ((y466.toNat : Int) = 10) → Room (x370.length + ([y466]).length) 1 ∧ InR (x372 + 1) ∧ ag4 ((x370 ++ [y466]), (x372 + 1))))))
def brack_Text_l8 (x517 : List UInt8) (f51 : Arr 4 (UInt64)) (ag8 : ((List UInt8) × Int) → Prop) (x618 : List UInt8) (x620 : Int) (r : (List UInt8)) : Prop :=
  ((x620 < (x517.length : Int) → 0 ≤ (x620 : Int) ∧ ∃ y650 : UInt8, x517[(x620 : Int).toNat]? = some y650 ∧ ∃ y653 : Bool, class_Has_R f51 y650 y653 ∧ ((y653 = true → Room (x618.length + ([y650]).length) 1 ∧ InR (x620 + 1) ∧ ag8 ((x618 ++ [y650]), (x620 + 1))) ∧ (¬ (y653 = true) → InR (x620 + 1) ∧ ag8 (x618, (x620 + 1))))) ∧ (¬ (x620 < (x517.length : Int)) → Room (x618.length + ([(93 : UInt8)]).length) 1 ∧ r = (x618 ++ [(93 : UInt8)])))
def brack_Text_j6 (f51 : Arr 4 (UInt64)) (x370 : List UInt8) (x517 : List UInt8) (r : (List UInt8)) : Prop :=
  LoopR (fun ag8 s => brack_Text_l8 x517 f51 ag8 s.1 s.2 r) (x370, 0)
def brack_Text_j7 (f51 : Arr 4 (UInt64)) (x370 : List UInt8) (x526 : Bool) (r : (List UInt8)) : Prop :=
  ((x526 = true → brack_Text_j6 f51 x370 ([(45 : UInt8), (94 : UInt8)]) r) ∧ (¬ (x526 = true) → brack_Text_j6 f51 x370 ([(91 : UInt8), (92 : UInt8), (94 : UInt8), (45 : UInt8)]) r))
def brack_Text_l4 (y305 : (List UInt8)) (f51 : Arr 4 (UInt64)) (ag4 : ((List UInt8) × Int) → Prop) (x370 : List UInt8) (x372 : Int) (r : (List UInt8)) : Prop :=
  ((x372 < (y305.length : Int) → 0 ≤ (x372 : Int) ∧ ∃ y466 : UInt8, y305[(x372 : Int).toNat]? = some y466 ∧ (((y466.toNat : Int) = 93 → brack_Text_j5 x372 ag4 x370 y466 (decide ((y466.toNat : Int) = 93)) r) ∧ (¬ ((y466.toNat : Int) = 93) → (((y466.toNat : Int) = 91 → brack_Text_j5 x372 ag4 x370 y466 (decide ((y466.toNat : Int) = 91)) r) ∧ (¬ ((y466.toNat : Int) = 91) → (((y466.toNat : Int) = 92 → brack_Text_j5 x372 ag4 x370 y466 (decide ((y466.toNat : Int) = 92)) r) ∧ (¬ ((y466.toNat : Int) = 92) → (((y466.toNat : Int) = 94 → brack_Text_j5 x372 ag4 x370 y466 (decide ((y466.toNat : Int) = 94)) r) ∧ (¬ ((y466.toNat : Int) = 94) → brack_Text_j5 x372 ag4 x370 y466 (decide ((y466.toNat : Int) = 45)) r))))))))) ∧ (¬ (x372 < (y305.length : Int)) → (((x370.length : Int) = 1 → ∃ y531 : Bool, class_Has_R f51 (91 : UInt8) y531 ∧ ((¬ (y531 = true) → ∃ y534 : Bool, class_Has_R f51 (92 : UInt8) y534 ∧ brack_Text_j7 f51 x370 (!y534) r) ∧ (¬ (¬ (y531 = true)) → brack_Text_j7 f51 x370 false r))) ∧ (¬ ((x370.length : Int) = 1) → brack_Text_j7 f51 x370 false r))))
def brack_Text_j3 (f51 : Arr 4 (UInt64)) (x104 : List UInt8) (r : (List UInt8)) : Prop :=
  ∃ y305 : (List UInt8), class_Bytes_R f51 y305 ∧ LoopR (fun ag4 s => brack_Text_l4 y305 f51 ag4 s.1 s.2 r) (x104, 0)
def brack_Text_j1 (x49 : List UInt8) (f51 : Arr 4 (UInt64)) (r : (List UInt8)) : Prop :=
  ∃ y107 : Bool, class_Has_R f51 (93 : UInt8) y107 ∧ ((y107 = true → Room (x49.length + ([(93 : UInt8)]).length) 1 ∧ brack_Text_j3 f51 (x49 ++ [(93 : UInt8)]) r) ∧ (¬ (y107 = true) → brack_Text_j3 f51 x49 r))
def brack_Text_j2 (x1 : Arr 4 (UInt64)) (x72 : Bool) (r : (List UInt8)) : Prop :=
  ((x72 = true → Room (([(91 : UInt8)]).length + ([(94 : UInt8)]).length) 1 ∧ ∃ y95 : (Arr 4 (UInt64)), class_Not_R x1 y95 ∧ brack_Text_j1 ([(91 : UInt8)] ++ [(94 : UInt8)]) y95 r) ∧ (¬ (x72 = true) → brack_Text_j1 ([(91 : UInt8)]) x1 r))
def brack_Text_R (x1 : Arr 4 (UInt64)) (r : (List UInt8)) : Prop :=
  ∃ y53 : Int, class_Count_R x1 y53 ∧ ((y53 = 0 → brack_Text_j2 x1 true r) ∧ (¬ (y53 = 0) → ((128 < y53 → ((y53 < 256 → brack_Text_j2 x1 true r) ∧ (¬ (y53 < 256) → ∃ y80 : (Arr 4 (UInt64)), class_Of_R ([(94 : UInt8)]) y80 ∧ brack_Text_j2 x1 (decide ((x1 : Arr 4 (UInt64)) = y80)) r))) ∧ (¬ (128 < y53) → ∃ y86 : (Arr 4 (UInt64)), class_Of_R ([(94 : UInt8)]) y86 ∧ brack_Text_j2 x1 (decide ((x1 : Arr 4 (UInt64)) = y86)) r))))
set_option maxHeartbeats 4000000 in
theorem brack_Text_con (x1 : Arr 4 (UInt64)) (r : (List UInt8)) (h : brack_Text_R x1 r) : Con Try.prog 8 [.agg ((List.map ew x1.l).flatten)] [] [] (RetM 1 5 eb r) := by
  refine xenter Try.func8 rfl rfl fun g hg => ?_
  simp only [Try.ntmps8, slots]
  refine xseq ?_
  refine xregion ?_
  refine xbox rfl rfl rfl rfl fun b1 => ?_
  refine xvalP (pv_assign rfl) rfl rfl ?_
  refine xnil ?_
  refine xthen ?_
  refine xseq ?_
  refine xregion ?_
  refine xbuildSliceM (f := eb) [(91 : UInt8)] UndC.h InfC.h rfl rfl (by first | exact wkR_of rfl | (repeat (first | exact WkR.nil | refine WkR.cons (by (repeat (first | exact WkL.nil | refine WkL.cons (by first | with_reducible exact Wk.refl _ | exact Wk.nil_own _ | exact Wk.nil_pl _ | with_reducible exact Wk.tok _ _ _ | exact Wk.tok _ _ _ | exact Wk.eq (by first | rfl | (simp []; done) | (simp []; omega))) ?_))) ?_))) rfl rfl rfl rfl fun s10 => ?_
  refine xvalP (pv_assign rfl) rfl rfl ?_
  refine xnil ?_
  refine xthen ?_
  refine xseqM (fun σ => ∃ (x49 : List UInt8), ∃ (f51 : Arr 4 (UInt64)), ∃ (i50 : Option (Nat × Nat)), brack_Text_j1 x49 f51 r ∧ σ = ⟨[(1, .v (.pointer (some ⟨b1, 0, none⟩))), (3, .sl 1 (some i50) (List.map eb x49))], [⟨b1, 26, ((List.map ew f51.l).flatten)⟩], [⟨i50, 5, 1, x49.length⟩]⟩) ?_ ?_
  · refine xseq ?_
    refine xregion ?_
    refine xval (qv_loadP 0 [] ((List.map ew x1.l).flatten) [] (by first | rfl | exact (List.append_nil _).symm | exact List.append_nil _ | exact List.append_assoc _ _ _ | exact (List.append_assoc _ _ _).symm | exact congrArg _ (List.append_nil _).symm | exact congrArg _ (List.append_nil _) | (simp; done) | (simp [cellsS]; done)) (by first | rfl | exact seg_lenE (by rfl) | exact len_app rfl (seg_lenE (by rfl)) (by rfl) | exact len_app (seg_lenE (by rfl)) rfl (by rfl) | exact len_app rfl (len_app (seg_lenE (by rfl)) rfl (by rfl)) (by rfl) | (simp only [seg_len, cellsS, List.length_append, List.length_cons, List.length_nil]; done) | (simp only [seg_len, cellsS, List.length_append, List.length_cons, List.length_nil]; rfl)) (by first | rfl | exact seg_lenE (by rfl) | exact len_app rfl (seg_lenE (by rfl)) (by rfl) | exact len_app (seg_lenE (by rfl)) rfl (by rfl) | exact len_app rfl (len_app (seg_lenE (by rfl)) rfl (by rfl)) (by rfl) | (simp only [seg_len, cellsS, List.length_append, List.length_cons, List.length_nil]; done) | (simp only [seg_len, cellsS, List.length_append, List.length_cons, List.length_nil]; rfl)) (part_all (seg_lenE (by rfl))) ShpC.h rfl rfl) rfl rfl ?_
    obtain ⟨y53, h52, h⟩ := h
    refine xcall0 (class_Count_con x1 _ h52) Try.func14 (by kernel_rfl) rfl (.cons rfl (.refl _) .nil) rfl rfl ?_
    refine xvalP (pv_assign rfl) rfl rfl ?_
    refine xnil ?_
    refine xthen ?_
    refine xseqM (fun σ => ∃ (x72 : Bool), brack_Text_j2 x1 x72 r ∧ σ = ⟨[(1, .v (.pointer (some ⟨b1, 0, none⟩))), (3, .sl 1 (some (some (s10, 1))) (List.map eb ([(91 : UInt8)]))), (28, .v (.bool x72))], [⟨b1, 26, ((List.map ew x1.l).flatten)⟩], [⟨(some (s10, 1)), 5, 1, ([(91 : UInt8)]).length⟩]⟩) ?_ ?_
    · refine xregionD (m := 16) (by kernel_rfl) rfl ?_
      refine xpval 0 rfl (pv_move rfl) rfl rfl (by kernel_rfl) (by kernel_rfl) (by kernel_rfl) (fun _ _ _ _ h => h) ?_
      refine xpval 1 rfl (pv_bin2 rfl rfl rfl) rfl rfl (by kernel_rfl) (by kernel_rfl) (by kernel_rfl) (fun _ _ _ _ h => h) ?_
      refine xpval 2 rfl (pv_move rfl) rfl rfl (by kernel_rfl) (by kernel_rfl) (by kernel_rfl) (fun _ _ _ _ h => h) ?_
      by_cases hp74 : y53 = 0
      · replace h := h.1 hp74
        refine psetB 15 (decide_eq_true hp74) rfl ?_
        refine xpskip 3 rfl rfl rfl (by kernel_rfl) (by kernel_rfl) (by kernel_rfl) (fun _ _ _ _ h => h) ?_
        refine xpskip 4 rfl rfl rfl (by kernel_rfl) (by kernel_rfl) (by kernel_rfl) (fun _ _ _ _ h => h) ?_
        refine xpskip 5 rfl rfl rfl (by kernel_rfl) (by kernel_rfl) (by kernel_rfl) (fun _ _ _ _ h => h) ?_
        refine xpskip 6 rfl rfl rfl (by kernel_rfl) (by kernel_rfl) (by kernel_rfl) (fun _ _ _ _ h => h) ?_
        refine xpskip 7 rfl rfl rfl (by kernel_rfl) (by kernel_rfl) (by kernel_rfl) (fun _ _ _ _ h => h) ?_
        refine xpskip 8 rfl rfl rfl (by kernel_rfl) (by kernel_rfl) (by kernel_rfl) (fun _ _ _ _ h => h) ?_
        refine xpval 9 rfl (pv_pick rfl rfl) rfl rfl (by kernel_rfl) (by kernel_rfl) (by kernel_rfl) (fun _ _ _ _ h => h) ?_
        refine xpval 10 rfl (pv_move rfl) rfl rfl (by kernel_rfl) (by kernel_rfl) (by kernel_rfl) (fun _ _ _ _ h => h) ?_
        refine xpskip 11 rfl rfl rfl (by kernel_rfl) (by kernel_rfl) (by kernel_rfl) (fun _ _ _ _ h => h) ?_
        refine xpskip 12 rfl rfl rfl (by kernel_rfl) (by kernel_rfl) (by kernel_rfl) (fun _ _ _ _ h => h) ?_
        refine xpskip 13 rfl rfl rfl (by kernel_rfl) (by kernel_rfl) (by kernel_rfl) (fun _ _ _ _ h => h) ?_
        refine xpskip 14 rfl rfl rfl (by kernel_rfl) (by kernel_rfl) (by kernel_rfl) (fun _ _ _ _ h => h) ?_
        refine xpval 15 rfl (pv_pick rfl rfl) rfl rfl (by kernel_rfl) (by kernel_rfl) (by kernel_rfl) (fun _ _ _ _ h => h) ?_
        refine xpdone (by kernel_rfl) ?_
        exact xmeet ⟨true, h, rfl⟩ ⟨(.cons rfl (.refl _) (.cons rfl (.refl _) (.cons rfl (.refl _) (.nil _)))), (SubM.of (.keep rfl rfl (.refl _) (.nil _)) (.keep rfl (.nil _)))⟩
      · replace h := h.2 hp74
        refine psetB 15 (decide_eq_false hp74) rfl ?_
        refine xpval 3 rfl (pv_move rfl) rfl rfl (by kernel_rfl) (by kernel_rfl) (by kernel_rfl) (fun _ _ _ _ h => h) ?_
        refine xpval 4 rfl (pv_bin2 rfl rfl rfl) rfl rfl (by kernel_rfl) (by kernel_rfl) (by kernel_rfl) (fun _ _ _ _ h => h) ?_
        refine xpval 5 rfl (pv_move rfl) rfl rfl (by kernel_rfl) (by kernel_rfl) (by kernel_rfl) (fun _ _ _ _ h => h) ?_
        by_cases hp76 : 128 < y53
        · replace h := h.1 hp76
          refine psetB 18 (decide_eq_true hp76) rfl ?_
          refine xpval 6 rfl (pv_move rfl) rfl rfl (by kernel_rfl) (by kernel_rfl) (by kernel_rfl) (fun _ _ _ _ h => h) ?_
          refine xpval 7 rfl (pv_bin2 rfl rfl rfl) rfl rfl (by kernel_rfl) (by kernel_rfl) (by kernel_rfl) (fun _ _ _ _ h => h) ?_
          refine xpval 8 rfl (pv_pick rfl rfl) rfl rfl (by kernel_rfl) (by kernel_rfl) (by kernel_rfl) (fun _ _ _ _ h => h) ?_
          refine xpval 9 rfl (pv_pick rfl rfl) rfl rfl (by kernel_rfl) (by kernel_rfl) (by kernel_rfl) (fun _ _ _ _ h => h) ?_
          refine xpval 10 rfl (pv_move rfl) rfl rfl (by kernel_rfl) (by kernel_rfl) (by kernel_rfl) (fun _ _ _ _ h => h) ?_
          by_cases hp78 : y53 < 256
          · replace h := h.1 hp78
            refine psetB 23 (decide_eq_true hp78) rfl ?_
            refine xpskip 11 rfl rfl rfl (by kernel_rfl) (by kernel_rfl) (by kernel_rfl) (fun _ _ _ _ h => h) ?_
            refine xpskip 12 rfl rfl rfl (by kernel_rfl) (by kernel_rfl) (by kernel_rfl) (fun _ _ _ _ h => h) ?_
            refine xpskip 13 rfl rfl rfl (by kernel_rfl) (by kernel_rfl) (by kernel_rfl) (fun _ _ _ _ h => h) ?_
            refine xpskip 14 rfl rfl rfl (by kernel_rfl) (by kernel_rfl) (by kernel_rfl) (fun _ _ _ _ h => h) ?_
            refine xpval 15 rfl (pv_pick rfl rfl) rfl rfl (by kernel_rfl) (by kernel_rfl) (by kernel_rfl) (fun _ _ _ _ h => h) ?_
            refine xpdone (by kernel_rfl) ?_
            exact xmeet ⟨true, h, rfl⟩ ⟨(.cons rfl (.refl _) (.cons rfl (.refl _) (.cons rfl (.refl _) (.nil _)))), (SubM.of (.keep rfl rfl (.refl _) (.nil _)) (.keep rfl (.nil _)))⟩
          · replace h := h.2 hp78
            refine psetB 23 (decide_eq_false hp78) rfl ?_
            obtain ⟨y80, h79, h⟩ := h
            refine xpcut 0 #[true, true, true, true, true, true, true, true, true, true, true, true, true, true, true, true] (fun σ => σ = ⟨[(1, .v (.pointer (some ⟨b1, 0, none⟩))), (3, .sl 1 (some (some (s10, 1))) (List.map eb ([(91 : UInt8)]))), (28, .v (.bool (decide ((x1 : Arr 4 (UInt64)) = y80))))], [⟨b1, 26, ((List.map ew x1.l).flatten)⟩], [⟨(some (s10, 1)), 5, 1, ([(91 : UInt8)]).length⟩]⟩) ?_ (fun key82 => ?_)
            · rintro _ rfl
              refine xpdone (by kernel_rfl) ?_
              exact xmeet ⟨(decide ((x1 : Arr 4 (UInt64)) = y80)), h, rfl⟩ ⟨(.cons rfl (.refl _) (.cons rfl (.refl _) (.cons rfl (.refl _) (.nil _)))), (SubM.of (.keep rfl rfl (.refl _) (.nil _)) (.keep rfl (.nil _)))⟩
            refine xpcut 3 #[true, true, true, true, true, true, true, true, true, true, true, true, true, false, false, false] (fun σ => ∃ (i83 : Option (Nat × Nat)), σ = ⟨[(1, .v (.pointer (some ⟨b1, 0, none⟩))), (3, .sl 1 (some (some (s10, 1))) (List.map eb ([(91 : UInt8)]))), (23, .v (.bool false)), (24, .agg ((List.map ew x1.l).flatten)), (25, .sl 1 (some i83) (List.map eb ([(94 : UInt8)])))], [⟨b1, 26, ((List.map ew x1.l).flatten)⟩], [⟨i83, 5, 1, ([(94 : UInt8)]).length⟩, ⟨(some (s10, 1)), 5, 1, ([(91 : UInt8)]).length⟩]⟩) ?_ (fun key84 => ?_)
            · rintro _ ⟨i83, rfl⟩
              refine xpstep (i := 13) (by kernel_rfl) rfl ?_
              refine wcall0 (class_Of_con ([(94 : UInt8)]) _ h79) Try.func15 (by kernel_rfl) rfl (.cons rfl (.tok _ _ _) .nil) rfl rfl ?_
              refine xpval 14 rfl (pv_eqAgg (f := E_palinode_api_Set) (a := x1) (b := y80) (eqC_arr (t := 26) (e := 24) (f := ew) UndC.h ShpC.h (by kernel_rfl) inferInstance (fun _ => rfl)) (by decide) (by kernel_rfl) (by first | rfl | exact congrArg (fun q => some (Sd.agg q)) (by first | rfl | exact (List.append_nil _).symm | exact List.append_nil _ | exact List.append_assoc _ _ _ | exact (List.append_assoc _ _ _).symm | exact congrArg _ (List.append_nil _).symm | exact congrArg _ (List.append_nil _) | (simp; done) | (simp [cellsS]; done))) (by first | rfl | exact congrArg (fun q => some (Sd.agg q)) (by first | rfl | exact (List.append_nil _).symm | exact List.append_nil _ | exact List.append_assoc _ _ _ | exact (List.append_assoc _ _ _).symm | exact congrArg _ (List.append_nil _).symm | exact congrArg _ (List.append_nil _) | (simp; done) | (simp [cellsS]; done)))) rfl rfl (by kernel_rfl) (by kernel_rfl) (by kernel_rfl) (fun _ _ _ _ h => h) ?_
              refine xpval 15 rfl (pv_pick rfl rfl) rfl rfl (by kernel_rfl) (by kernel_rfl) (by kernel_rfl) (fun _ _ _ _ h => h) ?_
              exact xpuse key82 rfl ⟨(.cons rfl (.refl _) (.cons rfl (.refl _) (.cons rfl (.refl _) (.nil _)))), (SubM.of (.keep rfl rfl (.refl _) (.nil _)) (.drop (.keep rfl (.nil _))))⟩ rfl (by kernel_rfl)
            refine xpstepN (is := [11, 12]) (by kernel_rfl) (by simp) ?_
            intro i hi; simp only [List.mem_cons, List.not_mem_nil, or_false] at hi; rcases hi with rfl | rfl
            · refine ⟨_, rfl, ?_⟩
              refine wval (qv_loadP 0 [] ((List.map ew x1.l).flatten) [] (by first | rfl | exact (List.append_nil _).symm | exact List.append_nil _ | exact List.append_assoc _ _ _ | exact (List.append_assoc _ _ _).symm | exact congrArg _ (List.append_nil _).symm | exact congrArg _ (List.append_nil _) | (simp; done) | (simp [cellsS]; done)) (by first | rfl | exact seg_lenE (by rfl) | exact len_app rfl (seg_lenE (by rfl)) (by rfl) | exact len_app (seg_lenE (by rfl)) rfl (by rfl) | exact len_app rfl (len_app (seg_lenE (by rfl)) rfl (by rfl)) (by rfl) | (simp only [seg_len, cellsS, List.length_append, List.length_cons, List.length_nil]; done) | (simp only [seg_len, cellsS, List.length_append, List.length_cons, List.length_nil]; rfl)) (by first | rfl | exact seg_lenE (by rfl) | exact len_app rfl (seg_lenE (by rfl)) (by rfl) | exact len_app (seg_lenE (by rfl)) rfl (by rfl) | exact len_app rfl (len_app (seg_lenE (by rfl)) rfl (by rfl)) (by rfl) | (simp only [seg_len, cellsS, List.length_append, List.length_cons, List.length_nil]; done) | (simp only [seg_len, cellsS, List.length_append, List.length_cons, List.length_nil]; rfl)) (part_all (seg_lenE (by rfl))) ShpC.h rfl rfl) rfl rfl ?_
              refine xpstep (i := 12) (by kernel_rfl) rfl ?_
              refine wbuildSliceM (f := eb) [(94 : UInt8)] UndC.h InfC.h rfl rfl (by first | exact wkR_of rfl | (repeat (first | exact WkR.nil | refine WkR.cons (by (repeat (first | exact WkL.nil | refine WkL.cons (by first | with_reducible exact Wk.refl _ | exact Wk.nil_own _ | exact Wk.nil_pl _ | with_reducible exact Wk.tok _ _ _ | exact Wk.tok _ _ _ | exact Wk.eq (by first | rfl | (simp []; done) | (simp []; omega))) ?_))) ?_))) rfl rfl rfl rfl fun s25 => ?_
              exact xpuse key84 ⟨(some (s25, 1)), rfl⟩ ⟨(.cons rfl (.refl _) (.cons rfl (.refl _) (.cons rfl (.refl _) (.cons rfl (.refl _) (.cons rfl (.refl _) (.nil _)))))), (SubM.of (.keep rfl rfl (.refl _) (.nil _)) (.keep rfl (.keep rfl (.nil _))))⟩ rfl (by kernel_rfl)
            · refine ⟨_, rfl, ?_⟩
              refine wbuildSliceM (f := eb) [(94 : UInt8)] UndC.h InfC.h rfl rfl (by first | exact wkR_of rfl | (repeat (first | exact WkR.nil | refine WkR.cons (by (repeat (first | exact WkL.nil | refine WkL.cons (by first | with_reducible exact Wk.refl _ | exact Wk.nil_own _ | exact Wk.nil_pl _ | with_reducible exact Wk.tok _ _ _ | exact Wk.tok _ _ _ | exact Wk.eq (by first | rfl | (simp []; done) | (simp []; omega))) ?_))) ?_))) rfl rfl rfl rfl fun s25 => ?_
              refine xpstepN (is := [11, 13]) (by kernel_rfl) (by simp) ?_
              intro i hi; simp only [List.mem_cons, List.not_mem_nil, or_false] at hi; rcases hi with rfl | rfl
              · refine ⟨_, rfl, ?_⟩
                refine wval (qv_loadP 0 [] ((List.map ew x1.l).flatten) [] (by first | rfl | exact (List.append_nil _).symm | exact List.append_nil _ | exact List.append_assoc _ _ _ | exact (List.append_assoc _ _ _).symm | exact congrArg _ (List.append_nil _).symm | exact congrArg _ (List.append_nil _) | (simp; done) | (simp [cellsS]; done)) (by first | rfl | exact seg_lenE (by rfl) | exact len_app rfl (seg_lenE (by rfl)) (by rfl) | exact len_app (seg_lenE (by rfl)) rfl (by rfl) | exact len_app rfl (len_app (seg_lenE (by rfl)) rfl (by rfl)) (by rfl) | (simp only [seg_len, cellsS, List.length_append, List.length_cons, List.length_nil]; done) | (simp only [seg_len, cellsS, List.length_append, List.length_cons, List.length_nil]; rfl)) (by first | rfl | exact seg_lenE (by rfl) | exact len_app rfl (seg_lenE (by rfl)) (by rfl) | exact len_app (seg_lenE (by rfl)) rfl (by rfl) | exact len_app rfl (len_app (seg_lenE (by rfl)) rfl (by rfl)) (by rfl) | (simp only [seg_len, cellsS, List.length_append, List.length_cons, List.length_nil]; done) | (simp only [seg_len, cellsS, List.length_append, List.length_cons, List.length_nil]; rfl)) (part_all (seg_lenE (by rfl))) ShpC.h rfl rfl) rfl rfl ?_
                exact xpuse key84 ⟨(some (s25, 1)), rfl⟩ ⟨(.cons rfl (.refl _) (.cons rfl (.refl _) (.cons rfl (.refl _) (.cons rfl (.refl _) (.cons rfl (.refl _) (.nil _)))))), (SubM.of (.keep rfl rfl (.refl _) (.nil _)) (.keep rfl (.keep rfl (.nil _))))⟩ rfl (by kernel_rfl)
              · refine ⟨_, rfl, ?_⟩
                refine wcall0 (class_Of_con ([(94 : UInt8)]) _ h79) Try.func15 (by kernel_rfl) rfl (.cons rfl (.tok _ _ _) .nil) rfl rfl ?_
                refine xpvalE 11 [] rfl (qv_loadP 0 [] ((List.map ew x1.l).flatten) [] (by first | rfl | exact (List.append_nil _).symm | exact List.append_nil _ | exact List.append_assoc _ _ _ | exact (List.append_assoc _ _ _).symm | exact congrArg _ (List.append_nil _).symm | exact congrArg _ (List.append_nil _) | (simp; done) | (simp [cellsS]; done)) (by first | rfl | exact seg_lenE (by rfl) | exact len_app rfl (seg_lenE (by rfl)) (by rfl) | exact len_app (seg_lenE (by rfl)) rfl (by rfl) | exact len_app rfl (len_app (seg_lenE (by rfl)) rfl (by rfl)) (by rfl) | (simp only [seg_len, cellsS, List.length_append, List.length_cons, List.length_nil]; done) | (simp only [seg_len, cellsS, List.length_append, List.length_cons, List.length_nil]; rfl)) (by first | rfl | exact seg_lenE (by rfl) | exact len_app rfl (seg_lenE (by rfl)) (by rfl) | exact len_app (seg_lenE (by rfl)) rfl (by rfl) | exact len_app rfl (len_app (seg_lenE (by rfl)) rfl (by rfl)) (by rfl) | (simp only [seg_len, cellsS, List.length_append, List.length_cons, List.length_nil]; done) | (simp only [seg_len, cellsS, List.length_append, List.length_cons, List.length_nil]; rfl)) (part_all (seg_lenE (by rfl))) ShpC.h rfl rfl) rfl rfl (by kernel_rfl) (by kernel_rfl) (by kernel_rfl) (fun _ _ _ _ h => h) ?_
                refine xpval 14 rfl (pv_eqAgg (f := E_palinode_api_Set) (a := x1) (b := y80) (eqC_arr (t := 26) (e := 24) (f := ew) UndC.h ShpC.h (by kernel_rfl) inferInstance (fun _ => rfl)) (by decide) (by kernel_rfl) (by first | rfl | exact congrArg (fun q => some (Sd.agg q)) (by first | rfl | exact (List.append_nil _).symm | exact List.append_nil _ | exact List.append_assoc _ _ _ | exact (List.append_assoc _ _ _).symm | exact congrArg _ (List.append_nil _).symm | exact congrArg _ (List.append_nil _) | (simp; done) | (simp [cellsS]; done))) (by first | rfl | exact congrArg (fun q => some (Sd.agg q)) (by first | rfl | exact (List.append_nil _).symm | exact List.append_nil _ | exact List.append_assoc _ _ _ | exact (List.append_assoc _ _ _).symm | exact congrArg _ (List.append_nil _).symm | exact congrArg _ (List.append_nil _) | (simp; done) | (simp [cellsS]; done)))) rfl rfl (by kernel_rfl) (by kernel_rfl) (by kernel_rfl) (fun _ _ _ _ h => h) ?_
                refine xpval 15 rfl (pv_pick rfl rfl) rfl rfl (by kernel_rfl) (by kernel_rfl) (by kernel_rfl) (fun _ _ _ _ h => h) ?_
                exact xpuse key82 rfl ⟨(.cons rfl (.refl _) (.cons rfl (.refl _) (.cons rfl (.refl _) (.nil _)))), (SubM.of (.keep rfl rfl (.refl _) (.nil _)) (.drop (.keep rfl (.nil _))))⟩ rfl (by kernel_rfl)
        · replace h := h.2 hp76
          refine psetB 18 (decide_eq_false hp76) rfl ?_
          obtain ⟨y86, h85, h⟩ := h
          refine xpcut 0 #[true, true, true, true, true, true, true, true, true, true, true, true, true, true, true, true] (fun σ => σ = ⟨[(1, .v (.pointer (some ⟨b1, 0, none⟩))), (3, .sl 1 (some (some (s10, 1))) (List.map eb ([(91 : UInt8)]))), (28, .v (.bool (decide ((x1 : Arr 4 (UInt64)) = y86))))], [⟨b1, 26, ((List.map ew x1.l).flatten)⟩], [⟨(some (s10, 1)), 5, 1, ([(91 : UInt8)]).length⟩]⟩) ?_ (fun key88 => ?_)
          · rintro _ rfl
            refine xpdone (by kernel_rfl) ?_
            exact xmeet ⟨(decide ((x1 : Arr 4 (UInt64)) = y86)), h, rfl⟩ ⟨(.cons rfl (.refl _) (.cons rfl (.refl _) (.cons rfl (.refl _) (.nil _)))), (SubM.of (.keep rfl rfl (.refl _) (.nil _)) (.keep rfl (.nil _)))⟩
          refine xpcut 3 #[true, true, true, true, true, true, true, true, true, true, true, true, true, false, false, false] (fun σ => ∃ (i89 : Option (Nat × Nat)), σ = ⟨[(1, .v (.pointer (some ⟨b1, 0, none⟩))), (3, .sl 1 (some (some (s10, 1))) (List.map eb ([(91 : UInt8)]))), (23, .v (.bool false)), (24, .agg ((List.map ew x1.l).flatten)), (25, .sl 1 (some i89) (List.map eb ([(94 : UInt8)])))], [⟨b1, 26, ((List.map ew x1.l).flatten)⟩], [⟨i89, 5, 1, ([(94 : UInt8)]).length⟩, ⟨(some (s10, 1)), 5, 1, ([(91 : UInt8)]).length⟩]⟩) ?_ (fun key90 => ?_)
          · rintro _ ⟨i89, rfl⟩
            refine xpstep (i := 13) (by kernel_rfl) rfl ?_
            refine wcall0 (class_Of_con ([(94 : UInt8)]) _ h85) Try.func15 (by kernel_rfl) rfl (.cons rfl (.tok _ _ _) .nil) rfl rfl ?_
            refine xpval 14 rfl (pv_eqAgg (f := E_palinode_api_Set) (a := x1) (b := y86) (eqC_arr (t := 26) (e := 24) (f := ew) UndC.h ShpC.h (by kernel_rfl) inferInstance (fun _ => rfl)) (by decide) (by kernel_rfl) (by first | rfl | exact congrArg (fun q => some (Sd.agg q)) (by first | rfl | exact (List.append_nil _).symm | exact List.append_nil _ | exact List.append_assoc _ _ _ | exact (List.append_assoc _ _ _).symm | exact congrArg _ (List.append_nil _).symm | exact congrArg _ (List.append_nil _) | (simp; done) | (simp [cellsS]; done))) (by first | rfl | exact congrArg (fun q => some (Sd.agg q)) (by first | rfl | exact (List.append_nil _).symm | exact List.append_nil _ | exact List.append_assoc _ _ _ | exact (List.append_assoc _ _ _).symm | exact congrArg _ (List.append_nil _).symm | exact congrArg _ (List.append_nil _) | (simp; done) | (simp [cellsS]; done)))) rfl rfl (by kernel_rfl) (by kernel_rfl) (by kernel_rfl) (fun _ _ _ _ h => h) ?_
            refine xpval 15 rfl (pv_pick rfl rfl) rfl rfl (by kernel_rfl) (by kernel_rfl) (by kernel_rfl) (fun _ _ _ _ h => h) ?_
            exact xpuse key88 rfl ⟨(.cons rfl (.refl _) (.cons rfl (.refl _) (.cons rfl (.refl _) (.nil _)))), (SubM.of (.keep rfl rfl (.refl _) (.nil _)) (.drop (.keep rfl (.nil _))))⟩ rfl (by kernel_rfl)
          refine xpskip 6 rfl rfl rfl (by kernel_rfl) (by kernel_rfl) (by kernel_rfl) (fun _ _ _ _ h => h) ?_
          refine xpskip 7 rfl rfl rfl (by kernel_rfl) (by kernel_rfl) (by kernel_rfl) (fun _ _ _ _ h => h) ?_
          refine xpval 8 rfl (pv_pick rfl rfl) rfl rfl (by kernel_rfl) (by kernel_rfl) (by kernel_rfl) (fun _ _ _ _ h => h) ?_
          refine xpval 9 rfl (pv_pick rfl rfl) rfl rfl (by kernel_rfl) (by kernel_rfl) (by kernel_rfl) (fun _ _ _ _ h => h) ?_
          refine xpval 10 rfl (pv_move rfl) rfl rfl (by kernel_rfl) (by kernel_rfl) (by kernel_rfl) (fun _ _ _ _ h => h) ?_
          refine xpstepN (is := [11, 12]) (by kernel_rfl) (by simp) ?_
          intro i hi; simp only [List.mem_cons, List.not_mem_nil, or_false] at hi; rcases hi with rfl | rfl
          · refine ⟨_, rfl, ?_⟩
            refine wval (qv_loadP 0 [] ((List.map ew x1.l).flatten) [] (by first | rfl | exact (List.append_nil _).symm | exact List.append_nil _ | exact List.append_assoc _ _ _ | exact (List.append_assoc _ _ _).symm | exact congrArg _ (List.append_nil _).symm | exact congrArg _ (List.append_nil _) | (simp; done) | (simp [cellsS]; done)) (by first | rfl | exact seg_lenE (by rfl) | exact len_app rfl (seg_lenE (by rfl)) (by rfl) | exact len_app (seg_lenE (by rfl)) rfl (by rfl) | exact len_app rfl (len_app (seg_lenE (by rfl)) rfl (by rfl)) (by rfl) | (simp only [seg_len, cellsS, List.length_append, List.length_cons, List.length_nil]; done) | (simp only [seg_len, cellsS, List.length_append, List.length_cons, List.length_nil]; rfl)) (by first | rfl | exact seg_lenE (by rfl) | exact len_app rfl (seg_lenE (by rfl)) (by rfl) | exact len_app (seg_lenE (by rfl)) rfl (by rfl) | exact len_app rfl (len_app (seg_lenE (by rfl)) rfl (by rfl)) (by rfl) | (simp only [seg_len, cellsS, List.length_append, List.length_cons, List.length_nil]; done) | (simp only [seg_len, cellsS, List.length_append, List.length_cons, List.length_nil]; rfl)) (part_all (seg_lenE (by rfl))) ShpC.h rfl rfl) rfl rfl ?_
            refine xpstep (i := 12) (by kernel_rfl) rfl ?_
            refine wbuildSliceM (f := eb) [(94 : UInt8)] UndC.h InfC.h rfl rfl (by first | exact wkR_of rfl | (repeat (first | exact WkR.nil | refine WkR.cons (by (repeat (first | exact WkL.nil | refine WkL.cons (by first | with_reducible exact Wk.refl _ | exact Wk.nil_own _ | exact Wk.nil_pl _ | with_reducible exact Wk.tok _ _ _ | exact Wk.tok _ _ _ | exact Wk.eq (by first | rfl | (simp []; done) | (simp []; omega))) ?_))) ?_))) rfl rfl rfl rfl fun s25 => ?_
            exact xpuse key90 ⟨(some (s25, 1)), rfl⟩ ⟨(.cons rfl (.refl _) (.cons rfl (.refl _) (.cons rfl (.refl _) (.cons rfl (.refl _) (.cons rfl (.refl _) (.nil _)))))), (SubM.of (.keep rfl rfl (.refl _) (.nil _)) (.keep rfl (.keep rfl (.nil _))))⟩ rfl (by kernel_rfl)
          · refine ⟨_, rfl, ?_⟩
            refine wbuildSliceM (f := eb) [(94 : UInt8)] UndC.h InfC.h rfl rfl (by first | exact wkR_of rfl | (repeat (first | exact WkR.nil | refine WkR.cons (by (repeat (first | exact WkL.nil | refine WkL.cons (by first | with_reducible exact Wk.refl _ | exact Wk.nil_own _ | exact Wk.nil_pl _ | with_reducible exact Wk.tok _ _ _ | exact Wk.tok _ _ _ | exact Wk.eq (by first | rfl | (simp []; done) | (simp []; omega))) ?_))) ?_))) rfl rfl rfl rfl fun s25 => ?_
            refine xpstepN (is := [11, 13]) (by kernel_rfl) (by simp) ?_
            intro i hi; simp only [List.mem_cons, List.not_mem_nil, or_false] at hi; rcases hi with rfl | rfl
            · refine ⟨_, rfl, ?_⟩
              refine wval (qv_loadP 0 [] ((List.map ew x1.l).flatten) [] (by first | rfl | exact (List.append_nil _).symm | exact List.append_nil _ | exact List.append_assoc _ _ _ | exact (List.append_assoc _ _ _).symm | exact congrArg _ (List.append_nil _).symm | exact congrArg _ (List.append_nil _) | (simp; done) | (simp [cellsS]; done)) (by first | rfl | exact seg_lenE (by rfl) | exact len_app rfl (seg_lenE (by rfl)) (by rfl) | exact len_app (seg_lenE (by rfl)) rfl (by rfl) | exact len_app rfl (len_app (seg_lenE (by rfl)) rfl (by rfl)) (by rfl) | (simp only [seg_len, cellsS, List.length_append, List.length_cons, List.length_nil]; done) | (simp only [seg_len, cellsS, List.length_append, List.length_cons, List.length_nil]; rfl)) (by first | rfl | exact seg_lenE (by rfl) | exact len_app rfl (seg_lenE (by rfl)) (by rfl) | exact len_app (seg_lenE (by rfl)) rfl (by rfl) | exact len_app rfl (len_app (seg_lenE (by rfl)) rfl (by rfl)) (by rfl) | (simp only [seg_len, cellsS, List.length_append, List.length_cons, List.length_nil]; done) | (simp only [seg_len, cellsS, List.length_append, List.length_cons, List.length_nil]; rfl)) (part_all (seg_lenE (by rfl))) ShpC.h rfl rfl) rfl rfl ?_
              exact xpuse key90 ⟨(some (s25, 1)), rfl⟩ ⟨(.cons rfl (.refl _) (.cons rfl (.refl _) (.cons rfl (.refl _) (.cons rfl (.refl _) (.cons rfl (.refl _) (.nil _)))))), (SubM.of (.keep rfl rfl (.refl _) (.nil _)) (.keep rfl (.keep rfl (.nil _))))⟩ rfl (by kernel_rfl)
            · refine ⟨_, rfl, ?_⟩
              refine wcall0 (class_Of_con ([(94 : UInt8)]) _ h85) Try.func15 (by kernel_rfl) rfl (.cons rfl (.tok _ _ _) .nil) rfl rfl ?_
              refine xpvalE 11 [] rfl (qv_loadP 0 [] ((List.map ew x1.l).flatten) [] (by first | rfl | exact (List.append_nil _).symm | exact List.append_nil _ | exact List.append_assoc _ _ _ | exact (List.append_assoc _ _ _).symm | exact congrArg _ (List.append_nil _).symm | exact congrArg _ (List.append_nil _) | (simp; done) | (simp [cellsS]; done)) (by first | rfl | exact seg_lenE (by rfl) | exact len_app rfl (seg_lenE (by rfl)) (by rfl) | exact len_app (seg_lenE (by rfl)) rfl (by rfl) | exact len_app rfl (len_app (seg_lenE (by rfl)) rfl (by rfl)) (by rfl) | (simp only [seg_len, cellsS, List.length_append, List.length_cons, List.length_nil]; done) | (simp only [seg_len, cellsS, List.length_append, List.length_cons, List.length_nil]; rfl)) (by first | rfl | exact seg_lenE (by rfl) | exact len_app rfl (seg_lenE (by rfl)) (by rfl) | exact len_app (seg_lenE (by rfl)) rfl (by rfl) | exact len_app rfl (len_app (seg_lenE (by rfl)) rfl (by rfl)) (by rfl) | (simp only [seg_len, cellsS, List.length_append, List.length_cons, List.length_nil]; done) | (simp only [seg_len, cellsS, List.length_append, List.length_cons, List.length_nil]; rfl)) (part_all (seg_lenE (by rfl))) ShpC.h rfl rfl) rfl rfl (by kernel_rfl) (by kernel_rfl) (by kernel_rfl) (fun _ _ _ _ h => h) ?_
              refine xpval 14 rfl (pv_eqAgg (f := E_palinode_api_Set) (a := x1) (b := y86) (eqC_arr (t := 26) (e := 24) (f := ew) UndC.h ShpC.h (by kernel_rfl) inferInstance (fun _ => rfl)) (by decide) (by kernel_rfl) (by first | rfl | exact congrArg (fun q => some (Sd.agg q)) (by first | rfl | exact (List.append_nil _).symm | exact List.append_nil _ | exact List.append_assoc _ _ _ | exact (List.append_assoc _ _ _).symm | exact congrArg _ (List.append_nil _).symm | exact congrArg _ (List.append_nil _) | (simp; done) | (simp [cellsS]; done))) (by first | rfl | exact congrArg (fun q => some (Sd.agg q)) (by first | rfl | exact (List.append_nil _).symm | exact List.append_nil _ | exact List.append_assoc _ _ _ | exact (List.append_assoc _ _ _).symm | exact congrArg _ (List.append_nil _).symm | exact congrArg _ (List.append_nil _) | (simp; done) | (simp [cellsS]; done)))) rfl rfl (by kernel_rfl) (by kernel_rfl) (by kernel_rfl) (fun _ _ _ _ h => h) ?_
              refine xpval 15 rfl (pv_pick rfl rfl) rfl rfl (by kernel_rfl) (by kernel_rfl) (by kernel_rfl) (fun _ _ _ _ h => h) ?_
              exact xpuse key88 rfl ⟨(.cons rfl (.refl _) (.cons rfl (.refl _) (.cons rfl (.refl _) (.nil _)))), (SubM.of (.keep rfl rfl (.refl _) (.nil _)) (.drop (.keep rfl (.nil _))))⟩ rfl (by kernel_rfl)
    · clear h
      rintro _ ⟨x72, h, rfl⟩
      by_cases hp91 : x72 = true
      · replace h := h.1 hp91
        refine xcondT' hp91 rfl ?_
        refine xregionD (m := 7) (by kernel_rfl) rfl ?_
        obtain ⟨h92, h⟩ := h
        obtain ⟨y95, h94, h⟩ := h
        refine xpcut 3 #[true, true, true, true, false, false, false] (fun σ => ∃ (i93 : Option (Nat × Nat)), σ = ⟨[(1, .v (.pointer (some ⟨b1, 0, none⟩))), (3, .sl 1 none (List.map eb ([(91 : UInt8)]))), (31, .sl 1 (some i93) (List.map eb (([(91 : UInt8)] ++ [(94 : UInt8)])))), (32, .agg ((List.map ew x1.l).flatten))], [⟨b1, 26, ((List.map ew x1.l).flatten)⟩], [⟨i93, 5, 1, (([(91 : UInt8)] ++ [(94 : UInt8)])).length⟩]⟩) ?_ (fun key96 => ?_)
        · rintro _ ⟨i93, rfl⟩
          refine xpstep (i := 4) (by kernel_rfl) rfl ?_
          refine wcall0 (class_Not_con x1 _ h94) Try.func13 (by kernel_rfl) rfl (.cons rfl (.refl _) .nil) rfl rfl ?_
          refine xpval 5 rfl (pv_assign rfl) rfl rfl (by kernel_rfl) (by kernel_rfl) (by kernel_rfl) (fun _ _ _ _ h => h) ?_
          refine xpstep (i := 6) (by kernel_rfl) rfl ?_
          refine wstoreP 0 [] ((List.map ew x1.l).flatten) [] (by first | rfl | exact (List.append_nil _).symm | exact List.append_nil _ | exact List.append_assoc _ _ _ | exact (List.append_assoc _ _ _).symm | exact congrArg _ (List.append_nil _).symm | exact congrArg _ (List.append_nil _) | (simp; done) | (simp [cellsS]; done)) (by first | rfl | exact seg_lenE (by rfl) | exact len_app rfl (seg_lenE (by rfl)) (by rfl) | exact len_app (seg_lenE (by rfl)) rfl (by rfl) | exact len_app rfl (len_app (seg_lenE (by rfl)) rfl (by rfl)) (by rfl) | (simp only [seg_len, cellsS, List.length_append, List.length_cons, List.length_nil]; done) | (simp only [seg_len, cellsS, List.length_append, List.length_cons, List.length_nil]; rfl)) (by first | rfl | exact seg_lenE (by rfl) | exact len_app rfl (seg_lenE (by rfl)) (by rfl) | exact len_app (seg_lenE (by rfl)) rfl (by rfl) | exact len_app rfl (len_app (seg_lenE (by rfl)) rfl (by rfl)) (by rfl) | (simp only [seg_len, cellsS, List.length_append, List.length_cons, List.length_nil]; done) | (simp only [seg_len, cellsS, List.length_append, List.length_cons, List.length_nil]; rfl)) ShpC.h rfl rfl rfl rfl (by first | rfl | exact seg_lenE (by rfl) | exact len_app rfl (seg_lenE (by rfl)) (by rfl) | exact len_app (seg_lenE (by rfl)) rfl (by rfl) | exact len_app rfl (len_app (seg_lenE (by rfl)) rfl (by rfl)) (by rfl) | (simp only [seg_len, cellsS, List.length_append, List.length_cons, List.length_nil]; done) | (simp only [seg_len, cellsS, List.length_append, List.length_cons, List.length_nil]; rfl)) rfl ?_
          refine preb 0 ((List.map ew y95.l).flatten) rfl (by first | rfl | exact (List.append_nil _).symm | exact List.append_nil _ | exact List.append_assoc _ _ _ | exact (List.append_assoc _ _ _).symm | exact congrArg _ (List.append_nil _).symm | exact congrArg _ (List.append_nil _) | (simp; done) | (simp [cellsS]; done)) ?_
          refine xpdone (by kernel_rfl) ?_
          exact xmeet ⟨([(91 : UInt8)] ++ [(94 : UInt8)]), y95, i93, h, rfl⟩ ⟨(.cons rfl (.refl _) (.cons rfl (.refl _) (.nil _))), (SubM.of (.keep rfl rfl (.refl _) (.nil _)) (.keep rfl (.nil _)))⟩
        refine xpcut 4 #[true, true, false, true, false, false, false] (fun σ => ∃ (i97 : Option (Nat × Nat)), σ = ⟨[(1, .v (.pointer (some ⟨b1, 0, none⟩))), (3, .sl 1 (some (some (s10, 1))) (List.map eb ([(91 : UInt8)]))), (29, .sl 1 (some (some (s10, 1))) (List.map eb ([(91 : UInt8)]))), (30, .sl 1 (some i97) (List.map eb ([(94 : UInt8)]))), (32, .agg ((List.map ew x1.l).flatten))], [⟨b1, 26, ((List.map ew x1.l).flatten)⟩], [⟨i97, 5, 1, ([(94 : UInt8)]).length⟩, ⟨(some (s10, 1)), 5, 1, ([(91 : UInt8)]).length⟩]⟩) ?_ (fun key98 => ?_)
        · rintro _ ⟨i97, rfl⟩
          refine xpstep (i := 2) (by kernel_rfl) rfl ?_
          refine wappendM (l := [(91 : UInt8)]) (l2 := [(94 : UInt8)]) 1 h92 UndC.h InfC.h rfl rfl rfl (.refl _) rfl rfl rfl fun i93 => ?_
          exact xpuse key96 ⟨i93, rfl⟩ ⟨(.cons rfl (.refl _) (.cons rfl (.tok _ _ _) (.cons rfl (.refl _) (.cons rfl (.refl _) (.nil _))))), (SubM.of (.keep rfl rfl (.refl _) (.nil _)) (.drop (.keep rfl (.nil _))))⟩ rfl (by kernel_rfl)
        refine xpval 0 rfl (pv_move rfl) rfl rfl (by kernel_rfl) (by kernel_rfl) (by kernel_rfl) (fun _ _ _ _ h => h) ?_
        refine xpstepN (is := [1, 3]) (by kernel_rfl) (by simp) ?_
        intro i hi; simp only [List.mem_cons, List.not_mem_nil, or_false] at hi; rcases hi with rfl | rfl
        · refine ⟨_, rfl, ?_⟩
          refine wbuildSliceM (f := eb) [(94 : UInt8)] UndC.h InfC.h rfl rfl (by first | exact wkR_of rfl | (repeat (first | exact WkR.nil | refine WkR.cons (by (repeat (first | exact WkL.nil | refine WkL.cons (by first | with_reducible exact Wk.refl _ | exact Wk.nil_own _ | exact Wk.nil_pl _ | with_reducible exact Wk.tok _ _ _ | exact Wk.tok _ _ _ | exact Wk.eq (by first | rfl | (simp []; done) | (simp []; omega))) ?_))) ?_))) rfl rfl rfl rfl fun s30 => ?_
          refine xpstepN (is := [2, 3]) (by kernel_rfl) (by simp) ?_
          intro i hi; simp only [List.mem_cons, List.not_mem_nil, or_false] at hi; rcases hi with rfl | rfl
          · refine ⟨_, rfl, ?_⟩
            refine wappendM (l := [(91 : UInt8)]) (l2 := [(94 : UInt8)]) 1 h92 UndC.h InfC.h rfl rfl rfl (.refl _) rfl rfl rfl fun i93 => ?_
            refine xpvalE 3 [] rfl (qv_loadP 0 [] ((List.map ew x1.l).flatten) [] (by first | rfl | exact (List.append_nil _).symm | exact List.append_nil _ | exact List.append_assoc _ _ _ | exact (List.append_assoc _ _ _).symm | exact congrArg _ (List.append_nil _).symm | exact congrArg _ (List.append_nil _) | (simp; done) | (simp [cellsS]; done)) (by first | rfl | exact seg_lenE (by rfl) | exact len_app rfl (seg_lenE (by rfl)) (by rfl) | exact len_app (seg_lenE (by rfl)) rfl (by rfl) | exact len_app rfl (len_app (seg_lenE (by rfl)) rfl (by rfl)) (by rfl) | (simp only [seg_len, cellsS, List.length_append, List.length_cons, List.length_nil]; done) | (simp only [seg_len, cellsS, List.length_append, List.length_cons, List.length_nil]; rfl)) (by first | rfl | exact seg_lenE (by rfl) | exact len_app rfl (seg_lenE (by rfl)) (by rfl) | exact len_app (seg_lenE (by rfl)) rfl (by rfl) | exact len_app rfl (len_app (seg_lenE (by rfl)) rfl (by rfl)) (by rfl) | (simp only [seg_len, cellsS, List.length_append, List.length_cons, List.length_nil]; done) | (simp only [seg_len, cellsS, List.length_append, List.length_cons, List.length_nil]; rfl)) (part_all (seg_lenE (by rfl))) ShpC.h rfl rfl) rfl rfl (by kernel_rfl) (by kernel_rfl) (by kernel_rfl) (fun _ _ _ _ h => h) ?_
            exact xpuse key96 ⟨i93, rfl⟩ ⟨(.cons rfl (.refl _) (.cons rfl (.tok _ _ _) (.cons rfl (.refl _) (.cons rfl (.refl _) (.nil _))))), (SubM.of (.keep rfl rfl (.refl _) (.nil _)) (.drop (.keep rfl (.nil _))))⟩ rfl (by kernel_rfl)
          · refine ⟨_, rfl, ?_⟩
            refine wval (qv_loadP 0 [] ((List.map ew x1.l).flatten) [] (by first | rfl | exact (List.append_nil _).symm | exact List.append_nil _ | exact List.append_assoc _ _ _ | exact (List.append_assoc _ _ _).symm | exact congrArg _ (List.append_nil _).symm | exact congrArg _ (List.append_nil _) | (simp; done) | (simp [cellsS]; done)) (by first | rfl | exact seg_lenE (by rfl) | exact len_app rfl (seg_lenE (by rfl)) (by rfl) | exact len_app (seg_lenE (by rfl)) rfl (by rfl) | exact len_app rfl (len_app (seg_lenE (by rfl)) rfl (by rfl)) (by rfl) | (simp only [seg_len, cellsS, List.length_append, List.length_cons, List.length_nil]; done) | (simp only [seg_len, cellsS, List.length_append, List.length_cons, List.length_nil]; rfl)) (by first | rfl | exact seg_lenE (by rfl) | exact len_app rfl (seg_lenE (by rfl)) (by rfl) | exact len_app (seg_lenE (by rfl)) rfl (by rfl) | exact len_app rfl (len_app (seg_lenE (by rfl)) rfl (by rfl)) (by rfl) | (simp only [seg_len, cellsS, List.length_append, List.length_cons, List.length_nil]; done) | (simp only [seg_len, cellsS, List.length_append, List.length_cons, List.length_nil]; rfl)) (part_all (seg_lenE (by rfl))) ShpC.h rfl rfl) rfl rfl ?_
            exact xpuse key98 ⟨(some (s30, 1)), rfl⟩ ⟨(.cons rfl (.refl _) (.cons rfl (.refl _) (.cons rfl (.refl _) (.cons rfl (.refl _) (.cons rfl (.refl _) (.nil _)))))), (SubM.of (.keep rfl rfl (.refl _) (.nil _)) (.keep rfl (.keep rfl (.nil _))))⟩ rfl (by kernel_rfl)
        · refine ⟨_, rfl, ?_⟩
          refine wval (qv_loadP 0 [] ((List.map ew x1.l).flatten) [] (by first | rfl | exact (List.append_nil _).symm | exact List.append_nil _ | exact List.append_assoc _ _ _ | exact (List.append_assoc _ _ _).symm | exact congrArg _ (List.append_nil _).symm | exact congrArg _ (List.append_nil _) | (simp; done) | (simp [cellsS]; done)) (by first | rfl | exact seg_lenE (by rfl) | exact len_app rfl (seg_lenE (by rfl)) (by rfl) | exact len_app (seg_lenE (by rfl)) rfl (by rfl) | exact len_app rfl (len_app (seg_lenE (by rfl)) rfl (by rfl)) (by rfl) | (simp only [seg_len, cellsS, List.length_append, List.length_cons, List.length_nil]; done) | (simp only [seg_len, cellsS, List.length_append, List.length_cons, List.length_nil]; rfl)) (by first | rfl | exact seg_lenE (by rfl) | exact len_app rfl (seg_lenE (by rfl)) (by rfl) | exact len_app (seg_lenE (by rfl)) rfl (by rfl) | exact len_app rfl (len_app (seg_lenE (by rfl)) rfl (by rfl)) (by rfl) | (simp only [seg_len, cellsS, List.length_append, List.length_cons, List.length_nil]; done) | (simp only [seg_len, cellsS, List.length_append, List.length_cons, List.length_nil]; rfl)) (part_all (seg_lenE (by rfl))) ShpC.h rfl rfl) rfl rfl ?_
          refine xpstep (i := 1) (by kernel_rfl) rfl ?_
          refine wbuildSliceM (f := eb) [(94 : UInt8)] UndC.h InfC.h rfl rfl (by first | exact wkR_of rfl | (repeat (first | exact WkR.nil | refine WkR.cons (by (repeat (first | exact WkL.nil | refine WkL.cons (by first | with_reducible exact Wk.refl _ | exact Wk.nil_own _ | exact Wk.nil_pl _ | with_reducible exact Wk.tok _ _ _ | exact Wk.tok _ _ _ | exact Wk.eq (by first | rfl | (simp []; done) | (simp []; omega))) ?_))) ?_))) rfl rfl rfl rfl fun s30 => ?_
          exact xpuse key98 ⟨(some (s30, 1)), rfl⟩ ⟨(.cons rfl (.refl _) (.cons rfl (.refl _) (.cons rfl (.refl _) (.cons rfl (.refl _) (.cons rfl (.refl _) (.nil _)))))), (SubM.of (.keep rfl rfl (.refl _) (.nil _)) (.keep rfl (.keep rfl (.nil _))))⟩ rfl (by kernel_rfl)
      · replace h := h.2 hp91
        refine xcondF' (b_f hp91) rfl ?_
        refine xskipc ?_
        exact xmeet ⟨[(91 : UInt8)], x1, (some (s10, 1)), h, rfl⟩ ⟨(.cons rfl (.refl _) (.cons rfl (.refl _) (.nil _))), (SubM.of (.keep rfl rfl (.refl _) (.nil _)) (.keep rfl (.nil _)))⟩
  · clear h
    rintro _ ⟨x49, f51, i50, h, rfl⟩
    refine xseqM (fun σ => ∃ (x104 : List UInt8), ∃ (i105 : Option (Nat × Nat)), brack_Text_j3 f51 x104 r ∧ σ = ⟨[(1, .v (.pointer (some ⟨b1, 0, none⟩))), (3, .sl 1 (some i105) (List.map eb x104))], [⟨b1, 26, ((List.map ew f51.l).flatten)⟩], [⟨i105, 5, 1, x104.length⟩]⟩) ?_ ?_
    · refine xseq ?_
      refine xregion ?_
      refine xval (qv_loadP 0 [] ((List.map ew f51.l).flatten) [] (by first | rfl | exact (List.append_nil _).symm | exact List.append_nil _ | exact List.append_assoc _ _ _ | exact (List.append_assoc _ _ _).symm | exact congrArg _ (List.append_nil _).symm | exact congrArg _ (List.append_nil _) | (simp; done) | (simp [cellsS]; done)) (by first | rfl | exact seg_lenE (by rfl) | exact len_app rfl (seg_lenE (by rfl)) (by rfl) | exact len_app (seg_lenE (by rfl)) rfl (by rfl) | exact len_app rfl (len_app (seg_lenE (by rfl)) rfl (by rfl)) (by rfl) | (simp only [seg_len, cellsS, List.length_append, List.length_cons, List.length_nil]; done) | (simp only [seg_len, cellsS, List.length_append, List.length_cons, List.length_nil]; rfl)) (by first | rfl | exact seg_lenE (by rfl) | exact len_app rfl (seg_lenE (by rfl)) (by rfl) | exact len_app (seg_lenE (by rfl)) rfl (by rfl) | exact len_app rfl (len_app (seg_lenE (by rfl)) rfl (by rfl)) (by rfl) | (simp only [seg_len, cellsS, List.length_append, List.length_cons, List.length_nil]; done) | (simp only [seg_len, cellsS, List.length_append, List.length_cons, List.length_nil]; rfl)) (part_all (seg_lenE (by rfl))) ShpC.h rfl rfl) rfl rfl ?_
      obtain ⟨y107, h106, h⟩ := h
      refine xcall0 (class_Has_con f51 (93 : UInt8) _ h106) Try.func16 (by kernel_rfl) rfl (.cons rfl (.refl _) (.cons rfl (.refl _) .nil)) rfl rfl ?_
      refine xnil ?_
      refine xthen ?_
      by_cases hp108 : y107 = true
      · replace h := h.1 hp108
        refine xcondT' hp108 rfl ?_
        refine xregion ?_
        refine xvalP (pv_move rfl) rfl rfl ?_
        refine xbuildSliceM (f := eb) [(93 : UInt8)] UndC.h InfC.h rfl rfl (by first | exact wkR_of rfl | (repeat (first | exact WkR.nil | refine WkR.cons (by (repeat (first | exact WkL.nil | refine WkL.cons (by first | with_reducible exact Wk.refl _ | exact Wk.nil_own _ | exact Wk.nil_pl _ | with_reducible exact Wk.tok _ _ _ | exact Wk.tok _ _ _ | exact Wk.eq (by first | rfl | (simp []; done) | (simp []; omega))) ?_))) ?_))) rfl rfl rfl rfl fun s37 => ?_
        obtain ⟨h109, h⟩ := h
        refine xappendM (l := x49) (l2 := [(93 : UInt8)]) 1 h109 UndC.h InfC.h rfl rfl rfl (.refl _) rfl rfl rfl fun i110 => ?_
        refine xvalP (pv_assign rfl) rfl rfl ?_
        refine xnil ?_
        exact xmeet ⟨(x49 ++ [(93 : UInt8)]), i110, h, rfl⟩ ⟨(.cons rfl (.refl _) (.cons rfl (.refl _) (.nil _))), (SubM.of (.keep rfl rfl (.refl _) (.nil _)) (.drop (.keep rfl (.nil _))))⟩
      · replace h := h.2 hp108
        refine xcondF' (b_f hp108) rfl ?_
        refine xskipc ?_
        exact xmeet ⟨x49, i50, h, rfl⟩ ⟨(.cons rfl (.refl _) (.cons rfl (.refl _) (.nil _))), (SubM.of (.keep rfl rfl (.refl _) (.nil _)) (.keep rfl (.nil _)))⟩
    · clear h
      rintro _ ⟨x104, i105, h, rfl⟩
      refine xseq ?_
      refine xseq ?_
      refine xregion ?_
      refine xval (qv_loadP 0 [] ((List.map ew f51.l).flatten) [] (by first | rfl | exact (List.append_nil _).symm | exact List.append_nil _ | exact List.append_assoc _ _ _ | exact (List.append_assoc _ _ _).symm | exact congrArg _ (List.append_nil _).symm | exact congrArg _ (List.append_nil _) | (simp; done) | (simp [cellsS]; done)) (by first | rfl | exact seg_lenE (by rfl) | exact len_app rfl (seg_lenE (by rfl)) (by rfl) | exact len_app (seg_lenE (by rfl)) rfl (by rfl) | exact len_app rfl (len_app (seg_lenE (by rfl)) rfl (by rfl)) (by rfl) | (simp only [seg_len, cellsS, List.length_append, List.length_cons, List.length_nil]; done) | (simp only [seg_len, cellsS, List.length_append, List.length_cons, List.length_nil]; rfl)) (by first | rfl | exact seg_lenE (by rfl) | exact len_app rfl (seg_lenE (by rfl)) (by rfl) | exact len_app (seg_lenE (by rfl)) rfl (by rfl) | exact len_app rfl (len_app (seg_lenE (by rfl)) rfl (by rfl)) (by rfl) | (simp only [seg_len, cellsS, List.length_append, List.length_cons, List.length_nil]; done) | (simp only [seg_len, cellsS, List.length_append, List.length_cons, List.length_nil]; rfl)) (part_all (seg_lenE (by rfl))) ShpC.h rfl rfl) rfl rfl ?_
      obtain ⟨y305, h304, h⟩ := h
      refine xcallM (class_Bytes_con f51 _ h304) Try.func17 (by kernel_rfl) rfl (.cons rfl (.refl _) .nil) rfl rfl fun i306 => ?_
      refine xvalP (pv_lenM UndC.h rfl) rfl rfl ?_
      refine xvalP (pv_move rfl) rfl rfl ?_
      refine xnil ?_
      refine xthen ?_
      refine xblock ?_
      obtain ⟨Inv, ⟨m0, hI⟩, hS⟩ := h
      refine xloop (fun σ m => ∃ (x370 : List UInt8), ∃ (x372 : Int), ∃ (i371 : Option (Nat × Nat)), Inv (x370, x372) m ∧ σ = ⟨[(1, .v (.pointer (some ⟨b1, 0, none⟩))), (3, .sl 1 (some i371) (List.map eb x370)), (40, .sl 1 (some i306) (List.map eb y305)), (41, .v (.int .i64 ((y305.length : Int)))), (42, .v (.int .i64 x372))], [⟨b1, 26, ((List.map ew f51.l).flatten)⟩], [⟨i306, 5, 1, y305.length⟩, ⟨i371, 5, 1, x370.length⟩]⟩) ⟨x104, 0, i105, hI, rfl⟩ ⟨(.cons rfl (.refl _) (.cons rfl (.refl _) (.cons rfl (.refl _) (.cons rfl (.refl _) (.cons rfl (.refl _) (.nil _)))))), (SubM.of (.keep rfl rfl (.refl _) (.nil _)) (.keep rfl (.keep rfl (.nil _))))⟩ ?_
      rintro _ m ⟨x370, x372, i371, hI, rfl⟩
      obtain ⟨ag4, hag4, h⟩ : ∃ ag, (∀ s', ag s' → ∃ m', m' < m ∧ Inv s' m') ∧ brack_Text_l4 y305 f51 ag x370 x372 r := ⟨_, fun _ h => h, hS (x370, x372) _ hI⟩
      clear hS hI
      refine xseq ?_
      refine xregion ?_
      refine xvalP (pv_bin2 rfl rfl rfl) rfl rfl ?_
      refine xnil ?_
      refine xthen ?_
      refine xseq ?_
      by_cases hp437 : x372 < (y305.length : Int)
      · replace h := h.1 hp437
        refine xcondT' (decide_eq_true hp437) rfl ?_
        refine xskipc ?_
        refine xthen ?_
        refine xseq ?_
        refine xblock ?_
        refine xseq ?_
        refine xregion ?_
        obtain ⟨h467a, h⟩ := h
        obtain ⟨y466, h467b, h⟩ := h
        refine xvalP (pv_indexAddrM h467a h467b UndC.h ShpC.h rfl rfl) rfl rfl ?_
        refine xval (qv_load ShpC.h rfl rfl rfl) rfl rfl ?_
        refine xvalP (pv_assign rfl) rfl rfl ?_
        refine xnil ?_
        refine xthen ?_
        refine xseq ?_
        refine xregion ?_
        refine xvalP (pv_move rfl) rfl rfl ?_
        refine xnil ?_
        refine xthen ?_
        refine xblock ?_
        refine xseqM (fun σ => ∃ (x477 : Bool), brack_Text_j5 x372 ag4 x370 y466 x477 r ∧ σ = ⟨[(1, .v (.pointer (some ⟨b1, 0, none⟩))), (3, .sl 1 (some i371) (List.map eb x370)), (6, .v (.int .u8 ((y466.toNat : Int)))), (40, .sl 1 (some i306) (List.map eb y305)), (41, .v (.int .i64 ((y305.length : Int)))), (42, .v (.int .i64 x372)), (46, .v (.int .u8 ((y466.toNat : Int)))), (51, .v (.bool x477))], [⟨b1, 26, ((List.map ew f51.l).flatten)⟩], [⟨i306, 5, 1, y305.length⟩, ⟨i371, 5, 1, x370.length⟩]⟩) ?_ ?_
        · refine xseq ?_
          refine xregion ?_
          refine xvalP (pv_bin2 rfl rfl rfl) rfl rfl ?_
          refine xvalP (pv_assign rfl) rfl rfl ?_
          refine xnil ?_
          refine xthen ?_
          by_cases hp479 : (y466.toNat : Int) = 93
          · replace h := h.1 hp479
            refine xcondT' (decide_eq_true hp479) rfl ?_
            refine xskipc ?_
            exact xmeet ⟨(decide ((y466.toNat : Int) = 93)), h, rfl⟩ ⟨(.cons rfl (.refl _) (.cons rfl (.refl _) (.cons rfl (.refl _) (.cons rfl (.refl _) (.cons rfl (.refl _) (.cons rfl (.refl _) (.cons rfl (.refl _) (.cons rfl (.refl _) (.nil _))))))))), (SubM.of (.keep rfl rfl (.refl _) (.nil _)) (.keep rfl (.keep rfl (.nil _))))⟩
          · replace h := h.2 hp479
            refine xcondF' (decide_eq_false hp479) rfl ?_
            refine xseq ?_
            refine xregion ?_
            refine xvalP (pv_bin2 rfl rfl rfl) rfl rfl ?_
            refine xvalP (pv_assign rfl) rfl rfl ?_
            refine xnil ?_
            refine xthen ?_
            by_cases hp481 : (y466.toNat : Int) = 91
            · replace h := h.1 hp481
              refine xcondT' (decide_eq_true hp481) rfl ?_
              refine xskipc ?_
              exact xmeet ⟨(decide ((y466.toNat : Int) = 91)), h, rfl⟩ ⟨(.cons rfl (.refl _) (.cons rfl (.refl _) (.cons rfl (.refl _) (.cons rfl (.refl _) (.cons rfl (.refl _) (.cons rfl (.refl _) (.cons rfl (.refl _) (.cons rfl (.refl _) (.nil _))))))))), (SubM.of (.keep rfl rfl (.refl _) (.nil _)) (.keep rfl (.keep rfl (.nil _))))⟩
            · replace h := h.2 hp481
              refine xcondF' (decide_eq_false hp481) rfl ?_
              refine xseq ?_
              refine xregion ?_
              refine xvalP (pv_bin2 rfl rfl rfl) rfl rfl ?_
              refine xvalP (pv_assign rfl) rfl rfl ?_
              refine xnil ?_
              refine xthen ?_
              by_cases hp483 : (y466.toNat : Int) = 92
              · replace h := h.1 hp483
                refine xcondT' (decide_eq_true hp483) rfl ?_
                refine xskipc ?_
                exact xmeet ⟨(decide ((y466.toNat : Int) = 92)), h, rfl⟩ ⟨(.cons rfl (.refl _) (.cons rfl (.refl _) (.cons rfl (.refl _) (.cons rfl (.refl _) (.cons rfl (.refl _) (.cons rfl (.refl _) (.cons rfl (.refl _) (.cons rfl (.refl _) (.nil _))))))))), (SubM.of (.keep rfl rfl (.refl _) (.nil _)) (.keep rfl (.keep rfl (.nil _))))⟩
              · replace h := h.2 hp483
                refine xcondF' (decide_eq_false hp483) rfl ?_
                refine xseq ?_
                refine xregion ?_
                refine xvalP (pv_bin2 rfl rfl rfl) rfl rfl ?_
                refine xvalP (pv_assign rfl) rfl rfl ?_
                refine xnil ?_
                refine xthen ?_
                by_cases hp485 : (y466.toNat : Int) = 94
                · replace h := h.1 hp485
                  refine xcondT' (decide_eq_true hp485) rfl ?_
                  refine xskipc ?_
                  exact xmeet ⟨(decide ((y466.toNat : Int) = 94)), h, rfl⟩ ⟨(.cons rfl (.refl _) (.cons rfl (.refl _) (.cons rfl (.refl _) (.cons rfl (.refl _) (.cons rfl (.refl _) (.cons rfl (.refl _) (.cons rfl (.refl _) (.cons rfl (.refl _) (.nil _))))))))), (SubM.of (.keep rfl rfl (.refl _) (.nil _)) (.keep rfl (.keep rfl (.nil _))))⟩
                · replace h := h.2 hp485
                  refine xcondF' (decide_eq_false hp485) rfl ?_
                  refine xregion ?_
                  refine xvalP (pv_bin2 rfl rfl rfl) rfl rfl ?_
                  refine xvalP (pv_assign rfl) rfl rfl ?_
                  refine xnil ?_
                  exact xmeet ⟨(decide ((y466.toNat : Int) = 45)), h, rfl⟩ ⟨(.cons rfl (.refl _) (.cons rfl (.refl _) (.cons rfl (.refl _) (.cons rfl (.refl _) (.cons rfl (.refl _) (.cons rfl (.refl _) (.cons rfl (.refl _) (.cons rfl (.refl _) (.nil _))))))))), (SubM.of (.keep rfl rfl (.refl _) (.nil _)) (.keep rfl (.keep rfl (.nil _))))⟩
        · clear h
          rintro _ ⟨x477, h, rfl⟩
          by_cases hp487 : x477 = true
          · replace h := h.1 hp487
            refine xcondT' hp487 rfl ?_
            refine xskipc ?_
            refine xin_normal ?_
            refine xin_normal ?_
            refine xthen ?_
            refine xregion ?_
            obtain ⟨h488, h⟩ := h
            refine xvalP (pv_addI h488 rfl rfl) rfl rfl ?_
            refine xvalP (pv_move rfl) rfl rfl ?_
            refine xnil ?_
            obtain ⟨m', hm, hI⟩ := hag4 _ h
            exact xagain ⟨x370, (x372 + 1), i371, hI, rfl⟩ hm ⟨(.cons rfl (.refl _) (.cons rfl (.refl _) (.cons rfl (.refl _) (.cons rfl (.refl _) (.cons rfl (.refl _) (.nil _)))))), (SubM.of (.keep rfl rfl (.refl _) (.nil _)) (.keep rfl (.keep rfl (.nil _))))⟩
          · replace h := h.2 hp487
            refine xcondF' (b_f hp487) rfl ?_
            refine xseq ?_
            refine xregion ?_
            refine xvalP (pv_bin2 rfl rfl rfl) rfl rfl ?_
            refine xvalP (pv_assign rfl) rfl rfl ?_
            refine xnil ?_
            refine xthen ?_
            by_cases hp490 : (y466.toNat : Int) = 10
            · replace h := h.1 hp490
              refine xcondT' (decide_eq_true hp490) rfl ?_
              refine xregion ?_
              refine xvalP (pv_move rfl) rfl rfl ?_
              refine xbuildSliceM (f := eb) [(92 : UInt8), (110 : UInt8)] UndC.h InfC.h rfl rfl (by first | exact wkR_of rfl | (repeat (first | exact WkR.nil | refine WkR.cons (by (repeat (first | exact WkL.nil | refine WkL.cons (by first | with_reducible exact Wk.refl _ | exact Wk.nil_own _ | exact Wk.nil_pl _ | with_reducible exact Wk.tok _ _ _ | exact Wk.tok _ _ _ | exact Wk.eq (by first | rfl | (simp []; done) | (simp []; omega))) ?_))) ?_))) rfl rfl rfl rfl fun s60 => ?_
              obtain ⟨h491, h⟩ := h
              refine xappendM (l := x370) (l2 := [(92 : UInt8), (110 : UInt8)]) 2 h491 UndC.h InfC.h rfl rfl rfl (.refl _) rfl rfl rfl fun i492 => ?_
              refine xvalP (pv_assign rfl) rfl rfl ?_
              refine xnil ?_
              refine xin_normal ?_
              refine xin_normal ?_
              refine xthen ?_
              refine xregion ?_
              obtain ⟨h493, h⟩ := h
              refine xvalP (pv_addI h493 rfl rfl) rfl rfl ?_
              refine xvalP (pv_move rfl) rfl rfl ?_
              refine xnil ?_
              obtain ⟨m', hm, hI⟩ := hag4 _ h
              exact xagain ⟨(x370 ++ [(92 : UInt8), (110 : UInt8)]), (x372 + 1), i492, hI, rfl⟩ hm ⟨(.cons rfl (.refl _) (.cons rfl (.refl _) (.cons rfl (.refl _) (.cons rfl (.refl _) (.cons rfl (.refl _) (.nil _)))))), (SubM.of (.keep rfl rfl (.refl _) (.nil _)) (.drop (.keep rfl (.keep rfl (.nil _)))))⟩
            · replace h := h.2 hp490
              refine xcondF' (decide_eq_false hp490) rfl ?_
              refine xregion ?_
              refine xvalP (pv_move rfl) rfl rfl ?_
              refine xvalP (pv_move rfl) rfl rfl ?_
              refine xbuildSliceM (f := eb) [y466] UndC.h InfC.h rfl rfl (by first | exact wkR_of rfl | (repeat (first | exact WkR.nil | refine WkR.cons (by (repeat (first | exact WkL.nil | refine WkL.cons (by first | with_reducible exact Wk.refl _ | exact Wk.nil_own _ | exact Wk.nil_pl _ | with_reducible exact Wk.tok _ _ _ | exact Wk.tok _ _ _ | exact Wk.eq (by first | rfl | (simp []; done) | (simp []; omega))) ?_))) ?_))) rfl rfl rfl rfl fun s49 => ?_
              obtain ⟨h494, h⟩ := h
              refine xappendM (l := x370) (l2 := [y466]) 2 h494 UndC.h InfC.h rfl rfl rfl (.refl _) rfl rfl rfl fun i495 => ?_
              refine xvalP (pv_assign rfl) rfl rfl ?_
              refine xnil ?_
              refine xin_normal ?_
              refine xin_normal ?_
              refine xthen ?_
              refine xregion ?_
              obtain ⟨h496, h⟩ := h
              refine xvalP (pv_addI h496 rfl rfl) rfl rfl ?_
              refine xvalP (pv_move rfl) rfl rfl ?_
              refine xnil ?_
              obtain ⟨m', hm, hI⟩ := hag4 _ h
              exact xagain ⟨(x370 ++ [y466]), (x372 + 1), i495, hI, rfl⟩ hm ⟨(.cons rfl (.refl _) (.cons rfl (.refl _) (.cons rfl (.refl _) (.cons rfl (.refl _) (.cons rfl (.refl _) (.nil _)))))), (SubM.of (.keep rfl rfl (.refl _) (.nil _)) (.drop (.keep rfl (.keep rfl (.nil _)))))⟩
      · replace h := h.2 hp437
        refine xcondF' (decide_eq_false hp437) rfl ?_
        refine xexit ?_
        refine xthen_exit ?_
        refine xthen_exit ?_
        refine xin_same rfl ?_
        refine xthen ?_
        refine xseq ?_
        refine xregion ?_
        refine xbuildSliceM (f := eb) [(91 : UInt8), (92 : UInt8), (94 : UInt8), (45 : UInt8)] UndC.h InfC.h rfl rfl (by first | exact wkR_of rfl | (repeat (first | exact WkR.nil | refine WkR.cons (by (repeat (first | exact WkL.nil | refine WkL.cons (by first | with_reducible exact Wk.refl _ | exact Wk.nil_own _ | exact Wk.nil_pl _ | with_reducible exact Wk.tok _ _ _ | exact Wk.tok _ _ _ | exact Wk.eq (by first | rfl | (simp []; done) | (simp []; omega))) ?_))) ?_))) rfl rfl rfl rfl fun s63 => ?_
        refine xmark 0 UndC.h UndC.h rfl rfl rfl rfl ?_
        refine xvalP (pv_assign rfl) rfl rfl ?_
        refine xnil ?_
        refine xthen ?_
        refine xseqM (fun σ => ∃ (x517 : List UInt8), brack_Text_j6 f51 x370 x517 r ∧ σ = ⟨[(1, .v (.pointer (some ⟨b1, 0, none⟩))), (3, .sl 1 (some i371) (List.map eb x370)), (7, .sl 1 none (List.map eb x517))], [⟨b1, 26, ((List.map ew f51.l).flatten)⟩], [⟨i371, 5, 1, x370.length⟩]⟩) ?_ ?_
        · refine xseqM (fun σ => ∃ (x526 : Bool), brack_Text_j7 f51 x370 x526 r ∧ σ = ⟨[(1, .v (.pointer (some ⟨b1, 0, none⟩))), (3, .sl 1 (some i371) (List.map eb x370)), (7, .sl 1 none (List.map eb ([(91 : UInt8), (92 : UInt8), (94 : UInt8), (45 : UInt8)]))), (77, .v (.bool x526))], [⟨b1, 26, ((List.map ew f51.l).flatten)⟩], [⟨i371, 5, 1, x370.length⟩]⟩) ?_ ?_
          · refine xregion ?_
            refine xvalP (pv_move rfl) rfl rfl ?_
            refine xvalP (pv_lenM UndC.h rfl) rfl rfl ?_
            refine xvalP (pv_bin2 rfl rfl rfl) rfl rfl ?_
            refine xvalP (pv_move rfl) rfl rfl ?_
            by_cases hp529 : (x370.length : Int) = 1
            · replace h := h.1 hp529
              refine xsetB 68 (decide_eq_true hp529) rfl ?_
              refine xval (qv_loadP 0 [] ((List.map ew f51.l).flatten) [] (by first | rfl | exact (List.append_nil _).symm | exact List.append_nil _ | exact List.append_assoc _ _ _ | exact (List.append_assoc _ _ _).symm | exact congrArg _ (List.append_nil _).symm | exact congrArg _ (List.append_nil _) | (simp; done) | (simp [cellsS]; done)) (by first | rfl | exact seg_lenE (by rfl) | exact len_app rfl (seg_lenE (by rfl)) (by rfl) | exact len_app (seg_lenE (by rfl)) rfl (by rfl) | exact len_app rfl (len_app (seg_lenE (by rfl)) rfl (by rfl)) (by rfl) | (simp only [seg_len, cellsS, List.length_append, List.length_cons, List.length_nil]; done) | (simp only [seg_len, cellsS, List.length_append, List.length_cons, List.length_nil]; rfl)) (by first | rfl | exact seg_lenE (by rfl) | exact len_app rfl (seg_lenE (by rfl)) (by rfl) | exact len_app (seg_lenE (by rfl)) rfl (by rfl) | exact len_app rfl (len_app (seg_lenE (by rfl)) rfl (by rfl)) (by rfl) | (simp only [seg_len, cellsS, List.length_append, List.length_cons, List.length_nil]; done) | (simp only [seg_len, cellsS, List.length_append, List.length_cons, List.length_nil]; rfl)) (part_all (seg_lenE (by rfl))) ShpC.h rfl rfl) rfl rfl ?_
              obtain ⟨y531, h530, h⟩ := h
              refine xcall0 (class_Has_con f51 (91 : UInt8) _ h530) Try.func16 (by kernel_rfl) rfl (.cons rfl (.refl _) (.cons rfl (.refl _) .nil)) rfl rfl ?_
              refine xvalP (pv_not rfl) rfl rfl ?_
              refine xvalP (pv_pick rfl rfl) rfl rfl ?_
              refine xvalP (pv_move rfl) rfl rfl ?_
              by_cases hp532 : ¬ (y531 = true)
              · replace h := h.1 hp532
                refine xsetB 73 (not_t (b_f hp532)) rfl ?_
                refine xval (qv_loadP 0 [] ((List.map ew f51.l).flatten) [] (by first | rfl | exact (List.append_nil _).symm | exact List.append_nil _ | exact List.append_assoc _ _ _ | exact (List.append_assoc _ _ _).symm | exact congrArg _ (List.append_nil _).symm | exact congrArg _ (List.append_nil _) | (simp; done) | (simp [cellsS]; done)) (by first | rfl | exact seg_lenE (by rfl) | exact len_app rfl (seg_lenE (by rfl)) (by rfl) | exact len_app (seg_lenE (by rfl)) rfl (by rfl) | exact len_app rfl (len_app (seg_lenE (by rfl)) rfl (by rfl)) (by rfl) | (simp only [seg_len, cellsS, List.length_append, List.length_cons, List.length_nil]; done) | (simp only [seg_len, cellsS, List.length_append, List.length_cons, List.length_nil]; rfl)) (by first | rfl | exact seg_lenE (by rfl) | exact len_app rfl (seg_lenE (by rfl)) (by rfl) | exact len_app (seg_lenE (by rfl)) rfl (by rfl) | exact len_app rfl (len_app (seg_lenE (by rfl)) rfl (by rfl)) (by rfl) | (simp only [seg_len, cellsS, List.length_append, List.length_cons, List.length_nil]; done) | (simp only [seg_len, cellsS, List.length_append, List.length_cons, List.length_nil]; rfl)) (part_all (seg_lenE (by rfl))) ShpC.h rfl rfl) rfl rfl ?_
                obtain ⟨y534, h533, h⟩ := h
                refine xcall0 (class_Has_con f51 (92 : UInt8) _ h533) Try.func16 (by kernel_rfl) rfl (.cons rfl (.refl _) (.cons rfl (.refl _) .nil)) rfl rfl ?_
                refine xvalP (pv_not rfl) rfl rfl ?_
                refine xvalP (pv_pick rfl rfl) rfl rfl ?_
                refine xnil ?_
                exact xmeet ⟨(!y534), h, rfl⟩ ⟨(.cons rfl (.refl _) (.cons rfl (.refl _) (.cons rfl (.refl _) (.cons rfl (.refl _) (.nil _))))), (SubM.of (.keep rfl rfl (.refl _) (.nil _)) (.drop (.keep rfl (.nil _))))⟩
              · replace h := h.2 hp532
                refine xsetB 73 (not_f (Decidable.of_not_not hp532)) rfl ?_
                refine xskip rfl rfl ?_
                refine xskip rfl rfl ?_
                refine xskip rfl rfl ?_
                refine xvalP (pv_pick rfl rfl) rfl rfl ?_
                refine xnil ?_
                exact xmeet ⟨false, h, rfl⟩ ⟨(.cons rfl (.refl _) (.cons rfl (.refl _) (.cons rfl (.refl _) (.cons rfl (.refl _) (.nil _))))), (SubM.of (.keep rfl rfl (.refl _) (.nil _)) (.drop (.keep rfl (.nil _))))⟩
            · replace h := h.2 hp529
              refine xsetB 68 (decide_eq_false hp529) rfl ?_
              refine xskip rfl rfl ?_
              refine xskip rfl rfl ?_
              refine xskip rfl rfl ?_
              refine xvalP (pv_pick rfl rfl) rfl rfl ?_
              refine xvalP (pv_move rfl) rfl rfl ?_
              refine xskip rfl rfl ?_
              refine xskip rfl rfl ?_
              refine xskip rfl rfl ?_
              refine xvalP (pv_pick rfl rfl) rfl rfl ?_
              refine xnil ?_
              exact xmeet ⟨false, h, rfl⟩ ⟨(.cons rfl (.refl _) (.cons rfl (.refl _) (.cons rfl (.refl _) (.cons rfl (.refl _) (.nil _))))), (SubM.of (.keep rfl rfl (.refl _) (.nil _)) (.drop (.keep rfl (.nil _))))⟩
          · clear h
            rintro _ ⟨x526, h, rfl⟩
            by_cases hp535 : x526 = true
            · replace h := h.1 hp535
              refine xcondT' hp535 rfl ?_
              refine xregion ?_
              refine xbuildSliceM (f := eb) [(45 : UInt8), (94 : UInt8)] UndC.h InfC.h rfl rfl (by first | exact wkR_of rfl | (repeat (first | exact WkR.nil | refine WkR.cons (by (repeat (first | exact WkL.nil | refine WkL.cons (by first | with_reducible exact Wk.refl _ | exact Wk.nil_own _ | exact Wk.nil_pl _ | with_reducible exact Wk.tok _ _ _ | exact Wk.tok _ _ _ | exact Wk.eq (by first | rfl | (simp []; done) | (simp []; omega))) ?_))) ?_))) rfl rfl rfl rfl fun s78 => ?_
              refine xmark 0 UndC.h UndC.h rfl rfl rfl rfl ?_
              refine xvalP (pv_assign rfl) rfl rfl ?_
              refine xnil ?_
              exact xmeet ⟨[(45 : UInt8), (94 : UInt8)], h, rfl⟩ ⟨(.cons rfl (.refl _) (.cons rfl (.refl _) (.cons rfl (.refl _) (.nil _)))), (SubM.of (.keep rfl rfl (.refl _) (.nil _)) (.keep rfl (.nil _)))⟩
            · replace h := h.2 hp535
              refine xcondF' (b_f hp535) rfl ?_
              refine xskipc ?_
              exact xmeet ⟨[(91 : UInt8), (92 : UInt8), (94 : UInt8), (45 : UInt8)], h, rfl⟩ ⟨(.cons rfl (.refl _) (.cons rfl (.refl _) (.cons rfl (.refl _) (.nil _)))), (SubM.of (.keep rfl rfl (.refl _) (.nil _)) (.keep rfl (.nil _)))⟩
        · clear h
          rintro _ ⟨x517, h, rfl⟩
          refine xseq ?_
          refine xseq ?_
          refine xregion ?_
          refine xvalP (pv_move rfl) rfl rfl ?_
          refine xvalP (pv_lenM UndC.h rfl) rfl rfl ?_
          refine xvalP (pv_move rfl) rfl rfl ?_
          refine xnil ?_
          refine xthen ?_
          refine xblock ?_
          obtain ⟨Inv, ⟨m0, hI⟩, hS⟩ := h
          refine xloop (fun σ m => ∃ (x618 : List UInt8), ∃ (x620 : Int), ∃ (i619 : Option (Nat × Nat)), Inv (x618, x620) m ∧ σ = ⟨[(1, .v (.pointer (some ⟨b1, 0, none⟩))), (3, .sl 1 (some i619) (List.map eb x618)), (80, .sl 1 none (List.map eb x517)), (81, .v (.int .i64 ((x517.length : Int)))), (82, .v (.int .i64 x620))], [⟨b1, 26, ((List.map ew f51.l).flatten)⟩], [⟨i619, 5, 1, x618.length⟩]⟩) ⟨x370, 0, i371, hI, rfl⟩ ⟨(.cons rfl (.refl _) (.cons rfl (.refl _) (.cons rfl (.refl _) (.cons rfl (.refl _) (.cons rfl (.refl _) (.nil _)))))), (SubM.of (.keep rfl rfl (.refl _) (.nil _)) (.keep rfl (.nil _)))⟩ ?_
          rintro _ m ⟨x618, x620, i619, hI, rfl⟩
          obtain ⟨ag8, hag8, h⟩ : ∃ ag, (∀ s', ag s' → ∃ m', m' < m ∧ Inv s' m') ∧ brack_Text_l8 x517 f51 ag x618 x620 r := ⟨_, fun _ h => h, hS (x618, x620) _ hI⟩
          clear hS hI
          refine xseq ?_
          refine xregion ?_
          refine xvalP (pv_bin2 rfl rfl rfl) rfl rfl ?_
          refine xnil ?_
          refine xthen ?_
          refine xseq ?_
          by_cases hp642 : x620 < (x517.length : Int)
          · replace h := h.1 hp642
            refine xcondT' (decide_eq_true hp642) rfl ?_
            refine xskipc ?_
            refine xthen ?_
            refine xseq ?_
            refine xblock ?_
            refine xseq ?_
            refine xregion ?_
            obtain ⟨h651a, h⟩ := h
            obtain ⟨y650, h651b, h⟩ := h
            refine xvalP (pv_indexAddrM h651a h651b UndC.h ShpC.h rfl rfl) rfl rfl ?_
            refine xval (qv_load ShpC.h rfl rfl rfl) rfl rfl ?_
            refine xvalP (pv_assign rfl) rfl rfl ?_
            refine xnil ?_
            refine xthen ?_
            refine xseq ?_
            refine xregion ?_
            refine xval (qv_loadP 0 [] ((List.map ew f51.l).flatten) [] (by first | rfl | exact (List.append_nil _).symm | exact List.append_nil _ | exact List.append_assoc _ _ _ | exact (List.append_assoc _ _ _).symm | exact congrArg _ (List.append_nil _).symm | exact congrArg _ (List.append_nil _) | (simp; done) | (simp [cellsS]; done)) (by first | rfl | exact seg_lenE (by rfl) | exact len_app rfl (seg_lenE (by rfl)) (by rfl) | exact len_app (seg_lenE (by rfl)) rfl (by rfl) | exact len_app rfl (len_app (seg_lenE (by rfl)) rfl (by rfl)) (by rfl) | (simp only [seg_len, cellsS, List.length_append, List.length_cons, List.length_nil]; done) | (simp only [seg_len, cellsS, List.length_append, List.length_cons, List.length_nil]; rfl)) (by first | rfl | exact seg_lenE (by rfl) | exact len_app rfl (seg_lenE (by rfl)) (by rfl) | exact len_app (seg_lenE (by rfl)) rfl (by rfl) | exact len_app rfl (len_app (seg_lenE (by rfl)) rfl (by rfl)) (by rfl) | (simp only [seg_len, cellsS, List.length_append, List.length_cons, List.length_nil]; done) | (simp only [seg_len, cellsS, List.length_append, List.length_cons, List.length_nil]; rfl)) (part_all (seg_lenE (by rfl))) ShpC.h rfl rfl) rfl rfl ?_
            refine xvalP (pv_move rfl) rfl rfl ?_
            obtain ⟨y653, h652, h⟩ := h
            refine xcall0 (class_Has_con f51 y650 _ h652) Try.func16 (by kernel_rfl) rfl (.cons rfl (.refl _) (.cons rfl (.refl _) .nil)) rfl rfl ?_
            refine xnil ?_
            refine xthen ?_
            by_cases hp654 : y653 = true
            · replace h := h.1 hp654
              refine xcondT' hp654 rfl ?_
              refine xregion ?_
              refine xvalP (pv_move rfl) rfl rfl ?_
              refine xvalP (pv_move rfl) rfl rfl ?_
              refine xbuildSliceM (f := eb) [y650] UndC.h InfC.h rfl rfl (by first | exact wkR_of rfl | (repeat (first | exact WkR.nil | refine WkR.cons (by (repeat (first | exact WkL.nil | refine WkL.cons (by first | with_reducible exact Wk.refl _ | exact Wk.nil_own _ | exact Wk.nil_pl _ | with_reducible exact Wk.tok _ _ _ | exact Wk.tok _ _ _ | exact Wk.eq (by first | rfl | (simp []; done) | (simp []; omega))) ?_))) ?_))) rfl rfl rfl rfl fun s91 => ?_
              obtain ⟨h655, h⟩ := h
              refine xappendM (l := x618) (l2 := [y650]) 1 h655 UndC.h InfC.h rfl rfl rfl (.refl _) rfl rfl rfl fun i656 => ?_
              refine xvalP (pv_assign rfl) rfl rfl ?_
              refine xnil ?_
              refine xin_normal ?_
              refine xthen ?_
              refine xregion ?_
              obtain ⟨h657, h⟩ := h
              refine xvalP (pv_addI h657 rfl rfl) rfl rfl ?_
              refine xvalP (pv_move rfl) rfl rfl ?_
              refine xnil ?_
              obtain ⟨m', hm, hI⟩ := hag8 _ h
              exact xagain ⟨(x618 ++ [y650]), (x620 + 1), i656, hI, rfl⟩ hm ⟨(.cons rfl (.refl _) (.cons rfl (.refl _) (.cons rfl (.refl _) (.cons rfl (.refl _) (.cons rfl (.refl _) (.nil _)))))), (SubM.of (.keep rfl rfl (.refl _) (.nil _)) (.drop (.keep rfl (.nil _))))⟩
            · replace h := h.2 hp654
              refine xcondF' (b_f hp654) rfl ?_
              refine xskipc ?_
              refine xin_normal ?_
              refine xthen ?_
              refine xregion ?_
              obtain ⟨h658, h⟩ := h
              refine xvalP (pv_addI h658 rfl rfl) rfl rfl ?_
              refine xvalP (pv_move rfl) rfl rfl ?_
              refine xnil ?_
              obtain ⟨m', hm, hI⟩ := hag8 _ h
              exact xagain ⟨x618, (x620 + 1), i619, hI, rfl⟩ hm ⟨(.cons rfl (.refl _) (.cons rfl (.refl _) (.cons rfl (.refl _) (.cons rfl (.refl _) (.cons rfl (.refl _) (.nil _)))))), (SubM.of (.keep rfl rfl (.refl _) (.nil _)) (.keep rfl (.nil _)))⟩
          · replace h := h.2 hp642
            refine xcondF' (decide_eq_false hp642) rfl ?_
            refine xexit ?_
            refine xthen_exit ?_
            refine xthen_exit ?_
            refine xin_same rfl ?_
            refine xthen ?_
            refine xseq ?_
            refine xregion ?_
            refine xvalP (pv_move rfl) rfl rfl ?_
            refine xbuildSliceM (f := eb) [(93 : UInt8)] UndC.h InfC.h rfl rfl (by first | exact wkR_of rfl | (repeat (first | exact WkR.nil | refine WkR.cons (by (repeat (first | exact WkL.nil | refine WkL.cons (by first | with_reducible exact Wk.refl _ | exact Wk.nil_own _ | exact Wk.nil_pl _ | with_reducible exact Wk.tok _ _ _ | exact Wk.tok _ _ _ | exact Wk.eq (by first | rfl | (simp []; done) | (simp []; omega))) ?_))) ?_))) rfl rfl rfl rfl fun s95 => ?_
            obtain ⟨h659, h⟩ := h
            refine xappendM (l := x618) (l2 := [(93 : UInt8)]) 1 h659 UndC.h InfC.h rfl rfl rfl (.refl _) rfl rfl rfl fun i660 => ?_
            refine xvalP (pv_assign rfl) rfl rfl ?_
            refine xnil ?_
            refine xthen ?_
            refine xretc ?_
            replace h := h.symm
            subst h
            exact xret1 hg rfl rfl (.refl _) (SubM.of (.nil _) (.drop (.keep rfl (.nil _)))) ⟨i660, rfl, rfl, rfl⟩
/-- palinoderef07.at -/
def palinoderef07_at_R (bv1 : List UInt8) (iv2 : Int) (r : Int) : Prop :=
  ((iv2 < 0 → r = (-1)) ∧ (¬ (iv2 < 0) → (((bv1.length : Int) ≤ iv2 → r = (-1)) ∧ (¬ ((bv1.length : Int) ≤ iv2) → 0 ≤ (iv2 : Int) ∧ ∃ y21 : UInt8, bv1[(iv2 : Int).toNat]? = some y21 ∧ r = (y21.toNat : Int)))))
set_option maxHeartbeats 4000000 in
theorem palinoderef07_at_con (bv1 : List UInt8) (iv2 : Int) (r : Int) (h : palinoderef07_at_R bv1 iv2 r) : Con Try.prog 18 [.sl 1 none (List.map eb bv1), .v (.int .i64 iv2)] [] [] (Ret (.v (.int .i64 r))) := by
  refine xenter Try.func18 rfl rfl fun g hg => ?_
  simp only [Try.ntmps18, slots]
  refine xseq ?_
  refine xregion ?_
  refine xvalP (pv_assign rfl) rfl rfl ?_
  refine xnil ?_
  refine xthen ?_
  refine xseq ?_
  refine xseq ?_
  refine xregion ?_
  refine xvalP (pv_move rfl) rfl rfl ?_
  refine xvalP (pv_bin2 rfl rfl rfl) rfl rfl ?_
  refine xvalP (pv_move rfl) rfl rfl ?_
  by_cases hp17 : iv2 < 0
  · replace h := h.1 hp17
    refine xsetB 7 (decide_eq_true hp17) rfl ?_
    refine xskip rfl rfl ?_
    refine xskip rfl rfl ?_
    refine xskip rfl rfl ?_
    refine xskip rfl rfl ?_
    refine xvalP (pv_pick rfl rfl) rfl rfl ?_
    refine xnil ?_
    refine xthen ?_
    refine xcondT rfl ?_
    refine xseq ?_
    refine xregion ?_
    refine xvalP (pv_assign rfl) rfl rfl ?_
    refine xnil ?_
    refine xthen ?_
    refine xretc ?_
    refine xthen_ret ?_
    replace h := h.symm
    subst h
    exact xret1 hg rfl rfl (.refl _) (SubM.of (.nil _) (.nil _)) ⟨rfl, rfl, rfl⟩
  · replace h := h.2 hp17
    refine xsetB 7 (decide_eq_false hp17) rfl ?_
    refine xvalP (pv_move rfl) rfl rfl ?_
    refine xvalP (pv_move rfl) rfl rfl ?_
    refine xvalP (pv_lenM UndC.h rfl) rfl rfl ?_
    refine xvalP (pv_bin2 rfl rfl rfl) rfl rfl ?_
    refine xvalP (pv_pick rfl rfl) rfl rfl ?_
    refine xnil ?_
    refine xthen ?_
    by_cases hp20 : (bv1.length : Int) ≤ iv2
    · replace h := h.1 hp20
      refine xcondT' (decide_eq_true hp20) rfl ?_
      refine xseq ?_
      refine xregion ?_
      refine xvalP (pv_assign rfl) rfl rfl ?_
      refine xnil ?_
      refine xthen ?_
      refine xretc ?_
      refine xthen_ret ?_
      replace h := h.symm
      subst h
      exact xret1 hg rfl rfl (.refl _) (SubM.of (.nil _) (.nil _)) ⟨rfl, rfl, rfl⟩
    · replace h := h.2 hp20
      refine xcondF' (decide_eq_false hp20) rfl ?_
      refine xskipc ?_
      refine xthen ?_
      refine xseq ?_
      refine xregion ?_
      refine xvalP (pv_move rfl) rfl rfl ?_
      refine xvalP (pv_move rfl) rfl rfl ?_
      obtain ⟨h22a, h⟩ := h
      obtain ⟨y21, h22b, h⟩ := h
      refine xvalP (pv_indexAddrM h22a h22b UndC.h ShpC.h rfl rfl) rfl rfl ?_
      refine xval (qv_load ShpC.h rfl rfl rfl) rfl rfl ?_
      refine xvalP (pv_convW (w8 y21) UndC.h UndC.h rfl) rfl rfl ?_
      refine xvalP (pv_assign rfl) rfl rfl ?_
      refine xnil ?_
      refine xthen ?_
      refine xretc ?_
      replace h := h.symm
      subst h
      exact xret1 hg rfl rfl (.refl _) (SubM.of (.nil _) (.nil _)) ⟨rfl, rfl, rfl⟩
/-- palinoderef01.In -/
def palinoderef01_In_j2 (iv176 : Int) (ag1 : (Int) → Prop) (r : Bool) : Prop :=
  InR (iv176 + 2) ∧ ag1 (iv176 + 2)
def palinoderef01_In_l1 (row1 : ByteArray) (c2 : UInt8) (ag1 : (Int) → Prop) (iv176 : Int) (r : Bool) : Prop :=
  InR (iv176 + 1) ∧ (((iv176 + 1) < (row1.size : Int) → 0 ≤ (iv176 : Int) ∧ ∃ c254 : UInt8, row1[(iv176 : Int).toNat]? = some c254 ∧ (((c254.toNat : Int) ≤ (c2.toNat : Int) → InR (iv176 + 1) ∧ 0 ≤ ((iv176 + 1) : Int) ∧ ∃ c259 : UInt8, row1[((iv176 + 1) : Int).toNat]? = some c259 ∧ (((c2.toNat : Int) ≤ (c259.toNat : Int) → r = true) ∧ (¬ ((c2.toNat : Int) ≤ (c259.toNat : Int)) → palinoderef01_In_j2 iv176 ag1 r))) ∧ (¬ ((c254.toNat : Int) ≤ (c2.toNat : Int)) → palinoderef01_In_j2 iv176 ag1 r))) ∧ (¬ ((iv176 + 1) < (row1.size : Int)) → r = false))
def palinoderef01_In_R (row1 : ByteArray) (c2 : UInt8) (r : Bool) : Prop :=
  LoopR (fun ag1 s => palinoderef01_In_l1 row1 c2 ag1 s r) 0
set_option maxHeartbeats 4000000 in
theorem palinoderef01_In_con (row1 : ByteArray) (c2 : UInt8) (r : Bool) (h : palinoderef01_In_R row1 c2 r) : Con Try.prog 29 [.v (.string row1), .v (.int .u8 ((c2.toNat : Int)))] [] [] (Ret (.v (.bool r))) := by
  refine xenter Try.func29 rfl rfl fun g hg => ?_
  simp only [Try.ntmps29, slots]
  refine xseq ?_
  refine xregion ?_
  refine xvalP (pv_assign rfl) rfl rfl ?_
  refine xnil ?_
  refine xthen ?_
  refine xseq ?_
  refine xseq ?_
  refine xregion ?_
  refine xvalP (pv_assign rfl) rfl rfl ?_
  refine xnil ?_
  refine xthen ?_
  refine xblock ?_
  obtain ⟨Inv, ⟨m0, hI⟩, hS⟩ := h
  refine xloop (fun σ m => ∃ (iv176 : Int), Inv iv176 m ∧ σ = ⟨[(0, .v (.string row1)), (1, .v (.int .u8 ((c2.toNat : Int)))), (5, .v (.int .i64 iv176))], [], []⟩) ⟨0, hI, rfl⟩ ⟨(.cons rfl (.refl _) (.cons rfl (.refl _) (.cons rfl (.refl _) (.nil _)))), (SubM.of (.nil _) (.nil _))⟩ ?_
  rintro _ m ⟨iv176, hI, rfl⟩
  obtain ⟨ag1, hag1, h⟩ : ∃ ag, (∀ s', ag s' → ∃ m', m' < m ∧ Inv s' m') ∧ palinoderef01_In_l1 row1 c2 ag iv176 r := ⟨_, fun _ h => h, hS iv176 _ hI⟩
  clear hS hI
  refine xseq ?_
  refine xseq ?_
  refine xregion ?_
  refine xvalP (pv_move rfl) rfl rfl ?_
  obtain ⟨h224, h⟩ := h
  refine xvalP (pv_addI h224 rfl rfl) rfl rfl ?_
  refine xvalP (pv_move rfl) rfl rfl ?_
  refine xvalP (pv_lenS UndC.h rfl) rfl rfl ?_
  refine xvalP (pv_bin2 rfl rfl rfl) rfl rfl ?_
  refine xnil ?_
  refine xthen ?_
  by_cases hp227 : (iv176 + 1) < (row1.size : Int)
  · replace h := h.1 hp227
    refine xcondT' (decide_eq_true hp227) rfl ?_
    refine xskipc ?_
    refine xthen ?_
    refine xseqM (fun σ => palinoderef01_In_j2 iv176 ag1 r ∧ σ = ⟨[(0, .v (.string row1)), (1, .v (.int .u8 ((c2.toNat : Int)))), (5, .v (.int .i64 iv176))], [], []⟩) ?_ ?_
    · refine xblock ?_
      refine xseq ?_
      refine xregion ?_
      refine xvalP (pv_move rfl) rfl rfl ?_
      refine xvalP (pv_move rfl) rfl rfl ?_
      refine xvalP (pv_move rfl) rfl rfl ?_
      obtain ⟨h253, h⟩ := h
      obtain ⟨c254, h253b, h⟩ := h
      refine xvalP (pv_indexSM h253 h253b UndC.h rfl rfl) rfl rfl ?_
      refine xvalP (pv_bin2 rfl rfl rfl) rfl rfl ?_
      refine xvalP (pv_move rfl) rfl rfl ?_
      by_cases hp256 : (c254.toNat : Int) ≤ (c2.toNat : Int)
      · replace h := h.1 hp256
        refine xsetB 18 (decide_eq_true hp256) rfl ?_
        refine xvalP (pv_move rfl) rfl rfl ?_
        refine xvalP (pv_move rfl) rfl rfl ?_
        refine xvalP (pv_move rfl) rfl rfl ?_
        obtain ⟨h257, h⟩ := h
        refine xvalP (pv_addI h257 rfl rfl) rfl rfl ?_
        obtain ⟨h258, h⟩ := h
        obtain ⟨c259, h258b, h⟩ := h
        refine xvalP (pv_indexSM h258 h258b UndC.h rfl rfl) rfl rfl ?_
        refine xvalP (pv_bin2 rfl rfl rfl) rfl rfl ?_
        refine xvalP (pv_pick rfl rfl) rfl rfl ?_
        refine xnil ?_
        refine xthen ?_
        by_cases hp261 : (c2.toNat : Int) ≤ (c259.toNat : Int)
        · replace h := h.1 hp261
          refine xcondT' (decide_eq_true hp261) rfl ?_
          refine xseq ?_
          refine xregion ?_
          refine xvalP (pv_assign rfl) rfl rfl ?_
          refine xnil ?_
          refine xthen ?_
          refine xretc ?_
          refine xin_ret ?_
          refine xthen_ret ?_
          refine xthen_ret ?_
          refine xin_ret ?_
          refine xthen_ret ?_
          replace h := h.symm
          subst h
          exact xret1 hg rfl rfl (.refl _) (SubM.of (.nil _) (.nil _)) ⟨rfl, rfl, rfl⟩
        · replace h := h.2 hp261
          refine xcondF' (decide_eq_false hp261) rfl ?_
          refine xskipc ?_
          refine xin_normal ?_
          exact xmeet ⟨h, rfl⟩ ⟨(.cons rfl (.refl _) (.cons rfl (.refl _) (.cons rfl (.refl _) (.nil _)))), (SubM.of (.nil _) (.nil _))⟩
      · replace h := h.2 hp256
        refine xsetB 18 (decide_eq_false hp256) rfl ?_
        refine xskip rfl rfl ?_
        refine xskip rfl rfl ?_
        refine xskip rfl rfl ?_
        refine xskip rfl rfl ?_
        refine xskip rfl rfl ?_
        refine xskip rfl rfl ?_
        refine xvalP (pv_pick rfl rfl) rfl rfl ?_
        refine xnil ?_
        refine xthen ?_
        refine xcondF rfl ?_
        refine xskipc ?_
        refine xin_normal ?_
        exact xmeet ⟨h, rfl⟩ ⟨(.cons rfl (.refl _) (.cons rfl (.refl _) (.cons rfl (.refl _) (.nil _)))), (SubM.of (.nil _) (.nil _))⟩
    · clear h
      rintro _ ⟨h, rfl⟩
      refine xregion ?_
      refine xvalP (pv_move rfl) rfl rfl ?_
      obtain ⟨h262, h⟩ := h
      refine xvalP (pv_addI h262 rfl rfl) rfl rfl ?_
      refine xvalP (pv_assign rfl) rfl rfl ?_
      refine xnil ?_
      obtain ⟨m', hm, hI⟩ := hag1 _ h
      exact xagain ⟨(iv176 + 2), hI, rfl⟩ hm ⟨(.cons rfl (.refl _) (.cons rfl (.refl _) (.cons rfl (.refl _) (.nil _)))), (SubM.of (.nil _) (.nil _))⟩
  · replace h := h.2 hp227
    refine xcondF' (decide_eq_false hp227) rfl ?_
    refine xexit ?_
    refine xthen_exit ?_
    refine xthen_exit ?_
    refine xin_same rfl ?_
    refine xthen ?_
    refine xseq ?_
    refine xregion ?_
    refine xvalP (pv_assign rfl) rfl rfl ?_
    refine xnil ?_
    refine xthen ?_
    refine xretc ?_
    replace h := h.symm
    subst h
    exact xret1 hg rfl rfl (.refl _) (SubM.of (.nil _) (.nil _)) ⟨rfl, rfl, rfl⟩
end Go.Proofs.Ytgplmognfmjllaa
