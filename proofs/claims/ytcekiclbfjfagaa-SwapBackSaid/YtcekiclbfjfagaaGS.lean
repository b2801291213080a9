/- What functions' texts ask for, and the walks that show it (printed by a program). -/
import Derived.Test.YtcekiclbfjfagaaSBx
namespace Go.Proofs.Ytcekiclbfjfagaa
abbrev E_palinode_api_Part (x : Int × Int × (List UInt8)) : List Sd := [.v (.int .i64 x.1), .v (.int .i64 x.2.1), .sl 1 none (List.map eb x.2.2)]
instance : EncLen E_palinode_api_Part 3 := ⟨fun _ => (by first | rfl | exact seg_lenE (by rfl) | exact len_app rfl (seg_lenE (by rfl)) (by rfl) | exact len_app (seg_lenE (by rfl)) rfl (by rfl) | exact len_app rfl (len_app (seg_lenE (by rfl)) rfl (by rfl)) (by rfl) | (simp only [seg_len, cellsS, List.length_append, List.length_cons, List.length_nil]; done) | (simp only [seg_len, cellsS, List.length_append, List.length_cons, List.length_nil]; rfl))⟩
/-- palinoderef13.Right -/
def palinoderef13_Right_j2 (x1007 : Int) (ag1 : (Int) → Prop) (x1448 : Bool) (r : Bool) : Prop :=
  ((x1448 = true → r = false) ∧ (¬ (x1448 = true) → InR (x1007 + 1) ∧ ag1 (x1007 + 1)))
def palinoderef13_Right_l1 (x1 : List (Int × Int × (List UInt8))) (ag1 : (Int) → Prop) (x1007 : Int) (r : Bool) : Prop :=
  ((x1007 < (x1.length : Int) → 0 ≤ (x1007 : Int) ∧ ∃ y1387 : Int × Int × (List UInt8), x1[(x1007 : Int).toNat]? = some y1387 ∧ ((y1387.1 = 0 → (((y1387.2.2.length : Int) = 0 → palinoderef13_Right_j2 x1007 ag1 true r) ∧ (¬ ((y1387.2.2.length : Int) = 0) → ((¬ (y1387.2.1 = 0) → palinoderef13_Right_j2 x1007 ag1 true r) ∧ (¬ (¬ (y1387.2.1 = 0)) → ((0 < x1007 → InR (x1007 - 1) ∧ 0 ≤ ((x1007 - 1) : Int) ∧ ∃ y1459 : Int × Int × (List UInt8), x1[((x1007 - 1) : Int).toNat]? = some y1459 ∧ palinoderef13_Right_j2 x1007 ag1 ((decide (y1459.1 = 0)) || (bif (decide (y1387.1 = 1)) then ((decide (y1387.2.1 < 0)) || ((decide (9 < y1387.2.1)) || ((decide (0 < (y1387.2.2.length : Int))) || ((decide (y1387.1 < 0)) || (decide (1 < y1387.1)))))) else ((decide (y1387.1 < 0)) || (decide (1 < y1387.1))))) r) ∧ (¬ (0 < x1007) → palinoderef13_Right_j2 x1007 ag1 (bif (decide (y1387.1 = 1)) then ((decide (y1387.2.1 < 0)) || ((decide (9 < y1387.2.1)) || ((decide (0 < (y1387.2.2.length : Int))) || ((decide (y1387.1 < 0)) || (decide (1 < y1387.1)))))) else ((decide (y1387.1 < 0)) || (decide (1 < y1387.1)))) r))))))) ∧ (¬ (y1387.1 = 0) → palinoderef13_Right_j2 x1007 ag1 (bif (decide (y1387.1 = 1)) then ((decide (y1387.2.1 < 0)) || ((decide (9 < y1387.2.1)) || ((decide (0 < (y1387.2.2.length : Int))) || ((decide (y1387.1 < 0)) || (decide (1 < y1387.1)))))) else ((decide (y1387.1 < 0)) || (decide (1 < y1387.1)))) r))) ∧ (¬ (x1007 < (x1.length : Int)) → r = true))
def palinoderef13_Right_R (x1 : List (Int × Int × (List UInt8))) (r : Bool) : Prop :=
  LoopR (fun ag1 s => palinoderef13_Right_l1 x1 ag1 s r) 0
set_option maxHeartbeats 4000000 in
theorem palinoderef13_Right_con (x1 : List (Int × Int × (List UInt8))) (r : Bool) (h : palinoderef13_Right_R x1 r) : Con Try.prog 14 [.sl 3 none (List.map E_palinode_api_Part x1)] [] [] (Ret (.v (.bool r))) := by
  refine xenter Try.func14 rfl rfl fun g hg => ?_
  simp only [Try.ntmps14, slots]
  refine xseq ?_
  refine xregion ?_
  refine xvalP (pv_assign rfl) rfl rfl ?_
  refine xnil ?_
  refine xthen ?_
  refine xseq ?_
  refine xseq ?_
  refine xregion ?_
  refine xvalP (pv_assign rfl) rfl rfl ?_
  refine xnil ?_
  refine xthen ?_
  refine xblock ?_
  obtain ⟨Inv, ⟨m0, hI⟩, hS⟩ := h
  refine xloop (fun σ m => ∃ (x1007 : Int), Inv x1007 m ∧ σ = ⟨[(0, .sl 3 none (List.map E_palinode_api_Part x1)), (3, .v (.int .i64 x1007))], [], []⟩) ⟨0, hI, rfl⟩ ⟨(.cons rfl (.refl _) (.cons rfl (.refl _) (.nil _))), (SubM.of (.nil _) (.nil _))⟩ ?_
  rintro _ m ⟨x1007, hI, rfl⟩
  obtain ⟨ag1, hag1, h⟩ : ∃ ag, (∀ s', ag s' → ∃ m', m' < m ∧ Inv s' m') ∧ palinoderef13_Right_l1 x1 ag x1007 r := ⟨_, fun _ h => h, hS x1007 _ hI⟩
  clear hS hI
  refine xseq ?_
  refine xseq ?_
  refine xregion ?_
  refine xvalP (pv_move rfl) rfl rfl ?_
  refine xvalP (pv_move rfl) rfl rfl ?_
  refine xvalP (pv_lenM UndC.h rfl) rfl rfl ?_
  refine xvalP (pv_bin2 rfl rfl rfl) rfl rfl ?_
  refine xnil ?_
  refine xthen ?_
  by_cases hp1264 : x1007 < (x1.length : Int)
  · replace h := h.1 hp1264
    refine xcondT' (decide_eq_true hp1264) rfl ?_
    refine xskipc ?_
    refine xthen ?_
    refine xseq ?_
    refine xblock ?_
    refine xseq ?_
    refine xregion ?_
    refine xvalP (pv_move rfl) rfl rfl ?_
    refine xvalP (pv_move rfl) rfl rfl ?_
    obtain ⟨h1388a, h⟩ := h
    obtain ⟨y1387, h1388b, h⟩ := h
    refine xvalP (pv_indexAddrM h1388a h1388b UndC.h ShpC.h rfl rfl) rfl rfl ?_
    refine xval (qv_load ShpC.h rfl rfl rfl) rfl rfl ?_
    refine xalloc InfC.h rfl rfl fun b4 => ?_
    refine xstore 0 ShpC.h rfl rfl rfl rfl rfl rfl rfl ?_
    refine xnil ?_
    refine xthen ?_
    refine xseqM (fun σ => ∃ (x1448 : Bool), palinoderef13_Right_j2 x1007 ag1 x1448 r ∧ σ = ⟨[(0, .sl 3 none (List.map E_palinode_api_Part x1)), (3, .v (.int .i64 x1007)), (72, .v (.bool x1448))], [], []⟩) ?_ ?_
    · refine xregion ?_
      refine xvalP (qv_fieldAddrB FldC.h rfl) rfl rfl ?_
      refine xval (qv_loadB 0 ShpC.h rfl rfl rfl rfl) rfl rfl ?_
      refine xvalP (pv_bin2 rfl rfl rfl) rfl rfl ?_
      refine xvalP (pv_move rfl) rfl rfl ?_
      by_cases hp1450 : y1387.1 = 0
      · replace h := h.1 hp1450
        refine xsetB 18 (decide_eq_true hp1450) rfl ?_
        refine xvalP (qv_fieldAddrB FldC.h rfl) rfl rfl ?_
        refine xval (qv_loadB 0 ShpC.h rfl rfl rfl rfl) rfl rfl ?_
        refine xvalP (pv_lenM UndC.h rfl) rfl rfl ?_
        refine xvalP (pv_bin2 rfl rfl rfl) rfl rfl ?_
        refine xvalP (pv_move rfl) rfl rfl ?_
        by_cases hp1453 : (y1387.2.2.length : Int) = 0
        · replace h := h.1 hp1453
          refine xsetB 23 (decide_eq_true hp1453) rfl ?_
          refine xskip rfl rfl ?_
          refine xskip rfl rfl ?_
          refine xskip rfl rfl ?_
          refine xvalP (pv_pick rfl rfl) rfl rfl ?_
          refine xvalP (pv_move rfl) rfl rfl ?_
          refine xskip rfl rfl ?_
          refine xskip rfl rfl ?_
          refine xskip rfl rfl ?_
          refine xskip rfl rfl ?_
          refine xskip rfl rfl ?_
          refine xskip rfl rfl ?_
          refine xskip rfl rfl ?_
          refine xskip rfl rfl ?_
          refine xskip rfl rfl ?_
          refine xskip rfl rfl ?_
          refine xskip rfl rfl ?_
          refine xvalP (pv_pick rfl rfl) rfl rfl ?_
          refine xvalP (pv_pick rfl rfl) rfl rfl ?_
          refine xvalP (pv_move rfl) rfl rfl ?_
          refine xskip rfl rfl ?_
          refine xskip rfl rfl ?_
          refine xskip rfl rfl ?_
          refine xskip rfl rfl ?_
          refine xskip rfl rfl ?_
          refine xskip rfl rfl ?_
          refine xskip rfl rfl ?_
          refine xskip rfl rfl ?_
          refine xskip rfl rfl ?_
          refine xskip rfl rfl ?_
          refine xskip rfl rfl ?_
          refine xskip rfl rfl ?_
          refine xskip rfl rfl ?_
          refine xskip rfl rfl ?_
          refine xskip rfl rfl ?_
          refine xskip rfl rfl ?_
          refine xskip rfl rfl ?_
          refine xskip rfl rfl ?_
          refine xskip rfl rfl ?_
          refine xvalP (pv_pick rfl rfl) rfl rfl ?_
          refine xvalP (pv_move rfl) rfl rfl ?_
          refine xskip rfl rfl ?_
          refine xskip rfl rfl ?_
          refine xskip rfl rfl ?_
          refine xvalP (pv_pick rfl rfl) rfl rfl ?_
          refine xvalP (pv_move rfl) rfl rfl ?_
          refine xskip rfl rfl ?_
          refine xskip rfl rfl ?_
          refine xskip rfl rfl ?_
          refine xvalP (pv_pick rfl rfl) rfl rfl ?_
          refine xnil ?_
          exact xmeet ⟨true, h, rfl⟩ ⟨(.cons rfl (.refl _) (.cons rfl (.refl _) (.cons rfl (.refl _) (.nil _)))), (SubM.of (.nil _) (.nil _))⟩
        · replace h := h.2 hp1453
          refine xsetB 23 (decide_eq_false hp1453) rfl ?_
          refine xvalP (qv_fieldAddrB FldC.h rfl) rfl rfl ?_
          refine xval (qv_loadB 0 ShpC.h rfl rfl rfl rfl) rfl rfl ?_
          refine xvalP (pv_bin2 rfl rfl rfl) rfl rfl ?_
          refine xvalP (pv_pick rfl rfl) rfl rfl ?_
          refine xvalP (pv_move rfl) rfl rfl ?_
          by_cases hp1455 : ¬ (y1387.2.1 = 0)
          · replace h := h.1 hp1455
            refine xsetB 28 (not_t (decide_eq_false hp1455)) rfl ?_
            refine xskip rfl rfl ?_
            refine xskip rfl rfl ?_
            refine xskip rfl rfl ?_
            refine xskip rfl rfl ?_
            refine xskip rfl rfl ?_
            refine xskip rfl rfl ?_
            refine xskip rfl rfl ?_
            refine xskip rfl rfl ?_
            refine xskip rfl rfl ?_
            refine xskip rfl rfl ?_
            refine xskip rfl rfl ?_
            refine xvalP (pv_pick rfl rfl) rfl rfl ?_
            refine xvalP (pv_pick rfl rfl) rfl rfl ?_
            refine xvalP (pv_move rfl) rfl rfl ?_
            refine xskip rfl rfl ?_
            refine xskip rfl rfl ?_
            refine xskip rfl rfl ?_
            refine xskip rfl rfl ?_
            refine xskip rfl rfl ?_
            refine xskip rfl rfl ?_
            refine xskip rfl rfl ?_
            refine xskip rfl rfl ?_
            refine xskip rfl rfl ?_
            refine xskip rfl rfl ?_
            refine xskip rfl rfl ?_
            refine xskip rfl rfl ?_
            refine xskip rfl rfl ?_
            refine xskip rfl rfl ?_
            refine xskip rfl rfl ?_
            refine xskip rfl rfl ?_
            refine xskip rfl rfl ?_
            refine xskip rfl rfl ?_
            refine xskip rfl rfl ?_
            refine xvalP (pv_pick rfl rfl) rfl rfl ?_
            refine xvalP (pv_move rfl) rfl rfl ?_
            refine xskip rfl rfl ?_
            refine xskip rfl rfl ?_
            refine xskip rfl rfl ?_
            refine xvalP (pv_pick rfl rfl) rfl rfl ?_
            refine xvalP (pv_move rfl) rfl rfl ?_
            refine xskip rfl rfl ?_
            refine xskip rfl rfl ?_
            refine xskip rfl rfl ?_
            refine xvalP (pv_pick rfl rfl) rfl rfl ?_
            refine xnil ?_
            exact xmeet ⟨true, h, rfl⟩ ⟨(.cons rfl (.refl _) (.cons rfl (.refl _) (.cons rfl (.refl _) (.nil _)))), (SubM.of (.nil _) (.nil _))⟩
          · replace h := h.2 hp1455
            refine xsetB 28 (not_f (decide_eq_true (Decidable.of_not_not hp1455))) rfl ?_
            refine xvalP (pv_move rfl) rfl rfl ?_
            refine xvalP (pv_bin2 rfl rfl rfl) rfl rfl ?_
            refine xvalP (pv_move rfl) rfl rfl ?_
            by_cases hp1457 : 0 < x1007
            · replace h := h.1 hp1457
              refine xsetB 31 (decide_eq_true hp1457) rfl ?_
              refine xvalP (pv_move rfl) rfl rfl ?_
              refine xvalP (pv_move rfl) rfl rfl ?_
              obtain ⟨h1458, h⟩ := h
              refine xvalP (pv_subI h1458 rfl rfl) rfl rfl ?_
              obtain ⟨h1460a, h⟩ := h
              obtain ⟨y1459, h1460b, h⟩ := h
              refine xvalP (pv_indexAddrM h1460a h1460b UndC.h ShpC.h rfl rfl) rfl rfl ?_
              refine xvalP (qv_fieldAddrE FldC.h rfl) rfl rfl ?_
              refine xval (qv_load ShpC.h rfl rfl rfl) rfl rfl ?_
              refine xvalP (pv_bin2 rfl rfl rfl) rfl rfl ?_
              refine xvalP (pv_pick rfl rfl) rfl rfl ?_
              refine xvalP (pv_pick rfl rfl) rfl rfl ?_
              refine xvalP (pv_pick rfl rfl) rfl rfl ?_
              refine xvalP (pv_move rfl) rfl rfl ?_
              by_cases hp1462 : y1459.1 = 0
              · rw [show (decide (y1459.1 = 0)) = true from (decide_eq_true hp1462), Bool.true_or] at h
                refine xsetB 42 (decide_eq_true hp1462) rfl ?_
                refine xskip rfl rfl ?_
                refine xskip rfl rfl ?_
                refine xskip rfl rfl ?_
                refine xskip rfl rfl ?_
                refine xskip rfl rfl ?_
                refine xskip rfl rfl ?_
                refine xskip rfl rfl ?_
                refine xskip rfl rfl ?_
                refine xskip rfl rfl ?_
                refine xskip rfl rfl ?_
                refine xskip rfl rfl ?_
                refine xskip rfl rfl ?_
                refine xskip rfl rfl ?_
                refine xskip rfl rfl ?_
                refine xskip rfl rfl ?_
                refine xskip rfl rfl ?_
                refine xskip rfl rfl ?_
                refine xskip rfl rfl ?_
                refine xskip rfl rfl ?_
                refine xvalP (pv_pick rfl rfl) rfl rfl ?_
                refine xvalP (pv_move rfl) rfl rfl ?_
                refine xskip rfl rfl ?_
                refine xskip rfl rfl ?_
                refine xskip rfl rfl ?_
                refine xvalP (pv_pick rfl rfl) rfl rfl ?_
                refine xvalP (pv_move rfl) rfl rfl ?_
                refine xskip rfl rfl ?_
                refine xskip rfl rfl ?_
                refine xskip rfl rfl ?_
                refine xvalP (pv_pick rfl rfl) rfl rfl ?_
                refine xnil ?_
                exact xmeet ⟨true, h, rfl⟩ ⟨(.cons rfl (.refl _) (.cons rfl (.refl _) (.cons rfl (.refl _) (.nil _)))), (SubM.of (.nil _) (.nil _))⟩
              · rw [show (decide (y1459.1 = 0)) = false from (decide_eq_false hp1462), Bool.false_or] at h
                refine xsetB 42 (decide_eq_false hp1462) rfl ?_
                refine xvalP (qv_fieldAddrB FldC.h rfl) rfl rfl ?_
                refine xval (qv_loadB 0 ShpC.h rfl rfl rfl rfl) rfl rfl ?_
                refine xvalP (pv_bin2 rfl rfl rfl) rfl rfl ?_
                refine xvalP (pv_move rfl) rfl rfl ?_
                by_cases hp1464 : y1387.1 = 1
                · rw [show (decide (y1387.1 = 1)) = true from (decide_eq_true hp1464), cond_true] at h
                  refine xsetB 46 (decide_eq_true hp1464) rfl ?_
                  refine xvalP (qv_fieldAddrB FldC.h rfl) rfl rfl ?_
                  refine xval (qv_loadB 0 ShpC.h rfl rfl rfl rfl) rfl rfl ?_
                  refine xvalP (pv_bin2 rfl rfl rfl) rfl rfl ?_
                  refine xvalP (pv_move rfl) rfl rfl ?_
                  by_cases hp1466 : y1387.2.1 < 0
                  · rw [show (decide (y1387.2.1 < 0)) = true from (decide_eq_true hp1466), Bool.true_or] at h
                    refine xsetB 50 (decide_eq_true hp1466) rfl ?_
                    refine xskip rfl rfl ?_
                    refine xskip rfl rfl ?_
                    refine xskip rfl rfl ?_
                    refine xvalP (pv_pick rfl rfl) rfl rfl ?_
                    refine xvalP (pv_move rfl) rfl rfl ?_
                    refine xskip rfl rfl ?_
                    refine xskip rfl rfl ?_
                    refine xskip rfl rfl ?_
                    refine xskip rfl rfl ?_
                    refine xvalP (pv_pick rfl rfl) rfl rfl ?_
                    refine xvalP (pv_pick rfl rfl) rfl rfl ?_
                    refine xvalP (pv_pick rfl rfl) rfl rfl ?_
                    refine xvalP (pv_move rfl) rfl rfl ?_
                    refine xskip rfl rfl ?_
                    refine xskip rfl rfl ?_
                    refine xskip rfl rfl ?_
                    refine xvalP (pv_pick rfl rfl) rfl rfl ?_
                    refine xvalP (pv_move rfl) rfl rfl ?_
                    refine xskip rfl rfl ?_
                    refine xskip rfl rfl ?_
                    refine xskip rfl rfl ?_
                    refine xvalP (pv_pick rfl rfl) rfl rfl ?_
                    refine xnil ?_
                    exact xmeet ⟨true, h, rfl⟩ ⟨(.cons rfl (.refl _) (.cons rfl (.refl _) (.cons rfl (.refl _) (.nil _)))), (SubM.of (.nil _) (.nil _))⟩
                  · rw [show (decide (y1387.2.1 < 0)) = false from (decide_eq_false hp1466), Bool.false_or] at h
                    refine xsetB 50 (decide_eq_false hp1466) rfl ?_
                    refine xvalP (qv_fieldAddrB FldC.h rfl) rfl rfl ?_
                    refine xval (qv_loadB 0 ShpC.h rfl rfl rfl rfl) rfl rfl ?_
                    refine xvalP (pv_bin2 rfl rfl rfl) rfl rfl ?_
                    refine xvalP (pv_pick rfl rfl) rfl rfl ?_
                    refine xvalP (pv_move rfl) rfl rfl ?_
                    by_cases hp1468 : 9 < y1387.2.1
                    · rw [show (decide (9 < y1387.2.1)) = true from (decide_eq_true hp1468), Bool.true_or] at h
                      refine xsetB 55 (decide_eq_true hp1468) rfl ?_
                      refine xskip rfl rfl ?_
                      refine xskip rfl rfl ?_
                      refine xskip rfl rfl ?_
                      refine xskip rfl rfl ?_
                      refine xvalP (pv_pick rfl rfl) rfl rfl ?_
                      refine xvalP (pv_pick rfl rfl) rfl rfl ?_
                      refine xvalP (pv_pick rfl rfl) rfl rfl ?_
                      refine xvalP (pv_move rfl) rfl rfl ?_
                      refine xskip rfl rfl ?_
                      refine xskip rfl rfl ?_
                      refine xskip rfl rfl ?_
                      refine xvalP (pv_pick rfl rfl) rfl rfl ?_
                      refine xvalP (pv_move rfl) rfl rfl ?_
                      refine xskip rfl rfl ?_
                      refine xskip rfl rfl ?_
                      refine xskip rfl rfl ?_
                      refine xvalP (pv_pick rfl rfl) rfl rfl ?_
                      refine xnil ?_
                      exact xmeet ⟨true, h, rfl⟩ ⟨(.cons rfl (.refl _) (.cons rfl (.refl _) (.cons rfl (.refl _) (.nil _)))), (SubM.of (.nil _) (.nil _))⟩
                    · rw [show (decide (9 < y1387.2.1)) = false from (decide_eq_false hp1468), Bool.false_or] at h
                      refine xsetB 55 (decide_eq_false hp1468) rfl ?_
                      refine xvalP (qv_fieldAddrB FldC.h rfl) rfl rfl ?_
                      refine xval (qv_loadB 0 ShpC.h rfl rfl rfl rfl) rfl rfl ?_
                      refine xvalP (pv_lenM UndC.h rfl) rfl rfl ?_
                      refine xvalP (pv_bin2 rfl rfl rfl) rfl rfl ?_
                      refine xvalP (pv_pick rfl rfl) rfl rfl ?_
                      refine xvalP (pv_pick rfl rfl) rfl rfl ?_
                      refine xvalP (pv_pick rfl rfl) rfl rfl ?_
                      refine xvalP (pv_move rfl) rfl rfl ?_
                      by_cases hp1471 : 0 < (y1387.2.2.length : Int)
                      · rw [show (decide (0 < (y1387.2.2.length : Int))) = true from (decide_eq_true hp1471), Bool.true_or] at h
                        refine xsetB 63 (decide_eq_true hp1471) rfl ?_
                        refine xskip rfl rfl ?_
                        refine xskip rfl rfl ?_
                        refine xskip rfl rfl ?_
                        refine xvalP (pv_pick rfl rfl) rfl rfl ?_
                        refine xvalP (pv_move rfl) rfl rfl ?_
                        refine xskip rfl rfl ?_
                        refine xskip rfl rfl ?_
                        refine xskip rfl rfl ?_
                        refine xvalP (pv_pick rfl rfl) rfl rfl ?_
                        refine xnil ?_
                        exact xmeet ⟨true, h, rfl⟩ ⟨(.cons rfl (.refl _) (.cons rfl (.refl _) (.cons rfl (.refl _) (.nil _)))), (SubM.of (.nil _) (.nil _))⟩
                      · rw [show (decide (0 < (y1387.2.2.length : Int))) = false from (decide_eq_false hp1471), Bool.false_or] at h
                        refine xsetB 63 (decide_eq_false hp1471) rfl ?_
                        refine xvalP (qv_fieldAddrB FldC.h rfl) rfl rfl ?_
                        refine xval (qv_loadB 0 ShpC.h rfl rfl rfl rfl) rfl rfl ?_
                        refine xvalP (pv_bin2 rfl rfl rfl) rfl rfl ?_
                        refine xvalP (pv_pick rfl rfl) rfl rfl ?_
                        refine xvalP (pv_move rfl) rfl rfl ?_
                        by_cases hp1473 : y1387.1 < 0
                        · rw [show (decide (y1387.1 < 0)) = true from (decide_eq_true hp1473), Bool.true_or] at h
                          refine xsetB 68 (decide_eq_true hp1473) rfl ?_
                          refine xskip rfl rfl ?_
                          refine xskip rfl rfl ?_
                          refine xskip rfl rfl ?_
                          refine xvalP (pv_pick rfl rfl) rfl rfl ?_
                          refine xnil ?_
                          exact xmeet ⟨true, h, rfl⟩ ⟨(.cons rfl (.refl _) (.cons rfl (.refl _) (.cons rfl (.refl _) (.nil _)))), (SubM.of (.nil _) (.nil _))⟩
                        · rw [show (decide (y1387.1 < 0)) = false from (decide_eq_false hp1473), Bool.false_or] at h
                          refine xsetB 68 (decide_eq_false hp1473) rfl ?_
                          refine xvalP (qv_fieldAddrB FldC.h rfl) rfl rfl ?_
                          refine xval (qv_loadB 0 ShpC.h rfl rfl rfl rfl) rfl rfl ?_
                          refine xvalP (pv_bin2 rfl rfl rfl) rfl rfl ?_
                          refine xvalP (pv_pick rfl rfl) rfl rfl ?_
                          refine xnil ?_
                          exact xmeet ⟨(decide (1 < y1387.1)), h, rfl⟩ ⟨(.cons rfl (.refl _) (.cons rfl (.refl _) (.cons rfl (.refl _) (.nil _)))), (SubM.of (.nil _) (.nil _))⟩
                · rw [show (decide (y1387.1 = 1)) = false from (decide_eq_false hp1464), cond_false] at h
                  refine xsetB 46 (decide_eq_false hp1464) rfl ?_
                  refine xskip rfl rfl ?_
                  refine xskip rfl rfl ?_
                  refine xskip rfl rfl ?_
                  refine xskip rfl rfl ?_
                  refine xskip rfl rfl ?_
                  refine xskip rfl rfl ?_
                  refine xskip rfl rfl ?_
                  refine xskip rfl rfl ?_
                  refine xskip rfl rfl ?_
                  refine xskip rfl rfl ?_
                  refine xskip rfl rfl ?_
                  refine xskip rfl rfl ?_
                  refine xskip rfl rfl ?_
                  refine xskip rfl rfl ?_
                  refine xvalP (pv_pick rfl rfl) rfl rfl ?_
                  refine xvalP (pv_pick rfl rfl) rfl rfl ?_
                  refine xvalP (pv_move rfl) rfl rfl ?_
                  refine xvalP (qv_fieldAddrB FldC.h rfl) rfl rfl ?_
                  refine xval (qv_loadB 0 ShpC.h rfl rfl rfl rfl) rfl rfl ?_
                  refine xvalP (pv_bin2 rfl rfl rfl) rfl rfl ?_
                  refine xvalP (pv_pick rfl rfl) rfl rfl ?_
                  refine xvalP (pv_move rfl) rfl rfl ?_
                  by_cases hp1476 : y1387.1 < 0
                  · rw [show (decide (y1387.1 < 0)) = true from (decide_eq_true hp1476), Bool.true_or] at h
                    refine xsetB 68 (decide_eq_true hp1476) rfl ?_
                    refine xskip rfl rfl ?_
                    refine xskip rfl rfl ?_
                    refine xskip rfl rfl ?_
                    refine xvalP (pv_pick rfl rfl) rfl rfl ?_
                    refine xnil ?_
                    exact xmeet ⟨true, h, rfl⟩ ⟨(.cons rfl (.refl _) (.cons rfl (.refl _) (.cons rfl (.refl _) (.nil _)))), (SubM.of (.nil _) (.nil _))⟩
                  · rw [show (decide (y1387.1 < 0)) = false from (decide_eq_false hp1476), Bool.false_or] at h
                    refine xsetB 68 (decide_eq_false hp1476) rfl ?_
                    refine xvalP (qv_fieldAddrB FldC.h rfl) rfl rfl ?_
                    refine xval (qv_loadB 0 ShpC.h rfl rfl rfl rfl) rfl rfl ?_
                    refine xvalP (pv_bin2 rfl rfl rfl) rfl rfl ?_
                    refine xvalP (pv_pick rfl rfl) rfl rfl ?_
                    refine xnil ?_
                    exact xmeet ⟨(decide (1 < y1387.1)), h, rfl⟩ ⟨(.cons rfl (.refl _) (.cons rfl (.refl _) (.cons rfl (.refl _) (.nil _)))), (SubM.of (.nil _) (.nil _))⟩
            · replace h := h.2 hp1457
              refine xsetB 31 (decide_eq_false hp1457) rfl ?_
              refine xskip rfl rfl ?_
              refine xskip rfl rfl ?_
              refine xskip rfl rfl ?_
              refine xskip rfl rfl ?_
              refine xskip rfl rfl ?_
              refine xskip rfl rfl ?_
              refine xskip rfl rfl ?_
              refine xvalP (pv_pick rfl rfl) rfl rfl ?_
              refine xvalP (pv_pick rfl rfl) rfl rfl ?_
              refine xvalP (pv_pick rfl rfl) rfl rfl ?_
              refine xvalP (pv_move rfl) rfl rfl ?_
              refine xvalP (qv_fieldAddrB FldC.h rfl) rfl rfl ?_
              refine xval (qv_loadB 0 ShpC.h rfl rfl rfl rfl) rfl rfl ?_
              refine xvalP (pv_bin2 rfl rfl rfl) rfl rfl ?_
              refine xvalP (pv_move rfl) rfl rfl ?_
              by_cases hp1479 : y1387.1 = 1
              · rw [show (decide (y1387.1 = 1)) = true from (decide_eq_true hp1479), cond_true] at h
                refine xsetB 46 (decide_eq_true hp1479) rfl ?_
                refine xvalP (qv_fieldAddrB FldC.h rfl) rfl rfl ?_
                refine xval (qv_loadB 0 ShpC.h rfl rfl rfl rfl) rfl rfl ?_
                refine xvalP (pv_bin2 rfl rfl rfl) rfl rfl ?_
                refine xvalP (pv_move rfl) rfl rfl ?_
                by_cases hp1481 : y1387.2.1 < 0
                · rw [show (decide (y1387.2.1 < 0)) = true from (decide_eq_true hp1481), Bool.true_or] at h
                  refine xsetB 50 (decide_eq_true hp1481) rfl ?_
                  refine xskip rfl rfl ?_
                  refine xskip rfl rfl ?_
                  refine xskip rfl rfl ?_
                  refine xvalP (pv_pick rfl rfl) rfl rfl ?_
                  refine xvalP (pv_move rfl) rfl rfl ?_
                  refine xskip rfl rfl ?_
                  refine xskip rfl rfl ?_
                  refine xskip rfl rfl ?_
                  refine xskip rfl rfl ?_
                  refine xvalP (pv_pick rfl rfl) rfl rfl ?_
                  refine xvalP (pv_pick rfl rfl) rfl rfl ?_
                  refine xvalP (pv_pick rfl rfl) rfl rfl ?_
                  refine xvalP (pv_move rfl) rfl rfl ?_
                  refine xskip rfl rfl ?_
                  refine xskip rfl rfl ?_
                  refine xskip rfl rfl ?_
                  refine xvalP (pv_pick rfl rfl) rfl rfl ?_
                  refine xvalP (pv_move rfl) rfl rfl ?_
                  refine xskip rfl rfl ?_
                  refine xskip rfl rfl ?_
                  refine xskip rfl rfl ?_
                  refine xvalP (pv_pick rfl rfl) rfl rfl ?_
                  refine xnil ?_
                  exact xmeet ⟨true, h, rfl⟩ ⟨(.cons rfl (.refl _) (.cons rfl (.refl _) (.cons rfl (.refl _) (.nil _)))), (SubM.of (.nil _) (.nil _))⟩
                · rw [show (decide (y1387.2.1 < 0)) = false from (decide_eq_false hp1481), Bool.false_or] at h
                  refine xsetB 50 (decide_eq_false hp1481) rfl ?_
                  refine xvalP (qv_fieldAddrB FldC.h rfl) rfl rfl ?_
                  refine xval (qv_loadB 0 ShpC.h rfl rfl rfl rfl) rfl rfl ?_
                  refine xvalP (pv_bin2 rfl rfl rfl) rfl rfl ?_
                  refine xvalP (pv_pick rfl rfl) rfl rfl ?_
                  refine xvalP (pv_move rfl) rfl rfl ?_
                  by_cases hp1483 : 9 < y1387.2.1
                  · rw [show (decide (9 < y1387.2.1)) = true from (decide_eq_true hp1483), Bool.true_or] at h
                    refine xsetB 55 (decide_eq_true hp1483) rfl ?_
                    refine xskip rfl rfl ?_
                    refine xskip rfl rfl ?_
                    refine xskip rfl rfl ?_
                    refine xskip rfl rfl ?_
                    refine xvalP (pv_pick rfl rfl) rfl rfl ?_
                    refine xvalP (pv_pick rfl rfl) rfl rfl ?_
                    refine xvalP (pv_pick rfl rfl) rfl rfl ?_
                    refine xvalP (pv_move rfl) rfl rfl ?_
                    refine xskip rfl rfl ?_
                    refine xskip rfl rfl ?_
                    refine xskip rfl rfl ?_
                    refine xvalP (pv_pick rfl rfl) rfl rfl ?_
                    refine xvalP (pv_move rfl) rfl rfl ?_
                    refine xskip rfl rfl ?_
                    refine xskip rfl rfl ?_
                    refine xskip rfl rfl ?_
                    refine xvalP (pv_pick rfl rfl) rfl rfl ?_
                    refine xnil ?_
                    exact xmeet ⟨true, h, rfl⟩ ⟨(.cons rfl (.refl _) (.cons rfl (.refl _) (.cons rfl (.refl _) (.nil _)))), (SubM.of (.nil _) (.nil _))⟩
                  · rw [show (decide (9 < y1387.2.1)) = false from (decide_eq_false hp1483), Bool.false_or] at h
                    refine xsetB 55 (decide_eq_false hp1483) rfl ?_
                    refine xvalP (qv_fieldAddrB FldC.h rfl) rfl rfl ?_
                    refine xval (qv_loadB 0 ShpC.h rfl rfl rfl rfl) rfl rfl ?_
                    refine xvalP (pv_lenM UndC.h rfl) rfl rfl ?_
                    refine xvalP (pv_bin2 rfl rfl rfl) rfl rfl ?_
                    refine xvalP (pv_pick rfl rfl) rfl rfl ?_
                    refine xvalP (pv_pick rfl rfl) rfl rfl ?_
                    refine xvalP (pv_pick rfl rfl) rfl rfl ?_
                    refine xvalP (pv_move rfl) rfl rfl ?_
                    by_cases hp1486 : 0 < (y1387.2.2.length : Int)
                    · rw [show (decide (0 < (y1387.2.2.length : Int))) = true from (decide_eq_true hp1486), Bool.true_or] at h
                      refine xsetB 63 (decide_eq_true hp1486) rfl ?_
                      refine xskip rfl rfl ?_
                      refine xskip rfl rfl ?_
                      refine xskip rfl rfl ?_
                      refine xvalP (pv_pick rfl rfl) rfl rfl ?_
                      refine xvalP (pv_move rfl) rfl rfl ?_
                      refine xskip rfl rfl ?_
                      refine xskip rfl rfl ?_
                      refine xskip rfl rfl ?_
                      refine xvalP (pv_pick rfl rfl) rfl rfl ?_
                      refine xnil ?_
                      exact xmeet ⟨true, h, rfl⟩ ⟨(.cons rfl (.refl _) (.cons rfl (.refl _) (.cons rfl (.refl _) (.nil _)))), (SubM.of (.nil _) (.nil _))⟩
                    · rw [show (decide (0 < (y1387.2.2.length : Int))) = false from (decide_eq_false hp1486), Bool.false_or] at h
                      refine xsetB 63 (decide_eq_false hp1486) rfl ?_
                      refine xvalP (qv_fieldAddrB FldC.h rfl) rfl rfl ?_
                      refine xval (qv_loadB 0 ShpC.h rfl rfl rfl rfl) rfl rfl ?_
                      refine xvalP (pv_bin2 rfl rfl rfl) rfl rfl ?_
                      refine xvalP (pv_pick rfl rfl) rfl rfl ?_
                      refine xvalP (pv_move rfl) rfl rfl ?_
                      by_cases hp1488 : y1387.1 < 0
                      · rw [show (decide (y1387.1 < 0)) = true from (decide_eq_true hp1488), Bool.true_or] at h
                        refine xsetB 68 (decide_eq_true hp1488) rfl ?_
                        refine xskip rfl rfl ?_
                        refine xskip rfl rfl ?_
                        refine xskip rfl rfl ?_
                        refine xvalP (pv_pick rfl rfl) rfl rfl ?_
                        refine xnil ?_
                        exact xmeet ⟨true, h, rfl⟩ ⟨(.cons rfl (.refl _) (.cons rfl (.refl _) (.cons rfl (.refl _) (.nil _)))), (SubM.of (.nil _) (.nil _))⟩
                      · rw [show (decide (y1387.1 < 0)) = false from (decide_eq_false hp1488), Bool.false_or] at h
                        refine xsetB 68 (decide_eq_false hp1488) rfl ?_
                        refine xvalP (qv_fieldAddrB FldC.h rfl) rfl rfl ?_
                        refine xval (qv_loadB 0 ShpC.h rfl rfl rfl rfl) rfl rfl ?_
                        refine xvalP (pv_bin2 rfl rfl rfl) rfl rfl ?_
                        refine xvalP (pv_pick rfl rfl) rfl rfl ?_
                        refine xnil ?_
                        exact xmeet ⟨(decide (1 < y1387.1)), h, rfl⟩ ⟨(.cons rfl (.refl _) (.cons rfl (.refl _) (.cons rfl (.refl _) (.nil _)))), (SubM.of (.nil _) (.nil _))⟩
              · rw [show (decide (y1387.1 = 1)) = false from (decide_eq_false hp1479), cond_false] at h
                refine xsetB 46 (decide_eq_false hp1479) rfl ?_
                refine xskip rfl rfl ?_
                refine xskip rfl rfl ?_
                refine xskip rfl rfl ?_
                refine xskip rfl rfl ?_
                refine xskip rfl rfl ?_
                refine xskip rfl rfl ?_
                refine xskip rfl rfl ?_
                refine xskip rfl rfl ?_
                refine xskip rfl rfl ?_
                refine xskip rfl rfl ?_
                refine xskip rfl rfl ?_
                refine xskip rfl rfl ?_
                refine xskip rfl rfl ?_
                refine xskip rfl rfl ?_
                refine xvalP (pv_pick rfl rfl) rfl rfl ?_
                refine xvalP (pv_pick rfl rfl) rfl rfl ?_
                refine xvalP (pv_move rfl) rfl rfl ?_
                refine xvalP (qv_fieldAddrB FldC.h rfl) rfl rfl ?_
                refine xval (qv_loadB 0 ShpC.h rfl rfl rfl rfl) rfl rfl ?_
                refine xvalP (pv_bin2 rfl rfl rfl) rfl rfl ?_
                refine xvalP (pv_pick rfl rfl) rfl rfl ?_
                refine xvalP (pv_move rfl) rfl rfl ?_
                by_cases hp1491 : y1387.1 < 0
                · rw [show (decide (y1387.1 < 0)) = true from (decide_eq_true hp1491), Bool.true_or] at h
                  refine xsetB 68 (decide_eq_true hp1491) rfl ?_
                  refine xskip rfl rfl ?_
                  refine xskip rfl rfl ?_
                  refine xskip rfl rfl ?_
                  refine xvalP (pv_pick rfl rfl) rfl rfl ?_
                  refine xnil ?_
                  exact xmeet ⟨true, h, rfl⟩ ⟨(.cons rfl (.refl _) (.cons rfl (.refl _) (.cons rfl (.refl _) (.nil _)))), (SubM.of (.nil _) (.nil _))⟩
                · rw [show (decide (y1387.1 < 0)) = false from (decide_eq_false hp1491), Bool.false_or] at h
                  refine xsetB 68 (decide_eq_false hp1491) rfl ?_
                  refine xvalP (qv_fieldAddrB FldC.h rfl) rfl rfl ?_
                  refine xval (qv_loadB 0 ShpC.h rfl rfl rfl rfl) rfl rfl ?_
                  refine xvalP (pv_bin2 rfl rfl rfl) rfl rfl ?_
                  refine xvalP (pv_pick rfl rfl) rfl rfl ?_
                  refine xnil ?_
                  exact xmeet ⟨(decide (1 < y1387.1)), h, rfl⟩ ⟨(.cons rfl (.refl _) (.cons rfl (.refl _) (.cons rfl (.refl _) (.nil _)))), (SubM.of (.nil _) (.nil _))⟩
      · replace h := h.2 hp1450
        refine xsetB 18 (decide_eq_false hp1450) rfl ?_
        refine xskip rfl rfl ?_
        refine xskip rfl rfl ?_
        refine xskip rfl rfl ?_
        refine xskip rfl rfl ?_
        refine xskip rfl rfl ?_
        refine xskip rfl rfl ?_
        refine xskip rfl rfl ?_
        refine xskip rfl rfl ?_
        refine xskip rfl rfl ?_
        refine xskip rfl rfl ?_
        refine xskip rfl rfl ?_
        refine xskip rfl rfl ?_
        refine xskip rfl rfl ?_
        refine xskip rfl rfl ?_
        refine xskip rfl rfl ?_
        refine xskip rfl rfl ?_
        refine xskip rfl rfl ?_
        refine xskip rfl rfl ?_
        refine xskip rfl rfl ?_
        refine xskip rfl rfl ?_
        refine xskip rfl rfl ?_
        refine xskip rfl rfl ?_
        refine xvalP (pv_pick rfl rfl) rfl rfl ?_
        refine xvalP (pv_move rfl) rfl rfl ?_
        refine xvalP (qv_fieldAddrB FldC.h rfl) rfl rfl ?_
        refine xval (qv_loadB 0 ShpC.h rfl rfl rfl rfl) rfl rfl ?_
        refine xvalP (pv_bin2 rfl rfl rfl) rfl rfl ?_
        refine xvalP (pv_move rfl) rfl rfl ?_
        by_cases hp1494 : y1387.1 = 1
        · rw [show (decide (y1387.1 = 1)) = true from (decide_eq_true hp1494), cond_true] at h
          refine xsetB 46 (decide_eq_true hp1494) rfl ?_
          refine xvalP (qv_fieldAddrB FldC.h rfl) rfl rfl ?_
          refine xval (qv_loadB 0 ShpC.h rfl rfl rfl rfl) rfl rfl ?_
          refine xvalP (pv_bin2 rfl rfl rfl) rfl rfl ?_
          refine xvalP (pv_move rfl) rfl rfl ?_
          by_cases hp1496 : y1387.2.1 < 0
          · rw [show (decide (y1387.2.1 < 0)) = true from (decide_eq_true hp1496), Bool.true_or] at h
            refine xsetB 50 (decide_eq_true hp1496) rfl ?_
            refine xskip rfl rfl ?_
            refine xskip rfl rfl ?_
            refine xskip rfl rfl ?_
            refine xvalP (pv_pick rfl rfl) rfl rfl ?_
            refine xvalP (pv_move rfl) rfl rfl ?_
            refine xskip rfl rfl ?_
            refine xskip rfl rfl ?_
            refine xskip rfl rfl ?_
            refine xskip rfl rfl ?_
            refine xvalP (pv_pick rfl rfl) rfl rfl ?_
            refine xvalP (pv_pick rfl rfl) rfl rfl ?_
            refine xvalP (pv_pick rfl rfl) rfl rfl ?_
            refine xvalP (pv_move rfl) rfl rfl ?_
            refine xskip rfl rfl ?_
            refine xskip rfl rfl ?_
            refine xskip rfl rfl ?_
            refine xvalP (pv_pick rfl rfl) rfl rfl ?_
            refine xvalP (pv_move rfl) rfl rfl ?_
            refine xskip rfl rfl ?_
            refine xskip rfl rfl ?_
            refine xskip rfl rfl ?_
            refine xvalP (pv_pick rfl rfl) rfl rfl ?_
            refine xnil ?_
            exact xmeet ⟨true, h, rfl⟩ ⟨(.cons rfl (.refl _) (.cons rfl (.refl _) (.cons rfl (.refl _) (.nil _)))), (SubM.of (.nil _) (.nil _))⟩
          · rw [show (decide (y1387.2.1 < 0)) = false from (decide_eq_false hp1496), Bool.false_or] at h
            refine xsetB 50 (decide_eq_false hp1496) rfl ?_
            refine xvalP (qv_fieldAddrB FldC.h rfl) rfl rfl ?_
            refine xval (qv_loadB 0 ShpC.h rfl rfl rfl rfl) rfl rfl ?_
            refine xvalP (pv_bin2 rfl rfl rfl) rfl rfl ?_
            refine xvalP (pv_pick rfl rfl) rfl rfl ?_
            refine xvalP (pv_move rfl) rfl rfl ?_
            by_cases hp1498 : 9 < y1387.2.1
            · rw [show (decide (9 < y1387.2.1)) = true from (decide_eq_true hp1498), Bool.true_or] at h
              refine xsetB 55 (decide_eq_true hp1498) rfl ?_
              refine xskip rfl rfl ?_
              refine xskip rfl rfl ?_
              refine xskip rfl rfl ?_
              refine xskip rfl rfl ?_
              refine xvalP (pv_pick rfl rfl) rfl rfl ?_
              refine xvalP (pv_pick rfl rfl) rfl rfl ?_
              refine xvalP (pv_pick rfl rfl) rfl rfl ?_
              refine xvalP (pv_move rfl) rfl rfl ?_
              refine xskip rfl rfl ?_
              refine xskip rfl rfl ?_
              refine xskip rfl rfl ?_
              refine xvalP (pv_pick rfl rfl) rfl rfl ?_
              refine xvalP (pv_move rfl) rfl rfl ?_
              refine xskip rfl rfl ?_
              refine xskip rfl rfl ?_
              refine xskip rfl rfl ?_
              refine xvalP (pv_pick rfl rfl) rfl rfl ?_
              refine xnil ?_
              exact xmeet ⟨true, h, rfl⟩ ⟨(.cons rfl (.refl _) (.cons rfl (.refl _) (.cons rfl (.refl _) (.nil _)))), (SubM.of (.nil _) (.nil _))⟩
            · rw [show (decide (9 < y1387.2.1)) = false from (decide_eq_false hp1498), Bool.false_or] at h
              refine xsetB 55 (decide_eq_false hp1498) rfl ?_
              refine xvalP (qv_fieldAddrB FldC.h rfl) rfl rfl ?_
              refine xval (qv_loadB 0 ShpC.h rfl rfl rfl rfl) rfl rfl ?_
              refine xvalP (pv_lenM UndC.h rfl) rfl rfl ?_
              refine xvalP (pv_bin2 rfl rfl rfl) rfl rfl ?_
              refine xvalP (pv_pick rfl rfl) rfl rfl ?_
              refine xvalP (pv_pick rfl rfl) rfl rfl ?_
              refine xvalP (pv_pick rfl rfl) rfl rfl ?_
              refine xvalP (pv_move rfl) rfl rfl ?_
              by_cases hp1501 : 0 < (y1387.2.2.length : Int)
              · rw [show (decide (0 < (y1387.2.2.length : Int))) = true from (decide_eq_true hp1501), Bool.true_or] at h
                refine xsetB 63 (decide_eq_true hp1501) rfl ?_
                refine xskip rfl rfl ?_
                refine xskip rfl rfl ?_
                refine xskip rfl rfl ?_
                refine xvalP (pv_pick rfl rfl) rfl rfl ?_
                refine xvalP (pv_move rfl) rfl rfl ?_
                refine xskip rfl rfl ?_
                refine xskip rfl rfl ?_
                refine xskip rfl rfl ?_
                refine xvalP (pv_pick rfl rfl) rfl rfl ?_
                refine xnil ?_
                exact xmeet ⟨true, h, rfl⟩ ⟨(.cons rfl (.refl _) (.cons rfl (.refl _) (.cons rfl (.refl _) (.nil _)))), (SubM.of (.nil _) (.nil _))⟩
              · rw [show (decide (0 < (y1387.2.2.length : Int))) = false from (decide_eq_false hp1501), Bool.false_or] at h
                refine xsetB 63 (decide_eq_false hp1501) rfl ?_
                refine xvalP (qv_fieldAddrB FldC.h rfl) rfl rfl ?_
                refine xval (qv_loadB 0 ShpC.h rfl rfl rfl rfl) rfl rfl ?_
                refine xvalP (pv_bin2 rfl rfl rfl) rfl rfl ?_
                refine xvalP (pv_pick rfl rfl) rfl rfl ?_
                refine xvalP (pv_move rfl) rfl rfl ?_
                by_cases hp1503 : y1387.1 < 0
                · rw [show (decide (y1387.1 < 0)) = true from (decide_eq_true hp1503), Bool.true_or] at h
                  refine xsetB 68 (decide_eq_true hp1503) rfl ?_
                  refine xskip rfl rfl ?_
                  refine xskip rfl rfl ?_
                  refine xskip rfl rfl ?_
                  refine xvalP (pv_pick rfl rfl) rfl rfl ?_
                  refine xnil ?_
                  exact xmeet ⟨true, h, rfl⟩ ⟨(.cons rfl (.refl _) (.cons rfl (.refl _) (.cons rfl (.refl _) (.nil _)))), (SubM.of (.nil _) (.nil _))⟩
                · rw [show (decide (y1387.1 < 0)) = false from (decide_eq_false hp1503), Bool.false_or] at h
                  refine xsetB 68 (decide_eq_false hp1503) rfl ?_
                  refine xvalP (qv_fieldAddrB FldC.h rfl) rfl rfl ?_
                  refine xval (qv_loadB 0 ShpC.h rfl rfl rfl rfl) rfl rfl ?_
                  refine xvalP (pv_bin2 rfl rfl rfl) rfl rfl ?_
                  refine xvalP (pv_pick rfl rfl) rfl rfl ?_
                  refine xnil ?_
                  exact xmeet ⟨(decide (1 < y1387.1)), h, rfl⟩ ⟨(.cons rfl (.refl _) (.cons rfl (.refl _) (.cons rfl (.refl _) (.nil _)))), (SubM.of (.nil _) (.nil _))⟩
        · rw [show (decide (y1387.1 = 1)) = false from (decide_eq_false hp1494), cond_false] at h
          refine xsetB 46 (decide_eq_false hp1494) rfl ?_
          refine xskip rfl rfl ?_
          refine xskip rfl rfl ?_
          refine xskip rfl rfl ?_
          refine xskip rfl rfl ?_
          refine xskip rfl rfl ?_
          refine xskip rfl rfl ?_
          refine xskip rfl rfl ?_
          refine xskip rfl rfl ?_
          refine xskip rfl rfl ?_
          refine xskip rfl rfl ?_
          refine xskip rfl rfl ?_
          refine xskip rfl rfl ?_
          refine xskip rfl rfl ?_
          refine xskip rfl rfl ?_
          refine xvalP (pv_pick rfl rfl) rfl rfl ?_
          refine xvalP (pv_pick rfl rfl) rfl rfl ?_
          refine xvalP (pv_move rfl) rfl rfl ?_
          refine xvalP (qv_fieldAddrB FldC.h rfl) rfl rfl ?_
          refine xval (qv_loadB 0 ShpC.h rfl rfl rfl rfl) rfl rfl ?_
          refine xvalP (pv_bin2 rfl rfl rfl) rfl rfl ?_
          refine xvalP (pv_pick rfl rfl) rfl rfl ?_
          refine xvalP (pv_move rfl) rfl rfl ?_
          by_cases hp1506 : y1387.1 < 0
          · rw [show (decide (y1387.1 < 0)) = true from (decide_eq_true hp1506), Bool.true_or] at h
            refine xsetB 68 (decide_eq_true hp1506) rfl ?_
            refine xskip rfl rfl ?_
            refine xskip rfl rfl ?_
            refine xskip rfl rfl ?_
            refine xvalP (pv_pick rfl rfl) rfl rfl ?_
            refine xnil ?_
            exact xmeet ⟨true, h, rfl⟩ ⟨(.cons rfl (.refl _) (.cons rfl (.refl _) (.cons rfl (.refl _) (.nil _)))), (SubM.of (.nil _) (.nil _))⟩
          · rw [show (decide (y1387.1 < 0)) = false from (decide_eq_false hp1506), Bool.false_or] at h
            refine xsetB 68 (decide_eq_false hp1506) rfl ?_
            refine xvalP (qv_fieldAddrB FldC.h rfl) rfl rfl ?_
            refine xval (qv_loadB 0 ShpC.h rfl rfl rfl rfl) rfl rfl ?_
            refine xvalP (pv_bin2 rfl rfl rfl) rfl rfl ?_
            refine xvalP (pv_pick rfl rfl) rfl rfl ?_
            refine xnil ?_
            exact xmeet ⟨(decide (1 < y1387.1)), h, rfl⟩ ⟨(.cons rfl (.refl _) (.cons rfl (.refl _) (.cons rfl (.refl _) (.nil _)))), (SubM.of (.nil _) (.nil _))⟩
    · clear h
      rintro _ ⟨x1448, h, rfl⟩
      by_cases hp1508 : x1448 = true
      · replace h := h.1 hp1508
        refine xcondT' hp1508 rfl ?_
        refine xseq ?_
        refine xregion ?_
        refine xvalP (pv_assign rfl) rfl rfl ?_
        refine xnil ?_
        refine xthen ?_
        refine xretc ?_
        refine xin_ret ?_
        refine xthen_ret ?_
        refine xthen_ret ?_
        refine xin_ret ?_
        refine xthen_ret ?_
        replace h := h.symm
        subst h
        exact xret1 hg rfl rfl (.refl _) (SubM.of (.nil _) (.nil _)) ⟨rfl, rfl, rfl⟩
      · replace h := h.2 hp1508
        refine xcondF' (b_f hp1508) rfl ?_
        refine xskipc ?_
        refine xin_normal ?_
        refine xthen ?_
        refine xregion ?_
        refine xvalP (pv_move rfl) rfl rfl ?_
        obtain ⟨h1509, h⟩ := h
        refine xvalP (pv_addI h1509 rfl rfl) rfl rfl ?_
        refine xvalP (pv_assign rfl) rfl rfl ?_
        refine xnil ?_
        obtain ⟨m', hm, hI⟩ := hag1 _ h
        exact xagain ⟨(x1007 + 1), hI, rfl⟩ hm ⟨(.cons rfl (.refl _) (.cons rfl (.refl _) (.nil _))), (SubM.of (.nil _) (.nil _))⟩
  · replace h := h.2 hp1264
    refine xcondF' (decide_eq_false hp1264) rfl ?_
    refine xexit ?_
    refine xthen_exit ?_
    refine xthen_exit ?_
    refine xin_same rfl ?_
    refine xthen ?_
    refine xseq ?_
    refine xregion ?_
    refine xvalP (pv_assign rfl) rfl rfl ?_
    refine xnil ?_
    refine xthen ?_
    refine xretc ?_
    replace h := h.symm
    subst h
    exact xret1 hg rfl rfl (.refl _) (SubM.of (.nil _) (.nil _)) ⟨rfl, rfl, rfl⟩
/-- swap.Text -/
def swap_Text_j4 (y3106 : UInt8) (x2996 : Int) (ag3 : ((List UInt8) × Int) → Prop) (out3122 : List UInt8) (r : (List UInt8)) : Prop :=
  Room (out3122.length + ([y3106]).length) 1 ∧ InR (x2996 + 1) ∧ ag3 ((out3122 ++ [y3106]), (x2996 + 1))
def swap_Text_j5 (out2994 : List UInt8) (y3106 : UInt8) (x2996 : Int) (ag3 : ((List UInt8) × Int) → Prop) (x3129 : Bool) (r : (List UInt8)) : Prop :=
  ((x3129 = true → Room (out2994.length + ([(92 : UInt8)]).length) 1 ∧ swap_Text_j4 y3106 x2996 ag3 (out2994 ++ [(92 : UInt8)]) r) ∧ (¬ (x3129 = true) → swap_Text_j4 y3106 x2996 ag3 out2994 r))
def swap_Text_l3 (y2881 : Int × Int × (List UInt8)) (x2097 : Int) (ag1 : ((List UInt8) × Int) → Prop) (ag3 : ((List UInt8) × Int) → Prop) (out2994 : List UInt8) (x2996 : Int) (r : (List UInt8)) : Prop :=
  ((x2996 < (y2881.2.2.length : Int) → 0 ≤ (x2996 : Int) ∧ ∃ y3106 : UInt8, y2881.2.2[(x2996 : Int).toNat]? = some y3106 ∧ swap_Text_j5 out2994 y3106 x2996 ag3 ((decide ((y3106.toNat : Int) = 38)) || ((decide ((y3106.toNat : Int) = 92)) || (decide ((y3106.toNat : Int) = 10)))) r) ∧ (¬ (x2996 < (y2881.2.2.length : Int)) → InR (x2097 + 1) ∧ ag1 (out2994, (x2097 + 1))))
def swap_Text_j2 (out2095 : List UInt8) (x2097 : Int) (ag1 : ((List UInt8) × Int) → Prop) (y2881 : Int × Int × (List UInt8)) (x2896 : Bool) (r : (List UInt8)) : Prop :=
  ((x2896 = true → Room (out2095.length + ([(38 : UInt8)]).length) 1 ∧ InR (x2097 + 1) ∧ ag1 ((out2095 ++ [(38 : UInt8)]), (x2097 + 1))) ∧ (¬ (x2896 = true) → ((y2881.1 = 1 → ∃ c2915 : UInt8, (c2915.toNat : Int) = IntKind.u8.wrap y2881.2.1 ∧ ∃ c2917 : UInt8, (c2917.toNat : Int) = IntKind.u8.wrap (48 + (c2915.toNat : Int)) ∧ Room (out2095.length + ([(92 : UInt8), c2917]).length) 1 ∧ InR (x2097 + 1) ∧ ag1 ((out2095 ++ [(92 : UInt8), c2917]), (x2097 + 1))) ∧ (¬ (y2881.1 = 1) → LoopR (fun ag3 s => swap_Text_l3 y2881 x2097 ag1 ag3 s.1 s.2 r) (out2095, 0)))))
def swap_Text_l1 (l1 : List (Int × Int × (List UInt8))) (ag1 : ((List UInt8) × Int) → Prop) (out2095 : List UInt8) (x2097 : Int) (r : (List UInt8)) : Prop :=
  ((x2097 < (l1.length : Int) → 0 ≤ (x2097 : Int) ∧ ∃ y2881 : Int × Int × (List UInt8), l1[(x2097 : Int).toNat]? = some y2881 ∧ swap_Text_j2 out2095 x2097 ag1 y2881 ((decide (y2881.1 = 1)) && (decide (y2881.2.1 = 0))) r) ∧ (¬ (x2097 < (l1.length : Int)) → r = out2095))
def swap_Text_R (l1 : List (Int × Int × (List UInt8))) (r : (List UInt8)) : Prop :=
  LoopR (fun ag1 s => swap_Text_l1 l1 ag1 s.1 s.2 r) (([] : List UInt8), 0)
set_option maxHeartbeats 4000000 in
theorem swap_Text_con (l1 : List (Int × Int × (List UInt8))) (r : (List UInt8)) (h : swap_Text_R l1 r) : Con Try.prog 15 [.sl 3 none (List.map E_palinode_api_Part l1)] [] [] (RetM 1 5 eb r) := by
  refine xenter Try.func15 rfl rfl fun g hg => ?_
  simp only [Try.ntmps15, slots]
  refine xseq ?_
  refine xregion ?_
  refine xvalP (pv_assign rfl) rfl rfl ?_
  refine xnil ?_
  refine xthen ?_
  refine xseq ?_
  refine xregion ?_
  refine xvalP (pv_assign rfl) rfl rfl ?_
  refine xnil ?_
  refine xthen ?_
  refine xseq ?_
  refine xseq ?_
  refine xregion ?_
  refine xvalP (pv_move rfl) rfl rfl ?_
  refine xvalP (pv_lenM UndC.h rfl) rfl rfl ?_
  refine xvalP (pv_move rfl) rfl rfl ?_
  refine xnil ?_
  refine xthen ?_
  refine xblock ?_
  obtain ⟨Inv, ⟨m0, hI⟩, hS⟩ := h
  refine xloop (fun σ m => ∃ (out2095 : List UInt8), ∃ (x2097 : Int), ∃ (i2096 : Option (Nat × Nat)), Inv (out2095, x2097) m ∧ σ = ⟨[(3, .sl 1 (some i2096) (List.map eb out2095)), (8, .sl 3 none (List.map E_palinode_api_Part l1)), (9, .v (.int .i64 ((l1.length : Int)))), (10, .v (.int .i64 x2097))], [], [⟨i2096, 5, 1, out2095.length⟩]⟩) ⟨([] : List UInt8), 0, none, hI, rfl⟩ ⟨(.cons rfl (.nil_own _) (.cons rfl (.refl _) (.cons rfl (.refl _) (.cons rfl (.refl _) (.nil _))))), (SubM.of (.nil _) (.add (.nil _)))⟩ ?_
  rintro _ m ⟨out2095, x2097, i2096, hI, rfl⟩
  obtain ⟨ag1, hag1, h⟩ : ∃ ag, (∀ s', ag s' → ∃ m', m' < m ∧ Inv s' m') ∧ swap_Text_l1 l1 ag out2095 x2097 r := ⟨_, fun _ h => h, hS (out2095, x2097) _ hI⟩
  clear hS hI
  refine xseq ?_
  refine xregion ?_
  refine xvalP (pv_bin2 rfl rfl rfl) rfl rfl ?_
  refine xnil ?_
  refine xthen ?_
  refine xseq ?_
  by_cases hp2622 : x2097 < (l1.length : Int)
  · replace h := h.1 hp2622
    refine xcondT' (decide_eq_true hp2622) rfl ?_
    refine xskipc ?_
    refine xthen ?_
    refine xseq ?_
    refine xblock ?_
    refine xseq ?_
    refine xregion ?_
    obtain ⟨h2882a, h⟩ := h
    obtain ⟨y2881, h2882b, h⟩ := h
    refine xvalP (pv_indexAddrM h2882a h2882b UndC.h ShpC.h rfl rfl) rfl rfl ?_
    refine xval (qv_load ShpC.h rfl rfl rfl) rfl rfl ?_
    refine xalloc InfC.h rfl rfl fun b5 => ?_
    refine xstore 0 ShpC.h rfl rfl rfl rfl rfl rfl rfl ?_
    refine xnil ?_
    refine xthen ?_
    refine xseq ?_
    refine xseqM (fun σ => ∃ (x2896 : Bool), swap_Text_j2 out2095 x2097 ag1 y2881 x2896 r ∧ σ = ⟨[(3, .sl 1 (some i2096) (List.map eb out2095)), (5, .v (.pointer (some ⟨b5, 0, none⟩))), (8, .sl 3 none (List.map E_palinode_api_Part l1)), (9, .v (.int .i64 ((l1.length : Int)))), (10, .v (.int .i64 x2097)), (21, .v (.bool x2896))], [⟨b5, 37, [.v (.int .i64 y2881.1), .v (.int .i64 y2881.2.1), .sl 1 none (List.map eb y2881.2.2)]⟩], [⟨i2096, 5, 1, out2095.length⟩]⟩) ?_ ?_
    · refine xregion ?_
      refine xvalP (qv_fieldAddrB FldC.h rfl) rfl rfl ?_
      refine xval (qv_loadB 0 ShpC.h rfl rfl rfl rfl) rfl rfl ?_
      refine xvalP (pv_bin2 rfl rfl rfl) rfl rfl ?_
      refine xvalP (pv_move rfl) rfl rfl ?_
      by_cases hp2898 : y2881.1 = 1
      · rw [show (decide (y2881.1 = 1)) = true from (decide_eq_true hp2898), Bool.true_and] at h
        refine xsetB 17 (decide_eq_true hp2898) rfl ?_
        refine xvalP (qv_fieldAddrB FldC.h rfl) rfl rfl ?_
        refine xval (qv_loadB 0 ShpC.h rfl rfl rfl rfl) rfl rfl ?_
        refine xvalP (pv_bin2 rfl rfl rfl) rfl rfl ?_
        refine xvalP (pv_pick rfl rfl) rfl rfl ?_
        refine xnil ?_
        exact xmeet ⟨(decide (y2881.2.1 = 0)), h, rfl⟩ ⟨(.cons rfl (.refl _) (.cons rfl (.refl _) (.cons rfl (.refl _) (.cons rfl (.refl _) (.cons rfl (.refl _) (.cons rfl (.refl _) (.nil _))))))), (SubM.of (.keep rfl rfl (.refl _) (.nil _)) (.keep rfl (.nil _)))⟩
      · rw [show (decide (y2881.1 = 1)) = false from (decide_eq_false hp2898), Bool.false_and] at h
        refine xsetB 17 (decide_eq_false hp2898) rfl ?_
        refine xskip rfl rfl ?_
        refine xskip rfl rfl ?_
        refine xskip rfl rfl ?_
        refine xvalP (pv_pick rfl rfl) rfl rfl ?_
        refine xnil ?_
        exact xmeet ⟨false, h, rfl⟩ ⟨(.cons rfl (.refl _) (.cons rfl (.refl _) (.cons rfl (.refl _) (.cons rfl (.refl _) (.cons rfl (.refl _) (.cons rfl (.refl _) (.nil _))))))), (SubM.of (.keep rfl rfl (.refl _) (.nil _)) (.keep rfl (.nil _)))⟩
    · clear h
      rintro _ ⟨x2896, h, rfl⟩
      by_cases hp2900 : x2896 = true
      · replace h := h.1 hp2900
        refine xcondT' hp2900 rfl ?_
        refine xseq ?_
        refine xregion ?_
        refine xvalP (pv_move rfl) rfl rfl ?_
        refine xbuildSliceM (f := eb) [(38 : UInt8)] UndC.h InfC.h rfl rfl (by first | exact wkR_of rfl | (repeat (first | exact WkR.nil | refine WkR.cons (by (repeat (first | exact WkL.nil | refine WkL.cons (by first | with_reducible exact Wk.refl _ | exact Wk.nil_own _ | exact Wk.nil_pl _ | with_reducible exact Wk.tok _ _ _ | exact Wk.tok _ _ _ | exact Wk.eq (by first | rfl | (simp []; done) | (simp []; omega))) ?_))) ?_))) rfl rfl rfl rfl fun s23 => ?_
        obtain ⟨h2901, h⟩ := h
        refine xappendM (l := out2095) (l2 := [(38 : UInt8)]) 1 h2901 UndC.h InfC.h rfl rfl rfl (.refl _) rfl rfl rfl fun i2902 => ?_
        refine xvalP (pv_assign rfl) rfl rfl ?_
        refine xnil ?_
        refine xthen ?_
        refine xexit ?_
        refine xthen_exit ?_
        refine xin_same rfl ?_
        refine xthen ?_
        refine xregion ?_
        obtain ⟨h2903, h⟩ := h
        refine xvalP (pv_addI h2903 rfl rfl) rfl rfl ?_
        refine xvalP (pv_move rfl) rfl rfl ?_
        refine xnil ?_
        obtain ⟨m', hm, hI⟩ := hag1 _ h
        exact xagain ⟨(out2095 ++ [(38 : UInt8)]), (x2097 + 1), i2902, hI, rfl⟩ hm ⟨(.cons rfl (.refl _) (.cons rfl (.refl _) (.cons rfl (.refl _) (.cons rfl (.refl _) (.nil _))))), (SubM.of (.nil _) (.drop (.keep rfl (.nil _))))⟩
      · replace h := h.2 hp2900
        refine xcondF' (b_f hp2900) rfl ?_
        refine xskipc ?_
        refine xthen ?_
        refine xseq ?_
        refine xseq ?_
        refine xregion ?_
        refine xvalP (qv_fieldAddrB FldC.h rfl) rfl rfl ?_
        refine xval (qv_loadB 0 ShpC.h rfl rfl rfl rfl) rfl rfl ?_
        refine xvalP (pv_bin2 rfl rfl rfl) rfl rfl ?_
        refine xnil ?_
        refine xthen ?_
        by_cases hp2913 : y2881.1 = 1
        · replace h := h.1 hp2913
          refine xcondT' (decide_eq_true hp2913) rfl ?_
          refine xseq ?_
          refine xregion ?_
          refine xvalP (pv_move rfl) rfl rfl ?_
          refine xvalP (qv_fieldAddrB FldC.h rfl) rfl rfl ?_
          refine xval (qv_loadB 0 ShpC.h rfl rfl rfl rfl) rfl rfl ?_
          obtain ⟨c2915, h2914, h⟩ := h
          refine xvalP (pv_convW h2914 UndC.h UndC.h rfl) rfl rfl ?_
          obtain ⟨c2917, h2916, h⟩ := h
          refine xvalP (pv_wr h2916 rfl rfl rfl) rfl rfl ?_
          refine xbuildSliceM (f := eb) [(92 : UInt8), c2917] UndC.h InfC.h rfl rfl (by first | exact wkR_of rfl | (repeat (first | exact WkR.nil | refine WkR.cons (by (repeat (first | exact WkL.nil | refine WkL.cons (by first | with_reducible exact Wk.refl _ | exact Wk.nil_own _ | exact Wk.nil_pl _ | with_reducible exact Wk.tok _ _ _ | exact Wk.tok _ _ _ | exact Wk.eq (by first | rfl | (simp []; done) | (simp []; omega))) ?_))) ?_))) rfl rfl rfl rfl fun s33 => ?_
          obtain ⟨h2918, h⟩ := h
          refine xappendM (l := out2095) (l2 := [(92 : UInt8), c2917]) 1 h2918 UndC.h InfC.h rfl rfl rfl (.refl _) rfl rfl rfl fun i2919 => ?_
          refine xvalP (pv_assign rfl) rfl rfl ?_
          refine xnil ?_
          refine xthen ?_
          refine xexit ?_
          refine xthen_exit ?_
          refine xin_same rfl ?_
          refine xthen ?_
          refine xregion ?_
          obtain ⟨h2920, h⟩ := h
          refine xvalP (pv_addI h2920 rfl rfl) rfl rfl ?_
          refine xvalP (pv_move rfl) rfl rfl ?_
          refine xnil ?_
          obtain ⟨m', hm, hI⟩ := hag1 _ h
          exact xagain ⟨(out2095 ++ [(92 : UInt8), c2917]), (x2097 + 1), i2919, hI, rfl⟩ hm ⟨(.cons rfl (.refl _) (.cons rfl (.refl _) (.cons rfl (.refl _) (.cons rfl (.refl _) (.nil _))))), (SubM.of (.nil _) (.drop (.keep rfl (.nil _))))⟩
        · replace h := h.2 hp2913
          refine xcondF' (decide_eq_false hp2913) rfl ?_
          refine xskipc ?_
          refine xthen ?_
          refine xseq ?_
          refine xregion ?_
          refine xvalP (qv_fieldAddrB FldC.h rfl) rfl rfl ?_
          refine xval (qv_loadB 0 ShpC.h rfl rfl rfl rfl) rfl rfl ?_
          refine xvalP (pv_lenM UndC.h rfl) rfl rfl ?_
          refine xvalP (pv_move rfl) rfl rfl ?_
          refine xnil ?_
          refine xthen ?_
          refine xblock ?_
          obtain ⟨Inv, ⟨m0, hI⟩, hS⟩ := h
          refine xloop (fun σ m => ∃ (out2994 : List UInt8), ∃ (x2996 : Int), ∃ (i2995 : Option (Nat × Nat)), Inv (out2994, x2996) m ∧ σ = ⟨[(3, .sl 1 (some i2995) (List.map eb out2994)), (8, .sl 3 none (List.map E_palinode_api_Part l1)), (9, .v (.int .i64 ((l1.length : Int)))), (10, .v (.int .i64 x2097)), (36, .sl 1 none (List.map eb y2881.2.2)), (37, .v (.int .i64 ((y2881.2.2.length : Int)))), (38, .v (.int .i64 x2996))], [], [⟨i2995, 5, 1, out2994.length⟩]⟩) ⟨out2095, 0, i2096, hI, rfl⟩ ⟨(.cons rfl (.refl _) (.cons rfl (.refl _) (.cons rfl (.refl _) (.cons rfl (.refl _) (.cons rfl (.refl _) (.cons rfl (.refl _) (.cons rfl (.refl _) (.nil _)))))))), (SubM.of (.nil _) (.keep rfl (.nil _)))⟩ ?_
          rintro _ m ⟨out2994, x2996, i2995, hI, rfl⟩
          obtain ⟨ag3, hag3, h⟩ : ∃ ag, (∀ s', ag s' → ∃ m', m' < m ∧ Inv s' m') ∧ swap_Text_l3 y2881 x2097 ag1 ag out2994 x2996 r := ⟨_, fun _ h => h, hS (out2994, x2996) _ hI⟩
          clear hS hI
          refine xseq ?_
          refine xregion ?_
          refine xvalP (pv_bin2 rfl rfl rfl) rfl rfl ?_
          refine xnil ?_
          refine xthen ?_
          refine xseq ?_
          by_cases hp3071 : x2996 < (y2881.2.2.length : Int)
          · replace h := h.1 hp3071
            refine xcondT' (decide_eq_true hp3071) rfl ?_
            refine xskipc ?_
            refine xthen ?_
            refine xseq ?_
            refine xblock ?_
            refine xseq ?_
            refine xregion ?_
            obtain ⟨h3107a, h⟩ := h
            obtain ⟨y3106, h3107b, h⟩ := h
            refine xvalP (pv_indexAddrM h3107a h3107b UndC.h ShpC.h rfl rfl) rfl rfl ?_
            refine xval (qv_load ShpC.h rfl rfl rfl) rfl rfl ?_
            refine xvalP (pv_assign rfl) rfl rfl ?_
            refine xnil ?_
            refine xthen ?_
            refine xseqM (fun σ => ∃ (out3122 : List UInt8), ∃ (i3123 : Option (Nat × Nat)), swap_Text_j4 y3106 x2996 ag3 out3122 r ∧ σ = ⟨[(3, .sl 1 (some i3123) (List.map eb out3122)), (7, .v (.int .u8 ((y3106.toNat : Int)))), (8, .sl 3 none (List.map E_palinode_api_Part l1)), (9, .v (.int .i64 ((l1.length : Int)))), (10, .v (.int .i64 x2097)), (36, .sl 1 none (List.map eb y2881.2.2)), (37, .v (.int .i64 ((y2881.2.2.length : Int)))), (38, .v (.int .i64 x2996))], [], [⟨i3123, 5, 1, out3122.length⟩]⟩) ?_ ?_
            · refine xseqM (fun σ => ∃ (x3129 : Bool), swap_Text_j5 out2994 y3106 x2996 ag3 x3129 r ∧ σ = ⟨[(3, .sl 1 (some i2995) (List.map eb out2994)), (7, .v (.int .u8 ((y3106.toNat : Int)))), (8, .sl 3 none (List.map E_palinode_api_Part l1)), (9, .v (.int .i64 ((l1.length : Int)))), (10, .v (.int .i64 x2097)), (36, .sl 1 none (List.map eb y2881.2.2)), (37, .v (.int .i64 ((y2881.2.2.length : Int)))), (38, .v (.int .i64 x2996)), (51, .v (.bool x3129))], [], [⟨i2995, 5, 1, out2994.length⟩]⟩) ?_ ?_
              · refine xregion ?_
                refine xvalP (pv_move rfl) rfl rfl ?_
                refine xvalP (pv_bin2 rfl rfl rfl) rfl rfl ?_
                refine xvalP (pv_move rfl) rfl rfl ?_
                by_cases hp3131 : (y3106.toNat : Int) = 38
                · rw [show (decide ((y3106.toNat : Int) = 38)) = true from (decide_eq_true hp3131), Bool.true_or] at h
                  refine xsetB 44 (decide_eq_true hp3131) rfl ?_
                  refine xskip rfl rfl ?_
                  refine xskip rfl rfl ?_
                  refine xvalP (pv_pick rfl rfl) rfl rfl ?_
                  refine xvalP (pv_move rfl) rfl rfl ?_
                  refine xskip rfl rfl ?_
                  refine xskip rfl rfl ?_
                  refine xvalP (pv_pick rfl rfl) rfl rfl ?_
                  refine xnil ?_
                  exact xmeet ⟨true, h, rfl⟩ ⟨(.cons rfl (.refl _) (.cons rfl (.refl _) (.cons rfl (.refl _) (.cons rfl (.refl _) (.cons rfl (.refl _) (.cons rfl (.refl _) (.cons rfl (.refl _) (.cons rfl (.refl _) (.cons rfl (.refl _) (.nil _)))))))))), (SubM.of (.nil _) (.keep rfl (.nil _)))⟩
                · rw [show (decide ((y3106.toNat : Int) = 38)) = false from (decide_eq_false hp3131), Bool.false_or] at h
                  refine xsetB 44 (decide_eq_false hp3131) rfl ?_
                  refine xvalP (pv_move rfl) rfl rfl ?_
                  refine xvalP (pv_bin2 rfl rfl rfl) rfl rfl ?_
                  refine xvalP (pv_pick rfl rfl) rfl rfl ?_
                  refine xvalP (pv_move rfl) rfl rfl ?_
                  by_cases hp3133 : (y3106.toNat : Int) = 92
                  · rw [show (decide ((y3106.toNat : Int) = 92)) = true from (decide_eq_true hp3133), Bool.true_or] at h
                    refine xsetB 48 (decide_eq_true hp3133) rfl ?_
                    refine xskip rfl rfl ?_
                    refine xskip rfl rfl ?_
                    refine xvalP (pv_pick rfl rfl) rfl rfl ?_
                    refine xnil ?_
                    exact xmeet ⟨true, h, rfl⟩ ⟨(.cons rfl (.refl _) (.cons rfl (.refl _) (.cons rfl (.refl _) (.cons rfl (.refl _) (.cons rfl (.refl _) (.cons rfl (.refl _) (.cons rfl (.refl _) (.cons rfl (.refl _) (.cons rfl (.refl _) (.nil _)))))))))), (SubM.of (.nil _) (.keep rfl (.nil _)))⟩
                  · rw [show (decide ((y3106.toNat : Int) = 92)) = false from (decide_eq_false hp3133), Bool.false_or] at h
                    refine xsetB 48 (decide_eq_false hp3133) rfl ?_
                    refine xvalP (pv_move rfl) rfl rfl ?_
                    refine xvalP (pv_bin2 rfl rfl rfl) rfl rfl ?_
                    refine xvalP (pv_pick rfl rfl) rfl rfl ?_
                    refine xnil ?_
                    exact xmeet ⟨(decide ((y3106.toNat : Int) = 10)), h, rfl⟩ ⟨(.cons rfl (.refl _) (.cons rfl (.refl _) (.cons rfl (.refl _) (.cons rfl (.refl _) (.cons rfl (.refl _) (.cons rfl (.refl _) (.cons rfl (.refl _) (.cons rfl (.refl _) (.cons rfl (.refl _) (.nil _)))))))))), (SubM.of (.nil _) (.keep rfl (.nil _)))⟩
              · clear h
                rintro _ ⟨x3129, h, rfl⟩
                by_cases hp3135 : x3129 = true
                · replace h := h.1 hp3135
                  refine xcondT' hp3135 rfl ?_
                  refine xregion ?_
                  refine xvalP (pv_move rfl) rfl rfl ?_
                  refine xbuildSliceM (f := eb) [(92 : UInt8)] UndC.h InfC.h rfl rfl (by first | exact wkR_of rfl | (repeat (first | exact WkR.nil | refine WkR.cons (by (repeat (first | exact WkL.nil | refine WkL.cons (by first | with_reducible exact Wk.refl _ | exact Wk.nil_own _ | exact Wk.nil_pl _ | with_reducible exact Wk.tok _ _ _ | exact Wk.tok _ _ _ | exact Wk.eq (by first | rfl | (simp []; done) | (simp []; omega))) ?_))) ?_))) rfl rfl rfl rfl fun s53 => ?_
                  obtain ⟨h3136, h⟩ := h
                  refine xappendM (l := out2994) (l2 := [(92 : UInt8)]) 1 h3136 UndC.h InfC.h rfl rfl rfl (.refl _) rfl rfl rfl fun i3137 => ?_
                  refine xvalP (pv_assign rfl) rfl rfl ?_
                  refine xnil ?_
                  exact xmeet ⟨(out2994 ++ [(92 : UInt8)]), i3137, h, rfl⟩ ⟨(.cons rfl (.refl _) (.cons rfl (.refl _) (.cons rfl (.refl _) (.cons rfl (.refl _) (.cons rfl (.refl _) (.cons rfl (.refl _) (.cons rfl (.refl _) (.cons rfl (.refl _) (.nil _))))))))), (SubM.of (.nil _) (.drop (.keep rfl (.nil _))))⟩
                · replace h := h.2 hp3135
                  refine xcondF' (b_f hp3135) rfl ?_
                  refine xskipc ?_
                  exact xmeet ⟨out2994, i2995, h, rfl⟩ ⟨(.cons rfl (.refl _) (.cons rfl (.refl _) (.cons rfl (.refl _) (.cons rfl (.refl _) (.cons rfl (.refl _) (.cons rfl (.refl _) (.cons rfl (.refl _) (.cons rfl (.refl _) (.nil _))))))))), (SubM.of (.nil _) (.keep rfl (.nil _)))⟩
            · clear h
              rintro _ ⟨out3122, i3123, h, rfl⟩
              refine xregion ?_
              refine xvalP (pv_move rfl) rfl rfl ?_
              refine xvalP (pv_move rfl) rfl rfl ?_
              refine xbuildSliceM (f := eb) [y3106] UndC.h InfC.h rfl rfl (by first | exact wkR_of rfl | (repeat (first | exact WkR.nil | refine WkR.cons (by (repeat (first | exact WkL.nil | refine WkL.cons (by first | with_reducible exact Wk.refl _ | exact Wk.nil_own _ | exact Wk.nil_pl _ | with_reducible exact Wk.tok _ _ _ | exact Wk.tok _ _ _ | exact Wk.eq (by first | rfl | (simp []; done) | (simp []; omega))) ?_))) ?_))) rfl rfl rfl rfl fun s57 => ?_
              obtain ⟨h3138, h⟩ := h
              refine xappendM (l := out3122) (l2 := [y3106]) 1 h3138 UndC.h InfC.h rfl rfl rfl (.refl _) rfl rfl rfl fun i3139 => ?_
              refine xvalP (pv_assign rfl) rfl rfl ?_
              refine xnil ?_
              refine xin_normal ?_
              refine xthen ?_
              refine xregion ?_
              obtain ⟨h3140, h⟩ := h
              refine xvalP (pv_addI h3140 rfl rfl) rfl rfl ?_
              refine xvalP (pv_move rfl) rfl rfl ?_
              refine xnil ?_
              obtain ⟨m', hm, hI⟩ := hag3 _ h
              exact xagain ⟨(out3122 ++ [y3106]), (x2996 + 1), i3139, hI, rfl⟩ hm ⟨(.cons rfl (.refl _) (.cons rfl (.refl _) (.cons rfl (.refl _) (.cons rfl (.refl _) (.cons rfl (.refl _) (.cons rfl (.refl _) (.cons rfl (.refl _) (.nil _)))))))), (SubM.of (.nil _) (.drop (.keep rfl (.nil _))))⟩
          · replace h := h.2 hp3071
            refine xcondF' (decide_eq_false hp3071) rfl ?_
            refine xexit ?_
            refine xthen_exit ?_
            refine xthen_exit ?_
            refine xin_same rfl ?_
            refine xin_normal ?_
            refine xthen ?_
            refine xregion ?_
            obtain ⟨h3141, h⟩ := h
            refine xvalP (pv_addI h3141 rfl rfl) rfl rfl ?_
            refine xvalP (pv_move rfl) rfl rfl ?_
            refine xnil ?_
            obtain ⟨m', hm, hI⟩ := hag1 _ h
            exact xagain ⟨out2994, (x2097 + 1), i2995, hI, rfl⟩ hm ⟨(.cons rfl (.refl _) (.cons rfl (.refl _) (.cons rfl (.refl _) (.cons rfl (.refl _) (.nil _))))), (SubM.of (.nil _) (.keep rfl (.nil _)))⟩
  · replace h := h.2 hp2622
    refine xcondF' (decide_eq_false hp2622) rfl ?_
    refine xexit ?_
    refine xthen_exit ?_
    refine xthen_exit ?_
    refine xin_same rfl ?_
    refine xthen ?_
    refine xseq ?_
    refine xregion ?_
    refine xvalP (pv_move rfl) rfl rfl ?_
    refine xvalP (pv_assign rfl) rfl rfl ?_
    refine xnil ?_
    refine xthen ?_
    refine xretc ?_
    replace h := h.symm
    subst h
    exact xret1 hg rfl rfl (.refl _) (SubM.of (.nil _) (.keep rfl (.nil _))) ⟨i2096, rfl, rfl, rfl⟩
end Go.Proofs.Ytcekiclbfjfagaa
