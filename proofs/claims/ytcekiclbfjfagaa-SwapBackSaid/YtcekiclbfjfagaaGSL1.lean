/- What functions' texts ask for, and the walks that show it (printed by a program). -/
import Derived.Test.YtcekiclbfjfagaaGS
namespace Go.Proofs.Ytcekiclbfjfagaa
/-- palinodelaw13.SwapBack -/
def palinodelaw13_SwapBack_j3 (ag2 : (Int) → Prop) (x180 : Int) (r : Bool) : Prop :=
  InR (x180 + 1) ∧ ag2 (x180 + 1)
def palinodelaw13_SwapBack_j4 (x208 : Bool) (r : Bool) : Prop :=
  r = x208
def palinodelaw13_SwapBack_l2 (y31 : (List UInt8)) (x1 : List (Int × Int × (List UInt8))) (ag2 : (Int) → Prop) (x138 : Int) (r : Bool) : Prop :=
  ((x138 < (y31.length : Int) → 0 ≤ (x138 : Int) ∧ ∃ y181 : UInt8, y31[(x138 : Int).toNat]? = some y181 ∧ (((y181.toNat : Int) = 92 → InR (x138 + 1) ∧ palinodelaw13_SwapBack_j3 ag2 (x138 + 1) r) ∧ (¬ ((y181.toNat : Int) = 92) → 0 ≤ (x138 : Int) ∧ ∃ y186 : UInt8, y31[(x138 : Int).toNat]? = some y186 ∧ (((y186.toNat : Int) = 10 → r = false) ∧ (¬ ((y186.toNat : Int) = 10) → palinodelaw13_SwapBack_j3 ag2 x138 r))))) ∧ (¬ (x138 < (y31.length : Int)) → ∃ y192 : (List (Int × Int × (List UInt8))) × Int × Int, sparse_R y31 9 y192 ∧ ∃ y195 : (List (Int × Int × (List UInt8))) × Int × Int, rparse_R y31 9 y195 ∧ ((y192.2.2 = 0 → ((y195.2.2 = 0 → ∃ y214 : Bool, rsm_R y192.1 x1 y214 ∧ ((y214 = true → ∃ y217 : Bool, rsm_R y195.1 x1 y217 ∧ ((y217 = true → ∃ y220 : Bool, awk_R y220 ∧ palinodelaw13_SwapBack_j4 y220 r) ∧ (¬ (y217 = true) → palinodelaw13_SwapBack_j4 false r))) ∧ (¬ (y214 = true) → palinodelaw13_SwapBack_j4 false r))) ∧ (¬ (y195.2.2 = 0) → palinodelaw13_SwapBack_j4 false r))) ∧ (¬ (y192.2.2 = 0) → palinodelaw13_SwapBack_j4 false r))))
def palinodelaw13_SwapBack_j1 (x1 : List (Int × Int × (List UInt8))) (x21 : Bool) (r : Bool) : Prop :=
  ((x21 = true → ∃ y29 : Bool, awk_R y29 ∧ r = y29) ∧ (¬ (x21 = true) → ∃ y31 : (List UInt8), swap_Text_R x1 y31 ∧ LoopR (fun ag2 s => palinodelaw13_SwapBack_l2 y31 x1 ag2 s r) 0))
def palinodelaw13_SwapBack_R (x1 : List (Int × Int × (List UInt8))) (r : Bool) : Prop :=
  ∃ y23 : Bool, grt_R x1 ([] : List UInt8) y23 ∧ ((y23 = true → palinodelaw13_SwapBack_j1 x1 true r) ∧ (¬ (y23 = true) → ∃ y26 : Bool, palinoderef13_Right_R x1 y26 ∧ palinodelaw13_SwapBack_j1 x1 (!y26) r))
set_option maxHeartbeats 4000000 in
theorem palinodelaw13_SwapBack_con (x1 : List (Int × Int × (List UInt8))) (r : Bool) (h : palinodelaw13_SwapBack_R x1 r) : Con Try.prog 5 [.sl 3 none (List.map E_palinode_api_Part x1)] [] [] (Ret (.v (.bool r))) := by
  refine xenter Try.func5 rfl rfl fun g hg => ?_
  simp only [Try.ntmps5, slots]
  refine xseq ?_
  refine xregion ?_
  refine xvalP (pv_assign rfl) rfl rfl ?_
  refine xnil ?_
  refine xthen ?_
  refine xseq ?_
  refine xseqM (fun σ => ∃ (x21 : Bool), palinodelaw13_SwapBack_j1 x1 x21 r ∧ σ = ⟨[(0, .sl 3 none (List.map E_palinode_api_Part x1)), (17, .v (.bool x21))], [], []⟩) ?_ ?_
  · refine xregion ?_
    refine xvalP (pv_move rfl) rfl rfl ?_
    obtain ⟨y23, h22, h⟩ := h
    refine xcall0 (grt_con x1 ([] : List UInt8) _ h22) Try.func7 (by kernel_rfl) rfl (.cons rfl (.refl _) (.cons rfl (.nil_pl _) .nil)) rfl rfl ?_
    refine xvalP (pv_move rfl) rfl rfl ?_
    by_cases hp24 : y23 = true
    · replace h := h.1 hp24
      refine xsetB 13 hp24 rfl ?_
      refine xskip rfl rfl ?_
      refine xskip rfl rfl ?_
      refine xskip rfl rfl ?_
      refine xvalP (pv_pick rfl rfl) rfl rfl ?_
      refine xnil ?_
      exact xmeet ⟨true, h, rfl⟩ ⟨(.cons rfl (.refl _) (.cons rfl (.refl _) (.nil _))), (SubM.of (.nil _) (.nil _))⟩
    · replace h := h.2 hp24
      refine xsetB 13 (b_f hp24) rfl ?_
      refine xvalP (pv_move rfl) rfl rfl ?_
      obtain ⟨y26, h25, h⟩ := h
      refine xcall0 (palinoderef13_Right_con x1 _ h25) Try.func14 (by kernel_rfl) rfl (.cons rfl (.refl _) .nil) rfl rfl ?_
      refine xvalP (pv_not rfl) rfl rfl ?_
      refine xvalP (pv_pick rfl rfl) rfl rfl ?_
      refine xnil ?_
      exact xmeet ⟨(!y26), h, rfl⟩ ⟨(.cons rfl (.refl _) (.cons rfl (.refl _) (.nil _))), (SubM.of (.nil _) (.nil _))⟩
  · clear h
    rintro _ ⟨x21, h, rfl⟩
    by_cases hp27 : x21 = true
    · replace h := h.1 hp27
      refine xcondT' hp27 rfl ?_
      refine xseq ?_
      refine xregion ?_
      obtain ⟨y29, h28, h⟩ := h
      refine xcall0 (awk_con _ h28) Try.func8 (by kernel_rfl) rfl .nil rfl rfl ?_
      refine xvalP (pv_assign rfl) rfl rfl ?_
      refine xnil ?_
      refine xthen ?_
      refine xretc ?_
      refine xthen_ret ?_
      replace h := h.symm
      subst h
      exact xret1 hg rfl rfl (.refl _) (SubM.of (.nil _) (.nil _)) ⟨rfl, rfl, rfl⟩
    · replace h := h.2 hp27
      refine xcondF' (b_f hp27) rfl ?_
      refine xskipc ?_
      refine xthen ?_
      refine xseq ?_
      refine xregion ?_
      refine xvalP (pv_move rfl) rfl rfl ?_
      obtain ⟨y31, h30, h⟩ := h
      refine xcallM (swap_Text_con x1 _ h30) Try.func15 (by kernel_rfl) rfl (.cons rfl (.refl _) .nil) rfl rfl fun i32 => ?_
      refine xvalP (pv_assign rfl) rfl rfl ?_
      refine xnil ?_
      refine xthen ?_
      refine xseq ?_
      refine xseq ?_
      refine xregion ?_
      refine xvalP (pv_assign rfl) rfl rfl ?_
      refine xnil ?_
      refine xthen ?_
      refine xblock ?_
      obtain ⟨Inv, ⟨m0, hI⟩, hS⟩ := h
      refine xloop (fun σ m => ∃ (x138 : Int), Inv x138 m ∧ σ = ⟨[(0, .sl 3 none (List.map E_palinode_api_Part x1)), (3, .sl 1 (some i32) (List.map eb y31)), (4, .v (.int .i64 x138))], [], [⟨i32, 5, 1, y31.length⟩]⟩) ⟨0, hI, rfl⟩ ⟨(.cons rfl (.refl _) (.cons rfl (.refl _) (.cons rfl (.refl _) (.nil _)))), (SubM.of (.nil _) (.keep rfl (.nil _)))⟩ ?_
      rintro _ m ⟨x138, hI, rfl⟩
      obtain ⟨ag2, hag2, h⟩ : ∃ ag, (∀ s', ag s' → ∃ m', m' < m ∧ Inv s' m') ∧ palinodelaw13_SwapBack_l2 y31 x1 ag x138 r := ⟨_, fun _ h => h, hS x138 _ hI⟩
      clear hS hI
      refine xseq ?_
      refine xseq ?_
      refine xregion ?_
      refine xvalP (pv_move rfl) rfl rfl ?_
      refine xvalP (pv_move rfl) rfl rfl ?_
      refine xvalP (pv_lenM UndC.h rfl) rfl rfl ?_
      refine xvalP (pv_bin2 rfl rfl rfl) rfl rfl ?_
      refine xnil ?_
      refine xthen ?_
      by_cases hp170 : x138 < (y31.length : Int)
      · replace h := h.1 hp170
        refine xcondT' (decide_eq_true hp170) rfl ?_
        refine xskipc ?_
        refine xthen ?_
        refine xseqM (fun σ => ∃ (x180 : Int), palinodelaw13_SwapBack_j3 ag2 x180 r ∧ σ = ⟨[(0, .sl 3 none (List.map E_palinode_api_Part x1)), (3, .sl 1 (some i32) (List.map eb y31)), (4, .v (.int .i64 x180))], [], [⟨i32, 5, 1, y31.length⟩]⟩) ?_ ?_
        · refine xblock ?_
          refine xseq ?_
          refine xregion ?_
          refine xvalP (pv_move rfl) rfl rfl ?_
          refine xvalP (pv_move rfl) rfl rfl ?_
          obtain ⟨h182a, h⟩ := h
          obtain ⟨y181, h182b, h⟩ := h
          refine xvalP (pv_indexAddrM h182a h182b UndC.h ShpC.h rfl rfl) rfl rfl ?_
          refine xval (qv_load ShpC.h rfl rfl rfl) rfl rfl ?_
          refine xvalP (pv_bin2 rfl rfl rfl) rfl rfl ?_
          refine xnil ?_
          refine xthen ?_
          by_cases hp184 : (y181.toNat : Int) = 92
          · replace h := h.1 hp184
            refine xcondT' (decide_eq_true hp184) rfl ?_
            refine xregion ?_
            refine xvalP (pv_move rfl) rfl rfl ?_
            obtain ⟨h185, h⟩ := h
            refine xvalP (pv_addI h185 rfl rfl) rfl rfl ?_
            refine xvalP (pv_assign rfl) rfl rfl ?_
            refine xnil ?_
            refine xin_normal ?_
            exact xmeet ⟨(x138 + 1), h, rfl⟩ ⟨(.cons rfl (.refl _) (.cons rfl (.refl _) (.cons rfl (.refl _) (.nil _)))), (SubM.of (.nil _) (.keep rfl (.nil _)))⟩
          · replace h := h.2 hp184
            refine xcondF' (decide_eq_false hp184) rfl ?_
            refine xseq ?_
            refine xregion ?_
            refine xvalP (pv_move rfl) rfl rfl ?_
            refine xvalP (pv_move rfl) rfl rfl ?_
            obtain ⟨h187a, h⟩ := h
            obtain ⟨y186, h187b, h⟩ := h
            refine xvalP (pv_indexAddrM h187a h187b UndC.h ShpC.h rfl rfl) rfl rfl ?_
            refine xval (qv_load ShpC.h rfl rfl rfl) rfl rfl ?_
            refine xvalP (pv_bin2 rfl rfl rfl) rfl rfl ?_
            refine xnil ?_
            refine xthen ?_
            by_cases hp189 : (y186.toNat : Int) = 10
            · replace h := h.1 hp189
              refine xcondT' (decide_eq_true hp189) rfl ?_
              refine xseq ?_
              refine xregion ?_
              refine xvalP (pv_assign rfl) rfl rfl ?_
              refine xnil ?_
              refine xthen ?_
              refine xretc ?_
              refine xin_ret ?_
              refine xthen_ret ?_
              refine xthen_ret ?_
              refine xin_ret ?_
              refine xthen_ret ?_
              replace h := h.symm
              subst h
              exact xret1 hg rfl rfl (.refl _) (SubM.of (.nil _) (.nil _)) ⟨rfl, rfl, rfl⟩
            · replace h := h.2 hp189
              refine xcondF' (decide_eq_false hp189) rfl ?_
              refine xskipc ?_
              refine xin_normal ?_
              exact xmeet ⟨x138, h, rfl⟩ ⟨(.cons rfl (.refl _) (.cons rfl (.refl _) (.cons rfl (.refl _) (.nil _)))), (SubM.of (.nil _) (.keep rfl (.nil _)))⟩
        · clear h
          rintro _ ⟨x180, h, rfl⟩
          refine xregion ?_
          refine xvalP (pv_move rfl) rfl rfl ?_
          obtain ⟨h190, h⟩ := h
          refine xvalP (pv_addI h190 rfl rfl) rfl rfl ?_
          refine xvalP (pv_assign rfl) rfl rfl ?_
          refine xnil ?_
          obtain ⟨m', hm, hI⟩ := hag2 _ h
          exact xagain ⟨(x180 + 1), hI, rfl⟩ hm ⟨(.cons rfl (.refl _) (.cons rfl (.refl _) (.cons rfl (.refl _) (.nil _)))), (SubM.of (.nil _) (.keep rfl (.nil _)))⟩
      · replace h := h.2 hp170
        refine xcondF' (decide_eq_false hp170) rfl ?_
        refine xexit ?_
        refine xthen_exit ?_
        refine xthen_exit ?_
        refine xin_same rfl ?_
        refine xthen ?_
        refine xseq ?_
        refine xregion ?_
        refine xvalP (pv_move rfl) rfl rfl ?_
        obtain ⟨y192, h191, h⟩ := h
        refine xcallF (Fb := []) (Ft := [⟨i32, 5, 1, y31.length⟩]) (sparse_con y31 9 _ h191) Try.func16 (by kernel_rfl) rfl (.cons rfl (.tok _ _ _) (.cons rfl (.refl _) .nil)) (by exact (SubM.of (by repeat (first | with_reducible exact SubB.refl _ | exact SubB.nil _ | refine SubB.keep rfl rfl (by first | with_reducible exact WkL.refl _ | ((repeat (first | exact WkL.nil | refine WkL.cons (by first | with_reducible exact Wk.refl _ | exact Wk.nil_own _ | exact Wk.nil_pl _ | with_reducible exact Wk.tok _ _ _ | exact Wk.tok _ _ _ | exact Wk.eq (by first | rfl | (simp []; done) | (simp []; omega))) ?_)); done) | exact WkL.refl _) ?_ | refine SubB.drop ?_)) (by repeat (first | exact SubT.nil _ | refine SubT.add ?_ | (refine SubT.keep ?_ ?_; focus (first | with_reducible rfl | (simp []; done))) | refine SubT.drop ?_)))) rfl rfl ?_
        rintro _ _ _ ⟨i193, rfl, rfl, rfl⟩
        simp only [List.nil_append, List.cons_append]
        refine xvalP (pv_move rfl) rfl rfl ?_
        refine xvalP (pv_extract rfl rfl) rfl rfl ?_
        refine xvalP (pv_extract rfl rfl) rfl rfl ?_
        refine xvalP (pv_extract rfl rfl) rfl rfl ?_
        refine xvalP (pv_assign rfl) rfl rfl ?_
        refine xvalP (pv_assign rfl) rfl rfl ?_
        refine xvalP (pv_assign rfl) rfl rfl ?_
        refine xnil ?_
        refine xthen ?_
        refine xseq ?_
        refine xregion ?_
        refine xvalP (pv_move rfl) rfl rfl ?_
        obtain ⟨y195, h194, h⟩ := h
        refine xcallF (Fb := []) (Ft := [⟨i193, 37, 3, y192.1.length⟩, ⟨i32, 5, 1, y31.length⟩]) (rparse_con y31 9 _ h194) Try.func17 (by kernel_rfl) rfl (.cons rfl (.tok _ _ _) (.cons rfl (.refl _) .nil)) (by exact (SubM.of (by repeat (first | with_reducible exact SubB.refl _ | exact SubB.nil _ | refine SubB.keep rfl rfl (by first | with_reducible exact WkL.refl _ | ((repeat (first | exact WkL.nil | refine WkL.cons (by first | with_reducible exact Wk.refl _ | exact Wk.nil_own _ | exact Wk.nil_pl _ | with_reducible exact Wk.tok _ _ _ | exact Wk.tok _ _ _ | exact Wk.eq (by first | rfl | (simp []; done) | (simp []; omega))) ?_)); done) | exact WkL.refl _) ?_ | refine SubB.drop ?_)) (by repeat (first | exact SubT.nil _ | refine SubT.add ?_ | (refine SubT.keep ?_ ?_; focus (first | with_reducible rfl | (simp []; done))) | refine SubT.drop ?_)))) rfl rfl ?_
        rintro _ _ _ ⟨rfl, rfl, rfl⟩
        simp only [List.nil_append, List.cons_append]
        refine xvalP (pv_move rfl) rfl rfl ?_
        refine xvalP (pv_extract rfl rfl) rfl rfl ?_
        refine xvalP (pv_extract rfl rfl) rfl rfl ?_
        refine xvalP (pv_extract rfl rfl) rfl rfl ?_
        refine xvalP (pv_assign rfl) rfl rfl ?_
        refine xvalP (pv_assign rfl) rfl rfl ?_
        refine xvalP (pv_assign rfl) rfl rfl ?_
        refine xnil ?_
        refine xthen ?_
        refine xseqM (fun σ => ∃ (x208 : Bool), palinodelaw13_SwapBack_j4 x208 r ∧ σ = ⟨[(2, .v (.bool x208))], [], []⟩) ?_ ?_
        · refine xregion ?_
          refine xvalP (pv_move rfl) rfl rfl ?_
          refine xvalP (pv_bin2 rfl rfl rfl) rfl rfl ?_
          refine xvalP (pv_move rfl) rfl rfl ?_
          by_cases hp210 : y192.2.2 = 0
          · replace h := h.1 hp210
            refine xsetB 53 (decide_eq_true hp210) rfl ?_
            refine xvalP (pv_move rfl) rfl rfl ?_
            refine xvalP (pv_bin2 rfl rfl rfl) rfl rfl ?_
            refine xvalP (pv_pick rfl rfl) rfl rfl ?_
            refine xvalP (pv_move rfl) rfl rfl ?_
            by_cases hp212 : y195.2.2 = 0
            · replace h := h.1 hp212
              refine xsetB 57 (decide_eq_true hp212) rfl ?_
              refine xvalP (pv_move rfl) rfl rfl ?_
              refine xvalP (pv_move rfl) rfl rfl ?_
              obtain ⟨y214, h213, h⟩ := h
              refine xcall0 (rsm_con y192.1 x1 _ h213) Try.func18 (by kernel_rfl) rfl (.cons rfl (.tok _ _ _) (.cons rfl (.refl _) .nil)) rfl rfl ?_
              refine xvalP (pv_pick rfl rfl) rfl rfl ?_
              refine xvalP (pv_move rfl) rfl rfl ?_
              by_cases hp215 : y214 = true
              · replace h := h.1 hp215
                refine xsetB 62 hp215 rfl ?_
                refine xvalP (pv_move rfl) rfl rfl ?_
                refine xvalP (pv_move rfl) rfl rfl ?_
                obtain ⟨y217, h216, h⟩ := h
                refine xcall0 (rsm_con y195.1 x1 _ h216) Try.func18 (by kernel_rfl) rfl (.cons rfl (.refl _) (.cons rfl (.refl _) .nil)) rfl rfl ?_
                refine xvalP (pv_pick rfl rfl) rfl rfl ?_
                refine xvalP (pv_move rfl) rfl rfl ?_
                by_cases hp218 : y217 = true
                · replace h := h.1 hp218
                  refine xsetB 67 hp218 rfl ?_
                  obtain ⟨y220, h219, h⟩ := h
                  refine xcall0 (awk_con _ h219) Try.func8 (by kernel_rfl) rfl .nil rfl rfl ?_
                  refine xvalP (pv_pick rfl rfl) rfl rfl ?_
                  refine xvalP (pv_assign rfl) rfl rfl ?_
                  refine xnil ?_
                  exact xmeet ⟨y220, h, rfl⟩ ⟨(.cons rfl (.refl _) (.nil _)), (SubM.of (.nil _) (.nil _))⟩
                · replace h := h.2 hp218
                  refine xsetB 67 (b_f hp218) rfl ?_
                  refine xskip rfl rfl ?_
                  refine xvalP (pv_pick rfl rfl) rfl rfl ?_
                  refine xvalP (pv_assign rfl) rfl rfl ?_
                  refine xnil ?_
                  exact xmeet ⟨false, h, rfl⟩ ⟨(.cons rfl (.refl _) (.nil _)), (SubM.of (.nil _) (.nil _))⟩
              · replace h := h.2 hp215
                refine xsetB 62 (b_f hp215) rfl ?_
                refine xskip rfl rfl ?_
                refine xskip rfl rfl ?_
                refine xskip rfl rfl ?_
                refine xvalP (pv_pick rfl rfl) rfl rfl ?_
                refine xvalP (pv_move rfl) rfl rfl ?_
                refine xskip rfl rfl ?_
                refine xvalP (pv_pick rfl rfl) rfl rfl ?_
                refine xvalP (pv_assign rfl) rfl rfl ?_
                refine xnil ?_
                exact xmeet ⟨false, h, rfl⟩ ⟨(.cons rfl (.refl _) (.nil _)), (SubM.of (.nil _) (.nil _))⟩
            · replace h := h.2 hp212
              refine xsetB 57 (decide_eq_false hp212) rfl ?_
              refine xskip rfl rfl ?_
              refine xskip rfl rfl ?_
              refine xskip rfl rfl ?_
              refine xvalP (pv_pick rfl rfl) rfl rfl ?_
              refine xvalP (pv_move rfl) rfl rfl ?_
              refine xskip rfl rfl ?_
              refine xskip rfl rfl ?_
              refine xskip rfl rfl ?_
              refine xvalP (pv_pick rfl rfl) rfl rfl ?_
              refine xvalP (pv_move rfl) rfl rfl ?_
              refine xskip rfl rfl ?_
              refine xvalP (pv_pick rfl rfl) rfl rfl ?_
              refine xvalP (pv_assign rfl) rfl rfl ?_
              refine xnil ?_
              exact xmeet ⟨false, h, rfl⟩ ⟨(.cons rfl (.refl _) (.nil _)), (SubM.of (.nil _) (.nil _))⟩
          · replace h := h.2 hp210
            refine xsetB 53 (decide_eq_false hp210) rfl ?_
            refine xskip rfl rfl ?_
            refine xskip rfl rfl ?_
            refine xvalP (pv_pick rfl rfl) rfl rfl ?_
            refine xvalP (pv_move rfl) rfl rfl ?_
            refine xskip rfl rfl ?_
            refine xskip rfl rfl ?_
            refine xskip rfl rfl ?_
            refine xvalP (pv_pick rfl rfl) rfl rfl ?_
            refine xvalP (pv_move rfl) rfl rfl ?_
            refine xskip rfl rfl ?_
            refine xskip rfl rfl ?_
            refine xskip rfl rfl ?_
            refine xvalP (pv_pick rfl rfl) rfl rfl ?_
            refine xvalP (pv_move rfl) rfl rfl ?_
            refine xskip rfl rfl ?_
            refine xvalP (pv_pick rfl rfl) rfl rfl ?_
            refine xvalP (pv_assign rfl) rfl rfl ?_
            refine xnil ?_
            exact xmeet ⟨false, h, rfl⟩ ⟨(.cons rfl (.refl _) (.nil _)), (SubM.of (.nil _) (.nil _))⟩
        · clear h
          rintro _ ⟨x208, h, rfl⟩
          refine xretc ?_
          replace h := h.symm
          subst h
          exact xret1 hg rfl rfl (.refl _) (SubM.of (.nil _) (.nil _)) ⟨rfl, rfl, rfl⟩
end Go.Proofs.Ytcekiclbfjfagaa
