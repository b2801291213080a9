/- What functions' texts ask for, and the walks that show it (printed by a program). -/
import Derived.Test.YthffeojphpajpaaGK
namespace Go.Proofs.Ythffeojphpajpaa
/-- palinodelaw19.SinksJoin -/
def palinodelaw19_SinksJoin_j2 (x325 : Int) (ag1 : ((List UInt8) × Int) → Prop) (x443 : List UInt8) (r : Bool) : Prop :=
  InR (x325 + 1) ∧ ag1 (x443, (x325 + 1))
def palinodelaw19_SinksJoin_j3 (x323 : List UInt8) (y459 : (List UInt8) × Bool) (x325 : Int) (ag1 : ((List UInt8) × Int) → Prop) (x469 : Bool) (r : Bool) : Prop :=
  ((x469 = true → Room (((x323 ++ y459.1)).length + ([(10 : UInt8)]).length) 1 ∧ palinodelaw19_SinksJoin_j2 x325 ag1 ((x323 ++ y459.1) ++ [(10 : UInt8)]) r) ∧ (¬ (x469 = true) → palinodelaw19_SinksJoin_j2 x325 ag1 (x323 ++ y459.1) r))
def palinodelaw19_SinksJoin_j5 (x640 : Bool) (r : Bool) : Prop :=
  r = x640
def palinodelaw19_SinksJoin_l4 (x1 : List ((List UInt8) × Bool)) (y481 : Int × (List UInt8) × Bool) (x323 : List UInt8) (ag4 : (Int × Bool × (List UInt8)) → Prop) (x571 : Int) (f572 : Bool) (l573 : List UInt8) (r : Bool) : Prop :=
  ((x571 < (x1.length : Int) → 0 ≤ (x571 : Int) ∧ ∃ y609 : (List UInt8) × Bool, x1[(x571 : Int).toNat]? = some y609 ∧ ∃ y612 : Int × (List UInt8) × Bool, sinks_Sink_Line_R f572 5000 l573 y609 y612 ∧ ((¬ (y612.1 = 0) → r = false) ∧ (¬ (¬ (y612.1 = 0)) → InR (x571 + 1) ∧ ag4 ((x571 + 1), y612.2.2, y612.2.1)))) ∧ (¬ (x571 < (x1.length : Int)) → ((y481.1 = 0 → ∃ y644 : Bool, palinoderef01_Same_R y481.2.1 x323 y644 ∧ ((y644 = true → ∃ y647 : Bool, palinoderef01_Same_R l573 x323 y647 ∧ ((y647 = true → ((0 < (x1.length : Int) → InR ((x1.length : Int) - 1) ∧ 0 ≤ (((x1.length : Int) - 1) : Int) ∧ ∃ y654 : (List UInt8) × Bool, x1[(((x1.length : Int) - 1) : Int).toNat]? = some y654 ∧ (((y481.2.2 == (!y654.2)) = true → ∃ y659 : Bool, palinodelaw19_awake_R y659 ∧ palinodelaw19_SinksJoin_j5 y659 r) ∧ (¬ ((y481.2.2 == (!y654.2)) = true) → palinodelaw19_SinksJoin_j5 false r))) ∧ (¬ (0 < (x1.length : Int)) → (((y481.2.2 == false) = true → ∃ y663 : Bool, palinodelaw19_awake_R y663 ∧ palinodelaw19_SinksJoin_j5 y663 r) ∧ (¬ ((y481.2.2 == false) = true) → palinodelaw19_SinksJoin_j5 false r))))) ∧ (¬ (y647 = true) → palinodelaw19_SinksJoin_j5 false r))) ∧ (¬ (y644 = true) → palinodelaw19_SinksJoin_j5 false r))) ∧ (¬ (y481.1 = 0) → palinodelaw19_SinksJoin_j5 false r))))
def palinodelaw19_SinksJoin_l1 (x1 : List ((List UInt8) × Bool)) (ag1 : ((List UInt8) × Int) → Prop) (x323 : List UInt8) (x325 : Int) (r : Bool) : Prop :=
  ((x325 < (x1.length : Int) → 0 ≤ (x325 : Int) ∧ ∃ y452 : (List UInt8) × Bool, x1[(x325 : Int).toNat]? = some y452 ∧ ((60 < (y452.1.length : Int) → ∃ y458 : Bool, palinodelaw19_awake_R y458 ∧ r = y458) ∧ (¬ (60 < (y452.1.length : Int)) → 0 ≤ (x325 : Int) ∧ ∃ y459 : (List UInt8) × Bool, x1[(x325 : Int).toNat]? = some y459 ∧ Room (x323.length + y459.1.length) 1 ∧ 0 ≤ (x325 : Int) ∧ ∃ y470 : (List UInt8) × Bool, x1[(x325 : Int).toNat]? = some y470 ∧ ((y470.2 = true → palinodelaw19_SinksJoin_j3 x323 y459 x325 ag1 true r) ∧ (¬ (y470.2 = true) → InR ((x1.length : Int) - 1) ∧ palinodelaw19_SinksJoin_j3 x323 y459 x325 ag1 (decide (x325 < ((x1.length : Int) - 1))) r))))) ∧ (¬ (x325 < (x1.length : Int)) → ∃ y481 : Int × (List UInt8) × Bool, sinks_Sink_Lines_R false 5000 ([] : List UInt8) x1 y481 ∧ LoopR (fun ag4 s => palinodelaw19_SinksJoin_l4 x1 y481 x323 ag4 s.1 s.2.1 s.2.2 r) (0, false, ([] : List UInt8))))
def palinodelaw19_SinksJoin_R (x1 : List ((List UInt8) × Bool)) (r : Bool) : Prop :=
  ((40 < (x1.length : Int) → ∃ y11 : Bool, palinodelaw19_awake_R y11 ∧ r = y11) ∧ (¬ (40 < (x1.length : Int)) → LoopR (fun ag1 s => palinodelaw19_SinksJoin_l1 x1 ag1 s.1 s.2 r) (([] : List UInt8), 0)))
set_option maxHeartbeats 4000000 in
theorem palinodelaw19_SinksJoin_con (x1 : List ((List UInt8) × Bool)) (r : Bool) (h : palinodelaw19_SinksJoin_R x1 r) : Con Try.prog 3 [.sl 2 none (List.map E_palinode_api_Line x1)] [] [] (Ret (.v (.bool r))) := by
  refine xenter Try.func3 rfl rfl fun g hg => ?_
  simp only [Try.ntmps3, slots]
  refine xseq ?_
  refine xregion ?_
  refine xvalP (pv_assign rfl) rfl rfl ?_
  refine xnil ?_
  refine xthen ?_
  refine xseq ?_
  refine xseq ?_
  refine xregion ?_
  refine xvalP (pv_move rfl) rfl rfl ?_
  refine xvalP (pv_lenM UndC.h rfl) rfl rfl ?_
  refine xvalP (pv_bin2 rfl rfl rfl) rfl rfl ?_
  refine xnil ?_
  refine xthen ?_
  by_cases hp9 : 40 < (x1.length : Int)
  · replace h := h.1 hp9
    refine xcondT' (decide_eq_true hp9) rfl ?_
    refine xseq ?_
    refine xregion ?_
    obtain ⟨y11, h10, h⟩ := h
    refine xcall0 (palinodelaw19_awake_con _ h10) Try.func5 (by kernel_rfl) rfl .nil rfl rfl ?_
    refine xvalP (pv_assign rfl) rfl rfl ?_
    refine xnil ?_
    refine xthen ?_
    refine xretc ?_
    refine xthen_ret ?_
    replace h := h.symm
    subst h
    exact xret1 hg rfl rfl (.refl _) (SubM.of (.nil _) (.nil _)) ⟨rfl, rfl, rfl⟩
  · replace h := h.2 hp9
    refine xcondF' (decide_eq_false hp9) rfl ?_
    refine xskipc ?_
    refine xthen ?_
    refine xseq ?_
    refine xregion ?_
    refine xvalP (pv_assign rfl) rfl rfl ?_
    refine xnil ?_
    refine xthen ?_
    refine xseq ?_
    refine xseq ?_
    refine xregion ?_
    refine xvalP (pv_assign rfl) rfl rfl ?_
    refine xnil ?_
    refine xthen ?_
    refine xblock ?_
    obtain ⟨Inv, ⟨m0, hI⟩, hS⟩ := h
    refine xloop (fun σ m => ∃ (x323 : List UInt8), ∃ (x325 : Int), ∃ (i324 : Option (Nat × Nat)), Inv (x323, x325) m ∧ σ = ⟨[(0, .sl 2 none (List.map E_palinode_api_Line x1)), (3, .sl 1 (some i324) (List.map eb x323)), (4, .v (.int .i64 x325))], [], [⟨i324, 5, 1, x323.length⟩]⟩) ⟨([] : List UInt8), 0, none, hI, rfl⟩ ⟨(.cons rfl (.refl _) (.cons rfl (.nil_own _) (.cons rfl (.refl _) (.nil _)))), (SubM.of (.nil _) (.add (.nil _)))⟩ ?_
    rintro _ m ⟨x323, x325, i324, hI, rfl⟩
    obtain ⟨ag1, hag1, h⟩ : ∃ ag, (∀ s', ag s' → ∃ m', m' < m ∧ Inv s' m') ∧ palinodelaw19_SinksJoin_l1 x1 ag x323 x325 r := ⟨_, fun _ h => h, hS (x323, x325) _ hI⟩
    clear hS hI
    refine xseq ?_
    refine xseq ?_
    refine xregion ?_
    refine xvalP (pv_move rfl) rfl rfl ?_
    refine xvalP (pv_move rfl) rfl rfl ?_
    refine xvalP (pv_lenM UndC.h rfl) rfl rfl ?_
    refine xvalP (pv_bin2 rfl rfl rfl) rfl rfl ?_
    refine xnil ?_
    refine xthen ?_
    by_cases hp408 : x325 < (x1.length : Int)
    · replace h := h.1 hp408
      refine xcondT' (decide_eq_true hp408) rfl ?_
      refine xskipc ?_
      refine xthen ?_
      refine xseqM (fun σ => ∃ (x443 : List UInt8), ∃ (i444 : Option (Nat × Nat)), palinodelaw19_SinksJoin_j2 x325 ag1 x443 r ∧ σ = ⟨[(0, .sl 2 none (List.map E_palinode_api_Line x1)), (3, .sl 1 (some i444) (List.map eb x443)), (4, .v (.int .i64 x325))], [], [⟨i444, 5, 1, x443.length⟩]⟩) ?_ ?_
      · refine xblock ?_
        refine xseq ?_
        refine xseq ?_
        refine xregion ?_
        refine xvalP (pv_move rfl) rfl rfl ?_
        refine xvalP (pv_move rfl) rfl rfl ?_
        obtain ⟨h453a, h⟩ := h
        obtain ⟨y452, h453b, h⟩ := h
        refine xvalP (pv_indexAddrM h453a h453b UndC.h ShpC.h rfl rfl) rfl rfl ?_
        refine xvalP (qv_fieldAddrE FldC.h rfl) rfl rfl ?_
        refine xval (qv_load ShpC.h rfl rfl rfl) rfl rfl ?_
        refine xvalP (pv_lenM UndC.h rfl) rfl rfl ?_
        refine xvalP (pv_bin2 rfl rfl rfl) rfl rfl ?_
        refine xnil ?_
        refine xthen ?_
        by_cases hp456 : 60 < (y452.1.length : Int)
        · replace h := h.1 hp456
          refine xcondT' (decide_eq_true hp456) rfl ?_
          refine xseq ?_
          refine xregion ?_
          obtain ⟨y458, h457, h⟩ := h
          refine xcall0 (palinodelaw19_awake_con _ h457) Try.func5 (by kernel_rfl) rfl .nil rfl rfl ?_
          refine xvalP (pv_assign rfl) rfl rfl ?_
          refine xnil ?_
          refine xthen ?_
          refine xretc ?_
          refine xthen_ret ?_
          refine xin_ret ?_
          refine xthen_ret ?_
          refine xthen_ret ?_
          refine xin_ret ?_
          refine xthen_ret ?_
          replace h := h.symm
          subst h
          exact xret1 hg rfl rfl (.refl _) (SubM.of (.nil _) (.nil _)) ⟨rfl, rfl, rfl⟩
        · replace h := h.2 hp456
          refine xcondF' (decide_eq_false hp456) rfl ?_
          refine xskipc ?_
          refine xthen ?_
          refine xseq ?_
          refine xregion ?_
          refine xvalP (pv_move rfl) rfl rfl ?_
          refine xvalP (pv_move rfl) rfl rfl ?_
          refine xvalP (pv_move rfl) rfl rfl ?_
          obtain ⟨h460a, h⟩ := h
          obtain ⟨y459, h460b, h⟩ := h
          refine xvalP (pv_indexAddrM h460a h460b UndC.h ShpC.h rfl rfl) rfl rfl ?_
          refine xvalP (qv_fieldAddrE FldC.h rfl) rfl rfl ?_
          refine xval (qv_load ShpC.h rfl rfl rfl) rfl rfl ?_
          obtain ⟨h461, h⟩ := h
          refine xappendM (l := x323) (l2 := y459.1) 0 h461 UndC.h InfC.h rfl rfl rfl (.refl _) rfl rfl rfl fun i462 => ?_
          refine xvalP (pv_assign rfl) rfl rfl ?_
          refine xnil ?_
          refine xthen ?_
          refine xseqM (fun σ => ∃ (x469 : Bool), palinodelaw19_SinksJoin_j3 x323 y459 x325 ag1 x469 r ∧ σ = ⟨[(0, .sl 2 none (List.map E_palinode_api_Line x1)), (3, .sl 1 (some i462) (List.map eb ((x323 ++ y459.1)))), (4, .v (.int .i64 x325)), (45, .v (.bool x469))], [], [⟨i462, 5, 1, ((x323 ++ y459.1)).length⟩]⟩) ?_ ?_
          · refine xregion ?_
            refine xvalP (pv_move rfl) rfl rfl ?_
            refine xvalP (pv_move rfl) rfl rfl ?_
            obtain ⟨h471a, h⟩ := h
            obtain ⟨y470, h471b, h⟩ := h
            refine xvalP (pv_indexAddrM h471a h471b UndC.h ShpC.h rfl rfl) rfl rfl ?_
            refine xvalP (qv_fieldAddrE FldC.h rfl) rfl rfl ?_
            refine xval (qv_load ShpC.h rfl rfl rfl) rfl rfl ?_
            refine xvalP (pv_move rfl) rfl rfl ?_
            by_cases hp472 : y470.2 = true
            · replace h := h.1 hp472
              refine xsetB 39 hp472 rfl ?_
              refine xskip rfl rfl ?_
              refine xskip rfl rfl ?_
              refine xskip rfl rfl ?_
              refine xskip rfl rfl ?_
              refine xskip rfl rfl ?_
              refine xvalP (pv_pick rfl rfl) rfl rfl ?_
              refine xnil ?_
              exact xmeet ⟨true, h, rfl⟩ ⟨(.cons rfl (.refl _) (.cons rfl (.refl _) (.cons rfl (.refl _) (.cons rfl (.refl _) (.nil _))))), (SubM.of (.nil _) (.keep rfl (.nil _)))⟩
            · replace h := h.2 hp472
              refine xsetB 39 (b_f hp472) rfl ?_
              refine xvalP (pv_move rfl) rfl rfl ?_
              refine xvalP (pv_move rfl) rfl rfl ?_
              refine xvalP (pv_lenM UndC.h rfl) rfl rfl ?_
              obtain ⟨h474, h⟩ := h
              refine xvalP (pv_subI h474 rfl rfl) rfl rfl ?_
              refine xvalP (pv_bin2 rfl rfl rfl) rfl rfl ?_
              refine xvalP (pv_pick rfl rfl) rfl rfl ?_
              refine xnil ?_
              exact xmeet ⟨(decide (x325 < ((x1.length : Int) - 1))), h, rfl⟩ ⟨(.cons rfl (.refl _) (.cons rfl (.refl _) (.cons rfl (.refl _) (.cons rfl (.refl _) (.nil _))))), (SubM.of (.nil _) (.keep rfl (.nil _)))⟩
          · clear h
            rintro _ ⟨x469, h, rfl⟩
            by_cases hp476 : x469 = true
            · replace h := h.1 hp476
              refine xcondT' hp476 rfl ?_
              refine xregion ?_
              refine xvalP (pv_move rfl) rfl rfl ?_
              refine xbuildSliceM (f := eb) [(10 : UInt8)] UndC.h InfC.h rfl rfl (by first | exact wkR_of rfl | (repeat (first | exact WkR.nil | refine WkR.cons (by (repeat (first | exact WkL.nil | refine WkL.cons (by first | with_reducible exact Wk.refl _ | exact Wk.nil_own _ | exact Wk.nil_pl _ | with_reducible exact Wk.tok _ _ _ | exact Wk.tok _ _ _ | exact Wk.eq (by first | rfl | (simp []; done) | (simp []; omega))) ?_))) ?_))) rfl rfl rfl rfl fun s47 => ?_
              obtain ⟨h477, h⟩ := h
              refine xappendM (l := (x323 ++ y459.1)) (l2 := [(10 : UInt8)]) 1 h477 UndC.h InfC.h rfl rfl rfl (.refl _) rfl rfl rfl fun i478 => ?_
              refine xvalP (pv_assign rfl) rfl rfl ?_
              refine xnil ?_
              refine xin_normal ?_
              exact xmeet ⟨((x323 ++ y459.1) ++ [(10 : UInt8)]), i478, h, rfl⟩ ⟨(.cons rfl (.refl _) (.cons rfl (.refl _) (.cons rfl (.refl _) (.nil _)))), (SubM.of (.nil _) (.drop (.keep rfl (.nil _))))⟩
            · replace h := h.2 hp476
              refine xcondF' (b_f hp476) rfl ?_
              refine xskipc ?_
              refine xin_normal ?_
              exact xmeet ⟨(x323 ++ y459.1), i462, h, rfl⟩ ⟨(.cons rfl (.refl _) (.cons rfl (.refl _) (.cons rfl (.refl _) (.nil _)))), (SubM.of (.nil _) (.keep rfl (.nil _)))⟩
      · clear h
        rintro _ ⟨x443, i444, h, rfl⟩
        refine xregion ?_
        refine xvalP (pv_move rfl) rfl rfl ?_
        obtain ⟨h479, h⟩ := h
        refine xvalP (pv_addI h479 rfl rfl) rfl rfl ?_
        refine xvalP (pv_assign rfl) rfl rfl ?_
        refine xnil ?_
        obtain ⟨m', hm, hI⟩ := hag1 _ h
        exact xagain ⟨x443, (x325 + 1), i444, hI, rfl⟩ hm ⟨(.cons rfl (.refl _) (.cons rfl (.refl _) (.cons rfl (.refl _) (.nil _)))), (SubM.of (.nil _) (.keep rfl (.nil _)))⟩
    · replace h := h.2 hp408
      refine xcondF' (decide_eq_false hp408) rfl ?_
      refine xexit ?_
      refine xthen_exit ?_
      refine xthen_exit ?_
      refine xin_same rfl ?_
      refine xthen ?_
      refine xseq ?_
      refine xregion ?_
      refine xvalP (pv_buildC StrC.h rfl rfl) rfl rfl ?_
      refine xbox rfl rfl rfl rfl fun b50 => ?_
      refine xaddRb eb 5 1 ?_
      refine xwkB 1 [.rb none (([] : List UInt8).length), .v (.bool false), .v (.int .i64 5000)] rfl (.cons Wk.nil_rb (.cons (.refl _) (.cons (.refl _) .nil))) ?_
      refine xvalP (pv_assign rfl) rfl rfl ?_
      refine xnil ?_
      refine xthen ?_
      refine xseq ?_
      refine xregion ?_
      refine xvalP (pv_buildC StrC.h rfl rfl) rfl rfl ?_
      refine xbox rfl rfl rfl rfl fun b52 => ?_
      refine xaddRb eb 5 1 ?_
      refine xwkB 1 [.rb none (([] : List UInt8).length), .v (.bool false), .v (.int .i64 5000)] rfl (.cons Wk.nil_rb (.cons (.refl _) (.cons (.refl _) .nil))) ?_
      refine xvalP (pv_assign rfl) rfl rfl ?_
      refine xnil ?_
      refine xthen ?_
      refine xseq ?_
      refine xregion ?_
      refine xvalP (pv_move rfl) rfl rfl ?_
      refine xvalP (pv_move rfl) rfl rfl ?_
      obtain ⟨y481, h480, h⟩ := h
      refine xcallF (Fb := [rbx none 5 1 (List.map eb (([] : List UInt8))), ⟨b52, 29, [.rb none (([] : List UInt8).length), .v (.bool false), .v (.int .i64 5000)]⟩]) (Ft := [⟨i324, 5, 1, x323.length⟩]) (sinks_Sink_Lines_con false 5000 ([] : List UInt8) x1 b50 none _ h480) Try.func6 (by kernel_rfl) rfl (.cons rfl (.refl _) (.cons rfl (.refl _) .nil)) (by refine SubM.trans (SubM.mvB 2 rfl) ?_; refine SubM.trans (SubM.mvB 3 rfl) ?_; (simp only [List.eraseIdx]); exact (SubM.of (by repeat (first | with_reducible exact SubB.refl _ | exact SubB.nil _ | refine SubB.keep rfl rfl (by first | with_reducible exact WkL.refl _ | ((repeat (first | exact WkL.nil | refine WkL.cons (by first | with_reducible exact Wk.refl _ | exact Wk.nil_own _ | exact Wk.nil_pl _ | with_reducible exact Wk.tok _ _ _ | exact Wk.tok _ _ _ | exact Wk.eq (by first | rfl | (simp []; done) | (simp []; omega))) ?_)); done) | exact WkL.refl _) ?_ | refine SubB.drop ?_)) (by repeat (first | exact SubT.nil _ | refine SubT.add ?_ | (refine SubT.keep ?_ ?_; focus (first | with_reducible rfl | (simp []; done))) | refine SubT.drop ?_)))) rfl rfl ?_
      rintro _ _ _ ⟨i482, rfl, rfl, rfl⟩
      simp only [List.nil_append, List.cons_append]
      refine xvalP (pv_assign rfl) rfl rfl ?_
      refine xnil ?_
      refine xthen ?_
      refine xseq ?_
      refine xseq ?_
      refine xregion ?_
      refine xvalP (pv_assign rfl) rfl rfl ?_
      refine xnil ?_
      refine xthen ?_
      refine xblock ?_
      obtain ⟨Inv, ⟨m0, hI⟩, hS⟩ := h
      refine xloop (fun σ m => ∃ (x571 : Int), ∃ (f572 : Bool), ∃ (l573 : List UInt8), ∃ (i574 : Option (Nat × Nat)), Inv (x571, f572, l573) m ∧ σ = ⟨[(0, .sl 2 none (List.map E_palinode_api_Line x1)), (3, .sl 1 (some i324) (List.map eb x323)), (5, .v (.pointer (some ⟨b50, 0, none⟩))), (6, .v (.pointer (some ⟨b52, 0, none⟩))), (7, .v (.int .i64 y481.1)), (8, .v (.int .i64 x571))], [rbx i482 5 1 (List.map eb y481.2.1), ⟨b50, 29, [.rb i482 y481.2.1.length, .v (.bool y481.2.2), .v (.int .i64 5000)]⟩, rbx i574 5 1 (List.map eb l573), ⟨b52, 29, [.rb i574 l573.length, .v (.bool f572), .v (.int .i64 5000)]⟩], [⟨i324, 5, 1, x323.length⟩]⟩) ⟨0, false, ([] : List UInt8), none, hI, rfl⟩ ⟨(.cons rfl (.refl _) (.cons rfl (.refl _) (.cons rfl (.refl _) (.cons rfl (.refl _) (.cons rfl (.refl _) (.cons rfl (.refl _) (.nil _))))))), by exact (SubM.of (.keep rfl rfl (.refl _) (.keep rfl rfl (.cons (.eq (by first | rfl | simp)) (.cons (.refl _) (.cons (.refl _) .nil))) (.keep rfl rfl (.refl _) (.keep rfl rfl (.cons (.eq (by first | rfl | simp)) (.cons (.refl _) (.cons (.refl _) .nil))) (.nil _))))) (.keep rfl (.nil _)))⟩ ?_
      rintro _ m ⟨x571, f572, l573, i574, hI, rfl⟩
      obtain ⟨ag4, hag4, h⟩ : ∃ ag, (∀ s', ag s' → ∃ m', m' < m ∧ Inv s' m') ∧ palinodelaw19_SinksJoin_l4 x1 y481 x323 ag x571 f572 l573 r := ⟨_, fun _ h => h, hS (x571, f572, l573) _ hI⟩
      clear hS hI
      refine xseq ?_
      refine xseq ?_
      refine xregion ?_
      refine xvalP (pv_move rfl) rfl rfl ?_
      refine xvalP (pv_move rfl) rfl rfl ?_
      refine xvalP (pv_lenM UndC.h rfl) rfl rfl ?_
      refine xvalP (pv_bin2 rfl rfl rfl) rfl rfl ?_
      refine xnil ?_
      refine xthen ?_
      by_cases hp601 : x571 < (x1.length : Int)
      · replace h := h.1 hp601
        refine xcondT' (decide_eq_true hp601) rfl ?_
        refine xskipc ?_
        refine xthen ?_
        refine xseq ?_
        refine xblock ?_
        refine xseq ?_
        refine xregion ?_
        refine xvalP (pv_move rfl) rfl rfl ?_
        refine xvalP (pv_move rfl) rfl rfl ?_
        refine xvalP (pv_move rfl) rfl rfl ?_
        obtain ⟨h610a, h⟩ := h
        obtain ⟨y609, h610b, h⟩ := h
        refine xvalP (pv_indexAddrM h610a h610b UndC.h ShpC.h rfl rfl) rfl rfl ?_
        refine xval (qv_load ShpC.h rfl rfl rfl) rfl rfl ?_
        obtain ⟨y612, h611, h⟩ := h
        refine xcallF (Fb := [rbx i482 5 1 (List.map eb y481.2.1), ⟨b50, 29, [.rb i482 y481.2.1.length, .v (.bool y481.2.2), .v (.int .i64 5000)]⟩]) (Ft := [⟨i324, 5, 1, x323.length⟩]) (sinks_Sink_Line_con f572 5000 l573 y609 b52 i574 _ h611) Try.func7 (by kernel_rfl) rfl (.cons rfl (.refl _) (.cons rfl (.refl _) .nil)) (by refine SubM.trans (SubM.mvB 2 rfl) ?_; refine SubM.trans (SubM.mvB 3 rfl) ?_; (simp only [List.eraseIdx]); exact (SubM.of (by repeat (first | with_reducible exact SubB.refl _ | exact SubB.nil _ | refine SubB.keep rfl rfl (by first | with_reducible exact WkL.refl _ | ((repeat (first | exact WkL.nil | refine WkL.cons (by first | with_reducible exact Wk.refl _ | exact Wk.nil_own _ | exact Wk.nil_pl _ | with_reducible exact Wk.tok _ _ _ | exact Wk.tok _ _ _ | exact Wk.eq (by first | rfl | (simp []; done) | (simp []; omega))) ?_)); done) | exact WkL.refl _) ?_ | refine SubB.drop ?_)) (by repeat (first | exact SubT.nil _ | refine SubT.add ?_ | (refine SubT.keep ?_ ?_; focus (first | with_reducible rfl | (simp []; done))) | refine SubT.drop ?_)))) rfl rfl ?_
        rintro _ _ _ ⟨i613, rfl, rfl, rfl⟩
        simp only [List.nil_append, List.cons_append]
        refine xvalP (pv_bin2 rfl rfl rfl) rfl rfl ?_
        refine xnil ?_
        refine xthen ?_
        by_cases hp615 : ¬ (y612.1 = 0)
        · replace h := h.1 hp615
          refine xcondT' (not_t (decide_eq_false hp615)) rfl ?_
          refine xseq ?_
          refine xregion ?_
          refine xvalP (pv_assign rfl) rfl rfl ?_
          refine xnil ?_
          refine xthen ?_
          refine xretc ?_
          refine xin_ret ?_
          refine xthen_ret ?_
          refine xthen_ret ?_
          refine xin_ret ?_
          refine xthen_ret ?_
          replace h := h.symm
          subst h
          exact xret1 (bx' := []) (tk' := []) hg rfl rfl (.refl _) (SubM.of (.nil _) (.nil _)) ⟨rfl, rfl, rfl⟩
        · replace h := h.2 hp615
          refine xcondF' (not_f (decide_eq_true (Decidable.of_not_not hp615))) rfl ?_
          refine xskipc ?_
          refine xin_normal ?_
          refine xthen ?_
          refine xregion ?_
          refine xvalP (pv_move rfl) rfl rfl ?_
          obtain ⟨h616, h⟩ := h
          refine xvalP (pv_addI h616 rfl rfl) rfl rfl ?_
          refine xvalP (pv_assign rfl) rfl rfl ?_
          refine xnil ?_
          obtain ⟨m', hm, hI⟩ := hag4 _ h
          exact xagain ⟨(x571 + 1), y612.2.2, y612.2.1, i613, hI, rfl⟩ hm ⟨(.cons rfl (.refl _) (.cons rfl (.refl _) (.cons rfl (.refl _) (.cons rfl (.refl _) (.cons rfl (.refl _) (.cons rfl (.refl _) (.nil _))))))), by refine SubM.trans (SubM.mvB 1 rfl) ?_; refine SubM.trans (SubM.mvB 1 rfl) ?_; refine SubM.trans (SubM.mvB 3 rfl) ?_; refine SubM.trans (SubM.mvB 3 rfl) ?_; (simp only [List.eraseIdx]); exact (SubM.of (by repeat (first | with_reducible exact SubB.refl _ | exact SubB.nil _ | refine SubB.keep rfl rfl (by first | with_reducible exact WkL.refl _ | ((repeat (first | exact WkL.nil | refine WkL.cons (by first | with_reducible exact Wk.refl _ | exact Wk.nil_own _ | exact Wk.nil_pl _ | with_reducible exact Wk.tok _ _ _ | exact Wk.tok _ _ _ | exact Wk.eq (by first | rfl | (simp []; done) | (simp []; omega))) ?_)); done) | exact WkL.refl _) ?_ | refine SubB.drop ?_)) (by repeat (first | exact SubT.nil _ | refine SubT.add ?_ | (refine SubT.keep ?_ ?_; focus (first | with_reducible rfl | (simp []; done))) | refine SubT.drop ?_)))⟩
      · replace h := h.2 hp601
        refine xcondF' (decide_eq_false hp601) rfl ?_
        refine xexit ?_
        refine xthen_exit ?_
        refine xthen_exit ?_
        refine xin_same rfl ?_
        refine xthen ?_
        refine xseqM (fun σ => ∃ (x640 : Bool), palinodelaw19_SinksJoin_j5 x640 r ∧ σ = ⟨[(2, .v (.bool x640))], [], []⟩) ?_ ?_
        · refine xregionD (m := 42) (by kernel_rfl) rfl ?_
          refine xpval 0 rfl (pv_move rfl) rfl rfl (by kernel_rfl) (by kernel_rfl) (by kernel_rfl) (fun _ _ _ _ h => h) ?_
          refine xpval 1 rfl (pv_bin2 rfl rfl rfl) rfl rfl (by kernel_rfl) (by kernel_rfl) (by kernel_rfl) (fun _ _ _ _ h => h) ?_
          refine xpval 2 rfl (pv_move rfl) rfl rfl (by kernel_rfl) (by kernel_rfl) (by kernel_rfl) (fun _ _ _ _ h => h) ?_
          by_cases hp642 : y481.1 = 0
          · replace h := h.1 hp642
            refine psetB 71 (decide_eq_true hp642) rfl ?_
            obtain ⟨y644, h643, h⟩ := h
            refine xpval 3 rfl (pv_move rfl) rfl rfl (by kernel_rfl) (by kernel_rfl) (by kernel_rfl) (fun _ _ _ _ h => h) ?_
            refine xpval 4 rfl (pv_nilCheck rfl) rfl rfl (by kernel_rfl) (by kernel_rfl) (by kernel_rfl) (fun _ _ _ _ h => h) ?_
            refine xpval 5 rfl (qv_fieldAddrB FldC.h rfl) rfl rfl (by kernel_rfl) (by kernel_rfl) (by kernel_rfl) (fun _ _ _ _ h => h) ?_
            refine xpval 7 rfl (pv_move rfl) rfl rfl (by kernel_rfl) (by kernel_rfl) (by kernel_rfl) (fun _ _ _ _ h => h) ?_
            refine xpvalE 6 [] rfl (qv_loadB 1 ShpC.h rfl rfl rfl rfl) rfl rfl (by kernel_rfl) (by kernel_rfl) (by kernel_rfl) (fun _ _ _ _ h => h) ?_
            refine xpstep (i := 8) (by kernel_rfl) rfl ?_
            refine wcallF (Fb := [⟨b50, 29, [.rb i482 y481.2.1.length, .v (.bool y481.2.2), .v (.int .i64 5000)]⟩, rbx i574 5 1 (List.map eb l573), ⟨b52, 29, [.rb i574 l573.length, .v (.bool f572), .v (.int .i64 5000)]⟩]) (Ft := [⟨i324, 5, 1, x323.length⟩]) (palinoderef01_Same_con y481.2.1 x323 i482 _ h643) Try.func8 (by kernel_rfl) rfl (.cons rfl (.eq (by first | rfl | simp)) (.cons rfl (.tok _ _ _) .nil)) (by exact (SubM.of (by repeat (first | with_reducible exact SubB.refl _ | exact SubB.nil _ | refine SubB.keep rfl rfl (by first | with_reducible exact WkL.refl _ | ((repeat (first | exact WkL.nil | refine WkL.cons (by first | with_reducible exact Wk.refl _ | exact Wk.nil_own _ | exact Wk.nil_pl _ | with_reducible exact Wk.tok _ _ _ | exact Wk.tok _ _ _ | exact Wk.eq (by first | rfl | (simp []; done) | (simp []; omega))) ?_)); done) | exact WkL.refl _) ?_ | refine SubB.drop ?_)) (by repeat (first | exact SubT.nil _ | refine SubT.add ?_ | (refine SubT.keep ?_ ?_; focus (first | with_reducible rfl | (simp []; done))) | refine SubT.drop ?_)))) rfl rfl ?_
            rintro _ _ _ ⟨rfl, rfl, rfl⟩
            simp only [List.nil_append, List.cons_append]
            refine xpval 9 rfl (pv_pick rfl rfl) rfl rfl (by kernel_rfl) (by kernel_rfl) (by kernel_rfl) (fun _ _ _ _ h => h) ?_
            refine xpval 10 rfl (pv_move rfl) rfl rfl (by kernel_rfl) (by kernel_rfl) (by kernel_rfl) (fun _ _ _ _ h => h) ?_
            by_cases hp645 : y644 = true
            · replace h := h.1 hp645
              refine psetB 79 hp645 rfl ?_
              obtain ⟨y647, h646, h⟩ := h
              refine xpval 11 rfl (pv_move rfl) rfl rfl (by kernel_rfl) (by kernel_rfl) (by kernel_rfl) (fun _ _ _ _ h => h) ?_
              refine xpval 12 rfl (pv_nilCheck rfl) rfl rfl (by kernel_rfl) (by kernel_rfl) (by kernel_rfl) (fun _ _ _ _ h => h) ?_
              refine xpval 13 rfl (qv_fieldAddrB FldC.h rfl) rfl rfl (by kernel_rfl) (by kernel_rfl) (by kernel_rfl) (fun _ _ _ _ h => h) ?_
              refine xpval 15 rfl (pv_move rfl) rfl rfl (by kernel_rfl) (by kernel_rfl) (by kernel_rfl) (fun _ _ _ _ h => h) ?_
              refine xpvalE 14 [] rfl (qv_loadB 3 ShpC.h rfl rfl rfl rfl) rfl rfl (by kernel_rfl) (by kernel_rfl) (by kernel_rfl) (fun _ _ _ _ h => h) ?_
              refine xpstep (i := 16) (by kernel_rfl) rfl ?_
              refine wcallF (Fb := [rbx i482 5 1 (List.map eb y481.2.1), ⟨b50, 29, [.rb i482 y481.2.1.length, .v (.bool y481.2.2), .v (.int .i64 5000)]⟩, ⟨b52, 29, [.rb i574 l573.length, .v (.bool f572), .v (.int .i64 5000)]⟩]) (Ft := [⟨i324, 5, 1, x323.length⟩]) (palinoderef01_Same_con l573 x323 i574 _ h646) Try.func8 (by kernel_rfl) rfl (.cons rfl (.eq (by first | rfl | simp)) (.cons rfl (.tok _ _ _) .nil)) (by refine SubM.trans (SubM.mvB 2 rfl) ?_; (simp only [List.eraseIdx]); exact (SubM.of (by repeat (first | with_reducible exact SubB.refl _ | exact SubB.nil _ | refine SubB.keep rfl rfl (by first | with_reducible exact WkL.refl _ | ((repeat (first | exact WkL.nil | refine WkL.cons (by first | with_reducible exact Wk.refl _ | exact Wk.nil_own _ | exact Wk.nil_pl _ | with_reducible exact Wk.tok _ _ _ | exact Wk.tok _ _ _ | exact Wk.eq (by first | rfl | (simp []; done) | (simp []; omega))) ?_)); done) | exact WkL.refl _) ?_ | refine SubB.drop ?_)) (by repeat (first | exact SubT.nil _ | refine SubT.add ?_ | (refine SubT.keep ?_ ?_; focus (first | with_reducible rfl | (simp []; done))) | refine SubT.drop ?_)))) rfl rfl ?_
              rintro _ _ _ ⟨rfl, rfl, rfl⟩
              simp only [List.nil_append, List.cons_append]
              refine xpval 17 rfl (pv_pick rfl rfl) rfl rfl (by kernel_rfl) (by kernel_rfl) (by kernel_rfl) (fun _ _ _ _ h => h) ?_
              refine xpval 18 rfl (pv_move rfl) rfl rfl (by kernel_rfl) (by kernel_rfl) (by kernel_rfl) (fun _ _ _ _ h => h) ?_
              by_cases hp648 : y647 = true
              · replace h := h.1 hp648
                refine psetB 87 hp648 rfl ?_
                refine xpval 19 rfl (pv_move rfl) rfl rfl (by kernel_rfl) (by kernel_rfl) (by kernel_rfl) (fun _ _ _ _ h => h) ?_
                refine xpval 20 rfl (pv_nilCheck rfl) rfl rfl (by kernel_rfl) (by kernel_rfl) (by kernel_rfl) (fun _ _ _ _ h => h) ?_
                refine xpval 21 rfl (qv_fieldAddrB FldC.h rfl) rfl rfl (by kernel_rfl) (by kernel_rfl) (by kernel_rfl) (fun _ _ _ _ h => h) ?_
                refine xpval 23 rfl (pv_move rfl) rfl rfl (by kernel_rfl) (by kernel_rfl) (by kernel_rfl) (fun _ _ _ _ h => h) ?_
                refine xpval 24 rfl (pv_lenM UndC.h rfl) rfl rfl (by kernel_rfl) (by kernel_rfl) (by kernel_rfl) (fun _ _ _ _ h => h) ?_
                refine xpval 25 rfl (pv_bin2 rfl rfl rfl) rfl rfl (by kernel_rfl) (by kernel_rfl) (by kernel_rfl) (fun _ _ _ _ h => h) ?_
                by_cases hp651 : 0 < (x1.length : Int)
                · replace h := h.1 hp651
                  refine psetB 94 (decide_eq_true hp651) rfl ?_
                  obtain ⟨h653, h⟩ := h
                  obtain ⟨h655a, h⟩ := h
                  obtain ⟨y654, h655b, h⟩ := h
                  refine xpval 26 rfl (pv_move rfl) rfl rfl (by kernel_rfl) (by kernel_rfl) (by kernel_rfl) (fun _ _ _ _ h => h) ?_
                  refine xpval 27 rfl (pv_move rfl) rfl rfl (by kernel_rfl) (by kernel_rfl) (by kernel_rfl) (fun _ _ _ _ h => h) ?_
                  refine xpval 28 rfl (pv_move rfl) rfl rfl (by kernel_rfl) (by kernel_rfl) (by kernel_rfl) (fun _ _ _ _ h => h) ?_
                  refine xpval 29 rfl (pv_lenM UndC.h rfl) rfl rfl (by kernel_rfl) (by kernel_rfl) (by kernel_rfl) (fun _ _ _ _ h => h) ?_
                  refine xpval 30 rfl (pv_subI h653 rfl rfl) rfl rfl (by kernel_rfl) (by kernel_rfl) (by kernel_rfl) (fun _ _ _ _ h => h) ?_
                  refine xpval 31 rfl (pv_indexAddrM h655a h655b UndC.h ShpC.h rfl rfl) rfl rfl (by kernel_rfl) (by kernel_rfl) (by kernel_rfl) (fun _ _ _ _ h => h) ?_
                  refine xpval 32 rfl (qv_fieldAddrE FldC.h rfl) rfl rfl (by kernel_rfl) (by kernel_rfl) (by kernel_rfl) (fun _ _ _ _ h => h) ?_
                  refine xpvalE 33 [22] rfl (qv_load ShpC.h rfl rfl rfl) rfl rfl (by kernel_rfl) (by kernel_rfl) (by kernel_rfl) (fun _ _ _ _ h => h) ?_
                  refine xpval 34 rfl (pv_not rfl) rfl rfl (by kernel_rfl) (by kernel_rfl) (by kernel_rfl) (fun _ _ _ _ h => h) ?_
                  refine xpval 35 rfl (pv_pick rfl rfl) rfl rfl (by kernel_rfl) (by kernel_rfl) (by kernel_rfl) (fun _ _ _ _ h => h) ?_
                  refine xpvalE 22 [] rfl (qv_loadB 2 ShpC.h rfl rfl rfl rfl) rfl rfl (by kernel_rfl) (by kernel_rfl) (by kernel_rfl) (fun _ _ _ _ h => h) ?_
                  refine xpval 36 rfl (pv_eqB UndC.h rfl rfl) rfl rfl (by kernel_rfl) (by kernel_rfl) (by kernel_rfl) (fun _ _ _ _ h => h) ?_
                  refine xpval 37 rfl (pv_pick rfl rfl) rfl rfl (by kernel_rfl) (by kernel_rfl) (by kernel_rfl) (fun _ _ _ _ h => h) ?_
                  refine xpval 38 rfl (pv_move rfl) rfl rfl (by kernel_rfl) (by kernel_rfl) (by kernel_rfl) (fun _ _ _ _ h => h) ?_
                  by_cases hp657 : (y481.2.2 == (!y654.2)) = true
                  · replace h := h.1 hp657
                    refine psetB 107 hp657 rfl ?_
                    obtain ⟨y659, h658, h⟩ := h
                    refine xpstep (i := 39) (by kernel_rfl) rfl ?_
                    refine wcall0 (palinodelaw19_awake_con _ h658) Try.func5 (by kernel_rfl) rfl .nil rfl rfl ?_
                    refine xpval 40 rfl (pv_pick rfl rfl) rfl rfl (by kernel_rfl) (by kernel_rfl) (by kernel_rfl) (fun _ _ _ _ h => h) ?_
                    refine xpval 41 rfl (pv_assign rfl) rfl rfl (by kernel_rfl) (by kernel_rfl) (by kernel_rfl) (fun _ _ _ _ h => h) ?_
                    refine xpdone (by kernel_rfl) ?_
                    exact xmeet ⟨y659, h, rfl⟩ ⟨(.cons rfl (.refl _) (.nil _)), (SubM.of (.nil _) (.nil _))⟩
                  · replace h := h.2 hp657
                    refine psetB 107 (b_f hp657) rfl ?_
                    refine xpskip 39 rfl rfl rfl (by kernel_rfl) (by kernel_rfl) (by kernel_rfl) (fun _ _ _ _ h => h) ?_
                    refine xpval 40 rfl (pv_pick rfl rfl) rfl rfl (by kernel_rfl) (by kernel_rfl) (by kernel_rfl) (fun _ _ _ _ h => h) ?_
                    refine xpval 41 rfl (pv_assign rfl) rfl rfl (by kernel_rfl) (by kernel_rfl) (by kernel_rfl) (fun _ _ _ _ h => h) ?_
                    refine xpdone (by kernel_rfl) ?_
                    exact xmeet ⟨false, h, rfl⟩ ⟨(.cons rfl (.refl _) (.nil _)), (SubM.of (.nil _) (.nil _))⟩
                · replace h := h.2 hp651
                  refine psetB 94 (decide_eq_false hp651) rfl ?_
                  refine xpval 26 rfl (pv_move rfl) rfl rfl (by kernel_rfl) (by kernel_rfl) (by kernel_rfl) (fun _ _ _ _ h => h) ?_
                  refine xpskip 27 rfl rfl rfl (by kernel_rfl) (by kernel_rfl) (by kernel_rfl) (fun _ _ _ _ h => h) ?_
                  refine xpskip 28 rfl rfl rfl (by kernel_rfl) (by kernel_rfl) (by kernel_rfl) (fun _ _ _ _ h => h) ?_
                  refine xpskip 29 rfl rfl rfl (by kernel_rfl) (by kernel_rfl) (by kernel_rfl) (fun _ _ _ _ h => h) ?_
                  refine xpskip 30 rfl rfl rfl (by kernel_rfl) (by kernel_rfl) (by kernel_rfl) (fun _ _ _ _ h => h) ?_
                  refine xpskip 31 rfl rfl rfl (by kernel_rfl) (by kernel_rfl) (by kernel_rfl) (fun _ _ _ _ h => h) ?_
                  refine xpskip 32 rfl rfl rfl (by kernel_rfl) (by kernel_rfl) (by kernel_rfl) (fun _ _ _ _ h => h) ?_
                  refine xpskip 33 rfl rfl rfl (by kernel_rfl) (by kernel_rfl) (by kernel_rfl) (fun _ _ _ _ h => h) ?_
                  refine xpskip 34 rfl rfl rfl (by kernel_rfl) (by kernel_rfl) (by kernel_rfl) (fun _ _ _ _ h => h) ?_
                  refine xpval 35 rfl (pv_pick rfl rfl) rfl rfl (by kernel_rfl) (by kernel_rfl) (by kernel_rfl) (fun _ _ _ _ h => h) ?_
                  refine xpvalE 22 [] rfl (qv_loadB 2 ShpC.h rfl rfl rfl rfl) rfl rfl (by kernel_rfl) (by kernel_rfl) (by kernel_rfl) (fun _ _ _ _ h => h) ?_
                  refine xpval 36 rfl (pv_eqB UndC.h rfl rfl) rfl rfl (by kernel_rfl) (by kernel_rfl) (by kernel_rfl) (fun _ _ _ _ h => h) ?_
                  refine xpval 37 rfl (pv_pick rfl rfl) rfl rfl (by kernel_rfl) (by kernel_rfl) (by kernel_rfl) (fun _ _ _ _ h => h) ?_
                  refine xpval 38 rfl (pv_move rfl) rfl rfl (by kernel_rfl) (by kernel_rfl) (by kernel_rfl) (fun _ _ _ _ h => h) ?_
                  by_cases hp661 : (y481.2.2 == false) = true
                  · replace h := h.1 hp661
                    refine psetB 107 hp661 rfl ?_
                    obtain ⟨y663, h662, h⟩ := h
                    refine xpstep (i := 39) (by kernel_rfl) rfl ?_
                    refine wcall0 (palinodelaw19_awake_con _ h662) Try.func5 (by kernel_rfl) rfl .nil rfl rfl ?_
                    refine xpval 40 rfl (pv_pick rfl rfl) rfl rfl (by kernel_rfl) (by kernel_rfl) (by kernel_rfl) (fun _ _ _ _ h => h) ?_
                    refine xpval 41 rfl (pv_assign rfl) rfl rfl (by kernel_rfl) (by kernel_rfl) (by kernel_rfl) (fun _ _ _ _ h => h) ?_
                    refine xpdone (by kernel_rfl) ?_
                    exact xmeet ⟨y663, h, rfl⟩ ⟨(.cons rfl (.refl _) (.nil _)), (SubM.of (.nil _) (.nil _))⟩
                  · replace h := h.2 hp661
                    refine psetB 107 (b_f hp661) rfl ?_
                    refine xpskip 39 rfl rfl rfl (by kernel_rfl) (by kernel_rfl) (by kernel_rfl) (fun _ _ _ _ h => h) ?_
                    refine xpval 40 rfl (pv_pick rfl rfl) rfl rfl (by kernel_rfl) (by kernel_rfl) (by kernel_rfl) (fun _ _ _ _ h => h) ?_
                    refine xpval 41 rfl (pv_assign rfl) rfl rfl (by kernel_rfl) (by kernel_rfl) (by kernel_rfl) (fun _ _ _ _ h => h) ?_
                    refine xpdone (by kernel_rfl) ?_
                    exact xmeet ⟨false, h, rfl⟩ ⟨(.cons rfl (.refl _) (.nil _)), (SubM.of (.nil _) (.nil _))⟩
              · replace h := h.2 hp648
                refine psetB 87 (b_f hp648) rfl ?_
                refine xpskip 19 rfl rfl rfl (by kernel_rfl) (by kernel_rfl) (by kernel_rfl) (fun _ _ _ _ h => h) ?_
                refine xpskip 20 rfl rfl rfl (by kernel_rfl) (by kernel_rfl) (by kernel_rfl) (fun _ _ _ _ h => h) ?_
                refine xpskip 21 rfl rfl rfl (by kernel_rfl) (by kernel_rfl) (by kernel_rfl) (fun _ _ _ _ h => h) ?_
                refine xpskip 22 rfl rfl rfl (by kernel_rfl) (by kernel_rfl) (by kernel_rfl) (fun _ _ _ _ h => h) ?_
                refine xpskip 23 rfl rfl rfl (by kernel_rfl) (by kernel_rfl) (by kernel_rfl) (fun _ _ _ _ h => h) ?_
                refine xpskip 24 rfl rfl rfl (by kernel_rfl) (by kernel_rfl) (by kernel_rfl) (fun _ _ _ _ h => h) ?_
                refine xpskip 25 rfl rfl rfl (by kernel_rfl) (by kernel_rfl) (by kernel_rfl) (fun _ _ _ _ h => h) ?_
                refine xpskip 26 rfl rfl rfl (by kernel_rfl) (by kernel_rfl) (by kernel_rfl) (fun _ _ _ _ h => h) ?_
                refine xpskip 27 rfl rfl rfl (by kernel_rfl) (by kernel_rfl) (by kernel_rfl) (fun _ _ _ _ h => h) ?_
                refine xpskip 28 rfl rfl rfl (by kernel_rfl) (by kernel_rfl) (by kernel_rfl) (fun _ _ _ _ h => h) ?_
                refine xpskip 29 rfl rfl rfl (by kernel_rfl) (by kernel_rfl) (by kernel_rfl) (fun _ _ _ _ h => h) ?_
                refine xpskip 30 rfl rfl rfl (by kernel_rfl) (by kernel_rfl) (by kernel_rfl) (fun _ _ _ _ h => h) ?_
                refine xpskip 31 rfl rfl rfl (by kernel_rfl) (by kernel_rfl) (by kernel_rfl) (fun _ _ _ _ h => h) ?_
                refine xpskip 32 rfl rfl rfl (by kernel_rfl) (by kernel_rfl) (by kernel_rfl) (fun _ _ _ _ h => h) ?_
                refine xpskip 33 rfl rfl rfl (by kernel_rfl) (by kernel_rfl) (by kernel_rfl) (fun _ _ _ _ h => h) ?_
                refine xpskip 34 rfl rfl rfl (by kernel_rfl) (by kernel_rfl) (by kernel_rfl) (fun _ _ _ _ h => h) ?_
                refine xpskip 35 rfl rfl rfl (by kernel_rfl) (by kernel_rfl) (by kernel_rfl) (fun _ _ _ _ h => h) ?_
                refine xpskip 36 rfl rfl rfl (by kernel_rfl) (by kernel_rfl) (by kernel_rfl) (fun _ _ _ _ h => h) ?_
                refine xpval 37 rfl (pv_pick rfl rfl) rfl rfl (by kernel_rfl) (by kernel_rfl) (by kernel_rfl) (fun _ _ _ _ h => h) ?_
                refine xpval 38 rfl (pv_move rfl) rfl rfl (by kernel_rfl) (by kernel_rfl) (by kernel_rfl) (fun _ _ _ _ h => h) ?_
                refine xpskip 39 rfl rfl rfl (by kernel_rfl) (by kernel_rfl) (by kernel_rfl) (fun _ _ _ _ h => h) ?_
                refine xpval 40 rfl (pv_pick rfl rfl) rfl rfl (by kernel_rfl) (by kernel_rfl) (by kernel_rfl) (fun _ _ _ _ h => h) ?_
                refine xpval 41 rfl (pv_assign rfl) rfl rfl (by kernel_rfl) (by kernel_rfl) (by kernel_rfl) (fun _ _ _ _ h => h) ?_
                refine xpdone (by kernel_rfl) ?_
                exact xmeet ⟨false, h, rfl⟩ ⟨(.cons rfl (.refl _) (.nil _)), (SubM.of (.nil _) (.nil _))⟩
            · replace h := h.2 hp645
              refine psetB 79 (b_f hp645) rfl ?_
              refine xpskip 11 rfl rfl rfl (by kernel_rfl) (by kernel_rfl) (by kernel_rfl) (fun _ _ _ _ h => h) ?_
              refine xpskip 12 rfl rfl rfl (by kernel_rfl) (by kernel_rfl) (by kernel_rfl) (fun _ _ _ _ h => h) ?_
              refine xpskip 13 rfl rfl rfl (by kernel_rfl) (by kernel_rfl) (by kernel_rfl) (fun _ _ _ _ h => h) ?_
              refine xpskip 14 rfl rfl rfl (by kernel_rfl) (by kernel_rfl) (by kernel_rfl) (fun _ _ _ _ h => h) ?_
              refine xpskip 15 rfl rfl rfl (by kernel_rfl) (by kernel_rfl) (by kernel_rfl) (fun _ _ _ _ h => h) ?_
              refine xpskip 16 rfl rfl rfl (by kernel_rfl) (by kernel_rfl) (by kernel_rfl) (fun _ _ _ _ h => h) ?_
              refine xpval 17 rfl (pv_pick rfl rfl) rfl rfl (by kernel_rfl) (by kernel_rfl) (by kernel_rfl) (fun _ _ _ _ h => h) ?_
              refine xpval 18 rfl (pv_move rfl) rfl rfl (by kernel_rfl) (by kernel_rfl) (by kernel_rfl) (fun _ _ _ _ h => h) ?_
              refine xpskip 19 rfl rfl rfl (by kernel_rfl) (by kernel_rfl) (by kernel_rfl) (fun _ _ _ _ h => h) ?_
              refine xpskip 20 rfl rfl rfl (by kernel_rfl) (by kernel_rfl) (by kernel_rfl) (fun _ _ _ _ h => h) ?_
              refine xpskip 21 rfl rfl rfl (by kernel_rfl) (by kernel_rfl) (by kernel_rfl) (fun _ _ _ _ h => h) ?_
              refine xpskip 22 rfl rfl rfl (by kernel_rfl) (by kernel_rfl) (by kernel_rfl) (fun _ _ _ _ h => h) ?_
              refine xpskip 23 rfl rfl rfl (by kernel_rfl) (by kernel_rfl) (by kernel_rfl) (fun _ _ _ _ h => h) ?_
              refine xpskip 24 rfl rfl rfl (by kernel_rfl) (by kernel_rfl) (by kernel_rfl) (fun _ _ _ _ h => h) ?_
              refine xpskip 25 rfl rfl rfl (by kernel_rfl) (by kernel_rfl) (by kernel_rfl) (fun _ _ _ _ h => h) ?_
              refine xpskip 26 rfl rfl rfl (by kernel_rfl) (by kernel_rfl) (by kernel_rfl) (fun _ _ _ _ h => h) ?_
              refine xpskip 27 rfl rfl rfl (by kernel_rfl) (by kernel_rfl) (by kernel_rfl) (fun _ _ _ _ h => h) ?_
              refine xpskip 28 rfl rfl rfl (by kernel_rfl) (by kernel_rfl) (by kernel_rfl) (fun _ _ _ _ h => h) ?_
              refine xpskip 29 rfl rfl rfl (by kernel_rfl) (by kernel_rfl) (by kernel_rfl) (fun _ _ _ _ h => h) ?_
              refine xpskip 30 rfl rfl rfl (by kernel_rfl) (by kernel_rfl) (by kernel_rfl) (fun _ _ _ _ h => h) ?_
              refine xpskip 31 rfl rfl rfl (by kernel_rfl) (by kernel_rfl) (by kernel_rfl) (fun _ _ _ _ h => h) ?_
              refine xpskip 32 rfl rfl rfl (by kernel_rfl) (by kernel_rfl) (by kernel_rfl) (fun _ _ _ _ h => h) ?_
              refine xpskip 33 rfl rfl rfl (by kernel_rfl) (by kernel_rfl) (by kernel_rfl) (fun _ _ _ _ h => h) ?_
              refine xpskip 34 rfl rfl rfl (by kernel_rfl) (by kernel_rfl) (by kernel_rfl) (fun _ _ _ _ h => h) ?_
              refine xpskip 35 rfl rfl rfl (by kernel_rfl) (by kernel_rfl) (by kernel_rfl) (fun _ _ _ _ h => h) ?_
              refine xpskip 36 rfl rfl rfl (by kernel_rfl) (by kernel_rfl) (by kernel_rfl) (fun _ _ _ _ h => h) ?_
              refine xpval 37 rfl (pv_pick rfl rfl) rfl rfl (by kernel_rfl) (by kernel_rfl) (by kernel_rfl) (fun _ _ _ _ h => h) ?_
              refine xpval 38 rfl (pv_move rfl) rfl rfl (by kernel_rfl) (by kernel_rfl) (by kernel_rfl) (fun _ _ _ _ h => h) ?_
              refine xpskip 39 rfl rfl rfl (by kernel_rfl) (by kernel_rfl) (by kernel_rfl) (fun _ _ _ _ h => h) ?_
              refine xpval 40 rfl (pv_pick rfl rfl) rfl rfl (by kernel_rfl) (by kernel_rfl) (by kernel_rfl) (fun _ _ _ _ h => h) ?_
              refine xpval 41 rfl (pv_assign rfl) rfl rfl (by kernel_rfl) (by kernel_rfl) (by kernel_rfl) (fun _ _ _ _ h => h) ?_
              refine xpdone (by kernel_rfl) ?_
              exact xmeet ⟨false, h, rfl⟩ ⟨(.cons rfl (.refl _) (.nil _)), (SubM.of (.nil _) (.nil _))⟩
          · replace h := h.2 hp642
            refine psetB 71 (decide_eq_false hp642) rfl ?_
            refine xpskip 3 rfl rfl rfl (by kernel_rfl) (by kernel_rfl) (by kernel_rfl) (fun _ _ _ _ h => h) ?_
            refine xpskip 4 rfl rfl rfl (by kernel_rfl) (by kernel_rfl) (by kernel_rfl) (fun _ _ _ _ h => h) ?_
            refine xpskip 5 rfl rfl rfl (by kernel_rfl) (by kernel_rfl) (by kernel_rfl) (fun _ _ _ _ h => h) ?_
            refine xpskip 6 rfl rfl rfl (by kernel_rfl) (by kernel_rfl) (by kernel_rfl) (fun _ _ _ _ h => h) ?_
            refine xpskip 7 rfl rfl rfl (by kernel_rfl) (by kernel_rfl) (by kernel_rfl) (fun _ _ _ _ h => h) ?_
            refine xpskip 8 rfl rfl rfl (by kernel_rfl) (by kernel_rfl) (by kernel_rfl) (fun _ _ _ _ h => h) ?_
            refine xpval 9 rfl (pv_pick rfl rfl) rfl rfl (by kernel_rfl) (by kernel_rfl) (by kernel_rfl) (fun _ _ _ _ h => h) ?_
            refine xpval 10 rfl (pv_move rfl) rfl rfl (by kernel_rfl) (by kernel_rfl) (by kernel_rfl) (fun _ _ _ _ h => h) ?_
            refine xpskip 11 rfl rfl rfl (by kernel_rfl) (by kernel_rfl) (by kernel_rfl) (fun _ _ _ _ h => h) ?_
            refine xpskip 12 rfl rfl rfl (by kernel_rfl) (by kernel_rfl) (by kernel_rfl) (fun _ _ _ _ h => h) ?_
            refine xpskip 13 rfl rfl rfl (by kernel_rfl) (by kernel_rfl) (by kernel_rfl) (fun _ _ _ _ h => h) ?_
            refine xpskip 14 rfl rfl rfl (by kernel_rfl) (by kernel_rfl) (by kernel_rfl) (fun _ _ _ _ h => h) ?_
            refine xpskip 15 rfl rfl rfl (by kernel_rfl) (by kernel_rfl) (by kernel_rfl) (fun _ _ _ _ h => h) ?_
            refine xpskip 16 rfl rfl rfl (by kernel_rfl) (by kernel_rfl) (by kernel_rfl) (fun _ _ _ _ h => h) ?_
            refine xpval 17 rfl (pv_pick rfl rfl) rfl rfl (by kernel_rfl) (by kernel_rfl) (by kernel_rfl) (fun _ _ _ _ h => h) ?_
            refine xpval 18 rfl (pv_move rfl) rfl rfl (by kernel_rfl) (by kernel_rfl) (by kernel_rfl) (fun _ _ _ _ h => h) ?_
            refine xpskip 19 rfl rfl rfl (by kernel_rfl) (by kernel_rfl) (by kernel_rfl) (fun _ _ _ _ h => h) ?_
            refine xpskip 20 rfl rfl rfl (by kernel_rfl) (by kernel_rfl) (by kernel_rfl) (fun _ _ _ _ h => h) ?_
            refine xpskip 21 rfl rfl rfl (by kernel_rfl) (by kernel_rfl) (by kernel_rfl) (fun _ _ _ _ h => h) ?_
            refine xpskip 22 rfl rfl rfl (by kernel_rfl) (by kernel_rfl) (by kernel_rfl) (fun _ _ _ _ h => h) ?_
            refine xpskip 23 rfl rfl rfl (by kernel_rfl) (by kernel_rfl) (by kernel_rfl) (fun _ _ _ _ h => h) ?_
            refine xpskip 24 rfl rfl rfl (by kernel_rfl) (by kernel_rfl) (by kernel_rfl) (fun _ _ _ _ h => h) ?_
            refine xpskip 25 rfl rfl rfl (by kernel_rfl) (by kernel_rfl) (by kernel_rfl) (fun _ _ _ _ h => h) ?_
            refine xpskip 26 rfl rfl rfl (by kernel_rfl) (by kernel_rfl) (by kernel_rfl) (fun _ _ _ _ h => h) ?_
            refine xpskip 27 rfl rfl rfl (by kernel_rfl) (by kernel_rfl) (by kernel_rfl) (fun _ _ _ _ h => h) ?_
            refine xpskip 28 rfl rfl rfl (by kernel_rfl) (by kernel_rfl) (by kernel_rfl) (fun _ _ _ _ h => h) ?_
            refine xpskip 29 rfl rfl rfl (by kernel_rfl) (by kernel_rfl) (by kernel_rfl) (fun _ _ _ _ h => h) ?_
            refine xpskip 30 rfl rfl rfl (by kernel_rfl) (by kernel_rfl) (by kernel_rfl) (fun _ _ _ _ h => h) ?_
            refine xpskip 31 rfl rfl rfl (by kernel_rfl) (by kernel_rfl) (by kernel_rfl) (fun _ _ _ _ h => h) ?_
            refine xpskip 32 rfl rfl rfl (by kernel_rfl) (by kernel_rfl) (by kernel_rfl) (fun _ _ _ _ h => h) ?_
            refine xpskip 33 rfl rfl rfl (by kernel_rfl) (by kernel_rfl) (by kernel_rfl) (fun _ _ _ _ h => h) ?_
            refine xpskip 34 rfl rfl rfl (by kernel_rfl) (by kernel_rfl) (by kernel_rfl) (fun _ _ _ _ h => h) ?_
            refine xpskip 35 rfl rfl rfl (by kernel_rfl) (by kernel_rfl) (by kernel_rfl) (fun _ _ _ _ h => h) ?_
            refine xpskip 36 rfl rfl rfl (by kernel_rfl) (by kernel_rfl) (by kernel_rfl) (fun _ _ _ _ h => h) ?_
            refine xpval 37 rfl (pv_pick rfl rfl) rfl rfl (by kernel_rfl) (by kernel_rfl) (by kernel_rfl) (fun _ _ _ _ h => h) ?_
            refine xpval 38 rfl (pv_move rfl) rfl rfl (by kernel_rfl) (by kernel_rfl) (by kernel_rfl) (fun _ _ _ _ h => h) ?_
            refine xpskip 39 rfl rfl rfl (by kernel_rfl) (by kernel_rfl) (by kernel_rfl) (fun _ _ _ _ h => h) ?_
            refine xpval 40 rfl (pv_pick rfl rfl) rfl rfl (by kernel_rfl) (by kernel_rfl) (by kernel_rfl) (fun _ _ _ _ h => h) ?_
            refine xpval 41 rfl (pv_assign rfl) rfl rfl (by kernel_rfl) (by kernel_rfl) (by kernel_rfl) (fun _ _ _ _ h => h) ?_
            refine xpdone (by kernel_rfl) ?_
            exact xmeet ⟨false, h, rfl⟩ ⟨(.cons rfl (.refl _) (.nil _)), (SubM.of (.nil _) (.nil _))⟩
        · clear h
          rintro _ ⟨x640, h, rfl⟩
          refine xretc ?_
          replace h := h.symm
          subst h
          exact xret1 hg rfl rfl (.refl _) (SubM.of (.nil _) (.nil _)) ⟨rfl, rfl, rfl⟩
end Go.Proofs.Ythffeojphpajpaa
