/- What functions' texts ask for, and the walks that show it (printed by a program). -/
import Derived.Test.YthffeojphpajpaaGK
namespace Go.Proofs.Ythffeojphpajpaa
/-- palinodelaw19.SinksFull -/
def palinodelaw19_SinksFull_j2 (x233 : Int) (ag1 : (Int × Int × Bool × (List UInt8)) → Prop) (x317 : Int) (f318 : Bool) (l319 : List UInt8) (r : Bool) : Prop :=
  InR (x233 + 1) ∧ ag1 (x317, (x233 + 1), f318, l319)
def palinodelaw19_SinksFull_j3 (x374 : Bool) (r : Bool) : Prop :=
  r = x374
def palinodelaw19_SinksFull_l1 (x1 : List ((List UInt8) × Bool)) (x2 : UInt8) (ag1 : (Int × Int × Bool × (List UInt8)) → Prop) (x232 : Int) (x233 : Int) (f234 : Bool) (l235 : List UInt8) (r : Bool) : Prop :=
  ((x233 < (x1.length : Int) → 0 ≤ (x233 : Int) ∧ ∃ y328 : (List UInt8) × Bool, x1[(x233 : Int).toNat]? = some y328 ∧ ((60 < (y328.1.length : Int) → ∃ y334 : Bool, palinodelaw19_awake_R y334 ∧ r = y334) ∧ (¬ (60 < (y328.1.length : Int)) → ((x232 = 0 → 0 ≤ (x233 : Int) ∧ ∃ y337 : (List UInt8) × Bool, x1[(x233 : Int).toNat]? = some y337 ∧ ∃ y340 : Int × (List UInt8) × Bool, sinks_Sink_Line_R f234 (x2.toNat : Int) l235 y337 y340 ∧ palinodelaw19_SinksFull_j2 x233 ag1 y340.1 y340.2.2 y340.2.1 r) ∧ (¬ (x232 = 0) → palinodelaw19_SinksFull_j2 x233 ag1 x232 f234 l235 r))))) ∧ (¬ (x233 < (x1.length : Int)) → ∃ y344 : Int × (List UInt8) × Bool, sinks_Sink_Lines_R false (x2.toNat : Int) ([] : List UInt8) x1 y344 ∧ ((y344.1 = x232 → ((y344.1 = 0 → ((((y344.2.1.length : Nat) : Int) ≤ (x2.toNat : Int) → ∃ y384 : Bool, palinoderef01_Same_v2_R y344.2.1 l235 y384 ∧ ((y384 = true → (((y344.2.2 == f234) = true → ∃ y389 : Bool, palinodelaw19_awake_R y389 ∧ palinodelaw19_SinksFull_j3 y389 r) ∧ (¬ ((y344.2.2 == f234) = true) → palinodelaw19_SinksFull_j3 false r))) ∧ (¬ (y384 = true) → palinodelaw19_SinksFull_j3 false r))) ∧ (¬ (((y344.2.1.length : Nat) : Int) ≤ (x2.toNat : Int)) → palinodelaw19_SinksFull_j3 false r))) ∧ (¬ (y344.1 = 0) → ((y344.1 = 7 → ((((y344.2.1.length : Nat) : Int) ≤ (x2.toNat : Int) → ∃ y397 : Bool, palinoderef01_Same_v2_R y344.2.1 l235 y397 ∧ ((y397 = true → (((y344.2.2 == f234) = true → ∃ y402 : Bool, palinodelaw19_awake_R y402 ∧ palinodelaw19_SinksFull_j3 y402 r) ∧ (¬ ((y344.2.2 == f234) = true) → palinodelaw19_SinksFull_j3 false r))) ∧ (¬ (y397 = true) → palinodelaw19_SinksFull_j3 false r))) ∧ (¬ (((y344.2.1.length : Nat) : Int) ≤ (x2.toNat : Int)) → palinodelaw19_SinksFull_j3 false r))) ∧ (¬ (y344.1 = 7) → palinodelaw19_SinksFull_j3 false r))))) ∧ (¬ (y344.1 = x232) → palinodelaw19_SinksFull_j3 false r))))
def palinodelaw19_SinksFull_R (x1 : List ((List UInt8) × Bool)) (x2 : UInt8) (r : Bool) : Prop :=
  ((40 < (x1.length : Int) → ∃ y12 : Bool, palinodelaw19_awake_R y12 ∧ r = y12) ∧ (¬ (40 < (x1.length : Int)) → LoopR (fun ag1 s => palinodelaw19_SinksFull_l1 x1 x2 ag1 s.1 s.2.1 s.2.2.1 s.2.2.2 r) (0, 0, false, ([] : List UInt8))))
set_option maxHeartbeats 4000000 in
theorem palinodelaw19_SinksFull_con (x1 : List ((List UInt8) × Bool)) (x2 : UInt8) (r : Bool) (h : palinodelaw19_SinksFull_R x1 x2 r) : Con Try.prog 4 [.sl 2 none (List.map E_palinode_api_Line x1), .v (.int .u8 ((x2.toNat : Int)))] [] [] (Ret (.v (.bool r))) := by
  refine xenter Try.func4 rfl rfl fun g hg => ?_
  simp only [Try.ntmps4, slots]
  refine xseq ?_
  refine xregion ?_
  refine xvalP (pv_assign rfl) rfl rfl ?_
  refine xnil ?_
  refine xthen ?_
  refine xseq ?_
  refine xseq ?_
  refine xregion ?_
  refine xvalP (pv_move rfl) rfl rfl ?_
  refine xvalP (pv_lenM UndC.h rfl) rfl rfl ?_
  refine xvalP (pv_bin2 rfl rfl rfl) rfl rfl ?_
  refine xnil ?_
  refine xthen ?_
  by_cases hp10 : 40 < (x1.length : Int)
  · replace h := h.1 hp10
    refine xcondT' (decide_eq_true hp10) rfl ?_
    refine xseq ?_
    refine xregion ?_
    obtain ⟨y12, h11, h⟩ := h
    refine xcall0 (palinodelaw19_awake_con _ h11) Try.func5 (by kernel_rfl) rfl .nil rfl rfl ?_
    refine xvalP (pv_assign rfl) rfl rfl ?_
    refine xnil ?_
    refine xthen ?_
    refine xretc ?_
    refine xthen_ret ?_
    replace h := h.symm
    subst h
    exact xret1 hg rfl rfl (.refl _) (SubM.of (.nil _) (.nil _)) ⟨rfl, rfl, rfl⟩
  · replace h := h.2 hp10
    refine xcondF' (decide_eq_false hp10) rfl ?_
    refine xskipc ?_
    refine xthen ?_
    refine xseq ?_
    refine xregion ?_
    refine xvalP (pv_move rfl) rfl rfl ?_
    refine xvalP (pv_convW (w8 x2) UndC.h UndC.h rfl) rfl rfl ?_
    refine xvalP (pv_buildC StrC.h rfl rfl) rfl rfl ?_
    refine xbox rfl rfl rfl rfl fun b17 => ?_
    refine xaddRb eb 5 1 ?_
    refine xwkB 1 [.rb none (([] : List UInt8).length), .v (.bool false), .v (.int .i64 ((x2.toNat : Int)))] rfl (.cons Wk.nil_rb (.cons (.refl _) (.cons (.refl _) .nil))) ?_
    refine xvalP (pv_assign rfl) rfl rfl ?_
    refine xnil ?_
    refine xthen ?_
    refine xseq ?_
    refine xregion ?_
    refine xvalP (pv_move rfl) rfl rfl ?_
    refine xvalP (pv_convW (w8 x2) UndC.h UndC.h rfl) rfl rfl ?_
    refine xvalP (pv_buildC StrC.h rfl rfl) rfl rfl ?_
    refine xbox rfl rfl rfl rfl fun b21 => ?_
    refine xaddRb eb 5 1 ?_
    refine xwkB 1 [.rb none (([] : List UInt8).length), .v (.bool false), .v (.int .i64 ((x2.toNat : Int)))] rfl (.cons Wk.nil_rb (.cons (.refl _) (.cons (.refl _) .nil))) ?_
    refine xvalP (pv_assign rfl) rfl rfl ?_
    refine xnil ?_
    refine xthen ?_
    refine xseq ?_
    refine xregion ?_
    refine xvalP (pv_assign rfl) rfl rfl ?_
    refine xnil ?_
    refine xthen ?_
    refine xseq ?_
    refine xseq ?_
    refine xregion ?_
    refine xvalP (pv_assign rfl) rfl rfl ?_
    refine xnil ?_
    refine xthen ?_
    refine xblock ?_
    obtain ⟨Inv, ⟨m0, hI⟩, hS⟩ := h
    refine xloop (fun σ m => ∃ (x232 : Int), ∃ (x233 : Int), ∃ (f234 : Bool), ∃ (l235 : List UInt8), ∃ (i236 : Option (Nat × Nat)), Inv (x232, x233, f234, l235) m ∧ σ = ⟨[(0, .sl 2 none (List.map E_palinode_api_Line x1)), (1, .v (.int .u8 ((x2.toNat : Int)))), (5, .v (.pointer (some ⟨b17, 0, none⟩))), (6, .v (.pointer (some ⟨b21, 0, none⟩))), (7, .v (.int .i64 x232)), (8, .v (.int .i64 x233))], [rbx i236 5 1 (List.map eb l235), ⟨b21, 29, [.rb i236 l235.length, .v (.bool f234), .v (.int .i64 ((x2.toNat : Int)))]⟩, rbx none 5 1 (List.map eb (([] : List UInt8))), ⟨b17, 29, [.rb none (([] : List UInt8).length), .v (.bool false), .v (.int .i64 ((x2.toNat : Int)))]⟩], []⟩) ⟨0, 0, false, ([] : List UInt8), none, hI, rfl⟩ ⟨(.cons rfl (.refl _) (.cons rfl (.refl _) (.cons rfl (.refl _) (.cons rfl (.refl _) (.cons rfl (.refl _) (.cons rfl (.refl _) (.nil _))))))), by exact (SubM.of (.keep rfl rfl (.refl _) (.keep rfl rfl (.cons (.eq (by first | rfl | simp)) (.cons (.refl _) (.cons (.refl _) .nil))) (.keep rfl rfl (.refl _) (.keep rfl rfl (.cons (.eq (by first | rfl | simp)) (.cons (.refl _) (.cons (.refl _) .nil))) (.nil _))))) (.nil _))⟩ ?_
    rintro _ m ⟨x232, x233, f234, l235, i236, hI, rfl⟩
    obtain ⟨ag1, hag1, h⟩ : ∃ ag, (∀ s', ag s' → ∃ m', m' < m ∧ Inv s' m') ∧ palinodelaw19_SinksFull_l1 x1 x2 ag x232 x233 f234 l235 r := ⟨_, fun _ h => h, hS (x232, x233, f234, l235) _ hI⟩
    clear hS hI
    refine xseq ?_
    refine xseq ?_
    refine xregion ?_
    refine xvalP (pv_move rfl) rfl rfl ?_
    refine xvalP (pv_move rfl) rfl rfl ?_
    refine xvalP (pv_lenM UndC.h rfl) rfl rfl ?_
    refine xvalP (pv_bin2 rfl rfl rfl) rfl rfl ?_
    refine xnil ?_
    refine xthen ?_
    by_cases hp295 : x233 < (x1.length : Int)
    · replace h := h.1 hp295
      refine xcondT' (decide_eq_true hp295) rfl ?_
      refine xskipc ?_
      refine xthen ?_
      refine xseqM (fun σ => ∃ (x317 : Int), ∃ (f318 : Bool), ∃ (l319 : List UInt8), ∃ (i320 : Option (Nat × Nat)), palinodelaw19_SinksFull_j2 x233 ag1 x317 f318 l319 r ∧ σ = ⟨[(0, .sl 2 none (List.map E_palinode_api_Line x1)), (1, .v (.int .u8 ((x2.toNat : Int)))), (5, .v (.pointer (some ⟨b17, 0, none⟩))), (6, .v (.pointer (some ⟨b21, 0, none⟩))), (7, .v (.int .i64 x317)), (8, .v (.int .i64 x233))], [rbx i320 5 1 (List.map eb l319), ⟨b21, 29, [.rb i320 l319.length, .v (.bool f318), .v (.int .i64 ((x2.toNat : Int)))]⟩, rbx none 5 1 (List.map eb (([] : List UInt8))), ⟨b17, 29, [.rb none (([] : List UInt8).length), .v (.bool false), .v (.int .i64 ((x2.toNat : Int)))]⟩], []⟩) ?_ ?_
      · refine xblock ?_
        refine xseq ?_
        refine xseq ?_
        refine xregion ?_
        refine xvalP (pv_move rfl) rfl rfl ?_
        refine xvalP (pv_move rfl) rfl rfl ?_
        obtain ⟨h329a, h⟩ := h
        obtain ⟨y328, h329b, h⟩ := h
        refine xvalP (pv_indexAddrM h329a h329b UndC.h ShpC.h rfl rfl) rfl rfl ?_
        refine xvalP (qv_fieldAddrE FldC.h rfl) rfl rfl ?_
        refine xval (qv_load ShpC.h rfl rfl rfl) rfl rfl ?_
        refine xvalP (pv_lenM UndC.h rfl) rfl rfl ?_
        refine xvalP (pv_bin2 rfl rfl rfl) rfl rfl ?_
        refine xnil ?_
        refine xthen ?_
        by_cases hp332 : 60 < (y328.1.length : Int)
        · replace h := h.1 hp332
          refine xcondT' (decide_eq_true hp332) rfl ?_
          refine xseq ?_
          refine xregion ?_
          obtain ⟨y334, h333, h⟩ := h
          refine xcall0 (palinodelaw19_awake_con _ h333) Try.func5 (by kernel_rfl) rfl .nil rfl rfl ?_
          refine xvalP (pv_assign rfl) rfl rfl ?_
          refine xnil ?_
          refine xthen ?_
          refine xretc ?_
          refine xthen_ret ?_
          refine xin_ret ?_
          refine xthen_ret ?_
          refine xthen_ret ?_
          refine xin_ret ?_
          refine xthen_ret ?_
          replace h := h.symm
          subst h
          exact xret1 (bx' := []) (tk' := []) hg rfl rfl (.refl _) (SubM.of (.nil _) (.nil _)) ⟨rfl, rfl, rfl⟩
        · replace h := h.2 hp332
          refine xcondF' (decide_eq_false hp332) rfl ?_
          refine xskipc ?_
          refine xthen ?_
          refine xseq ?_
          refine xregion ?_
          refine xvalP (pv_move rfl) rfl rfl ?_
          refine xvalP (pv_bin2 rfl rfl rfl) rfl rfl ?_
          refine xnil ?_
          refine xthen ?_
          by_cases hp336 : x232 = 0
          · replace h := h.1 hp336
            refine xcondT' (decide_eq_true hp336) rfl ?_
            refine xregion ?_
            refine xvalP (pv_move rfl) rfl rfl ?_
            refine xvalP (pv_move rfl) rfl rfl ?_
            refine xvalP (pv_move rfl) rfl rfl ?_
            obtain ⟨h338a, h⟩ := h
            obtain ⟨y337, h338b, h⟩ := h
            refine xvalP (pv_indexAddrM h338a h338b UndC.h ShpC.h rfl rfl) rfl rfl ?_
            refine xval (qv_load ShpC.h rfl rfl rfl) rfl rfl ?_
            obtain ⟨y340, h339, h⟩ := h
            refine xcallF (Fb := [rbx none 5 1 (List.map eb (([] : List UInt8))), ⟨b17, 29, [.rb none (([] : List UInt8).length), .v (.bool false), .v (.int .i64 ((x2.toNat : Int)))]⟩]) (Ft := []) (sinks_Sink_Line_con f234 (x2.toNat : Int) l235 y337 b21 i236 _ h339) Try.func7 (by kernel_rfl) rfl (.cons rfl (.refl _) (.cons rfl (.refl _) .nil)) (by refine SubM.trans (SubM.mvB 0 rfl) ?_; refine SubM.trans (SubM.mvB 1 rfl) ?_; (simp only [List.eraseIdx]); exact (SubM.of (by repeat (first | with_reducible exact SubB.refl _ | exact SubB.nil _ | refine SubB.keep rfl rfl (by first | with_reducible exact WkL.refl _ | ((repeat (first | exact WkL.nil | refine WkL.cons (by first | with_reducible exact Wk.refl _ | exact Wk.nil_own _ | exact Wk.nil_pl _ | with_reducible exact Wk.tok _ _ _ | exact Wk.tok _ _ _ | exact Wk.eq (by first | rfl | (simp []; done) | (simp []; omega))) ?_)); done) | exact WkL.refl _) ?_ | refine SubB.drop ?_)) (by repeat (first | exact SubT.nil _ | refine SubT.add ?_ | (refine SubT.keep ?_ ?_; focus (first | with_reducible rfl | (simp []; done))) | refine SubT.drop ?_)))) rfl rfl ?_
            rintro _ _ _ ⟨i341, rfl, rfl, rfl⟩
            simp only [List.nil_append, List.cons_append]
            refine xvalP (pv_assign rfl) rfl rfl ?_
            refine xnil ?_
            refine xin_normal ?_
            exact xmeet ⟨y340.1, y340.2.2, y340.2.1, i341, h, rfl⟩ ⟨(.cons rfl (.refl _) (.cons rfl (.refl _) (.cons rfl (.refl _) (.cons rfl (.refl _) (.cons rfl (.refl _) (.cons rfl (.refl _) (.nil _))))))), by exact (SubM.of (.keep rfl rfl (.refl _) (.keep rfl rfl (.cons (.eq (by first | rfl | simp)) (.cons (.refl _) (.cons (.refl _) .nil))) (.keep rfl rfl (.refl _) (.keep rfl rfl (.cons (.eq (by first | rfl | simp)) (.cons (.refl _) (.cons (.refl _) .nil))) (.nil _))))) (.nil _))⟩
          · replace h := h.2 hp336
            refine xcondF' (decide_eq_false hp336) rfl ?_
            refine xskipc ?_
            refine xin_normal ?_
            exact xmeet ⟨x232, f234, l235, i236, h, rfl⟩ ⟨(.cons rfl (.refl _) (.cons rfl (.refl _) (.cons rfl (.refl _) (.cons rfl (.refl _) (.cons rfl (.refl _) (.cons rfl (.refl _) (.nil _))))))), by exact (SubM.of (.keep rfl rfl (.refl _) (.keep rfl rfl (.cons (.eq (by first | rfl | simp)) (.cons (.refl _) (.cons (.refl _) .nil))) (.keep rfl rfl (.refl _) (.keep rfl rfl (.cons (.eq (by first | rfl | simp)) (.cons (.refl _) (.cons (.refl _) .nil))) (.nil _))))) (.nil _))⟩
      · clear h
        rintro _ ⟨x317, f318, l319, i320, h, rfl⟩
        refine xregion ?_
        refine xvalP (pv_move rfl) rfl rfl ?_
        obtain ⟨h342, h⟩ := h
        refine xvalP (pv_addI h342 rfl rfl) rfl rfl ?_
        refine xvalP (pv_assign rfl) rfl rfl ?_
        refine xnil ?_
        obtain ⟨m', hm, hI⟩ := hag1 _ h
        exact xagain ⟨x317, (x233 + 1), f318, l319, i320, hI, rfl⟩ hm ⟨(.cons rfl (.refl _) (.cons rfl (.refl _) (.cons rfl (.refl _) (.cons rfl (.refl _) (.cons rfl (.refl _) (.cons rfl (.refl _) (.nil _))))))), by exact (SubM.of (.keep rfl rfl (.refl _) (.keep rfl rfl (.cons (.eq (by first | rfl | simp)) (.cons (.refl _) (.cons (.refl _) .nil))) (.keep rfl rfl (.refl _) (.keep rfl rfl (.cons (.eq (by first | rfl | simp)) (.cons (.refl _) (.cons (.refl _) .nil))) (.nil _))))) (.nil _))⟩
    · replace h := h.2 hp295
      refine xcondF' (decide_eq_false hp295) rfl ?_
      refine xexit ?_
      refine xthen_exit ?_
      refine xthen_exit ?_
      refine xin_same rfl ?_
      refine xthen ?_
      refine xseq ?_
      refine xregion ?_
      refine xvalP (pv_move rfl) rfl rfl ?_
      refine xvalP (pv_move rfl) rfl rfl ?_
      obtain ⟨y344, h343, h⟩ := h
      refine xcallF (Fb := [rbx i236 5 1 (List.map eb l235), ⟨b21, 29, [.rb i236 l235.length, .v (.bool f234), .v (.int .i64 ((x2.toNat : Int)))]⟩]) (Ft := []) (sinks_Sink_Lines_con false (x2.toNat : Int) ([] : List UInt8) x1 b17 none _ h343) Try.func6 (by kernel_rfl) rfl (.cons rfl (.refl _) (.cons rfl (.refl _) .nil)) (by refine SubM.trans (SubM.mvB 2 rfl) ?_; refine SubM.trans (SubM.mvB 3 rfl) ?_; (simp only [List.eraseIdx]); exact (SubM.of (by repeat (first | with_reducible exact SubB.refl _ | exact SubB.nil _ | refine SubB.keep rfl rfl (by first | with_reducible exact WkL.refl _ | ((repeat (first | exact WkL.nil | refine WkL.cons (by first | with_reducible exact Wk.refl _ | exact Wk.nil_own _ | exact Wk.nil_pl _ | with_reducible exact Wk.tok _ _ _ | exact Wk.tok _ _ _ | exact Wk.eq (by first | rfl | (simp []; done) | (simp []; omega))) ?_)); done) | exact WkL.refl _) ?_ | refine SubB.drop ?_)) (by repeat (first | exact SubT.nil _ | refine SubT.add ?_ | (refine SubT.keep ?_ ?_; focus (first | with_reducible rfl | (simp []; done))) | refine SubT.drop ?_)))) rfl rfl ?_
      rintro _ _ _ ⟨i345, rfl, rfl, rfl⟩
      simp only [List.nil_append, List.cons_append]
      refine xvalP (pv_assign rfl) rfl rfl ?_
      refine xnil ?_
      refine xthen ?_
      refine xseqM (fun σ => ∃ (x374 : Bool), palinodelaw19_SinksFull_j3 x374 r ∧ σ = ⟨[(4, .v (.bool x374))], [], []⟩) ?_ ?_
      · refine xregionD (m := 47) (by kernel_rfl) rfl ?_
        refine xpval 0 rfl (pv_move rfl) rfl rfl (by kernel_rfl) (by kernel_rfl) (by kernel_rfl) (fun _ _ _ _ h => h) ?_
        refine xpval 1 rfl (pv_move rfl) rfl rfl (by kernel_rfl) (by kernel_rfl) (by kernel_rfl) (fun _ _ _ _ h => h) ?_
        refine xpval 2 rfl (pv_bin2 rfl rfl rfl) rfl rfl (by kernel_rfl) (by kernel_rfl) (by kernel_rfl) (fun _ _ _ _ h => h) ?_
        refine xpval 3 rfl (pv_move rfl) rfl rfl (by kernel_rfl) (by kernel_rfl) (by kernel_rfl) (fun _ _ _ _ h => h) ?_
        by_cases hp376 : y344.1 = x232
        · replace h := h.1 hp376
          refine psetB 50 (decide_eq_true hp376) rfl ?_
          refine xpval 4 rfl (pv_move rfl) rfl rfl (by kernel_rfl) (by kernel_rfl) (by kernel_rfl) (fun _ _ _ _ h => h) ?_
          refine xpval 5 rfl (pv_bin2 rfl rfl rfl) rfl rfl (by kernel_rfl) (by kernel_rfl) (by kernel_rfl) (fun _ _ _ _ h => h) ?_
          refine xpval 6 rfl (pv_move rfl) rfl rfl (by kernel_rfl) (by kernel_rfl) (by kernel_rfl) (fun _ _ _ _ h => h) ?_
          by_cases hp378 : y344.1 = 0
          · replace h := h.1 hp378
            refine psetB 53 (decide_eq_true hp378) rfl ?_
            refine xpskip 7 rfl rfl rfl (by kernel_rfl) (by kernel_rfl) (by kernel_rfl) (fun _ _ _ _ h => h) ?_
            refine xpskip 8 rfl rfl rfl (by kernel_rfl) (by kernel_rfl) (by kernel_rfl) (fun _ _ _ _ h => h) ?_
            refine xpval 9 rfl (pv_pick rfl rfl) rfl rfl (by kernel_rfl) (by kernel_rfl) (by kernel_rfl) (fun _ _ _ _ h => h) ?_
            refine xpval 10 rfl (pv_pick rfl rfl) rfl rfl (by kernel_rfl) (by kernel_rfl) (by kernel_rfl) (fun _ _ _ _ h => h) ?_
            refine xpval 11 rfl (pv_move rfl) rfl rfl (by kernel_rfl) (by kernel_rfl) (by kernel_rfl) (fun _ _ _ _ h => h) ?_
            refine xpval 12 rfl (pv_move rfl) rfl rfl (by kernel_rfl) (by kernel_rfl) (by kernel_rfl) (fun _ _ _ _ h => h) ?_
            refine xpval 13 rfl (pv_nilCheck rfl) rfl rfl (by kernel_rfl) (by kernel_rfl) (by kernel_rfl) (fun _ _ _ _ h => h) ?_
            refine xpval 14 rfl (qv_fieldAddrB FldC.h rfl) rfl rfl (by kernel_rfl) (by kernel_rfl) (by kernel_rfl) (fun _ _ _ _ h => h) ?_
            refine xpval 17 rfl (pv_move rfl) rfl rfl (by kernel_rfl) (by kernel_rfl) (by kernel_rfl) (fun _ _ _ _ h => h) ?_
            refine xpval 18 rfl (pv_convW (w8 x2) UndC.h UndC.h rfl) rfl rfl (by kernel_rfl) (by kernel_rfl) (by kernel_rfl) (fun _ _ _ _ h => h) ?_
            refine xpvalE 15 [] rfl (qv_loadB 1 ShpC.h rfl rfl rfl rfl) rfl rfl (by kernel_rfl) (by kernel_rfl) (by kernel_rfl) (fun _ _ _ _ h => h) ?_
            refine xpval 16 rfl (pv_lenRb UndC.h rfl) rfl rfl (by kernel_rfl) (by kernel_rfl) (by kernel_rfl) (fun _ _ _ _ h => h) ?_
            refine xpval 19 rfl (pv_bin2 rfl rfl rfl) rfl rfl (by kernel_rfl) (by kernel_rfl) (by kernel_rfl) (fun _ _ _ _ h => h) ?_
            refine xpval 20 rfl (pv_pick rfl rfl) rfl rfl (by kernel_rfl) (by kernel_rfl) (by kernel_rfl) (fun _ _ _ _ h => h) ?_
            refine xpval 21 rfl (pv_move rfl) rfl rfl (by kernel_rfl) (by kernel_rfl) (by kernel_rfl) (fun _ _ _ _ h => h) ?_
            by_cases hp382 : ((y344.2.1.length : Nat) : Int) ≤ (x2.toNat : Int)
            · replace h := h.1 hp382
              refine psetB 68 (decide_eq_true hp382) rfl ?_
              obtain ⟨y384, h383, h⟩ := h
              refine xpval 22 rfl (pv_move rfl) rfl rfl (by kernel_rfl) (by kernel_rfl) (by kernel_rfl) (fun _ _ _ _ h => h) ?_
              refine xpval 23 rfl (pv_nilCheck rfl) rfl rfl (by kernel_rfl) (by kernel_rfl) (by kernel_rfl) (fun _ _ _ _ h => h) ?_
              refine xpval 24 rfl (qv_fieldAddrB FldC.h rfl) rfl rfl (by kernel_rfl) (by kernel_rfl) (by kernel_rfl) (fun _ _ _ _ h => h) ?_
              refine xpval 26 rfl (pv_move rfl) rfl rfl (by kernel_rfl) (by kernel_rfl) (by kernel_rfl) (fun _ _ _ _ h => h) ?_
              refine xpval 27 rfl (pv_nilCheck rfl) rfl rfl (by kernel_rfl) (by kernel_rfl) (by kernel_rfl) (fun _ _ _ _ h => h) ?_
              refine xpval 28 rfl (qv_fieldAddrB FldC.h rfl) rfl rfl (by kernel_rfl) (by kernel_rfl) (by kernel_rfl) (fun _ _ _ _ h => h) ?_
              refine xpvalE 25 [29] rfl (qv_loadB 1 ShpC.h rfl rfl rfl rfl) rfl rfl (by kernel_rfl) (by kernel_rfl) (by kernel_rfl) (fun _ _ _ _ h => h) ?_
              refine xpvalE 29 [] rfl (qv_loadB 3 ShpC.h rfl rfl rfl rfl) rfl rfl (by kernel_rfl) (by kernel_rfl) (by kernel_rfl) (fun _ _ _ _ h => h) ?_
              refine xpstep (i := 30) (by kernel_rfl) rfl ?_
              refine wcallF (Fb := [⟨b17, 29, [.rb i345 y344.2.1.length, .v (.bool y344.2.2), .v (.int .i64 ((x2.toNat : Int)))]⟩, ⟨b21, 29, [.rb i236 l235.length, .v (.bool f234), .v (.int .i64 ((x2.toNat : Int)))]⟩]) (Ft := []) (palinoderef01_Same_v2_con y344.2.1 l235 i345 i236 _ h383) Try.func8 (by kernel_rfl) rfl (.cons rfl (.eq (by first | rfl | simp)) (.cons rfl (.eq (by first | rfl | simp)) .nil)) (by refine SubM.trans (SubM.mvB 2 rfl) ?_; refine SubM.trans (SubM.mvB 1 rfl) ?_; (simp only [List.eraseIdx]); exact (SubM.of (by repeat (first | with_reducible exact SubB.refl _ | exact SubB.nil _ | refine SubB.keep rfl rfl (by first | with_reducible exact WkL.refl _ | ((repeat (first | exact WkL.nil | refine WkL.cons (by first | with_reducible exact Wk.refl _ | exact Wk.nil_own _ | exact Wk.nil_pl _ | with_reducible exact Wk.tok _ _ _ | exact Wk.tok _ _ _ | exact Wk.eq (by first | rfl | (simp []; done) | (simp []; omega))) ?_)); done) | exact WkL.refl _) ?_ | refine SubB.drop ?_)) (by repeat (first | exact SubT.nil _ | refine SubT.add ?_ | (refine SubT.keep ?_ ?_; focus (first | with_reducible rfl | (simp []; done))) | refine SubT.drop ?_)))) rfl rfl ?_
              rintro _ _ _ ⟨rfl, rfl, rfl⟩
              simp only [List.nil_append, List.cons_append]
              refine xpval 31 rfl (pv_pick rfl rfl) rfl rfl (by kernel_rfl) (by kernel_rfl) (by kernel_rfl) (fun _ _ _ _ h => h) ?_
              refine xpval 32 rfl (pv_move rfl) rfl rfl (by kernel_rfl) (by kernel_rfl) (by kernel_rfl) (fun _ _ _ _ h => h) ?_
              by_cases hp385 : y384 = true
              · replace h := h.1 hp385
                refine psetB 79 hp385 rfl ?_
                refine xpval 33 rfl (pv_move rfl) rfl rfl (by kernel_rfl) (by kernel_rfl) (by kernel_rfl) (fun _ _ _ _ h => h) ?_
                refine xpval 34 rfl (pv_nilCheck rfl) rfl rfl (by kernel_rfl) (by kernel_rfl) (by kernel_rfl) (fun _ _ _ _ h => h) ?_
                refine xpval 35 rfl (qv_fieldAddrB FldC.h rfl) rfl rfl (by kernel_rfl) (by kernel_rfl) (by kernel_rfl) (fun _ _ _ _ h => h) ?_
                refine xpval 37 rfl (pv_move rfl) rfl rfl (by kernel_rfl) (by kernel_rfl) (by kernel_rfl) (fun _ _ _ _ h => h) ?_
                refine xpval 38 rfl (pv_nilCheck rfl) rfl rfl (by kernel_rfl) (by kernel_rfl) (by kernel_rfl) (fun _ _ _ _ h => h) ?_
                refine xpval 39 rfl (qv_fieldAddrB FldC.h rfl) rfl rfl (by kernel_rfl) (by kernel_rfl) (by kernel_rfl) (fun _ _ _ _ h => h) ?_
                refine xpvalE 36 [40] rfl (qv_loadB 2 ShpC.h rfl rfl rfl rfl) rfl rfl (by kernel_rfl) (by kernel_rfl) (by kernel_rfl) (fun _ _ _ _ h => h) ?_
                refine xpvalE 40 [] rfl (qv_loadB 3 ShpC.h rfl rfl rfl rfl) rfl rfl (by kernel_rfl) (by kernel_rfl) (by kernel_rfl) (fun _ _ _ _ h => h) ?_
                refine xpval 41 rfl (pv_eqB UndC.h rfl rfl) rfl rfl (by kernel_rfl) (by kernel_rfl) (by kernel_rfl) (fun _ _ _ _ h => h) ?_
                refine xpval 42 rfl (pv_pick rfl rfl) rfl rfl (by kernel_rfl) (by kernel_rfl) (by kernel_rfl) (fun _ _ _ _ h => h) ?_
                refine xpval 43 rfl (pv_move rfl) rfl rfl (by kernel_rfl) (by kernel_rfl) (by kernel_rfl) (fun _ _ _ _ h => h) ?_
                by_cases hp387 : (y344.2.2 == f234) = true
                · replace h := h.1 hp387
                  refine psetB 90 hp387 rfl ?_
                  obtain ⟨y389, h388, h⟩ := h
                  refine xpstep (i := 44) (by kernel_rfl) rfl ?_
                  refine wcall0 (palinodelaw19_awake_con _ h388) Try.func5 (by kernel_rfl) rfl .nil rfl rfl ?_
                  refine xpval 45 rfl (pv_pick rfl rfl) rfl rfl (by kernel_rfl) (by kernel_rfl) (by kernel_rfl) (fun _ _ _ _ h => h) ?_
                  refine xpval 46 rfl (pv_assign rfl) rfl rfl (by kernel_rfl) (by kernel_rfl) (by kernel_rfl) (fun _ _ _ _ h => h) ?_
                  refine xpdone (by kernel_rfl) ?_
                  exact xmeet ⟨y389, h, rfl⟩ ⟨(.cons rfl (.refl _) (.nil _)), (SubM.of (.nil _) (.nil _))⟩
                · replace h := h.2 hp387
                  refine psetB 90 (b_f hp387) rfl ?_
                  refine xpskip 44 rfl rfl rfl (by kernel_rfl) (by kernel_rfl) (by kernel_rfl) (fun _ _ _ _ h => h) ?_
                  refine xpval 45 rfl (pv_pick rfl rfl) rfl rfl (by kernel_rfl) (by kernel_rfl) (by kernel_rfl) (fun _ _ _ _ h => h) ?_
                  refine xpval 46 rfl (pv_assign rfl) rfl rfl (by kernel_rfl) (by kernel_rfl) (by kernel_rfl) (fun _ _ _ _ h => h) ?_
                  refine xpdone (by kernel_rfl) ?_
                  exact xmeet ⟨false, h, rfl⟩ ⟨(.cons rfl (.refl _) (.nil _)), (SubM.of (.nil _) (.nil _))⟩
              · replace h := h.2 hp385
                refine psetB 79 (b_f hp385) rfl ?_
                refine xpskip 33 rfl rfl rfl (by kernel_rfl) (by kernel_rfl) (by kernel_rfl) (fun _ _ _ _ h => h) ?_
                refine xpskip 34 rfl rfl rfl (by kernel_rfl) (by kernel_rfl) (by kernel_rfl) (fun _ _ _ _ h => h) ?_
                refine xpskip 35 rfl rfl rfl (by kernel_rfl) (by kernel_rfl) (by kernel_rfl) (fun _ _ _ _ h => h) ?_
                refine xpskip 36 rfl rfl rfl (by kernel_rfl) (by kernel_rfl) (by kernel_rfl) (fun _ _ _ _ h => h) ?_
                refine xpskip 37 rfl rfl rfl (by kernel_rfl) (by kernel_rfl) (by kernel_rfl) (fun _ _ _ _ h => h) ?_
                refine xpskip 38 rfl rfl rfl (by kernel_rfl) (by kernel_rfl) (by kernel_rfl) (fun _ _ _ _ h => h) ?_
                refine xpskip 39 rfl rfl rfl (by kernel_rfl) (by kernel_rfl) (by kernel_rfl) (fun _ _ _ _ h => h) ?_
                refine xpskip 40 rfl rfl rfl (by kernel_rfl) (by kernel_rfl) (by kernel_rfl) (fun _ _ _ _ h => h) ?_
                refine xpskip 41 rfl rfl rfl (by kernel_rfl) (by kernel_rfl) (by kernel_rfl) (fun _ _ _ _ h => h) ?_
                refine xpval 42 rfl (pv_pick rfl rfl) rfl rfl (by kernel_rfl) (by kernel_rfl) (by kernel_rfl) (fun _ _ _ _ h => h) ?_
                refine xpval 43 rfl (pv_move rfl) rfl rfl (by kernel_rfl) (by kernel_rfl) (by kernel_rfl) (fun _ _ _ _ h => h) ?_
                refine xpskip 44 rfl rfl rfl (by kernel_rfl) (by kernel_rfl) (by kernel_rfl) (fun _ _ _ _ h => h) ?_
                refine xpval 45 rfl (pv_pick rfl rfl) rfl rfl (by kernel_rfl) (by kernel_rfl) (by kernel_rfl) (fun _ _ _ _ h => h) ?_
                refine xpval 46 rfl (pv_assign rfl) rfl rfl (by kernel_rfl) (by kernel_rfl) (by kernel_rfl) (fun _ _ _ _ h => h) ?_
                refine xpdone (by kernel_rfl) ?_
                exact xmeet ⟨false, h, rfl⟩ ⟨(.cons rfl (.refl _) (.nil _)), (SubM.of (.nil _) (.nil _))⟩
            · replace h := h.2 hp382
              refine psetB 68 (decide_eq_false hp382) rfl ?_
              refine xpskip 22 rfl rfl rfl (by kernel_rfl) (by kernel_rfl) (by kernel_rfl) (fun _ _ _ _ h => h) ?_
              refine xpskip 23 rfl rfl rfl (by kernel_rfl) (by kernel_rfl) (by kernel_rfl) (fun _ _ _ _ h => h) ?_
              refine xpskip 24 rfl rfl rfl (by kernel_rfl) (by kernel_rfl) (by kernel_rfl) (fun _ _ _ _ h => h) ?_
              refine xpskip 25 rfl rfl rfl (by kernel_rfl) (by kernel_rfl) (by kernel_rfl) (fun _ _ _ _ h => h) ?_
              refine xpskip 26 rfl rfl rfl (by kernel_rfl) (by kernel_rfl) (by kernel_rfl) (fun _ _ _ _ h => h) ?_
              refine xpskip 27 rfl rfl rfl (by kernel_rfl) (by kernel_rfl) (by kernel_rfl) (fun _ _ _ _ h => h) ?_
              refine xpskip 28 rfl rfl rfl (by kernel_rfl) (by kernel_rfl) (by kernel_rfl) (fun _ _ _ _ h => h) ?_
              refine xpskip 29 rfl rfl rfl (by kernel_rfl) (by kernel_rfl) (by kernel_rfl) (fun _ _ _ _ h => h) ?_
              refine xpskip 30 rfl rfl rfl (by kernel_rfl) (by kernel_rfl) (by kernel_rfl) (fun _ _ _ _ h => h) ?_
              refine xpval 31 rfl (pv_pick rfl rfl) rfl rfl (by kernel_rfl) (by kernel_rfl) (by kernel_rfl) (fun _ _ _ _ h => h) ?_
              refine xpval 32 rfl (pv_move rfl) rfl rfl (by kernel_rfl) (by kernel_rfl) (by kernel_rfl) (fun _ _ _ _ h => h) ?_
              refine xpskip 33 rfl rfl rfl (by kernel_rfl) (by kernel_rfl) (by kernel_rfl) (fun _ _ _ _ h => h) ?_
              refine xpskip 34 rfl rfl rfl (by kernel_rfl) (by kernel_rfl) (by kernel_rfl) (fun _ _ _ _ h => h) ?_
              refine xpskip 35 rfl rfl rfl (by kernel_rfl) (by kernel_rfl) (by kernel_rfl) (fun _ _ _ _ h => h) ?_
              refine xpskip 36 rfl rfl rfl (by kernel_rfl) (by kernel_rfl) (by kernel_rfl) (fun _ _ _ _ h => h) ?_
              refine xpskip 37 rfl rfl rfl (by kernel_rfl) (by kernel_rfl) (by kernel_rfl) (fun _ _ _ _ h => h) ?_
              refine xpskip 38 rfl rfl rfl (by kernel_rfl) (by kernel_rfl) (by kernel_rfl) (fun _ _ _ _ h => h) ?_
              refine xpskip 39 rfl rfl rfl (by kernel_rfl) (by kernel_rfl) (by kernel_rfl) (fun _ _ _ _ h => h) ?_
              refine xpskip 40 rfl rfl rfl (by kernel_rfl) (by kernel_rfl) (by kernel_rfl) (fun _ _ _ _ h => h) ?_
              refine xpskip 41 rfl rfl rfl (by kernel_rfl) (by kernel_rfl) (by kernel_rfl) (fun _ _ _ _ h => h) ?_
              refine xpval 42 rfl (pv_pick rfl rfl) rfl rfl (by kernel_rfl) (by kernel_rfl) (by kernel_rfl) (fun _ _ _ _ h => h) ?_
              refine xpval 43 rfl (pv_move rfl) rfl rfl (by kernel_rfl) (by kernel_rfl) (by kernel_rfl) (fun _ _ _ _ h => h) ?_
              refine xpskip 44 rfl rfl rfl (by kernel_rfl) (by kernel_rfl) (by kernel_rfl) (fun _ _ _ _ h => h) ?_
              refine xpval 45 rfl (pv_pick rfl rfl) rfl rfl (by kernel_rfl) (by kernel_rfl) (by kernel_rfl) (fun _ _ _ _ h => h) ?_
              refine xpval 46 rfl (pv_assign rfl) rfl rfl (by kernel_rfl) (by kernel_rfl) (by kernel_rfl) (fun _ _ _ _ h => h) ?_
              refine xpdone (by kernel_rfl) ?_
              exact xmeet ⟨false, h, rfl⟩ ⟨(.cons rfl (.refl _) (.nil _)), (SubM.of (.nil _) (.nil _))⟩
          · replace h := h.2 hp378
            refine psetB 53 (decide_eq_false hp378) rfl ?_
            refine xpval 7 rfl (pv_move rfl) rfl rfl (by kernel_rfl) (by kernel_rfl) (by kernel_rfl) (fun _ _ _ _ h => h) ?_
            refine xpval 8 rfl (pv_bin2 rfl rfl rfl) rfl rfl (by kernel_rfl) (by kernel_rfl) (by kernel_rfl) (fun _ _ _ _ h => h) ?_
            refine xpval 9 rfl (pv_pick rfl rfl) rfl rfl (by kernel_rfl) (by kernel_rfl) (by kernel_rfl) (fun _ _ _ _ h => h) ?_
            refine xpval 10 rfl (pv_pick rfl rfl) rfl rfl (by kernel_rfl) (by kernel_rfl) (by kernel_rfl) (fun _ _ _ _ h => h) ?_
            refine xpval 11 rfl (pv_move rfl) rfl rfl (by kernel_rfl) (by kernel_rfl) (by kernel_rfl) (fun _ _ _ _ h => h) ?_
            by_cases hp391 : y344.1 = 7
            · replace h := h.1 hp391
              refine psetB 58 (decide_eq_true hp391) rfl ?_
              refine xpval 12 rfl (pv_move rfl) rfl rfl (by kernel_rfl) (by kernel_rfl) (by kernel_rfl) (fun _ _ _ _ h => h) ?_
              refine xpval 13 rfl (pv_nilCheck rfl) rfl rfl (by kernel_rfl) (by kernel_rfl) (by kernel_rfl) (fun _ _ _ _ h => h) ?_
              refine xpval 14 rfl (qv_fieldAddrB FldC.h rfl) rfl rfl (by kernel_rfl) (by kernel_rfl) (by kernel_rfl) (fun _ _ _ _ h => h) ?_
              refine xpval 17 rfl (pv_move rfl) rfl rfl (by kernel_rfl) (by kernel_rfl) (by kernel_rfl) (fun _ _ _ _ h => h) ?_
              refine xpval 18 rfl (pv_convW (w8 x2) UndC.h UndC.h rfl) rfl rfl (by kernel_rfl) (by kernel_rfl) (by kernel_rfl) (fun _ _ _ _ h => h) ?_
              refine xpvalE 15 [] rfl (qv_loadB 1 ShpC.h rfl rfl rfl rfl) rfl rfl (by kernel_rfl) (by kernel_rfl) (by kernel_rfl) (fun _ _ _ _ h => h) ?_
              refine xpval 16 rfl (pv_lenRb UndC.h rfl) rfl rfl (by kernel_rfl) (by kernel_rfl) (by kernel_rfl) (fun _ _ _ _ h => h) ?_
              refine xpval 19 rfl (pv_bin2 rfl rfl rfl) rfl rfl (by kernel_rfl) (by kernel_rfl) (by kernel_rfl) (fun _ _ _ _ h => h) ?_
              refine xpval 20 rfl (pv_pick rfl rfl) rfl rfl (by kernel_rfl) (by kernel_rfl) (by kernel_rfl) (fun _ _ _ _ h => h) ?_
              refine xpval 21 rfl (pv_move rfl) rfl rfl (by kernel_rfl) (by kernel_rfl) (by kernel_rfl) (fun _ _ _ _ h => h) ?_
              by_cases hp395 : ((y344.2.1.length : Nat) : Int) ≤ (x2.toNat : Int)
              · replace h := h.1 hp395
                refine psetB 68 (decide_eq_true hp395) rfl ?_
                obtain ⟨y397, h396, h⟩ := h
                refine xpval 22 rfl (pv_move rfl) rfl rfl (by kernel_rfl) (by kernel_rfl) (by kernel_rfl) (fun _ _ _ _ h => h) ?_
                refine xpval 23 rfl (pv_nilCheck rfl) rfl rfl (by kernel_rfl) (by kernel_rfl) (by kernel_rfl) (fun _ _ _ _ h => h) ?_
                refine xpval 24 rfl (qv_fieldAddrB FldC.h rfl) rfl rfl (by kernel_rfl) (by kernel_rfl) (by kernel_rfl) (fun _ _ _ _ h => h) ?_
                refine xpval 26 rfl (pv_move rfl) rfl rfl (by kernel_rfl) (by kernel_rfl) (by kernel_rfl) (fun _ _ _ _ h => h) ?_
                refine xpval 27 rfl (pv_nilCheck rfl) rfl rfl (by kernel_rfl) (by kernel_rfl) (by kernel_rfl) (fun _ _ _ _ h => h) ?_
                refine xpval 28 rfl (qv_fieldAddrB FldC.h rfl) rfl rfl (by kernel_rfl) (by kernel_rfl) (by kernel_rfl) (fun _ _ _ _ h => h) ?_
                refine xpvalE 25 [29] rfl (qv_loadB 1 ShpC.h rfl rfl rfl rfl) rfl rfl (by kernel_rfl) (by kernel_rfl) (by kernel_rfl) (fun _ _ _ _ h => h) ?_
                refine xpvalE 29 [] rfl (qv_loadB 3 ShpC.h rfl rfl rfl rfl) rfl rfl (by kernel_rfl) (by kernel_rfl) (by kernel_rfl) (fun _ _ _ _ h => h) ?_
                refine xpstep (i := 30) (by kernel_rfl) rfl ?_
                refine wcallF (Fb := [⟨b17, 29, [.rb i345 y344.2.1.length, .v (.bool y344.2.2), .v (.int .i64 ((x2.toNat : Int)))]⟩, ⟨b21, 29, [.rb i236 l235.length, .v (.bool f234), .v (.int .i64 ((x2.toNat : Int)))]⟩]) (Ft := []) (palinoderef01_Same_v2_con y344.2.1 l235 i345 i236 _ h396) Try.func8 (by kernel_rfl) rfl (.cons rfl (.eq (by first | rfl | simp)) (.cons rfl (.eq (by first | rfl | simp)) .nil)) (by refine SubM.trans (SubM.mvB 2 rfl) ?_; refine SubM.trans (SubM.mvB 1 rfl) ?_; (simp only [List.eraseIdx]); exact (SubM.of (by repeat (first | with_reducible exact SubB.refl _ | exact SubB.nil _ | refine SubB.keep rfl rfl (by first | with_reducible exact WkL.refl _ | ((repeat (first | exact WkL.nil | refine WkL.cons (by first | with_reducible exact Wk.refl _ | exact Wk.nil_own _ | exact Wk.nil_pl _ | with_reducible exact Wk.tok _ _ _ | exact Wk.tok _ _ _ | exact Wk.eq (by first | rfl | (simp []; done) | (simp []; omega))) ?_)); done) | exact WkL.refl _) ?_ | refine SubB.drop ?_)) (by repeat (first | exact SubT.nil _ | refine SubT.add ?_ | (refine SubT.keep ?_ ?_; focus (first | with_reducible rfl | (simp []; done))) | refine SubT.drop ?_)))) rfl rfl ?_
                rintro _ _ _ ⟨rfl, rfl, rfl⟩
                simp only [List.nil_append, List.cons_append]
                refine xpval 31 rfl (pv_pick rfl rfl) rfl rfl (by kernel_rfl) (by kernel_rfl) (by kernel_rfl) (fun _ _ _ _ h => h) ?_
                refine xpval 32 rfl (pv_move rfl) rfl rfl (by kernel_rfl) (by kernel_rfl) (by kernel_rfl) (fun _ _ _ _ h => h) ?_
                by_cases hp398 : y397 = true
                · replace h := h.1 hp398
                  refine psetB 79 hp398 rfl ?_
                  refine xpval 33 rfl (pv_move rfl) rfl rfl (by kernel_rfl) (by kernel_rfl) (by kernel_rfl) (fun _ _ _ _ h => h) ?_
                  refine xpval 34 rfl (pv_nilCheck rfl) rfl rfl (by kernel_rfl) (by kernel_rfl) (by kernel_rfl) (fun _ _ _ _ h => h) ?_
                  refine xpval 35 rfl (qv_fieldAddrB FldC.h rfl) rfl rfl (by kernel_rfl) (by kernel_rfl) (by kernel_rfl) (fun _ _ _ _ h => h) ?_
                  refine xpval 37 rfl (pv_move rfl) rfl rfl (by kernel_rfl) (by kernel_rfl) (by kernel_rfl) (fun _ _ _ _ h => h) ?_
                  refine xpval 38 rfl (pv_nilCheck rfl) rfl rfl (by kernel_rfl) (by kernel_rfl) (by kernel_rfl) (fun _ _ _ _ h => h) ?_
                  refine xpval 39 rfl (qv_fieldAddrB FldC.h rfl) rfl rfl (by kernel_rfl) (by kernel_rfl) (by kernel_rfl) (fun _ _ _ _ h => h) ?_
                  refine xpvalE 36 [40] rfl (qv_loadB 2 ShpC.h rfl rfl rfl rfl) rfl rfl (by kernel_rfl) (by kernel_rfl) (by kernel_rfl) (fun _ _ _ _ h => h) ?_
                  refine xpvalE 40 [] rfl (qv_loadB 3 ShpC.h rfl rfl rfl rfl) rfl rfl (by kernel_rfl) (by kernel_rfl) (by kernel_rfl) (fun _ _ _ _ h => h) ?_
                  refine xpval 41 rfl (pv_eqB UndC.h rfl rfl) rfl rfl (by kernel_rfl) (by kernel_rfl) (by kernel_rfl) (fun _ _ _ _ h => h) ?_
                  refine xpval 42 rfl (pv_pick rfl rfl) rfl rfl (by kernel_rfl) (by kernel_rfl) (by kernel_rfl) (fun _ _ _ _ h => h) ?_
                  refine xpval 43 rfl (pv_move rfl) rfl rfl (by kernel_rfl) (by kernel_rfl) (by kernel_rfl) (fun _ _ _ _ h => h) ?_
                  by_cases hp400 : (y344.2.2 == f234) = true
                  · replace h := h.1 hp400
                    refine psetB 90 hp400 rfl ?_
                    obtain ⟨y402, h401, h⟩ := h
                    refine xpstep (i := 44) (by kernel_rfl) rfl ?_
                    refine wcall0 (palinodelaw19_awake_con _ h401) Try.func5 (by kernel_rfl) rfl .nil rfl rfl ?_
                    refine xpval 45 rfl (pv_pick rfl rfl) rfl rfl (by kernel_rfl) (by kernel_rfl) (by kernel_rfl) (fun _ _ _ _ h => h) ?_
                    refine xpval 46 rfl (pv_assign rfl) rfl rfl (by kernel_rfl) (by kernel_rfl) (by kernel_rfl) (fun _ _ _ _ h => h) ?_
                    refine xpdone (by kernel_rfl) ?_
                    exact xmeet ⟨y402, h, rfl⟩ ⟨(.cons rfl (.refl _) (.nil _)), (SubM.of (.nil _) (.nil _))⟩
                  · replace h := h.2 hp400
                    refine psetB 90 (b_f hp400) rfl ?_
                    refine xpskip 44 rfl rfl rfl (by kernel_rfl) (by kernel_rfl) (by kernel_rfl) (fun _ _ _ _ h => h) ?_
                    refine xpval 45 rfl (pv_pick rfl rfl) rfl rfl (by kernel_rfl) (by kernel_rfl) (by kernel_rfl) (fun _ _ _ _ h => h) ?_
                    refine xpval 46 rfl (pv_assign rfl) rfl rfl (by kernel_rfl) (by kernel_rfl) (by kernel_rfl) (fun _ _ _ _ h => h) ?_
                    refine xpdone (by kernel_rfl) ?_
                    exact xmeet ⟨false, h, rfl⟩ ⟨(.cons rfl (.refl _) (.nil _)), (SubM.of (.nil _) (.nil _))⟩
                · replace h := h.2 hp398
                  refine psetB 79 (b_f hp398) rfl ?_
                  refine xpskip 33 rfl rfl rfl (by kernel_rfl) (by kernel_rfl) (by kernel_rfl) (fun _ _ _ _ h => h) ?_
                  refine xpskip 34 rfl rfl rfl (by kernel_rfl) (by kernel_rfl) (by kernel_rfl) (fun _ _ _ _ h => h) ?_
                  refine xpskip 35 rfl rfl rfl (by kernel_rfl) (by kernel_rfl) (by kernel_rfl) (fun _ _ _ _ h => h) ?_
                  refine xpskip 36 rfl rfl rfl (by kernel_rfl) (by kernel_rfl) (by kernel_rfl) (fun _ _ _ _ h => h) ?_
                  refine xpskip 37 rfl rfl rfl (by kernel_rfl) (by kernel_rfl) (by kernel_rfl) (fun _ _ _ _ h => h) ?_
                  refine xpskip 38 rfl rfl rfl (by kernel_rfl) (by kernel_rfl) (by kernel_rfl) (fun _ _ _ _ h => h) ?_
                  refine xpskip 39 rfl rfl rfl (by kernel_rfl) (by kernel_rfl) (by kernel_rfl) (fun _ _ _ _ h => h) ?_
                  refine xpskip 40 rfl rfl rfl (by kernel_rfl) (by kernel_rfl) (by kernel_rfl) (fun _ _ _ _ h => h) ?_
                  refine xpskip 41 rfl rfl rfl (by kernel_rfl) (by kernel_rfl) (by kernel_rfl) (fun _ _ _ _ h => h) ?_
                  refine xpval 42 rfl (pv_pick rfl rfl) rfl rfl (by kernel_rfl) (by kernel_rfl) (by kernel_rfl) (fun _ _ _ _ h => h) ?_
                  refine xpval 43 rfl (pv_move rfl) rfl rfl (by kernel_rfl) (by kernel_rfl) (by kernel_rfl) (fun _ _ _ _ h => h) ?_
                  refine xpskip 44 rfl rfl rfl (by kernel_rfl) (by kernel_rfl) (by kernel_rfl) (fun _ _ _ _ h => h) ?_
                  refine xpval 45 rfl (pv_pick rfl rfl) rfl rfl (by kernel_rfl) (by kernel_rfl) (by kernel_rfl) (fun _ _ _ _ h => h) ?_
                  refine xpval 46 rfl (pv_assign rfl) rfl rfl (by kernel_rfl) (by kernel_rfl) (by kernel_rfl) (fun _ _ _ _ h => h) ?_
                  refine xpdone (by kernel_rfl) ?_
                  exact xmeet ⟨false, h, rfl⟩ ⟨(.cons rfl (.refl _) (.nil _)), (SubM.of (.nil _) (.nil _))⟩
              · replace h := h.2 hp395
                refine psetB 68 (decide_eq_false hp395) rfl ?_
                refine xpskip 22 rfl rfl rfl (by kernel_rfl) (by kernel_rfl) (by kernel_rfl) (fun _ _ _ _ h => h) ?_
                refine xpskip 23 rfl rfl rfl (by kernel_rfl) (by kernel_rfl) (by kernel_rfl) (fun _ _ _ _ h => h) ?_
                refine xpskip 24 rfl rfl rfl (by kernel_rfl) (by kernel_rfl) (by kernel_rfl) (fun _ _ _ _ h => h) ?_
                refine xpskip 25 rfl rfl rfl (by kernel_rfl) (by kernel_rfl) (by kernel_rfl) (fun _ _ _ _ h => h) ?_
                refine xpskip 26 rfl rfl rfl (by kernel_rfl) (by kernel_rfl) (by kernel_rfl) (fun _ _ _ _ h => h) ?_
                refine xpskip 27 rfl rfl rfl (by kernel_rfl) (by kernel_rfl) (by kernel_rfl) (fun _ _ _ _ h => h) ?_
                refine xpskip 28 rfl rfl rfl (by kernel_rfl) (by kernel_rfl) (by kernel_rfl) (fun _ _ _ _ h => h) ?_
                refine xpskip 29 rfl rfl rfl (by kernel_rfl) (by kernel_rfl) (by kernel_rfl) (fun _ _ _ _ h => h) ?_
                refine xpskip 30 rfl rfl rfl (by kernel_rfl) (by kernel_rfl) (by kernel_rfl) (fun _ _ _ _ h => h) ?_
                refine xpval 31 rfl (pv_pick rfl rfl) rfl rfl (by kernel_rfl) (by kernel_rfl) (by kernel_rfl) (fun _ _ _ _ h => h) ?_
                refine xpval 32 rfl (pv_move rfl) rfl rfl (by kernel_rfl) (by kernel_rfl) (by kernel_rfl) (fun _ _ _ _ h => h) ?_
                refine xpskip 33 rfl rfl rfl (by kernel_rfl) (by kernel_rfl) (by kernel_rfl) (fun _ _ _ _ h => h) ?_
                refine xpskip 34 rfl rfl rfl (by kernel_rfl) (by kernel_rfl) (by kernel_rfl) (fun _ _ _ _ h => h) ?_
                refine xpskip 35 rfl rfl rfl (by kernel_rfl) (by kernel_rfl) (by kernel_rfl) (fun _ _ _ _ h => h) ?_
                refine xpskip 36 rfl rfl rfl (by kernel_rfl) (by kernel_rfl) (by kernel_rfl) (fun _ _ _ _ h => h) ?_
                refine xpskip 37 rfl rfl rfl (by kernel_rfl) (by kernel_rfl) (by kernel_rfl) (fun _ _ _ _ h => h) ?_
                refine xpskip 38 rfl rfl rfl (by kernel_rfl) (by kernel_rfl) (by kernel_rfl) (fun _ _ _ _ h => h) ?_
                refine xpskip 39 rfl rfl rfl (by kernel_rfl) (by kernel_rfl) (by kernel_rfl) (fun _ _ _ _ h => h) ?_
                refine xpskip 40 rfl rfl rfl (by kernel_rfl) (by kernel_rfl) (by kernel_rfl) (fun _ _ _ _ h => h) ?_
                refine xpskip 41 rfl rfl rfl (by kernel_rfl) (by kernel_rfl) (by kernel_rfl) (fun _ _ _ _ h => h) ?_
                refine xpval 42 rfl (pv_pick rfl rfl) rfl rfl (by kernel_rfl) (by kernel_rfl) (by kernel_rfl) (fun _ _ _ _ h => h) ?_
                refine xpval 43 rfl (pv_move rfl) rfl rfl (by kernel_rfl) (by kernel_rfl) (by kernel_rfl) (fun _ _ _ _ h => h) ?_
                refine xpskip 44 rfl rfl rfl (by kernel_rfl) (by kernel_rfl) (by kernel_rfl) (fun _ _ _ _ h => h) ?_
                refine xpval 45 rfl (pv_pick rfl rfl) rfl rfl (by kernel_rfl) (by kernel_rfl) (by kernel_rfl) (fun _ _ _ _ h => h) ?_
                refine xpval 46 rfl (pv_assign rfl) rfl rfl (by kernel_rfl) (by kernel_rfl) (by kernel_rfl) (fun _ _ _ _ h => h) ?_
                refine xpdone (by kernel_rfl) ?_
                exact xmeet ⟨false, h, rfl⟩ ⟨(.cons rfl (.refl _) (.nil _)), (SubM.of (.nil _) (.nil _))⟩
            · replace h := h.2 hp391
              refine psetB 58 (decide_eq_false hp391) rfl ?_
              refine xpskip 12 rfl rfl rfl (by kernel_rfl) (by kernel_rfl) (by kernel_rfl) (fun _ _ _ _ h => h) ?_
              refine xpskip 13 rfl rfl rfl (by kernel_rfl) (by kernel_rfl) (by kernel_rfl) (fun _ _ _ _ h => h) ?_
              refine xpskip 14 rfl rfl rfl (by kernel_rfl) (by kernel_rfl) (by kernel_rfl) (fun _ _ _ _ h => h) ?_
              refine xpskip 15 rfl rfl rfl (by kernel_rfl) (by kernel_rfl) (by kernel_rfl) (fun _ _ _ _ h => h) ?_
              refine xpskip 16 rfl rfl rfl (by kernel_rfl) (by kernel_rfl) (by kernel_rfl) (fun _ _ _ _ h => h) ?_
              refine xpskip 17 rfl rfl rfl (by kernel_rfl) (by kernel_rfl) (by kernel_rfl) (fun _ _ _ _ h => h) ?_
              refine xpskip 18 rfl rfl rfl (by kernel_rfl) (by kernel_rfl) (by kernel_rfl) (fun _ _ _ _ h => h) ?_
              refine xpskip 19 rfl rfl rfl (by kernel_rfl) (by kernel_rfl) (by kernel_rfl) (fun _ _ _ _ h => h) ?_
              refine xpval 20 rfl (pv_pick rfl rfl) rfl rfl (by kernel_rfl) (by kernel_rfl) (by kernel_rfl) (fun _ _ _ _ h => h) ?_
              refine xpval 21 rfl (pv_move rfl) rfl rfl (by kernel_rfl) (by kernel_rfl) (by kernel_rfl) (fun _ _ _ _ h => h) ?_
              refine xpskip 22 rfl rfl rfl (by kernel_rfl) (by kernel_rfl) (by kernel_rfl) (fun _ _ _ _ h => h) ?_
              refine xpskip 23 rfl rfl rfl (by kernel_rfl) (by kernel_rfl) (by kernel_rfl) (fun _ _ _ _ h => h) ?_
              refine xpskip 24 rfl rfl rfl (by kernel_rfl) (by kernel_rfl) (by kernel_rfl) (fun _ _ _ _ h => h) ?_
              refine xpskip 25 rfl rfl rfl (by kernel_rfl) (by kernel_rfl) (by kernel_rfl) (fun _ _ _ _ h => h) ?_
              refine xpskip 26 rfl rfl rfl (by kernel_rfl) (by kernel_rfl) (by kernel_rfl) (fun _ _ _ _ h => h) ?_
              refine xpskip 27 rfl rfl rfl (by kernel_rfl) (by kernel_rfl) (by kernel_rfl) (fun _ _ _ _ h => h) ?_
              refine xpskip 28 rfl rfl rfl (by kernel_rfl) (by kernel_rfl) (by kernel_rfl) (fun _ _ _ _ h => h) ?_
              refine xpskip 29 rfl rfl rfl (by kernel_rfl) (by kernel_rfl) (by kernel_rfl) (fun _ _ _ _ h => h) ?_
              refine xpskip 30 rfl rfl rfl (by kernel_rfl) (by kernel_rfl) (by kernel_rfl) (fun _ _ _ _ h => h) ?_
              refine xpval 31 rfl (pv_pick rfl rfl) rfl rfl (by kernel_rfl) (by kernel_rfl) (by kernel_rfl) (fun _ _ _ _ h => h) ?_
              refine xpval 32 rfl (pv_move rfl) rfl rfl (by kernel_rfl) (by kernel_rfl) (by kernel_rfl) (fun _ _ _ _ h => h) ?_
              refine xpskip 33 rfl rfl rfl (by kernel_rfl) (by kernel_rfl) (by kernel_rfl) (fun _ _ _ _ h => h) ?_
              refine xpskip 34 rfl rfl rfl (by kernel_rfl) (by kernel_rfl) (by kernel_rfl) (fun _ _ _ _ h => h) ?_
              refine xpskip 35 rfl rfl rfl (by kernel_rfl) (by kernel_rfl) (by kernel_rfl) (fun _ _ _ _ h => h) ?_
              refine xpskip 36 rfl rfl rfl (by kernel_rfl) (by kernel_rfl) (by kernel_rfl) (fun _ _ _ _ h => h) ?_
              refine xpskip 37 rfl rfl rfl (by kernel_rfl) (by kernel_rfl) (by kernel_rfl) (fun _ _ _ _ h => h) ?_
              refine xpskip 38 rfl rfl rfl (by kernel_rfl) (by kernel_rfl) (by kernel_rfl) (fun _ _ _ _ h => h) ?_
              refine xpskip 39 rfl rfl rfl (by kernel_rfl) (by kernel_rfl) (by kernel_rfl) (fun _ _ _ _ h => h) ?_
              refine xpskip 40 rfl rfl rfl (by kernel_rfl) (by kernel_rfl) (by kernel_rfl) (fun _ _ _ _ h => h) ?_
              refine xpskip 41 rfl rfl rfl (by kernel_rfl) (by kernel_rfl) (by kernel_rfl) (fun _ _ _ _ h => h) ?_
              refine xpval 42 rfl (pv_pick rfl rfl) rfl rfl (by kernel_rfl) (by kernel_rfl) (by kernel_rfl) (fun _ _ _ _ h => h) ?_
              refine xpval 43 rfl (pv_move rfl) rfl rfl (by kernel_rfl) (by kernel_rfl) (by kernel_rfl) (fun _ _ _ _ h => h) ?_
              refine xpskip 44 rfl rfl rfl (by kernel_rfl) (by kernel_rfl) (by kernel_rfl) (fun _ _ _ _ h => h) ?_
              refine xpval 45 rfl (pv_pick rfl rfl) rfl rfl (by kernel_rfl) (by kernel_rfl) (by kernel_rfl) (fun _ _ _ _ h => h) ?_
              refine xpval 46 rfl (pv_assign rfl) rfl rfl (by kernel_rfl) (by kernel_rfl) (by kernel_rfl) (fun _ _ _ _ h => h) ?_
              refine xpdone (by kernel_rfl) ?_
              exact xmeet ⟨false, h, rfl⟩ ⟨(.cons rfl (.refl _) (.nil _)), (SubM.of (.nil _) (.nil _))⟩
        · replace h := h.2 hp376
          refine psetB 50 (decide_eq_false hp376) rfl ?_
          refine xpskip 4 rfl rfl rfl (by kernel_rfl) (by kernel_rfl) (by kernel_rfl) (fun _ _ _ _ h => h) ?_
          refine xpskip 5 rfl rfl rfl (by kernel_rfl) (by kernel_rfl) (by kernel_rfl) (fun _ _ _ _ h => h) ?_
          refine xpskip 6 rfl rfl rfl (by kernel_rfl) (by kernel_rfl) (by kernel_rfl) (fun _ _ _ _ h => h) ?_
          refine xpskip 7 rfl rfl rfl (by kernel_rfl) (by kernel_rfl) (by kernel_rfl) (fun _ _ _ _ h => h) ?_
          refine xpskip 8 rfl rfl rfl (by kernel_rfl) (by kernel_rfl) (by kernel_rfl) (fun _ _ _ _ h => h) ?_
          refine xpskip 9 rfl rfl rfl (by kernel_rfl) (by kernel_rfl) (by kernel_rfl) (fun _ _ _ _ h => h) ?_
          refine xpval 10 rfl (pv_pick rfl rfl) rfl rfl (by kernel_rfl) (by kernel_rfl) (by kernel_rfl) (fun _ _ _ _ h => h) ?_
          refine xpval 11 rfl (pv_move rfl) rfl rfl (by kernel_rfl) (by kernel_rfl) (by kernel_rfl) (fun _ _ _ _ h => h) ?_
          refine xpskip 12 rfl rfl rfl (by kernel_rfl) (by kernel_rfl) (by kernel_rfl) (fun _ _ _ _ h => h) ?_
          refine xpskip 13 rfl rfl rfl (by kernel_rfl) (by kernel_rfl) (by kernel_rfl) (fun _ _ _ _ h => h) ?_
          refine xpskip 14 rfl rfl rfl (by kernel_rfl) (by kernel_rfl) (by kernel_rfl) (fun _ _ _ _ h => h) ?_
          refine xpskip 15 rfl rfl rfl (by kernel_rfl) (by kernel_rfl) (by kernel_rfl) (fun _ _ _ _ h => h) ?_
          refine xpskip 16 rfl rfl rfl (by kernel_rfl) (by kernel_rfl) (by kernel_rfl) (fun _ _ _ _ h => h) ?_
          refine xpskip 17 rfl rfl rfl (by kernel_rfl) (by kernel_rfl) (by kernel_rfl) (fun _ _ _ _ h => h) ?_
          refine xpskip 18 rfl rfl rfl (by kernel_rfl) (by kernel_rfl) (by kernel_rfl) (fun _ _ _ _ h => h) ?_
          refine xpskip 19 rfl rfl rfl (by kernel_rfl) (by kernel_rfl) (by kernel_rfl) (fun _ _ _ _ h => h) ?_
          refine xpval 20 rfl (pv_pick rfl rfl) rfl rfl (by kernel_rfl) (by kernel_rfl) (by kernel_rfl) (fun _ _ _ _ h => h) ?_
          refine xpval 21 rfl (pv_move rfl) rfl rfl (by kernel_rfl) (by kernel_rfl) (by kernel_rfl) (fun _ _ _ _ h => h) ?_
          refine xpskip 22 rfl rfl rfl (by kernel_rfl) (by kernel_rfl) (by kernel_rfl) (fun _ _ _ _ h => h) ?_
          refine xpskip 23 rfl rfl rfl (by kernel_rfl) (by kernel_rfl) (by kernel_rfl) (fun _ _ _ _ h => h) ?_
          refine xpskip 24 rfl rfl rfl (by kernel_rfl) (by kernel_rfl) (by kernel_rfl) (fun _ _ _ _ h => h) ?_
          refine xpskip 25 rfl rfl rfl (by kernel_rfl) (by kernel_rfl) (by kernel_rfl) (fun _ _ _ _ h => h) ?_
          refine xpskip 26 rfl rfl rfl (by kernel_rfl) (by kernel_rfl) (by kernel_rfl) (fun _ _ _ _ h => h) ?_
          refine xpskip 27 rfl rfl rfl (by kernel_rfl) (by kernel_rfl) (by kernel_rfl) (fun _ _ _ _ h => h) ?_
          refine xpskip 28 rfl rfl rfl (by kernel_rfl) (by kernel_rfl) (by kernel_rfl) (fun _ _ _ _ h => h) ?_
          refine xpskip 29 rfl rfl rfl (by kernel_rfl) (by kernel_rfl) (by kernel_rfl) (fun _ _ _ _ h => h) ?_
          refine xpskip 30 rfl rfl rfl (by kernel_rfl) (by kernel_rfl) (by kernel_rfl) (fun _ _ _ _ h => h) ?_
          refine xpval 31 rfl (pv_pick rfl rfl) rfl rfl (by kernel_rfl) (by kernel_rfl) (by kernel_rfl) (fun _ _ _ _ h => h) ?_
          refine xpval 32 rfl (pv_move rfl) rfl rfl (by kernel_rfl) (by kernel_rfl) (by kernel_rfl) (fun _ _ _ _ h => h) ?_
          refine xpskip 33 rfl rfl rfl (by kernel_rfl) (by kernel_rfl) (by kernel_rfl) (fun _ _ _ _ h => h) ?_
          refine xpskip 34 rfl rfl rfl (by kernel_rfl) (by kernel_rfl) (by kernel_rfl) (fun _ _ _ _ h => h) ?_
          refine xpskip 35 rfl rfl rfl (by kernel_rfl) (by kernel_rfl) (by kernel_rfl) (fun _ _ _ _ h => h) ?_
          refine xpskip 36 rfl rfl rfl (by kernel_rfl) (by kernel_rfl) (by kernel_rfl) (fun _ _ _ _ h => h) ?_
          refine xpskip 37 rfl rfl rfl (by kernel_rfl) (by kernel_rfl) (by kernel_rfl) (fun _ _ _ _ h => h) ?_
          refine xpskip 38 rfl rfl rfl (by kernel_rfl) (by kernel_rfl) (by kernel_rfl) (fun _ _ _ _ h => h) ?_
          refine xpskip 39 rfl rfl rfl (by kernel_rfl) (by kernel_rfl) (by kernel_rfl) (fun _ _ _ _ h => h) ?_
          refine xpskip 40 rfl rfl rfl (by kernel_rfl) (by kernel_rfl) (by kernel_rfl) (fun _ _ _ _ h => h) ?_
          refine xpskip 41 rfl rfl rfl (by kernel_rfl) (by kernel_rfl) (by kernel_rfl) (fun _ _ _ _ h => h) ?_
          refine xpval 42 rfl (pv_pick rfl rfl) rfl rfl (by kernel_rfl) (by kernel_rfl) (by kernel_rfl) (fun _ _ _ _ h => h) ?_
          refine xpval 43 rfl (pv_move rfl) rfl rfl (by kernel_rfl) (by kernel_rfl) (by kernel_rfl) (fun _ _ _ _ h => h) ?_
          refine xpskip 44 rfl rfl rfl (by kernel_rfl) (by kernel_rfl) (by kernel_rfl) (fun _ _ _ _ h => h) ?_
          refine xpval 45 rfl (pv_pick rfl rfl) rfl rfl (by kernel_rfl) (by kernel_rfl) (by kernel_rfl) (fun _ _ _ _ h => h) ?_
          refine xpval 46 rfl (pv_assign rfl) rfl rfl (by kernel_rfl) (by kernel_rfl) (by kernel_rfl) (fun _ _ _ _ h => h) ?_
          refine xpdone (by kernel_rfl) ?_
          exact xmeet ⟨false, h, rfl⟩ ⟨(.cons rfl (.refl _) (.nil _)), (SubM.of (.nil _) (.nil _))⟩
      · clear h
        rintro _ ⟨x374, h, rfl⟩
        refine xretc ?_
        replace h := h.symm
        subst h
        exact xret1 hg rfl rfl (.refl _) (SubM.of (.nil _) (.nil _)) ⟨rfl, rfl, rfl⟩
end Go.Proofs.Ythffeojphpajpaa
