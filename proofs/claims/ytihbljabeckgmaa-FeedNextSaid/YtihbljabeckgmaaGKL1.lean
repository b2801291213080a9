/- What functions' texts ask for, and the walks that show it (printed by a program). -/
import Derived.Test.YtihbljabeckgmaaGK
namespace Go.Proofs.Ytihbljabeckgmaa
/-- palinodelaw18.FeedNext -/
def palinodelaw18_FeedNext_j2 (x62 : Bool) (r : Bool) : Prop :=
  r = x62
def palinodelaw18_FeedNext_j1 (x1 : Int × Int × Int × Int × (List UInt8)) (x2 : List (ByteArray × (List UInt8))) (x3 : Bool × Bool × Bool × Bool × (List ByteArray)) (x23 : Bool) (r : Bool) : Prop :=
  ((x23 = true → ∃ y31 : Bool, palinodelaw18_awake_R y31 ∧ r = y31) ∧ (¬ (x23 = true) → ∃ y33 : ((List UInt8) × Bool) × (Int × Int × Int × Int × (List UInt8)) × Bool, feed_Next_R x1 x2 x3 y33 ∧ ∃ y35 : ((List UInt8) × Bool) × (Int × Int × Int × Int × (List UInt8)) × Bool, palinoderef18_Next_R x1 x2 x3.2.2.2.2 y35 ∧ (((y33.2.2 == y35.2.2) = true → ∃ y66 : Bool, palinodelaw18_same_R y33.1 y35.1 y66 ∧ ((y66 = true → ∃ y69 : Bool, palinoderef18_Same_R y33.2.1 y35.2.1 y69 ∧ ((y69 = true → ∃ y72 : Bool, feed_Last_R x1 x2 x3 y72 ∧ ∃ y74 : Bool, palinoderef18_Last_R x1 x2 x3 y74 ∧ (((y72 == y74) = true → ∃ y79 : Bool, feed_Last_R y33.2.1 x2 x3 y79 ∧ ∃ y81 : Bool, palinoderef18_Last_R y35.2.1 x2 x3 y81 ∧ (((y79 == y81) = true → ∃ y86 : Bool, palinodelaw18_awake_R y86 ∧ palinodelaw18_FeedNext_j2 y86 r) ∧ (¬ ((y79 == y81) = true) → palinodelaw18_FeedNext_j2 false r))) ∧ (¬ ((y72 == y74) = true) → palinodelaw18_FeedNext_j2 false r))) ∧ (¬ (y69 = true) → palinodelaw18_FeedNext_j2 false r))) ∧ (¬ (y66 = true) → palinodelaw18_FeedNext_j2 false r))) ∧ (¬ ((y33.2.2 == y35.2.2) = true) → palinodelaw18_FeedNext_j2 false r))))
def palinodelaw18_FeedNext_R (x1 : Int × Int × Int × Int × (List UInt8)) (x2 : List (ByteArray × (List UInt8))) (x3 : Bool × Bool × Bool × Bool × (List ByteArray)) (r : Bool) : Prop :=
  ∃ y25 : Bool, palinoderef18_Great_R x2 x3 y25 ∧ palinodelaw18_FeedNext_j1 x1 x2 x3 (y25 || (decide (500 < (x1.2.2.2.2.length : Int)))) r
def palinodelaw18_FeedNext_j2_ev (fuel : Nat) (x62 : Bool) : Option (Bool) :=
  some x62
theorem palinodelaw18_FeedNext_j2_ok {fuel : Nat} {x62 : Bool} {r : Bool} (h : palinodelaw18_FeedNext_j2_ev fuel x62 = some r) : palinodelaw18_FeedNext_j2 x62 r := by
  unfold palinodelaw18_FeedNext_j2_ev at h
  unfold palinodelaw18_FeedNext_j2
  exact (Option.some.inj h).symm
def palinodelaw18_FeedNext_j1_ev (fuel : Nat) (x1 : Int × Int × Int × Int × (List UInt8)) (x2 : List (ByteArray × (List UInt8))) (x3 : Bool × Bool × Bool × Bool × (List ByteArray)) (x23 : Bool) : Option (Bool) :=
  (if x23 = true then ((palinodelaw18_awake_ev fuel).bind fun y31 => some y31) else ((feed_Next_ev fuel x1 x2 x3).bind fun y33 => ((palinoderef18_Next_ev fuel x1 x2 x3.2.2.2.2).bind fun y35 => (if (y33.2.2 == y35.2.2) = true then ((palinodelaw18_same_ev fuel y33.1 y35.1).bind fun y66 => (if y66 = true then ((palinoderef18_Same_ev fuel y33.2.1 y35.2.1).bind fun y69 => (if y69 = true then ((feed_Last_ev fuel x1 x2 x3).bind fun y72 => ((palinoderef18_Last_ev fuel x1 x2 x3).bind fun y74 => (if (y72 == y74) = true then ((feed_Last_ev fuel y33.2.1 x2 x3).bind fun y79 => ((palinoderef18_Last_ev fuel y35.2.1 x2 x3).bind fun y81 => (if (y79 == y81) = true then ((palinodelaw18_awake_ev fuel).bind fun y86 => palinodelaw18_FeedNext_j2_ev fuel y86) else palinodelaw18_FeedNext_j2_ev fuel false))) else palinodelaw18_FeedNext_j2_ev fuel false))) else palinodelaw18_FeedNext_j2_ev fuel false)) else palinodelaw18_FeedNext_j2_ev fuel false)) else palinodelaw18_FeedNext_j2_ev fuel false))))
theorem palinodelaw18_FeedNext_j1_ok {fuel : Nat} {x1 : Int × Int × Int × Int × (List UInt8)} {x2 : List (ByteArray × (List UInt8))} {x3 : Bool × Bool × Bool × Bool × (List ByteArray)} {x23 : Bool} {r : Bool} (h : palinodelaw18_FeedNext_j1_ev fuel x1 x2 x3 x23 = some r) : palinodelaw18_FeedNext_j1 x1 x2 x3 x23 r := by
  unfold palinodelaw18_FeedNext_j1_ev at h
  unfold palinodelaw18_FeedNext_j1
  refine ⟨fun g164 => ?_, fun g164 => ?_⟩
  · rw [if_pos g164] at h
    obtain ⟨q165, g165, h⟩ := bind_ok h
    refine ⟨q165, palinodelaw18_awake_ok g165, ?_⟩
    exact (Option.some.inj h).symm
  · rw [if_neg g164] at h
    obtain ⟨q166, g166, h⟩ := bind_ok h
    refine ⟨q166, feed_Next_ok g166, ?_⟩
    obtain ⟨q167, g167, h⟩ := bind_ok h
    refine ⟨q167, palinoderef18_Next_ok g167, ?_⟩
    refine ⟨fun g168 => ?_, fun g168 => ?_⟩
    · rw [if_pos g168] at h
      obtain ⟨q169, g169, h⟩ := bind_ok h
      refine ⟨q169, palinodelaw18_same_ok g169, ?_⟩
      refine ⟨fun g170 => ?_, fun g170 => ?_⟩
      · rw [if_pos g170] at h
        obtain ⟨q171, g171, h⟩ := bind_ok h
        refine ⟨q171, palinoderef18_Same_ok g171, ?_⟩
        refine ⟨fun g172 => ?_, fun g172 => ?_⟩
        · rw [if_pos g172] at h
          obtain ⟨q173, g173, h⟩ := bind_ok h
          refine ⟨q173, feed_Last_ok g173, ?_⟩
          obtain ⟨q174, g174, h⟩ := bind_ok h
          refine ⟨q174, palinoderef18_Last_ok g174, ?_⟩
          refine ⟨fun g175 => ?_, fun g175 => ?_⟩
          · rw [if_pos g175] at h
            obtain ⟨q176, g176, h⟩ := bind_ok h
            refine ⟨q176, feed_Last_ok g176, ?_⟩
            obtain ⟨q177, g177, h⟩ := bind_ok h
            refine ⟨q177, palinoderef18_Last_ok g177, ?_⟩
            refine ⟨fun g178 => ?_, fun g178 => ?_⟩
            · rw [if_pos g178] at h
              obtain ⟨q179, g179, h⟩ := bind_ok h
              refine ⟨q179, palinodelaw18_awake_ok g179, ?_⟩
              exact palinodelaw18_FeedNext_j2_ok h
            · rw [if_neg g178] at h
              exact palinodelaw18_FeedNext_j2_ok h
          · rw [if_neg g175] at h
            exact palinodelaw18_FeedNext_j2_ok h
        · rw [if_neg g172] at h
          exact palinodelaw18_FeedNext_j2_ok h
      · rw [if_neg g170] at h
        exact palinodelaw18_FeedNext_j2_ok h
    · rw [if_neg g168] at h
      exact palinodelaw18_FeedNext_j2_ok h
def palinodelaw18_FeedNext_ev (fuel : Nat) (x1 : Int × Int × Int × Int × (List UInt8)) (x2 : List (ByteArray × (List UInt8))) (x3 : Bool × Bool × Bool × Bool × (List ByteArray)) : Option (Bool) :=
  ((palinoderef18_Great_ev fuel x2 x3).bind fun y25 => palinodelaw18_FeedNext_j1_ev fuel x1 x2 x3 (y25 || (decide (500 < (x1.2.2.2.2.length : Int)))))
theorem palinodelaw18_FeedNext_ok {fuel : Nat} {x1 : Int × Int × Int × Int × (List UInt8)} {x2 : List (ByteArray × (List UInt8))} {x3 : Bool × Bool × Bool × Bool × (List ByteArray)} {r : Bool} (h : palinodelaw18_FeedNext_ev fuel x1 x2 x3 = some r) : palinodelaw18_FeedNext_R x1 x2 x3 r := by
  unfold palinodelaw18_FeedNext_ev at h
  unfold palinodelaw18_FeedNext_R
  obtain ⟨q180, g180, h⟩ := bind_ok h
  refine ⟨q180, palinoderef18_Great_ok g180, ?_⟩
  exact palinodelaw18_FeedNext_j1_ok h
set_option maxHeartbeats 4000000 in
theorem palinodelaw18_FeedNext_con (x1 : Int × Int × Int × Int × (List UInt8)) (x2 : List (ByteArray × (List UInt8))) (x3 : Bool × Bool × Bool × Bool × (List ByteArray)) (r : Bool) (h : palinodelaw18_FeedNext_R x1 x2 x3 r) : Con Try.prog 5 [.agg [.v (.int .i64 x1.1), .v (.int .i64 x1.2.1), .v (.int .i64 x1.2.2.1), .v (.int .i64 x1.2.2.2.1), .sl 1 none (List.map eb x1.2.2.2.2)], .sl 2 none (List.map E_palinode_api_File x2), .agg [.v (.bool x3.1), .v (.bool x3.2.1), .v (.bool x3.2.2.1), .v (.bool x3.2.2.2.1), .sl 1 none (List.map es x3.2.2.2.2)]] [] [] (Ret (.v (.bool r))) := by
  refine xenter Try.func5 rfl rfl fun g hg => ?_
  simp only [Try.ntmps5, slots]
  refine xseq ?_
  refine xregion ?_
  refine xbox rfl rfl rfl rfl fun b3 => ?_
  refine xbox rfl rfl rfl rfl fun b5 => ?_
  refine xvalP (pv_assign rfl) rfl rfl ?_
  refine xnil ?_
  refine xthen ?_
  refine xseq ?_
  refine xseqM (fun σ => ∃ (x23 : Bool), palinodelaw18_FeedNext_j1 x1 x2 x3 x23 r ∧ σ = ⟨[(1, .sl 2 none (List.map E_palinode_api_File x2)), (3, .v (.pointer (some ⟨b3, 0, none⟩))), (5, .v (.pointer (some ⟨b5, 0, none⟩))), (21, .v (.bool x23))], [⟨b5, 25, [.v (.bool x3.1), .v (.bool x3.2.1), .v (.bool x3.2.2.1), .v (.bool x3.2.2.2.1), .sl 1 none (List.map es x3.2.2.2.2)]⟩, ⟨b3, 42, [.v (.int .i64 x1.1), .v (.int .i64 x1.2.1), .v (.int .i64 x1.2.2.1), .v (.int .i64 x1.2.2.2.1), .sl 1 none (List.map eb x1.2.2.2.2)]⟩], []⟩) ?_ ?_
  · refine xregion ?_
    refine xvalP (pv_move rfl) rfl rfl ?_
    refine xval (qv_loadB 0 ShpC.h rfl rfl rfl rfl) rfl rfl ?_
    obtain ⟨y25, h24, h⟩ := h
    refine xcall0 (palinoderef18_Great_con x2 x3 _ h24) Try.func8 (by kernel_rfl) rfl (.cons rfl (.refl _) (.cons rfl (.refl _) .nil)) rfl rfl ?_
    refine xvalP (pv_move rfl) rfl rfl ?_
    by_cases hp26 : y25 = true
    · rw [show y25 = true from hp26, Bool.true_or] at h
      refine xsetB 16 hp26 rfl ?_
      refine xskip rfl rfl ?_
      refine xskip rfl rfl ?_
      refine xskip rfl rfl ?_
      refine xskip rfl rfl ?_
      refine xvalP (pv_pick rfl rfl) rfl rfl ?_
      refine xnil ?_
      exact xmeet ⟨true, h, rfl⟩ ⟨(.cons rfl (.refl _) (.cons rfl (.refl _) (.cons rfl (.refl _) (.cons rfl (.refl _) (.nil _))))), (SubM.of (.keep rfl rfl (.refl _) (.keep rfl rfl (.refl _) (.nil _))) (.nil _))⟩
    · rw [show y25 = false from (b_f hp26), Bool.false_or] at h
      refine xsetB 16 (b_f hp26) rfl ?_
      refine xvalP (qv_fieldAddrB FldC.h rfl) rfl rfl ?_
      refine xval (qv_loadB 1 ShpC.h rfl rfl rfl rfl) rfl rfl ?_
      refine xvalP (pv_lenM UndC.h rfl) rfl rfl ?_
      refine xvalP (pv_bin2 rfl rfl rfl) rfl rfl ?_
      refine xvalP (pv_pick rfl rfl) rfl rfl ?_
      refine xnil ?_
      exact xmeet ⟨(decide (500 < (x1.2.2.2.2.length : Int))), h, rfl⟩ ⟨(.cons rfl (.refl _) (.cons rfl (.refl _) (.cons rfl (.refl _) (.cons rfl (.refl _) (.nil _))))), (SubM.of (.keep rfl rfl (.refl _) (.keep rfl rfl (.refl _) (.nil _))) (.nil _))⟩
  · clear h
    rintro _ ⟨x23, h, rfl⟩
    by_cases hp29 : x23 = true
    · replace h := h.1 hp29
      refine xcondT' hp29 rfl ?_
      refine xseq ?_
      refine xregion ?_
      obtain ⟨y31, h30, h⟩ := h
      refine xcall0 (palinodelaw18_awake_con _ h30) Try.func9 (by kernel_rfl) rfl .nil rfl rfl ?_
      refine xvalP (pv_assign rfl) rfl rfl ?_
      refine xnil ?_
      refine xthen ?_
      refine xretc ?_
      refine xthen_ret ?_
      replace h := h.symm
      subst h
      exact xret1 hg rfl rfl (.refl _) (SubM.of (.nil _) (.nil _)) ⟨rfl, rfl, rfl⟩
    · replace h := h.2 hp29
      refine xcondF' (b_f hp29) rfl ?_
      refine xskipc ?_
      refine xthen ?_
      refine xseq ?_
      refine xregion ?_
      refine xval (qv_loadB 1 ShpC.h rfl rfl rfl rfl) rfl rfl ?_
      refine xvalP (pv_move rfl) rfl rfl ?_
      refine xval (qv_loadB 0 ShpC.h rfl rfl rfl rfl) rfl rfl ?_
      obtain ⟨y33, h32, h⟩ := h
      refine xcallF (Fb := [⟨b5, 25, [.v (.bool x3.1), .v (.bool x3.2.1), .v (.bool x3.2.2.1), .v (.bool x3.2.2.2.1), .sl 1 none (List.map es x3.2.2.2.2)]⟩, ⟨b3, 42, [.v (.int .i64 x1.1), .v (.int .i64 x1.2.1), .v (.int .i64 x1.2.2.1), .v (.int .i64 x1.2.2.2.1), .sl 1 none (List.map eb x1.2.2.2.2)]⟩]) (Ft := []) (feed_Next_con x1 x2 x3 _ h32) Try.func15 (by kernel_rfl) rfl (.cons rfl (.refl _) (.cons rfl (.refl _) (.cons rfl (.refl _) .nil))) (by exact (SubM.of (by repeat (first | with_reducible exact SubB.refl _ | exact SubB.nil _ | refine SubB.keep rfl rfl (by first | with_reducible exact WkL.refl _ | ((repeat (first | exact WkL.nil | refine WkL.cons (by first | with_reducible exact Wk.refl _ | exact Wk.nil_own _ | exact Wk.nil_pl _ | with_reducible exact Wk.tok _ _ _ | exact Wk.tok _ _ _ | exact Wk.eq (by first | rfl | (simp []; done) | (simp []; omega))) ?_)); done) | exact WkL.refl _) ?_ | refine SubB.drop ?_)) (by repeat (first | exact SubT.nil _ | refine SubT.add ?_ | (refine SubT.keep ?_ ?_; focus (first | with_reducible rfl | (simp []; done))) | refine SubT.drop ?_)))) rfl rfl ?_
      rintro _ _ _ ⟨rfl, rfl, rfl⟩
      simp only [List.nil_append, List.cons_append]
      refine xvalP (pv_move rfl) rfl rfl ?_
      refine xvalP (pv_extract rfl rfl) rfl rfl ?_
      refine xvalP (pv_extract rfl rfl) rfl rfl ?_
      refine xvalP (pv_extract rfl rfl) rfl rfl ?_
      refine xalloc InfC.h rfl rfl fun b7 => ?_
      refine xalloc InfC.h rfl rfl fun b8 => ?_
      refine xstore 1 ShpC.h rfl rfl rfl rfl rfl rfl rfl ?_
      refine xstore 0 ShpC.h rfl rfl rfl rfl rfl rfl rfl ?_
      refine xvalP (pv_assign rfl) rfl rfl ?_
      refine xnil ?_
      refine xthen ?_
      refine xseq ?_
      refine xregion ?_
      refine xval (qv_loadB 3 ShpC.h rfl rfl rfl rfl) rfl rfl ?_
      refine xvalP (pv_move rfl) rfl rfl ?_
      refine xvalP (qv_fieldAddrB FldC.h rfl) rfl rfl ?_
      refine xval (qv_loadB 2 ShpC.h rfl rfl rfl rfl) rfl rfl ?_
      obtain ⟨y35, h34, h⟩ := h
      refine xcallF (Fb := [⟨b8, 42, [.v (.int .i64 y33.2.1.1), .v (.int .i64 y33.2.1.2.1), .v (.int .i64 y33.2.1.2.2.1), .v (.int .i64 y33.2.1.2.2.2.1), .sl 1 none (List.map eb y33.2.1.2.2.2.2)]⟩, ⟨b7, 36, [.sl 1 none (List.map eb y33.1.1), .v (.bool y33.1.2)]⟩, ⟨b5, 25, [.v (.bool x3.1), .v (.bool x3.2.1), .v (.bool x3.2.2.1), .v (.bool x3.2.2.2.1), .sl 1 none (List.map es x3.2.2.2.2)]⟩, ⟨b3, 42, [.v (.int .i64 x1.1), .v (.int .i64 x1.2.1), .v (.int .i64 x1.2.2.1), .v (.int .i64 x1.2.2.2.1), .sl 1 none (List.map eb x1.2.2.2.2)]⟩]) (Ft := []) (palinoderef18_Next_con x1 x2 x3.2.2.2.2 _ h34) Try.func17 (by kernel_rfl) rfl (.cons rfl (.refl _) (.cons rfl (.refl _) (.cons rfl (.refl _) .nil))) (by exact (SubM.of (by repeat (first | with_reducible exact SubB.refl _ | exact SubB.nil _ | refine SubB.keep rfl rfl (by first | with_reducible exact WkL.refl _ | ((repeat (first | exact WkL.nil | refine WkL.cons (by first | with_reducible exact Wk.refl _ | exact Wk.nil_own _ | exact Wk.nil_pl _ | with_reducible exact Wk.tok _ _ _ | exact Wk.tok _ _ _ | exact Wk.eq (by first | rfl | (simp []; done) | (simp []; omega))) ?_)); done) | exact WkL.refl _) ?_ | refine SubB.drop ?_)) (by repeat (first | exact SubT.nil _ | refine SubT.add ?_ | (refine SubT.keep ?_ ?_; focus (first | with_reducible rfl | (simp []; done))) | refine SubT.drop ?_)))) rfl rfl ?_
      rintro _ _ _ ⟨rfl, rfl, rfl⟩
      simp only [List.nil_append, List.cons_append]
      refine xvalP (pv_move rfl) rfl rfl ?_
      refine xvalP (pv_extract rfl rfl) rfl rfl ?_
      refine xvalP (pv_extract rfl rfl) rfl rfl ?_
      refine xvalP (pv_extract rfl rfl) rfl rfl ?_
      refine xalloc InfC.h rfl rfl fun b10 => ?_
      refine xalloc InfC.h rfl rfl fun b11 => ?_
      refine xstore 1 ShpC.h rfl rfl rfl rfl rfl rfl rfl ?_
      refine xstore 0 ShpC.h rfl rfl rfl rfl rfl rfl rfl ?_
      refine xvalP (pv_assign rfl) rfl rfl ?_
      refine xnil ?_
      refine xthen ?_
      refine xseqM (fun σ => ∃ (x62 : Bool), palinodelaw18_FeedNext_j2 x62 r ∧ σ = ⟨[(6, .v (.bool x62))], [], []⟩) ?_ ?_
      · refine xregionD (m := 39) (by kernel_rfl) rfl ?_
        refine xpval 0 rfl (pv_move rfl) rfl rfl (by kernel_rfl) (by kernel_rfl) (by kernel_rfl) (fun _ _ _ _ h => h) ?_
        refine xpval 1 rfl (pv_move rfl) rfl rfl (by kernel_rfl) (by kernel_rfl) (by kernel_rfl) (fun _ _ _ _ h => h) ?_
        refine xpval 2 rfl (pv_eqB UndC.h rfl rfl) rfl rfl (by kernel_rfl) (by kernel_rfl) (by kernel_rfl) (fun _ _ _ _ h => h) ?_
        refine xpval 3 rfl (pv_move rfl) rfl rfl (by kernel_rfl) (by kernel_rfl) (by kernel_rfl) (fun _ _ _ _ h => h) ?_
        by_cases hp64 : (y33.2.2 == y35.2.2) = true
        · replace h := h.1 hp64
          refine psetB 43 hp64 rfl ?_
          obtain ⟨y66, h65, h⟩ := h
          refine xpvalE 4 [5] rfl (qv_loadB 3 ShpC.h rfl rfl rfl rfl) rfl rfl (by kernel_rfl) (by kernel_rfl) (by kernel_rfl) (fun _ _ _ _ h => h) ?_
          refine xpvalE 5 [] rfl (qv_loadB 1 ShpC.h rfl rfl rfl rfl) rfl rfl (by kernel_rfl) (by kernel_rfl) (by kernel_rfl) (fun _ _ _ _ h => h) ?_
          refine xpstep (i := 6) (by kernel_rfl) rfl ?_
          refine wcall0 (palinodelaw18_same_con y33.1 y35.1 _ h65) Try.func13 (by kernel_rfl) rfl (.cons rfl (.refl _) (.cons rfl (.refl _) .nil)) rfl rfl ?_
          refine xpval 7 rfl (pv_pick rfl rfl) rfl rfl (by kernel_rfl) (by kernel_rfl) (by kernel_rfl) (fun _ _ _ _ h => h) ?_
          refine xpval 8 rfl (pv_move rfl) rfl rfl (by kernel_rfl) (by kernel_rfl) (by kernel_rfl) (fun _ _ _ _ h => h) ?_
          by_cases hp67 : y66 = true
          · replace h := h.1 hp67
            refine psetB 48 hp67 rfl ?_
            obtain ⟨y69, h68, h⟩ := h
            refine xpvalE 9 [10] rfl (qv_loadB 2 ShpC.h rfl rfl rfl rfl) rfl rfl (by kernel_rfl) (by kernel_rfl) (by kernel_rfl) (fun _ _ _ _ h => h) ?_
            refine xpvalE 10 [] rfl (qv_loadB 0 ShpC.h rfl rfl rfl rfl) rfl rfl (by kernel_rfl) (by kernel_rfl) (by kernel_rfl) (fun _ _ _ _ h => h) ?_
            refine xpstep (i := 11) (by kernel_rfl) rfl ?_
            refine wcall0 (palinoderef18_Same_con y33.2.1 y35.2.1 _ h68) Try.func16 (by kernel_rfl) rfl (.cons rfl (.refl _) (.cons rfl (.refl _) .nil)) rfl rfl ?_
            refine xpval 12 rfl (pv_pick rfl rfl) rfl rfl (by kernel_rfl) (by kernel_rfl) (by kernel_rfl) (fun _ _ _ _ h => h) ?_
            refine xpval 13 rfl (pv_move rfl) rfl rfl (by kernel_rfl) (by kernel_rfl) (by kernel_rfl) (fun _ _ _ _ h => h) ?_
            by_cases hp70 : y69 = true
            · replace h := h.1 hp70
              refine psetB 53 hp70 rfl ?_
              obtain ⟨y72, h71, h⟩ := h
              obtain ⟨y74, h73, h⟩ := h
              refine xpcut 18 #[true, true, true, true, true, true, true, true, true, true, true, true, true, true, true, true, true, true, true, true, true, false, false, false, false, false, false, false, false, false, false, false, false, false, false, false, false, false, false] (fun σ => σ = ⟨[(1, .sl 2 none (List.map E_palinode_api_File x2)), (5, .v (.pointer (some ⟨b5, 0, none⟩))), (8, .v (.pointer (some ⟨b8, 0, none⟩))), (11, .v (.pointer (some ⟨b11, 0, none⟩))), (53, .v (.bool true)), (57, .v (.bool y72)), (58, .agg [.v (.int .i64 x1.1), .v (.int .i64 x1.2.1), .v (.int .i64 x1.2.2.1), .v (.int .i64 x1.2.2.2.1), .sl 1 none (List.map eb x1.2.2.2.2)]), (59, .sl 2 none (List.map E_palinode_api_File x2)), (60, .agg [.v (.bool x3.1), .v (.bool x3.2.1), .v (.bool x3.2.2.1), .v (.bool x3.2.2.2.1), .sl 1 none (List.map es x3.2.2.2.2)])], [⟨b11, 42, [.v (.int .i64 y35.2.1.1), .v (.int .i64 y35.2.1.2.1), .v (.int .i64 y35.2.1.2.2.1), .v (.int .i64 y35.2.1.2.2.2.1), .sl 1 none (List.map eb y35.2.1.2.2.2.2)]⟩, ⟨b8, 42, [.v (.int .i64 y33.2.1.1), .v (.int .i64 y33.2.1.2.1), .v (.int .i64 y33.2.1.2.2.1), .v (.int .i64 y33.2.1.2.2.2.1), .sl 1 none (List.map eb y33.2.1.2.2.2.2)]⟩, ⟨b5, 25, [.v (.bool x3.1), .v (.bool x3.2.1), .v (.bool x3.2.2.1), .v (.bool x3.2.2.2.1), .sl 1 none (List.map es x3.2.2.2.2)]⟩], []⟩) ?_ (fun key76 => ?_)
              · rintro _ rfl
                refine xpstep (i := 21) (by kernel_rfl) rfl ?_
                refine wcall0 (palinoderef18_Last_con x1 x2 x3 _ h73) Try.func19 (by kernel_rfl) rfl (.cons rfl (.refl _) (.cons rfl (.refl _) (.cons rfl (.refl _) .nil))) rfl rfl ?_
                refine xpval 22 rfl (pv_eqB UndC.h rfl rfl) rfl rfl (by kernel_rfl) (by kernel_rfl) (by kernel_rfl) (fun _ _ _ _ h => h) ?_
                refine xpval 23 rfl (pv_pick rfl rfl) rfl rfl (by kernel_rfl) (by kernel_rfl) (by kernel_rfl) (fun _ _ _ _ h => h) ?_
                refine xpval 24 rfl (pv_move rfl) rfl rfl (by kernel_rfl) (by kernel_rfl) (by kernel_rfl) (fun _ _ _ _ h => h) ?_
                by_cases hp77 : (y72 == y74) = true
                · replace h := h.1 hp77
                  refine psetB 64 hp77 rfl ?_
                  obtain ⟨y79, h78, h⟩ := h
                  obtain ⟨y81, h80, h⟩ := h
                  refine xpcut 7 #[true, true, true, true, true, true, true, true, true, true, true, true, true, true, true, true, true, true, true, true, true, true, true, true, true, true, true, true, true, true, true, true, false, false, false, false, false, false, false] (fun σ => σ = ⟨[(64, .v (.bool true)), (68, .v (.bool y79)), (69, .agg [.v (.int .i64 y35.2.1.1), .v (.int .i64 y35.2.1.2.1), .v (.int .i64 y35.2.1.2.2.1), .v (.int .i64 y35.2.1.2.2.2.1), .sl 1 none (List.map eb y35.2.1.2.2.2.2)]), (70, .sl 2 none (List.map E_palinode_api_File x2)), (71, .agg [.v (.bool x3.1), .v (.bool x3.2.1), .v (.bool x3.2.2.1), .v (.bool x3.2.2.2.1), .sl 1 none (List.map es x3.2.2.2.2)])], [], []⟩) ?_ (fun key83 => ?_)
                  · rintro _ rfl
                    refine xpstep (i := 32) (by kernel_rfl) rfl ?_
                    refine wcall0 (palinoderef18_Last_con y35.2.1 x2 x3 _ h80) Try.func19 (by kernel_rfl) rfl (.cons rfl (.refl _) (.cons rfl (.refl _) (.cons rfl (.refl _) .nil))) rfl rfl ?_
                    refine xpval 33 rfl (pv_eqB UndC.h rfl rfl) rfl rfl (by kernel_rfl) (by kernel_rfl) (by kernel_rfl) (fun _ _ _ _ h => h) ?_
                    refine xpval 34 rfl (pv_pick rfl rfl) rfl rfl (by kernel_rfl) (by kernel_rfl) (by kernel_rfl) (fun _ _ _ _ h => h) ?_
                    refine xpval 35 rfl (pv_move rfl) rfl rfl (by kernel_rfl) (by kernel_rfl) (by kernel_rfl) (fun _ _ _ _ h => h) ?_
                    by_cases hp84 : (y79 == y81) = true
                    · replace h := h.1 hp84
                      refine psetB 75 hp84 rfl ?_
                      obtain ⟨y86, h85, h⟩ := h
                      refine xpstep (i := 36) (by kernel_rfl) rfl ?_
                      refine wcall0 (palinodelaw18_awake_con _ h85) Try.func9 (by kernel_rfl) rfl .nil rfl rfl ?_
                      refine xpval 37 rfl (pv_pick rfl rfl) rfl rfl (by kernel_rfl) (by kernel_rfl) (by kernel_rfl) (fun _ _ _ _ h => h) ?_
                      refine xpval 38 rfl (pv_assign rfl) rfl rfl (by kernel_rfl) (by kernel_rfl) (by kernel_rfl) (fun _ _ _ _ h => h) ?_
                      refine xpdone (by kernel_rfl) ?_
                      exact xmeet ⟨y86, h, rfl⟩ ⟨(.cons rfl (.refl _) (.nil _)), (SubM.of (.nil _) (.nil _))⟩
                    · replace h := h.2 hp84
                      refine psetB 75 (b_f hp84) rfl ?_
                      refine xpskip 36 rfl rfl rfl (by kernel_rfl) (by kernel_rfl) (by kernel_rfl) (fun _ _ _ _ h => h) ?_
                      refine xpval 37 rfl (pv_pick rfl rfl) rfl rfl (by kernel_rfl) (by kernel_rfl) (by kernel_rfl) (fun _ _ _ _ h => h) ?_
                      refine xpval 38 rfl (pv_assign rfl) rfl rfl (by kernel_rfl) (by kernel_rfl) (by kernel_rfl) (fun _ _ _ _ h => h) ?_
                      refine xpdone (by kernel_rfl) ?_
                      exact xmeet ⟨false, h, rfl⟩ ⟨(.cons rfl (.refl _) (.nil _)), (SubM.of (.nil _) (.nil _))⟩
                  refine xpcut 8 #[true, true, true, true, true, true, true, true, true, true, true, true, true, true, true, true, true, true, true, true, true, true, true, true, true, true, true, true, false, true, true, true, false, false, false, false, false, false, false] (fun σ => σ = ⟨[(64, .v (.bool true)), (65, .agg [.v (.int .i64 y33.2.1.1), .v (.int .i64 y33.2.1.2.1), .v (.int .i64 y33.2.1.2.2.1), .v (.int .i64 y33.2.1.2.2.2.1), .sl 1 none (List.map eb y33.2.1.2.2.2.2)]), (66, .sl 2 none (List.map E_palinode_api_File x2)), (67, .agg [.v (.bool x3.1), .v (.bool x3.2.1), .v (.bool x3.2.2.1), .v (.bool x3.2.2.2.1), .sl 1 none (List.map es x3.2.2.2.2)]), (69, .agg [.v (.int .i64 y35.2.1.1), .v (.int .i64 y35.2.1.2.1), .v (.int .i64 y35.2.1.2.2.1), .v (.int .i64 y35.2.1.2.2.2.1), .sl 1 none (List.map eb y35.2.1.2.2.2.2)]), (70, .sl 2 none (List.map E_palinode_api_File x2)), (71, .agg [.v (.bool x3.1), .v (.bool x3.2.1), .v (.bool x3.2.2.1), .v (.bool x3.2.2.2.1), .sl 1 none (List.map es x3.2.2.2.2)])], [], []⟩) ?_ (fun key87 => ?_)
                  · rintro _ rfl
                    refine xpstep (i := 28) (by kernel_rfl) rfl ?_
                    refine wcall0 (feed_Last_con y33.2.1 x2 x3 _ h78) Try.func18 (by kernel_rfl) rfl (.cons rfl (.refl _) (.cons rfl (.refl _) (.cons rfl (.refl _) .nil))) rfl rfl ?_
                    exact xpuse key83 rfl ⟨(.cons rfl (.refl _) (.cons rfl (.refl _) (.cons rfl (.refl _) (.cons rfl (.refl _) (.cons rfl (.refl _) (.nil _)))))), (SubM.of (.nil _) (.nil _))⟩ rfl (by kernel_rfl)
                  refine xpval 26 rfl (pv_move rfl) rfl rfl (by kernel_rfl) (by kernel_rfl) (by kernel_rfl) (fun _ _ _ _ h => h) ?_
                  refine xpval 30 rfl (pv_move rfl) rfl rfl (by kernel_rfl) (by kernel_rfl) (by kernel_rfl) (fun _ _ _ _ h => h) ?_
                  refine xpvalE 25 [27, 29, 31] rfl (qv_loadB 1 ShpC.h rfl rfl rfl rfl) rfl rfl (by kernel_rfl) (by kernel_rfl) (by kernel_rfl) (fun _ _ _ _ h => h) ?_
                  refine xpvalE 27 [29, 31] rfl (qv_loadB 2 ShpC.h rfl rfl rfl rfl) rfl rfl (by kernel_rfl) (by kernel_rfl) (by kernel_rfl) (fun _ _ _ _ h => h) ?_
                  refine xpstepN (is := [28, 29, 31]) (by kernel_rfl) (by simp) ?_
                  intro i hi; simp only [List.mem_cons, List.not_mem_nil, or_false] at hi; rcases hi with rfl | rfl | rfl
                  · refine ⟨_, rfl, ?_⟩
                    refine wcall0 (feed_Last_con y33.2.1 x2 x3 _ h78) Try.func18 (by kernel_rfl) rfl (.cons rfl (.refl _) (.cons rfl (.refl _) (.cons rfl (.refl _) .nil))) rfl rfl ?_
                    refine xpvalE 29 [31] rfl (qv_loadB 0 ShpC.h rfl rfl rfl rfl) rfl rfl (by kernel_rfl) (by kernel_rfl) (by kernel_rfl) (fun _ _ _ _ h => h) ?_
                    refine xpvalE 31 [] rfl (qv_loadB 2 ShpC.h rfl rfl rfl rfl) rfl rfl (by kernel_rfl) (by kernel_rfl) (by kernel_rfl) (fun _ _ _ _ h => h) ?_
                    exact xpuse key83 rfl ⟨(.cons rfl (.refl _) (.cons rfl (.refl _) (.cons rfl (.refl _) (.cons rfl (.refl _) (.cons rfl (.refl _) (.nil _)))))), (SubM.of (.nil _) (.nil _))⟩ rfl (by kernel_rfl)
                  · refine ⟨_, rfl, ?_⟩
                    refine wval (qv_loadB 0 ShpC.h rfl rfl rfl rfl) rfl rfl ?_
                    refine xpstepN (is := [28, 31]) (by kernel_rfl) (by simp) ?_
                    intro i hi; simp only [List.mem_cons, List.not_mem_nil, or_false] at hi; rcases hi with rfl | rfl
                    · refine ⟨_, rfl, ?_⟩
                      refine wcall0 (feed_Last_con y33.2.1 x2 x3 _ h78) Try.func18 (by kernel_rfl) rfl (.cons rfl (.refl _) (.cons rfl (.refl _) (.cons rfl (.refl _) .nil))) rfl rfl ?_
                      refine xpvalE 31 [] rfl (qv_loadB 2 ShpC.h rfl rfl rfl rfl) rfl rfl (by kernel_rfl) (by kernel_rfl) (by kernel_rfl) (fun _ _ _ _ h => h) ?_
                      exact xpuse key83 rfl ⟨(.cons rfl (.refl _) (.cons rfl (.refl _) (.cons rfl (.refl _) (.cons rfl (.refl _) (.cons rfl (.refl _) (.nil _)))))), (SubM.of (.nil _) (.nil _))⟩ rfl (by kernel_rfl)
                    · refine ⟨_, rfl, ?_⟩
                      refine wval (qv_loadB 2 ShpC.h rfl rfl rfl rfl) rfl rfl ?_
                      exact xpuse key87 rfl ⟨(.cons rfl (.refl _) (.cons rfl (.refl _) (.cons rfl (.refl _) (.cons rfl (.refl _) (.cons rfl (.refl _) (.cons rfl (.refl _) (.cons rfl (.refl _) (.nil _)))))))), (SubM.of (.nil _) (.nil _))⟩ rfl (by kernel_rfl)
                  · refine ⟨_, rfl, ?_⟩
                    refine wval (qv_loadB 2 ShpC.h rfl rfl rfl rfl) rfl rfl ?_
                    refine xpstepN (is := [28, 29]) (by kernel_rfl) (by simp) ?_
                    intro i hi; simp only [List.mem_cons, List.not_mem_nil, or_false] at hi; rcases hi with rfl | rfl
                    · refine ⟨_, rfl, ?_⟩
                      refine wcall0 (feed_Last_con y33.2.1 x2 x3 _ h78) Try.func18 (by kernel_rfl) rfl (.cons rfl (.refl _) (.cons rfl (.refl _) (.cons rfl (.refl _) .nil))) rfl rfl ?_
                      refine xpvalE 29 [] rfl (qv_loadB 0 ShpC.h rfl rfl rfl rfl) rfl rfl (by kernel_rfl) (by kernel_rfl) (by kernel_rfl) (fun _ _ _ _ h => h) ?_
                      exact xpuse key83 rfl ⟨(.cons rfl (.refl _) (.cons rfl (.refl _) (.cons rfl (.refl _) (.cons rfl (.refl _) (.cons rfl (.refl _) (.nil _)))))), (SubM.of (.nil _) (.nil _))⟩ rfl (by kernel_rfl)
                    · refine ⟨_, rfl, ?_⟩
                      refine wval (qv_loadB 0 ShpC.h rfl rfl rfl rfl) rfl rfl ?_
                      exact xpuse key87 rfl ⟨(.cons rfl (.refl _) (.cons rfl (.refl _) (.cons rfl (.refl _) (.cons rfl (.refl _) (.cons rfl (.refl _) (.cons rfl (.refl _) (.cons rfl (.refl _) (.nil _)))))))), (SubM.of (.nil _) (.nil _))⟩ rfl (by kernel_rfl)
                · replace h := h.2 hp77
                  refine psetB 64 (b_f hp77) rfl ?_
                  refine xpskip 25 rfl rfl rfl (by kernel_rfl) (by kernel_rfl) (by kernel_rfl) (fun _ _ _ _ h => h) ?_
                  refine xpskip 26 rfl rfl rfl (by kernel_rfl) (by kernel_rfl) (by kernel_rfl) (fun _ _ _ _ h => h) ?_
                  refine xpskip 27 rfl rfl rfl (by kernel_rfl) (by kernel_rfl) (by kernel_rfl) (fun _ _ _ _ h => h) ?_
                  refine xpskip 28 rfl rfl rfl (by kernel_rfl) (by kernel_rfl) (by kernel_rfl) (fun _ _ _ _ h => h) ?_
                  refine xpskip 29 rfl rfl rfl (by kernel_rfl) (by kernel_rfl) (by kernel_rfl) (fun _ _ _ _ h => h) ?_
                  refine xpskip 30 rfl rfl rfl (by kernel_rfl) (by kernel_rfl) (by kernel_rfl) (fun _ _ _ _ h => h) ?_
                  refine xpskip 31 rfl rfl rfl (by kernel_rfl) (by kernel_rfl) (by kernel_rfl) (fun _ _ _ _ h => h) ?_
                  refine xpskip 32 rfl rfl rfl (by kernel_rfl) (by kernel_rfl) (by kernel_rfl) (fun _ _ _ _ h => h) ?_
                  refine xpskip 33 rfl rfl rfl (by kernel_rfl) (by kernel_rfl) (by kernel_rfl) (fun _ _ _ _ h => h) ?_
                  refine xpval 34 rfl (pv_pick rfl rfl) rfl rfl (by kernel_rfl) (by kernel_rfl) (by kernel_rfl) (fun _ _ _ _ h => h) ?_
                  refine xpval 35 rfl (pv_move rfl) rfl rfl (by kernel_rfl) (by kernel_rfl) (by kernel_rfl) (fun _ _ _ _ h => h) ?_
                  refine xpskip 36 rfl rfl rfl (by kernel_rfl) (by kernel_rfl) (by kernel_rfl) (fun _ _ _ _ h => h) ?_
                  refine xpval 37 rfl (pv_pick rfl rfl) rfl rfl (by kernel_rfl) (by kernel_rfl) (by kernel_rfl) (fun _ _ _ _ h => h) ?_
                  refine xpval 38 rfl (pv_assign rfl) rfl rfl (by kernel_rfl) (by kernel_rfl) (by kernel_rfl) (fun _ _ _ _ h => h) ?_
                  refine xpdone (by kernel_rfl) ?_
                  exact xmeet ⟨false, h, rfl⟩ ⟨(.cons rfl (.refl _) (.nil _)), (SubM.of (.nil _) (.nil _))⟩
              refine xpcut 19 #[true, true, true, true, true, true, true, true, true, true, true, true, true, true, true, true, true, false, true, true, true, false, false, false, false, false, false, false, false, false, false, false, false, false, false, false, false, false, false] (fun σ => σ = ⟨[(1, .sl 2 none (List.map E_palinode_api_File x2)), (5, .v (.pointer (some ⟨b5, 0, none⟩))), (8, .v (.pointer (some ⟨b8, 0, none⟩))), (11, .v (.pointer (some ⟨b11, 0, none⟩))), (53, .v (.bool true)), (54, .agg [.v (.int .i64 x1.1), .v (.int .i64 x1.2.1), .v (.int .i64 x1.2.2.1), .v (.int .i64 x1.2.2.2.1), .sl 1 none (List.map eb x1.2.2.2.2)]), (55, .sl 2 none (List.map E_palinode_api_File x2)), (56, .agg [.v (.bool x3.1), .v (.bool x3.2.1), .v (.bool x3.2.2.1), .v (.bool x3.2.2.2.1), .sl 1 none (List.map es x3.2.2.2.2)]), (58, .agg [.v (.int .i64 x1.1), .v (.int .i64 x1.2.1), .v (.int .i64 x1.2.2.1), .v (.int .i64 x1.2.2.2.1), .sl 1 none (List.map eb x1.2.2.2.2)]), (59, .sl 2 none (List.map E_palinode_api_File x2)), (60, .agg [.v (.bool x3.1), .v (.bool x3.2.1), .v (.bool x3.2.2.1), .v (.bool x3.2.2.2.1), .sl 1 none (List.map es x3.2.2.2.2)])], [⟨b11, 42, [.v (.int .i64 y35.2.1.1), .v (.int .i64 y35.2.1.2.1), .v (.int .i64 y35.2.1.2.2.1), .v (.int .i64 y35.2.1.2.2.2.1), .sl 1 none (List.map eb y35.2.1.2.2.2.2)]⟩, ⟨b8, 42, [.v (.int .i64 y33.2.1.1), .v (.int .i64 y33.2.1.2.1), .v (.int .i64 y33.2.1.2.2.1), .v (.int .i64 y33.2.1.2.2.2.1), .sl 1 none (List.map eb y33.2.1.2.2.2.2)]⟩, ⟨b5, 25, [.v (.bool x3.1), .v (.bool x3.2.1), .v (.bool x3.2.2.1), .v (.bool x3.2.2.2.1), .sl 1 none (List.map es x3.2.2.2.2)]⟩], []⟩) ?_ (fun key88 => ?_)
              · rintro _ rfl
                refine xpstep (i := 17) (by kernel_rfl) rfl ?_
                refine wcall0 (feed_Last_con x1 x2 x3 _ h71) Try.func18 (by kernel_rfl) rfl (.cons rfl (.refl _) (.cons rfl (.refl _) (.cons rfl (.refl _) .nil))) rfl rfl ?_
                exact xpuse key76 rfl ⟨(.cons rfl (.refl _) (.cons rfl (.refl _) (.cons rfl (.refl _) (.cons rfl (.refl _) (.cons rfl (.refl _) (.cons rfl (.refl _) (.cons rfl (.refl _) (.cons rfl (.refl _) (.cons rfl (.refl _) (.nil _)))))))))), (SubM.of (.keep rfl rfl (.refl _) (.keep rfl rfl (.refl _) (.keep rfl rfl (.refl _) (.nil _)))) (.nil _))⟩ rfl (by kernel_rfl)
              refine xpval 15 rfl (pv_move rfl) rfl rfl (by kernel_rfl) (by kernel_rfl) (by kernel_rfl) (fun _ _ _ _ h => h) ?_
              refine xpval 19 rfl (pv_move rfl) rfl rfl (by kernel_rfl) (by kernel_rfl) (by kernel_rfl) (fun _ _ _ _ h => h) ?_
              refine xpvalE 14 [16, 18, 20] rfl (qv_loadB 5 ShpC.h rfl rfl rfl rfl) rfl rfl (by kernel_rfl) (by kernel_rfl) (by kernel_rfl) (fun _ _ _ _ h => h) ?_
              refine xpvalE 16 [18, 20] rfl (qv_loadB 4 ShpC.h rfl rfl rfl rfl) rfl rfl (by kernel_rfl) (by kernel_rfl) (by kernel_rfl) (fun _ _ _ _ h => h) ?_
              refine xpstepN (is := [17, 18, 20]) (by kernel_rfl) (by simp) ?_
              intro i hi; simp only [List.mem_cons, List.not_mem_nil, or_false] at hi; rcases hi with rfl | rfl | rfl
              · refine ⟨_, rfl, ?_⟩
                refine wcall0 (feed_Last_con x1 x2 x3 _ h71) Try.func18 (by kernel_rfl) rfl (.cons rfl (.refl _) (.cons rfl (.refl _) (.cons rfl (.refl _) .nil))) rfl rfl ?_
                refine xpvalE 18 [20] rfl (qv_loadB 5 ShpC.h rfl rfl rfl rfl) rfl rfl (by kernel_rfl) (by kernel_rfl) (by kernel_rfl) (fun _ _ _ _ h => h) ?_
                refine xpvalE 20 [] rfl (qv_loadB 4 ShpC.h rfl rfl rfl rfl) rfl rfl (by kernel_rfl) (by kernel_rfl) (by kernel_rfl) (fun _ _ _ _ h => h) ?_
                exact xpuse key76 rfl ⟨(.cons rfl (.refl _) (.cons rfl (.refl _) (.cons rfl (.refl _) (.cons rfl (.refl _) (.cons rfl (.refl _) (.cons rfl (.refl _) (.cons rfl (.refl _) (.cons rfl (.refl _) (.cons rfl (.refl _) (.nil _)))))))))), (SubM.of (.keep rfl rfl (.refl _) (.drop (.keep rfl rfl (.refl _) (.drop (.keep rfl rfl (.refl _) (.nil _)))))) (.nil _))⟩ rfl (by kernel_rfl)
              · refine ⟨_, rfl, ?_⟩
                refine wval (qv_loadB 5 ShpC.h rfl rfl rfl rfl) rfl rfl ?_
                refine xpstepN (is := [17, 20]) (by kernel_rfl) (by simp) ?_
                intro i hi; simp only [List.mem_cons, List.not_mem_nil, or_false] at hi; rcases hi with rfl | rfl
                · refine ⟨_, rfl, ?_⟩
                  refine wcall0 (feed_Last_con x1 x2 x3 _ h71) Try.func18 (by kernel_rfl) rfl (.cons rfl (.refl _) (.cons rfl (.refl _) (.cons rfl (.refl _) .nil))) rfl rfl ?_
                  refine xpvalE 20 [] rfl (qv_loadB 4 ShpC.h rfl rfl rfl rfl) rfl rfl (by kernel_rfl) (by kernel_rfl) (by kernel_rfl) (fun _ _ _ _ h => h) ?_
                  exact xpuse key76 rfl ⟨(.cons rfl (.refl _) (.cons rfl (.refl _) (.cons rfl (.refl _) (.cons rfl (.refl _) (.cons rfl (.refl _) (.cons rfl (.refl _) (.cons rfl (.refl _) (.cons rfl (.refl _) (.cons rfl (.refl _) (.nil _)))))))))), (SubM.of (.keep rfl rfl (.refl _) (.drop (.keep rfl rfl (.refl _) (.drop (.keep rfl rfl (.refl _) (.nil _)))))) (.nil _))⟩ rfl (by kernel_rfl)
                · refine ⟨_, rfl, ?_⟩
                  refine wval (qv_loadB 4 ShpC.h rfl rfl rfl rfl) rfl rfl ?_
                  exact xpuse key88 rfl ⟨(.cons rfl (.refl _) (.cons rfl (.refl _) (.cons rfl (.refl _) (.cons rfl (.refl _) (.cons rfl (.refl _) (.cons rfl (.refl _) (.cons rfl (.refl _) (.cons rfl (.refl _) (.cons rfl (.refl _) (.cons rfl (.refl _) (.cons rfl (.refl _) (.nil _)))))))))))), (SubM.of (.keep rfl rfl (.refl _) (.drop (.keep rfl rfl (.refl _) (.drop (.keep rfl rfl (.refl _) (.nil _)))))) (.nil _))⟩ rfl (by kernel_rfl)
              · refine ⟨_, rfl, ?_⟩
                refine wval (qv_loadB 4 ShpC.h rfl rfl rfl rfl) rfl rfl ?_
                refine xpstepN (is := [17, 18]) (by kernel_rfl) (by simp) ?_
                intro i hi; simp only [List.mem_cons, List.not_mem_nil, or_false] at hi; rcases hi with rfl | rfl
                · refine ⟨_, rfl, ?_⟩
                  refine wcall0 (feed_Last_con x1 x2 x3 _ h71) Try.func18 (by kernel_rfl) rfl (.cons rfl (.refl _) (.cons rfl (.refl _) (.cons rfl (.refl _) .nil))) rfl rfl ?_
                  refine xpvalE 18 [] rfl (qv_loadB 5 ShpC.h rfl rfl rfl rfl) rfl rfl (by kernel_rfl) (by kernel_rfl) (by kernel_rfl) (fun _ _ _ _ h => h) ?_
                  exact xpuse key76 rfl ⟨(.cons rfl (.refl _) (.cons rfl (.refl _) (.cons rfl (.refl _) (.cons rfl (.refl _) (.cons rfl (.refl _) (.cons rfl (.refl _) (.cons rfl (.refl _) (.cons rfl (.refl _) (.cons rfl (.refl _) (.nil _)))))))))), (SubM.of (.keep rfl rfl (.refl _) (.drop (.keep rfl rfl (.refl _) (.drop (.keep rfl rfl (.refl _) (.nil _)))))) (.nil _))⟩ rfl (by kernel_rfl)
                · refine ⟨_, rfl, ?_⟩
                  refine wval (qv_loadB 5 ShpC.h rfl rfl rfl rfl) rfl rfl ?_
                  exact xpuse key88 rfl ⟨(.cons rfl (.refl _) (.cons rfl (.refl _) (.cons rfl (.refl _) (.cons rfl (.refl _) (.cons rfl (.refl _) (.cons rfl (.refl _) (.cons rfl (.refl _) (.cons rfl (.refl _) (.cons rfl (.refl _) (.cons rfl (.refl _) (.cons rfl (.refl _) (.nil _)))))))))))), (SubM.of (.keep rfl rfl (.refl _) (.drop (.keep rfl rfl (.refl _) (.drop (.keep rfl rfl (.refl _) (.nil _)))))) (.nil _))⟩ rfl (by kernel_rfl)
            · replace h := h.2 hp70
              refine psetB 53 (b_f hp70) rfl ?_
              refine xpskip 14 rfl rfl rfl (by kernel_rfl) (by kernel_rfl) (by kernel_rfl) (fun _ _ _ _ h => h) ?_
              refine xpskip 15 rfl rfl rfl (by kernel_rfl) (by kernel_rfl) (by kernel_rfl) (fun _ _ _ _ h => h) ?_
              refine xpskip 16 rfl rfl rfl (by kernel_rfl) (by kernel_rfl) (by kernel_rfl) (fun _ _ _ _ h => h) ?_
              refine xpskip 17 rfl rfl rfl (by kernel_rfl) (by kernel_rfl) (by kernel_rfl) (fun _ _ _ _ h => h) ?_
              refine xpskip 18 rfl rfl rfl (by kernel_rfl) (by kernel_rfl) (by kernel_rfl) (fun _ _ _ _ h => h) ?_
              refine xpskip 19 rfl rfl rfl (by kernel_rfl) (by kernel_rfl) (by kernel_rfl) (fun _ _ _ _ h => h) ?_
              refine xpskip 20 rfl rfl rfl (by kernel_rfl) (by kernel_rfl) (by kernel_rfl) (fun _ _ _ _ h => h) ?_
              refine xpskip 21 rfl rfl rfl (by kernel_rfl) (by kernel_rfl) (by kernel_rfl) (fun _ _ _ _ h => h) ?_
              refine xpskip 22 rfl rfl rfl (by kernel_rfl) (by kernel_rfl) (by kernel_rfl) (fun _ _ _ _ h => h) ?_
              refine xpval 23 rfl (pv_pick rfl rfl) rfl rfl (by kernel_rfl) (by kernel_rfl) (by kernel_rfl) (fun _ _ _ _ h => h) ?_
              refine xpval 24 rfl (pv_move rfl) rfl rfl (by kernel_rfl) (by kernel_rfl) (by kernel_rfl) (fun _ _ _ _ h => h) ?_
              refine xpskip 25 rfl rfl rfl (by kernel_rfl) (by kernel_rfl) (by kernel_rfl) (fun _ _ _ _ h => h) ?_
              refine xpskip 26 rfl rfl rfl (by kernel_rfl) (by kernel_rfl) (by kernel_rfl) (fun _ _ _ _ h => h) ?_
              refine xpskip 27 rfl rfl rfl (by kernel_rfl) (by kernel_rfl) (by kernel_rfl) (fun _ _ _ _ h => h) ?_
              refine xpskip 28 rfl rfl rfl (by kernel_rfl) (by kernel_rfl) (by kernel_rfl) (fun _ _ _ _ h => h) ?_
              refine xpskip 29 rfl rfl rfl (by kernel_rfl) (by kernel_rfl) (by kernel_rfl) (fun _ _ _ _ h => h) ?_
              refine xpskip 30 rfl rfl rfl (by kernel_rfl) (by kernel_rfl) (by kernel_rfl) (fun _ _ _ _ h => h) ?_
              refine xpskip 31 rfl rfl rfl (by kernel_rfl) (by kernel_rfl) (by kernel_rfl) (fun _ _ _ _ h => h) ?_
              refine xpskip 32 rfl rfl rfl (by kernel_rfl) (by kernel_rfl) (by kernel_rfl) (fun _ _ _ _ h => h) ?_
              refine xpskip 33 rfl rfl rfl (by kernel_rfl) (by kernel_rfl) (by kernel_rfl) (fun _ _ _ _ h => h) ?_
              refine xpval 34 rfl (pv_pick rfl rfl) rfl rfl (by kernel_rfl) (by kernel_rfl) (by kernel_rfl) (fun _ _ _ _ h => h) ?_
              refine xpval 35 rfl (pv_move rfl) rfl rfl (by kernel_rfl) (by kernel_rfl) (by kernel_rfl) (fun _ _ _ _ h => h) ?_
              refine xpskip 36 rfl rfl rfl (by kernel_rfl) (by kernel_rfl) (by kernel_rfl) (fun _ _ _ _ h => h) ?_
              refine xpval 37 rfl (pv_pick rfl rfl) rfl rfl (by kernel_rfl) (by kernel_rfl) (by kernel_rfl) (fun _ _ _ _ h => h) ?_
              refine xpval 38 rfl (pv_assign rfl) rfl rfl (by kernel_rfl) (by kernel_rfl) (by kernel_rfl) (fun _ _ _ _ h => h) ?_
              refine xpdone (by kernel_rfl) ?_
              exact xmeet ⟨false, h, rfl⟩ ⟨(.cons rfl (.refl _) (.nil _)), (SubM.of (.nil _) (.nil _))⟩
          · replace h := h.2 hp67
            refine psetB 48 (b_f hp67) rfl ?_
            refine xpskip 9 rfl rfl rfl (by kernel_rfl) (by kernel_rfl) (by kernel_rfl) (fun _ _ _ _ h => h) ?_
            refine xpskip 10 rfl rfl rfl (by kernel_rfl) (by kernel_rfl) (by kernel_rfl) (fun _ _ _ _ h => h) ?_
            refine xpskip 11 rfl rfl rfl (by kernel_rfl) (by kernel_rfl) (by kernel_rfl) (fun _ _ _ _ h => h) ?_
            refine xpval 12 rfl (pv_pick rfl rfl) rfl rfl (by kernel_rfl) (by kernel_rfl) (by kernel_rfl) (fun _ _ _ _ h => h) ?_
            refine xpval 13 rfl (pv_move rfl) rfl rfl (by kernel_rfl) (by kernel_rfl) (by kernel_rfl) (fun _ _ _ _ h => h) ?_
            refine xpskip 14 rfl rfl rfl (by kernel_rfl) (by kernel_rfl) (by kernel_rfl) (fun _ _ _ _ h => h) ?_
            refine xpskip 15 rfl rfl rfl (by kernel_rfl) (by kernel_rfl) (by kernel_rfl) (fun _ _ _ _ h => h) ?_
            refine xpskip 16 rfl rfl rfl (by kernel_rfl) (by kernel_rfl) (by kernel_rfl) (fun _ _ _ _ h => h) ?_
            refine xpskip 17 rfl rfl rfl (by kernel_rfl) (by kernel_rfl) (by kernel_rfl) (fun _ _ _ _ h => h) ?_
            refine xpskip 18 rfl rfl rfl (by kernel_rfl) (by kernel_rfl) (by kernel_rfl) (fun _ _ _ _ h => h) ?_
            refine xpskip 19 rfl rfl rfl (by kernel_rfl) (by kernel_rfl) (by kernel_rfl) (fun _ _ _ _ h => h) ?_
            refine xpskip 20 rfl rfl rfl (by kernel_rfl) (by kernel_rfl) (by kernel_rfl) (fun _ _ _ _ h => h) ?_
            refine xpskip 21 rfl rfl rfl (by kernel_rfl) (by kernel_rfl) (by kernel_rfl) (fun _ _ _ _ h => h) ?_
            refine xpskip 22 rfl rfl rfl (by kernel_rfl) (by kernel_rfl) (by kernel_rfl) (fun _ _ _ _ h => h) ?_
            refine xpval 23 rfl (pv_pick rfl rfl) rfl rfl (by kernel_rfl) (by kernel_rfl) (by kernel_rfl) (fun _ _ _ _ h => h) ?_
            refine xpval 24 rfl (pv_move rfl) rfl rfl (by kernel_rfl) (by kernel_rfl) (by kernel_rfl) (fun _ _ _ _ h => h) ?_
            refine xpskip 25 rfl rfl rfl (by kernel_rfl) (by kernel_rfl) (by kernel_rfl) (fun _ _ _ _ h => h) ?_
            refine xpskip 26 rfl rfl rfl (by kernel_rfl) (by kernel_rfl) (by kernel_rfl) (fun _ _ _ _ h => h) ?_
            refine xpskip 27 rfl rfl rfl (by kernel_rfl) (by kernel_rfl) (by kernel_rfl) (fun _ _ _ _ h => h) ?_
            refine xpskip 28 rfl rfl rfl (by kernel_rfl) (by kernel_rfl) (by kernel_rfl) (fun _ _ _ _ h => h) ?_
            refine xpskip 29 rfl rfl rfl (by kernel_rfl) (by kernel_rfl) (by kernel_rfl) (fun _ _ _ _ h => h) ?_
            refine xpskip 30 rfl rfl rfl (by kernel_rfl) (by kernel_rfl) (by kernel_rfl) (fun _ _ _ _ h => h) ?_
            refine xpskip 31 rfl rfl rfl (by kernel_rfl) (by kernel_rfl) (by kernel_rfl) (fun _ _ _ _ h => h) ?_
            refine xpskip 32 rfl rfl rfl (by kernel_rfl) (by kernel_rfl) (by kernel_rfl) (fun _ _ _ _ h => h) ?_
            refine xpskip 33 rfl rfl rfl (by kernel_rfl) (by kernel_rfl) (by kernel_rfl) (fun _ _ _ _ h => h) ?_
            refine xpval 34 rfl (pv_pick rfl rfl) rfl rfl (by kernel_rfl) (by kernel_rfl) (by kernel_rfl) (fun _ _ _ _ h => h) ?_
            refine xpval 35 rfl (pv_move rfl) rfl rfl (by kernel_rfl) (by kernel_rfl) (by kernel_rfl) (fun _ _ _ _ h => h) ?_
            refine xpskip 36 rfl rfl rfl (by kernel_rfl) (by kernel_rfl) (by kernel_rfl) (fun _ _ _ _ h => h) ?_
            refine xpval 37 rfl (pv_pick rfl rfl) rfl rfl (by kernel_rfl) (by kernel_rfl) (by kernel_rfl) (fun _ _ _ _ h => h) ?_
            refine xpval 38 rfl (pv_assign rfl) rfl rfl (by kernel_rfl) (by kernel_rfl) (by kernel_rfl) (fun _ _ _ _ h => h) ?_
            refine xpdone (by kernel_rfl) ?_
            exact xmeet ⟨false, h, rfl⟩ ⟨(.cons rfl (.refl _) (.nil _)), (SubM.of (.nil _) (.nil _))⟩
        · replace h := h.2 hp64
          refine psetB 43 (b_f hp64) rfl ?_
          refine xpskip 4 rfl rfl rfl (by kernel_rfl) (by kernel_rfl) (by kernel_rfl) (fun _ _ _ _ h => h) ?_
          refine xpskip 5 rfl rfl rfl (by kernel_rfl) (by kernel_rfl) (by kernel_rfl) (fun _ _ _ _ h => h) ?_
          refine xpskip 6 rfl rfl rfl (by kernel_rfl) (by kernel_rfl) (by kernel_rfl) (fun _ _ _ _ h => h) ?_
          refine xpval 7 rfl (pv_pick rfl rfl) rfl rfl (by kernel_rfl) (by kernel_rfl) (by kernel_rfl) (fun _ _ _ _ h => h) ?_
          refine xpval 8 rfl (pv_move rfl) rfl rfl (by kernel_rfl) (by kernel_rfl) (by kernel_rfl) (fun _ _ _ _ h => h) ?_
          refine xpskip 9 rfl rfl rfl (by kernel_rfl) (by kernel_rfl) (by kernel_rfl) (fun _ _ _ _ h => h) ?_
          refine xpskip 10 rfl rfl rfl (by kernel_rfl) (by kernel_rfl) (by kernel_rfl) (fun _ _ _ _ h => h) ?_
          refine xpskip 11 rfl rfl rfl (by kernel_rfl) (by kernel_rfl) (by kernel_rfl) (fun _ _ _ _ h => h) ?_
          refine xpval 12 rfl (pv_pick rfl rfl) rfl rfl (by kernel_rfl) (by kernel_rfl) (by kernel_rfl) (fun _ _ _ _ h => h) ?_
          refine xpval 13 rfl (pv_move rfl) rfl rfl (by kernel_rfl) (by kernel_rfl) (by kernel_rfl) (fun _ _ _ _ h => h) ?_
          refine xpskip 14 rfl rfl rfl (by kernel_rfl) (by kernel_rfl) (by kernel_rfl) (fun _ _ _ _ h => h) ?_
          refine xpskip 15 rfl rfl rfl (by kernel_rfl) (by kernel_rfl) (by kernel_rfl) (fun _ _ _ _ h => h) ?_
          refine xpskip 16 rfl rfl rfl (by kernel_rfl) (by kernel_rfl) (by kernel_rfl) (fun _ _ _ _ h => h) ?_
          refine xpskip 17 rfl rfl rfl (by kernel_rfl) (by kernel_rfl) (by kernel_rfl) (fun _ _ _ _ h => h) ?_
          refine xpskip 18 rfl rfl rfl (by kernel_rfl) (by kernel_rfl) (by kernel_rfl) (fun _ _ _ _ h => h) ?_
          refine xpskip 19 rfl rfl rfl (by kernel_rfl) (by kernel_rfl) (by kernel_rfl) (fun _ _ _ _ h => h) ?_
          refine xpskip 20 rfl rfl rfl (by kernel_rfl) (by kernel_rfl) (by kernel_rfl) (fun _ _ _ _ h => h) ?_
          refine xpskip 21 rfl rfl rfl (by kernel_rfl) (by kernel_rfl) (by kernel_rfl) (fun _ _ _ _ h => h) ?_
          refine xpskip 22 rfl rfl rfl (by kernel_rfl) (by kernel_rfl) (by kernel_rfl) (fun _ _ _ _ h => h) ?_
          refine xpval 23 rfl (pv_pick rfl rfl) rfl rfl (by kernel_rfl) (by kernel_rfl) (by kernel_rfl) (fun _ _ _ _ h => h) ?_
          refine xpval 24 rfl (pv_move rfl) rfl rfl (by kernel_rfl) (by kernel_rfl) (by kernel_rfl) (fun _ _ _ _ h => h) ?_
          refine xpskip 25 rfl rfl rfl (by kernel_rfl) (by kernel_rfl) (by kernel_rfl) (fun _ _ _ _ h => h) ?_
          refine xpskip 26 rfl rfl rfl (by kernel_rfl) (by kernel_rfl) (by kernel_rfl) (fun _ _ _ _ h => h) ?_
          refine xpskip 27 rfl rfl rfl (by kernel_rfl) (by kernel_rfl) (by kernel_rfl) (fun _ _ _ _ h => h) ?_
          refine xpskip 28 rfl rfl rfl (by kernel_rfl) (by kernel_rfl) (by kernel_rfl) (fun _ _ _ _ h => h) ?_
          refine xpskip 29 rfl rfl rfl (by kernel_rfl) (by kernel_rfl) (by kernel_rfl) (fun _ _ _ _ h => h) ?_
          refine xpskip 30 rfl rfl rfl (by kernel_rfl) (by kernel_rfl) (by kernel_rfl) (fun _ _ _ _ h => h) ?_
          refine xpskip 31 rfl rfl rfl (by kernel_rfl) (by kernel_rfl) (by kernel_rfl) (fun _ _ _ _ h => h) ?_
          refine xpskip 32 rfl rfl rfl (by kernel_rfl) (by kernel_rfl) (by kernel_rfl) (fun _ _ _ _ h => h) ?_
          refine xpskip 33 rfl rfl rfl (by kernel_rfl) (by kernel_rfl) (by kernel_rfl) (fun _ _ _ _ h => h) ?_
          refine xpval 34 rfl (pv_pick rfl rfl) rfl rfl (by kernel_rfl) (by kernel_rfl) (by kernel_rfl) (fun _ _ _ _ h => h) ?_
          refine xpval 35 rfl (pv_move rfl) rfl rfl (by kernel_rfl) (by kernel_rfl) (by kernel_rfl) (fun _ _ _ _ h => h) ?_
          refine xpskip 36 rfl rfl rfl (by kernel_rfl) (by kernel_rfl) (by kernel_rfl) (fun _ _ _ _ h => h) ?_
          refine xpval 37 rfl (pv_pick rfl rfl) rfl rfl (by kernel_rfl) (by kernel_rfl) (by kernel_rfl) (fun _ _ _ _ h => h) ?_
          refine xpval 38 rfl (pv_assign rfl) rfl rfl (by kernel_rfl) (by kernel_rfl) (by kernel_rfl) (fun _ _ _ _ h => h) ?_
          refine xpdone (by kernel_rfl) ?_
          exact xmeet ⟨false, h, rfl⟩ ⟨(.cons rfl (.refl _) (.nil _)), (SubM.of (.nil _) (.nil _))⟩
      · clear h
        rintro _ ⟨x62, h, rfl⟩
        refine xretc ?_
        replace h := h.symm
        subst h
        exact xret1 hg rfl rfl (.refl _) (SubM.of (.nil _) (.nil _)) ⟨rfl, rfl, rfl⟩
end Go.Proofs.Ytihbljabeckgmaa
