/- What functions' texts ask for, and the walks that show it (printed by a program). -/
import Derived.Test.YtihbljabeckgmaaGK
namespace Go.Proofs.Ytihbljabeckgmaa
/-- palinodelaw18.FeedStays -/
def palinodelaw18_FeedStays_j2 (x69 : Bool) (r : Bool) : Prop :=
  r = x69
def palinodelaw18_FeedStays_j1 (y31 : ((List UInt8) × Bool) × (Int × Int × Int × Int × (List UInt8)) × Bool) (x1 : List (ByteArray × (List UInt8))) (x2 : Bool × Bool × Bool × Bool × (List ByteArray)) (x46 : Bool) (r : Bool) : Prop :=
  ((x46 = true → ∃ y52 : Bool, palinodelaw18_awake_R y52 ∧ r = y52) ∧ (¬ (x46 = true) → ∃ y54 : ((List UInt8) × Bool) × (Int × Int × Int × Int × (List UInt8)) × Bool, feed_Next_R y31.2.1 x1 x2 y54 ∧ ∃ y56 : ((List UInt8) × Bool) × (Int × Int × Int × Int × (List UInt8)) × Bool, feed_Next_R y31.2.1 ([] : List (ByteArray × (List UInt8))) x2 y56 ∧ ((y54.2.2 = true → ((y56.2.2 = true → ∃ y73 : Bool, palinodelaw18_same_R y54.1 y56.1 y73 ∧ ((y73 = true → ∃ y76 : Bool, palinoderef18_Same_R y54.2.1 y56.2.1 y76 ∧ ((y76 = true → ((y54.2.1.2.2.1 = y31.2.1.2.2.1 → ∃ y81 : Bool, palinodelaw18_awake_R y81 ∧ palinodelaw18_FeedStays_j2 y81 r) ∧ (¬ (y54.2.1.2.2.1 = y31.2.1.2.2.1) → palinodelaw18_FeedStays_j2 false r))) ∧ (¬ (y76 = true) → palinodelaw18_FeedStays_j2 false r))) ∧ (¬ (y73 = true) → palinodelaw18_FeedStays_j2 false r))) ∧ (¬ (y56.2.2 = true) → palinodelaw18_FeedStays_j2 false r))) ∧ (¬ (y54.2.2 = true) → palinodelaw18_FeedStays_j2 false r))))
def palinodelaw18_FeedStays_R (x1 : List (ByteArray × (List UInt8))) (x2 : Bool × Bool × Bool × Bool × (List ByteArray)) (r : Bool) : Prop :=
  ∃ y9 : Bool, palinoderef18_Great_R x1 x2 y9 ∧ ((y9 = true → ∃ y12 : Bool, palinodelaw18_awake_R y12 ∧ r = y12) ∧ (¬ (y9 = true) → ∃ y29 : (Int × Int × Int × Int × (List UInt8)), feed_First_R y29 ∧ ∃ y31 : ((List UInt8) × Bool) × (Int × Int × Int × Int × (List UInt8)) × Bool, feed_Next_R y29 x1 x2 y31 ∧ palinodelaw18_FeedStays_j1 y31 x1 x2 ((!y31.2.2) || (decide ((y31.2.1.2.2.2.2.length : Int) = 0))) r))
def palinodelaw18_FeedStays_j2_ev (fuel : Nat) (x69 : Bool) : Option (Bool) :=
  some x69
theorem palinodelaw18_FeedStays_j2_ok {fuel : Nat} {x69 : Bool} {r : Bool} (h : palinodelaw18_FeedStays_j2_ev fuel x69 = some r) : palinodelaw18_FeedStays_j2 x69 r := by
  unfold palinodelaw18_FeedStays_j2_ev at h
  unfold palinodelaw18_FeedStays_j2
  exact (Option.some.inj h).symm
def palinodelaw18_FeedStays_j1_ev (fuel : Nat) (y31 : ((List UInt8) × Bool) × (Int × Int × Int × Int × (List UInt8)) × Bool) (x1 : List (ByteArray × (List UInt8))) (x2 : Bool × Bool × Bool × Bool × (List ByteArray)) (x46 : Bool) : Option (Bool) :=
  (if x46 = true then ((palinodelaw18_awake_ev fuel).bind fun y52 => some y52) else ((feed_Next_ev fuel y31.2.1 x1 x2).bind fun y54 => ((feed_Next_ev fuel y31.2.1 ([] : List (ByteArray × (List UInt8))) x2).bind fun y56 => (if y54.2.2 = true then (if y56.2.2 = true then ((palinodelaw18_same_ev fuel y54.1 y56.1).bind fun y73 => (if y73 = true then ((palinoderef18_Same_ev fuel y54.2.1 y56.2.1).bind fun y76 => (if y76 = true then (if y54.2.1.2.2.1 = y31.2.1.2.2.1 then ((palinodelaw18_awake_ev fuel).bind fun y81 => palinodelaw18_FeedStays_j2_ev fuel y81) else palinodelaw18_FeedStays_j2_ev fuel false) else palinodelaw18_FeedStays_j2_ev fuel false)) else palinodelaw18_FeedStays_j2_ev fuel false)) else palinodelaw18_FeedStays_j2_ev fuel false) else palinodelaw18_FeedStays_j2_ev fuel false))))
theorem palinodelaw18_FeedStays_j1_ok {fuel : Nat} {y31 : ((List UInt8) × Bool) × (Int × Int × Int × Int × (List UInt8)) × Bool} {x1 : List (ByteArray × (List UInt8))} {x2 : Bool × Bool × Bool × Bool × (List ByteArray)} {x46 : Bool} {r : Bool} (h : palinodelaw18_FeedStays_j1_ev fuel y31 x1 x2 x46 = some r) : palinodelaw18_FeedStays_j1 y31 x1 x2 x46 r := by
  unfold palinodelaw18_FeedStays_j1_ev at h
  unfold palinodelaw18_FeedStays_j1
  refine ⟨fun g181 => ?_, fun g181 => ?_⟩
  · rw [if_pos g181] at h
    obtain ⟨q182, g182, h⟩ := bind_ok h
    refine ⟨q182, palinodelaw18_awake_ok g182, ?_⟩
    exact (Option.some.inj h).symm
  · rw [if_neg g181] at h
    obtain ⟨q183, g183, h⟩ := bind_ok h
    refine ⟨q183, feed_Next_ok g183, ?_⟩
    obtain ⟨q184, g184, h⟩ := bind_ok h
    refine ⟨q184, feed_Next_ok g184, ?_⟩
    refine ⟨fun g185 => ?_, fun g185 => ?_⟩
    · rw [if_pos g185] at h
      refine ⟨fun g186 => ?_, fun g186 => ?_⟩
      · rw [if_pos g186] at h
        obtain ⟨q187, g187, h⟩ := bind_ok h
        refine ⟨q187, palinodelaw18_same_ok g187, ?_⟩
        refine ⟨fun g188 => ?_, fun g188 => ?_⟩
        · rw [if_pos g188] at h
          obtain ⟨q189, g189, h⟩ := bind_ok h
          refine ⟨q189, palinoderef18_Same_ok g189, ?_⟩
          refine ⟨fun g190 => ?_, fun g190 => ?_⟩
          · rw [if_pos g190] at h
            refine ⟨fun g191 => ?_, fun g191 => ?_⟩
            · rw [if_pos g191] at h
              obtain ⟨q192, g192, h⟩ := bind_ok h
              refine ⟨q192, palinodelaw18_awake_ok g192, ?_⟩
              exact palinodelaw18_FeedStays_j2_ok h
            · rw [if_neg g191] at h
              exact palinodelaw18_FeedStays_j2_ok h
          · rw [if_neg g190] at h
            exact palinodelaw18_FeedStays_j2_ok h
        · rw [if_neg g188] at h
          exact palinodelaw18_FeedStays_j2_ok h
      · rw [if_neg g186] at h
        exact palinodelaw18_FeedStays_j2_ok h
    · rw [if_neg g185] at h
      exact palinodelaw18_FeedStays_j2_ok h
def palinodelaw18_FeedStays_ev (fuel : Nat) (x1 : List (ByteArray × (List UInt8))) (x2 : Bool × Bool × Bool × Bool × (List ByteArray)) : Option (Bool) :=
  ((palinoderef18_Great_ev fuel x1 x2).bind fun y9 => (if y9 = true then ((palinodelaw18_awake_ev fuel).bind fun y12 => some y12) else ((feed_First_ev fuel).bind fun y29 => ((feed_Next_ev fuel y29 x1 x2).bind fun y31 => palinodelaw18_FeedStays_j1_ev fuel y31 x1 x2 ((!y31.2.2) || (decide ((y31.2.1.2.2.2.2.length : Int) = 0)))))))
theorem palinodelaw18_FeedStays_ok {fuel : Nat} {x1 : List (ByteArray × (List UInt8))} {x2 : Bool × Bool × Bool × Bool × (List ByteArray)} {r : Bool} (h : palinodelaw18_FeedStays_ev fuel x1 x2 = some r) : palinodelaw18_FeedStays_R x1 x2 r := by
  unfold palinodelaw18_FeedStays_ev at h
  unfold palinodelaw18_FeedStays_R
  obtain ⟨q193, g193, h⟩ := bind_ok h
  refine ⟨q193, palinoderef18_Great_ok g193, ?_⟩
  refine ⟨fun g194 => ?_, fun g194 => ?_⟩
  · rw [if_pos g194] at h
    obtain ⟨q195, g195, h⟩ := bind_ok h
    refine ⟨q195, palinodelaw18_awake_ok g195, ?_⟩
    exact (Option.some.inj h).symm
  · rw [if_neg g194] at h
    obtain ⟨q196, g196, h⟩ := bind_ok h
    refine ⟨q196, feed_First_ok g196, ?_⟩
    obtain ⟨q197, g197, h⟩ := bind_ok h
    refine ⟨q197, feed_Next_ok g197, ?_⟩
    exact palinodelaw18_FeedStays_j1_ok h
set_option maxHeartbeats 4000000 in
theorem palinodelaw18_FeedStays_con (x1 : List (ByteArray × (List UInt8))) (x2 : Bool × Bool × Bool × Bool × (List ByteArray)) (r : Bool) (h : palinodelaw18_FeedStays_R x1 x2 r) : Con Try.prog 4 [.sl 2 none (List.map E_palinode_api_File x1), .agg [.v (.bool x2.1), .v (.bool x2.2.1), .v (.bool x2.2.2.1), .v (.bool x2.2.2.2.1), .sl 1 none (List.map es x2.2.2.2.2)]] [] [] (Ret (.v (.bool r))) := by
  refine xenter Try.func4 rfl rfl fun g hg => ?_
  simp only [Try.ntmps4, slots]
  refine xseq ?_
  refine xregion ?_
  refine xbox rfl rfl rfl rfl fun b3 => ?_
  refine xvalP (pv_assign rfl) rfl rfl ?_
  refine xnil ?_
  refine xthen ?_
  refine xseq ?_
  refine xseq ?_
  refine xregion ?_
  refine xvalP (pv_move rfl) rfl rfl ?_
  refine xval (qv_loadB 0 ShpC.h rfl rfl rfl rfl) rfl rfl ?_
  obtain ⟨y9, h8, h⟩ := h
  refine xcall0 (palinoderef18_Great_con x1 x2 _ h8) Try.func8 (by kernel_rfl) rfl (.cons rfl (.refl _) (.cons rfl (.refl _) .nil)) rfl rfl ?_
  refine xnil ?_
  refine xthen ?_
  by_cases hp10 : y9 = true
  · replace h := h.1 hp10
    refine xcondT' hp10 rfl ?_
    refine xseq ?_
    refine xregion ?_
    obtain ⟨y12, h11, h⟩ := h
    refine xcall0 (palinodelaw18_awake_con _ h11) Try.func9 (by kernel_rfl) rfl .nil rfl rfl ?_
    refine xvalP (pv_assign rfl) rfl rfl ?_
    refine xnil ?_
    refine xthen ?_
    refine xretc ?_
    refine xthen_ret ?_
    replace h := h.symm
    subst h
    exact xret1 hg rfl rfl (.refl _) (SubM.of (.nil _) (.nil _)) ⟨rfl, rfl, rfl⟩
  · replace h := h.2 hp10
    refine xcondF' (b_f hp10) rfl ?_
    refine xskipc ?_
    refine xthen ?_
    refine xseq ?_
    refine xregionD (m := 13) (by kernel_rfl) rfl ?_
    obtain ⟨y29, h28, h⟩ := h
    obtain ⟨y31, h30, h⟩ := h
    refine xpcut 3 #[true, true, true, true, true, true, true, true, true, true, false, false, false] (fun σ => ∃ (b6 : Nat), ∃ (b5 : Nat), σ = ⟨[(0, .sl 2 none (List.map E_palinode_api_File x1)), (3, .v (.pointer (some ⟨b3, 0, none⟩))), (5, .v (.pointer (some ⟨b5, 0, none⟩))), (6, .v (.pointer (some ⟨b6, 0, none⟩))), (23, .agg [.sl 1 none (List.map eb y31.1.1), .v (.bool y31.1.2)]), (24, .agg [.v (.int .i64 y31.2.1.1), .v (.int .i64 y31.2.1.2.1), .v (.int .i64 y31.2.1.2.2.1), .v (.int .i64 y31.2.1.2.2.2.1), .sl 1 none (List.map eb y31.2.1.2.2.2.2)]), (25, .v (.bool y31.2.2))], [⟨b6, 42, [.v (.int .i64 0), .v (.int .i64 0), .v (.int .i64 0), .v (.int .i64 0), .v (.slice none 0 0)]⟩, ⟨b5, 36, [.v (.slice none 0 0), .v (.bool false)]⟩, ⟨b3, 25, [.v (.bool x2.1), .v (.bool x2.2.1), .v (.bool x2.2.2.1), .v (.bool x2.2.2.2.1), .sl 1 none (List.map es x2.2.2.2.2)]⟩], []⟩) ?_ (fun key32 => ?_)
    · rintro _ ⟨b6, b5, rfl⟩
      refine xpstep (i := 10) (by kernel_rfl) rfl ?_
      refine wstore 1 ShpC.h rfl rfl rfl rfl rfl rfl rfl ?_
      refine xpstep (i := 11) (by kernel_rfl) rfl ?_
      refine wstore 0 ShpC.h rfl rfl rfl rfl rfl rfl rfl ?_
      refine xpval 12 rfl (pv_assign rfl) rfl rfl (by kernel_rfl) (by kernel_rfl) (by kernel_rfl) (fun _ _ _ _ h => h) ?_
      refine xpdone (by kernel_rfl) ?_
      refine xthen ?_
      refine xseq ?_
      refine xseqM (fun σ => ∃ (x46 : Bool), palinodelaw18_FeedStays_j1 y31 x1 x2 x46 r ∧ σ = ⟨[(0, .sl 2 none (List.map E_palinode_api_File x1)), (3, .v (.pointer (some ⟨b3, 0, none⟩))), (6, .v (.pointer (some ⟨b6, 0, none⟩))), (33, .v (.bool x46))], [⟨b6, 42, [.v (.int .i64 y31.2.1.1), .v (.int .i64 y31.2.1.2.1), .v (.int .i64 y31.2.1.2.2.1), .v (.int .i64 y31.2.1.2.2.2.1), .sl 1 none (List.map eb y31.2.1.2.2.2.2)]⟩, ⟨b3, 25, [.v (.bool x2.1), .v (.bool x2.2.1), .v (.bool x2.2.2.1), .v (.bool x2.2.2.2.1), .sl 1 none (List.map es x2.2.2.2.2)]⟩], []⟩) ?_ ?_
      · refine xregion ?_
        refine xvalP (pv_move rfl) rfl rfl ?_
        refine xvalP (pv_not rfl) rfl rfl ?_
        refine xvalP (pv_move rfl) rfl rfl ?_
        by_cases hp47 : ¬ (y31.2.2 = true)
        · rw [show (!y31.2.2) = true from (not_t (b_f hp47)), Bool.true_or] at h
          refine xsetB 28 (not_t (b_f hp47)) rfl ?_
          refine xskip rfl rfl ?_
          refine xskip rfl rfl ?_
          refine xskip rfl rfl ?_
          refine xskip rfl rfl ?_
          refine xvalP (pv_pick rfl rfl) rfl rfl ?_
          refine xnil ?_
          exact xmeet ⟨true, h, rfl⟩ ⟨(.cons rfl (.refl _) (.cons rfl (.refl _) (.cons rfl (.refl _) (.cons rfl (.refl _) (.nil _))))), (SubM.of (.keep rfl rfl (.refl _) (.drop (.keep rfl rfl (.refl _) (.nil _)))) (.nil _))⟩
        · rw [show (!y31.2.2) = false from (not_f (Decidable.of_not_not hp47)), Bool.false_or] at h
          refine xsetB 28 (not_f (Decidable.of_not_not hp47)) rfl ?_
          refine xvalP (qv_fieldAddrB FldC.h rfl) rfl rfl ?_
          refine xval (qv_loadB 0 ShpC.h rfl rfl rfl rfl) rfl rfl ?_
          refine xvalP (pv_lenM UndC.h rfl) rfl rfl ?_
          refine xvalP (pv_bin2 rfl rfl rfl) rfl rfl ?_
          refine xvalP (pv_pick rfl rfl) rfl rfl ?_
          refine xnil ?_
          exact xmeet ⟨(decide ((y31.2.1.2.2.2.2.length : Int) = 0)), h, rfl⟩ ⟨(.cons rfl (.refl _) (.cons rfl (.refl _) (.cons rfl (.refl _) (.cons rfl (.refl _) (.nil _))))), (SubM.of (.keep rfl rfl (.refl _) (.drop (.keep rfl rfl (.refl _) (.nil _)))) (.nil _))⟩
      · clear h
        rintro _ ⟨x46, h, rfl⟩
        by_cases hp50 : x46 = true
        · replace h := h.1 hp50
          refine xcondT' hp50 rfl ?_
          refine xseq ?_
          refine xregion ?_
          obtain ⟨y52, h51, h⟩ := h
          refine xcall0 (palinodelaw18_awake_con _ h51) Try.func9 (by kernel_rfl) rfl .nil rfl rfl ?_
          refine xvalP (pv_assign rfl) rfl rfl ?_
          refine xnil ?_
          refine xthen ?_
          refine xretc ?_
          refine xthen_ret ?_
          replace h := h.symm
          subst h
          exact xret1 hg rfl rfl (.refl _) (SubM.of (.nil _) (.nil _)) ⟨rfl, rfl, rfl⟩
        · replace h := h.2 hp50
          refine xcondF' (b_f hp50) rfl ?_
          refine xskipc ?_
          refine xthen ?_
          refine xseq ?_
          refine xregion ?_
          refine xval (qv_loadB 0 ShpC.h rfl rfl rfl rfl) rfl rfl ?_
          refine xvalP (pv_move rfl) rfl rfl ?_
          refine xval (qv_loadB 1 ShpC.h rfl rfl rfl rfl) rfl rfl ?_
          obtain ⟨y54, h53, h⟩ := h
          refine xcallF (Fb := [⟨b6, 42, [.v (.int .i64 y31.2.1.1), .v (.int .i64 y31.2.1.2.1), .v (.int .i64 y31.2.1.2.2.1), .v (.int .i64 y31.2.1.2.2.2.1), .sl 1 none (List.map eb y31.2.1.2.2.2.2)]⟩, ⟨b3, 25, [.v (.bool x2.1), .v (.bool x2.2.1), .v (.bool x2.2.2.1), .v (.bool x2.2.2.2.1), .sl 1 none (List.map es x2.2.2.2.2)]⟩]) (Ft := []) (feed_Next_con y31.2.1 x1 x2 _ h53) Try.func15 (by kernel_rfl) rfl (.cons rfl (.refl _) (.cons rfl (.refl _) (.cons rfl (.refl _) .nil))) (by exact (SubM.of (by repeat (first | with_reducible exact SubB.refl _ | exact SubB.nil _ | refine SubB.keep rfl rfl (by first | with_reducible exact WkL.refl _ | ((repeat (first | exact WkL.nil | refine WkL.cons (by first | with_reducible exact Wk.refl _ | exact Wk.nil_own _ | exact Wk.nil_pl _ | with_reducible exact Wk.tok _ _ _ | exact Wk.tok _ _ _ | exact Wk.eq (by first | rfl | (simp []; done) | (simp []; omega))) ?_)); done) | exact WkL.refl _) ?_ | refine SubB.drop ?_)) (by repeat (first | exact SubT.nil _ | refine SubT.add ?_ | (refine SubT.keep ?_ ?_; focus (first | with_reducible rfl | (simp []; done))) | refine SubT.drop ?_)))) rfl rfl ?_
          rintro _ _ _ ⟨rfl, rfl, rfl⟩
          simp only [List.nil_append, List.cons_append]
          refine xvalP (pv_move rfl) rfl rfl ?_
          refine xvalP (pv_extract rfl rfl) rfl rfl ?_
          refine xvalP (pv_extract rfl rfl) rfl rfl ?_
          refine xvalP (pv_extract rfl rfl) rfl rfl ?_
          refine xalloc InfC.h rfl rfl fun b8 => ?_
          refine xalloc InfC.h rfl rfl fun b9 => ?_
          refine xstore 1 ShpC.h rfl rfl rfl rfl rfl rfl rfl ?_
          refine xstore 0 ShpC.h rfl rfl rfl rfl rfl rfl rfl ?_
          refine xvalP (pv_assign rfl) rfl rfl ?_
          refine xnil ?_
          refine xthen ?_
          refine xseq ?_
          refine xregion ?_
          refine xval (qv_loadB 2 ShpC.h rfl rfl rfl rfl) rfl rfl ?_
          refine xval (qv_loadB 3 ShpC.h rfl rfl rfl rfl) rfl rfl ?_
          obtain ⟨y56, h55, h⟩ := h
          refine xcallF (Fb := [⟨b9, 42, [.v (.int .i64 y54.2.1.1), .v (.int .i64 y54.2.1.2.1), .v (.int .i64 y54.2.1.2.2.1), .v (.int .i64 y54.2.1.2.2.2.1), .sl 1 none (List.map eb y54.2.1.2.2.2.2)]⟩, ⟨b8, 36, [.sl 1 none (List.map eb y54.1.1), .v (.bool y54.1.2)]⟩, ⟨b6, 42, [.v (.int .i64 y31.2.1.1), .v (.int .i64 y31.2.1.2.1), .v (.int .i64 y31.2.1.2.2.1), .v (.int .i64 y31.2.1.2.2.2.1), .sl 1 none (List.map eb y31.2.1.2.2.2.2)]⟩, ⟨b3, 25, [.v (.bool x2.1), .v (.bool x2.2.1), .v (.bool x2.2.2.1), .v (.bool x2.2.2.2.1), .sl 1 none (List.map es x2.2.2.2.2)]⟩]) (Ft := []) (feed_Next_con y31.2.1 ([] : List (ByteArray × (List UInt8))) x2 _ h55) Try.func15 (by kernel_rfl) rfl (.cons rfl (.refl _) (.cons rfl (.nil_pl _) (.cons rfl (.refl _) .nil))) (by exact (SubM.of (by repeat (first | with_reducible exact SubB.refl _ | exact SubB.nil _ | refine SubB.keep rfl rfl (by first | with_reducible exact WkL.refl _ | ((repeat (first | exact WkL.nil | refine WkL.cons (by first | with_reducible exact Wk.refl _ | exact Wk.nil_own _ | exact Wk.nil_pl _ | with_reducible exact Wk.tok _ _ _ | exact Wk.tok _ _ _ | exact Wk.eq (by first | rfl | (simp []; done) | (simp []; omega))) ?_)); done) | exact WkL.refl _) ?_ | refine SubB.drop ?_)) (by repeat (first | exact SubT.nil _ | refine SubT.add ?_ | (refine SubT.keep ?_ ?_; focus (first | with_reducible rfl | (simp []; done))) | refine SubT.drop ?_)))) rfl rfl ?_
          rintro _ _ _ ⟨rfl, rfl, rfl⟩
          simp only [List.nil_append, List.cons_append]
          refine xvalP (pv_move rfl) rfl rfl ?_
          refine xvalP (pv_extract rfl rfl) rfl rfl ?_
          refine xvalP (pv_extract rfl rfl) rfl rfl ?_
          refine xvalP (pv_extract rfl rfl) rfl rfl ?_
          refine xalloc InfC.h rfl rfl fun b11 => ?_
          refine xalloc InfC.h rfl rfl fun b12 => ?_
          refine xstore 1 ShpC.h rfl rfl rfl rfl rfl rfl rfl ?_
          refine xstore 0 ShpC.h rfl rfl rfl rfl rfl rfl rfl ?_
          refine xvalP (pv_assign rfl) rfl rfl ?_
          refine xnil ?_
          refine xthen ?_
          refine xseqM (fun σ => ∃ (x69 : Bool), palinodelaw18_FeedStays_j2 x69 r ∧ σ = ⟨[(4, .v (.bool x69))], [], []⟩) ?_ ?_
          · refine xregion ?_
            refine xvalP (pv_move rfl) rfl rfl ?_
            refine xvalP (pv_move rfl) rfl rfl ?_
            by_cases hp70 : y54.2.2 = true
            · replace h := h.1 hp70
              refine xsetB 51 hp70 rfl ?_
              refine xvalP (pv_move rfl) rfl rfl ?_
              refine xvalP (pv_pick rfl rfl) rfl rfl ?_
              refine xvalP (pv_move rfl) rfl rfl ?_
              by_cases hp71 : y56.2.2 = true
              · replace h := h.1 hp71
                refine xsetB 54 hp71 rfl ?_
                refine xval (qv_loadB 3 ShpC.h rfl rfl rfl rfl) rfl rfl ?_
                refine xval (qv_loadB 1 ShpC.h rfl rfl rfl rfl) rfl rfl ?_
                obtain ⟨y73, h72, h⟩ := h
                refine xcall0 (palinodelaw18_same_con y54.1 y56.1 _ h72) Try.func13 (by kernel_rfl) rfl (.cons rfl (.refl _) (.cons rfl (.refl _) .nil)) rfl rfl ?_
                refine xvalP (pv_pick rfl rfl) rfl rfl ?_
                refine xvalP (pv_move rfl) rfl rfl ?_
                by_cases hp74 : y73 = true
                · replace h := h.1 hp74
                  refine xsetB 59 hp74 rfl ?_
                  refine xval (qv_loadB 2 ShpC.h rfl rfl rfl rfl) rfl rfl ?_
                  refine xval (qv_loadB 0 ShpC.h rfl rfl rfl rfl) rfl rfl ?_
                  obtain ⟨y76, h75, h⟩ := h
                  refine xcall0 (palinoderef18_Same_con y54.2.1 y56.2.1 _ h75) Try.func16 (by kernel_rfl) rfl (.cons rfl (.refl _) (.cons rfl (.refl _) .nil)) rfl rfl ?_
                  refine xvalP (pv_pick rfl rfl) rfl rfl ?_
                  refine xvalP (pv_move rfl) rfl rfl ?_
                  by_cases hp77 : y76 = true
                  · replace h := h.1 hp77
                    refine xsetB 64 hp77 rfl ?_
                    refine xvalP (qv_fieldAddrB FldC.h rfl) rfl rfl ?_
                    refine xval (qv_loadB 2 ShpC.h rfl rfl rfl rfl) rfl rfl ?_
                    refine xvalP (qv_fieldAddrB FldC.h rfl) rfl rfl ?_
                    refine xval (qv_loadB 4 ShpC.h rfl rfl rfl rfl) rfl rfl ?_
                    refine xvalP (pv_bin2 rfl rfl rfl) rfl rfl ?_
                    refine xvalP (pv_pick rfl rfl) rfl rfl ?_
                    refine xvalP (pv_move rfl) rfl rfl ?_
                    by_cases hp79 : y54.2.1.2.2.1 = y31.2.1.2.2.1
                    · replace h := h.1 hp79
                      refine xsetB 71 (decide_eq_true hp79) rfl ?_
                      obtain ⟨y81, h80, h⟩ := h
                      refine xcall0 (palinodelaw18_awake_con _ h80) Try.func9 (by kernel_rfl) rfl .nil rfl rfl ?_
                      refine xvalP (pv_pick rfl rfl) rfl rfl ?_
                      refine xvalP (pv_assign rfl) rfl rfl ?_
                      refine xnil ?_
                      exact xmeet ⟨y81, h, rfl⟩ ⟨(.cons rfl (.refl _) (.nil _)), (SubM.of (.nil _) (.nil _))⟩
                    · replace h := h.2 hp79
                      refine xsetB 71 (decide_eq_false hp79) rfl ?_
                      refine xskip rfl rfl ?_
                      refine xvalP (pv_pick rfl rfl) rfl rfl ?_
                      refine xvalP (pv_assign rfl) rfl rfl ?_
                      refine xnil ?_
                      exact xmeet ⟨false, h, rfl⟩ ⟨(.cons rfl (.refl _) (.nil _)), (SubM.of (.nil _) (.nil _))⟩
                  · replace h := h.2 hp77
                    refine xsetB 64 (b_f hp77) rfl ?_
                    refine xskip rfl rfl ?_
                    refine xskip rfl rfl ?_
                    refine xskip rfl rfl ?_
                    refine xskip rfl rfl ?_
                    refine xskip rfl rfl ?_
                    refine xvalP (pv_pick rfl rfl) rfl rfl ?_
                    refine xvalP (pv_move rfl) rfl rfl ?_
                    refine xskip rfl rfl ?_
                    refine xvalP (pv_pick rfl rfl) rfl rfl ?_
                    refine xvalP (pv_assign rfl) rfl rfl ?_
                    refine xnil ?_
                    exact xmeet ⟨false, h, rfl⟩ ⟨(.cons rfl (.refl _) (.nil _)), (SubM.of (.nil _) (.nil _))⟩
                · replace h := h.2 hp74
                  refine xsetB 59 (b_f hp74) rfl ?_
                  refine xskip rfl rfl ?_
                  refine xskip rfl rfl ?_
                  refine xskip rfl rfl ?_
                  refine xvalP (pv_pick rfl rfl) rfl rfl ?_
                  refine xvalP (pv_move rfl) rfl rfl ?_
                  refine xskip rfl rfl ?_
                  refine xskip rfl rfl ?_
                  refine xskip rfl rfl ?_
                  refine xskip rfl rfl ?_
                  refine xskip rfl rfl ?_
                  refine xvalP (pv_pick rfl rfl) rfl rfl ?_
                  refine xvalP (pv_move rfl) rfl rfl ?_
                  refine xskip rfl rfl ?_
                  refine xvalP (pv_pick rfl rfl) rfl rfl ?_
                  refine xvalP (pv_assign rfl) rfl rfl ?_
                  refine xnil ?_
                  exact xmeet ⟨false, h, rfl⟩ ⟨(.cons rfl (.refl _) (.nil _)), (SubM.of (.nil _) (.nil _))⟩
              · replace h := h.2 hp71
                refine xsetB 54 (b_f hp71) rfl ?_
                refine xskip rfl rfl ?_
                refine xskip rfl rfl ?_
                refine xskip rfl rfl ?_
                refine xvalP (pv_pick rfl rfl) rfl rfl ?_
                refine xvalP (pv_move rfl) rfl rfl ?_
                refine xskip rfl rfl ?_
                refine xskip rfl rfl ?_
                refine xskip rfl rfl ?_
                refine xvalP (pv_pick rfl rfl) rfl rfl ?_
                refine xvalP (pv_move rfl) rfl rfl ?_
                refine xskip rfl rfl ?_
                refine xskip rfl rfl ?_
                refine xskip rfl rfl ?_
                refine xskip rfl rfl ?_
                refine xskip rfl rfl ?_
                refine xvalP (pv_pick rfl rfl) rfl rfl ?_
                refine xvalP (pv_move rfl) rfl rfl ?_
                refine xskip rfl rfl ?_
                refine xvalP (pv_pick rfl rfl) rfl rfl ?_
                refine xvalP (pv_assign rfl) rfl rfl ?_
                refine xnil ?_
                exact xmeet ⟨false, h, rfl⟩ ⟨(.cons rfl (.refl _) (.nil _)), (SubM.of (.nil _) (.nil _))⟩
            · replace h := h.2 hp70
              refine xsetB 51 (b_f hp70) rfl ?_
              refine xskip rfl rfl ?_
              refine xvalP (pv_pick rfl rfl) rfl rfl ?_
              refine xvalP (pv_move rfl) rfl rfl ?_
              refine xskip rfl rfl ?_
              refine xskip rfl rfl ?_
              refine xskip rfl rfl ?_
              refine xvalP (pv_pick rfl rfl) rfl rfl ?_
              refine xvalP (pv_move rfl) rfl rfl ?_
              refine xskip rfl rfl ?_
              refine xskip rfl rfl ?_
              refine xskip rfl rfl ?_
              refine xvalP (pv_pick rfl rfl) rfl rfl ?_
              refine xvalP (pv_move rfl) rfl rfl ?_
              refine xskip rfl rfl ?_
              refine xskip rfl rfl ?_
              refine xskip rfl rfl ?_
              refine xskip rfl rfl ?_
              refine xskip rfl rfl ?_
              refine xvalP (pv_pick rfl rfl) rfl rfl ?_
              refine xvalP (pv_move rfl) rfl rfl ?_
              refine xskip rfl rfl ?_
              refine xvalP (pv_pick rfl rfl) rfl rfl ?_
              refine xvalP (pv_assign rfl) rfl rfl ?_
              refine xnil ?_
              exact xmeet ⟨false, h, rfl⟩ ⟨(.cons rfl (.refl _) (.nil _)), (SubM.of (.nil _) (.nil _))⟩
          · clear h
            rintro _ ⟨x69, h, rfl⟩
            refine xretc ?_
            replace h := h.symm
            subst h
            exact xret1 hg rfl rfl (.refl _) (SubM.of (.nil _) (.nil _)) ⟨rfl, rfl, rfl⟩
    refine xpcut 4 #[true, true, true, true, true, true, true, true, true, false, false, false, false] (fun σ => ∃ (b5 : Nat), σ = ⟨[(0, .sl 2 none (List.map E_palinode_api_File x1)), (3, .v (.pointer (some ⟨b3, 0, none⟩))), (5, .v (.pointer (some ⟨b5, 0, none⟩))), (23, .agg [.sl 1 none (List.map eb y31.1.1), .v (.bool y31.1.2)]), (24, .agg [.v (.int .i64 y31.2.1.1), .v (.int .i64 y31.2.1.2.1), .v (.int .i64 y31.2.1.2.2.1), .v (.int .i64 y31.2.1.2.2.2.1), .sl 1 none (List.map eb y31.2.1.2.2.2.2)]), (25, .v (.bool y31.2.2))], [⟨b5, 36, [.v (.slice none 0 0), .v (.bool false)]⟩, ⟨b3, 25, [.v (.bool x2.1), .v (.bool x2.2.1), .v (.bool x2.2.2.1), .v (.bool x2.2.2.2.1), .sl 1 none (List.map es x2.2.2.2.2)]⟩], []⟩) ?_ (fun key82 => ?_)
    · rintro _ ⟨b5, rfl⟩
      refine xpstep (i := 9) (by kernel_rfl) rfl ?_
      refine walloc InfC.h rfl rfl fun b6 => ?_
      exact xpuse key32 ⟨b6, b5, rfl⟩ ⟨(.cons rfl (.refl _) (.cons rfl (.refl _) (.cons rfl (.refl _) (.cons rfl (.refl _) (.cons rfl (.refl _) (.cons rfl (.refl _) (.cons rfl (.refl _) (.nil _)))))))), (SubM.of (.keep rfl rfl (.refl _) (.keep rfl rfl (.refl _) (.keep rfl rfl (.refl _) (.nil _)))) (.nil _))⟩ rfl (by kernel_rfl)
    refine xpcut 4 #[true, true, true, true, true, true, true, true, false, true, false, false, false] (fun σ => ∃ (b6 : Nat), σ = ⟨[(0, .sl 2 none (List.map E_palinode_api_File x1)), (3, .v (.pointer (some ⟨b3, 0, none⟩))), (6, .v (.pointer (some ⟨b6, 0, none⟩))), (23, .agg [.sl 1 none (List.map eb y31.1.1), .v (.bool y31.1.2)]), (24, .agg [.v (.int .i64 y31.2.1.1), .v (.int .i64 y31.2.1.2.1), .v (.int .i64 y31.2.1.2.2.1), .v (.int .i64 y31.2.1.2.2.2.1), .sl 1 none (List.map eb y31.2.1.2.2.2.2)]), (25, .v (.bool y31.2.2))], [⟨b6, 42, [.v (.int .i64 0), .v (.int .i64 0), .v (.int .i64 0), .v (.int .i64 0), .v (.slice none 0 0)]⟩, ⟨b3, 25, [.v (.bool x2.1), .v (.bool x2.2.1), .v (.bool x2.2.2.1), .v (.bool x2.2.2.2.1), .sl 1 none (List.map es x2.2.2.2.2)]⟩], []⟩) ?_ (fun key83 => ?_)
    · rintro _ ⟨b6, rfl⟩
      refine xpstep (i := 8) (by kernel_rfl) rfl ?_
      refine walloc InfC.h rfl rfl fun b5 => ?_
      exact xpuse key32 ⟨b6, b5, rfl⟩ ⟨(.cons rfl (.refl _) (.cons rfl (.refl _) (.cons rfl (.refl _) (.cons rfl (.refl _) (.cons rfl (.refl _) (.cons rfl (.refl _) (.cons rfl (.refl _) (.nil _)))))))), by refine SubM.trans (SubM.mvB 2 rfl) ?_; refine SubM.trans (SubM.mvB 1 rfl) ?_; refine SubM.trans (SubM.mvB 2 rfl) ?_; (simp only [List.eraseIdx]); exact (SubM.of (by repeat (first | with_reducible exact SubB.refl _ | exact SubB.nil _ | refine SubB.keep rfl rfl (by first | with_reducible exact WkL.refl _ | ((repeat (first | exact WkL.nil | refine WkL.cons (by first | with_reducible exact Wk.refl _ | exact Wk.nil_own _ | exact Wk.nil_pl _ | with_reducible exact Wk.tok _ _ _ | exact Wk.tok _ _ _ | exact Wk.eq (by first | rfl | (simp []; done) | (simp []; omega))) ?_)); done) | exact WkL.refl _) ?_ | refine SubB.drop ?_)) (by repeat (first | exact SubT.nil _ | refine SubT.add ?_ | (refine SubT.keep ?_ ?_; focus (first | with_reducible rfl | (simp []; done))) | refine SubT.drop ?_)))⟩ rfl (by kernel_rfl)
    refine xpcut 8 #[true, true, true, false, false, false, false, false, true, true, false, false, false] (fun σ => ∃ (b6 : Nat), ∃ (b5 : Nat), σ = ⟨[(0, .sl 2 none (List.map E_palinode_api_File x1)), (3, .v (.pointer (some ⟨b3, 0, none⟩))), (5, .v (.pointer (some ⟨b5, 0, none⟩))), (6, .v (.pointer (some ⟨b6, 0, none⟩))), (19, .agg [.v (.int .i64 y29.1), .v (.int .i64 y29.2.1), .v (.int .i64 y29.2.2.1), .v (.int .i64 y29.2.2.2.1), .sl 1 none (List.map eb y29.2.2.2.2)]), (20, .sl 2 none (List.map E_palinode_api_File x1)), (21, .agg [.v (.bool x2.1), .v (.bool x2.2.1), .v (.bool x2.2.2.1), .v (.bool x2.2.2.2.1), .sl 1 none (List.map es x2.2.2.2.2)])], [⟨b6, 42, [.v (.int .i64 0), .v (.int .i64 0), .v (.int .i64 0), .v (.int .i64 0), .v (.slice none 0 0)]⟩, ⟨b5, 36, [.v (.slice none 0 0), .v (.bool false)]⟩, ⟨b3, 25, [.v (.bool x2.1), .v (.bool x2.2.1), .v (.bool x2.2.2.1), .v (.bool x2.2.2.2.1), .sl 1 none (List.map es x2.2.2.2.2)]⟩], []⟩) ?_ (fun key84 => ?_)
    · rintro _ ⟨b6, b5, rfl⟩
      refine xpstep (i := 3) (by kernel_rfl) rfl ?_
      refine wcallF (Fb := [⟨b6, 42, [.v (.int .i64 0), .v (.int .i64 0), .v (.int .i64 0), .v (.int .i64 0), .v (.slice none 0 0)]⟩, ⟨b5, 36, [.v (.slice none 0 0), .v (.bool false)]⟩, ⟨b3, 25, [.v (.bool x2.1), .v (.bool x2.2.1), .v (.bool x2.2.2.1), .v (.bool x2.2.2.2.1), .sl 1 none (List.map es x2.2.2.2.2)]⟩]) (Ft := []) (feed_Next_con y29 x1 x2 _ h30) Try.func15 (by kernel_rfl) rfl (.cons rfl (.refl _) (.cons rfl (.refl _) (.cons rfl (.refl _) .nil))) (by exact (SubM.of (by repeat (first | with_reducible exact SubB.refl _ | exact SubB.nil _ | refine SubB.keep rfl rfl (by first | with_reducible exact WkL.refl _ | ((repeat (first | exact WkL.nil | refine WkL.cons (by first | with_reducible exact Wk.refl _ | exact Wk.nil_own _ | exact Wk.nil_pl _ | with_reducible exact Wk.tok _ _ _ | exact Wk.tok _ _ _ | exact Wk.eq (by first | rfl | (simp []; done) | (simp []; omega))) ?_)); done) | exact WkL.refl _) ?_ | refine SubB.drop ?_)) (by repeat (first | exact SubT.nil _ | refine SubT.add ?_ | (refine SubT.keep ?_ ?_; focus (first | with_reducible rfl | (simp []; done))) | refine SubT.drop ?_)))) rfl rfl ?_
      rintro _ _ _ ⟨rfl, rfl, rfl⟩
      simp only [List.nil_append, List.cons_append]
      refine xpval 4 rfl (pv_move rfl) rfl rfl (by kernel_rfl) (by kernel_rfl) (by kernel_rfl) (fun _ _ _ _ h => h) ?_
      refine xpval 5 rfl (pv_extract rfl rfl) rfl rfl (by kernel_rfl) (by kernel_rfl) (by kernel_rfl) (fun _ _ _ _ h => h) ?_
      refine xpval 6 rfl (pv_extract rfl rfl) rfl rfl (by kernel_rfl) (by kernel_rfl) (by kernel_rfl) (fun _ _ _ _ h => h) ?_
      refine xpval 7 rfl (pv_extract rfl rfl) rfl rfl (by kernel_rfl) (by kernel_rfl) (by kernel_rfl) (fun _ _ _ _ h => h) ?_
      exact xpuse key32 ⟨b6, b5, rfl⟩ ⟨(.cons rfl (.refl _) (.cons rfl (.refl _) (.cons rfl (.refl _) (.cons rfl (.refl _) (.cons rfl (.refl _) (.cons rfl (.refl _) (.cons rfl (.refl _) (.nil _)))))))), (SubM.of (.keep rfl rfl (.refl _) (.keep rfl rfl (.refl _) (.keep rfl rfl (.refl _) (.nil _)))) (.nil _))⟩ rfl (by kernel_rfl)
    refine xpcut 9 #[true, true, true, false, false, false, false, false, true, false, false, false, false] (fun σ => ∃ (b5 : Nat), σ = ⟨[(0, .sl 2 none (List.map E_palinode_api_File x1)), (3, .v (.pointer (some ⟨b3, 0, none⟩))), (5, .v (.pointer (some ⟨b5, 0, none⟩))), (19, .agg [.v (.int .i64 y29.1), .v (.int .i64 y29.2.1), .v (.int .i64 y29.2.2.1), .v (.int .i64 y29.2.2.2.1), .sl 1 none (List.map eb y29.2.2.2.2)]), (20, .sl 2 none (List.map E_palinode_api_File x1)), (21, .agg [.v (.bool x2.1), .v (.bool x2.2.1), .v (.bool x2.2.2.1), .v (.bool x2.2.2.2.1), .sl 1 none (List.map es x2.2.2.2.2)])], [⟨b5, 36, [.v (.slice none 0 0), .v (.bool false)]⟩, ⟨b3, 25, [.v (.bool x2.1), .v (.bool x2.2.1), .v (.bool x2.2.2.1), .v (.bool x2.2.2.2.1), .sl 1 none (List.map es x2.2.2.2.2)]⟩], []⟩) ?_ (fun key85 => ?_)
    · rintro _ ⟨b5, rfl⟩
      refine xpstepN (is := [3, 9]) (by kernel_rfl) (by simp) ?_
      intro i hi; simp only [List.mem_cons, List.not_mem_nil, or_false] at hi; rcases hi with rfl | rfl
      · refine ⟨_, rfl, ?_⟩
        refine wcallF (Fb := [⟨b5, 36, [.v (.slice none 0 0), .v (.bool false)]⟩, ⟨b3, 25, [.v (.bool x2.1), .v (.bool x2.2.1), .v (.bool x2.2.2.1), .v (.bool x2.2.2.2.1), .sl 1 none (List.map es x2.2.2.2.2)]⟩]) (Ft := []) (feed_Next_con y29 x1 x2 _ h30) Try.func15 (by kernel_rfl) rfl (.cons rfl (.refl _) (.cons rfl (.refl _) (.cons rfl (.refl _) .nil))) (by exact (SubM.of (by repeat (first | with_reducible exact SubB.refl _ | exact SubB.nil _ | refine SubB.keep rfl rfl (by first | with_reducible exact WkL.refl _ | ((repeat (first | exact WkL.nil | refine WkL.cons (by first | with_reducible exact Wk.refl _ | exact Wk.nil_own _ | exact Wk.nil_pl _ | with_reducible exact Wk.tok _ _ _ | exact Wk.tok _ _ _ | exact Wk.eq (by first | rfl | (simp []; done) | (simp []; omega))) ?_)); done) | exact WkL.refl _) ?_ | refine SubB.drop ?_)) (by repeat (first | exact SubT.nil _ | refine SubT.add ?_ | (refine SubT.keep ?_ ?_; focus (first | with_reducible rfl | (simp []; done))) | refine SubT.drop ?_)))) rfl rfl ?_
        rintro _ _ _ ⟨rfl, rfl, rfl⟩
        simp only [List.nil_append, List.cons_append]
        refine xpval 4 rfl (pv_move rfl) rfl rfl (by kernel_rfl) (by kernel_rfl) (by kernel_rfl) (fun _ _ _ _ h => h) ?_
        refine xpval 5 rfl (pv_extract rfl rfl) rfl rfl (by kernel_rfl) (by kernel_rfl) (by kernel_rfl) (fun _ _ _ _ h => h) ?_
        refine xpval 6 rfl (pv_extract rfl rfl) rfl rfl (by kernel_rfl) (by kernel_rfl) (by kernel_rfl) (fun _ _ _ _ h => h) ?_
        refine xpval 7 rfl (pv_extract rfl rfl) rfl rfl (by kernel_rfl) (by kernel_rfl) (by kernel_rfl) (fun _ _ _ _ h => h) ?_
        exact xpuse key82 ⟨b5, rfl⟩ ⟨(.cons rfl (.refl _) (.cons rfl (.refl _) (.cons rfl (.refl _) (.cons rfl (.refl _) (.cons rfl (.refl _) (.cons rfl (.refl _) (.nil _))))))), (SubM.of (.keep rfl rfl (.refl _) (.keep rfl rfl (.refl _) (.nil _))) (.nil _))⟩ rfl (by kernel_rfl)
      · refine ⟨_, rfl, ?_⟩
        refine walloc InfC.h rfl rfl fun b6 => ?_
        exact xpuse key84 ⟨b6, b5, rfl⟩ ⟨(.cons rfl (.refl _) (.cons rfl (.refl _) (.cons rfl (.refl _) (.cons rfl (.refl _) (.cons rfl (.refl _) (.cons rfl (.refl _) (.cons rfl (.refl _) (.nil _)))))))), (SubM.of (.keep rfl rfl (.refl _) (.keep rfl rfl (.refl _) (.keep rfl rfl (.refl _) (.nil _)))) (.nil _))⟩ rfl (by kernel_rfl)
    refine xpcut 9 #[true, true, true, false, false, false, false, false, false, true, false, false, false] (fun σ => ∃ (b6 : Nat), σ = ⟨[(0, .sl 2 none (List.map E_palinode_api_File x1)), (3, .v (.pointer (some ⟨b3, 0, none⟩))), (6, .v (.pointer (some ⟨b6, 0, none⟩))), (19, .agg [.v (.int .i64 y29.1), .v (.int .i64 y29.2.1), .v (.int .i64 y29.2.2.1), .v (.int .i64 y29.2.2.2.1), .sl 1 none (List.map eb y29.2.2.2.2)]), (20, .sl 2 none (List.map E_palinode_api_File x1)), (21, .agg [.v (.bool x2.1), .v (.bool x2.2.1), .v (.bool x2.2.2.1), .v (.bool x2.2.2.2.1), .sl 1 none (List.map es x2.2.2.2.2)])], [⟨b6, 42, [.v (.int .i64 0), .v (.int .i64 0), .v (.int .i64 0), .v (.int .i64 0), .v (.slice none 0 0)]⟩, ⟨b3, 25, [.v (.bool x2.1), .v (.bool x2.2.1), .v (.bool x2.2.2.1), .v (.bool x2.2.2.2.1), .sl 1 none (List.map es x2.2.2.2.2)]⟩], []⟩) ?_ (fun key86 => ?_)
    · rintro _ ⟨b6, rfl⟩
      refine xpstepN (is := [3, 8]) (by kernel_rfl) (by simp) ?_
      intro i hi; simp only [List.mem_cons, List.not_mem_nil, or_false] at hi; rcases hi with rfl | rfl
      · refine ⟨_, rfl, ?_⟩
        refine wcallF (Fb := [⟨b6, 42, [.v (.int .i64 0), .v (.int .i64 0), .v (.int .i64 0), .v (.int .i64 0), .v (.slice none 0 0)]⟩, ⟨b3, 25, [.v (.bool x2.1), .v (.bool x2.2.1), .v (.bool x2.2.2.1), .v (.bool x2.2.2.2.1), .sl 1 none (List.map es x2.2.2.2.2)]⟩]) (Ft := []) (feed_Next_con y29 x1 x2 _ h30) Try.func15 (by kernel_rfl) rfl (.cons rfl (.refl _) (.cons rfl (.refl _) (.cons rfl (.refl _) .nil))) (by exact (SubM.of (by repeat (first | with_reducible exact SubB.refl _ | exact SubB.nil _ | refine SubB.keep rfl rfl (by first | with_reducible exact WkL.refl _ | ((repeat (first | exact WkL.nil | refine WkL.cons (by first | with_reducible exact Wk.refl _ | exact Wk.nil_own _ | exact Wk.nil_pl _ | with_reducible exact Wk.tok _ _ _ | exact Wk.tok _ _ _ | exact Wk.eq (by first | rfl | (simp []; done) | (simp []; omega))) ?_)); done) | exact WkL.refl _) ?_ | refine SubB.drop ?_)) (by repeat (first | exact SubT.nil _ | refine SubT.add ?_ | (refine SubT.keep ?_ ?_; focus (first | with_reducible rfl | (simp []; done))) | refine SubT.drop ?_)))) rfl rfl ?_
        rintro _ _ _ ⟨rfl, rfl, rfl⟩
        simp only [List.nil_append, List.cons_append]
        refine xpval 4 rfl (pv_move rfl) rfl rfl (by kernel_rfl) (by kernel_rfl) (by kernel_rfl) (fun _ _ _ _ h => h) ?_
        refine xpval 5 rfl (pv_extract rfl rfl) rfl rfl (by kernel_rfl) (by kernel_rfl) (by kernel_rfl) (fun _ _ _ _ h => h) ?_
        refine xpval 6 rfl (pv_extract rfl rfl) rfl rfl (by kernel_rfl) (by kernel_rfl) (by kernel_rfl) (fun _ _ _ _ h => h) ?_
        refine xpval 7 rfl (pv_extract rfl rfl) rfl rfl (by kernel_rfl) (by kernel_rfl) (by kernel_rfl) (fun _ _ _ _ h => h) ?_
        exact xpuse key83 ⟨b6, rfl⟩ ⟨(.cons rfl (.refl _) (.cons rfl (.refl _) (.cons rfl (.refl _) (.cons rfl (.refl _) (.cons rfl (.refl _) (.cons rfl (.refl _) (.nil _))))))), (SubM.of (.keep rfl rfl (.refl _) (.keep rfl rfl (.refl _) (.nil _))) (.nil _))⟩ rfl (by kernel_rfl)
      · refine ⟨_, rfl, ?_⟩
        refine walloc InfC.h rfl rfl fun b5 => ?_
        exact xpuse key84 ⟨b6, b5, rfl⟩ ⟨(.cons rfl (.refl _) (.cons rfl (.refl _) (.cons rfl (.refl _) (.cons rfl (.refl _) (.cons rfl (.refl _) (.cons rfl (.refl _) (.cons rfl (.refl _) (.nil _)))))))), by refine SubM.trans (SubM.mvB 2 rfl) ?_; refine SubM.trans (SubM.mvB 1 rfl) ?_; refine SubM.trans (SubM.mvB 2 rfl) ?_; (simp only [List.eraseIdx]); exact (SubM.of (by repeat (first | with_reducible exact SubB.refl _ | exact SubB.nil _ | refine SubB.keep rfl rfl (by first | with_reducible exact WkL.refl _ | ((repeat (first | exact WkL.nil | refine WkL.cons (by first | with_reducible exact Wk.refl _ | exact Wk.nil_own _ | exact Wk.nil_pl _ | with_reducible exact Wk.tok _ _ _ | exact Wk.tok _ _ _ | exact Wk.eq (by first | rfl | (simp []; done) | (simp []; omega))) ?_)); done) | exact WkL.refl _) ?_ | refine SubB.drop ?_)) (by repeat (first | exact SubT.nil _ | refine SubT.add ?_ | (refine SubT.keep ?_ ?_; focus (first | with_reducible rfl | (simp []; done))) | refine SubT.drop ?_)))⟩ rfl (by kernel_rfl)
    refine xpcut 9 #[false, true, true, false, false, false, false, false, true, true, false, false, false] (fun σ => ∃ (b6 : Nat), ∃ (b5 : Nat), σ = ⟨[(0, .sl 2 none (List.map E_palinode_api_File x1)), (3, .v (.pointer (some ⟨b3, 0, none⟩))), (5, .v (.pointer (some ⟨b5, 0, none⟩))), (6, .v (.pointer (some ⟨b6, 0, none⟩))), (20, .sl 2 none (List.map E_palinode_api_File x1)), (21, .agg [.v (.bool x2.1), .v (.bool x2.2.1), .v (.bool x2.2.2.1), .v (.bool x2.2.2.2.1), .sl 1 none (List.map es x2.2.2.2.2)])], [⟨b6, 42, [.v (.int .i64 0), .v (.int .i64 0), .v (.int .i64 0), .v (.int .i64 0), .v (.slice none 0 0)]⟩, ⟨b5, 36, [.v (.slice none 0 0), .v (.bool false)]⟩, ⟨b3, 25, [.v (.bool x2.1), .v (.bool x2.2.1), .v (.bool x2.2.2.1), .v (.bool x2.2.2.2.1), .sl 1 none (List.map es x2.2.2.2.2)]⟩], []⟩) ?_ (fun key87 => ?_)
    · rintro _ ⟨b6, b5, rfl⟩
      refine xpstep (i := 0) (by kernel_rfl) rfl ?_
      refine wcall0 (feed_First_con _ h28) Try.func14 (by kernel_rfl) rfl .nil rfl rfl ?_
      exact xpuse key84 ⟨b6, b5, rfl⟩ ⟨(.cons rfl (.refl _) (.cons rfl (.refl _) (.cons rfl (.refl _) (.cons rfl (.refl _) (.cons rfl (.refl _) (.cons rfl (.refl _) (.cons rfl (.refl _) (.nil _)))))))), (SubM.of (.keep rfl rfl (.refl _) (.keep rfl rfl (.refl _) (.keep rfl rfl (.refl _) (.nil _)))) (.nil _))⟩ rfl (by kernel_rfl)
    refine xpcut 10 #[true, true, true, false, false, false, false, false, false, false, false, false, false] (fun σ => σ = ⟨[(0, .sl 2 none (List.map E_palinode_api_File x1)), (3, .v (.pointer (some ⟨b3, 0, none⟩))), (19, .agg [.v (.int .i64 y29.1), .v (.int .i64 y29.2.1), .v (.int .i64 y29.2.2.1), .v (.int .i64 y29.2.2.2.1), .sl 1 none (List.map eb y29.2.2.2.2)]), (20, .sl 2 none (List.map E_palinode_api_File x1)), (21, .agg [.v (.bool x2.1), .v (.bool x2.2.1), .v (.bool x2.2.2.1), .v (.bool x2.2.2.2.1), .sl 1 none (List.map es x2.2.2.2.2)])], [⟨b3, 25, [.v (.bool x2.1), .v (.bool x2.2.1), .v (.bool x2.2.2.1), .v (.bool x2.2.2.2.1), .sl 1 none (List.map es x2.2.2.2.2)]⟩], []⟩) ?_ (fun key88 => ?_)
    · rintro _ rfl
      refine xpstepN (is := [3, 8, 9]) (by kernel_rfl) (by simp) ?_
      intro i hi; simp only [List.mem_cons, List.not_mem_nil, or_false] at hi; rcases hi with rfl | rfl | rfl
      · refine ⟨_, rfl, ?_⟩
        refine wcallF (Fb := [⟨b3, 25, [.v (.bool x2.1), .v (.bool x2.2.1), .v (.bool x2.2.2.1), .v (.bool x2.2.2.2.1), .sl 1 none (List.map es x2.2.2.2.2)]⟩]) (Ft := []) (feed_Next_con y29 x1 x2 _ h30) Try.func15 (by kernel_rfl) rfl (.cons rfl (.refl _) (.cons rfl (.refl _) (.cons rfl (.refl _) .nil))) (by exact (SubM.of (by repeat (first | with_reducible exact SubB.refl _ | exact SubB.nil _ | refine SubB.keep rfl rfl (by first | with_reducible exact WkL.refl _ | ((repeat (first | exact WkL.nil | refine WkL.cons (by first | with_reducible exact Wk.refl _ | exact Wk.nil_own _ | exact Wk.nil_pl _ | with_reducible exact Wk.tok _ _ _ | exact Wk.tok _ _ _ | exact Wk.eq (by first | rfl | (simp []; done) | (simp []; omega))) ?_)); done) | exact WkL.refl _) ?_ | refine SubB.drop ?_)) (by repeat (first | exact SubT.nil _ | refine SubT.add ?_ | (refine SubT.keep ?_ ?_; focus (first | with_reducible rfl | (simp []; done))) | refine SubT.drop ?_)))) rfl rfl ?_
        rintro _ _ _ ⟨rfl, rfl, rfl⟩
        simp only [List.nil_append, List.cons_append]
        refine xpval 4 rfl (pv_move rfl) rfl rfl (by kernel_rfl) (by kernel_rfl) (by kernel_rfl) (fun _ _ _ _ h => h) ?_
        refine xpval 5 rfl (pv_extract rfl rfl) rfl rfl (by kernel_rfl) (by kernel_rfl) (by kernel_rfl) (fun _ _ _ _ h => h) ?_
        refine xpval 6 rfl (pv_extract rfl rfl) rfl rfl (by kernel_rfl) (by kernel_rfl) (by kernel_rfl) (fun _ _ _ _ h => h) ?_
        refine xpval 7 rfl (pv_extract rfl rfl) rfl rfl (by kernel_rfl) (by kernel_rfl) (by kernel_rfl) (fun _ _ _ _ h => h) ?_
        refine xpstepN (is := [8, 9]) (by kernel_rfl) (by simp) ?_
        intro i hi; simp only [List.mem_cons, List.not_mem_nil, or_false] at hi; rcases hi with rfl | rfl
        · refine ⟨_, rfl, ?_⟩
          refine walloc InfC.h rfl rfl fun b5 => ?_
          exact xpuse key82 ⟨b5, rfl⟩ ⟨(.cons rfl (.refl _) (.cons rfl (.refl _) (.cons rfl (.refl _) (.cons rfl (.refl _) (.cons rfl (.refl _) (.cons rfl (.refl _) (.nil _))))))), (SubM.of (.keep rfl rfl (.refl _) (.keep rfl rfl (.refl _) (.nil _))) (.nil _))⟩ rfl (by kernel_rfl)
        · refine ⟨_, rfl, ?_⟩
          refine walloc InfC.h rfl rfl fun b6 => ?_
          exact xpuse key83 ⟨b6, rfl⟩ ⟨(.cons rfl (.refl _) (.cons rfl (.refl _) (.cons rfl (.refl _) (.cons rfl (.refl _) (.cons rfl (.refl _) (.cons rfl (.refl _) (.nil _))))))), (SubM.of (.keep rfl rfl (.refl _) (.keep rfl rfl (.refl _) (.nil _))) (.nil _))⟩ rfl (by kernel_rfl)
      · refine ⟨_, rfl, ?_⟩
        refine walloc InfC.h rfl rfl fun b5 => ?_
        exact xpuse key85 ⟨b5, rfl⟩ ⟨(.cons rfl (.refl _) (.cons rfl (.refl _) (.cons rfl (.refl _) (.cons rfl (.refl _) (.cons rfl (.refl _) (.cons rfl (.refl _) (.nil _))))))), (SubM.of (.keep rfl rfl (.refl _) (.keep rfl rfl (.refl _) (.nil _))) (.nil _))⟩ rfl (by kernel_rfl)
      · refine ⟨_, rfl, ?_⟩
        refine walloc InfC.h rfl rfl fun b6 => ?_
        exact xpuse key86 ⟨b6, rfl⟩ ⟨(.cons rfl (.refl _) (.cons rfl (.refl _) (.cons rfl (.refl _) (.cons rfl (.refl _) (.cons rfl (.refl _) (.cons rfl (.refl _) (.nil _))))))), (SubM.of (.keep rfl rfl (.refl _) (.keep rfl rfl (.refl _) (.nil _))) (.nil _))⟩ rfl (by kernel_rfl)
    refine xpcut 10 #[false, true, true, false, false, false, false, false, true, false, false, false, false] (fun σ => ∃ (b5 : Nat), σ = ⟨[(0, .sl 2 none (List.map E_palinode_api_File x1)), (3, .v (.pointer (some ⟨b3, 0, none⟩))), (5, .v (.pointer (some ⟨b5, 0, none⟩))), (20, .sl 2 none (List.map E_palinode_api_File x1)), (21, .agg [.v (.bool x2.1), .v (.bool x2.2.1), .v (.bool x2.2.2.1), .v (.bool x2.2.2.2.1), .sl 1 none (List.map es x2.2.2.2.2)])], [⟨b5, 36, [.v (.slice none 0 0), .v (.bool false)]⟩, ⟨b3, 25, [.v (.bool x2.1), .v (.bool x2.2.1), .v (.bool x2.2.2.1), .v (.bool x2.2.2.2.1), .sl 1 none (List.map es x2.2.2.2.2)]⟩], []⟩) ?_ (fun key89 => ?_)
    · rintro _ ⟨b5, rfl⟩
      refine xpstepN (is := [0, 9]) (by kernel_rfl) (by simp) ?_
      intro i hi; simp only [List.mem_cons, List.not_mem_nil, or_false] at hi; rcases hi with rfl | rfl
      · refine ⟨_, rfl, ?_⟩
        refine wcall0 (feed_First_con _ h28) Try.func14 (by kernel_rfl) rfl .nil rfl rfl ?_
        exact xpuse key85 ⟨b5, rfl⟩ ⟨(.cons rfl (.refl _) (.cons rfl (.refl _) (.cons rfl (.refl _) (.cons rfl (.refl _) (.cons rfl (.refl _) (.cons rfl (.refl _) (.nil _))))))), (SubM.of (.keep rfl rfl (.refl _) (.keep rfl rfl (.refl _) (.nil _))) (.nil _))⟩ rfl (by kernel_rfl)
      · refine ⟨_, rfl, ?_⟩
        refine walloc InfC.h rfl rfl fun b6 => ?_
        exact xpuse key87 ⟨b6, b5, rfl⟩ ⟨(.cons rfl (.refl _) (.cons rfl (.refl _) (.cons rfl (.refl _) (.cons rfl (.refl _) (.cons rfl (.refl _) (.cons rfl (.refl _) (.nil _))))))), (SubM.of (.keep rfl rfl (.refl _) (.keep rfl rfl (.refl _) (.keep rfl rfl (.refl _) (.nil _)))) (.nil _))⟩ rfl (by kernel_rfl)
    refine xpcut 10 #[false, true, true, false, false, false, false, false, false, true, false, false, false] (fun σ => ∃ (b6 : Nat), σ = ⟨[(0, .sl 2 none (List.map E_palinode_api_File x1)), (3, .v (.pointer (some ⟨b3, 0, none⟩))), (6, .v (.pointer (some ⟨b6, 0, none⟩))), (20, .sl 2 none (List.map E_palinode_api_File x1)), (21, .agg [.v (.bool x2.1), .v (.bool x2.2.1), .v (.bool x2.2.2.1), .v (.bool x2.2.2.2.1), .sl 1 none (List.map es x2.2.2.2.2)])], [⟨b6, 42, [.v (.int .i64 0), .v (.int .i64 0), .v (.int .i64 0), .v (.int .i64 0), .v (.slice none 0 0)]⟩, ⟨b3, 25, [.v (.bool x2.1), .v (.bool x2.2.1), .v (.bool x2.2.2.1), .v (.bool x2.2.2.2.1), .sl 1 none (List.map es x2.2.2.2.2)]⟩], []⟩) ?_ (fun key90 => ?_)
    · rintro _ ⟨b6, rfl⟩
      refine xpstepN (is := [0, 8]) (by kernel_rfl) (by simp) ?_
      intro i hi; simp only [List.mem_cons, List.not_mem_nil, or_false] at hi; rcases hi with rfl | rfl
      · refine ⟨_, rfl, ?_⟩
        refine wcall0 (feed_First_con _ h28) Try.func14 (by kernel_rfl) rfl .nil rfl rfl ?_
        exact xpuse key86 ⟨b6, rfl⟩ ⟨(.cons rfl (.refl _) (.cons rfl (.refl _) (.cons rfl (.refl _) (.cons rfl (.refl _) (.cons rfl (.refl _) (.cons rfl (.refl _) (.nil _))))))), (SubM.of (.keep rfl rfl (.refl _) (.keep rfl rfl (.refl _) (.nil _))) (.nil _))⟩ rfl (by kernel_rfl)
      · refine ⟨_, rfl, ?_⟩
        refine walloc InfC.h rfl rfl fun b5 => ?_
        exact xpuse key87 ⟨b6, b5, rfl⟩ ⟨(.cons rfl (.refl _) (.cons rfl (.refl _) (.cons rfl (.refl _) (.cons rfl (.refl _) (.cons rfl (.refl _) (.cons rfl (.refl _) (.nil _))))))), by refine SubM.trans (SubM.mvB 2 rfl) ?_; refine SubM.trans (SubM.mvB 1 rfl) ?_; refine SubM.trans (SubM.mvB 2 rfl) ?_; (simp only [List.eraseIdx]); exact (SubM.of (by repeat (first | with_reducible exact SubB.refl _ | exact SubB.nil _ | refine SubB.keep rfl rfl (by first | with_reducible exact WkL.refl _ | ((repeat (first | exact WkL.nil | refine WkL.cons (by first | with_reducible exact Wk.refl _ | exact Wk.nil_own _ | exact Wk.nil_pl _ | with_reducible exact Wk.tok _ _ _ | exact Wk.tok _ _ _ | exact Wk.eq (by first | rfl | (simp []; done) | (simp []; omega))) ?_)); done) | exact WkL.refl _) ?_ | refine SubB.drop ?_)) (by repeat (first | exact SubT.nil _ | refine SubT.add ?_ | (refine SubT.keep ?_ ?_; focus (first | with_reducible rfl | (simp []; done))) | refine SubT.drop ?_)))⟩ rfl (by kernel_rfl)
    refine xpcut 10 #[false, true, false, false, false, false, false, false, true, true, false, false, false] (fun σ => ∃ (b6 : Nat), ∃ (b5 : Nat), σ = ⟨[(0, .sl 2 none (List.map E_palinode_api_File x1)), (3, .v (.pointer (some ⟨b3, 0, none⟩))), (5, .v (.pointer (some ⟨b5, 0, none⟩))), (6, .v (.pointer (some ⟨b6, 0, none⟩))), (20, .sl 2 none (List.map E_palinode_api_File x1))], [⟨b6, 42, [.v (.int .i64 0), .v (.int .i64 0), .v (.int .i64 0), .v (.int .i64 0), .v (.slice none 0 0)]⟩, ⟨b5, 36, [.v (.slice none 0 0), .v (.bool false)]⟩, ⟨b3, 25, [.v (.bool x2.1), .v (.bool x2.2.1), .v (.bool x2.2.2.1), .v (.bool x2.2.2.2.1), .sl 1 none (List.map es x2.2.2.2.2)]⟩], []⟩) ?_ (fun key91 => ?_)
    · rintro _ ⟨b6, b5, rfl⟩
      refine xpstepN (is := [0, 2]) (by kernel_rfl) (by simp) ?_
      intro i hi; simp only [List.mem_cons, List.not_mem_nil, or_false] at hi; rcases hi with rfl | rfl
      · refine ⟨_, rfl, ?_⟩
        refine wcall0 (feed_First_con _ h28) Try.func14 (by kernel_rfl) rfl .nil rfl rfl ?_
        refine xpvalE 2 [] rfl (qv_loadB 2 ShpC.h rfl rfl rfl rfl) rfl rfl (by kernel_rfl) (by kernel_rfl) (by kernel_rfl) (fun _ _ _ _ h => h) ?_
        exact xpuse key84 ⟨b6, b5, rfl⟩ ⟨(.cons rfl (.refl _) (.cons rfl (.refl _) (.cons rfl (.refl _) (.cons rfl (.refl _) (.cons rfl (.refl _) (.cons rfl (.refl _) (.cons rfl (.refl _) (.nil _)))))))), (SubM.of (.keep rfl rfl (.refl _) (.keep rfl rfl (.refl _) (.keep rfl rfl (.refl _) (.nil _)))) (.nil _))⟩ rfl (by kernel_rfl)
      · refine ⟨_, rfl, ?_⟩
        refine wval (qv_loadB 2 ShpC.h rfl rfl rfl rfl) rfl rfl ?_
        exact xpuse key87 ⟨b6, b5, rfl⟩ ⟨(.cons rfl (.refl _) (.cons rfl (.refl _) (.cons rfl (.refl _) (.cons rfl (.refl _) (.cons rfl (.refl _) (.cons rfl (.refl _) (.nil _))))))), (SubM.of (.keep rfl rfl (.refl _) (.keep rfl rfl (.refl _) (.keep rfl rfl (.refl _) (.nil _)))) (.nil _))⟩ rfl (by kernel_rfl)
    refine xpval 1 rfl (pv_move rfl) rfl rfl (by kernel_rfl) (by kernel_rfl) (by kernel_rfl) (fun _ _ _ _ h => h) ?_
    refine xpstepN (is := [0, 2, 8, 9]) (by kernel_rfl) (by simp) ?_
    intro i hi; simp only [List.mem_cons, List.not_mem_nil, or_false] at hi; rcases hi with rfl | rfl | rfl | rfl
    · refine ⟨_, rfl, ?_⟩
      refine wcall0 (feed_First_con _ h28) Try.func14 (by kernel_rfl) rfl .nil rfl rfl ?_
      refine xpvalE 2 [8, 9] rfl (qv_loadB 0 ShpC.h rfl rfl rfl rfl) rfl rfl (by kernel_rfl) (by kernel_rfl) (by kernel_rfl) (fun _ _ _ _ h => h) ?_
      exact xpuse key88 rfl ⟨(.cons rfl (.refl _) (.cons rfl (.refl _) (.cons rfl (.refl _) (.cons rfl (.refl _) (.cons rfl (.refl _) (.nil _)))))), (SubM.of (.keep rfl rfl (.refl _) (.nil _)) (.nil _))⟩ rfl (by kernel_rfl)
    · refine ⟨_, rfl, ?_⟩
      refine wval (qv_loadB 0 ShpC.h rfl rfl rfl rfl) rfl rfl ?_
      refine xpstepN (is := [0, 8, 9]) (by kernel_rfl) (by simp) ?_
      intro i hi; simp only [List.mem_cons, List.not_mem_nil, or_false] at hi; rcases hi with rfl | rfl | rfl
      · refine ⟨_, rfl, ?_⟩
        refine wcall0 (feed_First_con _ h28) Try.func14 (by kernel_rfl) rfl .nil rfl rfl ?_
        exact xpuse key88 rfl ⟨(.cons rfl (.refl _) (.cons rfl (.refl _) (.cons rfl (.refl _) (.cons rfl (.refl _) (.cons rfl (.refl _) (.nil _)))))), (SubM.of (.keep rfl rfl (.refl _) (.nil _)) (.nil _))⟩ rfl (by kernel_rfl)
      · refine ⟨_, rfl, ?_⟩
        refine walloc InfC.h rfl rfl fun b5 => ?_
        exact xpuse key89 ⟨b5, rfl⟩ ⟨(.cons rfl (.refl _) (.cons rfl (.refl _) (.cons rfl (.refl _) (.cons rfl (.refl _) (.cons rfl (.refl _) (.nil _)))))), (SubM.of (.keep rfl rfl (.refl _) (.keep rfl rfl (.refl _) (.nil _))) (.nil _))⟩ rfl (by kernel_rfl)
      · refine ⟨_, rfl, ?_⟩
        refine walloc InfC.h rfl rfl fun b6 => ?_
        exact xpuse key90 ⟨b6, rfl⟩ ⟨(.cons rfl (.refl _) (.cons rfl (.refl _) (.cons rfl (.refl _) (.cons rfl (.refl _) (.cons rfl (.refl _) (.nil _)))))), (SubM.of (.keep rfl rfl (.refl _) (.keep rfl rfl (.refl _) (.nil _))) (.nil _))⟩ rfl (by kernel_rfl)
    · refine ⟨_, rfl, ?_⟩
      refine walloc InfC.h rfl rfl fun b5 => ?_
      refine xpstepN (is := [0, 2, 9]) (by kernel_rfl) (by simp) ?_
      intro i hi; simp only [List.mem_cons, List.not_mem_nil, or_false] at hi; rcases hi with rfl | rfl | rfl
      · refine ⟨_, rfl, ?_⟩
        refine wcall0 (feed_First_con _ h28) Try.func14 (by kernel_rfl) rfl .nil rfl rfl ?_
        refine xpvalE 2 [9] rfl (qv_loadB 1 ShpC.h rfl rfl rfl rfl) rfl rfl (by kernel_rfl) (by kernel_rfl) (by kernel_rfl) (fun _ _ _ _ h => h) ?_
        exact xpuse key85 ⟨b5, rfl⟩ ⟨(.cons rfl (.refl _) (.cons rfl (.refl _) (.cons rfl (.refl _) (.cons rfl (.refl _) (.cons rfl (.refl _) (.cons rfl (.refl _) (.nil _))))))), (SubM.of (.keep rfl rfl (.refl _) (.keep rfl rfl (.refl _) (.nil _))) (.nil _))⟩ rfl (by kernel_rfl)
      · refine ⟨_, rfl, ?_⟩
        refine wval (qv_loadB 1 ShpC.h rfl rfl rfl rfl) rfl rfl ?_
        exact xpuse key89 ⟨b5, rfl⟩ ⟨(.cons rfl (.refl _) (.cons rfl (.refl _) (.cons rfl (.refl _) (.cons rfl (.refl _) (.cons rfl (.refl _) (.nil _)))))), (SubM.of (.keep rfl rfl (.refl _) (.keep rfl rfl (.refl _) (.nil _))) (.nil _))⟩ rfl (by kernel_rfl)
      · refine ⟨_, rfl, ?_⟩
        refine walloc InfC.h rfl rfl fun b6 => ?_
        exact xpuse key91 ⟨b6, b5, rfl⟩ ⟨(.cons rfl (.refl _) (.cons rfl (.refl _) (.cons rfl (.refl _) (.cons rfl (.refl _) (.cons rfl (.refl _) (.nil _)))))), (SubM.of (.keep rfl rfl (.refl _) (.keep rfl rfl (.refl _) (.keep rfl rfl (.refl _) (.nil _)))) (.nil _))⟩ rfl (by kernel_rfl)
    · refine ⟨_, rfl, ?_⟩
      refine walloc InfC.h rfl rfl fun b6 => ?_
      refine xpstepN (is := [0, 2, 8]) (by kernel_rfl) (by simp) ?_
      intro i hi; simp only [List.mem_cons, List.not_mem_nil, or_false] at hi; rcases hi with rfl | rfl | rfl
      · refine ⟨_, rfl, ?_⟩
        refine wcall0 (feed_First_con _ h28) Try.func14 (by kernel_rfl) rfl .nil rfl rfl ?_
        refine xpvalE 2 [8] rfl (qv_loadB 1 ShpC.h rfl rfl rfl rfl) rfl rfl (by kernel_rfl) (by kernel_rfl) (by kernel_rfl) (fun _ _ _ _ h => h) ?_
        exact xpuse key86 ⟨b6, rfl⟩ ⟨(.cons rfl (.refl _) (.cons rfl (.refl _) (.cons rfl (.refl _) (.cons rfl (.refl _) (.cons rfl (.refl _) (.cons rfl (.refl _) (.nil _))))))), (SubM.of (.keep rfl rfl (.refl _) (.keep rfl rfl (.refl _) (.nil _))) (.nil _))⟩ rfl (by kernel_rfl)
      · refine ⟨_, rfl, ?_⟩
        refine wval (qv_loadB 1 ShpC.h rfl rfl rfl rfl) rfl rfl ?_
        exact xpuse key90 ⟨b6, rfl⟩ ⟨(.cons rfl (.refl _) (.cons rfl (.refl _) (.cons rfl (.refl _) (.cons rfl (.refl _) (.cons rfl (.refl _) (.nil _)))))), (SubM.of (.keep rfl rfl (.refl _) (.keep rfl rfl (.refl _) (.nil _))) (.nil _))⟩ rfl (by kernel_rfl)
      · refine ⟨_, rfl, ?_⟩
        refine walloc InfC.h rfl rfl fun b5 => ?_
        exact xpuse key91 ⟨b6, b5, rfl⟩ ⟨(.cons rfl (.refl _) (.cons rfl (.refl _) (.cons rfl (.refl _) (.cons rfl (.refl _) (.cons rfl (.refl _) (.nil _)))))), by refine SubM.trans (SubM.mvB 2 rfl) ?_; refine SubM.trans (SubM.mvB 1 rfl) ?_; refine SubM.trans (SubM.mvB 2 rfl) ?_; (simp only [List.eraseIdx]); exact (SubM.of (by repeat (first | with_reducible exact SubB.refl _ | exact SubB.nil _ | refine SubB.keep rfl rfl (by first | with_reducible exact WkL.refl _ | ((repeat (first | exact WkL.nil | refine WkL.cons (by first | with_reducible exact Wk.refl _ | exact Wk.nil_own _ | exact Wk.nil_pl _ | with_reducible exact Wk.tok _ _ _ | exact Wk.tok _ _ _ | exact Wk.eq (by first | rfl | (simp []; done) | (simp []; omega))) ?_)); done) | exact WkL.refl _) ?_ | refine SubB.drop ?_)) (by repeat (first | exact SubT.nil _ | refine SubT.add ?_ | (refine SubT.keep ?_ ?_; focus (first | with_reducible rfl | (simp []; done))) | refine SubT.drop ?_)))⟩ rfl (by kernel_rfl)
end Go.Proofs.Ytihbljabeckgmaa
