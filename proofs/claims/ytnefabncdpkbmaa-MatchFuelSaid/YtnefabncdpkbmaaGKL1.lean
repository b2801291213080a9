/- What functions' texts ask for, and the walks that show it (printed by a program). -/
import Derived.Test.YtnefabncdpkbmaaGK
namespace Go.Proofs.Ytnefabncdpkbmaa
/-- palinodelaw11.MatchFuel -/
def palinodelaw11_MatchFuel_j2 (x70 : Bool) (r : Bool) : Prop :=
  r = x70
def palinodelaw11_MatchFuel_j1 (x1 : (List (Int × Int × Int × Int × Int × Int × (Arr 4 (UInt64)))) × Int) (x2 : List UInt8) (x3 : Int) (x4 : UInt16) (x24 : Bool) (r : Bool) : Prop :=
  ((x24 = true → ∃ y32 : Bool, palinodelaw11_awake_R y32 ∧ r = y32) ∧ (¬ (x24 = true) → ∃ y34 : ((Arr 10 (Int × Int))) × Bool × Int × Int, match_At_R x1 x2 x3 2000 y34 ∧ ((¬ (y34.2.2.2 = 0) → ∃ y42 : Bool, palinodelaw11_awake_R y42 ∧ r = y42) ∧ (¬ (¬ (y34.2.2.2 = 0)) → InR (2000 - y34.2.2.1) ∧ ∃ z45 : Int, z45 = IntKind.i64.wrap ((x4.toNat : Int)) ∧ InR ((2000 - y34.2.2.1) + z45) ∧ ∃ y48 : ((Arr 10 (Int × Int))) × Bool × Int × Int, match_At_R x1 x2 x3 ((2000 - y34.2.2.1) + z45) y48 ∧ InR ((2000 - y34.2.2.1) - 1) ∧ ∃ y51 : ((Arr 10 (Int × Int))) × Bool × Int × Int, match_At_R x1 x2 x3 ((2000 - y34.2.2.1) - 1) y51 ∧ ((1 ≤ (2000 - y34.2.2.1) → ((y48.2.2.2 = 0 → (((y34.1 : (Arr 10 (Int × Int))) = y48.1 → (((y34.2.1 == y48.2.1) = true → ∃ z80 : Int, z80 = IntKind.i64.wrap ((x4.toNat : Int)) ∧ ((y48.2.2.1 = z80 → ((((decide (y51.2.2.2 = 18)) == (decide (1 ≤ (2000 - y34.2.2.1)))) = true → ∃ y88 : Bool, palinodelaw11_awake_R y88 ∧ palinodelaw11_MatchFuel_j2 y88 r) ∧ (¬ (((decide (y51.2.2.2 = 18)) == (decide (1 ≤ (2000 - y34.2.2.1)))) = true) → palinodelaw11_MatchFuel_j2 false r))) ∧ (¬ (y48.2.2.1 = z80) → palinodelaw11_MatchFuel_j2 false r))) ∧ (¬ ((y34.2.1 == y48.2.1) = true) → palinodelaw11_MatchFuel_j2 false r))) ∧ (¬ ((y34.1 : (Arr 10 (Int × Int))) = y48.1) → palinodelaw11_MatchFuel_j2 false r))) ∧ (¬ (y48.2.2.2 = 0) → palinodelaw11_MatchFuel_j2 false r))) ∧ (¬ (1 ≤ (2000 - y34.2.2.1)) → palinodelaw11_MatchFuel_j2 false r))))))
def palinodelaw11_MatchFuel_R (x1 : (List (Int × Int × Int × Int × Int × Int × (Arr 4 (UInt64)))) × Int) (x2 : List UInt8) (x3 : Int) (x4 : UInt16) (r : Bool) : Prop :=
  palinodelaw11_MatchFuel_j1 x1 x2 x3 x4 ((decide (40 < (x1.1.length : Int))) || (decide (12 < (x2.length : Int)))) r
def palinodelaw11_MatchFuel_j2_ev (fuel : Nat) (x70 : Bool) : Option (Bool) :=
  some x70
theorem palinodelaw11_MatchFuel_j2_ok {fuel : Nat} {x70 : Bool} {r : Bool} (h : palinodelaw11_MatchFuel_j2_ev fuel x70 = some r) : palinodelaw11_MatchFuel_j2 x70 r := by
  unfold palinodelaw11_MatchFuel_j2_ev at h
  unfold palinodelaw11_MatchFuel_j2
  exact (Option.some.inj h).symm
def palinodelaw11_MatchFuel_j1_ev (fuel : Nat) (x1 : (List (Int × Int × Int × Int × Int × Int × (Arr 4 (UInt64)))) × Int) (x2 : List UInt8) (x3 : Int) (x4 : UInt16) (x24 : Bool) : Option (Bool) :=
  (if x24 = true then ((palinodelaw11_awake_ev fuel).bind fun y32 => some y32) else ((match_At_ev fuel x1 x2 x3 2000).bind fun y34 => (if ¬ (y34.2.2.2 = 0) then ((palinodelaw11_awake_ev fuel).bind fun y42 => some y42) else (if InR (2000 - y34.2.2.1) then ((some (IntKind.i64.wrap ((x4.toNat : Int)) : Int)).bind fun z45 => (if InR ((2000 - y34.2.2.1) + z45) then ((match_At_ev fuel x1 x2 x3 ((2000 - y34.2.2.1) + z45)).bind fun y48 => (if InR ((2000 - y34.2.2.1) - 1) then ((match_At_ev fuel x1 x2 x3 ((2000 - y34.2.2.1) - 1)).bind fun y51 => (if 1 ≤ (2000 - y34.2.2.1) then (if y48.2.2.2 = 0 then (if (y34.1 : (Arr 10 (Int × Int))) = y48.1 then (if (y34.2.1 == y48.2.1) = true then ((some (IntKind.i64.wrap ((x4.toNat : Int)) : Int)).bind fun z80 => (if y48.2.2.1 = z80 then (if ((decide (y51.2.2.2 = 18)) == (decide (1 ≤ (2000 - y34.2.2.1)))) = true then ((palinodelaw11_awake_ev fuel).bind fun y88 => palinodelaw11_MatchFuel_j2_ev fuel y88) else palinodelaw11_MatchFuel_j2_ev fuel false) else palinodelaw11_MatchFuel_j2_ev fuel false)) else palinodelaw11_MatchFuel_j2_ev fuel false) else palinodelaw11_MatchFuel_j2_ev fuel false) else palinodelaw11_MatchFuel_j2_ev fuel false) else palinodelaw11_MatchFuel_j2_ev fuel false)) else none)) else none)) else none))))
theorem palinodelaw11_MatchFuel_j1_ok {fuel : Nat} {x1 : (List (Int × Int × Int × Int × Int × Int × (Arr 4 (UInt64)))) × Int} {x2 : List UInt8} {x3 : Int} {x4 : UInt16} {x24 : Bool} {r : Bool} (h : palinodelaw11_MatchFuel_j1_ev fuel x1 x2 x3 x4 x24 = some r) : palinodelaw11_MatchFuel_j1 x1 x2 x3 x4 x24 r := by
  unfold palinodelaw11_MatchFuel_j1_ev at h
  unfold palinodelaw11_MatchFuel_j1
  refine ⟨fun g205 => ?_, fun g205 => ?_⟩
  · rw [if_pos g205] at h
    obtain ⟨q206, g206, h⟩ := bind_ok h
    refine ⟨q206, palinodelaw11_awake_ok g206, ?_⟩
    exact (Option.some.inj h).symm
  · rw [if_neg g205] at h
    obtain ⟨q207, g207, h⟩ := bind_ok h
    refine ⟨q207, match_At_ok g207, ?_⟩
    refine ⟨fun g208 => ?_, fun g208 => ?_⟩
    · rw [if_pos g208] at h
      obtain ⟨q209, g209, h⟩ := bind_ok h
      refine ⟨q209, palinodelaw11_awake_ok g209, ?_⟩
      exact (Option.some.inj h).symm
    · rw [if_neg g208] at h
      obtain ⟨g210, h⟩ := if_ok h
      refine ⟨g210, ?_⟩
      obtain ⟨q211, g211, h⟩ := bind_ok h
      refine ⟨q211, (Option.some.inj g211).symm, ?_⟩
      obtain ⟨g212, h⟩ := if_ok h
      refine ⟨g212, ?_⟩
      obtain ⟨q213, g213, h⟩ := bind_ok h
      refine ⟨q213, match_At_ok g213, ?_⟩
      obtain ⟨g214, h⟩ := if_ok h
      refine ⟨g214, ?_⟩
      obtain ⟨q215, g215, h⟩ := bind_ok h
      refine ⟨q215, match_At_ok g215, ?_⟩
      refine ⟨fun g216 => ?_, fun g216 => ?_⟩
      · rw [if_pos g216] at h
        refine ⟨fun g217 => ?_, fun g217 => ?_⟩
        · rw [if_pos g217] at h
          refine ⟨fun g218 => ?_, fun g218 => ?_⟩
          · rw [if_pos g218] at h
            refine ⟨fun g219 => ?_, fun g219 => ?_⟩
            · rw [if_pos g219] at h
              obtain ⟨q220, g220, h⟩ := bind_ok h
              refine ⟨q220, (Option.some.inj g220).symm, ?_⟩
              refine ⟨fun g221 => ?_, fun g221 => ?_⟩
              · rw [if_pos g221] at h
                refine ⟨fun g222 => ?_, fun g222 => ?_⟩
                · rw [if_pos g222] at h
                  obtain ⟨q223, g223, h⟩ := bind_ok h
                  refine ⟨q223, palinodelaw11_awake_ok g223, ?_⟩
                  exact palinodelaw11_MatchFuel_j2_ok h
                · rw [if_neg g222] at h
                  exact palinodelaw11_MatchFuel_j2_ok h
              · rw [if_neg g221] at h
                exact palinodelaw11_MatchFuel_j2_ok h
            · rw [if_neg g219] at h
              exact palinodelaw11_MatchFuel_j2_ok h
          · rw [if_neg g218] at h
            exact palinodelaw11_MatchFuel_j2_ok h
        · rw [if_neg g217] at h
          exact palinodelaw11_MatchFuel_j2_ok h
      · rw [if_neg g216] at h
        exact palinodelaw11_MatchFuel_j2_ok h
def palinodelaw11_MatchFuel_ev (fuel : Nat) (x1 : (List (Int × Int × Int × Int × Int × Int × (Arr 4 (UInt64)))) × Int) (x2 : List UInt8) (x3 : Int) (x4 : UInt16) : Option (Bool) :=
  palinodelaw11_MatchFuel_j1_ev fuel x1 x2 x3 x4 ((decide (40 < (x1.1.length : Int))) || (decide (12 < (x2.length : Int))))
theorem palinodelaw11_MatchFuel_ok {fuel : Nat} {x1 : (List (Int × Int × Int × Int × Int × Int × (Arr 4 (UInt64)))) × Int} {x2 : List UInt8} {x3 : Int} {x4 : UInt16} {r : Bool} (h : palinodelaw11_MatchFuel_ev fuel x1 x2 x3 x4 = some r) : palinodelaw11_MatchFuel_R x1 x2 x3 x4 r := by
  unfold palinodelaw11_MatchFuel_ev at h
  unfold palinodelaw11_MatchFuel_R
  exact palinodelaw11_MatchFuel_j1_ok h
set_option maxRecDepth 100000 in
set_option maxHeartbeats 4000000 in
theorem palinodelaw11_MatchFuel_con (x1 : (List (Int × Int × Int × Int × Int × Int × (Arr 4 (UInt64)))) × Int) (x2 : List UInt8) (x3 : Int) (x4 : UInt16) (r : Bool) (h : palinodelaw11_MatchFuel_R x1 x2 x3 x4 r) : Con Try.prog 5 [.agg [.sl 10 none (List.map E_palinode_api_Node x1.1), .v (.int .i64 x1.2)], .sl 1 none (List.map eb x2), .v (.int .i64 x3), .v (.int .u16 ((x4.toNat : Int)))] [] [] (Ret (.v (.bool r))) := by
  refine xenter Try.func5 rfl rfl fun g hg => ?_
  simp only [Try.ntmps5, slots]
  unfold palinodelaw11_MatchFuel_R at h
  refine xseq ?_
  refine xregion ?_
  refine xbox rfl rfl rfl rfl fun b4 => ?_
  refine xvalP (pv_assign rfl) rfl rfl ?_
  refine xnil ?_
  refine xthen ?_
  refine xseq ?_
  refine xseqM (fun σ => ∃ (x24 : Bool), palinodelaw11_MatchFuel_j1 x1 x2 x3 x4 x24 r ∧ σ = ⟨[(1, .sl 1 none (List.map eb x2)), (2, .v (.int .i64 x3)), (3, .v (.int .u16 ((x4.toNat : Int)))), (4, .v (.pointer (some ⟨b4, 0, none⟩))), (30, .v (.bool x24))], [⟨b4, 24, [.sl 10 none (List.map E_palinode_api_Node x1.1), .v (.int .i64 x1.2)]⟩], []⟩) ?_ ?_
  · refine xregion ?_
    refine xvalP (qv_fieldAddrB FldC.h rfl) rfl rfl ?_
    refine xval (qv_loadB 0 ShpC.h rfl rfl rfl rfl) rfl rfl ?_
    refine xvalP (pv_lenM UndC.h rfl) rfl rfl ?_
    refine xvalP (pv_bin2 rfl rfl rfl) rfl rfl ?_
    refine xvalP (pv_move rfl) rfl rfl ?_
    by_cases hp27 : 40 < (x1.1.length : Int)
    · rw [show (decide (40 < (x1.1.length : Int))) = true from (decide_eq_true hp27), Bool.true_or] at h
      refine xsetB 26 (decide_eq_true hp27) rfl ?_
      refine xskip rfl rfl ?_
      refine xskip rfl rfl ?_
      refine xskip rfl rfl ?_
      refine xvalP (pv_pick rfl rfl) rfl rfl ?_
      refine xnil ?_
      exact xmeet ⟨true, h, rfl⟩ ⟨(.cons rfl (.refl _) (.cons rfl (.refl _) (.cons rfl (.refl _) (.cons rfl (.refl _) (.cons rfl (.refl _) (.nil _)))))), (SubM.of (.keep rfl rfl (.refl _) (.nil _)) (.nil _))⟩
    · rw [show (decide (40 < (x1.1.length : Int))) = false from (decide_eq_false hp27), Bool.false_or] at h
      refine xsetB 26 (decide_eq_false hp27) rfl ?_
      refine xvalP (pv_move rfl) rfl rfl ?_
      refine xvalP (pv_lenM UndC.h rfl) rfl rfl ?_
      refine xvalP (pv_bin2 rfl rfl rfl) rfl rfl ?_
      refine xvalP (pv_pick rfl rfl) rfl rfl ?_
      refine xnil ?_
      exact xmeet ⟨(decide (12 < (x2.length : Int))), h, rfl⟩ ⟨(.cons rfl (.refl _) (.cons rfl (.refl _) (.cons rfl (.refl _) (.cons rfl (.refl _) (.cons rfl (.refl _) (.nil _)))))), (SubM.of (.keep rfl rfl (.refl _) (.nil _)) (.nil _))⟩
  · clear h
    rintro _ ⟨x24, h, rfl⟩
    by_cases hp30 : x24 = true
    · replace h := h.1 hp30
      refine xcondT' hp30 rfl ?_
      refine xseq ?_
      refine xregion ?_
      obtain ⟨y32, h31, h⟩ := h
      refine xcall0 (palinodelaw11_awake_con _ h31) Try.func7 (by kernel_rfl) rfl .nil rfl rfl ?_
      refine xvalP (pv_assign rfl) rfl rfl ?_
      refine xnil ?_
      refine xthen ?_
      refine xretc ?_
      refine xthen_ret ?_
      replace h := h.symm
      subst h
      exact xret1 hg rfl rfl (.refl _) (SubM.of (.nil _) (.nil _)) ⟨rfl, rfl, rfl⟩
    · replace h := h.2 hp30
      refine xcondF' (b_f hp30) rfl ?_
      refine xskipc ?_
      refine xthen ?_
      refine xseq ?_
      refine xregion ?_
      refine xval (qv_loadB 0 ShpC.h rfl rfl rfl rfl) rfl rfl ?_
      refine xvalP (pv_move rfl) rfl rfl ?_
      refine xvalP (pv_move rfl) rfl rfl ?_
      obtain ⟨y34, h33, h⟩ := h
      refine xcallF (Fb := [⟨b4, 24, [.sl 10 none (List.map E_palinode_api_Node x1.1), .v (.int .i64 x1.2)]⟩]) (Ft := []) (match_At_con x1 x2 x3 2000 _ h33) Try.func8 (by kernel_rfl) rfl (.cons rfl (.refl _) (.cons rfl (.refl _) (.cons rfl (.refl _) (.cons rfl (.refl _) .nil)))) (by exact sm_) rfl rfl ?_
      rintro _ _ _ ⟨rfl, rfl, rfl⟩
      simp only [List.nil_append, List.cons_append]
      refine xvalP (pv_move rfl) rfl rfl ?_
      refine xvalP (pv_extract rfl rfl) rfl rfl ?_
      refine xvalP (pv_extract rfl rfl) rfl rfl ?_
      refine xvalP (pv_extract rfl rfl) rfl rfl ?_
      refine xvalP (pv_extract rfl rfl) rfl rfl ?_
      refine xalloc InfC.h rfl rfl fun b9 => ?_
      refine xreb 0 ((List.map E_palinode_api_Span ((Arr.rep 10 (0, 0))).l).flatten) rfl rfl ?_
      refine xstoreQ 0 [] ((List.map E_palinode_api_Span ((Arr.rep 10 (0, 0))).l).flatten) [] ((List.map E_palinode_api_Span y34.1.l).flatten) ShpC.h rfl rfl rfl rfl rfl ?_
      refine xvalP (pv_assign rfl) rfl rfl ?_
      refine xvalP (pv_assign rfl) rfl rfl ?_
      refine xvalP (pv_assign rfl) rfl rfl ?_
      refine xnil ?_
      refine xthen ?_
      refine xseq ?_
      refine xseq ?_
      refine xregion ?_
      refine xvalP (pv_move rfl) rfl rfl ?_
      refine xvalP (pv_bin2 rfl rfl rfl) rfl rfl ?_
      refine xnil ?_
      refine xthen ?_
      by_cases hp40 : ¬ (y34.2.2.2 = 0)
      · replace h := h.1 hp40
        refine xcondT' (not_t (decide_eq_false hp40)) rfl ?_
        refine xseq ?_
        refine xregion ?_
        obtain ⟨y42, h41, h⟩ := h
        refine xcall0 (palinodelaw11_awake_con _ h41) Try.func7 (by kernel_rfl) rfl .nil rfl rfl ?_
        refine xvalP (pv_assign rfl) rfl rfl ?_
        refine xnil ?_
        refine xthen ?_
        refine xretc ?_
        refine xthen_ret ?_
        replace h := h.symm
        subst h
        exact xret1 hg rfl rfl (.refl _) (SubM.of (.nil _) (.nil _)) ⟨rfl, rfl, rfl⟩
      · replace h := h.2 hp40
        refine xcondF' (not_f (decide_eq_true (Decidable.of_not_not hp40))) rfl ?_
        refine xskipc ?_
        refine xthen ?_
        refine xseq ?_
        refine xregion ?_
        refine xvalP (pv_move rfl) rfl rfl ?_
        obtain ⟨h43, h⟩ := h
        refine xvalP (pv_subI h43 rfl rfl) rfl rfl ?_
        refine xvalP (pv_assign rfl) rfl rfl ?_
        refine xnil ?_
        refine xthen ?_
        refine xseq ?_
        refine xregion ?_
        refine xval (qv_loadB 1 ShpC.h rfl rfl rfl rfl) rfl rfl ?_
        refine xvalP (pv_move rfl) rfl rfl ?_
        refine xvalP (pv_move rfl) rfl rfl ?_
        refine xvalP (pv_move rfl) rfl rfl ?_
        refine xvalP (pv_move rfl) rfl rfl ?_
        obtain ⟨z45, h44, h⟩ := h
        refine xvalP (pv_convW h44 UndC.h UndC.h rfl) rfl rfl ?_
        obtain ⟨h46, h⟩ := h
        refine xvalP (pv_addI h46 rfl rfl) rfl rfl ?_
        obtain ⟨y48, h47, h⟩ := h
        refine xcallF (Fb := [⟨b9, 31, ((List.map E_palinode_api_Span y34.1.l).flatten)⟩, ⟨b4, 24, [.sl 10 none (List.map E_palinode_api_Node x1.1), .v (.int .i64 x1.2)]⟩]) (Ft := []) (match_At_con x1 x2 x3 ((2000 - y34.2.2.1) + z45) _ h47) Try.func8 (by kernel_rfl) rfl (.cons rfl (.refl _) (.cons rfl (.refl _) (.cons rfl (.refl _) (.cons rfl (.refl _) .nil)))) (by exact sm_) rfl rfl ?_
        rintro _ _ _ ⟨rfl, rfl, rfl⟩
        simp only [List.nil_append, List.cons_append]
        refine xvalP (pv_move rfl) rfl rfl ?_
        refine xvalP (pv_extract rfl rfl) rfl rfl ?_
        refine xvalP (pv_extract rfl rfl) rfl rfl ?_
        refine xvalP (pv_extract rfl rfl) rfl rfl ?_
        refine xvalP (pv_extract rfl rfl) rfl rfl ?_
        refine xalloc InfC.h rfl rfl fun b14 => ?_
        refine xreb 0 ((List.map E_palinode_api_Span ((Arr.rep 10 (0, 0))).l).flatten) rfl rfl ?_
        refine xstoreQ 0 [] ((List.map E_palinode_api_Span ((Arr.rep 10 (0, 0))).l).flatten) [] ((List.map E_palinode_api_Span y48.1.l).flatten) ShpC.h rfl rfl rfl rfl rfl ?_
        refine xvalP (pv_assign rfl) rfl rfl ?_
        refine xvalP (pv_assign rfl) rfl rfl ?_
        refine xvalP (pv_assign rfl) rfl rfl ?_
        refine xnil ?_
        refine xthen ?_
        refine xseq ?_
        refine xregion ?_
        refine xval (qv_loadB 2 ShpC.h rfl rfl rfl rfl) rfl rfl ?_
        refine xvalP (pv_move rfl) rfl rfl ?_
        refine xvalP (pv_move rfl) rfl rfl ?_
        refine xvalP (pv_move rfl) rfl rfl ?_
        obtain ⟨h49, h⟩ := h
        refine xvalP (pv_subI h49 rfl rfl) rfl rfl ?_
        obtain ⟨y51, h50, h⟩ := h
        refine xcallF (Fb := [⟨b14, 31, ((List.map E_palinode_api_Span y48.1.l).flatten)⟩, ⟨b9, 31, ((List.map E_palinode_api_Span y34.1.l).flatten)⟩, ⟨b4, 24, [.sl 10 none (List.map E_palinode_api_Node x1.1), .v (.int .i64 x1.2)]⟩]) (Ft := []) (match_At_con x1 x2 x3 ((2000 - y34.2.2.1) - 1) _ h50) Try.func8 (by kernel_rfl) rfl (.cons rfl (.refl _) (.cons rfl (.refl _) (.cons rfl (.refl _) (.cons rfl (.refl _) .nil)))) (by exact sm_) rfl rfl ?_
        rintro _ _ _ ⟨rfl, rfl, rfl⟩
        simp only [List.nil_append, List.cons_append]
        refine xvalP (pv_move rfl) rfl rfl ?_
        refine xvalP (pv_extract rfl rfl) rfl rfl ?_
        refine xvalP (pv_extract rfl rfl) rfl rfl ?_
        refine xvalP (pv_extract rfl rfl) rfl rfl ?_
        refine xvalP (pv_extract rfl rfl) rfl rfl ?_
        refine xalloc InfC.h rfl rfl fun b18 => ?_
        refine xreb 0 ((List.map E_palinode_api_Span ((Arr.rep 10 (0, 0))).l).flatten) rfl rfl ?_
        refine xstoreQ 0 [] ((List.map E_palinode_api_Span ((Arr.rep 10 (0, 0))).l).flatten) [] ((List.map E_palinode_api_Span y51.1.l).flatten) ShpC.h rfl rfl rfl rfl rfl ?_
        refine xvalP (pv_assign rfl) rfl rfl ?_
        refine xvalP (pv_assign rfl) rfl rfl ?_
        refine xvalP (pv_assign rfl) rfl rfl ?_
        refine xnil ?_
        refine xthen ?_
        refine xseqM (fun σ => ∃ (x70 : Bool), palinodelaw11_MatchFuel_j2 x70 r ∧ σ = ⟨[(8, .v (.bool x70))], [], []⟩) ?_ ?_
        · refine xregion ?_
          refine xvalP (pv_move rfl) rfl rfl ?_
          refine xvalP (pv_bin2 rfl rfl rfl) rfl rfl ?_
          refine xvalP (pv_move rfl) rfl rfl ?_
          by_cases hp72 : 1 ≤ (2000 - y34.2.2.1)
          · replace h := h.1 hp72
            refine xsetB 72 (decide_eq_true hp72) rfl ?_
            refine xvalP (pv_move rfl) rfl rfl ?_
            refine xvalP (pv_bin2 rfl rfl rfl) rfl rfl ?_
            refine xvalP (pv_pick rfl rfl) rfl rfl ?_
            refine xvalP (pv_move rfl) rfl rfl ?_
            by_cases hp74 : y48.2.2.2 = 0
            · replace h := h.1 hp74
              refine xsetB 76 (decide_eq_true hp74) rfl ?_
              refine xval (qv_loadP 2 [] ((List.map E_palinode_api_Span y34.1.l).flatten) [] sq_ sl_ sl_ (part_all (seg_lenE (by rfl))) ShpC.h rfl rfl) rfl rfl ?_
              refine xval (qv_loadP 1 [] ((List.map E_palinode_api_Span y48.1.l).flatten) [] sq_ sl_ sl_ (part_all (seg_lenE (by rfl))) ShpC.h rfl rfl) rfl rfl ?_
              refine xvalP (pv_eqAgg (f := E_palinode_api_Hit) (a := y34.1) (b := y48.1) eqc_31 (by decide) (by kernel_rfl) ev_ ev_) rfl rfl ?_
              refine xvalP (pv_pick rfl rfl) rfl rfl ?_
              refine xvalP (pv_move rfl) rfl rfl ?_
              by_cases hp76 : (y34.1 : (Arr 10 (Int × Int))) = y48.1
              · replace h := h.1 hp76
                refine xsetB 81 (decide_eq_true hp76) rfl ?_
                refine xvalP (pv_move rfl) rfl rfl ?_
                refine xvalP (pv_move rfl) rfl rfl ?_
                refine xvalP (pv_eqB UndC.h rfl rfl) rfl rfl ?_
                refine xvalP (pv_pick rfl rfl) rfl rfl ?_
                refine xvalP (pv_move rfl) rfl rfl ?_
                by_cases hp78 : (y34.2.1 == y48.2.1) = true
                · replace h := h.1 hp78
                  refine xsetB 86 hp78 rfl ?_
                  refine xvalP (pv_move rfl) rfl rfl ?_
                  refine xvalP (pv_move rfl) rfl rfl ?_
                  obtain ⟨z80, h79, h⟩ := h
                  refine xvalP (pv_convW h79 UndC.h UndC.h rfl) rfl rfl ?_
                  refine xvalP (pv_bin2 rfl rfl rfl) rfl rfl ?_
                  refine xvalP (pv_pick rfl rfl) rfl rfl ?_
                  refine xvalP (pv_move rfl) rfl rfl ?_
                  by_cases hp82 : y48.2.2.1 = z80
                  · replace h := h.1 hp82
                    refine xsetB 92 (decide_eq_true hp82) rfl ?_
                    refine xvalP (pv_move rfl) rfl rfl ?_
                    refine xvalP (pv_bin2 rfl rfl rfl) rfl rfl ?_
                    refine xvalP (pv_move rfl) rfl rfl ?_
                    refine xvalP (pv_bin2 rfl rfl rfl) rfl rfl ?_
                    refine xvalP (pv_eqB UndC.h rfl rfl) rfl rfl ?_
                    refine xvalP (pv_pick rfl rfl) rfl rfl ?_
                    refine xvalP (pv_move rfl) rfl rfl ?_
                    by_cases hp86 : ((decide (y51.2.2.2 = 18)) == (decide (1 ≤ (2000 - y34.2.2.1)))) = true
                    · replace h := h.1 hp86
                      refine xsetB 99 hp86 rfl ?_
                      obtain ⟨y88, h87, h⟩ := h
                      refine xcall0 (palinodelaw11_awake_con _ h87) Try.func7 (by kernel_rfl) rfl .nil rfl rfl ?_
                      refine xvalP (pv_pick rfl rfl) rfl rfl ?_
                      refine xvalP (pv_assign rfl) rfl rfl ?_
                      refine xnil ?_
                      exact xmeet ⟨y88, h, rfl⟩ ⟨(.cons rfl (.refl _) (.nil _)), (SubM.of (.nil _) (.nil _))⟩
                    · replace h := h.2 hp86
                      refine xsetB 99 (b_f hp86) rfl ?_
                      refine xskip rfl rfl ?_
                      refine xvalP (pv_pick rfl rfl) rfl rfl ?_
                      refine xvalP (pv_assign rfl) rfl rfl ?_
                      refine xnil ?_
                      exact xmeet ⟨false, h, rfl⟩ ⟨(.cons rfl (.refl _) (.nil _)), (SubM.of (.nil _) (.nil _))⟩
                  · replace h := h.2 hp82
                    refine xsetB 92 (decide_eq_false hp82) rfl ?_
                    refine xskip rfl rfl ?_
                    refine xskip rfl rfl ?_
                    refine xskip rfl rfl ?_
                    refine xskip rfl rfl ?_
                    refine xskip rfl rfl ?_
                    refine xvalP (pv_pick rfl rfl) rfl rfl ?_
                    refine xvalP (pv_move rfl) rfl rfl ?_
                    refine xskip rfl rfl ?_
                    refine xvalP (pv_pick rfl rfl) rfl rfl ?_
                    refine xvalP (pv_assign rfl) rfl rfl ?_
                    refine xnil ?_
                    exact xmeet ⟨false, h, rfl⟩ ⟨(.cons rfl (.refl _) (.nil _)), (SubM.of (.nil _) (.nil _))⟩
                · replace h := h.2 hp78
                  refine xsetB 86 (b_f hp78) rfl ?_
                  refine xskip rfl rfl ?_
                  refine xskip rfl rfl ?_
                  refine xskip rfl rfl ?_
                  refine xskip rfl rfl ?_
                  refine xvalP (pv_pick rfl rfl) rfl rfl ?_
                  refine xvalP (pv_move rfl) rfl rfl ?_
                  refine xskip rfl rfl ?_
                  refine xskip rfl rfl ?_
                  refine xskip rfl rfl ?_
                  refine xskip rfl rfl ?_
                  refine xskip rfl rfl ?_
                  refine xvalP (pv_pick rfl rfl) rfl rfl ?_
                  refine xvalP (pv_move rfl) rfl rfl ?_
                  refine xskip rfl rfl ?_
                  refine xvalP (pv_pick rfl rfl) rfl rfl ?_
                  refine xvalP (pv_assign rfl) rfl rfl ?_
                  refine xnil ?_
                  exact xmeet ⟨false, h, rfl⟩ ⟨(.cons rfl (.refl _) (.nil _)), (SubM.of (.nil _) (.nil _))⟩
              · replace h := h.2 hp76
                refine xsetB 81 (decide_eq_false hp76) rfl ?_
                refine xskip rfl rfl ?_
                refine xskip rfl rfl ?_
                refine xskip rfl rfl ?_
                refine xvalP (pv_pick rfl rfl) rfl rfl ?_
                refine xvalP (pv_move rfl) rfl rfl ?_
                refine xskip rfl rfl ?_
                refine xskip rfl rfl ?_
                refine xskip rfl rfl ?_
                refine xskip rfl rfl ?_
                refine xvalP (pv_pick rfl rfl) rfl rfl ?_
                refine xvalP (pv_move rfl) rfl rfl ?_
                refine xskip rfl rfl ?_
                refine xskip rfl rfl ?_
                refine xskip rfl rfl ?_
                refine xskip rfl rfl ?_
                refine xskip rfl rfl ?_
                refine xvalP (pv_pick rfl rfl) rfl rfl ?_
                refine xvalP (pv_move rfl) rfl rfl ?_
                refine xskip rfl rfl ?_
                refine xvalP (pv_pick rfl rfl) rfl rfl ?_
                refine xvalP (pv_assign rfl) rfl rfl ?_
                refine xnil ?_
                exact xmeet ⟨false, h, rfl⟩ ⟨(.cons rfl (.refl _) (.nil _)), (SubM.of (.nil _) (.nil _))⟩
            · replace h := h.2 hp74
              refine xsetB 76 (decide_eq_false hp74) rfl ?_
              refine xskip rfl rfl ?_
              refine xskip rfl rfl ?_
              refine xskip rfl rfl ?_
              refine xvalP (pv_pick rfl rfl) rfl rfl ?_
              refine xvalP (pv_move rfl) rfl rfl ?_
              refine xskip rfl rfl ?_
              refine xskip rfl rfl ?_
              refine xskip rfl rfl ?_
              refine xvalP (pv_pick rfl rfl) rfl rfl ?_
              refine xvalP (pv_move rfl) rfl rfl ?_
              refine xskip rfl rfl ?_
              refine xskip rfl rfl ?_
              refine xskip rfl rfl ?_
              refine xskip rfl rfl ?_
              refine xvalP (pv_pick rfl rfl) rfl rfl ?_
              refine xvalP (pv_move rfl) rfl rfl ?_
              refine xskip rfl rfl ?_
              refine xskip rfl rfl ?_
              refine xskip rfl rfl ?_
              refine xskip rfl rfl ?_
              refine xskip rfl rfl ?_
              refine xvalP (pv_pick rfl rfl) rfl rfl ?_
              refine xvalP (pv_move rfl) rfl rfl ?_
              refine xskip rfl rfl ?_
              refine xvalP (pv_pick rfl rfl) rfl rfl ?_
              refine xvalP (pv_assign rfl) rfl rfl ?_
              refine xnil ?_
              exact xmeet ⟨false, h, rfl⟩ ⟨(.cons rfl (.refl _) (.nil _)), (SubM.of (.nil _) (.nil _))⟩
          · replace h := h.2 hp72
            refine xsetB 72 (decide_eq_false hp72) rfl ?_
            refine xskip rfl rfl ?_
            refine xskip rfl rfl ?_
            refine xvalP (pv_pick rfl rfl) rfl rfl ?_
            refine xvalP (pv_move rfl) rfl rfl ?_
            refine xskip rfl rfl ?_
            refine xskip rfl rfl ?_
            refine xskip rfl rfl ?_
            refine xvalP (pv_pick rfl rfl) rfl rfl ?_
            refine xvalP (pv_move rfl) rfl rfl ?_
            refine xskip rfl rfl ?_
            refine xskip rfl rfl ?_
            refine xskip rfl rfl ?_
            refine xvalP (pv_pick rfl rfl) rfl rfl ?_
            refine xvalP (pv_move rfl) rfl rfl ?_
            refine xskip rfl rfl ?_
            refine xskip rfl rfl ?_
            refine xskip rfl rfl ?_
            refine xskip rfl rfl ?_
            refine xvalP (pv_pick rfl rfl) rfl rfl ?_
            refine xvalP (pv_move rfl) rfl rfl ?_
            refine xskip rfl rfl ?_
            refine xskip rfl rfl ?_
            refine xskip rfl rfl ?_
            refine xskip rfl rfl ?_
            refine xskip rfl rfl ?_
            refine xvalP (pv_pick rfl rfl) rfl rfl ?_
            refine xvalP (pv_move rfl) rfl rfl ?_
            refine xskip rfl rfl ?_
            refine xvalP (pv_pick rfl rfl) rfl rfl ?_
            refine xvalP (pv_assign rfl) rfl rfl ?_
            refine xnil ?_
            exact xmeet ⟨false, h, rfl⟩ ⟨(.cons rfl (.refl _) (.nil _)), (SubM.of (.nil _) (.nil _))⟩
        · clear h
          rintro _ ⟨x70, h, rfl⟩
          refine xretc ?_
          replace h := h.symm
          subst h
          exact xret1 hg rfl rfl (.refl _) (SubM.of (.nil _) (.nil _)) ⟨rfl, rfl, rfl⟩
end Go.Proofs.Ytnefabncdpkbmaa
