/- What functions' texts ask for, and the walks that show it (printed by a program). -/
import Derived.Test.YtnefabncdpkbmaaGK
namespace Go.Proofs.Ytnefabncdpkbmaa
/-- palinodelaw11.MatchSpans -/
def palinodelaw11_MatchSpans_j5 (x381 : Int) (ag3 : (Int) → Prop) (x503 : Bool) (r : Bool) : Prop :=
  ((x503 = true → r = false) ∧ (¬ (x503 = true) → InR (x381 + 1) ∧ ag3 (x381 + 1)))
def palinodelaw11_MatchSpans_j4 (x1 : (List (Int × Int × Int × Int × Int × Int × (Arr 4 (UInt64)))) × Int) (x381 : Int) (ag3 : (Int) → Prop) (y485 : Int × Int) (x3 : Int) (y33 : ((Arr 10 (Int × Int))) × Bool × Int × Int) (x489 : Bool) (r : Bool) : Prop :=
  ((¬ (x489 = true) → ((x1.2 < x381 → palinodelaw11_MatchSpans_j5 x381 ag3 true r) ∧ (¬ (x1.2 < x381) → ((y485.1 < x3 → palinodelaw11_MatchSpans_j5 x381 ag3 true r) ∧ (¬ (y485.1 < x3) → ((y485.2 < y485.1 → palinodelaw11_MatchSpans_j5 x381 ag3 true r) ∧ (¬ (y485.2 < y485.1) → (0 ≤ (0 : Int) ∧ (0 : Int) < 10) ∧ ∃ y512 : Int × Int, y33.1.l[(0 : Int).toNat]? = some y512 ∧ palinodelaw11_MatchSpans_j5 x381 ag3 (decide (y512.2 < y485.2)) r))))))) ∧ (¬ (¬ (x489 = true)) → palinodelaw11_MatchSpans_j5 x381 ag3 false r))
def palinodelaw11_MatchSpans_l3 (y33 : ((Arr 10 (Int × Int))) × Bool × Int × Int) (x1 : (List (Int × Int × Int × Int × Int × Int × (Arr 4 (UInt64)))) × Int) (x3 : Int) (ag3 : (Int) → Prop) (x381 : Int) (r : Bool) : Prop :=
  ((x381 < 10 → (0 ≤ (x381 : Int) ∧ (x381 : Int) < 10) ∧ ∃ y485 : Int × Int, y33.1.l[(x381 : Int).toNat]? = some y485 ∧ palinodelaw11_MatchSpans_j4 x1 x381 ag3 y485 x3 y33 ((decide (y485.1 = (-1))) && (decide (y485.2 = (-1)))) r) ∧ (¬ (x381 < 10) → ∃ y517 : Bool, palinodelaw11_awake_R y517 ∧ r = y517))
def palinodelaw11_MatchSpans_j2 (y33 : ((Arr 10 (Int × Int))) × Bool × Int × Int) (x3 : Int) (x2 : List UInt8) (x1 : (List (Int × Int × Int × Int × Int × Int × (Arr 4 (UInt64)))) × Int) (x50 : Bool) (r : Bool) : Prop :=
  ((x50 = true → (((y33.1 : (Arr 10 (Int × Int))) = (Arr.rep 10 (0, 0)) → ∃ y61 : Bool, palinodelaw11_awake_R y61 ∧ r = y61) ∧ (¬ ((y33.1 : (Arr 10 (Int × Int))) = (Arr.rep 10 (0, 0))) → r = false))) ∧ (¬ (x50 = true) → (0 ≤ (0 : Int) ∧ (0 : Int) < 10) ∧ ∃ y100 : Int × Int, y33.1.l[(0 : Int).toNat]? = some y100 ∧ ((¬ (y100.1 = x3) → r = false) ∧ (¬ (¬ (y100.1 = x3)) → (0 ≤ (0 : Int) ∧ (0 : Int) < 10) ∧ ∃ y104 : Int × Int, y33.1.l[(0 : Int).toNat]? = some y104 ∧ ((y104.2 < x3 → r = false) ∧ (¬ (y104.2 < x3) → (0 ≤ (0 : Int) ∧ (0 : Int) < 10) ∧ ∃ y108 : Int × Int, y33.1.l[(0 : Int).toNat]? = some y108 ∧ (((x2.length : Int) < y108.2 → r = false) ∧ (¬ ((x2.length : Int) < y108.2) → LoopR (fun ag3 s => palinodelaw11_MatchSpans_l3 y33 x1 x3 ag3 s r) 1))))))))
def palinodelaw11_MatchSpans_j1 (x1 : (List (Int × Int × Int × Int × Int × Int × (Arr 4 (UInt64)))) × Int) (x2 : List UInt8) (x3 : Int) (x23 : Bool) (r : Bool) : Prop :=
  ((x23 = true → ∃ y31 : Bool, palinodelaw11_awake_R y31 ∧ r = y31) ∧ (¬ (x23 = true) → ∃ y33 : ((Arr 10 (Int × Int))) × Bool × Int × Int, match_At_R x1 x2 x3 2000 y33 ∧ palinodelaw11_MatchSpans_j2 y33 x3 x2 x1 ((!(decide (y33.2.2.2 = 0))) || (!y33.2.1)) r))
def palinodelaw11_MatchSpans_R (x1 : (List (Int × Int × Int × Int × Int × Int × (Arr 4 (UInt64)))) × Int) (x2 : List UInt8) (x3 : Int) (r : Bool) : Prop :=
  palinodelaw11_MatchSpans_j1 x1 x2 x3 ((decide (40 < (x1.1.length : Int))) || (decide (12 < (x2.length : Int)))) r
def palinodelaw11_MatchSpans_j5_ev (fuel : Nat) (x381 : Int) (ag3e : (Int) → Option (Bool)) (x503 : Bool) : Option (Bool) :=
  (if x503 = true then some false else (if InR (x381 + 1) then ag3e (x381 + 1) else none))
theorem palinodelaw11_MatchSpans_j5_ok {fuel : Nat} {x381 : Int} {ag3 : (Int) → Prop} {ag3e : (Int) → Option (Bool)} {x503 : Bool} {r : Bool} (hagag3 : ∀ s, ag3e s = some r → ag3 s) (h : palinodelaw11_MatchSpans_j5_ev fuel x381 ag3e x503 = some r) : palinodelaw11_MatchSpans_j5 x381 ag3 x503 r := by
  unfold palinodelaw11_MatchSpans_j5_ev at h
  unfold palinodelaw11_MatchSpans_j5
  refine ⟨fun g224 => ?_, fun g224 => ?_⟩
  · rw [if_pos g224] at h
    exact (Option.some.inj h).symm
  · rw [if_neg g224] at h
    obtain ⟨g225, h⟩ := if_ok h
    refine ⟨g225, ?_⟩
    exact hagag3 _ h
def palinodelaw11_MatchSpans_j4_ev (fuel : Nat) (x1 : (List (Int × Int × Int × Int × Int × Int × (Arr 4 (UInt64)))) × Int) (x381 : Int) (ag3e : (Int) → Option (Bool)) (y485 : Int × Int) (x3 : Int) (y33 : ((Arr 10 (Int × Int))) × Bool × Int × Int) (x489 : Bool) : Option (Bool) :=
  (if ¬ (x489 = true) then (if x1.2 < x381 then palinodelaw11_MatchSpans_j5_ev fuel x381 ag3e true else (if y485.1 < x3 then palinodelaw11_MatchSpans_j5_ev fuel x381 ag3e true else (if y485.2 < y485.1 then palinodelaw11_MatchSpans_j5_ev fuel x381 ag3e true else (if (0 ≤ (0 : Int) ∧ (0 : Int) < 10) then ((y33.1.l[(0 : Int).toNat]?).bind fun y512 => palinodelaw11_MatchSpans_j5_ev fuel x381 ag3e (decide (y512.2 < y485.2))) else none)))) else palinodelaw11_MatchSpans_j5_ev fuel x381 ag3e false)
theorem palinodelaw11_MatchSpans_j4_ok {fuel : Nat} {x1 : (List (Int × Int × Int × Int × Int × Int × (Arr 4 (UInt64)))) × Int} {x381 : Int} {ag3 : (Int) → Prop} {ag3e : (Int) → Option (Bool)} {y485 : Int × Int} {x3 : Int} {y33 : ((Arr 10 (Int × Int))) × Bool × Int × Int} {x489 : Bool} {r : Bool} (hagag3 : ∀ s, ag3e s = some r → ag3 s) (h : palinodelaw11_MatchSpans_j4_ev fuel x1 x381 ag3e y485 x3 y33 x489 = some r) : palinodelaw11_MatchSpans_j4 x1 x381 ag3 y485 x3 y33 x489 r := by
  unfold palinodelaw11_MatchSpans_j4_ev at h
  unfold palinodelaw11_MatchSpans_j4
  refine ⟨fun g226 => ?_, fun g226 => ?_⟩
  · rw [if_pos g226] at h
    refine ⟨fun g227 => ?_, fun g227 => ?_⟩
    · rw [if_pos g227] at h
      exact palinodelaw11_MatchSpans_j5_ok hagag3 h
    · rw [if_neg g227] at h
      refine ⟨fun g228 => ?_, fun g228 => ?_⟩
      · rw [if_pos g228] at h
        exact palinodelaw11_MatchSpans_j5_ok hagag3 h
      · rw [if_neg g228] at h
        refine ⟨fun g229 => ?_, fun g229 => ?_⟩
        · rw [if_pos g229] at h
          exact palinodelaw11_MatchSpans_j5_ok hagag3 h
        · rw [if_neg g229] at h
          obtain ⟨g230, h⟩ := if_ok h
          refine ⟨g230, ?_⟩
          obtain ⟨q231, g231, h⟩ := bind_ok h
          refine ⟨q231, g231, ?_⟩
          exact palinodelaw11_MatchSpans_j5_ok hagag3 h
  · rw [if_neg g226] at h
    exact palinodelaw11_MatchSpans_j5_ok hagag3 h
def palinodelaw11_MatchSpans_l3_ev (fuel : Nat) (y33 : ((Arr 10 (Int × Int))) × Bool × Int × Int) (x1 : (List (Int × Int × Int × Int × Int × Int × (Arr 4 (UInt64)))) × Int) (x3 : Int) (ag3e : (Int) → Option (Bool)) (x381 : Int) : Option (Bool) :=
  (if x381 < 10 then (if (0 ≤ (x381 : Int) ∧ (x381 : Int) < 10) then ((y33.1.l[(x381 : Int).toNat]?).bind fun y485 => palinodelaw11_MatchSpans_j4_ev fuel x1 x381 ag3e y485 x3 y33 ((decide (y485.1 = (-1))) && (decide (y485.2 = (-1))))) else none) else ((palinodelaw11_awake_ev fuel).bind fun y517 => some y517))
theorem palinodelaw11_MatchSpans_l3_ok {fuel : Nat} {y33 : ((Arr 10 (Int × Int))) × Bool × Int × Int} {x1 : (List (Int × Int × Int × Int × Int × Int × (Arr 4 (UInt64)))) × Int} {x3 : Int} {ag3e : (Int) → Option (Bool)} {ag3 : (Int) → Prop} {x381 : Int} {r : Bool} (hagag3 : ∀ s, ag3e s = some r → ag3 s) (h : palinodelaw11_MatchSpans_l3_ev fuel y33 x1 x3 ag3e x381 = some r) : palinodelaw11_MatchSpans_l3 y33 x1 x3 ag3 x381 r := by
  unfold palinodelaw11_MatchSpans_l3_ev at h
  unfold palinodelaw11_MatchSpans_l3
  refine ⟨fun g232 => ?_, fun g232 => ?_⟩
  · rw [if_pos g232] at h
    obtain ⟨g233, h⟩ := if_ok h
    refine ⟨g233, ?_⟩
    obtain ⟨q234, g234, h⟩ := bind_ok h
    refine ⟨q234, g234, ?_⟩
    exact palinodelaw11_MatchSpans_j4_ok hagag3 h
  · rw [if_neg g232] at h
    obtain ⟨q235, g235, h⟩ := bind_ok h
    refine ⟨q235, palinodelaw11_awake_ok g235, ?_⟩
    exact (Option.some.inj h).symm
def palinodelaw11_MatchSpans_j2_ev (fuel : Nat) (y33 : ((Arr 10 (Int × Int))) × Bool × Int × Int) (x3 : Int) (x2 : List UInt8) (x1 : (List (Int × Int × Int × Int × Int × Int × (Arr 4 (UInt64)))) × Int) (x50 : Bool) : Option (Bool) :=
  (if x50 = true then (if (y33.1 : (Arr 10 (Int × Int))) = (Arr.rep 10 (0, 0)) then ((palinodelaw11_awake_ev fuel).bind fun y61 => some y61) else some false) else (if (0 ≤ (0 : Int) ∧ (0 : Int) < 10) then ((y33.1.l[(0 : Int).toNat]?).bind fun y100 => (if ¬ (y100.1 = x3) then some false else (if (0 ≤ (0 : Int) ∧ (0 : Int) < 10) then ((y33.1.l[(0 : Int).toNat]?).bind fun y104 => (if y104.2 < x3 then some false else (if (0 ≤ (0 : Int) ∧ (0 : Int) < 10) then ((y33.1.l[(0 : Int).toNat]?).bind fun y108 => (if (x2.length : Int) < y108.2 then some false else (loopE (fun ag3e s => palinodelaw11_MatchSpans_l3_ev fuel y33 x1 x3 ag3e s) fuel 1))) else none))) else none))) else none))
theorem palinodelaw11_MatchSpans_j2_ok {fuel : Nat} {y33 : ((Arr 10 (Int × Int))) × Bool × Int × Int} {x3 : Int} {x2 : List UInt8} {x1 : (List (Int × Int × Int × Int × Int × Int × (Arr 4 (UInt64)))) × Int} {x50 : Bool} {r : Bool} (h : palinodelaw11_MatchSpans_j2_ev fuel y33 x3 x2 x1 x50 = some r) : palinodelaw11_MatchSpans_j2 y33 x3 x2 x1 x50 r := by
  unfold palinodelaw11_MatchSpans_j2_ev at h
  unfold palinodelaw11_MatchSpans_j2
  refine ⟨fun g236 => ?_, fun g236 => ?_⟩
  · rw [if_pos g236] at h
    refine ⟨fun g237 => ?_, fun g237 => ?_⟩
    · rw [if_pos g237] at h
      obtain ⟨q238, g238, h⟩ := bind_ok h
      refine ⟨q238, palinodelaw11_awake_ok g238, ?_⟩
      exact (Option.some.inj h).symm
    · rw [if_neg g237] at h
      exact (Option.some.inj h).symm
  · rw [if_neg g236] at h
    obtain ⟨g239, h⟩ := if_ok h
    refine ⟨g239, ?_⟩
    obtain ⟨q240, g240, h⟩ := bind_ok h
    refine ⟨q240, g240, ?_⟩
    refine ⟨fun g241 => ?_, fun g241 => ?_⟩
    · rw [if_pos g241] at h
      exact (Option.some.inj h).symm
    · rw [if_neg g241] at h
      obtain ⟨g242, h⟩ := if_ok h
      refine ⟨g242, ?_⟩
      obtain ⟨q243, g243, h⟩ := bind_ok h
      refine ⟨q243, g243, ?_⟩
      refine ⟨fun g244 => ?_, fun g244 => ?_⟩
      · rw [if_pos g244] at h
        exact (Option.some.inj h).symm
      · rw [if_neg g244] at h
        obtain ⟨g245, h⟩ := if_ok h
        refine ⟨g245, ?_⟩
        obtain ⟨q246, g246, h⟩ := bind_ok h
        refine ⟨q246, g246, ?_⟩
        refine ⟨fun g247 => ?_, fun g247 => ?_⟩
        · rw [if_pos g247] at h
          exact (Option.some.inj h).symm
        · rw [if_neg g247] at h
          refine loopE_ok ?_ h
          intro ae ag s hag h
          exact palinodelaw11_MatchSpans_l3_ok hag h
def palinodelaw11_MatchSpans_j1_ev (fuel : Nat) (x1 : (List (Int × Int × Int × Int × Int × Int × (Arr 4 (UInt64)))) × Int) (x2 : List UInt8) (x3 : Int) (x23 : Bool) : Option (Bool) :=
  (if x23 = true then ((palinodelaw11_awake_ev fuel).bind fun y31 => some y31) else ((match_At_ev fuel x1 x2 x3 2000).bind fun y33 => palinodelaw11_MatchSpans_j2_ev fuel y33 x3 x2 x1 ((!(decide (y33.2.2.2 = 0))) || (!y33.2.1))))
theorem palinodelaw11_MatchSpans_j1_ok {fuel : Nat} {x1 : (List (Int × Int × Int × Int × Int × Int × (Arr 4 (UInt64)))) × Int} {x2 : List UInt8} {x3 : Int} {x23 : Bool} {r : Bool} (h : palinodelaw11_MatchSpans_j1_ev fuel x1 x2 x3 x23 = some r) : palinodelaw11_MatchSpans_j1 x1 x2 x3 x23 r := by
  unfold palinodelaw11_MatchSpans_j1_ev at h
  unfold palinodelaw11_MatchSpans_j1
  refine ⟨fun g248 => ?_, fun g248 => ?_⟩
  · rw [if_pos g248] at h
    obtain ⟨q249, g249, h⟩ := bind_ok h
    refine ⟨q249, palinodelaw11_awake_ok g249, ?_⟩
    exact (Option.some.inj h).symm
  · rw [if_neg g248] at h
    obtain ⟨q250, g250, h⟩ := bind_ok h
    refine ⟨q250, match_At_ok g250, ?_⟩
    exact palinodelaw11_MatchSpans_j2_ok h
def palinodelaw11_MatchSpans_ev (fuel : Nat) (x1 : (List (Int × Int × Int × Int × Int × Int × (Arr 4 (UInt64)))) × Int) (x2 : List UInt8) (x3 : Int) : Option (Bool) :=
  palinodelaw11_MatchSpans_j1_ev fuel x1 x2 x3 ((decide (40 < (x1.1.length : Int))) || (decide (12 < (x2.length : Int))))
theorem palinodelaw11_MatchSpans_ok {fuel : Nat} {x1 : (List (Int × Int × Int × Int × Int × Int × (Arr 4 (UInt64)))) × Int} {x2 : List UInt8} {x3 : Int} {r : Bool} (h : palinodelaw11_MatchSpans_ev fuel x1 x2 x3 = some r) : palinodelaw11_MatchSpans_R x1 x2 x3 r := by
  unfold palinodelaw11_MatchSpans_ev at h
  unfold palinodelaw11_MatchSpans_R
  exact palinodelaw11_MatchSpans_j1_ok h
set_option maxRecDepth 100000 in
set_option maxHeartbeats 4000000 in
theorem palinodelaw11_MatchSpans_con (x1 : (List (Int × Int × Int × Int × Int × Int × (Arr 4 (UInt64)))) × Int) (x2 : List UInt8) (x3 : Int) (r : Bool) (h : palinodelaw11_MatchSpans_R x1 x2 x3 r) : Con Try.prog 6 [.agg [.sl 10 none (List.map E_palinode_api_Node x1.1), .v (.int .i64 x1.2)], .sl 1 none (List.map eb x2), .v (.int .i64 x3)] [] [] (Ret (.v (.bool r))) := by
  refine xenter Try.func6 rfl rfl fun g hg => ?_
  simp only [Try.ntmps6, slots]
  unfold palinodelaw11_MatchSpans_R at h
  refine xseq ?_
  refine xregion ?_
  refine xbox rfl rfl rfl rfl fun b3 => ?_
  refine xvalP (pv_assign rfl) rfl rfl ?_
  refine xnil ?_
  refine xthen ?_
  refine xseq ?_
  refine xseqM (fun σ => ∃ (x23 : Bool), palinodelaw11_MatchSpans_j1 x1 x2 x3 x23 r ∧ σ = ⟨[(1, .sl 1 none (List.map eb x2)), (2, .v (.int .i64 x3)), (3, .v (.pointer (some ⟨b3, 0, none⟩))), (22, .v (.bool x23))], [⟨b3, 24, [.sl 10 none (List.map E_palinode_api_Node x1.1), .v (.int .i64 x1.2)]⟩], []⟩) ?_ ?_
  · refine xregion ?_
    refine xvalP (qv_fieldAddrB FldC.h rfl) rfl rfl ?_
    refine xval (qv_loadB 0 ShpC.h rfl rfl rfl rfl) rfl rfl ?_
    refine xvalP (pv_lenM UndC.h rfl) rfl rfl ?_
    refine xvalP (pv_bin2 rfl rfl rfl) rfl rfl ?_
    refine xvalP (pv_move rfl) rfl rfl ?_
    by_cases hp26 : 40 < (x1.1.length : Int)
    · rw [show (decide (40 < (x1.1.length : Int))) = true from (decide_eq_true hp26), Bool.true_or] at h
      refine xsetB 18 (decide_eq_true hp26) rfl ?_
      refine xskip rfl rfl ?_
      refine xskip rfl rfl ?_
      refine xskip rfl rfl ?_
      refine xvalP (pv_pick rfl rfl) rfl rfl ?_
      refine xnil ?_
      exact xmeet ⟨true, h, rfl⟩ ⟨(.cons rfl (.refl _) (.cons rfl (.refl _) (.cons rfl (.refl _) (.cons rfl (.refl _) (.nil _))))), (SubM.of (.keep rfl rfl (.refl _) (.nil _)) (.nil _))⟩
    · rw [show (decide (40 < (x1.1.length : Int))) = false from (decide_eq_false hp26), Bool.false_or] at h
      refine xsetB 18 (decide_eq_false hp26) rfl ?_
      refine xvalP (pv_move rfl) rfl rfl ?_
      refine xvalP (pv_lenM UndC.h rfl) rfl rfl ?_
      refine xvalP (pv_bin2 rfl rfl rfl) rfl rfl ?_
      refine xvalP (pv_pick rfl rfl) rfl rfl ?_
      refine xnil ?_
      exact xmeet ⟨(decide (12 < (x2.length : Int))), h, rfl⟩ ⟨(.cons rfl (.refl _) (.cons rfl (.refl _) (.cons rfl (.refl _) (.cons rfl (.refl _) (.nil _))))), (SubM.of (.keep rfl rfl (.refl _) (.nil _)) (.nil _))⟩
  · clear h
    rintro _ ⟨x23, h, rfl⟩
    by_cases hp29 : x23 = true
    · replace h := h.1 hp29
      refine xcondT' hp29 rfl ?_
      refine xseq ?_
      refine xregion ?_
      obtain ⟨y31, h30, h⟩ := h
      refine xcall0 (palinodelaw11_awake_con _ h30) Try.func7 (by kernel_rfl) rfl .nil rfl rfl ?_
      refine xvalP (pv_assign rfl) rfl rfl ?_
      refine xnil ?_
      refine xthen ?_
      refine xretc ?_
      refine xthen_ret ?_
      replace h := h.symm
      subst h
      exact xret1 hg rfl rfl (.refl _) (SubM.of (.nil _) (.nil _)) ⟨rfl, rfl, rfl⟩
    · replace h := h.2 hp29
      refine xcondF' (b_f hp29) rfl ?_
      refine xskipc ?_
      refine xthen ?_
      refine xseq ?_
      refine xregion ?_
      refine xval (qv_loadB 0 ShpC.h rfl rfl rfl rfl) rfl rfl ?_
      refine xvalP (pv_move rfl) rfl rfl ?_
      refine xvalP (pv_move rfl) rfl rfl ?_
      obtain ⟨y33, h32, h⟩ := h
      refine xcallF (Fb := [⟨b3, 24, [.sl 10 none (List.map E_palinode_api_Node x1.1), .v (.int .i64 x1.2)]⟩]) (Ft := []) (match_At_con x1 x2 x3 2000 _ h32) Try.func8 (by kernel_rfl) rfl (.cons rfl (.refl _) (.cons rfl (.refl _) (.cons rfl (.refl _) (.cons rfl (.refl _) .nil)))) (by exact sm_) rfl rfl ?_
      rintro _ _ _ ⟨rfl, rfl, rfl⟩
      simp only [List.nil_append, List.cons_append]
      refine xvalP (pv_move rfl) rfl rfl ?_
      refine xvalP (pv_extract rfl rfl) rfl rfl ?_
      refine xvalP (pv_extract rfl rfl) rfl rfl ?_
      refine xvalP (pv_extract rfl rfl) rfl rfl ?_
      refine xvalP (pv_extract rfl rfl) rfl rfl ?_
      refine xalloc InfC.h rfl rfl fun b7 => ?_
      refine xreb 0 ((List.map E_palinode_api_Span ((Arr.rep 10 (0, 0))).l).flatten) rfl rfl ?_
      refine xstoreQ 0 [] ((List.map E_palinode_api_Span ((Arr.rep 10 (0, 0))).l).flatten) [] ((List.map E_palinode_api_Span y33.1.l).flatten) ShpC.h rfl rfl rfl rfl rfl ?_
      refine xvalP (pv_assign rfl) rfl rfl ?_
      refine xvalP (pv_assign rfl) rfl rfl ?_
      refine xvalP (pv_assign rfl) rfl rfl ?_
      refine xnil ?_
      refine xthen ?_
      refine xseq ?_
      refine xseqM (fun σ => ∃ (x50 : Bool), palinodelaw11_MatchSpans_j2 y33 x3 x2 x1 x50 r ∧ σ = ⟨[(1, .sl 1 none (List.map eb x2)), (2, .v (.int .i64 x3)), (3, .v (.pointer (some ⟨b3, 0, none⟩))), (7, .v (.pointer (some ⟨b7, 0, none⟩))), (38, .v (.bool x50))], [⟨b7, 31, ((List.map E_palinode_api_Span y33.1.l).flatten)⟩, ⟨b3, 24, [.sl 10 none (List.map E_palinode_api_Node x1.1), .v (.int .i64 x1.2)]⟩], []⟩) ?_ ?_
      · refine xregion ?_
        refine xvalP (pv_move rfl) rfl rfl ?_
        refine xvalP (pv_bin2 rfl rfl rfl) rfl rfl ?_
        refine xvalP (pv_move rfl) rfl rfl ?_
        by_cases hp52 : ¬ (y33.2.2.2 = 0)
        · rw [show (!(decide (y33.2.2.2 = 0))) = true from (not_t (decide_eq_false hp52)), Bool.true_or] at h
          refine xsetB 35 (not_t (decide_eq_false hp52)) rfl ?_
          refine xskip rfl rfl ?_
          refine xskip rfl rfl ?_
          refine xvalP (pv_pick rfl rfl) rfl rfl ?_
          refine xnil ?_
          exact xmeet ⟨true, h, rfl⟩ ⟨(.cons rfl (.refl _) (.cons rfl (.refl _) (.cons rfl (.refl _) (.cons rfl (.refl _) (.cons rfl (.refl _) (.nil _)))))), (SubM.of (.keep rfl rfl (.refl _) (.keep rfl rfl (.refl _) (.nil _))) (.nil _))⟩
        · rw [show (!(decide (y33.2.2.2 = 0))) = false from (not_f (decide_eq_true (Decidable.of_not_not hp52))), Bool.false_or] at h
          refine xsetB 35 (not_f (decide_eq_true (Decidable.of_not_not hp52))) rfl ?_
          refine xvalP (pv_move rfl) rfl rfl ?_
          refine xvalP (pv_not rfl) rfl rfl ?_
          refine xvalP (pv_pick rfl rfl) rfl rfl ?_
          refine xnil ?_
          exact xmeet ⟨(!y33.2.1), h, rfl⟩ ⟨(.cons rfl (.refl _) (.cons rfl (.refl _) (.cons rfl (.refl _) (.cons rfl (.refl _) (.cons rfl (.refl _) (.nil _)))))), (SubM.of (.keep rfl rfl (.refl _) (.keep rfl rfl (.refl _) (.nil _))) (.nil _))⟩
      · clear h
        rintro _ ⟨x50, h, rfl⟩
        by_cases hp53 : x50 = true
        · replace h := h.1 hp53
          refine xcondT' hp53 rfl ?_
          refine xseq ?_
          refine xregion ?_
          refine xval (qv_loadP 0 [] ((List.map E_palinode_api_Span y33.1.l).flatten) [] sq_ sl_ sl_ (part_all (seg_lenE (by rfl))) ShpC.h rfl rfl) rfl rfl ?_
          refine xvalP (pv_buildC (cs := ((List.map E_palinode_api_Span ((Arr.rep 10 (0, 0))).l).flatten)) StrC.h rfl (by exact congrArg some sq_)) rfl rfl ?_
          refine xvalP (pv_eqAgg (f := E_palinode_api_Hit) (a := y33.1) (b := (Arr.rep 10 (0, 0))) eqc_31 (by decide) (by kernel_rfl) ev_ ev_) rfl rfl ?_
          refine xvalP (pv_move rfl) rfl rfl ?_
          by_cases hp59 : (y33.1 : (Arr 10 (Int × Int))) = (Arr.rep 10 (0, 0))
          · replace h := h.1 hp59
            refine xsetB 42 (decide_eq_true hp59) rfl ?_
            obtain ⟨y61, h60, h⟩ := h
            refine xcall0 (palinodelaw11_awake_con _ h60) Try.func7 (by kernel_rfl) rfl .nil rfl rfl ?_
            refine xvalP (pv_pick rfl rfl) rfl rfl ?_
            refine xvalP (pv_assign rfl) rfl rfl ?_
            refine xnil ?_
            refine xthen ?_
            refine xretc ?_
            refine xthen_ret ?_
            replace h := h.symm
            subst h
            exact xret1 hg rfl rfl (.refl _) (SubM.of (.nil _) (.nil _)) ⟨rfl, rfl, rfl⟩
          · replace h := h.2 hp59
            refine xsetB 42 (decide_eq_false hp59) rfl ?_
            refine xskip rfl rfl ?_
            refine xvalP (pv_pick rfl rfl) rfl rfl ?_
            refine xvalP (pv_assign rfl) rfl rfl ?_
            refine xnil ?_
            refine xthen ?_
            refine xretc ?_
            refine xthen_ret ?_
            replace h := h.symm
            subst h
            exact xret1 hg rfl rfl (.refl _) (SubM.of (.nil _) (.nil _)) ⟨rfl, rfl, rfl⟩
        · replace h := h.2 hp53
          refine xcondF' (b_f hp53) rfl ?_
          refine xskipc ?_
          refine xthen ?_
          refine xseq ?_
          refine xseq ?_
          refine xregion ?_
          refine xvalP (qv_fieldAddrB FldC.h rfl) rfl rfl ?_
          obtain ⟨h99, h⟩ := h
          obtain ⟨y100, h99b, h⟩ := h
          refine xvalP (pv_indexAddrBA h99 UndC.h ShpC.h rfl rfl) rfl rfl ?_
          refine xvalP (qv_fieldAddrB FldC.h rfl) rfl rfl ?_
          refine xval (qv_loadA (f := E_palinode_api_Span) (a := y33.1) (k := 2) (off := 0) (i := (0 : Int).toNat) 0 [] [] h99b sq_ so_ (by decide) rfl ShpC.h rfl rfl) rfl rfl ?_
          refine xvalP (pv_move rfl) rfl rfl ?_
          refine xvalP (pv_bin2 rfl rfl rfl) rfl rfl ?_
          refine xvalP (pv_move rfl) rfl rfl ?_
          by_cases hp102 : ¬ (y100.1 = x3)
          · replace h := h.1 hp102
            refine xsetB 51 (not_t (decide_eq_false hp102)) rfl ?_
            refine xskip rfl rfl ?_
            refine xskip rfl rfl ?_
            refine xskip rfl rfl ?_
            refine xskip rfl rfl ?_
            refine xskip rfl rfl ?_
            refine xskip rfl rfl ?_
            refine xvalP (pv_pick rfl rfl) rfl rfl ?_
            refine xvalP (pv_move rfl) rfl rfl ?_
            refine xskip rfl rfl ?_
            refine xskip rfl rfl ?_
            refine xskip rfl rfl ?_
            refine xskip rfl rfl ?_
            refine xskip rfl rfl ?_
            refine xskip rfl rfl ?_
            refine xskip rfl rfl ?_
            refine xvalP (pv_pick rfl rfl) rfl rfl ?_
            refine xnil ?_
            refine xthen ?_
            refine xcondT rfl ?_
            refine xseq ?_
            refine xregion ?_
            refine xvalP (pv_assign rfl) rfl rfl ?_
            refine xnil ?_
            refine xthen ?_
            refine xretc ?_
            refine xthen_ret ?_
            replace h := h.symm
            subst h
            exact xret1 hg rfl rfl (.refl _) (SubM.of (.nil _) (.nil _)) ⟨rfl, rfl, rfl⟩
          · replace h := h.2 hp102
            refine xsetB 51 (not_f (decide_eq_true (Decidable.of_not_not hp102))) rfl ?_
            refine xvalP (qv_fieldAddrB FldC.h rfl) rfl rfl ?_
            obtain ⟨h103, h⟩ := h
            obtain ⟨y104, h103b, h⟩ := h
            refine xvalP (pv_indexAddrBA h103 UndC.h ShpC.h rfl rfl) rfl rfl ?_
            refine xvalP (qv_fieldAddrB FldC.h rfl) rfl rfl ?_
            refine xval (qv_loadA (f := E_palinode_api_Span) (a := y33.1) (k := 2) (off := 1) (i := (0 : Int).toNat) 0 [] [] h103b sq_ so_ (by decide) rfl ShpC.h rfl rfl) rfl rfl ?_
            refine xvalP (pv_move rfl) rfl rfl ?_
            refine xvalP (pv_bin2 rfl rfl rfl) rfl rfl ?_
            refine xvalP (pv_pick rfl rfl) rfl rfl ?_
            refine xvalP (pv_move rfl) rfl rfl ?_
            by_cases hp106 : y104.2 < x3
            · replace h := h.1 hp106
              refine xsetB 59 (decide_eq_true hp106) rfl ?_
              refine xskip rfl rfl ?_
              refine xskip rfl rfl ?_
              refine xskip rfl rfl ?_
              refine xskip rfl rfl ?_
              refine xskip rfl rfl ?_
              refine xskip rfl rfl ?_
              refine xskip rfl rfl ?_
              refine xvalP (pv_pick rfl rfl) rfl rfl ?_
              refine xnil ?_
              refine xthen ?_
              refine xcondT rfl ?_
              refine xseq ?_
              refine xregion ?_
              refine xvalP (pv_assign rfl) rfl rfl ?_
              refine xnil ?_
              refine xthen ?_
              refine xretc ?_
              refine xthen_ret ?_
              replace h := h.symm
              subst h
              exact xret1 hg rfl rfl (.refl _) (SubM.of (.nil _) (.nil _)) ⟨rfl, rfl, rfl⟩
            · replace h := h.2 hp106
              refine xsetB 59 (decide_eq_false hp106) rfl ?_
              refine xvalP (qv_fieldAddrB FldC.h rfl) rfl rfl ?_
              obtain ⟨h107, h⟩ := h
              obtain ⟨y108, h107b, h⟩ := h
              refine xvalP (pv_indexAddrBA h107 UndC.h ShpC.h rfl rfl) rfl rfl ?_
              refine xvalP (qv_fieldAddrB FldC.h rfl) rfl rfl ?_
              refine xval (qv_loadA (f := E_palinode_api_Span) (a := y33.1) (k := 2) (off := 1) (i := (0 : Int).toNat) 0 [] [] h107b sq_ so_ (by decide) rfl ShpC.h rfl rfl) rfl rfl ?_
              refine xvalP (pv_move rfl) rfl rfl ?_
              refine xvalP (pv_lenM UndC.h rfl) rfl rfl ?_
              refine xvalP (pv_bin2 rfl rfl rfl) rfl rfl ?_
              refine xvalP (pv_pick rfl rfl) rfl rfl ?_
              refine xnil ?_
              refine xthen ?_
              by_cases hp111 : (x2.length : Int) < y108.2
              · replace h := h.1 hp111
                refine xcondT' (decide_eq_true hp111) rfl ?_
                refine xseq ?_
                refine xregion ?_
                refine xvalP (pv_assign rfl) rfl rfl ?_
                refine xnil ?_
                refine xthen ?_
                refine xretc ?_
                refine xthen_ret ?_
                replace h := h.symm
                subst h
                exact xret1 hg rfl rfl (.refl _) (SubM.of (.nil _) (.nil _)) ⟨rfl, rfl, rfl⟩
              · replace h := h.2 hp111
                refine xcondF' (decide_eq_false hp111) rfl ?_
                refine xskipc ?_
                refine xthen ?_
                refine xseq ?_
                refine xseq ?_
                refine xregion ?_
                refine xvalP (pv_assign rfl) rfl rfl ?_
                refine xnil ?_
                refine xthen ?_
                refine xblock ?_
                obtain ⟨Inv, ⟨m0, hI⟩, hS⟩ := h
                refine xloop (fun σ m => ∃ (x381 : Int), Inv x381 m ∧ σ = ⟨[(2, .v (.int .i64 x3)), (3, .v (.pointer (some ⟨b3, 0, none⟩))), (7, .v (.pointer (some ⟨b7, 0, none⟩))), (11, .v (.int .i64 x381))], [⟨b7, 31, ((List.map E_palinode_api_Span y33.1.l).flatten)⟩, ⟨b3, 24, [.sl 10 none (List.map E_palinode_api_Node x1.1), .v (.int .i64 x1.2)]⟩], []⟩) ⟨1, hI, rfl⟩ ⟨(.cons rfl (.refl _) (.cons rfl (.refl _) (.cons rfl (.refl _) (.cons rfl (.refl _) (.nil _))))), (SubM.of (.keep rfl rfl (.refl _) (.keep rfl rfl (.refl _) (.nil _))) (.nil _))⟩ ?_
                rintro _ m ⟨x381, hI, rfl⟩
                obtain ⟨ag3, hag3, h⟩ : ∃ ag, (∀ s', ag s' → ∃ m', m' < m ∧ Inv s' m') ∧ palinodelaw11_MatchSpans_l3 y33 x1 x3 ag x381 r := ⟨_, fun _ h => h, hS x381 _ hI⟩
                clear hS hI
                refine xseq ?_
                refine xseq ?_
                refine xregion ?_
                refine xvalP (pv_move rfl) rfl rfl ?_
                refine xvalP (pv_bin2 rfl rfl rfl) rfl rfl ?_
                refine xnil ?_
                refine xthen ?_
                by_cases hp452 : x381 < 10
                · replace h := h.1 hp452
                  refine xcondT' (decide_eq_true hp452) rfl ?_
                  refine xskipc ?_
                  refine xthen ?_
                  refine xseq ?_
                  refine xblock ?_
                  refine xseq ?_
                  refine xregion ?_
                  refine xvalP (pv_move rfl) rfl rfl ?_
                  refine xvalP (qv_fieldAddrB FldC.h rfl) rfl rfl ?_
                  obtain ⟨h484, h⟩ := h
                  obtain ⟨y485, h484b, h⟩ := h
                  refine xvalP (pv_indexAddrBA h484 UndC.h ShpC.h rfl rfl) rfl rfl ?_
                  refine xval (qv_loadA (f := E_palinode_api_Span) (a := y33.1) (k := 2) (off := 0) (i := (x381 : Int).toNat) 0 [] [] h484b sq_ so_ (by decide) (by first | rfl | exact part_all sl_) ShpC.h rfl rfl) rfl rfl ?_
                  refine xalloc InfC.h rfl rfl fun b12 => ?_
                  refine xstore 0 ShpC.h rfl rfl rfl rfl rfl rfl rfl ?_
                  refine xnil ?_
                  refine xthen ?_
                  refine xseqM (fun σ => ∃ (x489 : Bool), palinodelaw11_MatchSpans_j4 x1 x381 ag3 y485 x3 y33 x489 r ∧ σ = ⟨[(2, .v (.int .i64 x3)), (3, .v (.pointer (some ⟨b3, 0, none⟩))), (7, .v (.pointer (some ⟨b7, 0, none⟩))), (11, .v (.int .i64 x381)), (12, .v (.pointer (some ⟨b12, 0, none⟩))), (13, .v (.bool x489))], [⟨b12, 28, [.v (.int .i64 y485.1), .v (.int .i64 y485.2)]⟩, ⟨b7, 31, ((List.map E_palinode_api_Span y33.1.l).flatten)⟩, ⟨b3, 24, [.sl 10 none (List.map E_palinode_api_Node x1.1), .v (.int .i64 x1.2)]⟩], []⟩) ?_ ?_
                  · refine xregion ?_
                    refine xvalP (qv_fieldAddrB FldC.h rfl) rfl rfl ?_
                    refine xval (qv_loadB 0 ShpC.h rfl rfl rfl rfl) rfl rfl ?_
                    refine xvalP (pv_bin2 rfl rfl rfl) rfl rfl ?_
                    refine xvalP (pv_move rfl) rfl rfl ?_
                    by_cases hp491 : y485.1 = (-1)
                    · rw [show (decide (y485.1 = (-1))) = true from (decide_eq_true hp491), Bool.true_and] at h
                      refine xsetB 79 (decide_eq_true hp491) rfl ?_
                      refine xvalP (qv_fieldAddrB FldC.h rfl) rfl rfl ?_
                      refine xval (qv_loadB 0 ShpC.h rfl rfl rfl rfl) rfl rfl ?_
                      refine xvalP (pv_bin2 rfl rfl rfl) rfl rfl ?_
                      refine xvalP (pv_pick rfl rfl) rfl rfl ?_
                      refine xvalP (pv_assign rfl) rfl rfl ?_
                      refine xnil ?_
                      exact xmeet ⟨(decide (y485.2 = (-1))), h, rfl⟩ ⟨(.cons rfl (.refl _) (.cons rfl (.refl _) (.cons rfl (.refl _) (.cons rfl (.refl _) (.cons rfl (.refl _) (.cons rfl (.refl _) (.nil _))))))), (SubM.of (.keep rfl rfl (.refl _) (.keep rfl rfl (.refl _) (.keep rfl rfl (.refl _) (.nil _)))) (.nil _))⟩
                    · rw [show (decide (y485.1 = (-1))) = false from (decide_eq_false hp491), Bool.false_and] at h
                      refine xsetB 79 (decide_eq_false hp491) rfl ?_
                      refine xskip rfl rfl ?_
                      refine xskip rfl rfl ?_
                      refine xskip rfl rfl ?_
                      refine xvalP (pv_pick rfl rfl) rfl rfl ?_
                      refine xvalP (pv_assign rfl) rfl rfl ?_
                      refine xnil ?_
                      exact xmeet ⟨false, h, rfl⟩ ⟨(.cons rfl (.refl _) (.cons rfl (.refl _) (.cons rfl (.refl _) (.cons rfl (.refl _) (.cons rfl (.refl _) (.cons rfl (.refl _) (.nil _))))))), (SubM.of (.keep rfl rfl (.refl _) (.keep rfl rfl (.refl _) (.keep rfl rfl (.refl _) (.nil _)))) (.nil _))⟩
                  · clear h
                    rintro _ ⟨x489, h, rfl⟩
                    refine xseqM (fun σ => ∃ (x503 : Bool), palinodelaw11_MatchSpans_j5 x381 ag3 x503 r ∧ σ = ⟨[(2, .v (.int .i64 x3)), (3, .v (.pointer (some ⟨b3, 0, none⟩))), (7, .v (.pointer (some ⟨b7, 0, none⟩))), (11, .v (.int .i64 x381)), (113, .v (.bool x503))], [⟨b7, 31, ((List.map E_palinode_api_Span y33.1.l).flatten)⟩, ⟨b3, 24, [.sl 10 none (List.map E_palinode_api_Node x1.1), .v (.int .i64 x1.2)]⟩], []⟩) ?_ ?_
                    · refine xregion ?_
                      refine xvalP (pv_move rfl) rfl rfl ?_
                      refine xvalP (pv_not rfl) rfl rfl ?_
                      refine xvalP (pv_move rfl) rfl rfl ?_
                      by_cases hp504 : ¬ (x489 = true)
                      · replace h := h.1 hp504
                        refine xsetB 86 (not_t (b_f hp504)) rfl ?_
                        refine xvalP (pv_move rfl) rfl rfl ?_
                        refine xvalP (qv_fieldAddrB FldC.h rfl) rfl rfl ?_
                        refine xval (qv_loadB 2 ShpC.h rfl rfl rfl rfl) rfl rfl ?_
                        refine xvalP (pv_bin2 rfl rfl rfl) rfl rfl ?_
                        refine xvalP (pv_move rfl) rfl rfl ?_
                        by_cases hp506 : x1.2 < x381
                        · replace h := h.1 hp506
                          refine xsetB 91 (decide_eq_true hp506) rfl ?_
                          refine xskip rfl rfl ?_
                          refine xskip rfl rfl ?_
                          refine xskip rfl rfl ?_
                          refine xskip rfl rfl ?_
                          refine xvalP (pv_pick rfl rfl) rfl rfl ?_
                          refine xvalP (pv_move rfl) rfl rfl ?_
                          refine xskip rfl rfl ?_
                          refine xskip rfl rfl ?_
                          refine xskip rfl rfl ?_
                          refine xskip rfl rfl ?_
                          refine xskip rfl rfl ?_
                          refine xvalP (pv_pick rfl rfl) rfl rfl ?_
                          refine xvalP (pv_move rfl) rfl rfl ?_
                          refine xskip rfl rfl ?_
                          refine xskip rfl rfl ?_
                          refine xskip rfl rfl ?_
                          refine xskip rfl rfl ?_
                          refine xskip rfl rfl ?_
                          refine xskip rfl rfl ?_
                          refine xskip rfl rfl ?_
                          refine xvalP (pv_pick rfl rfl) rfl rfl ?_
                          refine xvalP (pv_pick rfl rfl) rfl rfl ?_
                          refine xnil ?_
                          exact xmeet ⟨true, h, rfl⟩ ⟨(.cons rfl (.refl _) (.cons rfl (.refl _) (.cons rfl (.refl _) (.cons rfl (.refl _) (.cons rfl (.refl _) (.nil _)))))), (SubM.of (.drop (.keep rfl rfl (.refl _) (.keep rfl rfl (.refl _) (.nil _)))) (.nil _))⟩
                        · replace h := h.2 hp506
                          refine xsetB 91 (decide_eq_false hp506) rfl ?_
                          refine xvalP (qv_fieldAddrB FldC.h rfl) rfl rfl ?_
                          refine xval (qv_loadB 0 ShpC.h rfl rfl rfl rfl) rfl rfl ?_
                          refine xvalP (pv_move rfl) rfl rfl ?_
                          refine xvalP (pv_bin2 rfl rfl rfl) rfl rfl ?_
                          refine xvalP (pv_pick rfl rfl) rfl rfl ?_
                          refine xvalP (pv_move rfl) rfl rfl ?_
                          by_cases hp508 : y485.1 < x3
                          · replace h := h.1 hp508
                            refine xsetB 97 (decide_eq_true hp508) rfl ?_
                            refine xskip rfl rfl ?_
                            refine xskip rfl rfl ?_
                            refine xskip rfl rfl ?_
                            refine xskip rfl rfl ?_
                            refine xskip rfl rfl ?_
                            refine xvalP (pv_pick rfl rfl) rfl rfl ?_
                            refine xvalP (pv_move rfl) rfl rfl ?_
                            refine xskip rfl rfl ?_
                            refine xskip rfl rfl ?_
                            refine xskip rfl rfl ?_
                            refine xskip rfl rfl ?_
                            refine xskip rfl rfl ?_
                            refine xskip rfl rfl ?_
                            refine xskip rfl rfl ?_
                            refine xvalP (pv_pick rfl rfl) rfl rfl ?_
                            refine xvalP (pv_pick rfl rfl) rfl rfl ?_
                            refine xnil ?_
                            exact xmeet ⟨true, h, rfl⟩ ⟨(.cons rfl (.refl _) (.cons rfl (.refl _) (.cons rfl (.refl _) (.cons rfl (.refl _) (.cons rfl (.refl _) (.nil _)))))), (SubM.of (.drop (.keep rfl rfl (.refl _) (.keep rfl rfl (.refl _) (.nil _)))) (.nil _))⟩
                          · replace h := h.2 hp508
                            refine xsetB 97 (decide_eq_false hp508) rfl ?_
                            refine xvalP (qv_fieldAddrB FldC.h rfl) rfl rfl ?_
                            refine xval (qv_loadB 0 ShpC.h rfl rfl rfl rfl) rfl rfl ?_
                            refine xvalP (qv_fieldAddrB FldC.h rfl) rfl rfl ?_
                            refine xval (qv_loadB 0 ShpC.h rfl rfl rfl rfl) rfl rfl ?_
                            refine xvalP (pv_bin2 rfl rfl rfl) rfl rfl ?_
                            refine xvalP (pv_pick rfl rfl) rfl rfl ?_
                            refine xvalP (pv_move rfl) rfl rfl ?_
                            by_cases hp510 : y485.2 < y485.1
                            · replace h := h.1 hp510
                              refine xsetB 104 (decide_eq_true hp510) rfl ?_
                              refine xskip rfl rfl ?_
                              refine xskip rfl rfl ?_
                              refine xskip rfl rfl ?_
                              refine xskip rfl rfl ?_
                              refine xskip rfl rfl ?_
                              refine xskip rfl rfl ?_
                              refine xskip rfl rfl ?_
                              refine xvalP (pv_pick rfl rfl) rfl rfl ?_
                              refine xvalP (pv_pick rfl rfl) rfl rfl ?_
                              refine xnil ?_
                              exact xmeet ⟨true, h, rfl⟩ ⟨(.cons rfl (.refl _) (.cons rfl (.refl _) (.cons rfl (.refl _) (.cons rfl (.refl _) (.cons rfl (.refl _) (.nil _)))))), (SubM.of (.drop (.keep rfl rfl (.refl _) (.keep rfl rfl (.refl _) (.nil _)))) (.nil _))⟩
                            · replace h := h.2 hp510
                              refine xsetB 104 (decide_eq_false hp510) rfl ?_
                              refine xvalP (qv_fieldAddrB FldC.h rfl) rfl rfl ?_
                              refine xval (qv_loadB 0 ShpC.h rfl rfl rfl rfl) rfl rfl ?_
                              refine xvalP (qv_fieldAddrB FldC.h rfl) rfl rfl ?_
                              obtain ⟨h511, h⟩ := h
                              obtain ⟨y512, h511b, h⟩ := h
                              refine xvalP (pv_indexAddrBA h511 UndC.h ShpC.h rfl rfl) rfl rfl ?_
                              refine xvalP (qv_fieldAddrB FldC.h rfl) rfl rfl ?_
                              refine xval (qv_loadA (f := E_palinode_api_Span) (a := y33.1) (k := 2) (off := 1) (i := (0 : Int).toNat) 1 [] [] h511b sq_ so_ (by decide) rfl ShpC.h rfl rfl) rfl rfl ?_
                              refine xvalP (pv_bin2 rfl rfl rfl) rfl rfl ?_
                              refine xvalP (pv_pick rfl rfl) rfl rfl ?_
                              refine xvalP (pv_pick rfl rfl) rfl rfl ?_
                              refine xnil ?_
                              exact xmeet ⟨(decide (y512.2 < y485.2)), h, rfl⟩ ⟨(.cons rfl (.refl _) (.cons rfl (.refl _) (.cons rfl (.refl _) (.cons rfl (.refl _) (.cons rfl (.refl _) (.nil _)))))), (SubM.of (.drop (.keep rfl rfl (.refl _) (.keep rfl rfl (.refl _) (.nil _)))) (.nil _))⟩
                      · replace h := h.2 hp504
                        refine xsetB 86 (not_f (Decidable.of_not_not hp504)) rfl ?_
                        refine xskip rfl rfl ?_
                        refine xskip rfl rfl ?_
                        refine xskip rfl rfl ?_
                        refine xskip rfl rfl ?_
                        refine xskip rfl rfl ?_
                        refine xskip rfl rfl ?_
                        refine xskip rfl rfl ?_
                        refine xskip rfl rfl ?_
                        refine xskip rfl rfl ?_
                        refine xskip rfl rfl ?_
                        refine xskip rfl rfl ?_
                        refine xskip rfl rfl ?_
                        refine xskip rfl rfl ?_
                        refine xskip rfl rfl ?_
                        refine xskip rfl rfl ?_
                        refine xskip rfl rfl ?_
                        refine xskip rfl rfl ?_
                        refine xskip rfl rfl ?_
                        refine xskip rfl rfl ?_
                        refine xskip rfl rfl ?_
                        refine xskip rfl rfl ?_
                        refine xskip rfl rfl ?_
                        refine xskip rfl rfl ?_
                        refine xskip rfl rfl ?_
                        refine xskip rfl rfl ?_
                        refine xskip rfl rfl ?_
                        refine xvalP (pv_pick rfl rfl) rfl rfl ?_
                        refine xnil ?_
                        exact xmeet ⟨false, h, rfl⟩ ⟨(.cons rfl (.refl _) (.cons rfl (.refl _) (.cons rfl (.refl _) (.cons rfl (.refl _) (.cons rfl (.refl _) (.nil _)))))), (SubM.of (.drop (.keep rfl rfl (.refl _) (.keep rfl rfl (.refl _) (.nil _)))) (.nil _))⟩
                    · clear h
                      rintro _ ⟨x503, h, rfl⟩
                      by_cases hp514 : x503 = true
                      · replace h := h.1 hp514
                        refine xcondT' hp514 rfl ?_
                        refine xseq ?_
                        refine xregion ?_
                        refine xvalP (pv_assign rfl) rfl rfl ?_
                        refine xnil ?_
                        refine xthen ?_
                        refine xretc ?_
                        refine xin_ret ?_
                        refine xthen_ret ?_
                        refine xthen_ret ?_
                        refine xin_ret ?_
                        refine xthen_ret ?_
                        replace h := h.symm
                        subst h
                        exact xret1 hg rfl rfl (.refl _) (SubM.of (.nil _) (.nil _)) ⟨rfl, rfl, rfl⟩
                      · replace h := h.2 hp514
                        refine xcondF' (b_f hp514) rfl ?_
                        refine xskipc ?_
                        refine xin_normal ?_
                        refine xthen ?_
                        refine xregion ?_
                        refine xvalP (pv_move rfl) rfl rfl ?_
                        obtain ⟨h515, h⟩ := h
                        refine xvalP (pv_addI h515 rfl rfl) rfl rfl ?_
                        refine xvalP (pv_assign rfl) rfl rfl ?_
                        refine xnil ?_
                        obtain ⟨m', hm, hI⟩ := hag3 _ h
                        exact xagain ⟨(x381 + 1), hI, rfl⟩ hm ⟨(.cons rfl (.refl _) (.cons rfl (.refl _) (.cons rfl (.refl _) (.cons rfl (.refl _) (.nil _))))), (SubM.of (.keep rfl rfl (.refl _) (.keep rfl rfl (.refl _) (.nil _))) (.nil _))⟩
                · replace h := h.2 hp452
                  refine xcondF' (decide_eq_false hp452) rfl ?_
                  refine xexit ?_
                  refine xthen_exit ?_
                  refine xthen_exit ?_
                  refine xin_same rfl ?_
                  refine xthen ?_
                  refine xseq ?_
                  refine xregion ?_
                  obtain ⟨y517, h516, h⟩ := h
                  refine xcall0 (palinodelaw11_awake_con _ h516) Try.func7 (by kernel_rfl) rfl .nil rfl rfl ?_
                  refine xvalP (pv_assign rfl) rfl rfl ?_
                  refine xnil ?_
                  refine xthen ?_
                  refine xretc ?_
                  replace h := h.symm
                  subst h
                  exact xret1 hg rfl rfl (.refl _) (SubM.of (.nil _) (.nil _)) ⟨rfl, rfl, rfl⟩
end Go.Proofs.Ytnefabncdpkbmaa
