/- What functions' texts ask for, and the walks that show it (printed by a program). -/
import Derived.Test.YtefpkpiadnpkeaaGK
namespace Go.Proofs.Ytefpkpiadnpkeaa
/-- palinodelaw04.ShowQuotes -/
def palinodelaw04_ShowQuotes_j3 (x292 : Bool) (r : Bool) : Prop :=
  r = x292
def palinodelaw04_ShowQuotes_l2 (y45 : ByteArray) (x2 : ByteArray) (x3 : ByteArray) (x1 : List UInt8) (ag2 : (Int) → Prop) (x195 : Int) (r : Bool) : Prop :=
  ((x195 < (y45.size : Int) → 0 ≤ (x195 : Int) ∧ ∃ c262 : UInt8, y45[(x195 : Int).toNat]? = some c262 ∧ (((c262.toNat : Int) < 32 → r = false) ∧ (¬ ((c262.toNat : Int) < 32) → 0 ≤ (x195 : Int) ∧ ∃ c266 : UInt8, y45[(x195 : Int).toNat]? = some c266 ∧ ((126 < (c266.toNat : Int) → r = false) ∧ (¬ (126 < (c266.toNat : Int)) → InR (x195 + 1) ∧ ag2 (x195 + 1)))))) ∧ (¬ (x195 < (y45.size : Int)) → InR ((x2.size : Int) + (y45.size : Int)) ∧ InR ((((x2 ++ y45)).size : Int) + (x3.size : Int)) ∧ ∃ y274 : (List UInt8) × Int × Int, show_Unquote_R (((x2 ++ y45)) ++ x3) (x2.size : Int) y274 ∧ ∃ y294 : ByteArray, palinoderef04_Quote_R x1 y294 ∧ (((y45.toList == y294.toList) = true → ((y274.2.2 = 0 → InR ((x2.size : Int) + (y45.size : Int)) ∧ ((y274.2.1 = ((x2.size : Int) + (y45.size : Int)) → ∃ y305 : Bool, palinoderef01_Same_v2_R y274.1 x1 y305 ∧ ((y305 = true → ∃ y308 : Bool, palinodelaw04_awake_R y308 ∧ palinodelaw04_ShowQuotes_j3 y308 r) ∧ (¬ (y305 = true) → palinodelaw04_ShowQuotes_j3 false r))) ∧ (¬ (y274.2.1 = ((x2.size : Int) + (y45.size : Int))) → palinodelaw04_ShowQuotes_j3 false r))) ∧ (¬ (y274.2.2 = 0) → palinodelaw04_ShowQuotes_j3 false r))) ∧ (¬ ((y45.toList == y294.toList) = true) → palinodelaw04_ShowQuotes_j3 false r))))
def palinodelaw04_ShowQuotes_j1 (x1 : List UInt8) (x2 : ByteArray) (x3 : ByteArray) (x32 : Bool) (r : Bool) : Prop :=
  ((x32 = true → ∃ y43 : Bool, palinodelaw04_awake_R y43 ∧ r = y43) ∧ (¬ (x32 = true) → ∃ y45 : ByteArray, show_Quote_R x1 y45 ∧ LoopR (fun ag2 s => palinodelaw04_ShowQuotes_l2 y45 x2 x3 x1 ag2 s r) 0))
def palinodelaw04_ShowQuotes_R (x1 : List UInt8) (x2 : ByteArray) (x3 : ByteArray) (r : Bool) : Prop :=
  palinodelaw04_ShowQuotes_j1 x1 x2 x3 ((decide (200 < (x1.length : Int))) || ((decide (20 < (x2.size : Int))) || (decide (20 < (x3.size : Int))))) r
def palinodelaw04_ShowQuotes_j3_ev (fuel : Nat) (x292 : Bool) : Option (Bool) :=
  some x292
theorem palinodelaw04_ShowQuotes_j3_ok {fuel : Nat} {x292 : Bool} {r : Bool} (h : palinodelaw04_ShowQuotes_j3_ev fuel x292 = some r) : palinodelaw04_ShowQuotes_j3 x292 r := by
  unfold palinodelaw04_ShowQuotes_j3_ev at h
  unfold palinodelaw04_ShowQuotes_j3
  exact (Option.some.inj h).symm
def palinodelaw04_ShowQuotes_l2_ev (fuel : Nat) (y45 : ByteArray) (x2 : ByteArray) (x3 : ByteArray) (x1 : List UInt8) (ag2e : (Int) → Option (Bool)) (x195 : Int) : Option (Bool) :=
  (if x195 < (y45.size : Int) then (if 0 ≤ (x195 : Int) then ((y45[(x195 : Int).toNat]?).bind fun c262 => (if (c262.toNat : Int) < 32 then some false else (if 0 ≤ (x195 : Int) then ((y45[(x195 : Int).toNat]?).bind fun c266 => (if 126 < (c266.toNat : Int) then some false else (if InR (x195 + 1) then ag2e (x195 + 1) else none))) else none))) else none) else (if InR ((x2.size : Int) + (y45.size : Int)) then (if InR ((((x2 ++ y45)).size : Int) + (x3.size : Int)) then ((show_Unquote_ev fuel (((x2 ++ y45)) ++ x3) (x2.size : Int)).bind fun y274 => ((palinoderef04_Quote_ev fuel x1).bind fun y294 => (if (y45.toList == y294.toList) = true then (if y274.2.2 = 0 then (if InR ((x2.size : Int) + (y45.size : Int)) then (if y274.2.1 = ((x2.size : Int) + (y45.size : Int)) then ((palinoderef01_Same_v2_ev fuel y274.1 x1).bind fun y305 => (if y305 = true then ((palinodelaw04_awake_ev fuel).bind fun y308 => palinodelaw04_ShowQuotes_j3_ev fuel y308) else palinodelaw04_ShowQuotes_j3_ev fuel false)) else palinodelaw04_ShowQuotes_j3_ev fuel false) else none) else palinodelaw04_ShowQuotes_j3_ev fuel false) else palinodelaw04_ShowQuotes_j3_ev fuel false))) else none) else none))
theorem palinodelaw04_ShowQuotes_l2_ok {fuel : Nat} {y45 : ByteArray} {x2 : ByteArray} {x3 : ByteArray} {x1 : List UInt8} {ag2e : (Int) → Option (Bool)} {ag2 : (Int) → Prop} {x195 : Int} {r : Bool} (hagag2 : ∀ s, ag2e s = some r → ag2 s) (h : palinodelaw04_ShowQuotes_l2_ev fuel y45 x2 x3 x1 ag2e x195 = some r) : palinodelaw04_ShowQuotes_l2 y45 x2 x3 x1 ag2 x195 r := by
  unfold palinodelaw04_ShowQuotes_l2_ev at h
  unfold palinodelaw04_ShowQuotes_l2
  refine ⟨fun g190 => ?_, fun g190 => ?_⟩
  · rw [if_pos g190] at h
    obtain ⟨g191, h⟩ := if_ok h
    refine ⟨g191, ?_⟩
    obtain ⟨q192, g192, h⟩ := bind_ok h
    refine ⟨q192, g192, ?_⟩
    refine ⟨fun g193 => ?_, fun g193 => ?_⟩
    · rw [if_pos g193] at h
      exact (Option.some.inj h).symm
    · rw [if_neg g193] at h
      obtain ⟨g194, h⟩ := if_ok h
      refine ⟨g194, ?_⟩
      obtain ⟨q195, g195, h⟩ := bind_ok h
      refine ⟨q195, g195, ?_⟩
      refine ⟨fun g196 => ?_, fun g196 => ?_⟩
      · rw [if_pos g196] at h
        exact (Option.some.inj h).symm
      · rw [if_neg g196] at h
        obtain ⟨g197, h⟩ := if_ok h
        refine ⟨g197, ?_⟩
        exact hagag2 _ h
  · rw [if_neg g190] at h
    obtain ⟨g198, h⟩ := if_ok h
    refine ⟨g198, ?_⟩
    obtain ⟨g199, h⟩ := if_ok h
    refine ⟨g199, ?_⟩
    obtain ⟨q200, g200, h⟩ := bind_ok h
    refine ⟨q200, show_Unquote_ok g200, ?_⟩
    obtain ⟨q201, g201, h⟩ := bind_ok h
    refine ⟨q201, palinoderef04_Quote_ok g201, ?_⟩
    refine ⟨fun g202 => ?_, fun g202 => ?_⟩
    · rw [if_pos g202] at h
      refine ⟨fun g203 => ?_, fun g203 => ?_⟩
      · rw [if_pos g203] at h
        obtain ⟨g204, h⟩ := if_ok h
        refine ⟨g204, ?_⟩
        refine ⟨fun g205 => ?_, fun g205 => ?_⟩
        · rw [if_pos g205] at h
          obtain ⟨q206, g206, h⟩ := bind_ok h
          refine ⟨q206, palinoderef01_Same_v2_ok g206, ?_⟩
          refine ⟨fun g207 => ?_, fun g207 => ?_⟩
          · rw [if_pos g207] at h
            obtain ⟨q208, g208, h⟩ := bind_ok h
            refine ⟨q208, palinodelaw04_awake_ok g208, ?_⟩
            exact palinodelaw04_ShowQuotes_j3_ok h
          · rw [if_neg g207] at h
            exact palinodelaw04_ShowQuotes_j3_ok h
        · rw [if_neg g205] at h
          exact palinodelaw04_ShowQuotes_j3_ok h
      · rw [if_neg g203] at h
        exact palinodelaw04_ShowQuotes_j3_ok h
    · rw [if_neg g202] at h
      exact palinodelaw04_ShowQuotes_j3_ok h
def palinodelaw04_ShowQuotes_j1_ev (fuel : Nat) (x1 : List UInt8) (x2 : ByteArray) (x3 : ByteArray) (x32 : Bool) : Option (Bool) :=
  (if x32 = true then ((palinodelaw04_awake_ev fuel).bind fun y43 => some y43) else ((show_Quote_ev fuel x1).bind fun y45 => (loopE (fun ag2e s => palinodelaw04_ShowQuotes_l2_ev fuel y45 x2 x3 x1 ag2e s) fuel 0)))
theorem palinodelaw04_ShowQuotes_j1_ok {fuel : Nat} {x1 : List UInt8} {x2 : ByteArray} {x3 : ByteArray} {x32 : Bool} {r : Bool} (h : palinodelaw04_ShowQuotes_j1_ev fuel x1 x2 x3 x32 = some r) : palinodelaw04_ShowQuotes_j1 x1 x2 x3 x32 r := by
  unfold palinodelaw04_ShowQuotes_j1_ev at h
  unfold palinodelaw04_ShowQuotes_j1
  refine ⟨fun g209 => ?_, fun g209 => ?_⟩
  · rw [if_pos g209] at h
    obtain ⟨q210, g210, h⟩ := bind_ok h
    refine ⟨q210, palinodelaw04_awake_ok g210, ?_⟩
    exact (Option.some.inj h).symm
  · rw [if_neg g209] at h
    obtain ⟨q211, g211, h⟩ := bind_ok h
    refine ⟨q211, show_Quote_ok g211, ?_⟩
    refine loopE_ok ?_ h
    intro ae ag s hag h
    exact palinodelaw04_ShowQuotes_l2_ok hag h
def palinodelaw04_ShowQuotes_ev (fuel : Nat) (x1 : List UInt8) (x2 : ByteArray) (x3 : ByteArray) : Option (Bool) :=
  palinodelaw04_ShowQuotes_j1_ev fuel x1 x2 x3 ((decide (200 < (x1.length : Int))) || ((decide (20 < (x2.size : Int))) || (decide (20 < (x3.size : Int)))))
theorem palinodelaw04_ShowQuotes_ok {fuel : Nat} {x1 : List UInt8} {x2 : ByteArray} {x3 : ByteArray} {r : Bool} (h : palinodelaw04_ShowQuotes_ev fuel x1 x2 x3 = some r) : palinodelaw04_ShowQuotes_R x1 x2 x3 r := by
  unfold palinodelaw04_ShowQuotes_ev at h
  unfold palinodelaw04_ShowQuotes_R
  exact palinodelaw04_ShowQuotes_j1_ok h
set_option maxHeartbeats 4000000 in
theorem palinodelaw04_ShowQuotes_con (x1 : List UInt8) (x2 : ByteArray) (x3 : ByteArray) (r : Bool) (h : palinodelaw04_ShowQuotes_R x1 x2 x3 r) : Con Try.prog 5 [.sl 1 none (List.map eb x1), .v (.string x2), .v (.string x3)] [] [] (Ret (.v (.bool r))) := by
  refine xenter Try.func5 rfl rfl fun g hg => ?_
  simp only [Try.ntmps5, slots]
  unfold palinodelaw04_ShowQuotes_R at h
  refine xseq ?_
  refine xregion ?_
  refine xvalP (pv_assign rfl) rfl rfl ?_
  refine xnil ?_
  refine xthen ?_
  refine xseq ?_
  refine xseqM (fun σ => ∃ (x32 : Bool), palinodelaw04_ShowQuotes_j1 x1 x2 x3 x32 r ∧ σ = ⟨[(0, .sl 1 none (List.map eb x1)), (1, .v (.string x2)), (2, .v (.string x3)), (24, .v (.bool x32))], [], []⟩) ?_ ?_
  · refine xregion ?_
    refine xvalP (pv_move rfl) rfl rfl ?_
    refine xvalP (pv_lenM UndC.h rfl) rfl rfl ?_
    refine xvalP (pv_bin2 rfl rfl rfl) rfl rfl ?_
    refine xvalP (pv_move rfl) rfl rfl ?_
    by_cases hp35 : 200 < (x1.length : Int)
    · rw [show (decide (200 < (x1.length : Int))) = true from (decide_eq_true hp35), Bool.true_or] at h
      refine xsetB 15 (decide_eq_true hp35) rfl ?_
      refine xskip rfl rfl ?_
      refine xskip rfl rfl ?_
      refine xskip rfl rfl ?_
      refine xvalP (pv_pick rfl rfl) rfl rfl ?_
      refine xvalP (pv_move rfl) rfl rfl ?_
      refine xskip rfl rfl ?_
      refine xskip rfl rfl ?_
      refine xskip rfl rfl ?_
      refine xvalP (pv_pick rfl rfl) rfl rfl ?_
      refine xnil ?_
      exact xmeet ⟨true, h, rfl⟩ ⟨(.cons rfl (.refl _) (.cons rfl (.refl _) (.cons rfl (.refl _) (.cons rfl (.refl _) (.nil _))))), (SubM.of (.nil _) (.nil _))⟩
    · rw [show (decide (200 < (x1.length : Int))) = false from (decide_eq_false hp35), Bool.false_or] at h
      refine xsetB 15 (decide_eq_false hp35) rfl ?_
      refine xvalP (pv_move rfl) rfl rfl ?_
      refine xvalP (pv_lenS UndC.h rfl) rfl rfl ?_
      refine xvalP (pv_bin2 rfl rfl rfl) rfl rfl ?_
      refine xvalP (pv_pick rfl rfl) rfl rfl ?_
      refine xvalP (pv_move rfl) rfl rfl ?_
      by_cases hp38 : 20 < (x2.size : Int)
      · rw [show (decide (20 < (x2.size : Int))) = true from (decide_eq_true hp38), Bool.true_or] at h
        refine xsetB 20 (decide_eq_true hp38) rfl ?_
        refine xskip rfl rfl ?_
        refine xskip rfl rfl ?_
        refine xskip rfl rfl ?_
        refine xvalP (pv_pick rfl rfl) rfl rfl ?_
        refine xnil ?_
        exact xmeet ⟨true, h, rfl⟩ ⟨(.cons rfl (.refl _) (.cons rfl (.refl _) (.cons rfl (.refl _) (.cons rfl (.refl _) (.nil _))))), (SubM.of (.nil _) (.nil _))⟩
      · rw [show (decide (20 < (x2.size : Int))) = false from (decide_eq_false hp38), Bool.false_or] at h
        refine xsetB 20 (decide_eq_false hp38) rfl ?_
        refine xvalP (pv_move rfl) rfl rfl ?_
        refine xvalP (pv_lenS UndC.h rfl) rfl rfl ?_
        refine xvalP (pv_bin2 rfl rfl rfl) rfl rfl ?_
        refine xvalP (pv_pick rfl rfl) rfl rfl ?_
        refine xnil ?_
        exact xmeet ⟨(decide (20 < (x3.size : Int))), h, rfl⟩ ⟨(.cons rfl (.refl _) (.cons rfl (.refl _) (.cons rfl (.refl _) (.cons rfl (.refl _) (.nil _))))), (SubM.of (.nil _) (.nil _))⟩
  · clear h
    rintro _ ⟨x32, h, rfl⟩
    by_cases hp41 : x32 = true
    · replace h := h.1 hp41
      refine xcondT' hp41 rfl ?_
      refine xseq ?_
      refine xregion ?_
      obtain ⟨y43, h42, h⟩ := h
      refine xcall0 (palinodelaw04_awake_con _ h42) Try.func7 (by kernel_rfl) rfl .nil rfl rfl ?_
      refine xvalP (pv_assign rfl) rfl rfl ?_
      refine xnil ?_
      refine xthen ?_
      refine xretc ?_
      refine xthen_ret ?_
      replace h := h.symm
      subst h
      exact xret1 hg rfl rfl (.refl _) (SubM.of (.nil _) (.nil _)) ⟨rfl, rfl, rfl⟩
    · replace h := h.2 hp41
      refine xcondF' (b_f hp41) rfl ?_
      refine xskipc ?_
      refine xthen ?_
      refine xseq ?_
      refine xregion ?_
      refine xvalP (pv_move rfl) rfl rfl ?_
      obtain ⟨y45, h44, h⟩ := h
      refine xcall0 (show_Quote_con x1 _ h44) Try.func11 (by kernel_rfl) rfl (.cons rfl (.refl _) .nil) rfl rfl ?_
      refine xvalP (pv_assign rfl) rfl rfl ?_
      refine xnil ?_
      refine xthen ?_
      refine xseq ?_
      refine xseq ?_
      refine xregion ?_
      refine xvalP (pv_assign rfl) rfl rfl ?_
      refine xnil ?_
      refine xthen ?_
      refine xblock ?_
      obtain ⟨Inv, ⟨m0, hI⟩, hS⟩ := h
      refine xloop (fun σ m => ∃ (x195 : Int), Inv x195 m ∧ σ = ⟨[(0, .sl 1 none (List.map eb x1)), (1, .v (.string x2)), (2, .v (.string x3)), (7, .v (.string y45)), (8, .v (.int .i64 x195))], [], []⟩) ⟨0, hI, rfl⟩ ⟨(.cons rfl (.refl _) (.cons rfl (.refl _) (.cons rfl (.refl _) (.cons rfl (.refl _) (.cons rfl (.refl _) (.nil _)))))), (SubM.of (.nil _) (.nil _))⟩ ?_
      rintro _ m ⟨x195, hI, rfl⟩
      obtain ⟨ag2, hag2, h⟩ : ∃ ag, (∀ s', ag s' → ∃ m', m' < m ∧ Inv s' m') ∧ palinodelaw04_ShowQuotes_l2 y45 x2 x3 x1 ag x195 r := ⟨_, fun _ h => h, hS x195 _ hI⟩
      clear hS hI
      refine xseq ?_
      refine xseq ?_
      refine xregion ?_
      refine xvalP (pv_move rfl) rfl rfl ?_
      refine xvalP (pv_move rfl) rfl rfl ?_
      refine xvalP (pv_lenS UndC.h rfl) rfl rfl ?_
      refine xvalP (pv_bin2 rfl rfl rfl) rfl rfl ?_
      refine xnil ?_
      refine xthen ?_
      by_cases hp238 : x195 < (y45.size : Int)
      · replace h := h.1 hp238
        refine xcondT' (decide_eq_true hp238) rfl ?_
        refine xskipc ?_
        refine xthen ?_
        refine xseq ?_
        refine xblock ?_
        refine xseq ?_
        refine xregion ?_
        refine xvalP (pv_move rfl) rfl rfl ?_
        refine xvalP (pv_move rfl) rfl rfl ?_
        obtain ⟨h261, h⟩ := h
        obtain ⟨c262, h261b, h⟩ := h
        refine xvalP (pv_indexSM h261 h261b UndC.h rfl rfl) rfl rfl ?_
        refine xvalP (pv_bin2 rfl rfl rfl) rfl rfl ?_
        refine xvalP (pv_move rfl) rfl rfl ?_
        by_cases hp264 : (c262.toNat : Int) < 32
        · replace h := h.1 hp264
          refine xsetB 38 (decide_eq_true hp264) rfl ?_
          refine xskip rfl rfl ?_
          refine xskip rfl rfl ?_
          refine xskip rfl rfl ?_
          refine xskip rfl rfl ?_
          refine xvalP (pv_pick rfl rfl) rfl rfl ?_
          refine xnil ?_
          refine xthen ?_
          refine xcondT rfl ?_
          refine xseq ?_
          refine xregion ?_
          refine xvalP (pv_assign rfl) rfl rfl ?_
          refine xnil ?_
          refine xthen ?_
          refine xretc ?_
          refine xin_ret ?_
          refine xthen_ret ?_
          refine xthen_ret ?_
          refine xin_ret ?_
          refine xthen_ret ?_
          replace h := h.symm
          subst h
          exact xret1 hg rfl rfl (.refl _) (SubM.of (.nil _) (.nil _)) ⟨rfl, rfl, rfl⟩
        · replace h := h.2 hp264
          refine xsetB 38 (decide_eq_false hp264) rfl ?_
          refine xvalP (pv_move rfl) rfl rfl ?_
          refine xvalP (pv_move rfl) rfl rfl ?_
          obtain ⟨h265, h⟩ := h
          obtain ⟨c266, h265b, h⟩ := h
          refine xvalP (pv_indexSM h265 h265b UndC.h rfl rfl) rfl rfl ?_
          refine xvalP (pv_bin2 rfl rfl rfl) rfl rfl ?_
          refine xvalP (pv_pick rfl rfl) rfl rfl ?_
          refine xnil ?_
          refine xthen ?_
          by_cases hp268 : 126 < (c266.toNat : Int)
          · replace h := h.1 hp268
            refine xcondT' (decide_eq_true hp268) rfl ?_
            refine xseq ?_
            refine xregion ?_
            refine xvalP (pv_assign rfl) rfl rfl ?_
            refine xnil ?_
            refine xthen ?_
            refine xretc ?_
            refine xin_ret ?_
            refine xthen_ret ?_
            refine xthen_ret ?_
            refine xin_ret ?_
            refine xthen_ret ?_
            replace h := h.symm
            subst h
            exact xret1 hg rfl rfl (.refl _) (SubM.of (.nil _) (.nil _)) ⟨rfl, rfl, rfl⟩
          · replace h := h.2 hp268
            refine xcondF' (decide_eq_false hp268) rfl ?_
            refine xskipc ?_
            refine xin_normal ?_
            refine xthen ?_
            refine xregion ?_
            refine xvalP (pv_move rfl) rfl rfl ?_
            obtain ⟨h269, h⟩ := h
            refine xvalP (pv_addI h269 rfl rfl) rfl rfl ?_
            refine xvalP (pv_assign rfl) rfl rfl ?_
            refine xnil ?_
            obtain ⟨m', hm, hI⟩ := hag2 _ h
            exact xagain ⟨(x195 + 1), hI, rfl⟩ hm ⟨(.cons rfl (.refl _) (.cons rfl (.refl _) (.cons rfl (.refl _) (.cons rfl (.refl _) (.cons rfl (.refl _) (.nil _)))))), (SubM.of (.nil _) (.nil _))⟩
      · replace h := h.2 hp238
        refine xcondF' (decide_eq_false hp238) rfl ?_
        refine xexit ?_
        refine xthen_exit ?_
        refine xthen_exit ?_
        refine xin_same rfl ?_
        refine xthen ?_
        refine xseq ?_
        refine xregion ?_
        refine xvalP (pv_move rfl) rfl rfl ?_
        refine xvalP (pv_move rfl) rfl rfl ?_
        obtain ⟨h270, h⟩ := h
        refine xvalP (pv_addS h270 rfl rfl) rfl rfl ?_
        refine xvalP (pv_move rfl) rfl rfl ?_
        obtain ⟨h271, h⟩ := h
        refine xvalP (pv_addS h271 rfl rfl) rfl rfl ?_
        refine xvalP (pv_move rfl) rfl rfl ?_
        refine xvalP (pv_lenS UndC.h rfl) rfl rfl ?_
        obtain ⟨y274, h273, h⟩ := h
        refine xcallF (Fb := []) (Ft := []) (show_Unquote_con (((x2 ++ y45)) ++ x3) (x2.size : Int) _ h273) Try.func12 (by kernel_rfl) rfl (.cons rfl (.refl _) (.cons rfl (.refl _) .nil)) (by exact (SubM.of (by repeat (first | with_reducible exact SubB.refl _ | exact SubB.nil _ | refine SubB.keep rfl rfl (by first | with_reducible exact WkL.refl _ | ((repeat (first | exact WkL.nil | refine WkL.cons (by first | with_reducible exact Wk.refl _ | exact Wk.nil_own _ | exact Wk.nil_pl _ | with_reducible exact Wk.tok _ _ _ | exact Wk.tok _ _ _ | exact Wk.eq (by first | rfl | (simp []; done) | (simp []; omega))) ?_)); done) | exact WkL.refl _) ?_ | refine SubB.drop ?_)) (by repeat (first | exact SubT.nil _ | refine SubT.add ?_ | (refine SubT.keep ?_ ?_; focus (first | with_reducible rfl | (simp []; done))) | refine SubT.drop ?_)))) rfl rfl ?_
        rintro _ _ _ ⟨i275, rfl, rfl, rfl⟩
        simp only [List.nil_append, List.cons_append]
        refine xvalP (pv_move rfl) rfl rfl ?_
        refine xvalP (pv_extract rfl rfl) rfl rfl ?_
        refine xvalP (pv_extract rfl rfl) rfl rfl ?_
        refine xvalP (pv_extract rfl rfl) rfl rfl ?_
        refine xvalP (pv_assign rfl) rfl rfl ?_
        refine xvalP (pv_assign rfl) rfl rfl ?_
        refine xvalP (pv_assign rfl) rfl rfl ?_
        refine xnil ?_
        refine xthen ?_
        refine xseqM (fun σ => ∃ (x292 : Bool), palinodelaw04_ShowQuotes_j3 x292 r ∧ σ = ⟨[(6, .v (.bool x292))], [], []⟩) ?_ ?_
        · refine xregion ?_
          refine xvalP (pv_move rfl) rfl rfl ?_
          refine xvalP (pv_move rfl) rfl rfl ?_
          obtain ⟨y294, h293, h⟩ := h
          refine xcall0 (palinoderef04_Quote_con x1 _ h293) Try.func13 (by kernel_rfl) rfl (.cons rfl (.refl _) .nil) rfl rfl ?_
          refine xvalP (pv_bin2 rfl rfl rfl) rfl rfl ?_
          refine xvalP (pv_move rfl) rfl rfl ?_
          by_cases hp296 : (y45.toList == y294.toList) = true
          · replace h := h.1 hp296
            refine xsetB 60 hp296 rfl ?_
            refine xvalP (pv_move rfl) rfl rfl ?_
            refine xvalP (pv_bin2 rfl rfl rfl) rfl rfl ?_
            refine xvalP (pv_pick rfl rfl) rfl rfl ?_
            refine xvalP (pv_move rfl) rfl rfl ?_
            by_cases hp298 : y274.2.2 = 0
            · replace h := h.1 hp298
              refine xsetB 64 (decide_eq_true hp298) rfl ?_
              refine xvalP (pv_move rfl) rfl rfl ?_
              refine xvalP (pv_move rfl) rfl rfl ?_
              refine xvalP (pv_lenS UndC.h rfl) rfl rfl ?_
              refine xvalP (pv_move rfl) rfl rfl ?_
              refine xvalP (pv_lenS UndC.h rfl) rfl rfl ?_
              obtain ⟨h301, h⟩ := h
              refine xvalP (pv_addI h301 rfl rfl) rfl rfl ?_
              refine xvalP (pv_bin2 rfl rfl rfl) rfl rfl ?_
              refine xvalP (pv_pick rfl rfl) rfl rfl ?_
              refine xvalP (pv_move rfl) rfl rfl ?_
              by_cases hp303 : y274.2.1 = ((x2.size : Int) + (y45.size : Int))
              · replace h := h.1 hp303
                refine xsetB 73 (decide_eq_true hp303) rfl ?_
                refine xvalP (pv_move rfl) rfl rfl ?_
                refine xvalP (pv_move rfl) rfl rfl ?_
                obtain ⟨y305, h304, h⟩ := h
                refine xcall0 (palinoderef01_Same_v2_con y274.1 x1 _ h304) Try.func9 (by kernel_rfl) rfl (.cons rfl (.tok _ _ _) (.cons rfl (.refl _) .nil)) rfl rfl ?_
                refine xvalP (pv_pick rfl rfl) rfl rfl ?_
                refine xvalP (pv_move rfl) rfl rfl ?_
                by_cases hp306 : y305 = true
                · replace h := h.1 hp306
                  refine xsetB 78 hp306 rfl ?_
                  obtain ⟨y308, h307, h⟩ := h
                  refine xcall0 (palinodelaw04_awake_con _ h307) Try.func7 (by kernel_rfl) rfl .nil rfl rfl ?_
                  refine xvalP (pv_pick rfl rfl) rfl rfl ?_
                  refine xvalP (pv_assign rfl) rfl rfl ?_
                  refine xnil ?_
                  exact xmeet ⟨y308, h, rfl⟩ ⟨(.cons rfl (.refl _) (.nil _)), (SubM.of (.nil _) (.nil _))⟩
                · replace h := h.2 hp306
                  refine xsetB 78 (b_f hp306) rfl ?_
                  refine xskip rfl rfl ?_
                  refine xvalP (pv_pick rfl rfl) rfl rfl ?_
                  refine xvalP (pv_assign rfl) rfl rfl ?_
                  refine xnil ?_
                  exact xmeet ⟨false, h, rfl⟩ ⟨(.cons rfl (.refl _) (.nil _)), (SubM.of (.nil _) (.nil _))⟩
              · replace h := h.2 hp303
                refine xsetB 73 (decide_eq_false hp303) rfl ?_
                refine xskip rfl rfl ?_
                refine xskip rfl rfl ?_
                refine xskip rfl rfl ?_
                refine xvalP (pv_pick rfl rfl) rfl rfl ?_
                refine xvalP (pv_move rfl) rfl rfl ?_
                refine xskip rfl rfl ?_
                refine xvalP (pv_pick rfl rfl) rfl rfl ?_
                refine xvalP (pv_assign rfl) rfl rfl ?_
                refine xnil ?_
                exact xmeet ⟨false, h, rfl⟩ ⟨(.cons rfl (.refl _) (.nil _)), (SubM.of (.nil _) (.nil _))⟩
            · replace h := h.2 hp298
              refine xsetB 64 (decide_eq_false hp298) rfl ?_
              refine xskip rfl rfl ?_
              refine xskip rfl rfl ?_
              refine xskip rfl rfl ?_
              refine xskip rfl rfl ?_
              refine xskip rfl rfl ?_
              refine xskip rfl rfl ?_
              refine xskip rfl rfl ?_
              refine xvalP (pv_pick rfl rfl) rfl rfl ?_
              refine xvalP (pv_move rfl) rfl rfl ?_
              refine xskip rfl rfl ?_
              refine xskip rfl rfl ?_
              refine xskip rfl rfl ?_
              refine xvalP (pv_pick rfl rfl) rfl rfl ?_
              refine xvalP (pv_move rfl) rfl rfl ?_
              refine xskip rfl rfl ?_
              refine xvalP (pv_pick rfl rfl) rfl rfl ?_
              refine xvalP (pv_assign rfl) rfl rfl ?_
              refine xnil ?_
              exact xmeet ⟨false, h, rfl⟩ ⟨(.cons rfl (.refl _) (.nil _)), (SubM.of (.nil _) (.nil _))⟩
          · replace h := h.2 hp296
            refine xsetB 60 (b_f hp296) rfl ?_
            refine xskip rfl rfl ?_
            refine xskip rfl rfl ?_
            refine xvalP (pv_pick rfl rfl) rfl rfl ?_
            refine xvalP (pv_move rfl) rfl rfl ?_
            refine xskip rfl rfl ?_
            refine xskip rfl rfl ?_
            refine xskip rfl rfl ?_
            refine xskip rfl rfl ?_
            refine xskip rfl rfl ?_
            refine xskip rfl rfl ?_
            refine xskip rfl rfl ?_
            refine xvalP (pv_pick rfl rfl) rfl rfl ?_
            refine xvalP (pv_move rfl) rfl rfl ?_
            refine xskip rfl rfl ?_
            refine xskip rfl rfl ?_
            refine xskip rfl rfl ?_
            refine xvalP (pv_pick rfl rfl) rfl rfl ?_
            refine xvalP (pv_move rfl) rfl rfl ?_
            refine xskip rfl rfl ?_
            refine xvalP (pv_pick rfl rfl) rfl rfl ?_
            refine xvalP (pv_assign rfl) rfl rfl ?_
            refine xnil ?_
            exact xmeet ⟨false, h, rfl⟩ ⟨(.cons rfl (.refl _) (.nil _)), (SubM.of (.nil _) (.nil _))⟩
        · clear h
          rintro _ ⟨x292, h, rfl⟩
          refine xretc ?_
          replace h := h.symm
          subst h
          exact xret1 hg rfl rfl (.refl _) (SubM.of (.nil _) (.nil _)) ⟨rfl, rfl, rfl⟩
end Go.Proofs.Ytefpkpiadnpkeaa
