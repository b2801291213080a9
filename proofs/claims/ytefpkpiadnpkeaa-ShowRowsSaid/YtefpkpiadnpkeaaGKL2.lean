/- What functions' texts ask for, and the walks that show it (printed by a program). -/
import Derived.Test.YtefpkpiadnpkeaaGK
namespace Go.Proofs.Ytefpkpiadnpkeaa
/-- palinodelaw04.ShowRows -/
def palinodelaw04_ShowRows_j2 (iv235 : Int) (l1 : List ByteArray) (ag1 : (ByteArray × Int) → Prop) (want338 : ByteArray) (r : Bool) : Prop :=
  0 ≤ (iv235 : Int) ∧ ∃ y342 : ByteArray, l1[(iv235 : Int).toNat]? = some y342 ∧ InR ((want338.size : Int) + (y342.size : Int)) ∧ InR (iv235 + 1) ∧ ag1 ((want338 ++ y342), (iv235 + 1))
def palinodelaw04_ShowRows_l1 (l1 : List ByteArray) (ag1 : (ByteArray × Int) → Prop) (want234 : ByteArray) (iv235 : Int) (r : Bool) : Prop :=
  ((iv235 < (l1.length : Int) → 0 ≤ (iv235 : Int) ∧ ∃ y328 : ByteArray, l1[(iv235 : Int).toNat]? = some y328 ∧ ((30 < (y328.size : Int) → ∃ y334 : Bool, palinodelaw04_awake_R y334 ∧ r = y334) ∧ (¬ (30 < (y328.size : Int)) → ((0 < iv235 → InR ((want234.size : Int) + (((⟨#[32]⟩ : ByteArray)).size : Int)) ∧ palinodelaw04_ShowRows_j2 iv235 l1 ag1 (want234 ++ ((⟨#[32]⟩ : ByteArray))) r) ∧ (¬ (0 < iv235) → palinodelaw04_ShowRows_j2 iv235 l1 ag1 want234 r))))) ∧ (¬ (iv235 < (l1.length : Int)) → ∃ y353 : ByteArray, show_Row_R l1 y353 ∧ (((y353.toList == want234.toList) = true → ∃ y357 : Bool, palinodelaw04_awake_R y357 ∧ r = y357) ∧ (¬ ((y353.toList == want234.toList) = true) → r = false))))
def palinodelaw04_ShowRows_R (l1 : List ByteArray) (r : Bool) : Prop :=
  ((12 < (l1.length : Int) → ∃ y11 : Bool, palinodelaw04_awake_R y11 ∧ r = y11) ∧ (¬ (12 < (l1.length : Int)) → LoopR (fun ag1 s => palinodelaw04_ShowRows_l1 l1 ag1 s.1 s.2 r) ((⟨#[]⟩ : ByteArray), 0)))
def palinodelaw04_ShowRows_j2_ev (fuel : Nat) (iv235 : Int) (l1 : List ByteArray) (ag1e : (ByteArray × Int) → Option (Bool)) (want338 : ByteArray) : Option (Bool) :=
  (if 0 ≤ (iv235 : Int) then ((l1[(iv235 : Int).toNat]?).bind fun y342 => (if InR ((want338.size : Int) + (y342.size : Int)) then (if InR (iv235 + 1) then ag1e ((want338 ++ y342), (iv235 + 1)) else none) else none)) else none)
theorem palinodelaw04_ShowRows_j2_ok {fuel : Nat} {iv235 : Int} {l1 : List ByteArray} {ag1 : (ByteArray × Int) → Prop} {ag1e : (ByteArray × Int) → Option (Bool)} {want338 : ByteArray} {r : Bool} (hagag1 : ∀ s, ag1e s = some r → ag1 s) (h : palinodelaw04_ShowRows_j2_ev fuel iv235 l1 ag1e want338 = some r) : palinodelaw04_ShowRows_j2 iv235 l1 ag1 want338 r := by
  unfold palinodelaw04_ShowRows_j2_ev at h
  unfold palinodelaw04_ShowRows_j2
  obtain ⟨g87, h⟩ := if_ok h
  refine ⟨g87, ?_⟩
  obtain ⟨q88, g88, h⟩ := bind_ok h
  refine ⟨q88, g88, ?_⟩
  obtain ⟨g89, h⟩ := if_ok h
  refine ⟨g89, ?_⟩
  obtain ⟨g90, h⟩ := if_ok h
  refine ⟨g90, ?_⟩
  exact hagag1 _ h
def palinodelaw04_ShowRows_l1_ev (fuel : Nat) (l1 : List ByteArray) (ag1e : (ByteArray × Int) → Option (Bool)) (want234 : ByteArray) (iv235 : Int) : Option (Bool) :=
  (if iv235 < (l1.length : Int) then (if 0 ≤ (iv235 : Int) then ((l1[(iv235 : Int).toNat]?).bind fun y328 => (if 30 < (y328.size : Int) then ((palinodelaw04_awake_ev fuel).bind fun y334 => some y334) else (if 0 < iv235 then (if InR ((want234.size : Int) + (((⟨#[32]⟩ : ByteArray)).size : Int)) then palinodelaw04_ShowRows_j2_ev fuel iv235 l1 ag1e (want234 ++ ((⟨#[32]⟩ : ByteArray))) else none) else palinodelaw04_ShowRows_j2_ev fuel iv235 l1 ag1e want234))) else none) else ((show_Row_ev fuel l1).bind fun y353 => (if (y353.toList == want234.toList) = true then ((palinodelaw04_awake_ev fuel).bind fun y357 => some y357) else some false)))
theorem palinodelaw04_ShowRows_l1_ok {fuel : Nat} {l1 : List ByteArray} {ag1e : (ByteArray × Int) → Option (Bool)} {ag1 : (ByteArray × Int) → Prop} {want234 : ByteArray} {iv235 : Int} {r : Bool} (hagag1 : ∀ s, ag1e s = some r → ag1 s) (h : palinodelaw04_ShowRows_l1_ev fuel l1 ag1e want234 iv235 = some r) : palinodelaw04_ShowRows_l1 l1 ag1 want234 iv235 r := by
  unfold palinodelaw04_ShowRows_l1_ev at h
  unfold palinodelaw04_ShowRows_l1
  refine ⟨fun g91 => ?_, fun g91 => ?_⟩
  · rw [if_pos g91] at h
    obtain ⟨g92, h⟩ := if_ok h
    refine ⟨g92, ?_⟩
    obtain ⟨q93, g93, h⟩ := bind_ok h
    refine ⟨q93, g93, ?_⟩
    refine ⟨fun g94 => ?_, fun g94 => ?_⟩
    · rw [if_pos g94] at h
      obtain ⟨q95, g95, h⟩ := bind_ok h
      refine ⟨q95, palinodelaw04_awake_ok g95, ?_⟩
      exact (Option.some.inj h).symm
    · rw [if_neg g94] at h
      refine ⟨fun g96 => ?_, fun g96 => ?_⟩
      · rw [if_pos g96] at h
        obtain ⟨g97, h⟩ := if_ok h
        refine ⟨g97, ?_⟩
        exact palinodelaw04_ShowRows_j2_ok hagag1 h
      · rw [if_neg g96] at h
        exact palinodelaw04_ShowRows_j2_ok hagag1 h
  · rw [if_neg g91] at h
    obtain ⟨q98, g98, h⟩ := bind_ok h
    refine ⟨q98, show_Row_ok g98, ?_⟩
    refine ⟨fun g99 => ?_, fun g99 => ?_⟩
    · rw [if_pos g99] at h
      obtain ⟨q100, g100, h⟩ := bind_ok h
      refine ⟨q100, palinodelaw04_awake_ok g100, ?_⟩
      exact (Option.some.inj h).symm
    · rw [if_neg g99] at h
      exact (Option.some.inj h).symm
def palinodelaw04_ShowRows_ev (fuel : Nat) (l1 : List ByteArray) : Option (Bool) :=
  (if 12 < (l1.length : Int) then ((palinodelaw04_awake_ev fuel).bind fun y11 => some y11) else (loopE (fun ag1e s => palinodelaw04_ShowRows_l1_ev fuel l1 ag1e s.1 s.2) fuel ((⟨#[]⟩ : ByteArray), 0)))
theorem palinodelaw04_ShowRows_ok {fuel : Nat} {l1 : List ByteArray} {r : Bool} (h : palinodelaw04_ShowRows_ev fuel l1 = some r) : palinodelaw04_ShowRows_R l1 r := by
  unfold palinodelaw04_ShowRows_ev at h
  unfold palinodelaw04_ShowRows_R
  refine ⟨fun g101 => ?_, fun g101 => ?_⟩
  · rw [if_pos g101] at h
    obtain ⟨q102, g102, h⟩ := bind_ok h
    refine ⟨q102, palinodelaw04_awake_ok g102, ?_⟩
    exact (Option.some.inj h).symm
  · rw [if_neg g101] at h
    refine loopE_ok ?_ h
    intro ae ag s hag h
    exact palinodelaw04_ShowRows_l1_ok hag h
set_option maxHeartbeats 4000000 in
theorem palinodelaw04_ShowRows_con (l1 : List ByteArray) (r : Bool) (h : palinodelaw04_ShowRows_R l1 r) : Con Try.prog 4 [.sl 1 none (List.map es l1)] [] [] (Ret (.v (.bool r))) := by
  refine xenter Try.func4 rfl rfl fun g hg => ?_
  simp only [Try.ntmps4, slots]
  refine xseq ?_
  refine xregion ?_
  refine xvalP (pv_assign rfl) rfl rfl ?_
  refine xnil ?_
  refine xthen ?_
  refine xseq ?_
  refine xseq ?_
  refine xregion ?_
  refine xvalP (pv_move rfl) rfl rfl ?_
  refine xvalP (pv_lenM UndC.h rfl) rfl rfl ?_
  refine xvalP (pv_bin2 rfl rfl rfl) rfl rfl ?_
  refine xnil ?_
  refine xthen ?_
  by_cases hp9 : 12 < (l1.length : Int)
  · replace h := h.1 hp9
    refine xcondT' (decide_eq_true hp9) rfl ?_
    refine xseq ?_
    refine xregion ?_
    obtain ⟨y11, h10, h⟩ := h
    refine xcall0 (palinodelaw04_awake_con _ h10) Try.func7 (by kernel_rfl) rfl .nil rfl rfl ?_
    refine xvalP (pv_assign rfl) rfl rfl ?_
    refine xnil ?_
    refine xthen ?_
    refine xretc ?_
    refine xthen_ret ?_
    replace h := h.symm
    subst h
    exact xret1 hg rfl rfl (.refl _) (SubM.of (.nil _) (.nil _)) ⟨rfl, rfl, rfl⟩
  · replace h := h.2 hp9
    refine xcondF' (decide_eq_false hp9) rfl ?_
    refine xskipc ?_
    refine xthen ?_
    refine xseq ?_
    refine xregion ?_
    refine xvalP (pv_assign rfl) rfl rfl ?_
    refine xnil ?_
    refine xthen ?_
    refine xseq ?_
    refine xseq ?_
    refine xregion ?_
    refine xvalP (pv_assign rfl) rfl rfl ?_
    refine xnil ?_
    refine xthen ?_
    refine xblock ?_
    obtain ⟨Inv, ⟨m0, hI⟩, hS⟩ := h
    refine xloop (fun σ m => ∃ (want234 : ByteArray), ∃ (iv235 : Int), Inv (want234, iv235) m ∧ σ = ⟨[(0, .sl 1 none (List.map es l1)), (3, .v (.string want234)), (4, .v (.int .i64 iv235))], [], []⟩) ⟨(⟨#[]⟩ : ByteArray), 0, hI, rfl⟩ ⟨(.cons rfl (.refl _) (.cons rfl (.refl _) (.cons rfl (.refl _) (.nil _)))), (SubM.of (.nil _) (.nil _))⟩ ?_
    rintro _ m ⟨want234, iv235, hI, rfl⟩
    obtain ⟨ag1, hag1, h⟩ : ∃ ag, (∀ s', ag s' → ∃ m', m' < m ∧ Inv s' m') ∧ palinodelaw04_ShowRows_l1 l1 ag want234 iv235 r := ⟨_, fun _ h => h, hS (want234, iv235) _ hI⟩
    clear hS hI
    refine xseq ?_
    refine xseq ?_
    refine xregion ?_
    refine xvalP (pv_move rfl) rfl rfl ?_
    refine xvalP (pv_move rfl) rfl rfl ?_
    refine xvalP (pv_lenM UndC.h rfl) rfl rfl ?_
    refine xvalP (pv_bin2 rfl rfl rfl) rfl rfl ?_
    refine xnil ?_
    refine xthen ?_
    by_cases hp296 : iv235 < (l1.length : Int)
    · replace h := h.1 hp296
      refine xcondT' (decide_eq_true hp296) rfl ?_
      refine xskipc ?_
      refine xthen ?_
      refine xseq ?_
      refine xblock ?_
      refine xseq ?_
      refine xseq ?_
      refine xregion ?_
      refine xvalP (pv_move rfl) rfl rfl ?_
      refine xvalP (pv_move rfl) rfl rfl ?_
      obtain ⟨h329a, h⟩ := h
      obtain ⟨y328, h329b, h⟩ := h
      refine xvalP (pv_indexAddrM h329a h329b UndC.h ShpC.h rfl rfl) rfl rfl ?_
      refine xval (qv_load ShpC.h rfl rfl rfl) rfl rfl ?_
      refine xvalP (pv_lenS UndC.h rfl) rfl rfl ?_
      refine xvalP (pv_bin2 rfl rfl rfl) rfl rfl ?_
      refine xnil ?_
      refine xthen ?_
      by_cases hp332 : 30 < (y328.size : Int)
      · replace h := h.1 hp332
        refine xcondT' (decide_eq_true hp332) rfl ?_
        refine xseq ?_
        refine xregion ?_
        obtain ⟨y334, h333, h⟩ := h
        refine xcall0 (palinodelaw04_awake_con _ h333) Try.func7 (by kernel_rfl) rfl .nil rfl rfl ?_
        refine xvalP (pv_assign rfl) rfl rfl ?_
        refine xnil ?_
        refine xthen ?_
        refine xretc ?_
        refine xthen_ret ?_
        refine xin_ret ?_
        refine xthen_ret ?_
        refine xthen_ret ?_
        refine xin_ret ?_
        refine xthen_ret ?_
        replace h := h.symm
        subst h
        exact xret1 hg rfl rfl (.refl _) (SubM.of (.nil _) (.nil _)) ⟨rfl, rfl, rfl⟩
      · replace h := h.2 hp332
        refine xcondF' (decide_eq_false hp332) rfl ?_
        refine xskipc ?_
        refine xthen ?_
        refine xseqM (fun σ => ∃ (want338 : ByteArray), palinodelaw04_ShowRows_j2 iv235 l1 ag1 want338 r ∧ σ = ⟨[(0, .sl 1 none (List.map es l1)), (3, .v (.string want338)), (4, .v (.int .i64 iv235))], [], []⟩) ?_ ?_
        · refine xseq ?_
          refine xregion ?_
          refine xvalP (pv_move rfl) rfl rfl ?_
          refine xvalP (pv_bin2 rfl rfl rfl) rfl rfl ?_
          refine xnil ?_
          refine xthen ?_
          by_cases hp340 : 0 < iv235
          · replace h := h.1 hp340
            refine xcondT' (decide_eq_true hp340) rfl ?_
            refine xregion ?_
            refine xvalP (pv_move rfl) rfl rfl ?_
            obtain ⟨h341, h⟩ := h
            refine xvalP (pv_addS h341 rfl rfl) rfl rfl ?_
            refine xvalP (pv_assign rfl) rfl rfl ?_
            refine xnil ?_
            exact xmeet ⟨(want234 ++ ((⟨#[32]⟩ : ByteArray))), h, rfl⟩ ⟨(.cons rfl (.refl _) (.cons rfl (.refl _) (.cons rfl (.refl _) (.nil _)))), (SubM.of (.nil _) (.nil _))⟩
          · replace h := h.2 hp340
            refine xcondF' (decide_eq_false hp340) rfl ?_
            refine xskipc ?_
            exact xmeet ⟨want234, h, rfl⟩ ⟨(.cons rfl (.refl _) (.cons rfl (.refl _) (.cons rfl (.refl _) (.nil _)))), (SubM.of (.nil _) (.nil _))⟩
        · clear h
          rintro _ ⟨want338, h, rfl⟩
          refine xregion ?_
          refine xvalP (pv_move rfl) rfl rfl ?_
          refine xvalP (pv_move rfl) rfl rfl ?_
          refine xvalP (pv_move rfl) rfl rfl ?_
          obtain ⟨h343a, h⟩ := h
          obtain ⟨y342, h343b, h⟩ := h
          refine xvalP (pv_indexAddrM h343a h343b UndC.h ShpC.h rfl rfl) rfl rfl ?_
          refine xval (qv_load ShpC.h rfl rfl rfl) rfl rfl ?_
          obtain ⟨h344, h⟩ := h
          refine xvalP (pv_addS h344 rfl rfl) rfl rfl ?_
          refine xvalP (pv_assign rfl) rfl rfl ?_
          refine xnil ?_
          refine xin_normal ?_
          refine xthen ?_
          refine xregion ?_
          refine xvalP (pv_move rfl) rfl rfl ?_
          obtain ⟨h345, h⟩ := h
          refine xvalP (pv_addI h345 rfl rfl) rfl rfl ?_
          refine xvalP (pv_assign rfl) rfl rfl ?_
          refine xnil ?_
          obtain ⟨m', hm, hI⟩ := hag1 _ h
          exact xagain ⟨(want338 ++ y342), (iv235 + 1), hI, rfl⟩ hm ⟨(.cons rfl (.refl _) (.cons rfl (.refl _) (.cons rfl (.refl _) (.nil _)))), (SubM.of (.nil _) (.nil _))⟩
    · replace h := h.2 hp296
      refine xcondF' (decide_eq_false hp296) rfl ?_
      refine xexit ?_
      refine xthen_exit ?_
      refine xthen_exit ?_
      refine xin_same rfl ?_
      refine xthen ?_
      refine xseq ?_
      refine xregion ?_
      refine xvalP (pv_move rfl) rfl rfl ?_
      obtain ⟨y353, h352, h⟩ := h
      refine xcall0 (show_Row_con l1 _ h352) Try.func10 (by kernel_rfl) rfl (.cons rfl (.refl _) .nil) rfl rfl ?_
      refine xvalP (pv_move rfl) rfl rfl ?_
      refine xvalP (pv_bin2 rfl rfl rfl) rfl rfl ?_
      refine xvalP (pv_move rfl) rfl rfl ?_
      by_cases hp355 : (y353.toList == want234.toList) = true
      · replace h := h.1 hp355
        refine xsetB 36 hp355 rfl ?_
        obtain ⟨y357, h356, h⟩ := h
        refine xcall0 (palinodelaw04_awake_con _ h356) Try.func7 (by kernel_rfl) rfl .nil rfl rfl ?_
        refine xvalP (pv_pick rfl rfl) rfl rfl ?_
        refine xvalP (pv_assign rfl) rfl rfl ?_
        refine xnil ?_
        refine xthen ?_
        refine xretc ?_
        replace h := h.symm
        subst h
        exact xret1 hg rfl rfl (.refl _) (SubM.of (.nil _) (.nil _)) ⟨rfl, rfl, rfl⟩
      · replace h := h.2 hp355
        refine xsetB 36 (b_f hp355) rfl ?_
        refine xskip rfl rfl ?_
        refine xvalP (pv_pick rfl rfl) rfl rfl ?_
        refine xvalP (pv_assign rfl) rfl rfl ?_
        refine xnil ?_
        refine xthen ?_
        refine xretc ?_
        replace h := h.symm
        subst h
        exact xret1 hg rfl rfl (.refl _) (SubM.of (.nil _) (.nil _)) ⟨rfl, rfl, rfl⟩
end Go.Proofs.Ytefpkpiadnpkeaa
