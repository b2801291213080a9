/- What functions' texts ask for, and the walks that show it (printed by a program). -/
import Derived.Test.YtihbljabeckgmaaGKp2
namespace Go.Proofs.Ytihbljabeckgmaa
/-- palinoderef01.Same -/
def palinoderef01_Same_l1 (a1 : List UInt8) (bv2 : List UInt8) (ag1 : (Int) → Prop) (iv128 : Int) (r : Bool) : Prop :=
  ((iv128 < (a1.length : Int) → 0 ≤ (iv128 : Int) ∧ ∃ y180 : UInt8, a1[(iv128 : Int).toNat]? = some y180 ∧ 0 ≤ (iv128 : Int) ∧ ∃ y182 : UInt8, bv2[(iv128 : Int).toNat]? = some y182 ∧ ((¬ ((y180.toNat : Int) = (y182.toNat : Int)) → r = false) ∧ (¬ (¬ ((y180.toNat : Int) = (y182.toNat : Int))) → InR (iv128 + 1) ∧ ag1 (iv128 + 1)))) ∧ (¬ (iv128 < (a1.length : Int)) → r = true))
def palinoderef01_Same_R (a1 : List UInt8) (bv2 : List UInt8) (r : Bool) : Prop :=
  ((¬ ((a1.length : Int) = (bv2.length : Int)) → r = false) ∧ (¬ (¬ ((a1.length : Int) = (bv2.length : Int))) → LoopR (fun ag1 s => palinoderef01_Same_l1 a1 bv2 ag1 s r) 0))
def palinoderef01_Same_l1_ev (fuel : Nat) (a1 : List UInt8) (bv2 : List UInt8) (ag1e : (Int) → Option (Bool)) (iv128 : Int) : Option (Bool) :=
  (if iv128 < (a1.length : Int) then (if 0 ≤ (iv128 : Int) then ((a1[(iv128 : Int).toNat]?).bind fun y180 => (if 0 ≤ (iv128 : Int) then ((bv2[(iv128 : Int).toNat]?).bind fun y182 => (if ¬ ((y180.toNat : Int) = (y182.toNat : Int)) then some false else (if InR (iv128 + 1) then ag1e (iv128 + 1) else none))) else none)) else none) else some true)
theorem palinoderef01_Same_l1_ok {fuel : Nat} {a1 : List UInt8} {bv2 : List UInt8} {ag1e : (Int) → Option (Bool)} {ag1 : (Int) → Prop} {iv128 : Int} {r : Bool} (hagag1 : ∀ s, ag1e s = some r → ag1 s) (h : palinoderef01_Same_l1_ev fuel a1 bv2 ag1e iv128 = some r) : palinoderef01_Same_l1 a1 bv2 ag1 iv128 r := by
  unfold palinoderef01_Same_l1_ev at h
  unfold palinoderef01_Same_l1
  refine ⟨fun g110 => ?_, fun g110 => ?_⟩
  · rw [if_pos g110] at h
    obtain ⟨g111, h⟩ := if_ok h
    refine ⟨g111, ?_⟩
    obtain ⟨q112, g112, h⟩ := bind_ok h
    refine ⟨q112, g112, ?_⟩
    obtain ⟨g113, h⟩ := if_ok h
    refine ⟨g113, ?_⟩
    obtain ⟨q114, g114, h⟩ := bind_ok h
    refine ⟨q114, g114, ?_⟩
    refine ⟨fun g115 => ?_, fun g115 => ?_⟩
    · rw [if_pos g115] at h
      exact (Option.some.inj h).symm
    · rw [if_neg g115] at h
      obtain ⟨g116, h⟩ := if_ok h
      refine ⟨g116, ?_⟩
      exact hagag1 _ h
  · rw [if_neg g110] at h
    exact (Option.some.inj h).symm
def palinoderef01_Same_ev (fuel : Nat) (a1 : List UInt8) (bv2 : List UInt8) : Option (Bool) :=
  (if ¬ ((a1.length : Int) = (bv2.length : Int)) then some false else (loopE (fun ag1e s => palinoderef01_Same_l1_ev fuel a1 bv2 ag1e s) fuel 0))
theorem palinoderef01_Same_ok {fuel : Nat} {a1 : List UInt8} {bv2 : List UInt8} {r : Bool} (h : palinoderef01_Same_ev fuel a1 bv2 = some r) : palinoderef01_Same_R a1 bv2 r := by
  unfold palinoderef01_Same_ev at h
  unfold palinoderef01_Same_R
  refine ⟨fun g117 => ?_, fun g117 => ?_⟩
  · rw [if_pos g117] at h
    exact (Option.some.inj h).symm
  · rw [if_neg g117] at h
    refine loopE_ok ?_ h
    intro ae ag s hag h
    exact palinoderef01_Same_l1_ok hag h
set_option maxHeartbeats 4000000 in
theorem palinoderef01_Same_con (a1 : List UInt8) (bv2 : List UInt8) (r : Bool) (h : palinoderef01_Same_R a1 bv2 r) : Con Try.prog 27 [.sl 1 none (List.map eb a1), .sl 1 none (List.map eb bv2)] [] [] (Ret (.v (.bool r))) := by
  refine xenter Try.func27 rfl rfl fun g hg => ?_
  simp only [Try.ntmps27, slots]
  refine xseq ?_
  refine xregion ?_
  refine xvalP (pv_assign rfl) rfl rfl ?_
  refine xnil ?_
  refine xthen ?_
  refine xseq ?_
  refine xseq ?_
  refine xregion ?_
  refine xvalP (pv_move rfl) rfl rfl ?_
  refine xvalP (pv_lenM UndC.h rfl) rfl rfl ?_
  refine xvalP (pv_move rfl) rfl rfl ?_
  refine xvalP (pv_lenM UndC.h rfl) rfl rfl ?_
  refine xvalP (pv_bin2 rfl rfl rfl) rfl rfl ?_
  refine xnil ?_
  refine xthen ?_
  by_cases hp10 : ¬ ((a1.length : Int) = (bv2.length : Int))
  · replace h := h.1 hp10
    refine xcondT' (not_t (decide_eq_false hp10)) rfl ?_
    refine xseq ?_
    refine xregion ?_
    refine xvalP (pv_assign rfl) rfl rfl ?_
    refine xnil ?_
    refine xthen ?_
    refine xretc ?_
    refine xthen_ret ?_
    replace h := h.symm
    subst h
    exact xret1 hg rfl rfl (.refl _) (SubM.of (.nil _) (.nil _)) ⟨rfl, rfl, rfl⟩
  · replace h := h.2 hp10
    refine xcondF' (not_f (decide_eq_true (Decidable.of_not_not hp10))) rfl ?_
    refine xskipc ?_
    refine xthen ?_
    refine xseq ?_
    refine xseq ?_
    refine xregion ?_
    refine xvalP (pv_assign rfl) rfl rfl ?_
    refine xnil ?_
    refine xthen ?_
    refine xblock ?_
    obtain ⟨Inv, ⟨m0, hI⟩, hS⟩ := h
    refine xloop (fun σ m => ∃ (iv128 : Int), Inv iv128 m ∧ σ = ⟨[(0, .sl 1 none (List.map eb a1)), (1, .sl 1 none (List.map eb bv2)), (5, .v (.int .i64 iv128))], [], []⟩) ⟨0, hI, rfl⟩ ⟨(.cons rfl (.refl _) (.cons rfl (.refl _) (.cons rfl (.refl _) (.nil _)))), (SubM.of (.nil _) (.nil _))⟩ ?_
    rintro _ m ⟨iv128, hI, rfl⟩
    obtain ⟨ag1, hag1, h⟩ : ∃ ag, (∀ s', ag s' → ∃ m', m' < m ∧ Inv s' m') ∧ palinoderef01_Same_l1 a1 bv2 ag iv128 r := ⟨_, fun _ h => h, hS iv128 _ hI⟩
    clear hS hI
    refine xseq ?_
    refine xseq ?_
    refine xregion ?_
    refine xvalP (pv_move rfl) rfl rfl ?_
    refine xvalP (pv_move rfl) rfl rfl ?_
    refine xvalP (pv_lenM UndC.h rfl) rfl rfl ?_
    refine xvalP (pv_bin2 rfl rfl rfl) rfl rfl ?_
    refine xnil ?_
    refine xthen ?_
    by_cases hp163 : iv128 < (a1.length : Int)
    · replace h := h.1 hp163
      refine xcondT' (decide_eq_true hp163) rfl ?_
      refine xskipc ?_
      refine xthen ?_
      refine xseq ?_
      refine xblock ?_
      refine xseq ?_
      refine xregionD (m := 9) (by kernel_rfl) rfl ?_
      obtain ⟨h181a, h⟩ := h
      obtain ⟨y180, h181b, h⟩ := h
      obtain ⟨h183a, h⟩ := h
      obtain ⟨y182, h183b, h⟩ := h
      refine xpval 0 rfl (pv_move rfl) rfl rfl (by kernel_rfl) (by kernel_rfl) (by kernel_rfl) (fun _ _ _ _ h => h) ?_
      refine xpval 1 rfl (pv_move rfl) rfl rfl (by kernel_rfl) (by kernel_rfl) (by kernel_rfl) (fun _ _ _ _ h => h) ?_
      refine xpval 2 rfl (pv_indexAddrM h181a h181b UndC.h ShpC.h rfl rfl) rfl rfl (by kernel_rfl) (by kernel_rfl) (by kernel_rfl) (fun _ _ _ _ h => h) ?_
      refine xpval 4 rfl (pv_move rfl) rfl rfl (by kernel_rfl) (by kernel_rfl) (by kernel_rfl) (fun _ _ _ _ h => h) ?_
      refine xpval 5 rfl (pv_move rfl) rfl rfl (by kernel_rfl) (by kernel_rfl) (by kernel_rfl) (fun _ _ _ _ h => h) ?_
      refine xpval 6 rfl (pv_indexAddrM h183a h183b UndC.h ShpC.h rfl rfl) rfl rfl (by kernel_rfl) (by kernel_rfl) (by kernel_rfl) (fun _ _ _ _ h => h) ?_
      refine xpvalE 3 [7] rfl (qv_load ShpC.h rfl rfl rfl) rfl rfl (by kernel_rfl) (by kernel_rfl) (by kernel_rfl) (fun _ _ _ _ h => h) ?_
      refine xpvalE 7 [] rfl (qv_load ShpC.h rfl rfl rfl) rfl rfl (by kernel_rfl) (by kernel_rfl) (by kernel_rfl) (fun _ _ _ _ h => h) ?_
      refine xpval 8 rfl (pv_bin2 rfl rfl rfl) rfl rfl (by kernel_rfl) (by kernel_rfl) (by kernel_rfl) (fun _ _ _ _ h => h) ?_
      refine xpdone (by kernel_rfl) ?_
      refine xthen ?_
      by_cases hp185 : ¬ ((y180.toNat : Int) = (y182.toNat : Int))
      · replace h := h.1 hp185
        refine xcondT' (not_t (decide_eq_false hp185)) rfl ?_
        refine xseq ?_
        refine xregion ?_
        refine xvalP (pv_assign rfl) rfl rfl ?_
        refine xnil ?_
        refine xthen ?_
        refine xretc ?_
        refine xin_ret ?_
        refine xthen_ret ?_
        refine xthen_ret ?_
        refine xin_ret ?_
        refine xthen_ret ?_
        replace h := h.symm
        subst h
        exact xret1 hg rfl rfl (.refl _) (SubM.of (.nil _) (.nil _)) ⟨rfl, rfl, rfl⟩
      · replace h := h.2 hp185
        refine xcondF' (not_f (decide_eq_true (Decidable.of_not_not hp185))) rfl ?_
        refine xskipc ?_
        refine xin_normal ?_
        refine xthen ?_
        refine xregion ?_
        refine xvalP (pv_move rfl) rfl rfl ?_
        obtain ⟨h186, h⟩ := h
        refine xvalP (pv_addI h186 rfl rfl) rfl rfl ?_
        refine xvalP (pv_assign rfl) rfl rfl ?_
        refine xnil ?_
        obtain ⟨m', hm, hI⟩ := hag1 _ h
        exact xagain ⟨(iv128 + 1), hI, rfl⟩ hm ⟨(.cons rfl (.refl _) (.cons rfl (.refl _) (.cons rfl (.refl _) (.nil _)))), (SubM.of (.nil _) (.nil _))⟩
    · replace h := h.2 hp163
      refine xcondF' (decide_eq_false hp163) rfl ?_
      refine xexit ?_
      refine xthen_exit ?_
      refine xthen_exit ?_
      refine xin_same rfl ?_
      refine xthen ?_
      refine xseq ?_
      refine xregion ?_
      refine xvalP (pv_assign rfl) rfl rfl ?_
      refine xnil ?_
      refine xthen ?_
      refine xretc ?_
      replace h := h.symm
      subst h
      exact xret1 hg rfl rfl (.refl _) (SubM.of (.nil _) (.nil _)) ⟨rfl, rfl, rfl⟩
/-- palinoderef02.Same -/
def palinoderef02_Same_l1 (a1 : List ((List UInt8) × Bool)) (bv2 : List ((List UInt8) × Bool)) (ag1 : (Int) → Prop) (iv240 : Int) (r : Bool) : Prop :=
  ((iv240 < (a1.length : Int) → 0 ≤ (iv240 : Int) ∧ ∃ y341 : (List UInt8) × Bool, a1[(iv240 : Int).toNat]? = some y341 ∧ 0 ≤ (iv240 : Int) ∧ ∃ y343 : (List UInt8) × Bool, bv2[(iv240 : Int).toNat]? = some y343 ∧ ((¬ ((y341.2 == y343.2) = true) → r = false) ∧ (¬ (¬ ((y341.2 == y343.2) = true)) → 0 ≤ (iv240 : Int) ∧ ∃ y347 : (List UInt8) × Bool, a1[(iv240 : Int).toNat]? = some y347 ∧ 0 ≤ (iv240 : Int) ∧ ∃ y349 : (List UInt8) × Bool, bv2[(iv240 : Int).toNat]? = some y349 ∧ ∃ y352 : Bool, palinoderef01_Same_R y347.1 y349.1 y352 ∧ ((¬ (y352 = true) → r = false) ∧ (¬ (¬ (y352 = true)) → InR (iv240 + 1) ∧ ag1 (iv240 + 1)))))) ∧ (¬ (iv240 < (a1.length : Int)) → r = true))
def palinoderef02_Same_R (a1 : List ((List UInt8) × Bool)) (bv2 : List ((List UInt8) × Bool)) (r : Bool) : Prop :=
  ((¬ ((a1.length : Int) = (bv2.length : Int)) → r = false) ∧ (¬ (¬ ((a1.length : Int) = (bv2.length : Int))) → LoopR (fun ag1 s => palinoderef02_Same_l1 a1 bv2 ag1 s r) 0))
def palinoderef02_Same_l1_ev (fuel : Nat) (a1 : List ((List UInt8) × Bool)) (bv2 : List ((List UInt8) × Bool)) (ag1e : (Int) → Option (Bool)) (iv240 : Int) : Option (Bool) :=
  (if iv240 < (a1.length : Int) then (if 0 ≤ (iv240 : Int) then ((a1[(iv240 : Int).toNat]?).bind fun y341 => (if 0 ≤ (iv240 : Int) then ((bv2[(iv240 : Int).toNat]?).bind fun y343 => (if ¬ ((y341.2 == y343.2) = true) then some false else (if 0 ≤ (iv240 : Int) then ((a1[(iv240 : Int).toNat]?).bind fun y347 => (if 0 ≤ (iv240 : Int) then ((bv2[(iv240 : Int).toNat]?).bind fun y349 => ((palinoderef01_Same_ev fuel y347.1 y349.1).bind fun y352 => (if ¬ (y352 = true) then some false else (if InR (iv240 + 1) then ag1e (iv240 + 1) else none)))) else none)) else none))) else none)) else none) else some true)
theorem palinoderef02_Same_l1_ok {fuel : Nat} {a1 : List ((List UInt8) × Bool)} {bv2 : List ((List UInt8) × Bool)} {ag1e : (Int) → Option (Bool)} {ag1 : (Int) → Prop} {iv240 : Int} {r : Bool} (hagag1 : ∀ s, ag1e s = some r → ag1 s) (h : palinoderef02_Same_l1_ev fuel a1 bv2 ag1e iv240 = some r) : palinoderef02_Same_l1 a1 bv2 ag1 iv240 r := by
  unfold palinoderef02_Same_l1_ev at h
  unfold palinoderef02_Same_l1
  refine ⟨fun g118 => ?_, fun g118 => ?_⟩
  · rw [if_pos g118] at h
    obtain ⟨g119, h⟩ := if_ok h
    refine ⟨g119, ?_⟩
    obtain ⟨q120, g120, h⟩ := bind_ok h
    refine ⟨q120, g120, ?_⟩
    obtain ⟨g121, h⟩ := if_ok h
    refine ⟨g121, ?_⟩
    obtain ⟨q122, g122, h⟩ := bind_ok h
    refine ⟨q122, g122, ?_⟩
    refine ⟨fun g123 => ?_, fun g123 => ?_⟩
    · rw [if_pos g123] at h
      exact (Option.some.inj h).symm
    · rw [if_neg g123] at h
      obtain ⟨g124, h⟩ := if_ok h
      refine ⟨g124, ?_⟩
      obtain ⟨q125, g125, h⟩ := bind_ok h
      refine ⟨q125, g125, ?_⟩
      obtain ⟨g126, h⟩ := if_ok h
      refine ⟨g126, ?_⟩
      obtain ⟨q127, g127, h⟩ := bind_ok h
      refine ⟨q127, g127, ?_⟩
      obtain ⟨q128, g128, h⟩ := bind_ok h
      refine ⟨q128, palinoderef01_Same_ok g128, ?_⟩
      refine ⟨fun g129 => ?_, fun g129 => ?_⟩
      · rw [if_pos g129] at h
        exact (Option.some.inj h).symm
      · rw [if_neg g129] at h
        obtain ⟨g130, h⟩ := if_ok h
        refine ⟨g130, ?_⟩
        exact hagag1 _ h
  · rw [if_neg g118] at h
    exact (Option.some.inj h).symm
def palinoderef02_Same_ev (fuel : Nat) (a1 : List ((List UInt8) × Bool)) (bv2 : List ((List UInt8) × Bool)) : Option (Bool) :=
  (if ¬ ((a1.length : Int) = (bv2.length : Int)) then some false else (loopE (fun ag1e s => palinoderef02_Same_l1_ev fuel a1 bv2 ag1e s) fuel 0))
theorem palinoderef02_Same_ok {fuel : Nat} {a1 : List ((List UInt8) × Bool)} {bv2 : List ((List UInt8) × Bool)} {r : Bool} (h : palinoderef02_Same_ev fuel a1 bv2 = some r) : palinoderef02_Same_R a1 bv2 r := by
  unfold palinoderef02_Same_ev at h
  unfold palinoderef02_Same_R
  refine ⟨fun g131 => ?_, fun g131 => ?_⟩
  · rw [if_pos g131] at h
    exact (Option.some.inj h).symm
  · rw [if_neg g131] at h
    refine loopE_ok ?_ h
    intro ae ag s hag h
    exact palinoderef02_Same_l1_ok hag h
set_option maxHeartbeats 4000000 in
theorem palinoderef02_Same_con (a1 : List ((List UInt8) × Bool)) (bv2 : List ((List UInt8) × Bool)) (r : Bool) (h : palinoderef02_Same_R a1 bv2 r) : Con Try.prog 22 [.sl 2 none (List.map E_palinode_api_Line a1), .sl 2 none (List.map E_palinode_api_Line bv2)] [] [] (Ret (.v (.bool r))) := by
  refine xenter Try.func22 rfl rfl fun g hg => ?_
  simp only [Try.ntmps22, slots]
  refine xseq ?_
  refine xregion ?_
  refine xvalP (pv_assign rfl) rfl rfl ?_
  refine xnil ?_
  refine xthen ?_
  refine xseq ?_
  refine xseq ?_
  refine xregion ?_
  refine xvalP (pv_move rfl) rfl rfl ?_
  refine xvalP (pv_lenM UndC.h rfl) rfl rfl ?_
  refine xvalP (pv_move rfl) rfl rfl ?_
  refine xvalP (pv_lenM UndC.h rfl) rfl rfl ?_
  refine xvalP (pv_bin2 rfl rfl rfl) rfl rfl ?_
  refine xnil ?_
  refine xthen ?_
  by_cases hp10 : ¬ ((a1.length : Int) = (bv2.length : Int))
  · replace h := h.1 hp10
    refine xcondT' (not_t (decide_eq_false hp10)) rfl ?_
    refine xseq ?_
    refine xregion ?_
    refine xvalP (pv_assign rfl) rfl rfl ?_
    refine xnil ?_
    refine xthen ?_
    refine xretc ?_
    refine xthen_ret ?_
    replace h := h.symm
    subst h
    exact xret1 hg rfl rfl (.refl _) (SubM.of (.nil _) (.nil _)) ⟨rfl, rfl, rfl⟩
  · replace h := h.2 hp10
    refine xcondF' (not_f (decide_eq_true (Decidable.of_not_not hp10))) rfl ?_
    refine xskipc ?_
    refine xthen ?_
    refine xseq ?_
    refine xseq ?_
    refine xregion ?_
    refine xvalP (pv_assign rfl) rfl rfl ?_
    refine xnil ?_
    refine xthen ?_
    refine xblock ?_
    obtain ⟨Inv, ⟨m0, hI⟩, hS⟩ := h
    refine xloop (fun σ m => ∃ (iv240 : Int), Inv iv240 m ∧ σ = ⟨[(0, .sl 2 none (List.map E_palinode_api_Line a1)), (1, .sl 2 none (List.map E_palinode_api_Line bv2)), (5, .v (.int .i64 iv240))], [], []⟩) ⟨0, hI, rfl⟩ ⟨(.cons rfl (.refl _) (.cons rfl (.refl _) (.cons rfl (.refl _) (.nil _)))), (SubM.of (.nil _) (.nil _))⟩ ?_
    rintro _ m ⟨iv240, hI, rfl⟩
    obtain ⟨ag1, hag1, h⟩ : ∃ ag, (∀ s', ag s' → ∃ m', m' < m ∧ Inv s' m') ∧ palinoderef02_Same_l1 a1 bv2 ag iv240 r := ⟨_, fun _ h => h, hS iv240 _ hI⟩
    clear hS hI
    refine xseq ?_
    refine xseq ?_
    refine xregion ?_
    refine xvalP (pv_move rfl) rfl rfl ?_
    refine xvalP (pv_move rfl) rfl rfl ?_
    refine xvalP (pv_lenM UndC.h rfl) rfl rfl ?_
    refine xvalP (pv_bin2 rfl rfl rfl) rfl rfl ?_
    refine xnil ?_
    refine xthen ?_
    by_cases hp303 : iv240 < (a1.length : Int)
    · replace h := h.1 hp303
      refine xcondT' (decide_eq_true hp303) rfl ?_
      refine xskipc ?_
      refine xthen ?_
      refine xseq ?_
      refine xblock ?_
      refine xseq ?_
      refine xregionD (m := 25) (by kernel_rfl) rfl ?_
      obtain ⟨h342a, h⟩ := h
      obtain ⟨y341, h342b, h⟩ := h
      obtain ⟨h344a, h⟩ := h
      obtain ⟨y343, h344b, h⟩ := h
      refine xpval 0 rfl (pv_move rfl) rfl rfl (by kernel_rfl) (by kernel_rfl) (by kernel_rfl) (fun _ _ _ _ h => h) ?_
      refine xpval 1 rfl (pv_move rfl) rfl rfl (by kernel_rfl) (by kernel_rfl) (by kernel_rfl) (fun _ _ _ _ h => h) ?_
      refine xpval 2 rfl (pv_indexAddrM h342a h342b UndC.h ShpC.h rfl rfl) rfl rfl (by kernel_rfl) (by kernel_rfl) (by kernel_rfl) (fun _ _ _ _ h => h) ?_
      refine xpval 3 rfl (qv_fieldAddrE FldC.h rfl) rfl rfl (by kernel_rfl) (by kernel_rfl) (by kernel_rfl) (fun _ _ _ _ h => h) ?_
      refine xpval 5 rfl (pv_move rfl) rfl rfl (by kernel_rfl) (by kernel_rfl) (by kernel_rfl) (fun _ _ _ _ h => h) ?_
      refine xpval 6 rfl (pv_move rfl) rfl rfl (by kernel_rfl) (by kernel_rfl) (by kernel_rfl) (fun _ _ _ _ h => h) ?_
      refine xpval 7 rfl (pv_indexAddrM h344a h344b UndC.h ShpC.h rfl rfl) rfl rfl (by kernel_rfl) (by kernel_rfl) (by kernel_rfl) (fun _ _ _ _ h => h) ?_
      refine xpval 8 rfl (qv_fieldAddrE FldC.h rfl) rfl rfl (by kernel_rfl) (by kernel_rfl) (by kernel_rfl) (fun _ _ _ _ h => h) ?_
      refine xpvalE 4 [9] rfl (qv_load ShpC.h rfl rfl rfl) rfl rfl (by kernel_rfl) (by kernel_rfl) (by kernel_rfl) (fun _ _ _ _ h => h) ?_
      refine xpvalE 9 [] rfl (qv_load ShpC.h rfl rfl rfl) rfl rfl (by kernel_rfl) (by kernel_rfl) (by kernel_rfl) (fun _ _ _ _ h => h) ?_
      refine xpval 10 rfl (pv_neB UndC.h rfl rfl) rfl rfl (by kernel_rfl) (by kernel_rfl) (by kernel_rfl) (fun _ _ _ _ h => h) ?_
      refine xpval 11 rfl (pv_move rfl) rfl rfl (by kernel_rfl) (by kernel_rfl) (by kernel_rfl) (fun _ _ _ _ h => h) ?_
      by_cases hp346 : ¬ ((y341.2 == y343.2) = true)
      · replace h := h.1 hp346
        refine psetB 28 (not_t (b_f hp346)) rfl ?_
        refine xpskip 12 rfl rfl rfl (by kernel_rfl) (by kernel_rfl) (by kernel_rfl) (fun _ _ _ _ h => h) ?_
        refine xpskip 13 rfl rfl rfl (by kernel_rfl) (by kernel_rfl) (by kernel_rfl) (fun _ _ _ _ h => h) ?_
        refine xpskip 14 rfl rfl rfl (by kernel_rfl) (by kernel_rfl) (by kernel_rfl) (fun _ _ _ _ h => h) ?_
        refine xpskip 15 rfl rfl rfl (by kernel_rfl) (by kernel_rfl) (by kernel_rfl) (fun _ _ _ _ h => h) ?_
        refine xpskip 16 rfl rfl rfl (by kernel_rfl) (by kernel_rfl) (by kernel_rfl) (fun _ _ _ _ h => h) ?_
        refine xpskip 17 rfl rfl rfl (by kernel_rfl) (by kernel_rfl) (by kernel_rfl) (fun _ _ _ _ h => h) ?_
        refine xpskip 18 rfl rfl rfl (by kernel_rfl) (by kernel_rfl) (by kernel_rfl) (fun _ _ _ _ h => h) ?_
        refine xpskip 19 rfl rfl rfl (by kernel_rfl) (by kernel_rfl) (by kernel_rfl) (fun _ _ _ _ h => h) ?_
        refine xpskip 20 rfl rfl rfl (by kernel_rfl) (by kernel_rfl) (by kernel_rfl) (fun _ _ _ _ h => h) ?_
        refine xpskip 21 rfl rfl rfl (by kernel_rfl) (by kernel_rfl) (by kernel_rfl) (fun _ _ _ _ h => h) ?_
        refine xpskip 22 rfl rfl rfl (by kernel_rfl) (by kernel_rfl) (by kernel_rfl) (fun _ _ _ _ h => h) ?_
        refine xpskip 23 rfl rfl rfl (by kernel_rfl) (by kernel_rfl) (by kernel_rfl) (fun _ _ _ _ h => h) ?_
        refine xpval 24 rfl (pv_pick rfl rfl) rfl rfl (by kernel_rfl) (by kernel_rfl) (by kernel_rfl) (fun _ _ _ _ h => h) ?_
        refine xpdone (by kernel_rfl) ?_
        refine xthen ?_
        refine xcondT rfl ?_
        refine xseq ?_
        refine xregion ?_
        refine xvalP (pv_assign rfl) rfl rfl ?_
        refine xnil ?_
        refine xthen ?_
        refine xretc ?_
        refine xin_ret ?_
        refine xthen_ret ?_
        refine xthen_ret ?_
        refine xin_ret ?_
        refine xthen_ret ?_
        replace h := h.symm
        subst h
        exact xret1 hg rfl rfl (.refl _) (SubM.of (.nil _) (.nil _)) ⟨rfl, rfl, rfl⟩
      · replace h := h.2 hp346
        refine psetB 28 (not_f (Decidable.of_not_not hp346)) rfl ?_
        obtain ⟨h348a, h⟩ := h
        obtain ⟨y347, h348b, h⟩ := h
        obtain ⟨h350a, h⟩ := h
        obtain ⟨y349, h350b, h⟩ := h
        obtain ⟨y352, h351, h⟩ := h
        refine xpval 12 rfl (pv_move rfl) rfl rfl (by kernel_rfl) (by kernel_rfl) (by kernel_rfl) (fun _ _ _ _ h => h) ?_
        refine xpval 13 rfl (pv_move rfl) rfl rfl (by kernel_rfl) (by kernel_rfl) (by kernel_rfl) (fun _ _ _ _ h => h) ?_
        refine xpval 14 rfl (pv_indexAddrM h348a h348b UndC.h ShpC.h rfl rfl) rfl rfl (by kernel_rfl) (by kernel_rfl) (by kernel_rfl) (fun _ _ _ _ h => h) ?_
        refine xpval 15 rfl (qv_fieldAddrE FldC.h rfl) rfl rfl (by kernel_rfl) (by kernel_rfl) (by kernel_rfl) (fun _ _ _ _ h => h) ?_
        refine xpval 17 rfl (pv_move rfl) rfl rfl (by kernel_rfl) (by kernel_rfl) (by kernel_rfl) (fun _ _ _ _ h => h) ?_
        refine xpval 18 rfl (pv_move rfl) rfl rfl (by kernel_rfl) (by kernel_rfl) (by kernel_rfl) (fun _ _ _ _ h => h) ?_
        refine xpval 19 rfl (pv_indexAddrM h350a h350b UndC.h ShpC.h rfl rfl) rfl rfl (by kernel_rfl) (by kernel_rfl) (by kernel_rfl) (fun _ _ _ _ h => h) ?_
        refine xpval 20 rfl (qv_fieldAddrE FldC.h rfl) rfl rfl (by kernel_rfl) (by kernel_rfl) (by kernel_rfl) (fun _ _ _ _ h => h) ?_
        refine xpvalE 16 [21] rfl (qv_load ShpC.h rfl rfl rfl) rfl rfl (by kernel_rfl) (by kernel_rfl) (by kernel_rfl) (fun _ _ _ _ h => h) ?_
        refine xpvalE 21 [] rfl (qv_load ShpC.h rfl rfl rfl) rfl rfl (by kernel_rfl) (by kernel_rfl) (by kernel_rfl) (fun _ _ _ _ h => h) ?_
        refine xpstep (i := 22) (by kernel_rfl) rfl ?_
        refine wcall0 (palinoderef01_Same_con y347.1 y349.1 _ h351) Try.func27 (by kernel_rfl) rfl (.cons rfl (.refl _) (.cons rfl (.refl _) .nil)) rfl rfl ?_
        refine xpval 23 rfl (pv_not rfl) rfl rfl (by kernel_rfl) (by kernel_rfl) (by kernel_rfl) (fun _ _ _ _ h => h) ?_
        refine xpval 24 rfl (pv_pick rfl rfl) rfl rfl (by kernel_rfl) (by kernel_rfl) (by kernel_rfl) (fun _ _ _ _ h => h) ?_
        refine xpdone (by kernel_rfl) ?_
        refine xthen ?_
        by_cases hp353 : ¬ (y352 = true)
        · replace h := h.1 hp353
          refine xcondT' (not_t (b_f hp353)) rfl ?_
          refine xseq ?_
          refine xregion ?_
          refine xvalP (pv_assign rfl) rfl rfl ?_
          refine xnil ?_
          refine xthen ?_
          refine xretc ?_
          refine xin_ret ?_
          refine xthen_ret ?_
          refine xthen_ret ?_
          refine xin_ret ?_
          refine xthen_ret ?_
          replace h := h.symm
          subst h
          exact xret1 hg rfl rfl (.refl _) (SubM.of (.nil _) (.nil _)) ⟨rfl, rfl, rfl⟩
        · replace h := h.2 hp353
          refine xcondF' (not_f (Decidable.of_not_not hp353)) rfl ?_
          refine xskipc ?_
          refine xin_normal ?_
          refine xthen ?_
          refine xregion ?_
          refine xvalP (pv_move rfl) rfl rfl ?_
          obtain ⟨h354, h⟩ := h
          refine xvalP (pv_addI h354 rfl rfl) rfl rfl ?_
          refine xvalP (pv_assign rfl) rfl rfl ?_
          refine xnil ?_
          obtain ⟨m', hm, hI⟩ := hag1 _ h
          exact xagain ⟨(iv240 + 1), hI, rfl⟩ hm ⟨(.cons rfl (.refl _) (.cons rfl (.refl _) (.cons rfl (.refl _) (.nil _)))), (SubM.of (.nil _) (.nil _))⟩
    · replace h := h.2 hp303
      refine xcondF' (decide_eq_false hp303) rfl ?_
      refine xexit ?_
      refine xthen_exit ?_
      refine xthen_exit ?_
      refine xin_same rfl ?_
      refine xthen ?_
      refine xseq ?_
      refine xregion ?_
      refine xvalP (pv_assign rfl) rfl rfl ?_
      refine xnil ?_
      refine xthen ?_
      refine xretc ?_
      replace h := h.symm
      subst h
      exact xret1 hg rfl rfl (.refl _) (SubM.of (.nil _) (.nil _)) ⟨rfl, rfl, rfl⟩
/-- palinodelaw18.same -/
def palinodelaw18_same_R (a1 : (List UInt8) × Bool) (bv2 : (List UInt8) × Bool) (r : Bool) : Prop :=
  ∃ y4 : Bool, palinoderef02_Same_R ([a1]) ([bv2]) y4 ∧ r = y4
def palinodelaw18_same_ev (fuel : Nat) (a1 : (List UInt8) × Bool) (bv2 : (List UInt8) × Bool) : Option (Bool) :=
  ((palinoderef02_Same_ev fuel ([a1]) ([bv2])).bind fun y4 => some y4)
theorem palinodelaw18_same_ok {fuel : Nat} {a1 : (List UInt8) × Bool} {bv2 : (List UInt8) × Bool} {r : Bool} (h : palinodelaw18_same_ev fuel a1 bv2 = some r) : palinodelaw18_same_R a1 bv2 r := by
  unfold palinodelaw18_same_ev at h
  unfold palinodelaw18_same_R
  obtain ⟨q132, g132, h⟩ := bind_ok h
  refine ⟨q132, palinoderef02_Same_ok g132, ?_⟩
  exact (Option.some.inj h).symm
set_option maxHeartbeats 4000000 in
theorem palinodelaw18_same_con (a1 : (List UInt8) × Bool) (bv2 : (List UInt8) × Bool) (r : Bool) (h : palinodelaw18_same_R a1 bv2 r) : Con Try.prog 13 [.agg [.sl 1 none (List.map eb a1.1), .v (.bool a1.2)], .agg [.sl 1 none (List.map eb bv2.1), .v (.bool bv2.2)]] [] [] (Ret (.v (.bool r))) := by
  refine xenter Try.func13 rfl rfl fun g hg => ?_
  simp only [Try.ntmps13, slots]
  refine xseq ?_
  refine xregion ?_
  refine xbox rfl rfl rfl rfl fun b2 => ?_
  refine xbox rfl rfl rfl rfl fun b3 => ?_
  refine xvalP (pv_assign rfl) rfl rfl ?_
  refine xnil ?_
  refine xthen ?_
  refine xseq ?_
  refine xregion ?_
  refine xval (qv_loadB 1 ShpC.h rfl rfl rfl rfl) rfl rfl ?_
  refine xbuildSliceM (f := E_palinode_api_Line) [a1] UndC.h InfC.h rfl rfl (by first | exact wkR_of rfl | (repeat (first | exact WkR.nil | refine WkR.cons (by (repeat (first | exact WkL.nil | refine WkL.cons (by first | with_reducible exact Wk.refl _ | exact Wk.nil_own _ | exact Wk.nil_pl _ | with_reducible exact Wk.tok _ _ _ | exact Wk.tok _ _ _ | exact Wk.eq (by first | rfl | (simp []; done) | (simp []; omega))) ?_))) ?_))) rfl rfl rfl rfl fun s6 => ?_
  refine xval (qv_loadB 0 ShpC.h rfl rfl rfl rfl) rfl rfl ?_
  refine xbuildSliceM (f := E_palinode_api_Line) [bv2] UndC.h InfC.h rfl rfl (by first | exact wkR_of rfl | (repeat (first | exact WkR.nil | refine WkR.cons (by (repeat (first | exact WkL.nil | refine WkL.cons (by first | with_reducible exact Wk.refl _ | exact Wk.nil_own _ | exact Wk.nil_pl _ | with_reducible exact Wk.tok _ _ _ | exact Wk.tok _ _ _ | exact Wk.eq (by first | rfl | (simp []; done) | (simp []; omega))) ?_))) ?_))) rfl rfl rfl rfl fun s8 => ?_
  obtain ⟨y4, h3, h⟩ := h
  refine xcall0 (palinoderef02_Same_con ([a1]) ([bv2]) _ h3) Try.func22 (by kernel_rfl) rfl (.cons rfl (.tok _ _ _) (.cons rfl (.tok _ _ _) .nil)) rfl rfl ?_
  refine xvalP (pv_assign rfl) rfl rfl ?_
  refine xnil ?_
  refine xthen ?_
  refine xretc ?_
  replace h := h.symm
  subst h
  exact xret1 hg rfl rfl (.refl _) (SubM.of (.nil _) (.nil _)) ⟨rfl, rfl, rfl⟩
/-- palinoderef18.Same -/
def palinoderef18_Same_j1 (x13 : Bool) (r : Bool) : Prop :=
  r = x13
def palinoderef18_Same_R (a1 : Int × Int × Int × Int × (List UInt8)) (bv2 : Int × Int × Int × Int × (List UInt8)) (r : Bool) : Prop :=
  ((a1.1 = bv2.1 → ((a1.2.1 = bv2.2.1 → ((a1.2.2.1 = bv2.2.2.1 → ((a1.2.2.2.1 = bv2.2.2.2.1 → ∃ y23 : Bool, palinoderef01_Same_R a1.2.2.2.2 bv2.2.2.2.2 y23 ∧ palinoderef18_Same_j1 y23 r) ∧ (¬ (a1.2.2.2.1 = bv2.2.2.2.1) → palinoderef18_Same_j1 false r))) ∧ (¬ (a1.2.2.1 = bv2.2.2.1) → palinoderef18_Same_j1 false r))) ∧ (¬ (a1.2.1 = bv2.2.1) → palinoderef18_Same_j1 false r))) ∧ (¬ (a1.1 = bv2.1) → palinoderef18_Same_j1 false r))
def palinoderef18_Same_j1_ev (fuel : Nat) (x13 : Bool) : Option (Bool) :=
  some x13
theorem palinoderef18_Same_j1_ok {fuel : Nat} {x13 : Bool} {r : Bool} (h : palinoderef18_Same_j1_ev fuel x13 = some r) : palinoderef18_Same_j1 x13 r := by
  unfold palinoderef18_Same_j1_ev at h
  unfold palinoderef18_Same_j1
  exact (Option.some.inj h).symm
def palinoderef18_Same_ev (fuel : Nat) (a1 : Int × Int × Int × Int × (List UInt8)) (bv2 : Int × Int × Int × Int × (List UInt8)) : Option (Bool) :=
  (if a1.1 = bv2.1 then (if a1.2.1 = bv2.2.1 then (if a1.2.2.1 = bv2.2.2.1 then (if a1.2.2.2.1 = bv2.2.2.2.1 then ((palinoderef01_Same_ev fuel a1.2.2.2.2 bv2.2.2.2.2).bind fun y23 => palinoderef18_Same_j1_ev fuel y23) else palinoderef18_Same_j1_ev fuel false) else palinoderef18_Same_j1_ev fuel false) else palinoderef18_Same_j1_ev fuel false) else palinoderef18_Same_j1_ev fuel false)
theorem palinoderef18_Same_ok {fuel : Nat} {a1 : Int × Int × Int × Int × (List UInt8)} {bv2 : Int × Int × Int × Int × (List UInt8)} {r : Bool} (h : palinoderef18_Same_ev fuel a1 bv2 = some r) : palinoderef18_Same_R a1 bv2 r := by
  unfold palinoderef18_Same_ev at h
  unfold palinoderef18_Same_R
  refine ⟨fun g133 => ?_, fun g133 => ?_⟩
  · rw [if_pos g133] at h
    refine ⟨fun g134 => ?_, fun g134 => ?_⟩
    · rw [if_pos g134] at h
      refine ⟨fun g135 => ?_, fun g135 => ?_⟩
      · rw [if_pos g135] at h
        refine ⟨fun g136 => ?_, fun g136 => ?_⟩
        · rw [if_pos g136] at h
          obtain ⟨q137, g137, h⟩ := bind_ok h
          refine ⟨q137, palinoderef01_Same_ok g137, ?_⟩
          exact palinoderef18_Same_j1_ok h
        · rw [if_neg g136] at h
          exact palinoderef18_Same_j1_ok h
      · rw [if_neg g135] at h
        exact palinoderef18_Same_j1_ok h
    · rw [if_neg g134] at h
      exact palinoderef18_Same_j1_ok h
  · rw [if_neg g133] at h
    exact palinoderef18_Same_j1_ok h
set_option maxHeartbeats 4000000 in
theorem palinoderef18_Same_con (a1 : Int × Int × Int × Int × (List UInt8)) (bv2 : Int × Int × Int × Int × (List UInt8)) (r : Bool) (h : palinoderef18_Same_R a1 bv2 r) : Con Try.prog 16 [.agg [.v (.int .i64 a1.1), .v (.int .i64 a1.2.1), .v (.int .i64 a1.2.2.1), .v (.int .i64 a1.2.2.2.1), .sl 1 none (List.map eb a1.2.2.2.2)], .agg [.v (.int .i64 bv2.1), .v (.int .i64 bv2.2.1), .v (.int .i64 bv2.2.2.1), .v (.int .i64 bv2.2.2.2.1), .sl 1 none (List.map eb bv2.2.2.2.2)]] [] [] (Ret (.v (.bool r))) := by
  refine xenter Try.func16 rfl rfl fun g hg => ?_
  simp only [Try.ntmps16, slots]
  refine xseq ?_
  refine xregion ?_
  refine xbox rfl rfl rfl rfl fun b2 => ?_
  refine xbox rfl rfl rfl rfl fun b3 => ?_
  refine xvalP (pv_assign rfl) rfl rfl ?_
  refine xnil ?_
  refine xthen ?_
  refine xseqM (fun σ => ∃ (x13 : Bool), palinoderef18_Same_j1 x13 r ∧ σ = ⟨[(4, .v (.bool x13))], [], []⟩) ?_ ?_
  · refine xregion ?_
    refine xvalP (qv_fieldAddrB FldC.h rfl) rfl rfl ?_
    refine xval (qv_loadB 1 ShpC.h rfl rfl rfl rfl) rfl rfl ?_
    refine xvalP (qv_fieldAddrB FldC.h rfl) rfl rfl ?_
    refine xval (qv_loadB 0 ShpC.h rfl rfl rfl rfl) rfl rfl ?_
    refine xvalP (pv_bin2 rfl rfl rfl) rfl rfl ?_
    refine xvalP (pv_move rfl) rfl rfl ?_
    by_cases hp15 : a1.1 = bv2.1
    · replace h := h.1 hp15
      refine xsetB 10 (decide_eq_true hp15) rfl ?_
      refine xvalP (qv_fieldAddrB FldC.h rfl) rfl rfl ?_
      refine xval (qv_loadB 1 ShpC.h rfl rfl rfl rfl) rfl rfl ?_
      refine xvalP (qv_fieldAddrB FldC.h rfl) rfl rfl ?_
      refine xval (qv_loadB 0 ShpC.h rfl rfl rfl rfl) rfl rfl ?_
      refine xvalP (pv_bin2 rfl rfl rfl) rfl rfl ?_
      refine xvalP (pv_pick rfl rfl) rfl rfl ?_
      refine xvalP (pv_move rfl) rfl rfl ?_
      by_cases hp17 : a1.2.1 = bv2.2.1
      · replace h := h.1 hp17
        refine xsetB 17 (decide_eq_true hp17) rfl ?_
        refine xvalP (qv_fieldAddrB FldC.h rfl) rfl rfl ?_
        refine xval (qv_loadB 1 ShpC.h rfl rfl rfl rfl) rfl rfl ?_
        refine xvalP (qv_fieldAddrB FldC.h rfl) rfl rfl ?_
        refine xval (qv_loadB 0 ShpC.h rfl rfl rfl rfl) rfl rfl ?_
        refine xvalP (pv_bin2 rfl rfl rfl) rfl rfl ?_
        refine xvalP (pv_pick rfl rfl) rfl rfl ?_
        refine xvalP (pv_move rfl) rfl rfl ?_
        by_cases hp19 : a1.2.2.1 = bv2.2.2.1
        · replace h := h.1 hp19
          refine xsetB 24 (decide_eq_true hp19) rfl ?_
          refine xvalP (qv_fieldAddrB FldC.h rfl) rfl rfl ?_
          refine xval (qv_loadB 1 ShpC.h rfl rfl rfl rfl) rfl rfl ?_
          refine xvalP (qv_fieldAddrB FldC.h rfl) rfl rfl ?_
          refine xval (qv_loadB 0 ShpC.h rfl rfl rfl rfl) rfl rfl ?_
          refine xvalP (pv_bin2 rfl rfl rfl) rfl rfl ?_
          refine xvalP (pv_pick rfl rfl) rfl rfl ?_
          refine xvalP (pv_move rfl) rfl rfl ?_
          by_cases hp21 : a1.2.2.2.1 = bv2.2.2.2.1
          · replace h := h.1 hp21
            refine xsetB 31 (decide_eq_true hp21) rfl ?_
            refine xvalP (qv_fieldAddrB FldC.h rfl) rfl rfl ?_
            refine xval (qv_loadB 1 ShpC.h rfl rfl rfl rfl) rfl rfl ?_
            refine xvalP (qv_fieldAddrB FldC.h rfl) rfl rfl ?_
            refine xval (qv_loadB 0 ShpC.h rfl rfl rfl rfl) rfl rfl ?_
            obtain ⟨y23, h22, h⟩ := h
            refine xcall0 (palinoderef01_Same_con a1.2.2.2.2 bv2.2.2.2.2 _ h22) Try.func27 (by kernel_rfl) rfl (.cons rfl (.refl _) (.cons rfl (.refl _) .nil)) rfl rfl ?_
            refine xvalP (pv_pick rfl rfl) rfl rfl ?_
            refine xvalP (pv_assign rfl) rfl rfl ?_
            refine xnil ?_
            exact xmeet ⟨y23, h, rfl⟩ ⟨(.cons rfl (.refl _) (.nil _)), (SubM.of (.nil _) (.nil _))⟩
          · replace h := h.2 hp21
            refine xsetB 31 (decide_eq_false hp21) rfl ?_
            refine xskip rfl rfl ?_
            refine xskip rfl rfl ?_
            refine xskip rfl rfl ?_
            refine xskip rfl rfl ?_
            refine xskip rfl rfl ?_
            refine xvalP (pv_pick rfl rfl) rfl rfl ?_
            refine xvalP (pv_assign rfl) rfl rfl ?_
            refine xnil ?_
            exact xmeet ⟨false, h, rfl⟩ ⟨(.cons rfl (.refl _) (.nil _)), (SubM.of (.nil _) (.nil _))⟩
        · replace h := h.2 hp19
          refine xsetB 24 (decide_eq_false hp19) rfl ?_
          refine xskip rfl rfl ?_
          refine xskip rfl rfl ?_
          refine xskip rfl rfl ?_
          refine xskip rfl rfl ?_
          refine xskip rfl rfl ?_
          refine xvalP (pv_pick rfl rfl) rfl rfl ?_
          refine xvalP (pv_move rfl) rfl rfl ?_
          refine xskip rfl rfl ?_
          refine xskip rfl rfl ?_
          refine xskip rfl rfl ?_
          refine xskip rfl rfl ?_
          refine xskip rfl rfl ?_
          refine xvalP (pv_pick rfl rfl) rfl rfl ?_
          refine xvalP (pv_assign rfl) rfl rfl ?_
          refine xnil ?_
          exact xmeet ⟨false, h, rfl⟩ ⟨(.cons rfl (.refl _) (.nil _)), (SubM.of (.nil _) (.nil _))⟩
      · replace h := h.2 hp17
        refine xsetB 17 (decide_eq_false hp17) rfl ?_
        refine xskip rfl rfl ?_
        refine xskip rfl rfl ?_
        refine xskip rfl rfl ?_
        refine xskip rfl rfl ?_
        refine xskip rfl rfl ?_
        refine xvalP (pv_pick rfl rfl) rfl rfl ?_
        refine xvalP (pv_move rfl) rfl rfl ?_
        refine xskip rfl rfl ?_
        refine xskip rfl rfl ?_
        refine xskip rfl rfl ?_
        refine xskip rfl rfl ?_
        refine xskip rfl rfl ?_
        refine xvalP (pv_pick rfl rfl) rfl rfl ?_
        refine xvalP (pv_move rfl) rfl rfl ?_
        refine xskip rfl rfl ?_
        refine xskip rfl rfl ?_
        refine xskip rfl rfl ?_
        refine xskip rfl rfl ?_
        refine xskip rfl rfl ?_
        refine xvalP (pv_pick rfl rfl) rfl rfl ?_
        refine xvalP (pv_assign rfl) rfl rfl ?_
        refine xnil ?_
        exact xmeet ⟨false, h, rfl⟩ ⟨(.cons rfl (.refl _) (.nil _)), (SubM.of (.nil _) (.nil _))⟩
    · replace h := h.2 hp15
      refine xsetB 10 (decide_eq_false hp15) rfl ?_
      refine xskip rfl rfl ?_
      refine xskip rfl rfl ?_
      refine xskip rfl rfl ?_
      refine xskip rfl rfl ?_
      refine xskip rfl rfl ?_
      refine xvalP (pv_pick rfl rfl) rfl rfl ?_
      refine xvalP (pv_move rfl) rfl rfl ?_
      refine xskip rfl rfl ?_
      refine xskip rfl rfl ?_
      refine xskip rfl rfl ?_
      refine xskip rfl rfl ?_
      refine xskip rfl rfl ?_
      refine xvalP (pv_pick rfl rfl) rfl rfl ?_
      refine xvalP (pv_move rfl) rfl rfl ?_
      refine xskip rfl rfl ?_
      refine xskip rfl rfl ?_
      refine xskip rfl rfl ?_
      refine xskip rfl rfl ?_
      refine xskip rfl rfl ?_
      refine xvalP (pv_pick rfl rfl) rfl rfl ?_
      refine xvalP (pv_move rfl) rfl rfl ?_
      refine xskip rfl rfl ?_
      refine xskip rfl rfl ?_
      refine xskip rfl rfl ?_
      refine xskip rfl rfl ?_
      refine xskip rfl rfl ?_
      refine xvalP (pv_pick rfl rfl) rfl rfl ?_
      refine xvalP (pv_assign rfl) rfl rfl ?_
      refine xnil ?_
      exact xmeet ⟨false, h, rfl⟩ ⟨(.cons rfl (.refl _) (.nil _)), (SubM.of (.nil _) (.nil _))⟩
  · clear h
    rintro _ ⟨x13, h, rfl⟩
    refine xretc ?_
    replace h := h.symm
    subst h
    exact xret1 hg rfl rfl (.refl _) (SubM.of (.nil _) (.nil _)) ⟨rfl, rfl, rfl⟩
/-- feed.Last$1 -/
def feed_Last_c1_R (o1 : List (ByteArray × (List UInt8))) (name2 : ByteArray) (r : Bool) : Prop :=
  ∃ y4 : (List UInt8) × Bool, feed_get_R o1 name2 y4 ∧ r = (decide (0 < (y4.1.length : Int)))
def feed_Last_c1_ev (fuel : Nat) (o1 : List (ByteArray × (List UInt8))) (name2 : ByteArray) : Option (Bool) :=
  ((feed_get_ev fuel o1 name2).bind fun y4 => some (decide (0 < (y4.1.length : Int))))
theorem feed_Last_c1_ok {fuel : Nat} {o1 : List (ByteArray × (List UInt8))} {name2 : ByteArray} {r : Bool} (h : feed_Last_c1_ev fuel o1 name2 = some r) : feed_Last_c1_R o1 name2 r := by
  unfold feed_Last_c1_ev at h
  unfold feed_Last_c1_R
  obtain ⟨q138, g138, h⟩ := bind_ok h
  refine ⟨q138, feed_get_ok g138, ?_⟩
  exact (Option.some.inj h).symm
set_option maxHeartbeats 4000000 in
theorem feed_Last_c1_con (o1 : List (ByteArray × (List UInt8))) (name2 : ByteArray) (bx0 : Nat) (r : Bool) (h : feed_Last_c1_R o1 name2 r) : Con Try.prog 30 [.v (.string name2), .v (.pointer (some ⟨bx0, 0, none⟩))] [⟨bx0, 22, [.sl 2 none (List.map E_palinode_api_File o1)]⟩] [] (fun rr bx tk => rr = .v (.bool r) ∧ bx = [⟨bx0, 22, [.sl 2 none (List.map E_palinode_api_File o1)]⟩] ∧ tk = []) := by
  refine xenter Try.func30 rfl rfl fun g hg => ?_
  simp only [Try.ntmps30, slots]
  refine xseq ?_
  refine xregion ?_
  refine xvalP (pv_assign rfl) rfl rfl ?_
  refine xnil ?_
  refine xthen ?_
  refine xseq ?_
  refine xregion ?_
  refine xval (qv_loadB 0 ShpC.h rfl rfl rfl rfl) rfl rfl ?_
  refine xvalP (pv_move rfl) rfl rfl ?_
  obtain ⟨y4, h3, h⟩ := h
  refine xcallF (Fb := [⟨bx0, 22, [.sl 2 none (List.map E_palinode_api_File o1)]⟩]) (Ft := []) (feed_get_con o1 name2 _ h3) Try.func24 (by kernel_rfl) rfl (.cons rfl (.refl _) (.cons rfl (.refl _) .nil)) (by exact (SubM.of (by repeat (first | with_reducible exact SubB.refl _ | exact SubB.nil _ | refine SubB.keep rfl rfl (by first | with_reducible exact WkL.refl _ | ((repeat (first | exact WkL.nil | refine WkL.cons (by first | with_reducible exact Wk.refl _ | exact Wk.nil_own _ | exact Wk.nil_pl _ | with_reducible exact Wk.tok _ _ _ | exact Wk.tok _ _ _ | exact Wk.eq (by first | rfl | (simp []; done) | (simp []; omega))) ?_)); done) | exact WkL.refl _) ?_ | refine SubB.drop ?_)) (by repeat (first | exact SubT.nil _ | refine SubT.add ?_ | (refine SubT.keep ?_ ?_; focus (first | with_reducible rfl | (simp []; done))) | refine SubT.drop ?_)))) rfl rfl ?_
  rintro _ _ _ ⟨rfl, rfl, rfl⟩
  simp only [List.nil_append, List.cons_append]
  refine xvalP (pv_move rfl) rfl rfl ?_
  refine xvalP (pv_extract rfl rfl) rfl rfl ?_
  refine xvalP (pv_extract rfl rfl) rfl rfl ?_
  refine xvalP (pv_assign rfl) rfl rfl ?_
  refine xvalP (pv_assign rfl) rfl rfl ?_
  refine xnil ?_
  refine xthen ?_
  refine xseq ?_
  refine xregion ?_
  refine xvalP (pv_move rfl) rfl rfl ?_
  refine xvalP (pv_lenM UndC.h rfl) rfl rfl ?_
  refine xvalP (pv_bin2 rfl rfl rfl) rfl rfl ?_
  refine xvalP (pv_assign rfl) rfl rfl ?_
  refine xnil ?_
  refine xthen ?_
  refine xretc ?_
  replace h := h.symm
  subst h
  exact xret1 hg rfl rfl (.refl _) (SubM.of (.keep rfl rfl (.refl _) (.nil _)) (.nil _)) ⟨rfl, rfl, rfl⟩
/-- slices.IndexFunc [ []string,string] -/
def slices_IndexFunc_v2_l1 (sv2 : List ByteArray) (o1 : List (ByteArray × (List UInt8))) (ag1 : (Int) → Prop) (x62 : Int) (r : Int) : Prop :=
  ((x62 < (sv2.length : Int) → 0 ≤ (x62 : Int) ∧ ∃ y85 : ByteArray, sv2[(x62 : Int).toNat]? = some y85 ∧ ∃ y88 : Bool, feed_Last_c1_R o1 y85 y88 ∧ ((y88 = true → r = x62) ∧ (¬ (y88 = true) → InR (x62 + 1) ∧ ag1 (x62 + 1)))) ∧ (¬ (x62 < (sv2.length : Int)) → r = (-1)))
def slices_IndexFunc_v2_R (o1 : List (ByteArray × (List UInt8))) (sv2 : List ByteArray) (r : Int) : Prop :=
  LoopR (fun ag1 s => slices_IndexFunc_v2_l1 sv2 o1 ag1 s r) 0
def slices_IndexFunc_v2_l1_ev (fuel : Nat) (sv2 : List ByteArray) (o1 : List (ByteArray × (List UInt8))) (ag1e : (Int) → Option (Int)) (x62 : Int) : Option (Int) :=
  (if x62 < (sv2.length : Int) then (if 0 ≤ (x62 : Int) then ((sv2[(x62 : Int).toNat]?).bind fun y85 => ((feed_Last_c1_ev fuel o1 y85).bind fun y88 => (if y88 = true then some x62 else (if InR (x62 + 1) then ag1e (x62 + 1) else none)))) else none) else some (-1))
theorem slices_IndexFunc_v2_l1_ok {fuel : Nat} {sv2 : List ByteArray} {o1 : List (ByteArray × (List UInt8))} {ag1e : (Int) → Option (Int)} {ag1 : (Int) → Prop} {x62 : Int} {r : Int} (hagag1 : ∀ s, ag1e s = some r → ag1 s) (h : slices_IndexFunc_v2_l1_ev fuel sv2 o1 ag1e x62 = some r) : slices_IndexFunc_v2_l1 sv2 o1 ag1 x62 r := by
  unfold slices_IndexFunc_v2_l1_ev at h
  unfold slices_IndexFunc_v2_l1
  refine ⟨fun g139 => ?_, fun g139 => ?_⟩
  · rw [if_pos g139] at h
    obtain ⟨g140, h⟩ := if_ok h
    refine ⟨g140, ?_⟩
    obtain ⟨q141, g141, h⟩ := bind_ok h
    refine ⟨q141, g141, ?_⟩
    obtain ⟨q142, g142, h⟩ := bind_ok h
    refine ⟨q142, feed_Last_c1_ok g142, ?_⟩
    refine ⟨fun g143 => ?_, fun g143 => ?_⟩
    · rw [if_pos g143] at h
      exact (Option.some.inj h).symm
    · rw [if_neg g143] at h
      obtain ⟨g144, h⟩ := if_ok h
      refine ⟨g144, ?_⟩
      exact hagag1 _ h
  · rw [if_neg g139] at h
    exact (Option.some.inj h).symm
def slices_IndexFunc_v2_ev (fuel : Nat) (o1 : List (ByteArray × (List UInt8))) (sv2 : List ByteArray) : Option (Int) :=
  (loopE (fun ag1e s => slices_IndexFunc_v2_l1_ev fuel sv2 o1 ag1e s) fuel 0)
theorem slices_IndexFunc_v2_ok {fuel : Nat} {o1 : List (ByteArray × (List UInt8))} {sv2 : List ByteArray} {r : Int} (h : slices_IndexFunc_v2_ev fuel o1 sv2 = some r) : slices_IndexFunc_v2_R o1 sv2 r := by
  unfold slices_IndexFunc_v2_ev at h
  unfold slices_IndexFunc_v2_R
  refine loopE_ok ?_ h
  intro ae ag s hag h
  exact slices_IndexFunc_v2_l1_ok hag h
set_option maxHeartbeats 4000000 in
theorem slices_IndexFunc_v2_con (o1 : List (ByteArray × (List UInt8))) (sv2 : List ByteArray) (bx0 : Nat) (r : Int) (h : slices_IndexFunc_v2_R o1 sv2 r) : Con Try.prog 34 [.sl 1 none (List.map es sv2), .v (.func (.func 30) #[] #[.pointer (some ⟨bx0, 0, none⟩)])] [⟨bx0, 22, [.sl 2 none (List.map E_palinode_api_File o1)]⟩] [] (fun rr bx tk => rr = .v (.int .i64 r) ∧ bx = [⟨bx0, 22, [.sl 2 none (List.map E_palinode_api_File o1)]⟩] ∧ tk = []) := by
  refine xenter Try.func34 rfl rfl fun g hg => ?_
  simp only [Try.ntmps34, slots]
  refine xseq ?_
  refine xregion ?_
  refine xvalP (pv_assign rfl) rfl rfl ?_
  refine xnil ?_
  refine xthen ?_
  refine xseq ?_
  refine xseq ?_
  refine xregion ?_
  refine xvalP (pv_move rfl) rfl rfl ?_
  refine xvalP (pv_lenM UndC.h rfl) rfl rfl ?_
  refine xvalP (pv_move rfl) rfl rfl ?_
  refine xnil ?_
  refine xthen ?_
  refine xblock ?_
  obtain ⟨Inv, ⟨m0, hI⟩, hS⟩ := h
  refine xloop (fun σ m => ∃ (x62 : Int), Inv x62 m ∧ σ = ⟨[(0, .sl 1 none (List.map es sv2)), (1, .v (.func (.func 30) #[] #[.pointer (some ⟨bx0, 0, none⟩)])), (7, .v (.int .i64 ((sv2.length : Int)))), (8, .v (.int .i64 x62))], [⟨bx0, 22, [.sl 2 none (List.map E_palinode_api_File o1)]⟩], []⟩) ⟨0, hI, rfl⟩ ⟨(.cons rfl (.refl _) (.cons rfl (.refl _) (.cons rfl (.refl _) (.cons rfl (.refl _) (.nil _))))), (SubM.of (.keep rfl rfl (.refl _) (.nil _)) (.nil _))⟩ ?_
  rintro _ m ⟨x62, hI, rfl⟩
  obtain ⟨ag1, hag1, h⟩ : ∃ ag, (∀ s', ag s' → ∃ m', m' < m ∧ Inv s' m') ∧ slices_IndexFunc_v2_l1 sv2 o1 ag x62 r := ⟨_, fun _ h => h, hS x62 _ hI⟩
  clear hS hI
  refine xseq ?_
  refine xregion ?_
  refine xvalP (pv_bin2 rfl rfl rfl) rfl rfl ?_
  refine xnil ?_
  refine xthen ?_
  refine xseq ?_
  by_cases hp79 : x62 < (sv2.length : Int)
  · replace h := h.1 hp79
    refine xcondT' (decide_eq_true hp79) rfl ?_
    refine xskipc ?_
    refine xthen ?_
    refine xseq ?_
    refine xblock ?_
    refine xseq ?_
    refine xregion ?_
    refine xvalP (pv_move rfl) rfl rfl ?_
    refine xvalP (pv_assign rfl) rfl rfl ?_
    refine xnil ?_
    refine xthen ?_
    refine xseq ?_
    refine xregion ?_
    refine xvalP (pv_move rfl) rfl rfl ?_
    refine xvalP (pv_move rfl) rfl rfl ?_
    refine xvalP (pv_move rfl) rfl rfl ?_
    obtain ⟨h86a, h⟩ := h
    obtain ⟨y85, h86b, h⟩ := h
    refine xvalP (pv_indexAddrM h86a h86b UndC.h ShpC.h rfl rfl) rfl rfl ?_
    refine xval (qv_load ShpC.h rfl rfl rfl) rfl rfl ?_
    obtain ⟨y88, h87, h⟩ := h
    refine xcallV (sa := [.v (.string y85)]) (Fb := []) (Ft := []) (feed_Last_c1_con o1 y85 bx0 _ h87) Try.func30 (by kernel_rfl) rfl rfl (.cons rfl (.refl _) .nil) rfl (by exact (SubM.of (by repeat (first | with_reducible exact SubB.refl _ | exact SubB.nil _ | refine SubB.keep rfl rfl (by first | with_reducible exact WkL.refl _ | ((repeat (first | exact WkL.nil | refine WkL.cons (by first | with_reducible exact Wk.refl _ | exact Wk.nil_own _ | exact Wk.nil_pl _ | with_reducible exact Wk.tok _ _ _ | exact Wk.tok _ _ _ | exact Wk.eq (by first | rfl | (simp []; done) | (simp []; omega))) ?_)); done) | exact WkL.refl _) ?_ | refine SubB.drop ?_)) (by repeat (first | exact SubT.nil _ | refine SubT.add ?_ | (refine SubT.keep ?_ ?_; focus (first | with_reducible rfl | (simp []; done))) | refine SubT.drop ?_)))) rfl rfl ?_
    rintro _ _ _ ⟨rfl, rfl, rfl⟩
    simp only [List.nil_append, List.cons_append]
    refine xnil ?_
    refine xthen ?_
    by_cases hp89 : y88 = true
    · replace h := h.1 hp89
      refine xcondT' hp89 rfl ?_
      refine xseq ?_
      refine xregion ?_
      refine xvalP (pv_move rfl) rfl rfl ?_
      refine xvalP (pv_assign rfl) rfl rfl ?_
      refine xnil ?_
      refine xthen ?_
      refine xretc ?_
      refine xin_ret ?_
      refine xthen_ret ?_
      refine xthen_ret ?_
      refine xin_ret ?_
      refine xthen_ret ?_
      replace h := h.symm
      subst h
      exact xret1 hg rfl rfl (.refl _) (SubM.of (.keep rfl rfl (.refl _) (.nil _)) (.nil _)) ⟨rfl, rfl, rfl⟩
    · replace h := h.2 hp89
      refine xcondF' (b_f hp89) rfl ?_
      refine xskipc ?_
      refine xin_normal ?_
      refine xthen ?_
      refine xregion ?_
      obtain ⟨h90, h⟩ := h
      refine xvalP (pv_addI h90 rfl rfl) rfl rfl ?_
      refine xvalP (pv_move rfl) rfl rfl ?_
      refine xnil ?_
      obtain ⟨m', hm, hI⟩ := hag1 _ h
      exact xagain ⟨(x62 + 1), hI, rfl⟩ hm ⟨(.cons rfl (.refl _) (.cons rfl (.refl _) (.cons rfl (.refl _) (.cons rfl (.refl _) (.nil _))))), (SubM.of (.keep rfl rfl (.refl _) (.nil _)) (.nil _))⟩
  · replace h := h.2 hp79
    refine xcondF' (decide_eq_false hp79) rfl ?_
    refine xexit ?_
    refine xthen_exit ?_
    refine xthen_exit ?_
    refine xin_same rfl ?_
    refine xthen ?_
    refine xseq ?_
    refine xregion ?_
    refine xvalP (pv_assign rfl) rfl rfl ?_
    refine xnil ?_
    refine xthen ?_
    refine xretc ?_
    replace h := h.symm
    subst h
    exact xret1 hg rfl rfl (.refl _) (SubM.of (.keep rfl rfl (.refl _) (.nil _)) (.nil _)) ⟨rfl, rfl, rfl⟩
/-- slices.ContainsFunc [ []string,string] -/
def slices_ContainsFunc_R (o1 : List (ByteArray × (List UInt8))) (sv2 : List ByteArray) (r : Bool) : Prop :=
  ∃ y4 : Int, slices_IndexFunc_v2_R o1 sv2 y4 ∧ r = (decide (0 ≤ y4))
def slices_ContainsFunc_ev (fuel : Nat) (o1 : List (ByteArray × (List UInt8))) (sv2 : List ByteArray) : Option (Bool) :=
  ((slices_IndexFunc_v2_ev fuel o1 sv2).bind fun y4 => some (decide (0 ≤ y4)))
theorem slices_ContainsFunc_ok {fuel : Nat} {o1 : List (ByteArray × (List UInt8))} {sv2 : List ByteArray} {r : Bool} (h : slices_ContainsFunc_ev fuel o1 sv2 = some r) : slices_ContainsFunc_R o1 sv2 r := by
  unfold slices_ContainsFunc_ev at h
  unfold slices_ContainsFunc_R
  obtain ⟨q145, g145, h⟩ := bind_ok h
  refine ⟨q145, slices_IndexFunc_v2_ok g145, ?_⟩
  exact (Option.some.inj h).symm
set_option maxHeartbeats 4000000 in
theorem slices_ContainsFunc_con (o1 : List (ByteArray × (List UInt8))) (sv2 : List ByteArray) (bx0 : Nat) (r : Bool) (h : slices_ContainsFunc_R o1 sv2 r) : Con Try.prog 29 [.sl 1 none (List.map es sv2), .v (.func (.func 30) #[] #[.pointer (some ⟨bx0, 0, none⟩)])] [⟨bx0, 22, [.sl 2 none (List.map E_palinode_api_File o1)]⟩] [] (fun rr bx tk => rr = .v (.bool r) ∧ bx = [⟨bx0, 22, [.sl 2 none (List.map E_palinode_api_File o1)]⟩] ∧ tk = []) := by
  refine xenter Try.func29 rfl rfl fun g hg => ?_
  simp only [Try.ntmps29, slots]
  refine xseq ?_
  refine xregion ?_
  refine xvalP (pv_assign rfl) rfl rfl ?_
  refine xnil ?_
  refine xthen ?_
  refine xseq ?_
  refine xregion ?_
  refine xvalP (pv_move rfl) rfl rfl ?_
  refine xvalP (pv_move rfl) rfl rfl ?_
  obtain ⟨y4, h3, h⟩ := h
  refine xcallF (Fb := []) (Ft := []) (slices_IndexFunc_v2_con o1 sv2 bx0 _ h3) Try.func34 (by kernel_rfl) rfl (.cons rfl (.refl _) (.cons rfl (.refl _) .nil)) (by exact (SubM.of (by repeat (first | with_reducible exact SubB.refl _ | exact SubB.nil _ | refine SubB.keep rfl rfl (by first | with_reducible exact WkL.refl _ | ((repeat (first | exact WkL.nil | refine WkL.cons (by first | with_reducible exact Wk.refl _ | exact Wk.nil_own _ | exact Wk.nil_pl _ | with_reducible exact Wk.tok _ _ _ | exact Wk.tok _ _ _ | exact Wk.eq (by first | rfl | (simp []; done) | (simp []; omega))) ?_)); done) | exact WkL.refl _) ?_ | refine SubB.drop ?_)) (by repeat (first | exact SubT.nil _ | refine SubT.add ?_ | (refine SubT.keep ?_ ?_; focus (first | with_reducible rfl | (simp []; done))) | refine SubT.drop ?_)))) rfl rfl ?_
  rintro _ _ _ ⟨rfl, rfl, rfl⟩
  simp only [List.nil_append, List.cons_append]
  refine xvalP (pv_bin2 rfl rfl rfl) rfl rfl ?_
  refine xvalP (pv_assign rfl) rfl rfl ?_
  refine xnil ?_
  refine xthen ?_
  refine xretc ?_
  replace h := h.symm
  subst h
  exact xret1 hg rfl rfl (.refl _) (SubM.of (.keep rfl rfl (.refl _) (.nil _)) (.nil _)) ⟨rfl, rfl, rfl⟩
/-- feed.Last -/
def feed_Last_R (inv1 : Int × Int × Int × Int × (List UInt8)) (files2 : List (ByteArray × (List UInt8))) (o3 : Bool × Bool × Bool × Bool × (List ByteArray)) (r : Bool) : Prop :=
  ((0 < (inv1.2.2.2.2.length : Int) → r = false) ∧ (¬ (0 < (inv1.2.2.2.2.length : Int)) → ((o3.2.1 = true → r = true) ∧ (¬ (o3.2.1 = true) → ((o3.2.2.1 = true → r = true) ∧ (¬ (o3.2.2.1 = true) → ∃ y19 : (List ByteArray), feed_left_R inv1 o3 y19 ∧ ∃ y21 : Bool, slices_ContainsFunc_R files2 y19 y21 ∧ r = (!y21)))))))
def feed_Last_ev (fuel : Nat) (inv1 : Int × Int × Int × Int × (List UInt8)) (files2 : List (ByteArray × (List UInt8))) (o3 : Bool × Bool × Bool × Bool × (List ByteArray)) : Option (Bool) :=
  (if 0 < (inv1.2.2.2.2.length : Int) then some false else (if o3.2.1 = true then some true else (if o3.2.2.1 = true then some true else ((feed_left_ev fuel inv1 o3).bind fun y19 => ((slices_ContainsFunc_ev fuel files2 y19).bind fun y21 => some (!y21))))))
theorem feed_Last_ok {fuel : Nat} {inv1 : Int × Int × Int × Int × (List UInt8)} {files2 : List (ByteArray × (List UInt8))} {o3 : Bool × Bool × Bool × Bool × (List ByteArray)} {r : Bool} (h : feed_Last_ev fuel inv1 files2 o3 = some r) : feed_Last_R inv1 files2 o3 r := by
  unfold feed_Last_ev at h
  unfold feed_Last_R
  refine ⟨fun g146 => ?_, fun g146 => ?_⟩
  · rw [if_pos g146] at h
    exact (Option.some.inj h).symm
  · rw [if_neg g146] at h
    refine ⟨fun g147 => ?_, fun g147 => ?_⟩
    · rw [if_pos g147] at h
      exact (Option.some.inj h).symm
    · rw [if_neg g147] at h
      refine ⟨fun g148 => ?_, fun g148 => ?_⟩
      · rw [if_pos g148] at h
        exact (Option.some.inj h).symm
      · rw [if_neg g148] at h
        obtain ⟨q149, g149, h⟩ := bind_ok h
        refine ⟨q149, feed_left_ok g149, ?_⟩
        obtain ⟨q150, g150, h⟩ := bind_ok h
        refine ⟨q150, slices_ContainsFunc_ok g150, ?_⟩
        exact (Option.some.inj h).symm
set_option maxHeartbeats 4000000 in
theorem feed_Last_con (inv1 : Int × Int × Int × Int × (List UInt8)) (files2 : List (ByteArray × (List UInt8))) (o3 : Bool × Bool × Bool × Bool × (List ByteArray)) (r : Bool) (h : feed_Last_R inv1 files2 o3 r) : Con Try.prog 18 [.agg [.v (.int .i64 inv1.1), .v (.int .i64 inv1.2.1), .v (.int .i64 inv1.2.2.1), .v (.int .i64 inv1.2.2.2.1), .sl 1 none (List.map eb inv1.2.2.2.2)], .sl 2 none (List.map E_palinode_api_File files2), .agg [.v (.bool o3.1), .v (.bool o3.2.1), .v (.bool o3.2.2.1), .v (.bool o3.2.2.2.1), .sl 1 none (List.map es o3.2.2.2.2)]] [] [] (Ret (.v (.bool r))) := by
  refine xenter Try.func18 rfl rfl fun g hg => ?_
  simp only [Try.ntmps18, slots]
  refine xseq ?_
  refine xregion ?_
  refine xbox rfl rfl rfl rfl fun b3 => ?_
  refine xbox rfl rfl rfl rfl fun b4 => ?_
  refine xbox rfl rfl rfl rfl fun b5 => ?_
  refine xvalP (pv_assign rfl) rfl rfl ?_
  refine xnil ?_
  refine xthen ?_
  refine xseq ?_
  refine xseq ?_
  refine xregion ?_
  refine xvalP (qv_fieldAddrB FldC.h rfl) rfl rfl ?_
  refine xval (qv_loadB 2 ShpC.h rfl rfl rfl rfl) rfl rfl ?_
  refine xvalP (pv_lenM UndC.h rfl) rfl rfl ?_
  refine xvalP (pv_bin2 rfl rfl rfl) rfl rfl ?_
  refine xnil ?_
  refine xthen ?_
  by_cases hp9 : 0 < (inv1.2.2.2.2.length : Int)
  · replace h := h.1 hp9
    refine xcondT' (decide_eq_true hp9) rfl ?_
    refine xseq ?_
    refine xregion ?_
    refine xvalP (pv_assign rfl) rfl rfl ?_
    refine xnil ?_
    refine xthen ?_
    refine xretc ?_
    refine xthen_ret ?_
    replace h := h.symm
    subst h
    exact xret1 hg rfl rfl (.refl _) (SubM.of (.nil _) (.nil _)) ⟨rfl, rfl, rfl⟩
  · replace h := h.2 hp9
    refine xcondF' (decide_eq_false hp9) rfl ?_
    refine xskipc ?_
    refine xthen ?_
    refine xseq ?_
    refine xregion ?_
    refine xvalP (qv_fieldAddrB FldC.h rfl) rfl rfl ?_
    refine xval (qv_loadB 0 ShpC.h rfl rfl rfl rfl) rfl rfl ?_
    refine xvalP (pv_move rfl) rfl rfl ?_
    by_cases hp16 : o3.2.1 = true
    · replace h := h.1 hp16
      refine xsetB 13 hp16 rfl ?_
      refine xskip rfl rfl ?_
      refine xskip rfl rfl ?_
      refine xvalP (pv_pick rfl rfl) rfl rfl ?_
      refine xvalP (pv_move rfl) rfl rfl ?_
      refine xskip rfl rfl ?_
      refine xskip rfl rfl ?_
      refine xskip rfl rfl ?_
      refine xskip rfl rfl ?_
      refine xskip rfl rfl ?_
      refine xskip rfl rfl ?_
      refine xvalP (pv_pick rfl rfl) rfl rfl ?_
      refine xvalP (pv_assign rfl) rfl rfl ?_
      refine xnil ?_
      refine xthen ?_
      refine xretc ?_
      replace h := h.symm
      subst h
      exact xret1 hg rfl rfl (.refl _) (SubM.of (.nil _) (.nil _)) ⟨rfl, rfl, rfl⟩
    · replace h := h.2 hp16
      refine xsetB 13 (b_f hp16) rfl ?_
      refine xvalP (qv_fieldAddrB FldC.h rfl) rfl rfl ?_
      refine xval (qv_loadB 0 ShpC.h rfl rfl rfl rfl) rfl rfl ?_
      refine xvalP (pv_pick rfl rfl) rfl rfl ?_
      refine xvalP (pv_move rfl) rfl rfl ?_
      by_cases hp17 : o3.2.2.1 = true
      · replace h := h.1 hp17
        refine xsetB 17 hp17 rfl ?_
        refine xskip rfl rfl ?_
        refine xskip rfl rfl ?_
        refine xskip rfl rfl ?_
        refine xskip rfl rfl ?_
        refine xskip rfl rfl ?_
        refine xskip rfl rfl ?_
        refine xvalP (pv_pick rfl rfl) rfl rfl ?_
        refine xvalP (pv_assign rfl) rfl rfl ?_
        refine xnil ?_
        refine xthen ?_
        refine xretc ?_
        replace h := h.symm
        subst h
        exact xret1 hg rfl rfl (.refl _) (SubM.of (.nil _) (.nil _)) ⟨rfl, rfl, rfl⟩
      · replace h := h.2 hp17
        refine xsetB 17 (b_f hp17) rfl ?_
        refine xval (qv_loadB 2 ShpC.h rfl rfl rfl rfl) rfl rfl ?_
        refine xval (qv_loadB 0 ShpC.h rfl rfl rfl rfl) rfl rfl ?_
        obtain ⟨y19, h18, h⟩ := h
        refine xcall0 (feed_left_con inv1 o3 _ h18) Try.func23 (by kernel_rfl) rfl (.cons rfl (.refl _) (.cons rfl (.refl _) .nil)) rfl rfl ?_
        refine xvalP (pv_makeFuncC rfl) rfl rfl ?_
        obtain ⟨y21, h20, h⟩ := h
        refine xcallF (Fb := [⟨b5, 25, [.v (.bool o3.1), .v (.bool o3.2.1), .v (.bool o3.2.2.1), .v (.bool o3.2.2.2.1), .sl 1 none (List.map es o3.2.2.2.2)]⟩, ⟨b3, 42, [.v (.int .i64 inv1.1), .v (.int .i64 inv1.2.1), .v (.int .i64 inv1.2.2.1), .v (.int .i64 inv1.2.2.2.1), .sl 1 none (List.map eb inv1.2.2.2.2)]⟩]) (Ft := []) (slices_ContainsFunc_con files2 y19 b4 _ h20) Try.func29 (by kernel_rfl) rfl (.cons rfl (.refl _) (.cons rfl (.refl _) .nil)) (by refine SubM.trans (SubM.mvB 1 rfl) ?_; (simp only [List.eraseIdx]); exact (SubM.of (by repeat (first | with_reducible exact SubB.refl _ | exact SubB.nil _ | refine SubB.keep rfl rfl (by first | with_reducible exact WkL.refl _ | ((repeat (first | exact WkL.nil | refine WkL.cons (by first | with_reducible exact Wk.refl _ | exact Wk.nil_own _ | exact Wk.nil_pl _ | with_reducible exact Wk.tok _ _ _ | exact Wk.tok _ _ _ | exact Wk.eq (by first | rfl | (simp []; done) | (simp []; omega))) ?_)); done) | exact WkL.refl _) ?_ | refine SubB.drop ?_)) (by repeat (first | exact SubT.nil _ | refine SubT.add ?_ | (refine SubT.keep ?_ ?_; focus (first | with_reducible rfl | (simp []; done))) | refine SubT.drop ?_)))) rfl rfl ?_
        rintro _ _ _ ⟨rfl, rfl, rfl⟩
        simp only [List.nil_append, List.cons_append]
        refine xvalP (pv_not rfl) rfl rfl ?_
        refine xvalP (pv_pick rfl rfl) rfl rfl ?_
        refine xvalP (pv_assign rfl) rfl rfl ?_
        refine xnil ?_
        refine xthen ?_
        refine xretc ?_
        replace h := h.symm
        subst h
        exact xret1 hg rfl rfl (.refl _) (SubM.of (.nil _) (.nil _)) ⟨rfl, rfl, rfl⟩
/-- palinoderef18.Last -/
def palinoderef18_Last_j2 (iv189 : Int) (ag1 : (Int) → Prop) (r : Bool) : Prop :=
  InR (iv189 + 1) ∧ ag1 (iv189 + 1)
def palinoderef18_Last_l1 (o3 : Bool × Bool × Bool × Bool × (List ByteArray)) (files2 : List (ByteArray × (List UInt8))) (ag1 : (Int) → Prop) (iv189 : Int) (r : Bool) : Prop :=
  ((iv189 < (o3.2.2.2.2.length : Int) → 0 ≤ (iv189 : Int) ∧ ∃ y254 : ByteArray, o3.2.2.2.2[(iv189 : Int).toNat]? = some y254 ∧ ∃ y257 : Int, palinoderef03_At_R files2 y254 y257 ∧ ((0 ≤ y257 → 0 ≤ (y257 : Int) ∧ ∃ y266 : ByteArray × (List UInt8), files2[(y257 : Int).toNat]? = some y266 ∧ ((0 < (y266.2.length : Int) → r = false) ∧ (¬ (0 < (y266.2.length : Int)) → palinoderef18_Last_j2 iv189 ag1 r))) ∧ (¬ (0 ≤ y257) → palinoderef18_Last_j2 iv189 ag1 r))) ∧ (¬ (iv189 < (o3.2.2.2.2.length : Int)) → r = true))
def palinoderef18_Last_R (inv1 : Int × Int × Int × Int × (List UInt8)) (files2 : List (ByteArray × (List UInt8))) (o3 : Bool × Bool × Bool × Bool × (List ByteArray)) (r : Bool) : Prop :=
  ((0 < (inv1.2.2.2.2.length : Int) → r = false) ∧ (¬ (0 < (inv1.2.2.2.2.length : Int)) → ((o3.2.1 = true → r = true) ∧ (¬ (o3.2.1 = true) → ((o3.2.2.1 = true → r = true) ∧ (¬ (o3.2.2.1 = true) → ((inv1.1 < 0 → r = true) ∧ (¬ (inv1.1 < 0) → LoopR (fun ag1 s => palinoderef18_Last_l1 o3 files2 ag1 s r) inv1.1))))))))
def palinoderef18_Last_j2_ev (fuel : Nat) (iv189 : Int) (ag1e : (Int) → Option (Bool)) : Option (Bool) :=
  (if InR (iv189 + 1) then ag1e (iv189 + 1) else none)
theorem palinoderef18_Last_j2_ok {fuel : Nat} {iv189 : Int} {ag1 : (Int) → Prop} {ag1e : (Int) → Option (Bool)} {r : Bool} (hagag1 : ∀ s, ag1e s = some r → ag1 s) (h : palinoderef18_Last_j2_ev fuel iv189 ag1e = some r) : palinoderef18_Last_j2 iv189 ag1 r := by
  unfold palinoderef18_Last_j2_ev at h
  unfold palinoderef18_Last_j2
  obtain ⟨g151, h⟩ := if_ok h
  refine ⟨g151, ?_⟩
  exact hagag1 _ h
def palinoderef18_Last_l1_ev (fuel : Nat) (o3 : Bool × Bool × Bool × Bool × (List ByteArray)) (files2 : List (ByteArray × (List UInt8))) (ag1e : (Int) → Option (Bool)) (iv189 : Int) : Option (Bool) :=
  (if iv189 < (o3.2.2.2.2.length : Int) then (if 0 ≤ (iv189 : Int) then ((o3.2.2.2.2[(iv189 : Int).toNat]?).bind fun y254 => ((palinoderef03_At_ev fuel files2 y254).bind fun y257 => (if 0 ≤ y257 then (if 0 ≤ (y257 : Int) then ((files2[(y257 : Int).toNat]?).bind fun y266 => (if 0 < (y266.2.length : Int) then some false else palinoderef18_Last_j2_ev fuel iv189 ag1e)) else none) else palinoderef18_Last_j2_ev fuel iv189 ag1e))) else none) else some true)
theorem palinoderef18_Last_l1_ok {fuel : Nat} {o3 : Bool × Bool × Bool × Bool × (List ByteArray)} {files2 : List (ByteArray × (List UInt8))} {ag1e : (Int) → Option (Bool)} {ag1 : (Int) → Prop} {iv189 : Int} {r : Bool} (hagag1 : ∀ s, ag1e s = some r → ag1 s) (h : palinoderef18_Last_l1_ev fuel o3 files2 ag1e iv189 = some r) : palinoderef18_Last_l1 o3 files2 ag1 iv189 r := by
  unfold palinoderef18_Last_l1_ev at h
  unfold palinoderef18_Last_l1
  refine ⟨fun g152 => ?_, fun g152 => ?_⟩
  · rw [if_pos g152] at h
    obtain ⟨g153, h⟩ := if_ok h
    refine ⟨g153, ?_⟩
    obtain ⟨q154, g154, h⟩ := bind_ok h
    refine ⟨q154, g154, ?_⟩
    obtain ⟨q155, g155, h⟩ := bind_ok h
    refine ⟨q155, palinoderef03_At_ok g155, ?_⟩
    refine ⟨fun g156 => ?_, fun g156 => ?_⟩
    · rw [if_pos g156] at h
      obtain ⟨g157, h⟩ := if_ok h
      refine ⟨g157, ?_⟩
      obtain ⟨q158, g158, h⟩ := bind_ok h
      refine ⟨q158, g158, ?_⟩
      refine ⟨fun g159 => ?_, fun g159 => ?_⟩
      · rw [if_pos g159] at h
        exact (Option.some.inj h).symm
      · rw [if_neg g159] at h
        exact palinoderef18_Last_j2_ok hagag1 h
    · rw [if_neg g156] at h
      exact palinoderef18_Last_j2_ok hagag1 h
  · rw [if_neg g152] at h
    exact (Option.some.inj h).symm
def palinoderef18_Last_ev (fuel : Nat) (inv1 : Int × Int × Int × Int × (List UInt8)) (files2 : List (ByteArray × (List UInt8))) (o3 : Bool × Bool × Bool × Bool × (List ByteArray)) : Option (Bool) :=
  (if 0 < (inv1.2.2.2.2.length : Int) then some false else (if o3.2.1 = true then some true else (if o3.2.2.1 = true then some true else (if inv1.1 < 0 then some true else (loopE (fun ag1e s => palinoderef18_Last_l1_ev fuel o3 files2 ag1e s) fuel inv1.1)))))
theorem palinoderef18_Last_ok {fuel : Nat} {inv1 : Int × Int × Int × Int × (List UInt8)} {files2 : List (ByteArray × (List UInt8))} {o3 : Bool × Bool × Bool × Bool × (List ByteArray)} {r : Bool} (h : palinoderef18_Last_ev fuel inv1 files2 o3 = some r) : palinoderef18_Last_R inv1 files2 o3 r := by
  unfold palinoderef18_Last_ev at h
  unfold palinoderef18_Last_R
  refine ⟨fun g160 => ?_, fun g160 => ?_⟩
  · rw [if_pos g160] at h
    exact (Option.some.inj h).symm
  · rw [if_neg g160] at h
    refine ⟨fun g161 => ?_, fun g161 => ?_⟩
    · rw [if_pos g161] at h
      exact (Option.some.inj h).symm
    · rw [if_neg g161] at h
      refine ⟨fun g162 => ?_, fun g162 => ?_⟩
      · rw [if_pos g162] at h
        exact (Option.some.inj h).symm
      · rw [if_neg g162] at h
        refine ⟨fun g163 => ?_, fun g163 => ?_⟩
        · rw [if_pos g163] at h
          exact (Option.some.inj h).symm
        · rw [if_neg g163] at h
          refine loopE_ok ?_ h
          intro ae ag s hag h
          exact palinoderef18_Last_l1_ok hag h
set_option maxHeartbeats 4000000 in
theorem palinoderef18_Last_con (inv1 : Int × Int × Int × Int × (List UInt8)) (files2 : List (ByteArray × (List UInt8))) (o3 : Bool × Bool × Bool × Bool × (List ByteArray)) (r : Bool) (h : palinoderef18_Last_R inv1 files2 o3 r) : Con Try.prog 19 [.agg [.v (.int .i64 inv1.1), .v (.int .i64 inv1.2.1), .v (.int .i64 inv1.2.2.1), .v (.int .i64 inv1.2.2.2.1), .sl 1 none (List.map eb inv1.2.2.2.2)], .sl 2 none (List.map E_palinode_api_File files2), .agg [.v (.bool o3.1), .v (.bool o3.2.1), .v (.bool o3.2.2.1), .v (.bool o3.2.2.2.1), .sl 1 none (List.map es o3.2.2.2.2)]] [] [] (Ret (.v (.bool r))) := by
  refine xenter Try.func19 rfl rfl fun g hg => ?_
  simp only [Try.ntmps19, slots]
  refine xseq ?_
  refine xregion ?_
  refine xbox rfl rfl rfl rfl fun b3 => ?_
  refine xbox rfl rfl rfl rfl fun b5 => ?_
  refine xvalP (pv_assign rfl) rfl rfl ?_
  refine xnil ?_
  refine xthen ?_
  refine xseq ?_
  refine xseq ?_
  refine xregion ?_
  refine xvalP (qv_fieldAddrB FldC.h rfl) rfl rfl ?_
  refine xval (qv_loadB 1 ShpC.h rfl rfl rfl rfl) rfl rfl ?_
  refine xvalP (pv_lenM UndC.h rfl) rfl rfl ?_
  refine xvalP (pv_bin2 rfl rfl rfl) rfl rfl ?_
  refine xnil ?_
  refine xthen ?_
  by_cases hp9 : 0 < (inv1.2.2.2.2.length : Int)
  · replace h := h.1 hp9
    refine xcondT' (decide_eq_true hp9) rfl ?_
    refine xseq ?_
    refine xregion ?_
    refine xvalP (pv_assign rfl) rfl rfl ?_
    refine xnil ?_
    refine xthen ?_
    refine xretc ?_
    refine xthen_ret ?_
    replace h := h.symm
    subst h
    exact xret1 hg rfl rfl (.refl _) (SubM.of (.nil _) (.nil _)) ⟨rfl, rfl, rfl⟩
  · replace h := h.2 hp9
    refine xcondF' (decide_eq_false hp9) rfl ?_
    refine xskipc ?_
    refine xthen ?_
    refine xseq ?_
    refine xseq ?_
    refine xregion ?_
    refine xvalP (qv_fieldAddrB FldC.h rfl) rfl rfl ?_
    refine xval (qv_loadB 0 ShpC.h rfl rfl rfl rfl) rfl rfl ?_
    refine xvalP (pv_move rfl) rfl rfl ?_
    by_cases hp20 : o3.2.1 = true
    · replace h := h.1 hp20
      refine xsetB 15 hp20 rfl ?_
      refine xskip rfl rfl ?_
      refine xskip rfl rfl ?_
      refine xvalP (pv_pick rfl rfl) rfl rfl ?_
      refine xvalP (pv_move rfl) rfl rfl ?_
      refine xskip rfl rfl ?_
      refine xskip rfl rfl ?_
      refine xskip rfl rfl ?_
      refine xvalP (pv_pick rfl rfl) rfl rfl ?_
      refine xnil ?_
      refine xthen ?_
      refine xcondT rfl ?_
      refine xseq ?_
      refine xregion ?_
      refine xvalP (pv_assign rfl) rfl rfl ?_
      refine xnil ?_
      refine xthen ?_
      refine xretc ?_
      refine xthen_ret ?_
      replace h := h.symm
      subst h
      exact xret1 hg rfl rfl (.refl _) (SubM.of (.nil _) (.nil _)) ⟨rfl, rfl, rfl⟩
    · replace h := h.2 hp20
      refine xsetB 15 (b_f hp20) rfl ?_
      refine xvalP (qv_fieldAddrB FldC.h rfl) rfl rfl ?_
      refine xval (qv_loadB 0 ShpC.h rfl rfl rfl rfl) rfl rfl ?_
      refine xvalP (pv_pick rfl rfl) rfl rfl ?_
      refine xvalP (pv_move rfl) rfl rfl ?_
      by_cases hp21 : o3.2.2.1 = true
      · replace h := h.1 hp21
        refine xsetB 19 hp21 rfl ?_
        refine xskip rfl rfl ?_
        refine xskip rfl rfl ?_
        refine xskip rfl rfl ?_
        refine xvalP (pv_pick rfl rfl) rfl rfl ?_
        refine xnil ?_
        refine xthen ?_
        refine xcondT rfl ?_
        refine xseq ?_
        refine xregion ?_
        refine xvalP (pv_assign rfl) rfl rfl ?_
        refine xnil ?_
        refine xthen ?_
        refine xretc ?_
        refine xthen_ret ?_
        replace h := h.symm
        subst h
        exact xret1 hg rfl rfl (.refl _) (SubM.of (.nil _) (.nil _)) ⟨rfl, rfl, rfl⟩
      · replace h := h.2 hp21
        refine xsetB 19 (b_f hp21) rfl ?_
        refine xvalP (qv_fieldAddrB FldC.h rfl) rfl rfl ?_
        refine xval (qv_loadB 1 ShpC.h rfl rfl rfl rfl) rfl rfl ?_
        refine xvalP (pv_bin2 rfl rfl rfl) rfl rfl ?_
        refine xvalP (pv_pick rfl rfl) rfl rfl ?_
        refine xnil ?_
        refine xthen ?_
        by_cases hp23 : inv1.1 < 0
        · replace h := h.1 hp23
          refine xcondT' (decide_eq_true hp23) rfl ?_
          refine xseq ?_
          refine xregion ?_
          refine xvalP (pv_assign rfl) rfl rfl ?_
          refine xnil ?_
          refine xthen ?_
          refine xretc ?_
          refine xthen_ret ?_
          replace h := h.symm
          subst h
          exact xret1 hg rfl rfl (.refl _) (SubM.of (.nil _) (.nil _)) ⟨rfl, rfl, rfl⟩
        · replace h := h.2 hp23
          refine xcondF' (decide_eq_false hp23) rfl ?_
          refine xskipc ?_
          refine xthen ?_
          refine xseq ?_
          refine xseq ?_
          refine xregion ?_
          refine xvalP (qv_fieldAddrB FldC.h rfl) rfl rfl ?_
          refine xval (qv_loadB 1 ShpC.h rfl rfl rfl rfl) rfl rfl ?_
          refine xvalP (pv_assign rfl) rfl rfl ?_
          refine xnil ?_
          refine xthen ?_
          refine xblock ?_
          obtain ⟨Inv, ⟨m0, hI⟩, hS⟩ := h
          refine xloop (fun σ m => ∃ (iv189 : Int), Inv iv189 m ∧ σ = ⟨[(1, .sl 2 none (List.map E_palinode_api_File files2)), (5, .v (.pointer (some ⟨b5, 0, none⟩))), (7, .v (.int .i64 iv189))], [⟨b5, 25, [.v (.bool o3.1), .v (.bool o3.2.1), .v (.bool o3.2.2.1), .v (.bool o3.2.2.2.1), .sl 1 none (List.map es o3.2.2.2.2)]⟩], []⟩) ⟨inv1.1, hI, rfl⟩ ⟨(.cons rfl (.refl _) (.cons rfl (.refl _) (.cons rfl (.refl _) (.nil _)))), (SubM.of (.keep rfl rfl (.refl _) (.nil _)) (.nil _))⟩ ?_
          rintro _ m ⟨iv189, hI, rfl⟩
          obtain ⟨ag1, hag1, h⟩ : ∃ ag, (∀ s', ag s' → ∃ m', m' < m ∧ Inv s' m') ∧ palinoderef18_Last_l1 o3 files2 ag iv189 r := ⟨_, fun _ h => h, hS iv189 _ hI⟩
          clear hS hI
          refine xseq ?_
          refine xseq ?_
          refine xregion ?_
          refine xvalP (pv_move rfl) rfl rfl ?_
          refine xvalP (qv_fieldAddrB FldC.h rfl) rfl rfl ?_
          refine xval (qv_loadB 0 ShpC.h rfl rfl rfl rfl) rfl rfl ?_
          refine xvalP (pv_lenM UndC.h rfl) rfl rfl ?_
          refine xvalP (pv_bin2 rfl rfl rfl) rfl rfl ?_
          refine xnil ?_
          refine xthen ?_
          by_cases hp236 : iv189 < (o3.2.2.2.2.length : Int)
          · replace h := h.1 hp236
            refine xcondT' (decide_eq_true hp236) rfl ?_
            refine xskipc ?_
            refine xthen ?_
            refine xseqM (fun σ => palinoderef18_Last_j2 iv189 ag1 r ∧ σ = ⟨[(1, .sl 2 none (List.map E_palinode_api_File files2)), (5, .v (.pointer (some ⟨b5, 0, none⟩))), (7, .v (.int .i64 iv189))], [⟨b5, 25, [.v (.bool o3.1), .v (.bool o3.2.1), .v (.bool o3.2.2.1), .v (.bool o3.2.2.2.1), .sl 1 none (List.map es o3.2.2.2.2)]⟩], []⟩) ?_ ?_
            · refine xblock ?_
              refine xseq ?_
              refine xregion ?_
              refine xvalP (pv_move rfl) rfl rfl ?_
              refine xvalP (qv_fieldAddrB FldC.h rfl) rfl rfl ?_
              refine xval (qv_loadB 0 ShpC.h rfl rfl rfl rfl) rfl rfl ?_
              refine xvalP (pv_move rfl) rfl rfl ?_
              obtain ⟨h255a, h⟩ := h
              obtain ⟨y254, h255b, h⟩ := h
              refine xvalP (pv_indexAddrM h255a h255b UndC.h ShpC.h rfl rfl) rfl rfl ?_
              refine xval (qv_load ShpC.h rfl rfl rfl) rfl rfl ?_
              obtain ⟨y257, h256, h⟩ := h
              refine xcall0 (palinoderef03_At_con files2 y254 _ h256) Try.func10 (by kernel_rfl) rfl (.cons rfl (.refl _) (.cons rfl (.refl _) .nil)) rfl rfl ?_
              refine xvalP (pv_assign rfl) rfl rfl ?_
              refine xnil ?_
              refine xthen ?_
              refine xseq ?_
              refine xregion ?_
              refine xvalP (pv_move rfl) rfl rfl ?_
              refine xvalP (pv_bin2 rfl rfl rfl) rfl rfl ?_
              refine xvalP (pv_move rfl) rfl rfl ?_
              by_cases hp265 : 0 ≤ y257
              · replace h := h.1 hp265
                refine xsetB 42 (decide_eq_true hp265) rfl ?_
                refine xvalP (pv_move rfl) rfl rfl ?_
                refine xvalP (pv_move rfl) rfl rfl ?_
                obtain ⟨h267a, h⟩ := h
                obtain ⟨y266, h267b, h⟩ := h
                refine xvalP (pv_indexAddrM h267a h267b UndC.h ShpC.h rfl rfl) rfl rfl ?_
                refine xvalP (qv_fieldAddrE FldC.h rfl) rfl rfl ?_
                refine xval (qv_load ShpC.h rfl rfl rfl) rfl rfl ?_
                refine xvalP (pv_lenM UndC.h rfl) rfl rfl ?_
                refine xvalP (pv_bin2 rfl rfl rfl) rfl rfl ?_
                refine xvalP (pv_pick rfl rfl) rfl rfl ?_
                refine xnil ?_
                refine xthen ?_
                by_cases hp270 : 0 < (y266.2.length : Int)
                · replace h := h.1 hp270
                  refine xcondT' (decide_eq_true hp270) rfl ?_
                  refine xseq ?_
                  refine xregion ?_
                  refine xvalP (pv_assign rfl) rfl rfl ?_
                  refine xnil ?_
                  refine xthen ?_
                  refine xretc ?_
                  refine xin_ret ?_
                  refine xthen_ret ?_
                  refine xthen_ret ?_
                  refine xin_ret ?_
                  refine xthen_ret ?_
                  replace h := h.symm
                  subst h
                  exact xret1 hg rfl rfl (.refl _) (SubM.of (.nil _) (.nil _)) ⟨rfl, rfl, rfl⟩
                · replace h := h.2 hp270
                  refine xcondF' (decide_eq_false hp270) rfl ?_
                  refine xskipc ?_
                  refine xin_normal ?_
                  exact xmeet ⟨h, rfl⟩ ⟨(.cons rfl (.refl _) (.cons rfl (.refl _) (.cons rfl (.refl _) (.nil _)))), (SubM.of (.keep rfl rfl (.refl _) (.nil _)) (.nil _))⟩
              · replace h := h.2 hp265
                refine xsetB 42 (decide_eq_false hp265) rfl ?_
                refine xskip rfl rfl ?_
                refine xskip rfl rfl ?_
                refine xskip rfl rfl ?_
                refine xskip rfl rfl ?_
                refine xskip rfl rfl ?_
                refine xskip rfl rfl ?_
                refine xskip rfl rfl ?_
                refine xvalP (pv_pick rfl rfl) rfl rfl ?_
                refine xnil ?_
                refine xthen ?_
                refine xcondF rfl ?_
                refine xskipc ?_
                refine xin_normal ?_
                exact xmeet ⟨h, rfl⟩ ⟨(.cons rfl (.refl _) (.cons rfl (.refl _) (.cons rfl (.refl _) (.nil _)))), (SubM.of (.keep rfl rfl (.refl _) (.nil _)) (.nil _))⟩
            · clear h
              rintro _ ⟨h, rfl⟩
              refine xregion ?_
              refine xvalP (pv_move rfl) rfl rfl ?_
              obtain ⟨h271, h⟩ := h
              refine xvalP (pv_addI h271 rfl rfl) rfl rfl ?_
              refine xvalP (pv_assign rfl) rfl rfl ?_
              refine xnil ?_
              obtain ⟨m', hm, hI⟩ := hag1 _ h
              exact xagain ⟨(iv189 + 1), hI, rfl⟩ hm ⟨(.cons rfl (.refl _) (.cons rfl (.refl _) (.cons rfl (.refl _) (.nil _)))), (SubM.of (.keep rfl rfl (.refl _) (.nil _)) (.nil _))⟩
          · replace h := h.2 hp236
            refine xcondF' (decide_eq_false hp236) rfl ?_
            refine xexit ?_
            refine xthen_exit ?_
            refine xthen_exit ?_
            refine xin_same rfl ?_
            refine xthen ?_
            refine xseq ?_
            refine xregion ?_
            refine xvalP (pv_assign rfl) rfl rfl ?_
            refine xnil ?_
            refine xthen ?_
            refine xretc ?_
            replace h := h.symm
            subst h
            exact xret1 hg rfl rfl (.refl _) (SubM.of (.nil _) (.nil _)) ⟨rfl, rfl, rfl⟩
/-- palinoderef18.First -/
def palinoderef18_First_R (r : (Int × Int × Int × Int × (List UInt8))) : Prop :=
  r = (0, (-1), (-1), 0, ([] : List UInt8))
def palinoderef18_First_ev (fuel : Nat) : Option ((Int × Int × Int × Int × (List UInt8))) :=
  some (0, (-1), (-1), 0, ([] : List UInt8))
theorem palinoderef18_First_ok {fuel : Nat} {r : (Int × Int × Int × Int × (List UInt8))} (h : palinoderef18_First_ev fuel = some r) : palinoderef18_First_R r := by
  unfold palinoderef18_First_ev at h
  unfold palinoderef18_First_R
  exact (Option.some.inj h).symm
set_option maxHeartbeats 4000000 in
theorem palinoderef18_First_con (r : (Int × Int × Int × Int × (List UInt8))) (h : palinoderef18_First_R r) : Con Try.prog 20 [] [] [] (Ret (.agg [.v (.int .i64 r.1), .v (.int .i64 r.2.1), .v (.int .i64 r.2.2.1), .v (.int .i64 r.2.2.2.1), .sl 1 none (List.map eb r.2.2.2.2)])) := by
  refine xenter Try.func20 rfl rfl fun g hg => ?_
  simp only [Try.ntmps20, slots]
  refine xseq ?_
  refine xregion ?_
  refine xalloc InfC.h rfl rfl fun b0 => ?_
  refine xnil ?_
  refine xthen ?_
  refine xseq ?_
  refine xregion ?_
  refine xvalP (pv_buildC StrC.h rfl rfl) rfl rfl ?_
  refine xstore 0 ShpC.h rfl rfl rfl rfl rfl rfl rfl ?_
  refine xnil ?_
  refine xthen ?_
  refine xretc ?_
  replace h := h.symm
  subst h
  exact xretL (rs := [.cell 0 42]) (ss := [.agg [.v (.int .i64 0), .v (.int .i64 ((-1))), .v (.int .i64 ((-1))), .v (.int .i64 0), .sl 1 none (List.map eb (([] : List UInt8)))]]) hg rfl (by refine RetL.cell 0 ShpC.h rfl rfl rfl (Nat.le_of_ble_eq_true rfl) (.agg (.cons (.refl _) (.cons (.refl _) (.cons (.refl _) (.cons (.refl _) (.cons (.nil_pl _) .nil)))))) ?_; exact RetL.nil) (SubM.of (.nil _) (.nil _)) ⟨rfl, rfl, rfl⟩
/-- palinodelaw18.FeedWhole -/
def palinodelaw18_FeedWhole_y1_R (o20001 : Bool) (o20002 : List ((List UInt8) × Bool)) (o20004 : List Int) (o20006 : Int) (x20007 : Int) (x20008 : (List UInt8) × Bool) (r : Bool × Bool × Int) : Prop :=
  (((o20002.length : Int) ≤ o20006 → r = (false, false, o20006)) ∧ (¬ ((o20002.length : Int) ≤ o20006) → 0 ≤ (o20006 : Int) ∧ ∃ y20046 : Int, o20004[(o20006 : Int).toNat]? = some y20046 ∧ ((¬ (x20007 = y20046) → r = (false, false, o20006)) ∧ (¬ (¬ (x20007 = y20046)) → 0 ≤ (o20006 : Int) ∧ ∃ y20050 : (List UInt8) × Bool, o20002[(o20006 : Int).toNat]? = some y20050 ∧ ∃ y20053 : Bool, palinodelaw18_same_R x20008 y20050 y20053 ∧ ((¬ (y20053 = true) → r = (false, false, o20006)) ∧ (¬ (¬ (y20053 = true)) → InR (o20006 + 1) ∧ r = (true, o20001, (o20006 + 1))))))))
def palinodelaw18_FeedWhole_y1_Y (yx0 : Nat) (yx1 : Nat) (yx2 : Nat) (yx3 : Nat) (L : Lp) : Prop := ∀ (o20001 : Bool) (o20002 : List ((List UInt8) × Bool)) (o20004 : List Int) (o20006 : Int) (x20007 : Int) (x20008 : (List UInt8) × Bool) (ia20003 : Option (Nat × Nat)) (ia20005 : Option (Nat × Nat)) (r : Bool × Bool × Int), palinodelaw18_FeedWhole_y1_R o20001 o20002 o20004 o20006 x20007 x20008 r → YCon Try.prog L [.v (.int .i64 x20007), .agg [.sl 1 none (List.map eb x20008.1), .v (.bool x20008.2)]] [⟨yx0, 4, [.v (.bool o20001)]⟩, ⟨yx1, 28, [.sl 2 (some ia20003) (List.map E_palinode_api_Line o20002)]⟩, ⟨yx2, 29, [.sl 1 (some ia20005) (List.map ei o20004)]⟩, ⟨yx3, 3, [.v (.int .i64 o20006)]⟩] [⟨ia20003, 36, 2, o20002.length⟩, ⟨ia20005, 3, 1, o20004.length⟩] (fun j bx tk => j = jmp .ret r.1 ∧ bx = [⟨yx0, 4, [.v (.bool r.2.1)]⟩, ⟨yx1, 28, [.sl 2 (some ia20003) (List.map E_palinode_api_Line o20002)]⟩, ⟨yx2, 29, [.sl 1 (some ia20005) (List.map ei o20004)]⟩, ⟨yx3, 3, [.v (.int .i64 r.2.2)]⟩] ∧ tk = [⟨ia20003, 36, 2, o20002.length⟩, ⟨ia20005, 3, 1, o20004.length⟩])
def palinodelaw18_FeedWhole_y1_ev (fuel : Nat) (o20001 : Bool) (o20002 : List ((List UInt8) × Bool)) (o20004 : List Int) (o20006 : Int) (x20007 : Int) (x20008 : (List UInt8) × Bool) : Option (Bool × Bool × Int) :=
  (if (o20002.length : Int) ≤ o20006 then some (false, false, o20006) else (if 0 ≤ (o20006 : Int) then ((o20004[(o20006 : Int).toNat]?).bind fun y20046 => (if ¬ (x20007 = y20046) then some (false, false, o20006) else (if 0 ≤ (o20006 : Int) then ((o20002[(o20006 : Int).toNat]?).bind fun y20050 => ((palinodelaw18_same_ev fuel x20008 y20050).bind fun y20053 => (if ¬ (y20053 = true) then some (false, false, o20006) else (if InR (o20006 + 1) then some (true, o20001, (o20006 + 1)) else none)))) else none))) else none))
theorem palinodelaw18_FeedWhole_y1_ok {fuel : Nat} {o20001 : Bool} {o20002 : List ((List UInt8) × Bool)} {o20004 : List Int} {o20006 : Int} {x20007 : Int} {x20008 : (List UInt8) × Bool} {r : Bool × Bool × Int} (h : palinodelaw18_FeedWhole_y1_ev fuel o20001 o20002 o20004 o20006 x20007 x20008 = some r) : palinodelaw18_FeedWhole_y1_R o20001 o20002 o20004 o20006 x20007 x20008 r := by
  unfold palinodelaw18_FeedWhole_y1_ev at h
  unfold palinodelaw18_FeedWhole_y1_R
  refine ⟨fun g241 => ?_, fun g241 => ?_⟩
  · rw [if_pos g241] at h
    exact (Option.some.inj h).symm
  · rw [if_neg g241] at h
    obtain ⟨g242, h⟩ := if_ok h
    refine ⟨g242, ?_⟩
    obtain ⟨q243, g243, h⟩ := bind_ok h
    refine ⟨q243, g243, ?_⟩
    refine ⟨fun g244 => ?_, fun g244 => ?_⟩
    · rw [if_pos g244] at h
      exact (Option.some.inj h).symm
    · rw [if_neg g244] at h
      obtain ⟨g245, h⟩ := if_ok h
      refine ⟨g245, ?_⟩
      obtain ⟨q246, g246, h⟩ := bind_ok h
      refine ⟨q246, g246, ?_⟩
      obtain ⟨q247, g247, h⟩ := bind_ok h
      refine ⟨q247, palinodelaw18_same_ok g247, ?_⟩
      refine ⟨fun g248 => ?_, fun g248 => ?_⟩
      · rw [if_pos g248] at h
        exact (Option.some.inj h).symm
      · rw [if_neg g248] at h
        obtain ⟨g249, h⟩ := if_ok h
        refine ⟨g249, ?_⟩
        exact (Option.some.inj h).symm
end Go.Proofs.Ytihbljabeckgmaa
