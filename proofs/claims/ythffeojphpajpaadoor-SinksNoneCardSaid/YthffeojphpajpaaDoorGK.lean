/- What functions' texts ask for, and the walks that show it (printed by a program). -/
import Derived.Test.YthffeojphpajpaaDoorGKp1
namespace Go.Proofs.YthffeojphpajpaaDoor
/-- (*sinks.Sink).Number -/
def sinks_Sink_Number_v2_R (o3 : Bool) (o4 : Int) (l1 : List UInt8) (nv5 : Int) (r : Int × (List UInt8) × Bool) : Prop :=
  ∃ y7 : ByteArray, digit_Text_R nv5 y7 ∧ y7.size ≤ maxLen ∧ ∃ y10 : Int × (List UInt8) × Bool, sinks_Sink_Line_R o3 o4 l1 (y7.data.toList, true) y10 ∧ r = (y10.1, y10.2.1, y10.2.2)
def sinks_Sink_Number_v2_ev (fuel : Nat) (o3 : Bool) (o4 : Int) (l1 : List UInt8) (nv5 : Int) : Option (Int × (List UInt8) × Bool) :=
  ((digit_Text_ev fuel nv5).bind fun y7 => (if y7.size ≤ maxLen then ((sinks_Sink_Line_ev fuel o3 o4 l1 (y7.data.toList, true)).bind fun y10 => some (y10.1, y10.2.1, y10.2.2)) else none))
theorem sinks_Sink_Number_v2_ok {fuel : Nat} {o3 : Bool} {o4 : Int} {l1 : List UInt8} {nv5 : Int} {r : Int × (List UInt8) × Bool} (h : sinks_Sink_Number_v2_ev fuel o3 o4 l1 nv5 = some r) : sinks_Sink_Number_v2_R o3 o4 l1 nv5 r := by
  unfold sinks_Sink_Number_v2_ev at h
  unfold sinks_Sink_Number_v2_R
  obtain ⟨q40, g40, h⟩ := bind_ok h
  refine ⟨q40, digit_Text_ok g40, ?_⟩
  obtain ⟨g41, h⟩ := if_ok h
  refine ⟨g41, ?_⟩
  obtain ⟨q42, g42, h⟩ := bind_ok h
  refine ⟨q42, sinks_Sink_Line_ok g42, ?_⟩
  exact (Option.some.inj h).symm
set_option maxHeartbeats 4000000 in
theorem sinks_Sink_Number_v2_con (o3 : Bool) (o4 : Int) (l1 : List UInt8) (nv5 : Int) (bx0 : Nat) (ia2 : Option (Nat × Nat)) (r : Int × (List UInt8) × Bool) (h : sinks_Sink_Number_v2_R o3 o4 l1 nv5 r) : Con Tryd.prog 8 [.v (.pointer (some ⟨bx0, 0, none⟩)), .v (.int .i64 nv5)] [⟨bx0, 35, [.rb ia2 l1.length, .v (.bool o3), .v (.int .i64 o4)]⟩, rbx ia2 5 1 (List.map eb l1)] [] (fun rr bx tk => ∃ j1, rr = .v (.int .i64 r.1) ∧ bx = [rbx j1 5 1 (List.map eb r.2.1), ⟨bx0, 35, [.rb j1 r.2.1.length, .v (.bool r.2.2), .v (.int .i64 o4)]⟩] ∧ tk = []) := by
  refine xenter Tryd.func8 rfl rfl fun g hg => ?_
  simp only [Tryd.ntmps8, slots]
  refine xseq ?_
  refine xregion ?_
  refine xvalP (pv_assign rfl) rfl rfl ?_
  refine xnil ?_
  refine xthen ?_
  refine xseq ?_
  refine xregion ?_
  refine xvalP (pv_move rfl) rfl rfl ?_
  refine xvalP (pv_move rfl) rfl rfl ?_
  obtain ⟨y7, h6, h⟩ := h
  refine xcall0 (digit_Text_con nv5 _ h6) Tryd.func14 (by kernel_rfl) rfl (.cons rfl (.refl _) .nil) rfl rfl ?_
  obtain ⟨h8, h⟩ := h
  refine xconvSB h8 UndC.h UndC.h UndC.h rfl rfl rfl ?_
  refine xvalP (pv_buildC StrC.h rfl rfl) rfl rfl ?_
  obtain ⟨y10, h9, h⟩ := h
  refine xcallF (Fb := []) (Ft := []) (sinks_Sink_Line_con o3 o4 l1 (y7.data.toList, true) bx0 ia2 _ h9) Tryd.func5 (by kernel_rfl) rfl (.cons rfl (.refl _) (.cons rfl (.refl _) .nil)) (by exact sm_) rfl rfl ?_
  rintro _ _ _ ⟨i11, rfl, rfl, rfl⟩
  simp only [List.nil_append, List.cons_append]
  refine xvalP (pv_assign rfl) rfl rfl ?_
  refine xnil ?_
  refine xthen ?_
  refine xretc ?_
  replace h := h.symm
  subst h
  exact xret1 (bx' := [rbx i11 5 1 (List.map eb y10.2.1), ⟨bx0, 35, [.rb i11 y10.2.1.length, .v (.bool y10.2.2), .v (.int .i64 o4)]⟩]) (tk' := []) hg rfl rfl (.refl _) (SubM.of (.keep rfl rfl (.refl _) (.keep rfl rfl (.cons (.eq (by first | rfl | simp)) (.cons (.refl _) (.cons (.refl _) .nil))) (.nil _))) (.nil _)) ⟨i11, rfl, rfl, rfl⟩
/-- palinoderef01.Same -/
def palinoderef01_Same_l1 (a1 : List UInt8) (bv2 : List UInt8) (ag1 : (Int) → Prop) (iv128 : Int) (r : Bool) : Prop :=
  ((iv128 < (a1.length : Int) → 0 ≤ (iv128 : Int) ∧ ∃ y180 : UInt8, a1[(iv128 : Int).toNat]? = some y180 ∧ 0 ≤ (iv128 : Int) ∧ ∃ y182 : UInt8, bv2[(iv128 : Int).toNat]? = some y182 ∧ ((¬ ((y180.toNat : Int) = (y182.toNat : Int)) → r = false) ∧ (¬ (¬ ((y180.toNat : Int) = (y182.toNat : Int))) → InR (iv128 + 1) ∧ ag1 (iv128 + 1)))) ∧ (¬ (iv128 < (a1.length : Int)) → r = true))
def palinoderef01_Same_R (a1 : List UInt8) (bv2 : List UInt8) (r : Bool) : Prop :=
  ((¬ ((a1.length : Int) = (bv2.length : Int)) → r = false) ∧ (¬ (¬ ((a1.length : Int) = (bv2.length : Int))) → LoopR (fun ag1 s => palinoderef01_Same_l1 a1 bv2 ag1 s r) 0))
def palinoderef01_Same_l1_ev (fuel : Nat) (a1 : List UInt8) (bv2 : List UInt8) (ag1e : (Int) → Option (Bool)) (iv128 : Int) : Option (Bool) :=
  (if iv128 < (a1.length : Int) then (if 0 ≤ (iv128 : Int) then ((a1[(iv128 : Int).toNat]?).bind fun y180 => (if 0 ≤ (iv128 : Int) then ((bv2[(iv128 : Int).toNat]?).bind fun y182 => (if ¬ ((y180.toNat : Int) = (y182.toNat : Int)) then some false else (if InR (iv128 + 1) then ag1e (iv128 + 1) else none))) else none)) else none) else some true)
theorem palinoderef01_Same_l1_ok {fuel : Nat} {a1 : List UInt8} {bv2 : List UInt8} {ag1e : (Int) → Option (Bool)} {ag1 : (Int) → Prop} {iv128 : Int} {r : Bool} (hagag1 : ∀ s, ag1e s = some r → ag1 s) (h : palinoderef01_Same_l1_ev fuel a1 bv2 ag1e iv128 = some r) : palinoderef01_Same_l1 a1 bv2 ag1 iv128 r := by
  unfold palinoderef01_Same_l1_ev at h
  unfold palinoderef01_Same_l1
  refine ⟨fun g43 => ?_, fun g43 => ?_⟩
  · rw [if_pos g43] at h
    obtain ⟨g44, h⟩ := if_ok h
    refine ⟨g44, ?_⟩
    obtain ⟨q45, g45, h⟩ := bind_ok h
    refine ⟨q45, g45, ?_⟩
    obtain ⟨g46, h⟩ := if_ok h
    refine ⟨g46, ?_⟩
    obtain ⟨q47, g47, h⟩ := bind_ok h
    refine ⟨q47, g47, ?_⟩
    refine ⟨fun g48 => ?_, fun g48 => ?_⟩
    · rw [if_pos g48] at h
      exact (Option.some.inj h).symm
    · rw [if_neg g48] at h
      obtain ⟨g49, h⟩ := if_ok h
      refine ⟨g49, ?_⟩
      exact hagag1 _ h
  · rw [if_neg g43] at h
    exact (Option.some.inj h).symm
def palinoderef01_Same_ev (fuel : Nat) (a1 : List UInt8) (bv2 : List UInt8) : Option (Bool) :=
  (if ¬ ((a1.length : Int) = (bv2.length : Int)) then some false else (loopE (fun ag1e s => palinoderef01_Same_l1_ev fuel a1 bv2 ag1e s) fuel 0))
theorem palinoderef01_Same_ok {fuel : Nat} {a1 : List UInt8} {bv2 : List UInt8} {r : Bool} (h : palinoderef01_Same_ev fuel a1 bv2 = some r) : palinoderef01_Same_R a1 bv2 r := by
  unfold palinoderef01_Same_ev at h
  unfold palinoderef01_Same_R
  refine ⟨fun g50 => ?_, fun g50 => ?_⟩
  · rw [if_pos g50] at h
    exact (Option.some.inj h).symm
  · rw [if_neg g50] at h
    refine loopE_ok ?_ h
    intro ae ag s hag h
    exact palinoderef01_Same_l1_ok hag h
set_option maxHeartbeats 4000000 in
theorem palinoderef01_Same_con (a1 : List UInt8) (bv2 : List UInt8) (r : Bool) (h : palinoderef01_Same_R a1 bv2 r) : Con Tryd.prog 11 [.sl 1 none (List.map eb a1), .sl 1 none (List.map eb bv2)] [] [] (Ret (.v (.bool r))) := by
  refine xenter Tryd.func11 rfl rfl fun g hg => ?_
  simp only [Tryd.ntmps11, slots]
  refine xseq ?_
  refine xregion ?_
  refine xvalP (pv_assign rfl) rfl rfl ?_
  refine xnil ?_
  refine xthen ?_
  refine xseq ?_
  refine xseq ?_
  refine xregion ?_
  refine xvalP (pv_move rfl) rfl rfl ?_
  refine xvalP (pv_lenM UndC.h rfl) rfl rfl ?_
  refine xvalP (pv_move rfl) rfl rfl ?_
  refine xvalP (pv_lenM UndC.h rfl) rfl rfl ?_
  refine xvalP (pv_bin2 rfl rfl rfl) rfl rfl ?_
  refine xnil ?_
  refine xthen ?_
  by_cases hp10 : ¬ ((a1.length : Int) = (bv2.length : Int))
  · replace h := h.1 hp10
    refine xcondT' (not_t (decide_eq_false hp10)) rfl ?_
    refine xseq ?_
    refine xregion ?_
    refine xvalP (pv_assign rfl) rfl rfl ?_
    refine xnil ?_
    refine xthen ?_
    refine xretc ?_
    refine xthen_ret ?_
    replace h := h.symm
    subst h
    exact xret1 hg rfl rfl (.refl _) (SubM.of (.nil _) (.nil _)) ⟨rfl, rfl, rfl⟩
  · replace h := h.2 hp10
    refine xcondF' (not_f (decide_eq_true (Decidable.of_not_not hp10))) rfl ?_
    refine xskipc ?_
    refine xthen ?_
    refine xseq ?_
    refine xseq ?_
    refine xregion ?_
    refine xvalP (pv_assign rfl) rfl rfl ?_
    refine xnil ?_
    refine xthen ?_
    refine xblock ?_
    obtain ⟨Inv, ⟨m0, hI⟩, hS⟩ := h
    refine xloop (fun σ m => ∃ (iv128 : Int), Inv iv128 m ∧ σ = ⟨[(0, .sl 1 none (List.map eb a1)), (1, .sl 1 none (List.map eb bv2)), (5, .v (.int .i64 iv128))], [], []⟩) ⟨0, hI, rfl⟩ (by exact ⟨(.cons rfl (.refl _) (.cons rfl (.refl _) (.cons rfl (.refl _) (.nil _)))), (SubM.of (.nil _) (.nil _))⟩) ?_
    rintro _ m ⟨iv128, hI, rfl⟩
    obtain ⟨ag1, hag1, h⟩ : ∃ ag, (∀ s', ag s' → ∃ m', m' < m ∧ Inv s' m') ∧ palinoderef01_Same_l1 a1 bv2 ag iv128 r := ⟨_, fun _ h => h, hS iv128 _ hI⟩
    clear hS hI
    refine xseq ?_
    refine xseq ?_
    refine xregion ?_
    refine xvalP (pv_move rfl) rfl rfl ?_
    refine xvalP (pv_move rfl) rfl rfl ?_
    refine xvalP (pv_lenM UndC.h rfl) rfl rfl ?_
    refine xvalP (pv_bin2 rfl rfl rfl) rfl rfl ?_
    refine xnil ?_
    refine xthen ?_
    by_cases hp163 : iv128 < (a1.length : Int)
    · replace h := h.1 hp163
      refine xcondT' (decide_eq_true hp163) rfl ?_
      refine xskipc ?_
      refine xthen ?_
      refine xseq ?_
      refine xblock ?_
      refine xseq ?_
      refine xregionD (m := 9) (by kernel_rfl) rfl ?_
      obtain ⟨h181a, h⟩ := h
      obtain ⟨y180, h181b, h⟩ := h
      obtain ⟨h183a, h⟩ := h
      obtain ⟨y182, h183b, h⟩ := h
      refine xpval 0 rfl (pv_move rfl) rfl rfl (by kernel_rfl) (by kernel_rfl) (by kernel_rfl) (fun _ _ _ _ h => h) ?_
      refine xpval 1 rfl (pv_move rfl) rfl rfl (by kernel_rfl) (by kernel_rfl) (by kernel_rfl) (fun _ _ _ _ h => h) ?_
      refine xpval 2 rfl (pv_indexAddrM h181a h181b UndC.h ShpC.h rfl rfl) rfl rfl (by kernel_rfl) (by kernel_rfl) (by kernel_rfl) (fun _ _ _ _ h => h) ?_
      refine xpval 4 rfl (pv_move rfl) rfl rfl (by kernel_rfl) (by kernel_rfl) (by kernel_rfl) (fun _ _ _ _ h => h) ?_
      refine xpval 5 rfl (pv_move rfl) rfl rfl (by kernel_rfl) (by kernel_rfl) (by kernel_rfl) (fun _ _ _ _ h => h) ?_
      refine xpval 6 rfl (pv_indexAddrM h183a h183b UndC.h ShpC.h rfl rfl) rfl rfl (by kernel_rfl) (by kernel_rfl) (by kernel_rfl) (fun _ _ _ _ h => h) ?_
      refine xpvalE 3 [7] rfl (qv_load ShpC.h rfl rfl rfl) rfl rfl (by kernel_rfl) (by kernel_rfl) (by kernel_rfl) (fun _ _ _ _ h => h) ?_
      refine xpvalE 7 [] rfl (qv_load ShpC.h rfl rfl rfl) rfl rfl (by kernel_rfl) (by kernel_rfl) (by kernel_rfl) (fun _ _ _ _ h => h) ?_
      refine xpval 8 rfl (pv_bin2 rfl rfl rfl) rfl rfl (by kernel_rfl) (by kernel_rfl) (by kernel_rfl) (fun _ _ _ _ h => h) ?_
      refine xpdone (by kernel_rfl) ?_
      refine xthen ?_
      by_cases hp185 : ¬ ((y180.toNat : Int) = (y182.toNat : Int))
      · replace h := h.1 hp185
        refine xcondT' (not_t (decide_eq_false hp185)) rfl ?_
        refine xseq ?_
        refine xregion ?_
        refine xvalP (pv_assign rfl) rfl rfl ?_
        refine xnil ?_
        refine xthen ?_
        refine xretc ?_
        refine xin_ret ?_
        refine xthen_ret ?_
        refine xthen_ret ?_
        refine xin_ret ?_
        refine xthen_ret ?_
        replace h := h.symm
        subst h
        exact xret1 hg rfl rfl (.refl _) (SubM.of (.nil _) (.nil _)) ⟨rfl, rfl, rfl⟩
      · replace h := h.2 hp185
        refine xcondF' (not_f (decide_eq_true (Decidable.of_not_not hp185))) rfl ?_
        refine xskipc ?_
        refine xin_normal ?_
        refine xthen ?_
        refine xregion ?_
        refine xvalP (pv_move rfl) rfl rfl ?_
        obtain ⟨h186, h⟩ := h
        refine xvalP (pv_addI h186 rfl rfl) rfl rfl ?_
        refine xvalP (pv_assign rfl) rfl rfl ?_
        refine xnil ?_
        obtain ⟨m', hm, hI⟩ := hag1 _ h
        exact xagain ⟨(iv128 + 1), hI, rfl⟩ hm ⟨(.cons rfl (.refl _) (.cons rfl (.refl _) (.cons rfl (.refl _) (.nil _)))), (SubM.of (.nil _) (.nil _))⟩
    · replace h := h.2 hp163
      refine xcondF' (decide_eq_false hp163) rfl ?_
      refine xexit ?_
      refine xthen_exit ?_
      refine xthen_exit ?_
      refine xin_same rfl ?_
      refine xthen ?_
      refine xseq ?_
      refine xregion ?_
      refine xvalP (pv_assign rfl) rfl rfl ?_
      refine xnil ?_
      refine xthen ?_
      refine xretc ?_
      replace h := h.symm
      subst h
      exact xret1 hg rfl rfl (.refl _) (SubM.of (.nil _) (.nil _)) ⟨rfl, rfl, rfl⟩
end Go.Proofs.YthffeojphpajpaaDoor
