/- What functions' texts ask for, and the walks that show it (printed by a program). -/
import Derived.Test.YthffeojphpajpaaGKp1
namespace Go.Proofs.Ythffeojphpajpaa
/-- palinoderef01.Same -/
def palinoderef01_Same_v2_l1 (l1 : List UInt8) (l3 : List UInt8) (ag1 : (Int) → Prop) (iv130 : Int) (r : Bool) : Prop :=
  ((iv130 < ((l1.length : Nat) : Int) → 0 ≤ (iv130 : Int) ∧ ∃ y182 : UInt8, l1[(iv130 : Int).toNat]? = some y182 ∧ 0 ≤ (iv130 : Int) ∧ ∃ y184 : UInt8, l3[(iv130 : Int).toNat]? = some y184 ∧ ((¬ ((y182.toNat : Int) = (y184.toNat : Int)) → r = false) ∧ (¬ (¬ ((y182.toNat : Int) = (y184.toNat : Int))) → InR (iv130 + 1) ∧ ag1 (iv130 + 1)))) ∧ (¬ (iv130 < ((l1.length : Nat) : Int)) → r = true))
def palinoderef01_Same_v2_R (l1 : List UInt8) (l3 : List UInt8) (r : Bool) : Prop :=
  ((¬ (((l1.length : Nat) : Int) = ((l3.length : Nat) : Int)) → r = false) ∧ (¬ (¬ (((l1.length : Nat) : Int) = ((l3.length : Nat) : Int))) → LoopR (fun ag1 s => palinoderef01_Same_v2_l1 l1 l3 ag1 s r) 0))
set_option maxHeartbeats 4000000 in
theorem palinoderef01_Same_v2_con (l1 : List UInt8) (l3 : List UInt8) (ia2 : Option (Nat × Nat)) (ia4 : Option (Nat × Nat)) (r : Bool) (h : palinoderef01_Same_v2_R l1 l3 r) : Con Try.prog 8 [.rb ia2 l1.length, .rb ia4 l3.length] [rbx ia2 5 1 (List.map eb l1), rbx ia4 5 1 (List.map eb l3)] [] (fun rr bx tk => rr = .v (.bool r) ∧ bx = [rbx ia2 5 1 (List.map eb l1), rbx ia4 5 1 (List.map eb l3)] ∧ tk = []) := by
  refine xenter Try.func8 rfl rfl fun g hg => ?_
  simp only [Try.ntmps8, slots]
  refine xseq ?_
  refine xregion ?_
  refine xvalP (pv_assign rfl) rfl rfl ?_
  refine xnil ?_
  refine xthen ?_
  refine xseq ?_
  refine xseq ?_
  refine xregion ?_
  refine xvalP (pv_move rfl) rfl rfl ?_
  refine xvalP (pv_lenRb UndC.h rfl) rfl rfl ?_
  refine xvalP (pv_move rfl) rfl rfl ?_
  refine xvalP (pv_lenRb UndC.h rfl) rfl rfl ?_
  refine xvalP (pv_bin2 rfl rfl rfl) rfl rfl ?_
  refine xnil ?_
  refine xthen ?_
  by_cases hp12 : ¬ (((l1.length : Nat) : Int) = ((l3.length : Nat) : Int))
  · replace h := h.1 hp12
    refine xcondT' (not_t (decide_eq_false hp12)) rfl ?_
    refine xseq ?_
    refine xregion ?_
    refine xvalP (pv_assign rfl) rfl rfl ?_
    refine xnil ?_
    refine xthen ?_
    refine xretc ?_
    refine xthen_ret ?_
    replace h := h.symm
    subst h
    exact xret1 (bx' := [rbx ia2 5 1 (List.map eb l1), rbx ia4 5 1 (List.map eb l3)]) (tk' := []) hg rfl rfl (.refl _) (SubM.of (.keep rfl rfl (.refl _) (.keep rfl rfl (.refl _) (.nil _))) (.nil _)) ⟨rfl, rfl, rfl⟩
  · replace h := h.2 hp12
    refine xcondF' (not_f (decide_eq_true (Decidable.of_not_not hp12))) rfl ?_
    refine xskipc ?_
    refine xthen ?_
    refine xseq ?_
    refine xseq ?_
    refine xregion ?_
    refine xvalP (pv_assign rfl) rfl rfl ?_
    refine xnil ?_
    refine xthen ?_
    refine xblock ?_
    obtain ⟨Inv, ⟨m0, hI⟩, hS⟩ := h
    refine xloop (fun σ m => ∃ (iv130 : Int), Inv iv130 m ∧ σ = ⟨[(0, .rb ia2 l1.length), (1, .rb ia4 l3.length), (5, .v (.int .i64 iv130))], [rbx ia2 5 1 (List.map eb l1), rbx ia4 5 1 (List.map eb l3)], []⟩) ⟨0, hI, rfl⟩ ⟨(.cons rfl (.eq (by first | rfl | simp)) (.cons rfl (.eq (by first | rfl | simp)) (.cons rfl (.refl _) (.nil _)))), by exact (SubM.of (.keep rfl rfl (.refl _) (.keep rfl rfl (.refl _) (.nil _))) (.nil _))⟩ ?_
    rintro _ m ⟨iv130, hI, rfl⟩
    obtain ⟨ag1, hag1, h⟩ : ∃ ag, (∀ s', ag s' → ∃ m', m' < m ∧ Inv s' m') ∧ palinoderef01_Same_v2_l1 l1 l3 ag iv130 r := ⟨_, fun _ h => h, hS iv130 _ hI⟩
    clear hS hI
    refine xseq ?_
    refine xseq ?_
    refine xregion ?_
    refine xvalP (pv_move rfl) rfl rfl ?_
    refine xvalP (pv_move rfl) rfl rfl ?_
    refine xvalP (pv_lenRb UndC.h rfl) rfl rfl ?_
    refine xvalP (pv_bin2 rfl rfl rfl) rfl rfl ?_
    refine xnil ?_
    refine xthen ?_
    by_cases hp165 : iv130 < ((l1.length : Nat) : Int)
    · replace h := h.1 hp165
      refine xcondT' (decide_eq_true hp165) rfl ?_
      refine xskipc ?_
      refine xthen ?_
      refine xseq ?_
      refine xblock ?_
      refine xseq ?_
      refine xregionD (m := 9) (by kernel_rfl) rfl ?_
      obtain ⟨h183a, h⟩ := h
      obtain ⟨y182, h183b, h⟩ := h
      obtain ⟨h185a, h⟩ := h
      obtain ⟨y184, h185b, h⟩ := h
      refine xpval 0 rfl (pv_move rfl) rfl rfl (by kernel_rfl) (by kernel_rfl) (by kernel_rfl) (fun _ _ _ _ h => h) ?_
      refine xpval 1 rfl (pv_move rfl) rfl rfl (by kernel_rfl) (by kernel_rfl) (by kernel_rfl) (fun _ _ _ _ h => h) ?_
      refine xpval 2 rfl (pv_indexAddrRbM rfl h183a h183b UndC.h ShpC.h rfl rfl) rfl rfl (by kernel_rfl) (by kernel_rfl) (by kernel_rfl) (fun _ _ _ _ h => h) ?_
      refine xpval 4 rfl (pv_move rfl) rfl rfl (by kernel_rfl) (by kernel_rfl) (by kernel_rfl) (fun _ _ _ _ h => h) ?_
      refine xpval 5 rfl (pv_move rfl) rfl rfl (by kernel_rfl) (by kernel_rfl) (by kernel_rfl) (fun _ _ _ _ h => h) ?_
      refine xpval 6 rfl (pv_indexAddrRbM rfl h185a h185b UndC.h ShpC.h rfl rfl) rfl rfl (by kernel_rfl) (by kernel_rfl) (by kernel_rfl) (fun _ _ _ _ h => h) ?_
      refine xpvalE 3 [7] rfl (qv_loadRb (f := eb) (k := 1) (off := 0) (i := (iv130 : Int).toNat) 0 h183b rfl (by decide) rfl ShpC.h rfl rfl) rfl rfl (by kernel_rfl) (by kernel_rfl) (by kernel_rfl) (fun _ _ _ _ h => h) ?_
      refine xpvalE 7 [] rfl (qv_loadRb (f := eb) (k := 1) (off := 0) (i := (iv130 : Int).toNat) 1 h185b rfl (by decide) rfl ShpC.h rfl rfl) rfl rfl (by kernel_rfl) (by kernel_rfl) (by kernel_rfl) (fun _ _ _ _ h => h) ?_
      refine xpval 8 rfl (pv_bin2 rfl rfl rfl) rfl rfl (by kernel_rfl) (by kernel_rfl) (by kernel_rfl) (fun _ _ _ _ h => h) ?_
      refine xpdone (by kernel_rfl) ?_
      refine xthen ?_
      by_cases hp187 : ¬ ((y182.toNat : Int) = (y184.toNat : Int))
      · replace h := h.1 hp187
        refine xcondT' (not_t (decide_eq_false hp187)) rfl ?_
        refine xseq ?_
        refine xregion ?_
        refine xvalP (pv_assign rfl) rfl rfl ?_
        refine xnil ?_
        refine xthen ?_
        refine xretc ?_
        refine xin_ret ?_
        refine xthen_ret ?_
        refine xthen_ret ?_
        refine xin_ret ?_
        refine xthen_ret ?_
        replace h := h.symm
        subst h
        exact xret1 (bx' := [rbx ia2 5 1 (List.map eb l1), rbx ia4 5 1 (List.map eb l3)]) (tk' := []) hg rfl rfl (.refl _) (SubM.of (.keep rfl rfl (.refl _) (.keep rfl rfl (.refl _) (.nil _))) (.nil _)) ⟨rfl, rfl, rfl⟩
      · replace h := h.2 hp187
        refine xcondF' (not_f (decide_eq_true (Decidable.of_not_not hp187))) rfl ?_
        refine xskipc ?_
        refine xin_normal ?_
        refine xthen ?_
        refine xregion ?_
        refine xvalP (pv_move rfl) rfl rfl ?_
        obtain ⟨h188, h⟩ := h
        refine xvalP (pv_addI h188 rfl rfl) rfl rfl ?_
        refine xvalP (pv_assign rfl) rfl rfl ?_
        refine xnil ?_
        obtain ⟨m', hm, hI⟩ := hag1 _ h
        exact xagain ⟨(iv130 + 1), hI, rfl⟩ hm ⟨(.cons rfl (.eq (by first | rfl | simp)) (.cons rfl (.eq (by first | rfl | simp)) (.cons rfl (.refl _) (.nil _)))), by exact (SubM.of (.keep rfl rfl (.refl _) (.keep rfl rfl (.refl _) (.nil _))) (.nil _))⟩
    · replace h := h.2 hp165
      refine xcondF' (decide_eq_false hp165) rfl ?_
      refine xexit ?_
      refine xthen_exit ?_
      refine xthen_exit ?_
      refine xin_same rfl ?_
      refine xthen ?_
      refine xseq ?_
      refine xregion ?_
      refine xvalP (pv_assign rfl) rfl rfl ?_
      refine xnil ?_
      refine xthen ?_
      refine xretc ?_
      replace h := h.symm
      subst h
      exact xret1 (bx' := [rbx ia2 5 1 (List.map eb l1), rbx ia4 5 1 (List.map eb l3)]) (tk' := []) hg rfl rfl (.refl _) (SubM.of (.keep rfl rfl (.refl _) (.keep rfl rfl (.refl _) (.nil _))) (.nil _)) ⟨rfl, rfl, rfl⟩
end Go.Proofs.Ythffeojphpajpaa
