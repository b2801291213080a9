
/- What functions' texts ask for, and the walks that show it (printed by a program). -/
import Derived.Test.YtncnfohhjbadgaaGKp13
namespace Go.Proofs.Ytncnfohhjbadgaa
/-- palinoderef12.Same -/
def palinoderef12_Same_l1 (a1 : List ((Arr 10 (Int × Int)))) (bv2 : List ((Arr 10 (Int × Int)))) (ag1 : (Int) → Prop) (iv128 : Int) (r : Bool) : Prop :=
 ((iv128 < (a1.length : Int) → 0 ≤ (iv128 : Int) ∧ ∃ y180 : (Arr 10 (Int × Int)), a1[(iv128 : Int).toNat]? = some y180 ∧ 0 ≤ (iv128 : Int) ∧ ∃ y182 : (Arr 10 (Int × Int)), bv2[(iv128 : Int).toNat]? = some y182 ∧ ((¬ ((y180 : (Arr 10 (Int × Int))) = y182) → r = false) ∧ (¬ (¬ ((y180 : (Arr 10 (Int × Int))) = y182)) → InR (iv128 + 1) ∧ ag1 (iv128 + 1)))) ∧ (¬ (iv128 < (a1.length : Int)) → r = true))
def palinoderef12_Same_R (a1 : List ((Arr 10 (Int × Int)))) (bv2 : List ((Arr 10 (Int × Int)))) (r : Bool) : Prop :=
 ((¬ ((a1.length : Int) = (bv2.length : Int)) → r = false) ∧ (¬ (¬ ((a1.length : Int) = (bv2.length : Int))) → LoopR (fun ag1 s => palinoderef12_Same_l1 a1 bv2 ag1 s r) 0))
set_option maxHeartbeats 4000000 in
theorem palinoderef12_Same_con (a1 : List ((Arr 10 (Int × Int)))) (bv2 : List ((Arr 10 (Int × Int)))) (r : Bool) (h : palinoderef12_Same_R a1 bv2 r) : Con Try.prog 13 [.sl 20 none (List.map E_palinode_api_Hit a1), .sl 20 none (List.map E_palinode_api_Hit bv2)] [] [] (Ret (.v (.bool r))) := by
 refine xenter Try.func13 rfl rfl fun g hg => ?_
 simp only [Try.ntmps13, slots]
 refine sr_ ?_
 refine as_ ?_
 refine nt_ ?_
 refine xseq ?_
 refine sr_ ?_
 refine mv_ ?_
 refine vp_ (pv_lenM UndC.h rfl) ?_
 refine mv_ ?_
 refine vp_ (pv_lenM UndC.h rfl) ?_
 refine vp_ (pv_bin2 rfl rfl rfl) ?_
 refine nt_ ?_
 by_cases hp10 : ¬ ((a1.length : Int) = (bv2.length : Int))
 ·replace h := h.1 hp10
  refine xcondT' (not_t (decide_eq_false hp10)) rfl ?_
  refine sr_ ?_
  refine as_ ?_
  refine nt_ ?_
  refine xretc ?_
  refine xthen_ret ?_
  replace h := h.symm
  subst h
  exact xret1 hg rfl rfl (.refl _) (SubM.of (.nil _) (.nil _)) ⟨rfl, rfl, rfl⟩
 ·replace h := h.2 hp10
  refine xcondF' (not_f (decide_eq_true (Decidable.of_not_not hp10))) rfl ?_
  refine xskipc ?_
  refine xthen ?_
  refine xseq ?_
  refine sr_ ?_
  refine as_ ?_
  refine nt_ ?_
  refine xblock ?_
  obtain ⟨Inv, ⟨m0, hI⟩, hS⟩ := h
  refine xloop (fun σ m => ∃ (iv128 : Int), Inv iv128 m ∧ σ = ⟨[(0, .sl 20 none (List.map E_palinode_api_Hit a1)), (1, .sl 20 none (List.map E_palinode_api_Hit bv2)), (5, .v (.int .i64 iv128))], [], []⟩) ⟨0, hI, rfl⟩ ⟨lk_, (SubM.of (.nil _) (.nil _))⟩ ?_
  rintro _ m ⟨iv128, hI, rfl⟩
  obtain ⟨ag1, hag1, h⟩ : ∃ ag, (∀ s', ag s' → ∃ m', m' < m ∧ Inv s' m') ∧ palinoderef12_Same_l1 a1 bv2 ag iv128 r := ⟨_, fun _ h => h, hS iv128 _ hI⟩
  clear hS hI
  refine xseq ?_
  refine sr_ ?_
  refine mv_ ?_
  refine mv_ ?_
  refine vp_ (pv_lenM UndC.h rfl) ?_
  refine vp_ (pv_bin2 rfl rfl rfl) ?_
  refine nt_ ?_
  by_cases hp163 : iv128 < (a1.length : Int)
  ·replace h := h.1 hp163
   refine xcondT' (decide_eq_true hp163) rfl ?_
   refine xskipc ?_
   refine xthen ?_
   refine xseq ?_
   refine xblock ?_
   refine xseq ?_
   refine xregionD (m := 9) (by kernel_rfl) rfl ?_
   obtain ⟨h181a, h⟩ := h
   obtain ⟨y180, h181b, h⟩ := h
   obtain ⟨h183a, h⟩ := h
   obtain ⟨y182, h183b, h⟩ := h
   refine pl_ 0 rfl (pv_move rfl) ?_
   refine pl_ 1 rfl (pv_move rfl) ?_
   refine pl_ 2 rfl (pv_indexAddrM h181a h181b UndC.h ShpC.h rfl rfl) ?_
   refine pl_ 4 rfl (pv_move rfl) ?_
   refine pl_ 5 rfl (pv_move rfl) ?_
   refine pl_ 6 rfl (pv_indexAddrM h183a h183b UndC.h ShpC.h rfl rfl) ?_
   refine xpvalE 3 [7] rfl (qv_loadEP ((List.map E_palinode_api_Span y180.l).flatten) [] sq_ sl_ (part_all (seg_lenE (by rfl))) ShpC.h rfl) rfl rfl (by kernel_rfl) (by kernel_rfl) (by kernel_rfl) (fun _ _ _ _ h => h) ?_
   refine xpvalE 7 [] rfl (qv_loadEP ((List.map E_palinode_api_Span y182.l).flatten) [] sq_ sl_ (part_all (seg_lenE (by rfl))) ShpC.h rfl) rfl rfl (by kernel_rfl) (by kernel_rfl) (by kernel_rfl) (fun _ _ _ _ h => h) ?_
   refine pl_ 8 rfl (pv_neAgg (f := E_palinode_api_Hit) (a := y180) (b := y182) eqc_31 (by decide) (by kernel_rfl) ev_ ev_) ?_
   refine xpdone (by kernel_rfl) ?_
   refine xthen ?_
   by_cases hp185 : ¬ ((y180 : (Arr 10 (Int × Int))) = y182)
   ·replace h := h.1 hp185
    refine xcondT' (not_t (decide_eq_false hp185)) rfl ?_
    refine sr_ ?_
    refine as_ ?_
    refine nt_ ?_
    refine xretc ?_
    refine xin_ret ?_
    refine xthen_ret ?_
    refine xthen_ret ?_
    refine xin_ret ?_
    refine xthen_ret ?_
    replace h := h.symm
    subst h
    exact xret1 hg rfl rfl (.refl _) (SubM.of (.nil _) (.nil _)) ⟨rfl, rfl, rfl⟩
   ·replace h := h.2 hp185
    refine xcondF' (not_f (decide_eq_true (Decidable.of_not_not hp185))) rfl ?_
    refine xskipc ?_
    refine xin_normal ?_
    refine xthen ?_
    refine xregion ?_
    refine mv_ ?_
    obtain ⟨h186, h⟩ := h
    refine vp_ (pv_addI h186 rfl rfl) ?_
    refine as_ ?_
    refine xnil ?_
    obtain ⟨m', hm, hI⟩ := hag1 _ h
    exact xagain ⟨(iv128 + 1), hI, rfl⟩ hm ⟨lk_, (SubM.of (.nil _) (.nil _))⟩
  ·replace h := h.2 hp163
   refine xcondF' (decide_eq_false hp163) rfl ?_
   refine xexit ?_
   refine xthen_exit ?_
   refine xthen_exit ?_
   refine xin_same rfl ?_
   refine xthen ?_
   refine sr_ ?_
   refine as_ ?_
   refine nt_ ?_
   refine xretc ?_
   replace h := h.symm
   subst h
   exact xret1 hg rfl rfl (.refl _) (SubM.of (.nil _) (.nil _)) ⟨rfl, rfl, rfl⟩
end Go.Proofs.Ytncnfohhjbadgaa
