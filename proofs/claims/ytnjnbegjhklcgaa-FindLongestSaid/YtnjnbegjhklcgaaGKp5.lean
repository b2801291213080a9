
/- What functions' texts ask for, and the walks that show it (printed by a program). -/
import Derived.Test.YtnjnbegjhklcgaaGKp4
namespace Go.Proofs.Ytnjnbegjhklcgaa
/-- match.Better -/
def match_Better_j2 (y417 : Int × Int) (y415 : Int × Int) (x425 : Bool) (r : Bool) : Prop :=
 ((x425 = true → ((y417.1 < 0 → r = (decide (0 ≤ y415.1))) ∧ (¬ (y417.1 < 0) → r = false))) ∧ (¬ (x425 = true) → ((¬ (y415.1 = y417.1) → r = (decide (y415.1 < y417.1))) ∧ (¬ (¬ (y415.1 = y417.1)) → r = (decide (y417.2 < y415.2))))))
def match_Better_l1 (x1 : (Arr 10 (Int × Int))) (x2 : (Arr 10 (Int × Int))) (ag1 : (Int) → Prop) (x302 : Int) (r : Bool) : Prop :=
 ((x302 < 10 → (0 ≤ (x302 : Int) ∧ (x302 : Int) < 10) ∧ ∃ y415 : Int × Int, x1.l[(x302 : Int).toNat]? = some y415 ∧ (0 ≤ (x302 : Int) ∧ (x302 : Int) < 10) ∧ ∃ y417 : Int × Int, x2.l[(x302 : Int).toNat]? = some y417 ∧ (((y415 : Int × Int) = y417 → InR (x302 + 1) ∧ ag1 (x302 + 1)) ∧ (¬ ((y415 : Int × Int) = y417) → match_Better_j2 y417 y415 ((decide (y415.1 < 0)) || (decide (y417.1 < 0))) r))) ∧ (¬ (x302 < 10) → r = false))
def match_Better_R (x1 : (Arr 10 (Int × Int))) (x2 : (Arr 10 (Int × Int))) (r : Bool) : Prop :=
 (0 ≤ (0 : Int) ∧ (0 : Int) < 10) ∧ ∃ y15 : Int × Int, x1.l[(0 : Int).toNat]? = some y15 ∧ (0 ≤ (0 : Int) ∧ (0 : Int) < 10) ∧ ∃ y17 : Int × Int, x2.l[(0 : Int).toNat]? = some y17 ∧ ((¬ (y15.2 = y17.2) → (0 ≤ (0 : Int) ∧ (0 : Int) < 10) ∧ ∃ y21 : Int × Int, x1.l[(0 : Int).toNat]? = some y21 ∧ (0 ≤ (0 : Int) ∧ (0 : Int) < 10) ∧ ∃ y23 : Int × Int, x2.l[(0 : Int).toNat]? = some y23 ∧ r = (decide (y23.2 < y21.2))) ∧ (¬ (¬ (y15.2 = y17.2)) → LoopR (fun ag1 s => match_Better_l1 x1 x2 ag1 s r) 1))
def match_Better_j2_ev (fuel : Nat) (y417 : Int × Int) (y415 : Int × Int) (x425 : Bool) : Option (Bool) :=
 (if x425 = true then (if y417.1 < 0 then some (decide (0 ≤ y415.1)) else some false) else (if ¬ (y415.1 = y417.1) then some (decide (y415.1 < y417.1)) else some (decide (y417.2 < y415.2))))
theorem match_Better_j2_ok {fuel : Nat} {y417 : Int × Int} {y415 : Int × Int} {x425 : Bool} {r : Bool} (h : match_Better_j2_ev fuel y417 y415 x425 = some r) : match_Better_j2 y417 y415 x425 r := by
 unfold match_Better_j2_ev at h
 unfold match_Better_j2
 refine ⟨fun g170 => ?_, fun g170 => ?_⟩
 ·rw [if_pos g170] at h
  refine ⟨fun g171 => ?_, fun g171 => ?_⟩
  ·rw [if_pos g171] at h
   exact (Option.some.inj h).symm
  ·rw [if_neg g171] at h
   exact (Option.some.inj h).symm
 ·rw [if_neg g170] at h
  refine ⟨fun g172 => ?_, fun g172 => ?_⟩
  ·rw [if_pos g172] at h
   exact (Option.some.inj h).symm
  ·rw [if_neg g172] at h
   exact (Option.some.inj h).symm
def match_Better_l1_ev (fuel : Nat) (x1 : (Arr 10 (Int × Int))) (x2 : (Arr 10 (Int × Int))) (ag1e : (Int) → Option (Bool)) (x302 : Int) : Option (Bool) :=
 (if x302 < 10 then (if (0 ≤ (x302 : Int) ∧ (x302 : Int) < 10) then ((x1.l[(x302 : Int).toNat]?).bind fun y415 => (if (0 ≤ (x302 : Int) ∧ (x302 : Int) < 10) then ((x2.l[(x302 : Int).toNat]?).bind fun y417 => (if (y415 : Int × Int) = y417 then (if InR (x302 + 1) then ag1e (x302 + 1) else none) else match_Better_j2_ev fuel y417 y415 ((decide (y415.1 < 0)) || (decide (y417.1 < 0))))) else none)) else none) else some false)
theorem match_Better_l1_ok {fuel : Nat} {x1 : (Arr 10 (Int × Int))} {x2 : (Arr 10 (Int × Int))} {ag1e : (Int) → Option (Bool)} {ag1 : (Int) → Prop} {x302 : Int} {r : Bool} (hagag1 : ∀ s, ag1e s = some r → ag1 s) (h : match_Better_l1_ev fuel x1 x2 ag1e x302 = some r) : match_Better_l1 x1 x2 ag1 x302 r := by
 unfold match_Better_l1_ev at h
 unfold match_Better_l1
 refine ⟨fun g173 => ?_, fun g173 => ?_⟩
 ·rw [if_pos g173] at h
  obtain ⟨g174, h⟩ := if_ok h
  refine ⟨g174, ?_⟩
  obtain ⟨q175, g175, h⟩ := bind_ok h
  refine ⟨q175, g175, ?_⟩
  obtain ⟨g176, h⟩ := if_ok h
  refine ⟨g176, ?_⟩
  obtain ⟨q177, g177, h⟩ := bind_ok h
  refine ⟨q177, g177, ?_⟩
  refine ⟨fun g178 => ?_, fun g178 => ?_⟩
  ·rw [if_pos g178] at h
   obtain ⟨g179, h⟩ := if_ok h
   refine ⟨g179, ?_⟩
   exact hagag1 _ h
  ·rw [if_neg g178] at h
   exact match_Better_j2_ok h
 ·rw [if_neg g173] at h
  exact (Option.some.inj h).symm
def match_Better_ev (fuel : Nat) (x1 : (Arr 10 (Int × Int))) (x2 : (Arr 10 (Int × Int))) : Option (Bool) :=
 (if (0 ≤ (0 : Int) ∧ (0 : Int) < 10) then ((x1.l[(0 : Int).toNat]?).bind fun y15 => (if (0 ≤ (0 : Int) ∧ (0 : Int) < 10) then ((x2.l[(0 : Int).toNat]?).bind fun y17 => (if ¬ (y15.2 = y17.2) then (if (0 ≤ (0 : Int) ∧ (0 : Int) < 10) then ((x1.l[(0 : Int).toNat]?).bind fun y21 => (if (0 ≤ (0 : Int) ∧ (0 : Int) < 10) then ((x2.l[(0 : Int).toNat]?).bind fun y23 => some (decide (y23.2 < y21.2))) else none)) else none) else (loopE (fun ag1e s => match_Better_l1_ev fuel x1 x2 ag1e s) fuel 1))) else none)) else none)
theorem match_Better_ok {fuel : Nat} {x1 : (Arr 10 (Int × Int))} {x2 : (Arr 10 (Int × Int))} {r : Bool} (h : match_Better_ev fuel x1 x2 = some r) : match_Better_R x1 x2 r := by
 unfold match_Better_ev at h
 unfold match_Better_R
 obtain ⟨g180, h⟩ := if_ok h
 refine ⟨g180, ?_⟩
 obtain ⟨q181, g181, h⟩ := bind_ok h
 refine ⟨q181, g181, ?_⟩
 obtain ⟨g182, h⟩ := if_ok h
 refine ⟨g182, ?_⟩
 obtain ⟨q183, g183, h⟩ := bind_ok h
 refine ⟨q183, g183, ?_⟩
 refine ⟨fun g184 => ?_, fun g184 => ?_⟩
 ·rw [if_pos g184] at h
  obtain ⟨g185, h⟩ := if_ok h
  refine ⟨g185, ?_⟩
  obtain ⟨q186, g186, h⟩ := bind_ok h
  refine ⟨q186, g186, ?_⟩
  obtain ⟨g187, h⟩ := if_ok h
  refine ⟨g187, ?_⟩
  obtain ⟨q188, g188, h⟩ := bind_ok h
  refine ⟨q188, g188, ?_⟩
  exact (Option.some.inj h).symm
 ·rw [if_neg g184] at h
  refine loopE_ok ?_ h
  intro ae ag s hag h
  exact match_Better_l1_ok hag h
set_option maxHeartbeats 4000000 in
theorem match_Better_con (x1 : (Arr 10 (Int × Int))) (x2 : (Arr 10 (Int × Int))) (r : Bool) (h : match_Better_R x1 x2 r) : Con Try.prog 32 [.agg ((List.map E_palinode_api_Span x1.l).flatten), .agg ((List.map E_palinode_api_Span x2.l).flatten)] [] [] (Ret (.v (.bool r))) := by
 refine xenter Try.func32 rfl rfl fun g hg => ?_
 simp only [Try.ntmps32, slots]
 refine sr_ ?_
 refine xbox rfl rfl rfl rfl fun b2 => ?_
 refine xbox rfl rfl rfl rfl fun b3 => ?_
 refine as_ ?_
 refine nt_ ?_
 refine xseq ?_
 refine sr_ ?_
 refine vp_ (qv_fieldAddrB FldC.h rfl) ?_
 obtain ⟨h14, h⟩ := h
 obtain ⟨y15, h14b, h⟩ := h
 refine vp_ (pv_indexAddrBA h14 UndC.h ShpC.h rfl rfl) ?_
 refine vp_ (qv_fieldAddrB FldC.h rfl) ?_
 refine v_ (qv_loadA (f := E_palinode_api_Span) (a := x1) (k := 2) (off := 1) (i := (0 : Int).toNat) 1 [] [] h14b sq_ so_ (by decide) rfl ShpC.h rfl rfl) ?_
 refine vp_ (qv_fieldAddrB FldC.h rfl) ?_
 obtain ⟨h16, h⟩ := h
 obtain ⟨y17, h16b, h⟩ := h
 refine vp_ (pv_indexAddrBA h16 UndC.h ShpC.h rfl rfl) ?_
 refine vp_ (qv_fieldAddrB FldC.h rfl) ?_
 refine v_ (qv_loadA (f := E_palinode_api_Span) (a := x2) (k := 2) (off := 1) (i := (0 : Int).toNat) 0 [] [] h16b sq_ so_ (by decide) rfl ShpC.h rfl rfl) ?_
 refine vp_ (pv_bin2 rfl rfl rfl) ?_
 refine nt_ ?_
 by_cases hp19 : ¬ (y15.2 = y17.2)
 ·replace h := h.1 hp19
  refine xcondT' (not_t (decide_eq_false hp19)) rfl ?_
  refine sr_ ?_
  refine vp_ (qv_fieldAddrB FldC.h rfl) ?_
  obtain ⟨h20, h⟩ := h
  obtain ⟨y21, h20b, h⟩ := h
  refine vp_ (pv_indexAddrBA h20 UndC.h ShpC.h rfl rfl) ?_
  refine vp_ (qv_fieldAddrB FldC.h rfl) ?_
  refine v_ (qv_loadA (f := E_palinode_api_Span) (a := x1) (k := 2) (off := 1) (i := (0 : Int).toNat) 1 [] [] h20b sq_ so_ (by decide) rfl ShpC.h rfl rfl) ?_
  refine vp_ (qv_fieldAddrB FldC.h rfl) ?_
  obtain ⟨h22, h⟩ := h
  obtain ⟨y23, h22b, h⟩ := h
  refine vp_ (pv_indexAddrBA h22 UndC.h ShpC.h rfl rfl) ?_
  refine vp_ (qv_fieldAddrB FldC.h rfl) ?_
  refine v_ (qv_loadA (f := E_palinode_api_Span) (a := x2) (k := 2) (off := 1) (i := (0 : Int).toNat) 0 [] [] h22b sq_ so_ (by decide) rfl ShpC.h rfl rfl) ?_
  refine vp_ (pv_bin2 rfl rfl rfl) ?_
  refine as_ ?_
  refine nt_ ?_
  refine xretc ?_
  refine xthen_ret ?_
  replace h := h.symm
  subst h
  exact xret1 hg rfl rfl (.refl _) (SubM.of (.nil _) (.nil _)) ⟨rfl, rfl, rfl⟩
 ·replace h := h.2 hp19
  refine xcondF' (not_f (decide_eq_true (Decidable.of_not_not hp19))) rfl ?_
  refine xskipc ?_
  refine xthen ?_
  refine xseq ?_
  refine sr_ ?_
  refine as_ ?_
  refine nt_ ?_
  refine xblock ?_
  obtain ⟨Inv, ⟨m0, hI⟩, hS⟩ := h
  refine xloop (fun σ m => ∃ (x302 : Int), Inv x302 m ∧ σ = ⟨[(2, .v (.pointer (some ⟨b2, 0, none⟩))), (3, .v (.pointer (some ⟨b3, 0, none⟩))), (5, .v (.int .i64 x302))], [⟨b3, 36, ((List.map E_palinode_api_Span x2.l).flatten)⟩, ⟨b2, 36, ((List.map E_palinode_api_Span x1.l).flatten)⟩], []⟩) ⟨1, hI, rfl⟩ (by exact ⟨lk_, (SubM.of (.keep rfl rfl (.refl _) (.keep rfl rfl (.refl _) (.nil _))) (.nil _))⟩) ?_
  rintro _ m ⟨x302, hI, rfl⟩
  obtain ⟨ag1, hag1, h⟩ : ∃ ag, (∀ s', ag s' → ∃ m', m' < m ∧ Inv s' m') ∧ match_Better_l1 x1 x2 ag x302 r := ⟨_, fun _ h => h, hS x302 _ hI⟩
  clear hS hI
  refine xseq ?_
  refine sr_ ?_
  refine mv_ ?_
  refine vp_ (pv_bin2 rfl rfl rfl) ?_
  refine nt_ ?_
  by_cases hp375 : x302 < 10
  ·replace h := h.1 hp375
   refine xcondT' (decide_eq_true hp375) rfl ?_
   refine xskipc ?_
   refine xthen ?_
   refine xseq ?_
   refine xblock ?_
   refine xseq ?_
   refine xregionD (m := 12) (by kernel_rfl) rfl ?_
   obtain ⟨h414, h⟩ := h
   obtain ⟨y415, h414b, h⟩ := h
   obtain ⟨h416, h⟩ := h
   obtain ⟨y417, h416b, h⟩ := h
   refine xpcut 1 #[true, true, true, true, true, true, true, true, true, true, true, false] (fun σ => ∃ (b7 : Nat), ∃ (b6 : Nat), σ = ⟨[(2, .v (.pointer (some ⟨b2, 0, none⟩))), (3, .v (.pointer (some ⟨b3, 0, none⟩))), (5, .v (.int .i64 x302)), (6, .v (.pointer (some ⟨b6, 0, none⟩))), (7, .v (.pointer (some ⟨b7, 0, none⟩))), (37, .agg [.v (.int .i64 y417.1), .v (.int .i64 y417.2)])], [⟨b7, 33, [.v (.int .i64 0), .v (.int .i64 0)]⟩, ⟨b6, 33, [.v (.int .i64 y415.1), .v (.int .i64 y415.2)]⟩, ⟨b3, 36, ((List.map E_palinode_api_Span x2.l).flatten)⟩, ⟨b2, 36, ((List.map E_palinode_api_Span x1.l).flatten)⟩], []⟩) ?_ (fun key418 => ?_)
   ·rintro _ ⟨b7, b6, rfl⟩
    refine xpstep (i := 11) (by kernel_rfl) rfl ?_
    refine wstore 0 ShpC.h rfl rfl rfl rfl rfl rfl rfl ?_
    refine xpdone (by kernel_rfl) ?_
    refine xthen ?_
    refine xblock ?_
    refine sr_ ?_
    refine v_ (qv_loadB 1 ShpC.h rfl rfl rfl rfl) ?_
    refine v_ (qv_loadB 0 ShpC.h rfl rfl rfl rfl) ?_
    refine vp_ (pv_eqAgg (f := E_palinode_api_Span) (a := y415) (b := y417) eqc_33 (by decide) (by kernel_rfl) ev_ ev_) ?_
    refine as_ ?_
    refine nt_ ?_
    by_cases hp420 : (y415 : Int × Int) = y417
    ·replace h := h.1 hp420
     refine xcondT' (decide_eq_true hp420) rfl ?_
     refine xskipc ?_
     refine xin_normal ?_
     refine xin_normal ?_
     refine xthen ?_
     refine xregion ?_
     refine mv_ ?_
     obtain ⟨h421, h⟩ := h
     refine vp_ (pv_addI h421 rfl rfl) ?_
     refine as_ ?_
     refine xnil ?_
     obtain ⟨m', hm, hI⟩ := hag1 _ h
     exact xagain ⟨(x302 + 1), hI, rfl⟩ hm ⟨lk_, (SubM.of (.drop (.drop (.keep rfl rfl (.refl _) (.keep rfl rfl (.refl _) (.nil _))))) (.nil _))⟩
    ·replace h := h.2 hp420
     refine xcondF' (decide_eq_false hp420) rfl ?_
     refine xseqM (fun σ => ∃ (x425 : Bool), match_Better_j2 y417 y415 x425 r ∧ σ = ⟨[(6, .v (.pointer (some ⟨b6, 0, none⟩))), (7, .v (.pointer (some ⟨b7, 0, none⟩))), (47, .v (.bool x425))], [⟨b7, 33, [.v (.int .i64 y417.1), .v (.int .i64 y417.2)]⟩, ⟨b6, 33, [.v (.int .i64 y415.1), .v (.int .i64 y415.2)]⟩], []⟩) ?_ ?_
     ·refine xregion ?_
      refine vp_ (qv_fieldAddrB FldC.h rfl) ?_
      refine v_ (qv_loadB 1 ShpC.h rfl rfl rfl rfl) ?_
      refine vp_ (pv_bin2 rfl rfl rfl) ?_
      refine mv_ ?_
      by_cases hp427 : y415.1 < 0
      ·rw [or_tt (show (decide (y415.1 < 0)) = true from (decide_eq_true hp427))] at h
       refine xsetB 51 (decide_eq_true hp427) rfl ?_
       refine sk_ ?_
       refine sk_ ?_
       refine sk_ ?_
       refine pk_ ?_
       refine as_ ?_
       refine xnil ?_
       exact xmeet ⟨true, h, rfl⟩ ⟨lk_, (SubM.of (.keep rfl rfl (.refl _) (.keep rfl rfl (.refl _) (.nil _))) (.nil _))⟩
      ·rw [or_ff (show (decide (y415.1 < 0)) = false from (decide_eq_false hp427))] at h
       refine xsetB 51 (decide_eq_false hp427) rfl ?_
       refine vp_ (qv_fieldAddrB FldC.h rfl) ?_
       refine v_ (qv_loadB 0 ShpC.h rfl rfl rfl rfl) ?_
       refine vp_ (pv_bin2 rfl rfl rfl) ?_
       refine pk_ ?_
       refine as_ ?_
       refine xnil ?_
       exact xmeet ⟨(decide (y417.1 < 0)), h, rfl⟩ ⟨lk_, (SubM.of (.keep rfl rfl (.refl _) (.keep rfl rfl (.refl _) (.nil _))) (.nil _))⟩
     ·clear h
      rintro _ ⟨x425, h, rfl⟩
      by_cases hp429 : x425 = true
      ·replace h := h.1 hp429
       refine xcondT' hp429 rfl ?_
       refine sr_ ?_
       refine vp_ (qv_fieldAddrB FldC.h rfl) ?_
       refine v_ (qv_loadB 0 ShpC.h rfl rfl rfl rfl) ?_
       refine vp_ (pv_bin2 rfl rfl rfl) ?_
       refine mv_ ?_
       by_cases hp434 : y417.1 < 0
       ·replace h := h.1 hp434
        refine xsetB 59 (decide_eq_true hp434) rfl ?_
        refine vp_ (qv_fieldAddrB FldC.h rfl) ?_
        refine v_ (qv_loadB 1 ShpC.h rfl rfl rfl rfl) ?_
        refine vp_ (pv_bin2 rfl rfl rfl) ?_
        refine pk_ ?_
        refine as_ ?_
        refine nt_ ?_
        refine xretc ?_
        refine xin_ret ?_
        refine xin_ret ?_
        refine xthen_ret ?_
        refine xthen_ret ?_
        refine xin_ret ?_
        refine xthen_ret ?_
        replace h := h.symm
        subst h
        exact xret1 hg rfl rfl (.refl _) (SubM.of (.nil _) (.nil _)) ⟨rfl, rfl, rfl⟩
       ·replace h := h.2 hp434
        refine xsetB 59 (decide_eq_false hp434) rfl ?_
        refine sk_ ?_
        refine sk_ ?_
        refine sk_ ?_
        refine pk_ ?_
        refine as_ ?_
        refine nt_ ?_
        refine xretc ?_
        refine xin_ret ?_
        refine xin_ret ?_
        refine xthen_ret ?_
        refine xthen_ret ?_
        refine xin_ret ?_
        refine xthen_ret ?_
        replace h := h.symm
        subst h
        exact xret1 hg rfl rfl (.refl _) (SubM.of (.nil _) (.nil _)) ⟨rfl, rfl, rfl⟩
      ·replace h := h.2 hp429
       refine xcondF' (b_f hp429) rfl ?_
       refine sr_ ?_
       refine vp_ (qv_fieldAddrB FldC.h rfl) ?_
       refine v_ (qv_loadB 1 ShpC.h rfl rfl rfl rfl) ?_
       refine vp_ (qv_fieldAddrB FldC.h rfl) ?_
       refine v_ (qv_loadB 0 ShpC.h rfl rfl rfl rfl) ?_
       refine vp_ (pv_bin2 rfl rfl rfl) ?_
       refine as_ ?_
       refine nt_ ?_
       by_cases hp437 : ¬ (y415.1 = y417.1)
       ·replace h := h.1 hp437
        refine xcondT' (not_t (decide_eq_false hp437)) rfl ?_
        refine sr_ ?_
        refine vp_ (qv_fieldAddrB FldC.h rfl) ?_
        refine v_ (qv_loadB 1 ShpC.h rfl rfl rfl rfl) ?_
        refine vp_ (qv_fieldAddrB FldC.h rfl) ?_
        refine v_ (qv_loadB 0 ShpC.h rfl rfl rfl rfl) ?_
        refine vp_ (pv_bin2 rfl rfl rfl) ?_
        refine as_ ?_
        refine nt_ ?_
        refine xretc ?_
        refine xin_ret ?_
        refine xin_ret ?_
        refine xthen_ret ?_
        refine xthen_ret ?_
        refine xin_ret ?_
        refine xthen_ret ?_
        replace h := h.symm
        subst h
        exact xret1 hg rfl rfl (.refl _) (SubM.of (.nil _) (.nil _)) ⟨rfl, rfl, rfl⟩
       ·replace h := h.2 hp437
        refine xcondF' (not_f (decide_eq_true (Decidable.of_not_not hp437))) rfl ?_
        refine sr_ ?_
        refine vp_ (qv_fieldAddrB FldC.h rfl) ?_
        refine v_ (qv_loadB 1 ShpC.h rfl rfl rfl rfl) ?_
        refine vp_ (qv_fieldAddrB FldC.h rfl) ?_
        refine v_ (qv_loadB 0 ShpC.h rfl rfl rfl rfl) ?_
        refine vp_ (pv_bin2 rfl rfl rfl) ?_
        refine as_ ?_
        refine nt_ ?_
        refine xretc ?_
        refine xin_ret ?_
        refine xin_ret ?_
        refine xthen_ret ?_
        refine xthen_ret ?_
        refine xin_ret ?_
        refine xthen_ret ?_
        replace h := h.symm
        subst h
        exact xret1 hg rfl rfl (.refl _) (SubM.of (.nil _) (.nil _)) ⟨rfl, rfl, rfl⟩
   refine xpcut 2 #[true, true, true, true, true, true, true, true, true, true, false, false] (fun σ => ∃ (b7 : Nat), ∃ (b6 : Nat), σ = ⟨[(2, .v (.pointer (some ⟨b2, 0, none⟩))), (3, .v (.pointer (some ⟨b3, 0, none⟩))), (5, .v (.int .i64 x302)), (6, .v (.pointer (some ⟨b6, 0, none⟩))), (7, .v (.pointer (some ⟨b7, 0, none⟩))), (33, .agg [.v (.int .i64 y415.1), .v (.int .i64 y415.2)]), (37, .agg [.v (.int .i64 y417.1), .v (.int .i64 y417.2)])], [⟨b7, 33, [.v (.int .i64 0), .v (.int .i64 0)]⟩, ⟨b6, 33, [.v (.int .i64 0), .v (.int .i64 0)]⟩, ⟨b3, 36, ((List.map E_palinode_api_Span x2.l).flatten)⟩, ⟨b2, 36, ((List.map E_palinode_api_Span x1.l).flatten)⟩], []⟩) ?_ (fun key440 => ?_)
   ·rintro _ ⟨b7, b6, rfl⟩
    refine xpstep (i := 10) (by kernel_rfl) rfl ?_
    refine wstore 1 ShpC.h rfl rfl rfl rfl rfl rfl rfl ?_
    exact xpuse key418 ⟨b7, b6, rfl⟩ ⟨lk_, (SubM.of (.keep rfl rfl (.refl _) (.keep rfl rfl (.refl _) (.keep rfl rfl (.refl _) (.keep rfl rfl (.refl _) (.nil _))))) (.nil _))⟩ rfl (by kernel_rfl)
   refine pl_ 0 rfl (pv_move rfl) ?_
   refine pl_ 1 rfl (qv_fieldAddrB FldC.h rfl) ?_
   refine pl_ 2 rfl (pv_indexAddrBA h414 UndC.h ShpC.h rfl rfl) ?_
   refine pl_ 4 rfl (pv_move rfl) ?_
   refine pl_ 5 rfl (qv_fieldAddrB FldC.h rfl) ?_
   refine pl_ 6 rfl (pv_indexAddrBA h416 UndC.h ShpC.h rfl rfl) ?_
   refine xpvalE 3 [7, 8, 9] rfl (qv_loadA (f := E_palinode_api_Span) (a := x1) (k := 2) (off := 0) (i := (x302 : Int).toNat) 1 [] [] h414b sq_ so_ (by decide) (by first | rfl | exact part_all sl_) ShpC.h rfl rfl) rfl rfl (by kernel_rfl) (by kernel_rfl) (by kernel_rfl) (fun _ _ _ _ h => h) ?_
   refine xpstepN (is := [7, 8, 9]) (by kernel_rfl) (by simp) ?_
   intro i hi; simp only [List.mem_cons, List.not_mem_nil, or_false] at hi; rcases hi with rfl | rfl | rfl
   ·refine ⟨_, rfl, ?_⟩
    refine wv_ (qv_loadA (f := E_palinode_api_Span) (a := x2) (k := 2) (off := 0) (i := (x302 : Int).toNat) 0 [] [] h416b sq_ so_ (by decide) (by first | rfl | exact part_all sl_) ShpC.h rfl rfl) ?_
    refine xpstepN (is := [8, 9]) (by kernel_rfl) (by simp) ?_
    intro i hi; simp only [List.mem_cons, List.not_mem_nil, or_false] at hi; rcases hi with rfl | rfl
    ·refine ⟨_, rfl, ?_⟩
     refine walloc InfC.h rfl rfl fun b6 => ?_
     refine xpstep (i := 9) (by kernel_rfl) rfl ?_
     refine walloc InfC.h rfl rfl fun b7 => ?_
     exact xpuse key440 ⟨b7, b6, rfl⟩ ⟨lk_, (SubM.of (.keep rfl rfl (.refl _) (.keep rfl rfl (.refl _) (.keep rfl rfl (.refl _) (.keep rfl rfl (.refl _) (.nil _))))) (.nil _))⟩ rfl (by kernel_rfl)
    ·refine ⟨_, rfl, ?_⟩
     refine walloc InfC.h rfl rfl fun b7 => ?_
     refine xpstep (i := 8) (by kernel_rfl) rfl ?_
     refine walloc InfC.h rfl rfl fun b6 => ?_
     exact xpuse key440 ⟨b7, b6, rfl⟩ ⟨lk_, by refine SubM.trans (SubM.mvB 3 rfl) ?_; refine SubM.trans (SubM.mvB 3 rfl) ?_; refine SubM.trans (SubM.mvB 2 rfl) ?_; refine SubM.trans (SubM.mvB 3 rfl) ?_; (simp only [List.eraseIdx]); exact sm_⟩ rfl (by kernel_rfl)
   ·refine ⟨_, rfl, ?_⟩
    refine walloc InfC.h rfl rfl fun b6 => ?_
    refine xfl0 [⟨7, 37, .agg [.v (.int .i64 y417.1), .v (.int .i64 y417.2)]⟩] 3 ?_
    refine xflstep 9 (by kernel_rfl) rfl (.cons rfl rfl rfl (fun _ => rfl) (fun _ => qv_loadA (f := E_palinode_api_Span) (a := x2) (k := 2) (off := 0) (i := (x302 : Int).toNat) 1 [] [] h416b sq_ so_ (by decide) (by first | rfl | exact part_all sl_) ShpC.h rfl rfl) .nil) fun D l td hR => ?_
    refine walloc InfC.h rfl rfl fun b7 => ?_
    refine xflgo1 hR ?_
    refine xflstep 10 (by kernel_rfl) rfl (.cons rfl rfl rfl (fun _ => rfl) (fun _ => qv_loadA (f := E_palinode_api_Span) (a := x2) (k := 2) (off := 0) (i := (x302 : Int).toNat) 2 [] [] h416b sq_ so_ (by decide) (by first | rfl | exact part_all sl_) ShpC.h rfl rfl) .nil) fun D l td hR => ?_
    refine wstore 1 ShpC.h rfl rfl rfl rfl rfl rfl rfl ?_
    refine xflgo0 hR ?_
    refine xflend (l' := #[true, true, true, true, true, true, true, true, true, true, true, false]) (by kernel_rfl) (.cons rfl rfl rfl (fun _ => rfl) (fun _ => qv_loadA (f := E_palinode_api_Span) (a := x2) (k := 2) (off := 0) (i := (x302 : Int).toNat) 2 [] [] h416b sq_ so_ (by decide) (by first | rfl | exact part_all sl_) ShpC.h rfl rfl) .nil) (by kernel_rfl) rfl (by kernel_rfl) (by kernel_rfl) ?_
    simp only [List.nil_append, List.cons_append, List.map_cons, List.map_nil]
    exact xpuse key418 ⟨b7, b6, rfl⟩ ⟨lk_, (SubM.of (.keep rfl rfl (.refl _) (.keep rfl rfl (.refl _) (.keep rfl rfl (.refl _) (.keep rfl rfl (.refl _) (.nil _))))) (.nil _))⟩ rfl (by kernel_rfl)
   ·refine ⟨_, rfl, ?_⟩
    refine walloc InfC.h rfl rfl fun b7 => ?_
    refine xfl0 [⟨7, 37, .agg [.v (.int .i64 y417.1), .v (.int .i64 y417.2)]⟩] 3 ?_
    refine xflstep 8 (by kernel_rfl) rfl (.cons rfl rfl rfl (fun _ => rfl) (fun _ => qv_loadA (f := E_palinode_api_Span) (a := x2) (k := 2) (off := 0) (i := (x302 : Int).toNat) 1 [] [] h416b sq_ so_ (by decide) (by first | rfl | exact part_all sl_) ShpC.h rfl rfl) .nil) fun D l td hR => ?_
    refine walloc InfC.h rfl rfl fun b6 => ?_
    refine xflgo1 hR ?_
    refine xflstep 10 (by kernel_rfl) rfl (.cons rfl rfl rfl (fun _ => rfl) (fun _ => qv_loadA (f := E_palinode_api_Span) (a := x2) (k := 2) (off := 0) (i := (x302 : Int).toNat) 2 [] [] h416b sq_ so_ (by decide) (by first | rfl | exact part_all sl_) ShpC.h rfl rfl) .nil) fun D l td hR => ?_
    refine wstore 0 ShpC.h rfl rfl rfl rfl rfl rfl rfl ?_
    refine xflgo0 hR ?_
    refine xflend (l' := #[true, true, true, true, true, true, true, true, true, true, true, false]) (by kernel_rfl) (.cons rfl rfl rfl (fun _ => rfl) (fun _ => qv_loadA (f := E_palinode_api_Span) (a := x2) (k := 2) (off := 0) (i := (x302 : Int).toNat) 2 [] [] h416b sq_ so_ (by decide) (by first | rfl | exact part_all sl_) ShpC.h rfl rfl) .nil) (by kernel_rfl) rfl (by kernel_rfl) (by kernel_rfl) ?_
    simp only [List.nil_append, List.cons_append, List.map_cons, List.map_nil]
    exact xpuse key418 ⟨b7, b6, rfl⟩ ⟨lk_, by refine SubM.trans (SubM.mvB 3 rfl) ?_; refine SubM.trans (SubM.mvB 3 rfl) ?_; refine SubM.trans (SubM.mvB 2 rfl) ?_; refine SubM.trans (SubM.mvB 3 rfl) ?_; (simp only [List.eraseIdx]); exact sm_⟩ rfl (by kernel_rfl)
  ·replace h := h.2 hp375
   refine xcondF' (decide_eq_false hp375) rfl ?_
   refine xexit ?_
   refine xthen_exit ?_
   refine xthen_exit ?_
   refine xin_same rfl ?_
   refine xthen ?_
   refine sr_ ?_
   refine as_ ?_
   refine nt_ ?_
   refine xretc ?_
   replace h := h.symm
   subst h
   exact xret1 hg rfl rfl (.refl _) (SubM.of (.nil _) (.nil _)) ⟨rfl, rfl, rfl⟩
/-- (*match.search).follow -/
def match_search_follow_j1 (l1 : List (Int × (Arr 10 (Int × Int)) × (List (Int × Int × Int × Int)))) (w9 : Int × (Arr 10 (Int × Int)) × (List (Int × Int × Int × Int))) (o8 : Int) (o6 : Bool) (o7 : Arr 10 (Int × Int)) (x29 : Bool) (r : (List (Int × (Arr 10 (Int × Int)) × (List (Int × Int × Int × Int)))) × Bool × (Arr 10 (Int × Int))) : Prop :=
 ((x29 = true → r = (l1, true, (Arr.set w9.2.1 (0 : Int).toNat ((o8, w9.1))))) ∧ (¬ (x29 = true) → r = (l1, o6, o7)))
def match_search_follow_R (o3 : List (Int × Int × Int × Int × Int × Int × (Arr 4 (UInt64)))) (o4 : Int) (o5 : List UInt8) (o6 : Bool) (o7 : Arr 10 (Int × Int)) (o8 : Int) (l1 : List (Int × (Arr 10 (Int × Int)) × (List (Int × Int × Int × Int)))) (w9 : Int × (Arr 10 (Int × Int)) × (List (Int × Int × Int × Int))) (r : (List (Int × (Arr 10 (Int × Int)) × (List (Int × Int × Int × Int)))) × Bool × (Arr 10 (Int × Int))) : Prop :=
 ((¬ ((List.isEmpty w9.2.2) = true) → Room (l1.length + ([w9]).length) 176 ∧ r = ((l1 ++ [w9]), o6, o7)) ∧ (¬ (¬ ((List.isEmpty w9.2.2) = true)) → (0 ≤ (0 : Int) ∧ (0 : Int) < 10) ∧ ∃ y25 : Int × Int, w9.2.1.l[(0 : Int).toNat]? = some y25 ∧ ((¬ (o6 = true) → match_search_follow_j1 l1 w9 o8 o6 o7 true r) ∧ (¬ (¬ (o6 = true)) → ∃ y32 : Bool, match_Better_R (Arr.set w9.2.1 (0 : Int).toNat ((o8, w9.1))) o7 y32 ∧ match_search_follow_j1 l1 w9 o8 o6 o7 y32 r))))
def match_search_follow_j1_ev (fuel : Nat) (l1 : List (Int × (Arr 10 (Int × Int)) × (List (Int × Int × Int × Int)))) (w9 : Int × (Arr 10 (Int × Int)) × (List (Int × Int × Int × Int))) (o8 : Int) (o6 : Bool) (o7 : Arr 10 (Int × Int)) (x29 : Bool) : Option ((List (Int × (Arr 10 (Int × Int)) × (List (Int × Int × Int × Int)))) × Bool × (Arr 10 (Int × Int))) :=
 (if x29 = true then some (l1, true, (Arr.set w9.2.1 (0 : Int).toNat ((o8, w9.1)))) else some (l1, o6, o7))
theorem match_search_follow_j1_ok {fuel : Nat} {l1 : List (Int × (Arr 10 (Int × Int)) × (List (Int × Int × Int × Int)))} {w9 : Int × (Arr 10 (Int × Int)) × (List (Int × Int × Int × Int))} {o8 : Int} {o6 : Bool} {o7 : Arr 10 (Int × Int)} {x29 : Bool} {r : (List (Int × (Arr 10 (Int × Int)) × (List (Int × Int × Int × Int)))) × Bool × (Arr 10 (Int × Int))} (h : match_search_follow_j1_ev fuel l1 w9 o8 o6 o7 x29 = some r) : match_search_follow_j1 l1 w9 o8 o6 o7 x29 r := by
 unfold match_search_follow_j1_ev at h
 unfold match_search_follow_j1
 refine ⟨fun g189 => ?_, fun g189 => ?_⟩
 ·rw [if_pos g189] at h
  exact (Option.some.inj h).symm
 ·rw [if_neg g189] at h
  exact (Option.some.inj h).symm
def match_search_follow_ev (fuel : Nat) (o3 : List (Int × Int × Int × Int × Int × Int × (Arr 4 (UInt64)))) (o4 : Int) (o5 : List UInt8) (o6 : Bool) (o7 : Arr 10 (Int × Int)) (o8 : Int) (l1 : List (Int × (Arr 10 (Int × Int)) × (List (Int × Int × Int × Int)))) (w9 : Int × (Arr 10 (Int × Int)) × (List (Int × Int × Int × Int))) : Option ((List (Int × (Arr 10 (Int × Int)) × (List (Int × Int × Int × Int)))) × Bool × (Arr 10 (Int × Int))) :=
 (if ¬ ((List.isEmpty w9.2.2) = true) then (if Room (l1.length + ([w9]).length) 176 then some ((l1 ++ [w9]), o6, o7) else none) else (if (0 ≤ (0 : Int) ∧ (0 : Int) < 10) then ((w9.2.1.l[(0 : Int).toNat]?).bind fun y25 => (if ¬ (o6 = true) then match_search_follow_j1_ev fuel l1 w9 o8 o6 o7 true else ((match_Better_ev fuel (Arr.set w9.2.1 (0 : Int).toNat ((o8, w9.1))) o7).bind fun y32 => match_search_follow_j1_ev fuel l1 w9 o8 o6 o7 y32))) else none))
theorem match_search_follow_ok {fuel : Nat} {o3 : List (Int × Int × Int × Int × Int × Int × (Arr 4 (UInt64)))} {o4 : Int} {o5 : List UInt8} {o6 : Bool} {o7 : Arr 10 (Int × Int)} {o8 : Int} {l1 : List (Int × (Arr 10 (Int × Int)) × (List (Int × Int × Int × Int)))} {w9 : Int × (Arr 10 (Int × Int)) × (List (Int × Int × Int × Int))} {r : (List (Int × (Arr 10 (Int × Int)) × (List (Int × Int × Int × Int)))) × Bool × (Arr 10 (Int × Int))} (h : match_search_follow_ev fuel o3 o4 o5 o6 o7 o8 l1 w9 = some r) : match_search_follow_R o3 o4 o5 o6 o7 o8 l1 w9 r := by
 unfold match_search_follow_ev at h
 unfold match_search_follow_R
 refine ⟨fun g190 => ?_, fun g190 => ?_⟩
 ·rw [if_pos g190] at h
  obtain ⟨g191, h⟩ := if_ok h
  refine ⟨g191, ?_⟩
  exact (Option.some.inj h).symm
 ·rw [if_neg g190] at h
  obtain ⟨g192, h⟩ := if_ok h
  refine ⟨g192, ?_⟩
  obtain ⟨q193, g193, h⟩ := bind_ok h
  refine ⟨q193, g193, ?_⟩
  refine ⟨fun g194 => ?_, fun g194 => ?_⟩
  ·rw [if_pos g194] at h
   exact match_search_follow_j1_ok h
  ·rw [if_neg g194] at h
   obtain ⟨q195, g195, h⟩ := bind_ok h
   refine ⟨q195, match_Better_ok g195, ?_⟩
   exact match_search_follow_j1_ok h
set_option maxRecDepth 100000 in
set_option maxHeartbeats 4000000 in
theorem match_search_follow_con (o3 : List (Int × Int × Int × Int × Int × Int × (Arr 4 (UInt64)))) (o4 : Int) (o5 : List UInt8) (o6 : Bool) (o7 : Arr 10 (Int × Int)) (o8 : Int) (l1 : List (Int × (Arr 10 (Int × Int)) × (List (Int × Int × Int × Int)))) (w9 : Int × (Arr 10 (Int × Int)) × (List (Int × Int × Int × Int))) (bx0 : Nat) (ia2 : Option (Nat × Nat)) (r : (List (Int × (Arr 10 (Int × Int)) × (List (Int × Int × Int × Int)))) × Bool × (Arr 10 (Int × Int))) (h : match_search_follow_R o3 o4 o5 o6 o7 o8 l1 w9 r) : Con Try.prog 26 [.v (.pointer (some ⟨bx0, 0, none⟩)), .agg ([.v (.int .i64 w9.1)] ++ ((List.map E_palinode_api_Span w9.2.1.l).flatten ++ [.pt (List.isEmpty w9.2.2) (PC_palinode_match_cell w9.2.2)]))] [⟨bx0, 74, ([.sl 10 none (List.map E_palinode_api_Node o3), .v (.int .i64 o4), .sl 1 none (List.map eb o5), .rb ia2 l1.length, .v (.bool o6)] ++ ((List.map E_palinode_api_Span o7.l).flatten ++ [.v (.int .i64 o8)]))⟩, rbx ia2 79 22 (List.map E_palinode_match_way l1)] [] (fun rr bx tk => ∃ j1, rr = .tup [] ∧ bx = [rbx j1 79 22 (List.map E_palinode_match_way r.1), ⟨bx0, 74, ([.sl 10 none (List.map E_palinode_api_Node o3), .v (.int .i64 o4), .sl 1 none (List.map eb o5), .rb j1 r.1.length, .v (.bool r.2.1)] ++ ((List.map E_palinode_api_Span r.2.2.l).flatten ++ [.v (.int .i64 o8)]))⟩] ∧ tk = []) := by
 refine xenter Try.func26 rfl rfl fun g hg => ?_
 simp only [Try.ntmps26, slots]
 refine sr_ ?_
 refine xbox rfl rfl rfl rfl fun b3 => ?_
 refine nt_ ?_
 refine xseq ?_
 refine sr_ ?_
 refine vp_ (qv_fieldAddrB FldC.h rfl) ?_
 refine v_ (qv_loadP 0 ([.v (.int .i64 w9.1)] ++ (List.map E_palinode_api_Span w9.2.1.l).flatten) [.pt (List.isEmpty w9.2.2) (PC_palinode_match_cell w9.2.2)] [] sq_ sl_ sl_ rfl ShpC.h rfl rfl) ?_
 refine vp_ (pv_nePt UndC.h rfl rfl) ?_
 refine nt_ ?_
 by_cases hp17 : ¬ ((List.isEmpty w9.2.2) = true)
 ·replace h := h.1 hp17
  refine xcondT' (not_t (b_f hp17)) rfl ?_
  refine xseq ?_
  refine xregionD (m := 11) (by kernel_rfl) rfl ?_
  obtain ⟨h20, h⟩ := h
  refine pl_ 0 rfl (pv_move rfl) ?_
  refine pl_ 1 rfl (pv_move rfl) ?_
  refine pl_ 2 rfl (pv_nilCheck rfl) ?_
  refine pl_ 3 rfl (qv_fieldAddrB FldC.h rfl) ?_
  refine xpvalE 4 [5, 6] rfl (qv_loadB 1 ShpC.h rfl rfl rfl rfl) rfl rfl (by kernel_rfl) (by kernel_rfl) (by kernel_rfl) (fun _ _ _ _ h => h) ?_
  refine xpvalE 5 [] rfl (qv_loadP 0 [] ([.v (.int .i64 w9.1)] ++ ((List.map E_palinode_api_Span w9.2.1.l).flatten ++ [.pt (List.isEmpty w9.2.2) (PC_palinode_match_cell w9.2.2)])) [] sq_ sl_ sl_ (part_all sl_) ShpC.h rfl rfl) rfl rfl (by kernel_rfl) (by kernel_rfl) (by kernel_rfl) (fun _ _ _ _ h => h) ?_
  refine xpstep (i := 6) (by kernel_rfl) rfl ?_
  refine wbuildSliceME (f := E_palinode_match_way) [w9] UndC.h InfC.h rfl (.cons rfl (beq_of sl_) rfl rfl .nil) wr_ rfl rfl rfl rfl fun s14 => ?_
  refine xpstep (i := 7) (by kernel_rfl) rfl ?_
  refine wappendRb (f := E_palinode_match_way) (l := l1) (l2 := [w9]) 2 rfl h20 UndC.h InfC.h rfl rfl (.refl _) (.sl rfl (.refl _)) rfl rfl rfl fun i21 => ?_
  refine pl_ 8 rfl (pv_nilCheck rfl) ?_
  refine pl_ 9 rfl (qv_fieldAddrB FldC.h rfl) ?_
  refine xpstep (i := 10) (by kernel_rfl) rfl ?_
  refine wstore 1 ShpC.h rfl rfl rfl rfl rfl rfl rfl ?_
  refine xpdone (by kernel_rfl) ?_
  refine xthen ?_
  refine xretc ?_
  refine xthen_ret ?_
  replace h := h.symm
  subst h
  exact xret0 (bx' := [rbx i21 79 22 (List.map E_palinode_match_way ((l1 ++ [w9]))), ⟨bx0, 74, ([.sl 10 none (List.map E_palinode_api_Node o3), .v (.int .i64 o4), .sl 1 none (List.map eb o5), .rb i21 (((l1 ++ [w9])).length), .v (.bool o6)] ++ ((List.map E_palinode_api_Span o7.l).flatten ++ [.v (.int .i64 o8)]))⟩]) (tk' := []) hg rfl (by refine SubM.trans (SubM.mvB 1 rfl) ?_; refine SubM.trans (SubM.mvB 2 rfl) ?_; (simp only [List.eraseIdx]); exact sm_) ⟨i21, rfl, rfl, rfl⟩ (by simp)
 ·replace h := h.2 hp17
  refine xcondF' (not_f (Decidable.of_not_not hp17)) rfl ?_
  refine xskipc ?_
  refine xthen ?_
  refine xseq ?_
  refine xregionD (m := 10) (by kernel_rfl) rfl ?_
  obtain ⟨h24, h⟩ := h
  obtain ⟨y25, h24b, h⟩ := h
  refine pl_ 0 rfl (pv_move rfl) ?_
  refine pl_ 1 rfl (pv_nilCheck rfl) ?_
  refine pl_ 2 rfl (qv_fieldAddrB FldC.h rfl) ?_
  refine pl_ 4 rfl (qv_fieldAddrB FldC.h rfl) ?_
  refine pl_ 7 rfl (qv_fieldAddrB FldC.h rfl) ?_
  refine xpvalE 3 [5] rfl (qv_loadP 1 ([.sl 10 none (List.map E_palinode_api_Node o3), .v (.int .i64 o4), .sl 1 none (List.map eb o5), .rb ia2 l1.length, .v (.bool o6)] ++ (List.map E_palinode_api_Span o7.l).flatten) [.v (.int .i64 o8)] [] sq_ sl_ sl_ rfl ShpC.h rfl rfl) rfl rfl (by kernel_rfl) (by kernel_rfl) (by kernel_rfl) (fun _ _ _ _ h => h) ?_
  refine xpvalE 5 [] rfl (qv_loadB 0 ShpC.h rfl rfl rfl rfl) rfl rfl (by kernel_rfl) (by kernel_rfl) (by kernel_rfl) (fun _ _ _ _ h => h) ?_
  refine pl_ 6 rfl (pv_buildC StrC.h rfl rfl) ?_
  refine pl_ 8 rfl (pv_indexAddrBA h24 UndC.h ShpC.h rfl rfl) ?_
  refine xpstep (i := 9) (by kernel_rfl) rfl ?_
  refine wstoreA (f := E_palinode_api_Span) (a := w9.2.1) (k := 2) (off := 0) (i := (0 : Int).toNat) 0 [.v (.int .i64 w9.1)] [.pt (List.isEmpty w9.2.2) (PC_palinode_match_cell w9.2.2)] (o8, w9.1) h24b sq_ so_ (by decide) ShpC.h rfl rfl rfl rfl sl_ rfl rfl ?_
  refine preb 0 ([.v (.int .i64 w9.1)] ++ ((List.map E_palinode_api_Span ((Arr.set w9.2.1 (0 : Int).toNat ((o8, w9.1)))).l).flatten ++ [.pt (List.isEmpty w9.2.2) (PC_palinode_match_cell w9.2.2)])) rfl sq_ ?_
  refine xpdone (by kernel_rfl) ?_
  refine xthen ?_
  refine sr_ ?_
  refine vp_ (qv_fieldAddrB FldC.h rfl) ?_
  refine v_ (qv_loadP 0 [.v (.int .i64 w9.1)] ((List.map E_palinode_api_Span ((Arr.set w9.2.1 (0 : Int).toNat ((o8, w9.1)))).l).flatten) [.pt (List.isEmpty w9.2.2) (PC_palinode_match_cell w9.2.2)] sq_ sl_ sl_ (part_all (seg_lenE (by rfl))) ShpC.h rfl rfl) ?_
  refine vp_ (pv_buildC (cs := ((List.map E_palinode_api_Span ((Arr.set w9.2.1 (0 : Int).toNat ((o8, w9.1)))).l).flatten)) StrC.h rfl (by refine fill_step [] ((List.map E_palinode_api_Span ((Arr.rep 10 (0, 0))).l).flatten) [] sq_ sl_ sl_ sl_ rfl rfl ?_; exact congrArg some sq_)) ?_
  refine xalloc InfC.h rfl rfl fun b4 => ?_
  refine xreb 0 ((List.map E_palinode_api_Span ((Arr.rep 10 (0, 0))).l).flatten) rfl rfl ?_
  refine xstoreQ 0 [] ((List.map E_palinode_api_Span ((Arr.rep 10 (0, 0))).l).flatten) [] ((List.map E_palinode_api_Span ((Arr.set w9.2.1 (0 : Int).toNat ((o8, w9.1)))).l).flatten) ShpC.h rfl rfl rfl rfl rfl ?_
  refine nt_ ?_
  refine xseqM (fun σ => ∃ (x29 : Bool), match_search_follow_j1 l1 w9 o8 o6 o7 x29 r ∧ σ = ⟨[(0, .v (.pointer (some ⟨bx0, 0, none⟩))), (4, .v (.pointer (some ⟨b4, 0, none⟩))), (42, .v (.bool x29))], [⟨b4, 36, ((List.map E_palinode_api_Span ((Arr.set w9.2.1 (0 : Int).toNat ((o8, w9.1)))).l).flatten)⟩, ⟨bx0, 74, ([.sl 10 none (List.map E_palinode_api_Node o3), .v (.int .i64 o4), .sl 1 none (List.map eb o5), .rb ia2 l1.length, .v (.bool o6)] ++ ((List.map E_palinode_api_Span o7.l).flatten ++ [.v (.int .i64 o8)]))⟩, rbx ia2 79 22 (List.map E_palinode_match_way l1)], []⟩) ?_ ?_
  ·refine xregionD (m := 13) (by kernel_rfl) rfl ?_
   refine pl_ 0 rfl (pv_move rfl) ?_
   refine pl_ 1 rfl (pv_nilCheck rfl) ?_
   refine pl_ 2 rfl (qv_fieldAddrB FldC.h rfl) ?_
   refine xpvalE 3 [] rfl (qv_loadB 2 ShpC.h rfl rfl rfl rfl) rfl rfl (by kernel_rfl) (by kernel_rfl) (by kernel_rfl) (fun _ _ _ _ h => h) ?_
   refine pl_ 4 rfl (pv_not rfl) ?_
   refine pl_ 5 rfl (pv_move rfl) ?_
   by_cases hp30 : ¬ (o6 = true)
   ·replace h := h.1 hp30
    refine psetB 35 (not_t (b_f hp30)) rfl ?_
    refine xpskip 6 rfl rfl rfl (by kernel_rfl) (by kernel_rfl) (by kernel_rfl) (fun _ _ _ _ h => h) ?_
    refine xpskip 7 rfl rfl rfl (by kernel_rfl) (by kernel_rfl) (by kernel_rfl) (fun _ _ _ _ h => h) ?_
    refine xpskip 8 rfl rfl rfl (by kernel_rfl) (by kernel_rfl) (by kernel_rfl) (fun _ _ _ _ h => h) ?_
    refine xpskip 9 rfl rfl rfl (by kernel_rfl) (by kernel_rfl) (by kernel_rfl) (fun _ _ _ _ h => h) ?_
    refine xpskip 10 rfl rfl rfl (by kernel_rfl) (by kernel_rfl) (by kernel_rfl) (fun _ _ _ _ h => h) ?_
    refine xpskip 11 rfl rfl rfl (by kernel_rfl) (by kernel_rfl) (by kernel_rfl) (fun _ _ _ _ h => h) ?_
    refine pl_ 12 rfl (pv_pick rfl rfl) ?_
    refine xpdone (by kernel_rfl) ?_
    exact xmeet ⟨true, h, rfl⟩ ⟨lk_, by exact (SubM.of (.keep rfl rfl (.refl _) (.drop (.keep rfl rfl (by first | exact WkL.refl _ | (exact wl_; done)) (.keep rfl rfl (.refl _) (.nil _))))) (.nil _))⟩
   ·replace h := h.2 hp30
    refine psetB 35 (not_f (Decidable.of_not_not hp30)) rfl ?_
    obtain ⟨y32, h31, h⟩ := h
    refine pl_ 7 rfl (pv_move rfl) ?_
    refine pl_ 8 rfl (pv_nilCheck rfl) ?_
    refine pl_ 9 rfl (qv_fieldAddrB FldC.h rfl) ?_
    refine xpvalE 6 [10] rfl (qv_loadP 0 [] ((List.map E_palinode_api_Span ((Arr.set w9.2.1 (0 : Int).toNat ((o8, w9.1)))).l).flatten) [] sq_ sl_ sl_ (part_all (seg_lenE (by rfl))) ShpC.h rfl rfl) rfl rfl (by kernel_rfl) (by kernel_rfl) (by kernel_rfl) (fun _ _ _ _ h => h) ?_
    refine xpvalE 10 [] rfl (qv_loadP 2 [.sl 10 none (List.map E_palinode_api_Node o3), .v (.int .i64 o4), .sl 1 none (List.map eb o5), .rb ia2 l1.length, .v (.bool o6)] ((List.map E_palinode_api_Span o7.l).flatten) [.v (.int .i64 o8)] sq_ sl_ sl_ (part_all (seg_lenE (by rfl))) ShpC.h rfl rfl) rfl rfl (by kernel_rfl) (by kernel_rfl) (by kernel_rfl) (fun _ _ _ _ h => h) ?_
    refine xpstep (i := 11) (by kernel_rfl) rfl ?_
    refine wcall0 (match_Better_con (Arr.set w9.2.1 (0 : Int).toNat ((o8, w9.1))) o7 _ h31) Try.func32 (by kernel_rfl) rfl (.cons rfl (.refl _) (.cons rfl (.refl _) .nil)) rfl rfl ?_
    refine pl_ 12 rfl (pv_pick rfl rfl) ?_
    refine xpdone (by kernel_rfl) ?_
    exact xmeet ⟨y32, h, rfl⟩ ⟨lk_, by exact (SubM.of (.keep rfl rfl (.refl _) (.drop (.keep rfl rfl (by first | exact WkL.refl _ | (exact wl_; done)) (.keep rfl rfl (.refl _) (.nil _))))) (.nil _))⟩
  ·clear h
   rintro _ ⟨x29, h, rfl⟩
   by_cases hp33 : x29 = true
   ·replace h := h.1 hp33
    refine xcondT' hp33 rfl ?_
    refine xregionD (m := 9) (by kernel_rfl) rfl ?_
    refine pl_ 0 rfl (pv_move rfl) ?_
    refine pl_ 1 rfl (pv_move rfl) ?_
    refine pl_ 3 rfl (pv_nilCheck rfl) ?_
    refine pl_ 4 rfl (qv_fieldAddrB FldC.h rfl) ?_
    refine xfl0 [⟨2, 45, .agg ((List.map E_palinode_api_Span ((Arr.set w9.2.1 (0 : Int).toNat ((o8, w9.1)))).l).flatten)⟩] 4 ?_
    refine xflstep 5 (by kernel_rfl) rfl (.cons rfl rfl rfl (fun _ => rfl) (fun _ => qv_loadP 0 [] ((List.map E_palinode_api_Span ((Arr.set w9.2.1 (0 : Int).toNat ((o8, w9.1)))).l).flatten) [] sq_ sl_ sl_ (part_all (seg_lenE (by rfl))) ShpC.h rfl rfl) .nil) fun D l td hR => ?_
    refine wstore 1 ShpC.h rfl rfl rfl rfl rfl rfl rfl ?_
    refine xflgo0 hR ?_
    refine xflend (l' := #[true, true, true, true, true, true, false, false, false]) (by kernel_rfl) (.cons rfl rfl rfl (fun _ => rfl) (fun _ => qv_loadP 0 [] ((List.map E_palinode_api_Span ((Arr.set w9.2.1 (0 : Int).toNat ((o8, w9.1)))).l).flatten) [] sq_ sl_ sl_ (part_all (seg_lenE (by rfl))) ShpC.h rfl rfl) .nil) (by kernel_rfl) rfl (by kernel_rfl) (by kernel_rfl) ?_
    simp only [List.nil_append, List.cons_append, List.map_cons, List.map_nil]
    refine pl_ 6 rfl (pv_nilCheck rfl) ?_
    refine pl_ 7 rfl (qv_fieldAddrB FldC.h rfl) ?_
    refine xpstep (i := 8) (by kernel_rfl) rfl ?_
    refine wstoreQ 1 [.sl 10 none (List.map E_palinode_api_Node o3), .v (.int .i64 o4), .sl 1 none (List.map eb o5), .rb ia2 l1.length, .v (.bool true)] ((List.map E_palinode_api_Span o7.l).flatten) [.v (.int .i64 o8)] ([.sl 10 none (List.map E_palinode_api_Node o3), .v (.int .i64 o4), .sl 1 none (List.map eb o5), .rb ia2 l1.length, .v (.bool true)] ++ ((List.map E_palinode_api_Span ((Arr.set w9.2.1 (0 : Int).toNat ((o8, w9.1)))).l).flatten ++ [.v (.int .i64 o8)])) ShpC.h rfl rfl rfl rfl rfl ?_
    refine xpdone (by kernel_rfl) ?_
    replace h := h.symm
    subst h
    exact xret0 (bx' := [rbx ia2 79 22 (List.map E_palinode_match_way l1), ⟨bx0, 74, ([.sl 10 none (List.map E_palinode_api_Node o3), .v (.int .i64 o4), .sl 1 none (List.map eb o5), .rb ia2 l1.length, .v (.bool true)] ++ ((List.map E_palinode_api_Span ((Arr.set w9.2.1 (0 : Int).toNat ((o8, w9.1)))).l).flatten ++ [.v (.int .i64 o8)]))⟩]) (tk' := []) hg rfl (by refine SubM.trans (SubM.mvB 1 rfl) ?_; refine SubM.trans (SubM.mvB 2 rfl) ?_; (simp only [List.eraseIdx]); exact sm_) ⟨ia2, rfl, rfl, rfl⟩ (by simp)
   ·replace h := h.2 hp33
    refine xcondF' (b_f hp33) rfl ?_
    refine xskipc ?_
    replace h := h.symm
    subst h
    exact xret0 (bx' := [rbx ia2 79 22 (List.map E_palinode_match_way l1), ⟨bx0, 74, ([.sl 10 none (List.map E_palinode_api_Node o3), .v (.int .i64 o4), .sl 1 none (List.map eb o5), .rb ia2 l1.length, .v (.bool o6)] ++ ((List.map E_palinode_api_Span o7.l).flatten ++ [.v (.int .i64 o8)]))⟩]) (tk' := []) hg rfl (by refine SubM.trans (SubM.mvB 1 rfl) ?_; refine SubM.trans (SubM.mvB 2 rfl) ?_; (simp only [List.eraseIdx]); exact sm_) ⟨ia2, rfl, rfl, rfl⟩ (by simp)
/-- (match.way).ahead -/
def match_way_ahead_R (w1 : Int × (Arr 10 (Int × Int)) × (List (Int × Int × Int × Int))) (c2 : Int × Int × Int × Int × (List (Int × Int × Int × Int))) (r : (Int × (Arr 10 (Int × Int)) × (List (Int × Int × Int × Int)))) : Prop :=
 r = (w1.1, w1.2.1, ((c2.1, c2.2.1, c2.2.2.1, c2.2.2.2.1) :: w1.2.2))
def match_way_ahead_ev (fuel : Nat) (w1 : Int × (Arr 10 (Int × Int)) × (List (Int × Int × Int × Int))) (c2 : Int × Int × Int × Int × (List (Int × Int × Int × Int))) : Option ((Int × (Arr 10 (Int × Int)) × (List (Int × Int × Int × Int)))) :=
 some (w1.1, w1.2.1, ((c2.1, c2.2.1, c2.2.2.1, c2.2.2.2.1) :: w1.2.2))
theorem match_way_ahead_ok {fuel : Nat} {w1 : Int × (Arr 10 (Int × Int)) × (List (Int × Int × Int × Int))} {c2 : Int × Int × Int × Int × (List (Int × Int × Int × Int))} {r : (Int × (Arr 10 (Int × Int)) × (List (Int × Int × Int × Int)))} (h : match_way_ahead_ev fuel w1 c2 = some r) : match_way_ahead_R w1 c2 r := by
 unfold match_way_ahead_ev at h
 unfold match_way_ahead_R
 exact (Option.some.inj h).symm
set_option maxRecDepth 100000 in
set_option maxHeartbeats 4000000 in
theorem match_way_ahead_con (w1 : Int × (Arr 10 (Int × Int)) × (List (Int × Int × Int × Int))) (c2 : Int × Int × Int × Int × (List (Int × Int × Int × Int))) (r : (Int × (Arr 10 (Int × Int)) × (List (Int × Int × Int × Int)))) (h : match_way_ahead_R w1 c2 r) : Con Try.prog 36 [.agg ([.v (.int .i64 w1.1)] ++ ((List.map E_palinode_api_Span w1.2.1.l).flatten ++ [.pt (List.isEmpty w1.2.2) (PC_palinode_match_cell w1.2.2)])), .agg [.v (.int .i64 c2.1), .v (.int .i64 c2.2.1), .v (.int .i64 c2.2.2.1), .v (.int .i64 c2.2.2.2.1), .pt (List.isEmpty c2.2.2.2.2) (PC_palinode_match_cell c2.2.2.2.2)]] [] [] (Ret (.agg ([.v (.int .i64 r.1)] ++ ((List.map E_palinode_api_Span r.2.1.l).flatten ++ [.pt (List.isEmpty r.2.2) (PC_palinode_match_cell r.2.2)])))) := by
 refine xenter Try.func36 rfl rfl fun g hg => ?_
 simp only [Try.ntmps36, slots]
 refine sr_ ?_
 refine xbox rfl rfl rfl rfl fun b2 => ?_
 refine xbox rfl rfl rfl rfl fun b3 => ?_
 refine xalloc InfC.h rfl rfl fun b4 => ?_
 refine xreb 0 ([.v (.int .i64 0)] ++ ((List.map E_palinode_api_Span ((Arr.rep 10 (0, 0))).l).flatten ++ [.v (.pointer none)])) rfl rfl ?_
 refine nt_ ?_
 refine sr_ ?_
 refine vp_ (qv_fieldAddrB FldC.h rfl) ?_
 refine v_ (qv_loadP 2 ([.v (.int .i64 w1.1)] ++ (List.map E_palinode_api_Span w1.2.1.l).flatten) [.pt (List.isEmpty w1.2.2) (PC_palinode_match_cell w1.2.2)] [] sq_ sl_ sl_ rfl ShpC.h rfl rfl) ?_
 refine vp_ (qv_fieldAddrB FldC.h rfl) ?_
 refine xstore 1 ShpC.h rfl rfl rfl rfl rfl rfl rfl ?_
 refine nt_ ?_
 refine sr_ ?_
 refine vp_ (qv_fieldAddrB FldC.h rfl) ?_
 refine xfreezeB 1 3 rfl rfl ?_
 refine xstoreQ 1 ([.v (.int .i64 w1.1)] ++ (List.map E_palinode_api_Span w1.2.1.l).flatten) [.pt (List.isEmpty w1.2.2) (PC_palinode_match_cell w1.2.2)] [] ([.v (.int .i64 w1.1)] ++ ((List.map E_palinode_api_Span w1.2.1.l).flatten ++ [.pt (List.isEmpty ((c2.1, c2.2.1, c2.2.2.1, c2.2.2.2.1) :: w1.2.2)) (PC_palinode_match_cell ((c2.1, c2.2.1, c2.2.2.1, c2.2.2.2.1) :: w1.2.2))])) ShpC.h rfl rfl rfl rfl rfl ?_
 refine nt_ ?_
 refine sr_ ?_
 refine v_ (qv_loadP 1 [] ([.v (.int .i64 w1.1)] ++ ((List.map E_palinode_api_Span w1.2.1.l).flatten ++ [.pt (List.isEmpty ((c2.1, c2.2.1, c2.2.2.1, c2.2.2.2.1) :: w1.2.2)) (PC_palinode_match_cell ((c2.1, c2.2.1, c2.2.2.1, c2.2.2.2.1) :: w1.2.2))])) [] sq_ sl_ sl_ (part_all sl_) ShpC.h rfl rfl) ?_
 refine xstoreQ 0 [] ([.v (.int .i64 0)] ++ ((List.map E_palinode_api_Span ((Arr.rep 10 (0, 0))).l).flatten ++ [.v (.pointer none)])) [] ([.v (.int .i64 w1.1)] ++ ((List.map E_palinode_api_Span w1.2.1.l).flatten ++ [.pt (List.isEmpty ((c2.1, c2.2.1, c2.2.2.1, c2.2.2.2.1) :: w1.2.2)) (PC_palinode_match_cell ((c2.1, c2.2.1, c2.2.2.1, c2.2.2.2.1) :: w1.2.2))])) ShpC.h rfl rfl rfl rfl rfl ?_
 refine nt_ ?_
 refine xretc ?_
 replace h := h.symm
 subst h
 exact xretL (rs := [.cell 4 79]) (ss := [.agg ([.v (.int .i64 w1.1)] ++ ((List.map E_palinode_api_Span w1.2.1.l).flatten ++ [.pt (List.isEmpty ((c2.1, c2.2.1, c2.2.2.1, c2.2.2.2.1) :: w1.2.2)) (PC_palinode_match_cell ((c2.1, c2.2.1, c2.2.2.1, c2.2.2.2.1) :: w1.2.2))]))]) hg rfl (by refine RetL.cell 0 ShpC.h rfl rfl (part_midE (pre := []) (mid := ([.v (.int .i64 w1.1)] ++ ((List.map E_palinode_api_Span w1.2.1.l).flatten ++ [.pt (List.isEmpty ((c2.1, c2.2.1, c2.2.2.1, c2.2.2.2.1) :: w1.2.2)) (PC_palinode_match_cell ((c2.1, c2.2.1, c2.2.2.1, c2.2.2.2.1) :: w1.2.2))]))) (post := []) sq_ sl_ sl_ (part_all sl_)) (len_midE (pre := []) (mid := ([.v (.int .i64 w1.1)] ++ ((List.map E_palinode_api_Span w1.2.1.l).flatten ++ [.pt (List.isEmpty ((c2.1, c2.2.1, c2.2.2.1, c2.2.2.2.1) :: w1.2.2)) (PC_palinode_match_cell ((c2.1, c2.2.1, c2.2.2.1, c2.2.2.2.1) :: w1.2.2))]))) (post := []) sq_ sl_ sl_) wk_ ?_; exact RetL.nil) (SubM.of (.nil _) (.nil _)) ⟨rfl, rfl, rfl⟩
/-- (*match.search).times -/
def match_search_times_j2 (k11 : Int) (w9 : Int × (Arr 10 (Int × Int)) × (List (Int × Int × Int × Int))) (iv10 : Int) (y12 : Int × Int × Int × Int × Int × Int × (Arr 4 (UInt64))) (o3 : List (Int × Int × Int × Int × Int × Int × (Arr 4 (UInt64)))) (o4 : Int) (o5 : List UInt8) (f19 : Bool) (f20 : Arr 10 (Int × Int)) (o8 : Int) (l21 : List (Int × (Arr 10 (Int × Int)) × (List (Int × Int × Int × Int)))) (x31 : Bool) (r : (List (Int × (Arr 10 (Int × Int)) × (List (Int × Int × Int × Int)))) × Bool × (Arr 10 (Int × Int))) : Prop :=
 ((x31 = true → InR (k11 + 1) ∧ ∃ y38 : (Int × (Arr 10 (Int × Int)) × (List (Int × Int × Int × Int))), match_way_ahead_R w9 (2, iv10, (k11 + 1), w9.1, ([] : List (Int × Int × Int × Int))) y38 ∧ ∃ y40 : (Int × (Arr 10 (Int × Int)) × (List (Int × Int × Int × Int))), match_way_ahead_R y38 (0, y12.2.1, 0, 0, ([] : List (Int × Int × Int × Int))) y40 ∧ ∃ y42 : (List (Int × (Arr 10 (Int × Int)) × (List (Int × Int × Int × Int)))) × Bool × (Arr 10 (Int × Int)), match_search_follow_R o3 o4 o5 f19 f20 o8 l21 y40 y42 ∧ r = (y42.1, y42.2.1, y42.2.2)) ∧ (¬ (x31 = true) → r = (l21, f19, f20)))
def match_search_times_j1 (k11 : Int) (w9 : Int × (Arr 10 (Int × Int)) × (List (Int × Int × Int × Int))) (iv10 : Int) (y12 : Int × Int × Int × Int × Int × Int × (Arr 4 (UInt64))) (o3 : List (Int × Int × Int × Int × Int × Int × (Arr 4 (UInt64)))) (o4 : Int) (o5 : List UInt8) (o8 : Int) (f19 : Bool) (f20 : Arr 10 (Int × Int)) (l21 : List (Int × (Arr 10 (Int × Int)) × (List (Int × Int × Int × Int)))) (r : (List (Int × (Arr 10 (Int × Int)) × (List (Int × Int × Int × Int)))) × Bool × (Arr 10 (Int × Int))) : Prop :=
 match_search_times_j2 k11 w9 iv10 y12 o3 o4 o5 f19 f20 o8 l21 ((decide (y12.2.2.2.2.1 = (-1))) || (decide (k11 < y12.2.2.2.2.1))) r
def match_search_times_R (o3 : List (Int × Int × Int × Int × Int × Int × (Arr 4 (UInt64)))) (o4 : Int) (o5 : List UInt8) (o6 : Bool) (o7 : Arr 10 (Int × Int)) (o8 : Int) (l1 : List (Int × (Arr 10 (Int × Int)) × (List (Int × Int × Int × Int)))) (w9 : Int × (Arr 10 (Int × Int)) × (List (Int × Int × Int × Int))) (iv10 : Int) (k11 : Int) (r : (List (Int × (Arr 10 (Int × Int)) × (List (Int × Int × Int × Int)))) × Bool × (Arr 10 (Int × Int))) : Prop :=
 0 ≤ (iv10 : Int) ∧ ∃ y12 : Int × Int × Int × Int × Int × Int × (Arr 4 (UInt64)), o3[(iv10 : Int).toNat]? = some y12 ∧ ((y12.2.2.2.1 ≤ k11 → ∃ y26 : (List (Int × (Arr 10 (Int × Int)) × (List (Int × Int × Int × Int)))) × Bool × (Arr 10 (Int × Int)), match_search_follow_R o3 o4 o5 o6 o7 o8 l1 w9 y26 ∧ match_search_times_j1 k11 w9 iv10 y12 o3 o4 o5 o8 y26.2.1 y26.2.2 y26.1 r) ∧ (¬ (y12.2.2.2.1 ≤ k11) → match_search_times_j1 k11 w9 iv10 y12 o3 o4 o5 o8 o6 o7 l1 r))
def match_search_times_j2_ev (fuel : Nat) (k11 : Int) (w9 : Int × (Arr 10 (Int × Int)) × (List (Int × Int × Int × Int))) (iv10 : Int) (y12 : Int × Int × Int × Int × Int × Int × (Arr 4 (UInt64))) (o3 : List (Int × Int × Int × Int × Int × Int × (Arr 4 (UInt64)))) (o4 : Int) (o5 : List UInt8) (f19 : Bool) (f20 : Arr 10 (Int × Int)) (o8 : Int) (l21 : List (Int × (Arr 10 (Int × Int)) × (List (Int × Int × Int × Int)))) (x31 : Bool) : Option ((List (Int × (Arr 10 (Int × Int)) × (List (Int × Int × Int × Int)))) × Bool × (Arr 10 (Int × Int))) :=
 (if x31 = true then (if InR (k11 + 1) then ((match_way_ahead_ev fuel w9 (2, iv10, (k11 + 1), w9.1, ([] : List (Int × Int × Int × Int)))).bind fun y38 => ((match_way_ahead_ev fuel y38 (0, y12.2.1, 0, 0, ([] : List (Int × Int × Int × Int)))).bind fun y40 => ((match_search_follow_ev fuel o3 o4 o5 f19 f20 o8 l21 y40).bind fun y42 => some (y42.1, y42.2.1, y42.2.2)))) else none) else some (l21, f19, f20))
theorem match_search_times_j2_ok {fuel : Nat} {k11 : Int} {w9 : Int × (Arr 10 (Int × Int)) × (List (Int × Int × Int × Int))} {iv10 : Int} {y12 : Int × Int × Int × Int × Int × Int × (Arr 4 (UInt64))} {o3 : List (Int × Int × Int × Int × Int × Int × (Arr 4 (UInt64)))} {o4 : Int} {o5 : List UInt8} {f19 : Bool} {f20 : Arr 10 (Int × Int)} {o8 : Int} {l21 : List (Int × (Arr 10 (Int × Int)) × (List (Int × Int × Int × Int)))} {x31 : Bool} {r : (List (Int × (Arr 10 (Int × Int)) × (List (Int × Int × Int × Int)))) × Bool × (Arr 10 (Int × Int))} (h : match_search_times_j2_ev fuel k11 w9 iv10 y12 o3 o4 o5 f19 f20 o8 l21 x31 = some r) : match_search_times_j2 k11 w9 iv10 y12 o3 o4 o5 f19 f20 o8 l21 x31 r := by
 unfold match_search_times_j2_ev at h
 unfold match_search_times_j2
 refine ⟨fun g196 => ?_, fun g196 => ?_⟩
 ·rw [if_pos g196] at h
  obtain ⟨g197, h⟩ := if_ok h
  refine ⟨g197, ?_⟩
  obtain ⟨q198, g198, h⟩ := bind_ok h
  refine ⟨q198, match_way_ahead_ok g198, ?_⟩
  obtain ⟨q199, g199, h⟩ := bind_ok h
  refine ⟨q199, match_way_ahead_ok g199, ?_⟩
  obtain ⟨q200, g200, h⟩ := bind_ok h
  refine ⟨q200, match_search_follow_ok g200, ?_⟩
  exact (Option.some.inj h).symm
 ·rw [if_neg g196] at h
  exact (Option.some.inj h).symm
def match_search_times_j1_ev (fuel : Nat) (k11 : Int) (w9 : Int × (Arr 10 (Int × Int)) × (List (Int × Int × Int × Int))) (iv10 : Int) (y12 : Int × Int × Int × Int × Int × Int × (Arr 4 (UInt64))) (o3 : List (Int × Int × Int × Int × Int × Int × (Arr 4 (UInt64)))) (o4 : Int) (o5 : List UInt8) (o8 : Int) (f19 : Bool) (f20 : Arr 10 (Int × Int)) (l21 : List (Int × (Arr 10 (Int × Int)) × (List (Int × Int × Int × Int)))) : Option ((List (Int × (Arr 10 (Int × Int)) × (List (Int × Int × Int × Int)))) × Bool × (Arr 10 (Int × Int))) :=
 match_search_times_j2_ev fuel k11 w9 iv10 y12 o3 o4 o5 f19 f20 o8 l21 ((decide (y12.2.2.2.2.1 = (-1))) || (decide (k11 < y12.2.2.2.2.1)))
theorem match_search_times_j1_ok {fuel : Nat} {k11 : Int} {w9 : Int × (Arr 10 (Int × Int)) × (List (Int × Int × Int × Int))} {iv10 : Int} {y12 : Int × Int × Int × Int × Int × Int × (Arr 4 (UInt64))} {o3 : List (Int × Int × Int × Int × Int × Int × (Arr 4 (UInt64)))} {o4 : Int} {o5 : List UInt8} {o8 : Int} {f19 : Bool} {f20 : Arr 10 (Int × Int)} {l21 : List (Int × (Arr 10 (Int × Int)) × (List (Int × Int × Int × Int)))} {r : (List (Int × (Arr 10 (Int × Int)) × (List (Int × Int × Int × Int)))) × Bool × (Arr 10 (Int × Int))} (h : match_search_times_j1_ev fuel k11 w9 iv10 y12 o3 o4 o5 o8 f19 f20 l21 = some r) : match_search_times_j1 k11 w9 iv10 y12 o3 o4 o5 o8 f19 f20 l21 r := by
 unfold match_search_times_j1_ev at h
 unfold match_search_times_j1
 exact match_search_times_j2_ok h
def match_search_times_ev (fuel : Nat) (o3 : List (Int × Int × Int × Int × Int × Int × (Arr 4 (UInt64)))) (o4 : Int) (o5 : List UInt8) (o6 : Bool) (o7 : Arr 10 (Int × Int)) (o8 : Int) (l1 : List (Int × (Arr 10 (Int × Int)) × (List (Int × Int × Int × Int)))) (w9 : Int × (Arr 10 (Int × Int)) × (List (Int × Int × Int × Int))) (iv10 : Int) (k11 : Int) : Option ((List (Int × (Arr 10 (Int × Int)) × (List (Int × Int × Int × Int)))) × Bool × (Arr 10 (Int × Int))) :=
 (if 0 ≤ (iv10 : Int) then ((o3[(iv10 : Int).toNat]?).bind fun y12 => (if y12.2.2.2.1 ≤ k11 then ((match_search_follow_ev fuel o3 o4 o5 o6 o7 o8 l1 w9).bind fun y26 => match_search_times_j1_ev fuel k11 w9 iv10 y12 o3 o4 o5 o8 y26.2.1 y26.2.2 y26.1) else match_search_times_j1_ev fuel k11 w9 iv10 y12 o3 o4 o5 o8 o6 o7 l1)) else none)
theorem match_search_times_ok {fuel : Nat} {o3 : List (Int × Int × Int × Int × Int × Int × (Arr 4 (UInt64)))} {o4 : Int} {o5 : List UInt8} {o6 : Bool} {o7 : Arr 10 (Int × Int)} {o8 : Int} {l1 : List (Int × (Arr 10 (Int × Int)) × (List (Int × Int × Int × Int)))} {w9 : Int × (Arr 10 (Int × Int)) × (List (Int × Int × Int × Int))} {iv10 : Int} {k11 : Int} {r : (List (Int × (Arr 10 (Int × Int)) × (List (Int × Int × Int × Int)))) × Bool × (Arr 10 (Int × Int))} (h : match_search_times_ev fuel o3 o4 o5 o6 o7 o8 l1 w9 iv10 k11 = some r) : match_search_times_R o3 o4 o5 o6 o7 o8 l1 w9 iv10 k11 r := by
 unfold match_search_times_ev at h
 unfold match_search_times_R
 obtain ⟨g201, h⟩ := if_ok h
 refine ⟨g201, ?_⟩
 obtain ⟨q202, g202, h⟩ := bind_ok h
 refine ⟨q202, g202, ?_⟩
 refine ⟨fun g203 => ?_, fun g203 => ?_⟩
 ·rw [if_pos g203] at h
  obtain ⟨q204, g204, h⟩ := bind_ok h
  refine ⟨q204, match_search_follow_ok g204, ?_⟩
  exact match_search_times_j1_ok h
 ·rw [if_neg g203] at h
  exact match_search_times_j1_ok h
set_option maxHeartbeats 4000000 in
theorem match_search_times_con (o3 : List (Int × Int × Int × Int × Int × Int × (Arr 4 (UInt64)))) (o4 : Int) (o5 : List UInt8) (o6 : Bool) (o7 : Arr 10 (Int × Int)) (o8 : Int) (l1 : List (Int × (Arr 10 (Int × Int)) × (List (Int × Int × Int × Int)))) (w9 : Int × (Arr 10 (Int × Int)) × (List (Int × Int × Int × Int))) (iv10 : Int) (k11 : Int) (bx0 : Nat) (ia2 : Option (Nat × Nat)) (r : (List (Int × (Arr 10 (Int × Int)) × (List (Int × Int × Int × Int)))) × Bool × (Arr 10 (Int × Int))) (h : match_search_times_R o3 o4 o5 o6 o7 o8 l1 w9 iv10 k11 r) : Con Try.prog 33 [.v (.pointer (some ⟨bx0, 0, none⟩)), .agg ([.v (.int .i64 w9.1)] ++ ((List.map E_palinode_api_Span w9.2.1.l).flatten ++ [.pt (List.isEmpty w9.2.2) (PC_palinode_match_cell w9.2.2)])), .v (.int .i64 iv10), .v (.int .i64 k11)] [⟨bx0, 74, ([.sl 10 none (List.map E_palinode_api_Node o3), .v (.int .i64 o4), .sl 1 none (List.map eb o5), .rb ia2 l1.length, .v (.bool o6)] ++ ((List.map E_palinode_api_Span o7.l).flatten ++ [.v (.int .i64 o8)]))⟩, rbx ia2 79 22 (List.map E_palinode_match_way l1)] [] (fun rr bx tk => ∃ j1, rr = .tup [] ∧ bx = [rbx j1 79 22 (List.map E_palinode_match_way r.1), ⟨bx0, 74, ([.sl 10 none (List.map E_palinode_api_Node o3), .v (.int .i64 o4), .sl 1 none (List.map eb o5), .rb j1 r.1.length, .v (.bool r.2.1)] ++ ((List.map E_palinode_api_Span r.2.2.l).flatten ++ [.v (.int .i64 o8)]))⟩] ∧ tk = []) := by
 refine xenter Try.func33 rfl rfl fun g hg => ?_
 simp only [Try.ntmps33, slots]
 refine sr_ ?_
 refine xbox rfl rfl rfl rfl fun b5 => ?_
 refine nt_ ?_
 refine sr_ ?_
 refine mv_ ?_
 refine vp_ (pv_nilCheck rfl) ?_
 refine vp_ (qv_fieldAddrB FldC.h rfl) ?_
 refine vp_ (qv_fieldAddrB FldC.h rfl) ?_
 refine v_ (qv_loadB 1 ShpC.h rfl rfl rfl rfl) ?_
 refine mv_ ?_
 obtain ⟨h13a, h⟩ := h
 obtain ⟨y12, h13b, h⟩ := h
 refine vp_ (pv_indexAddrM h13a h13b UndC.h ShpC.h rfl rfl) ?_
 refine v_ (qv_loadEP ([.v (.int .i64 y12.1), .v (.int .i64 y12.2.1), .v (.int .i64 y12.2.2.1), .v (.int .i64 y12.2.2.2.1), .v (.int .i64 y12.2.2.2.2.1), .v (.int .i64 y12.2.2.2.2.2.1)] ++ (List.map ew y12.2.2.2.2.2.2.l).flatten) [] sq_ sl_ (part_all sl_) ShpC.h rfl) ?_
 refine xalloc InfC.h rfl rfl fun b8 => ?_
 refine xreb 0 ([.v (.int .i64 0), .v (.int .i64 0), .v (.int .i64 0), .v (.int .i64 0), .v (.int .i64 0), .v (.int .i64 0)] ++ (List.map ew ((Arr.rep 4 (0 : UInt64))).l).flatten) rfl rfl ?_
 refine xstoreQ 0 [] ([.v (.int .i64 0), .v (.int .i64 0), .v (.int .i64 0), .v (.int .i64 0), .v (.int .i64 0), .v (.int .i64 0)] ++ (List.map ew ((Arr.rep 4 (0 : UInt64))).l).flatten) [] ([.v (.int .i64 y12.1), .v (.int .i64 y12.2.1), .v (.int .i64 y12.2.2.1), .v (.int .i64 y12.2.2.2.1), .v (.int .i64 y12.2.2.2.2.1), .v (.int .i64 y12.2.2.2.2.2.1)] ++ (List.map ew y12.2.2.2.2.2.2.l).flatten) ShpC.h rfl rfl rfl rfl rfl ?_
 refine nt_ ?_
 refine xseqM (fun σ => ∃ (f19 : Bool), ∃ (f20 : Arr 10 (Int × Int)), ∃ (l21 : List (Int × (Arr 10 (Int × Int)) × (List (Int × Int × Int × Int)))), ∃ (i22 : Option (Nat × Nat)), match_search_times_j1 k11 w9 iv10 y12 o3 o4 o5 o8 f19 f20 l21 r ∧ σ = ⟨[(0, .v (.pointer (some ⟨bx0, 0, none⟩))), (2, .v (.int .i64 iv10)), (3, .v (.int .i64 k11)), (5, .v (.pointer (some ⟨b5, 0, none⟩))), (8, .v (.pointer (some ⟨b8, 0, none⟩)))], [rbx i22 79 22 (List.map E_palinode_match_way l21), ⟨bx0, 74, ([.sl 10 none (List.map E_palinode_api_Node o3), .v (.int .i64 o4), .sl 1 none (List.map eb o5), .rb i22 l21.length, .v (.bool f19)] ++ ((List.map E_palinode_api_Span f20.l).flatten ++ [.v (.int .i64 o8)]))⟩, ⟨b8, 45, ([.v (.int .i64 y12.1), .v (.int .i64 y12.2.1), .v (.int .i64 y12.2.2.1), .v (.int .i64 y12.2.2.2.1), .v (.int .i64 y12.2.2.2.2.1), .v (.int .i64 y12.2.2.2.2.2.1)] ++ (List.map ew y12.2.2.2.2.2.2.l).flatten)⟩, ⟨b5, 79, ([.v (.int .i64 w9.1)] ++ ((List.map E_palinode_api_Span w9.2.1.l).flatten ++ [.pt (List.isEmpty w9.2.2) (PC_palinode_match_cell w9.2.2)]))⟩], []⟩) ?_ ?_
 ·refine xseq ?_
  refine xregion ?_
  refine mv_ ?_
  refine vp_ (qv_fieldAddrB FldC.h rfl) ?_
  refine v_ (qv_loadB 0 ShpC.h rfl rfl rfl rfl) ?_
  refine vp_ (pv_bin2 rfl rfl rfl) ?_
  refine nt_ ?_
  by_cases hp24 : y12.2.2.2.1 ≤ k11
  ·replace h := h.1 hp24
   refine xcondT' (decide_eq_true hp24) rfl ?_
   refine xregion ?_
   refine mv_ ?_
   refine v_ (qv_loadP 1 [] ([.v (.int .i64 w9.1)] ++ ((List.map E_palinode_api_Span w9.2.1.l).flatten ++ [.pt (List.isEmpty w9.2.2) (PC_palinode_match_cell w9.2.2)])) [] sq_ sl_ sl_ (part_all sl_) ShpC.h rfl rfl) ?_
   obtain ⟨y26, h25, h⟩ := h
   refine xcallF (Fb := [⟨b8, 45, ([.v (.int .i64 y12.1), .v (.int .i64 y12.2.1), .v (.int .i64 y12.2.2.1), .v (.int .i64 y12.2.2.2.1), .v (.int .i64 y12.2.2.2.2.1), .v (.int .i64 y12.2.2.2.2.2.1)] ++ (List.map ew y12.2.2.2.2.2.2.l).flatten)⟩, ⟨b5, 79, ([.v (.int .i64 w9.1)] ++ ((List.map E_palinode_api_Span w9.2.1.l).flatten ++ [.pt (List.isEmpty w9.2.2) (PC_palinode_match_cell w9.2.2)]))⟩]) (Ft := []) (match_search_follow_con o3 o4 o5 o6 o7 o8 l1 w9 bx0 ia2 _ h25) Try.func26 (by kernel_rfl) rfl (.cons rfl (.refl _) (.cons rfl (.refl _) .nil)) (by refine SubM.trans (SubM.mvB 3 rfl) ?_; refine SubM.trans (SubM.mvB 3 rfl) ?_; (simp only [List.eraseIdx]); exact sm_) rfl rfl ?_
   rintro _ _ _ ⟨i27, rfl, rfl, rfl⟩
   simp only [List.nil_append, List.cons_append]
   refine xnil ?_
   exact xmeet ⟨y26.2.1, y26.2.2, y26.1, i27, h, rfl⟩ ⟨lk_, by exact (SubM.of (.keep rfl rfl (.refl _) (.keep rfl rfl (by first | exact WkL.refl _ | (exact wl_; done)) (.keep rfl rfl (.refl _) (.keep rfl rfl (.refl _) (.nil _))))) (.nil _))⟩
  ·replace h := h.2 hp24
   refine xcondF' (decide_eq_false hp24) rfl ?_
   refine xskipc ?_
   exact xmeet ⟨o6, o7, l1, ia2, h, rfl⟩ ⟨lk_, by refine SubM.trans (SubM.mvB 1 rfl) ?_; refine SubM.trans (SubM.mvB 1 rfl) ?_; refine SubM.trans (SubM.mvB 2 rfl) ?_; refine SubM.trans (SubM.mvB 3 rfl) ?_; (simp only [List.eraseIdx]); exact sm_⟩
 ·clear h
  rintro _ ⟨f19, f20, l21, i22, h, rfl⟩
  unfold match_search_times_j1 at h
  refine xseqM (fun σ => ∃ (x31 : Bool), match_search_times_j2 k11 w9 iv10 y12 o3 o4 o5 f19 f20 o8 l21 x31 r ∧ σ = ⟨[(0, .v (.pointer (some ⟨bx0, 0, none⟩))), (2, .v (.int .i64 iv10)), (3, .v (.int .i64 k11)), (5, .v (.pointer (some ⟨b5, 0, none⟩))), (8, .v (.pointer (some ⟨b8, 0, none⟩))), (32, .v (.bool x31))], [rbx i22 79 22 (List.map E_palinode_match_way l21), ⟨bx0, 74, ([.sl 10 none (List.map E_palinode_api_Node o3), .v (.int .i64 o4), .sl 1 none (List.map eb o5), .rb i22 l21.length, .v (.bool f19)] ++ ((List.map E_palinode_api_Span f20.l).flatten ++ [.v (.int .i64 o8)]))⟩, ⟨b8, 45, ([.v (.int .i64 y12.1), .v (.int .i64 y12.2.1), .v (.int .i64 y12.2.2.1), .v (.int .i64 y12.2.2.2.1), .v (.int .i64 y12.2.2.2.2.1), .v (.int .i64 y12.2.2.2.2.2.1)] ++ (List.map ew y12.2.2.2.2.2.2.l).flatten)⟩, ⟨b5, 79, ([.v (.int .i64 w9.1)] ++ ((List.map E_palinode_api_Span w9.2.1.l).flatten ++ [.pt (List.isEmpty w9.2.2) (PC_palinode_match_cell w9.2.2)]))⟩], []⟩) ?_ ?_
  ·refine xregion ?_
   refine vp_ (qv_fieldAddrB FldC.h rfl) ?_
   refine v_ (qv_loadB 2 ShpC.h rfl rfl rfl rfl) ?_
   refine vp_ (pv_bin2 rfl rfl rfl) ?_
   refine mv_ ?_
   by_cases hp33 : y12.2.2.2.2.1 = (-1)
   ·rw [or_tt (show (decide (y12.2.2.2.2.1 = (-1))) = true from (decide_eq_true hp33))] at h
    refine xsetB 27 (decide_eq_true hp33) rfl ?_
    refine sk_ ?_
    refine sk_ ?_
    refine sk_ ?_
    refine sk_ ?_
    refine pk_ ?_
    refine xnil ?_
    exact xmeet ⟨true, h, rfl⟩ ⟨lk_, by exact (SubM.of (.keep rfl rfl (.refl _) (.keep rfl rfl (by first | exact WkL.refl _ | (exact wl_; done)) (.keep rfl rfl (.refl _) (.keep rfl rfl (.refl _) (.nil _))))) (.nil _))⟩
   ·rw [or_ff (show (decide (y12.2.2.2.2.1 = (-1))) = false from (decide_eq_false hp33))] at h
    refine xsetB 27 (decide_eq_false hp33) rfl ?_
    refine mv_ ?_
    refine vp_ (qv_fieldAddrB FldC.h rfl) ?_
    refine v_ (qv_loadB 2 ShpC.h rfl rfl rfl rfl) ?_
    refine vp_ (pv_bin2 rfl rfl rfl) ?_
    refine pk_ ?_
    refine xnil ?_
    exact xmeet ⟨(decide (k11 < y12.2.2.2.2.1)), h, rfl⟩ ⟨lk_, by exact (SubM.of (.keep rfl rfl (.refl _) (.keep rfl rfl (by first | exact WkL.refl _ | (exact wl_; done)) (.keep rfl rfl (.refl _) (.keep rfl rfl (.refl _) (.nil _))))) (.nil _))⟩
  ·clear h
   rintro _ ⟨x31, h, rfl⟩
   by_cases hp35 : x31 = true
   ·replace h := h.1 hp35
    refine xcondT' hp35 rfl ?_
    refine xregionD (m := 14) (by kernel_rfl) rfl ?_
    obtain ⟨h36, h⟩ := h
    obtain ⟨y38, h37, h⟩ := h
    obtain ⟨y40, h39, h⟩ := h
    obtain ⟨y42, h41, h⟩ := h
    refine xpcut 2 #[true, true, true, true, true, true, true, true, true, true, true, true, false, false] (fun σ => σ = ⟨[(33, .v (.pointer (some ⟨bx0, 0, none⟩))), (41, .agg ([.v (.int .i64 y38.1)] ++ ((List.map E_palinode_api_Span y38.2.1.l).flatten ++ [.pt (List.isEmpty y38.2.2) (PC_palinode_match_cell y38.2.2)]))), (44, .agg [.v (.int .i64 0), .v (.int .i64 y12.2.1), .v (.int .i64 0), .v (.int .i64 0), .v (.pointer none)])], [rbx i22 79 22 (List.map E_palinode_match_way l21), ⟨bx0, 74, ([.sl 10 none (List.map E_palinode_api_Node o3), .v (.int .i64 o4), .sl 1 none (List.map eb o5), .rb i22 l21.length, .v (.bool f19)] ++ ((List.map E_palinode_api_Span f20.l).flatten ++ [.v (.int .i64 o8)]))⟩], []⟩) ?_ (fun key44 => ?_)
    ·rintro _ rfl
     refine xpstep (i := 12) (by kernel_rfl) rfl ?_
     refine wcall0 (match_way_ahead_con y38 (0, y12.2.1, 0, 0, ([] : List (Int × Int × Int × Int))) _ h39) Try.func36 (by kernel_rfl) rfl (.cons rfl (.refl _) (.cons rfl (.agg (.cons (.refl _) (.cons (.refl _) (.cons (.refl _) (.cons (.refl _) (.cons (Wk.nil_pt _) .nil)))))) .nil)) rfl rfl ?_
     refine xpstep (i := 13) (by kernel_rfl) rfl ?_
     refine wcallF (Fb := []) (Ft := []) (match_search_follow_con o3 o4 o5 f19 f20 o8 l21 y40 bx0 i22 _ h41) Try.func26 (by kernel_rfl) rfl (.cons rfl (.refl _) (.cons rfl (.refl _) .nil)) (by refine SubM.trans (SubM.mvB 0 rfl) ?_; refine SubM.trans (SubM.mvB 1 rfl) ?_; (simp only [List.eraseIdx]); exact sm_) rfl rfl ?_
     rintro _ _ _ ⟨i43, rfl, rfl, rfl⟩
     simp only [List.nil_append, List.cons_append]
     refine xpdone (by kernel_rfl) ?_
     replace h := h.symm
     subst h
     exact xret0 (bx' := [rbx i43 79 22 (List.map E_palinode_match_way y42.1), ⟨bx0, 74, ([.sl 10 none (List.map E_palinode_api_Node o3), .v (.int .i64 o4), .sl 1 none (List.map eb o5), .rb i43 y42.1.length, .v (.bool y42.2.1)] ++ ((List.map E_palinode_api_Span y42.2.2.l).flatten ++ [.v (.int .i64 o8)]))⟩]) (tk' := []) hg rfl (SubM.of (.keep rfl rfl (.refl _) (.keep rfl rfl (by first | exact WkL.refl _ | (exact wl_; done)) (.nil _))) (.nil _)) ⟨i43, rfl, rfl, rfl⟩ (by simp)
    refine xpcut 3 #[true, true, true, true, true, true, true, true, false, true, true, true, false, false] (fun σ => σ = ⟨[(33, .v (.pointer (some ⟨bx0, 0, none⟩))), (34, .agg ([.v (.int .i64 w9.1)] ++ ((List.map E_palinode_api_Span w9.2.1.l).flatten ++ [.pt (List.isEmpty w9.2.2) (PC_palinode_match_cell w9.2.2)]))), (40, .agg [.v (.int .i64 2), .v (.int .i64 iv10), .v (.int .i64 ((k11 + 1))), .v (.int .i64 w9.1), .v (.pointer none)]), (44, .agg [.v (.int .i64 0), .v (.int .i64 y12.2.1), .v (.int .i64 0), .v (.int .i64 0), .v (.pointer none)])], [rbx i22 79 22 (List.map E_palinode_match_way l21), ⟨bx0, 74, ([.sl 10 none (List.map E_palinode_api_Node o3), .v (.int .i64 o4), .sl 1 none (List.map eb o5), .rb i22 l21.length, .v (.bool f19)] ++ ((List.map E_palinode_api_Span f20.l).flatten ++ [.v (.int .i64 o8)]))⟩], []⟩) ?_ (fun key45 => ?_)
    ·rintro _ rfl
     refine xpstep (i := 8) (by kernel_rfl) rfl ?_
     refine wcall0 (match_way_ahead_con w9 (2, iv10, (k11 + 1), w9.1, ([] : List (Int × Int × Int × Int))) _ h37) Try.func36 (by kernel_rfl) rfl (.cons rfl (.refl _) (.cons rfl (.agg (.cons (.refl _) (.cons (.refl _) (.cons (.refl _) (.cons (.refl _) (.cons (Wk.nil_pt _) .nil)))))) .nil)) rfl rfl ?_
     exact xpuse key44 rfl ⟨lk_, by exact (SubM.of (.keep rfl rfl (.refl _) (.keep rfl rfl (by first | exact WkL.refl _ | (exact wl_; done)) (.nil _))) (.nil _))⟩ rfl (by kernel_rfl)
    refine xpcut 5 #[true, true, true, true, true, true, true, true, false, true, false, false, false, false] (fun σ => σ = ⟨[(33, .v (.pointer (some ⟨bx0, 0, none⟩))), (34, .agg ([.v (.int .i64 w9.1)] ++ ((List.map E_palinode_api_Span w9.2.1.l).flatten ++ [.pt (List.isEmpty w9.2.2) (PC_palinode_match_cell w9.2.2)]))), (40, .agg [.v (.int .i64 2), .v (.int .i64 iv10), .v (.int .i64 ((k11 + 1))), .v (.int .i64 w9.1), .v (.pointer none)]), (42, .v (.pointer (some ⟨b8, 1, none⟩)))], [rbx i22 79 22 (List.map E_palinode_match_way l21), ⟨bx0, 74, ([.sl 10 none (List.map E_palinode_api_Node o3), .v (.int .i64 o4), .sl 1 none (List.map eb o5), .rb i22 l21.length, .v (.bool f19)] ++ ((List.map E_palinode_api_Span f20.l).flatten ++ [.v (.int .i64 o8)]))⟩, ⟨b8, 45, ([.v (.int .i64 y12.1), .v (.int .i64 y12.2.1), .v (.int .i64 y12.2.2.1), .v (.int .i64 y12.2.2.2.1), .v (.int .i64 y12.2.2.2.2.1), .v (.int .i64 y12.2.2.2.2.2.1)] ++ (List.map ew y12.2.2.2.2.2.2.l).flatten)⟩], []⟩) ?_ (fun key46 => ?_)
    ·rintro _ rfl
     refine xpstepN (is := [8, 10]) (by kernel_rfl) (by simp) ?_
     intro i hi; simp only [List.mem_cons, List.not_mem_nil, or_false] at hi; rcases hi with rfl | rfl
     ·refine ⟨_, rfl, ?_⟩
      refine wcall0 (match_way_ahead_con w9 (2, iv10, (k11 + 1), w9.1, ([] : List (Int × Int × Int × Int))) _ h37) Try.func36 (by kernel_rfl) rfl (.cons rfl (.refl _) (.cons rfl (.agg (.cons (.refl _) (.cons (.refl _) (.cons (.refl _) (.cons (.refl _) (.cons (Wk.nil_pt _) .nil)))))) .nil)) rfl rfl ?_
      refine xpvalE 10 [] rfl (qv_loadB 2 ShpC.h rfl rfl rfl rfl) rfl rfl (by kernel_rfl) (by kernel_rfl) (by kernel_rfl) (fun _ _ _ _ h => h) ?_
      refine pl_ 11 rfl (pv_buildC StrC.h rfl rfl) ?_
      exact xpuse key44 rfl ⟨lk_, by exact (SubM.of (.keep rfl rfl (.refl _) (.keep rfl rfl (by first | exact WkL.refl _ | (exact wl_; done)) (.nil _))) (.nil _))⟩ rfl (by kernel_rfl)
     ·refine ⟨_, rfl, ?_⟩
      refine wv_ (qv_loadB 2 ShpC.h rfl rfl rfl rfl) ?_
      refine pl_ 11 rfl (pv_buildC StrC.h rfl rfl) ?_
      exact xpuse key45 rfl ⟨lk_, by exact (SubM.of (.keep rfl rfl (.refl _) (.keep rfl rfl (by first | exact WkL.refl _ | (exact wl_; done)) (.nil _))) (.nil _))⟩ rfl (by kernel_rfl)
    refine pl_ 0 rfl (pv_move rfl) ?_
    refine pl_ 2 rfl (pv_move rfl) ?_
    refine pl_ 3 rfl (pv_move rfl) ?_
    refine pl_ 4 rfl (pv_addI h36 rfl rfl) ?_
    refine pl_ 5 rfl (qv_fieldAddrB FldC.h rfl) ?_
    refine pl_ 9 rfl (qv_fieldAddrB FldC.h rfl) ?_
    refine xpstepN (is := [1, 6, 10]) (by kernel_rfl) (by simp) ?_
    intro i hi; simp only [List.mem_cons, List.not_mem_nil, or_false] at hi; rcases hi with rfl | rfl | rfl
    ·refine ⟨_, rfl, ?_⟩
     refine wv_ (qv_loadP 3 [] ([.v (.int .i64 w9.1)] ++ ((List.map E_palinode_api_Span w9.2.1.l).flatten ++ [.pt (List.isEmpty w9.2.2) (PC_palinode_match_cell w9.2.2)])) [] sq_ sl_ sl_ (part_all sl_) ShpC.h rfl rfl) ?_
     refine xpstepN (is := [6, 10]) (by kernel_rfl) (by simp) ?_
     intro i hi; simp only [List.mem_cons, List.not_mem_nil, or_false] at hi; rcases hi with rfl | rfl
     ·refine ⟨_, rfl, ?_⟩
      refine wv_ (qv_loadB 3 ShpC.h rfl rfl rfl rfl) ?_
      refine pl_ 7 rfl (pv_buildC StrC.h rfl rfl) ?_
      exact xpuse key46 rfl ⟨lk_, by exact (SubM.of (.keep rfl rfl (.refl _) (.keep rfl rfl (by first | exact WkL.refl _ | (exact wl_; done)) (.keep rfl rfl (.refl _) (.nil _)))) (.nil _))⟩ rfl (by kernel_rfl)
     ·refine ⟨_, rfl, ?_⟩
      refine wv_ (qv_loadB 2 ShpC.h rfl rfl rfl rfl) ?_
      refine pl_ 11 rfl (pv_buildC StrC.h rfl rfl) ?_
      refine xpvalE 6 [] rfl (qv_loadB 3 ShpC.h rfl rfl rfl rfl) rfl rfl (by kernel_rfl) (by kernel_rfl) (by kernel_rfl) (fun _ _ _ _ h => h) ?_
      refine pl_ 7 rfl (pv_buildC StrC.h rfl rfl) ?_
      exact xpuse key45 rfl ⟨lk_, by exact (SubM.of (.keep rfl rfl (.refl _) (.keep rfl rfl (by first | exact WkL.refl _ | (exact wl_; done)) (.nil _))) (.nil _))⟩ rfl (by kernel_rfl)
    ·refine ⟨_, rfl, ?_⟩
     refine wv_ (qv_loadB 3 ShpC.h rfl rfl rfl rfl) ?_
     refine pl_ 7 rfl (pv_buildC StrC.h rfl rfl) ?_
     refine xpstepN (is := [1, 10]) (by kernel_rfl) (by simp) ?_
     intro i hi; simp only [List.mem_cons, List.not_mem_nil, or_false] at hi; rcases hi with rfl | rfl
     ·refine ⟨_, rfl, ?_⟩
      refine wv_ (qv_loadP 3 [] ([.v (.int .i64 w9.1)] ++ ((List.map E_palinode_api_Span w9.2.1.l).flatten ++ [.pt (List.isEmpty w9.2.2) (PC_palinode_match_cell w9.2.2)])) [] sq_ sl_ sl_ (part_all sl_) ShpC.h rfl rfl) ?_
      exact xpuse key46 rfl ⟨lk_, by exact (SubM.of (.keep rfl rfl (.refl _) (.keep rfl rfl (by first | exact WkL.refl _ | (exact wl_; done)) (.keep rfl rfl (.refl _) (.nil _)))) (.nil _))⟩ rfl (by kernel_rfl)
     ·refine ⟨_, rfl, ?_⟩
      refine wv_ (qv_loadB 2 ShpC.h rfl rfl rfl rfl) ?_
      refine pl_ 11 rfl (pv_buildC StrC.h rfl rfl) ?_
      refine xpvalE 1 [] rfl (qv_loadP 3 [] ([.v (.int .i64 w9.1)] ++ ((List.map E_palinode_api_Span w9.2.1.l).flatten ++ [.pt (List.isEmpty w9.2.2) (PC_palinode_match_cell w9.2.2)])) [] sq_ sl_ sl_ (part_all sl_) ShpC.h rfl rfl) rfl rfl (by kernel_rfl) (by kernel_rfl) (by kernel_rfl) (fun _ _ _ _ h => h) ?_
      exact xpuse key45 rfl ⟨lk_, by exact (SubM.of (.keep rfl rfl (.refl _) (.keep rfl rfl (by first | exact WkL.refl _ | (exact wl_; done)) (.nil _))) (.nil _))⟩ rfl (by kernel_rfl)
    ·refine ⟨_, rfl, ?_⟩
     refine wv_ (qv_loadB 2 ShpC.h rfl rfl rfl rfl) ?_
     refine pl_ 11 rfl (pv_buildC StrC.h rfl rfl) ?_
     refine xpvalE 6 [1] rfl (qv_loadB 3 ShpC.h rfl rfl rfl rfl) rfl rfl (by kernel_rfl) (by kernel_rfl) (by kernel_rfl) (fun _ _ _ _ h => h) ?_
     refine pl_ 7 rfl (pv_buildC StrC.h rfl rfl) ?_
     refine xpvalE 1 [] rfl (qv_loadP 3 [] ([.v (.int .i64 w9.1)] ++ ((List.map E_palinode_api_Span w9.2.1.l).flatten ++ [.pt (List.isEmpty w9.2.2) (PC_palinode_match_cell w9.2.2)])) [] sq_ sl_ sl_ (part_all sl_) ShpC.h rfl rfl) rfl rfl (by kernel_rfl) (by kernel_rfl) (by kernel_rfl) (fun _ _ _ _ h => h) ?_
     exact xpuse key45 rfl ⟨lk_, by exact (SubM.of (.keep rfl rfl (.refl _) (.keep rfl rfl (by first | exact WkL.refl _ | (exact wl_; done)) (.nil _))) (.nil _))⟩ rfl (by kernel_rfl)
   ·replace h := h.2 hp35
    refine xcondF' (b_f hp35) rfl ?_
    refine xskipc ?_
    replace h := h.symm
    subst h
    exact xret0 (bx' := [rbx i22 79 22 (List.map E_palinode_match_way l21), ⟨bx0, 74, ([.sl 10 none (List.map E_palinode_api_Node o3), .v (.int .i64 o4), .sl 1 none (List.map eb o5), .rb i22 l21.length, .v (.bool f19)] ++ ((List.map E_palinode_api_Span f20.l).flatten ++ [.v (.int .i64 o8)]))⟩]) (tk' := []) hg rfl (SubM.of (.keep rfl rfl (.refl _) (.keep rfl rfl (by first | exact WkL.refl _ | (exact wl_; done)) (.nil _))) (.nil _)) ⟨i22, rfl, rfl, rfl⟩ (by simp)
/-- class.Has -/
def class_Has_R (sv1 : Arr 4 (UInt64)) (c2 : UInt8) (r : Bool) : Prop :=
 (64 : Int) ≠ 0 ∧ ∃ c4 : UInt8, (c4.toNat : Int) = IntKind.u8.wrap (((c2.toNat : Int)).tdiv 64) ∧ (0 ≤ ((c4.toNat : Int) : Int) ∧ ((c4.toNat : Int) : Int) < 4) ∧ ∃ y6 : UInt64, sv1.l[((c4.toNat : Int) : Int).toNat]? = some y6 ∧ (64 : Int) ≠ 0 ∧ ∃ c8 : UInt8, (c8.toNat : Int) = (((c2.toNat : Int)).tmod 64) ∧ (0 : Int) ≤ (c8.toNat : Int) ∧ ∃ c10 : UInt64, (c10.toNat : Int) = ((y6.toNat : Int) : Int).fdiv (2 ^ (min ((c8.toNat : Int) : Int).toNat IntKind.u64.bits)) ∧ ∃ c12 : UInt64, (c12.toNat : Int) = IntKind.u64.wrap (BitVec.ofInt IntKind.u64.bits (c10.toNat : Int) &&& BitVec.ofInt IntKind.u64.bits (1)).toNat ∧ r = (decide ((c12.toNat : Int) = 1))
def class_Has_ev (fuel : Nat) (sv1 : Arr 4 (UInt64)) (c2 : UInt8) : Option (Bool) :=
 (if (64 : Int) ≠ 0 then (exB (IntKind.u8.wrap (((c2.toNat : Int)).tdiv 64)) fun c4 => (if (0 ≤ ((c4.toNat : Int) : Int) ∧ ((c4.toNat : Int) : Int) < 4) then ((sv1.l[((c4.toNat : Int) : Int).toNat]?).bind fun y6 => (if (64 : Int) ≠ 0 then (exB ((((c2.toNat : Int)).tmod 64)) fun c8 => (if (0 : Int) ≤ (c8.toNat : Int) then (exL (((y6.toNat : Int) : Int).fdiv (2 ^ (min ((c8.toNat : Int) : Int).toNat IntKind.u64.bits))) fun c10 => (exL (IntKind.u64.wrap (BitVec.ofInt IntKind.u64.bits (c10.toNat : Int) &&& BitVec.ofInt IntKind.u64.bits (1)).toNat) fun c12 => some (decide ((c12.toNat : Int) = 1)))) else none)) else none)) else none)) else none)
theorem class_Has_ok {fuel : Nat} {sv1 : Arr 4 (UInt64)} {c2 : UInt8} {r : Bool} (h : class_Has_ev fuel sv1 c2 = some r) : class_Has_R sv1 c2 r := by
 unfold class_Has_ev at h
 unfold class_Has_R
 obtain ⟨g205, h⟩ := if_ok h
 refine ⟨g205, ?_⟩
 obtain ⟨q206, g206, h⟩ := exB_ok h
 refine ⟨q206, g206, ?_⟩
 obtain ⟨g207, h⟩ := if_ok h
 refine ⟨g207, ?_⟩
 obtain ⟨q208, g208, h⟩ := bind_ok h
 refine ⟨q208, g208, ?_⟩
 obtain ⟨g209, h⟩ := if_ok h
 refine ⟨g209, ?_⟩
 obtain ⟨q210, g210, h⟩ := exB_ok h
 refine ⟨q210, g210, ?_⟩
 obtain ⟨g211, h⟩ := if_ok h
 refine ⟨g211, ?_⟩
 obtain ⟨q212, g212, h⟩ := exL_ok h
 refine ⟨q212, g212, ?_⟩
 obtain ⟨q213, g213, h⟩ := exL_ok h
 refine ⟨q213, g213, ?_⟩
 exact (Option.some.inj h).symm
set_option maxHeartbeats 4000000 in
theorem class_Has_con (sv1 : Arr 4 (UInt64)) (c2 : UInt8) (r : Bool) (h : class_Has_R sv1 c2 r) : Con Try.prog 37 [.agg ((List.map ew sv1.l).flatten), .v (.int .u8 ((c2.toNat : Int)))] [] [] (Ret (.v (.bool r))) := by
 refine xenter Try.func37 rfl rfl fun g hg => ?_
 simp only [Try.ntmps37, slots]
 refine sr_ ?_
 refine xbox rfl rfl rfl rfl fun b2 => ?_
 refine as_ ?_
 refine nt_ ?_
 refine sr_ ?_
 refine mv_ ?_
 obtain ⟨h3, h⟩ := h
 obtain ⟨c4, h3r, h⟩ := h
 refine vp_ (pv_quoW h3 h3r rfl rfl rfl) ?_
 obtain ⟨h5, h⟩ := h
 obtain ⟨y6, h5b, h⟩ := h
 refine vp_ (pv_indexAddrBA h5 UndC.h ShpC.h rfl rfl) ?_
 refine v_ (qv_loadA (f := ew) (a := sv1) (k := 1) (off := 0) (i := ((c4.toNat : Int) : Int).toNat) 0 [] [] h5b sq_ so_ (by decide) rfl ShpC.h rfl rfl) ?_
 refine mv_ ?_
 obtain ⟨h7, h⟩ := h
 obtain ⟨c8, h7r, h⟩ := h
 refine vp_ (pv_remW h7 h7r rfl rfl rfl) ?_
 obtain ⟨h9, h⟩ := h
 obtain ⟨c10, h9r, h⟩ := h
 refine vp_ (pv_shrW h9 h9r rfl rfl) ?_
 obtain ⟨c12, h11, h⟩ := h
 refine vp_ (pv_wr h11 rfl rfl rfl) ?_
 refine vp_ (pv_bin2 rfl rfl rfl) ?_
 refine as_ ?_
 refine nt_ ?_
 refine xretc ?_
 replace h := h.symm
 subst h
 exact xret1 hg rfl rfl (.refl _) (SubM.of (.nil _) (.nil _)) ⟨rfl, rfl, rfl⟩
/-- bytes.Equal -/
def bytes_Equal_R (a1 : List UInt8) (bv2 : List UInt8) (r : Bool) : Prop :=
 r = (((⟨a1.toArray⟩ : ByteArray)).toList == ((⟨bv2.toArray⟩ : ByteArray)).toList)
def bytes_Equal_ev (fuel : Nat) (a1 : List UInt8) (bv2 : List UInt8) : Option (Bool) :=
 some (((⟨a1.toArray⟩ : ByteArray)).toList == ((⟨bv2.toArray⟩ : ByteArray)).toList)
theorem bytes_Equal_ok {fuel : Nat} {a1 : List UInt8} {bv2 : List UInt8} {r : Bool} (h : bytes_Equal_ev fuel a1 bv2 = some r) : bytes_Equal_R a1 bv2 r := by
 unfold bytes_Equal_ev at h
 unfold bytes_Equal_R
 exact (Option.some.inj h).symm
set_option maxHeartbeats 4000000 in
theorem bytes_Equal_con (a1 : List UInt8) (bv2 : List UInt8) (r : Bool) (h : bytes_Equal_R a1 bv2 r) : Con Try.prog 39 [.sl 1 none (List.map eb a1), .sl 1 none (List.map eb bv2)] [] [] (Ret (.v (.bool r))) := by
 refine xenter Try.func39 rfl rfl fun g hg => ?_
 simp only [Try.ntmps39, slots]
 refine sr_ ?_
 refine as_ ?_
 refine nt_ ?_
 refine sr_ ?_
 refine mv_ ?_
 refine v_ (pv_str (bs := a1) UndC.h UndC.h UndC.h rfl rfl rfl (fun _ h => by injection h with h; exact h.symm)) ?_
 refine mv_ ?_
 refine v_ (pv_str (bs := bv2) UndC.h UndC.h UndC.h rfl rfl rfl (fun _ h => by injection h with h; exact h.symm)) ?_
 refine vp_ (pv_bin2 rfl rfl rfl) ?_
 refine as_ ?_
 refine nt_ ?_
 refine xretc ?_
 replace h := h.symm
 subst h
 exact xret1 hg rfl rfl (.refl _) (SubM.of (.nil _) (.nil _)) ⟨rfl, rfl, rfl⟩
end Go.Proofs.Ytnjnbegjhklcgaa
