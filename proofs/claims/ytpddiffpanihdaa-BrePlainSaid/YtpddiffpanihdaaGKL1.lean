
/- What functions' texts ask for, and the walks that show it (printed by a program). -/
import Derived.Test.YtpddiffpanihdaaGK
namespace Go.Proofs.Ytpddiffpanihdaa
/-- palinodelaw08.BrePlain -/
def palinodelaw08_BrePlain_j3 (x703 : Int) (x1 : List UInt8) (x701 : List UInt8) (ag2 : ((List UInt8) × Int) → Prop) (x1012 : Bool) (r : Bool) : Prop :=
 ((x1012 = true → ∃ y1032 : Bool, palinodelaw08_awake_R y1032 ∧ r = y1032) ∧ (¬ (x1012 = true) → 0 ≤ (x703 : Int) ∧ ∃ y1033 : UInt8, x1[(x703 : Int).toNat]? = some y1033 ∧ Room (x701.length + ([(92 : UInt8), y1033]).length) 1 ∧ InR (x703 + 1) ∧ ag2 ((x701 ++ [(92 : UInt8), y1033]), (x703 + 1))))
def palinodelaw08_BrePlain_j5 (x1513 : Int) (ag4 : (Int × Int) → Prop) (x1681 : Int) (r : Bool) : Prop :=
 InR (x1513 + 1) ∧ ag4 (x1681, (x1513 + 1))
def palinodelaw08_BrePlain_l4 (y1039 : ((List (Int × Int × Int × Int × Int × Int × (Arr 4 (UInt64)))) × Int) × Int × Int) (x1 : List UInt8) (ag4 : (Int × Int) → Prop) (x1512 : Int) (x1513 : Int) (r : Bool) : Prop :=
 ((x1513 < (y1039.1.1.length : Int) → 0 ≤ (x1513 : Int) ∧ ∃ y1682 : Int × Int × Int × Int × Int × Int × (Arr 4 (UInt64)), y1039.1.1[(x1513 : Int).toNat]? = some y1682 ∧ ((y1682.1 = 1 → (((x1.length : Int) ≤ x1512 → r = false) ∧ (¬ ((x1.length : Int) ≤ x1512) → 0 ≤ (x1513 : Int) ∧ ∃ y1723 : Int × Int × Int × Int × Int × Int × (Arr 4 (UInt64)), y1039.1.1[(x1513 : Int).toNat]? = some y1723 ∧ 0 ≤ (x1512 : Int) ∧ ∃ y1725 : UInt8, x1[(x1512 : Int).toNat]? = some y1725 ∧ ∃ y1728 : (Arr 4 (UInt64)), palinoderef08_One_R y1725 y1728 ∧ ((¬ ((y1723.2.2.2.2.2.2 : Arr 4 (UInt64)) = y1728) → r = false) ∧ (¬ (¬ ((y1723.2.2.2.2.2.2 : Arr 4 (UInt64)) = y1728)) → InR (x1512 + 1) ∧ palinodelaw08_BrePlain_j5 x1513 ag4 (x1512 + 1) r))))) ∧ (¬ (y1682.1 = 1) → palinodelaw08_BrePlain_j5 x1513 ag4 x1512 r))) ∧ (¬ (x1513 < (y1039.1.1.length : Int)) → ((x1512 = (x1.length : Int) → ∃ y1743 : Bool, palinodelaw08_awake_R y1743 ∧ r = y1743) ∧ (¬ (x1512 = (x1.length : Int)) → r = false))))
def palinodelaw08_BrePlain_l2 (x1 : List UInt8) (ag2 : ((List UInt8) × Int) → Prop) (x701 : List UInt8) (x703 : Int) (r : Bool) : Prop :=
 ((x703 < (x1.length : Int) → 0 ≤ (x703 : Int) ∧ ∃ y1013 : UInt8, x1[(x703 : Int).toNat]? = some y1013 ∧ ∃ y1017 : Bool, palinoderef08_Alnum_R (y1013.toNat : Int) y1017 ∧ ((y1017 = true → palinodelaw08_BrePlain_j3 x703 x1 x701 ag2 true r) ∧ (¬ (y1017 = true) → 0 ≤ (x703 : Int) ∧ ∃ y1019 : UInt8, x1[(x703 : Int).toNat]? = some y1019 ∧ (((y1019.toNat : Int) = 40 → palinodelaw08_BrePlain_j3 x703 x1 x701 ag2 true r) ∧ (¬ ((y1019.toNat : Int) = 40) → 0 ≤ (x703 : Int) ∧ ∃ y1023 : UInt8, x1[(x703 : Int).toNat]? = some y1023 ∧ (((y1023.toNat : Int) = 41 → palinodelaw08_BrePlain_j3 x703 x1 x701 ag2 true r) ∧ (¬ ((y1023.toNat : Int) = 41) → 0 ≤ (x703 : Int) ∧ ∃ y1027 : UInt8, x1[(x703 : Int).toNat]? = some y1027 ∧ palinodelaw08_BrePlain_j3 x703 x1 x701 ag2 (decide ((y1027.toNat : Int) = 123)) r))))))) ∧ (¬ (x703 < (x1.length : Int)) → ∃ y1039 : ((List (Int × Int × Int × Int × Int × Int × (Arr 4 (UInt64)))) × Int) × Int × Int, bre_Parse_R x701 y1039 ∧ ((¬ (y1039.2.2 = 0) → r = false) ∧ (¬ (¬ (y1039.2.2 = 0)) → InR (2 * (x1.length : Int)) ∧ InR ((2 * (x1.length : Int)) - 1) ∧ ((¬ ((y1039.1.1.length : Int) = ((2 * (x1.length : Int)) - 1)) → r = false) ∧ (¬ (¬ ((y1039.1.1.length : Int) = ((2 * (x1.length : Int)) - 1))) → LoopR (fun ag4 s => palinodelaw08_BrePlain_l4 y1039 x1 ag4 s.1 s.2 r) (0, 0)))))))
def palinodelaw08_BrePlain_j1 (x1 : List UInt8) (x21 : Bool) (r : Bool) : Prop :=
 ((x21 = true → ∃ y29 : Bool, palinodelaw08_awake_R y29 ∧ r = y29) ∧ (¬ (x21 = true) → LoopR (fun ag2 s => palinodelaw08_BrePlain_l2 x1 ag2 s.1 s.2 r) (([] : List UInt8), 0)))
def palinodelaw08_BrePlain_R (x1 : List UInt8) (r : Bool) : Prop :=
 palinodelaw08_BrePlain_j1 x1 ((decide (60 < (x1.length : Int))) || (decide ((x1.length : Int) < 1))) r
set_option maxHeartbeats 4000000 in
theorem palinodelaw08_BrePlain_con (x1 : List UInt8) (r : Bool) (h : palinodelaw08_BrePlain_R x1 r) : Con Try.prog 5 [.sl 1 none (List.map eb x1)] [] [] (Ret (.v (.bool r))) := by
 refine xenter Try.func5 rfl rfl fun g hg => ?_
 simp only [Try.ntmps5, slots]
 unfold palinodelaw08_BrePlain_R at h
 refine sr_ ?_
 refine as_ ?_
 refine nt_ ?_
 refine xseq ?_
 refine xseqM (fun σ => ∃ (x21 : Bool), palinodelaw08_BrePlain_j1 x1 x21 r ∧ σ = ⟨[(0, .sl 1 none (List.map eb x1)), (17, .v (.bool x21))], [], []⟩) ?_ ?_
 ·refine xregion ?_
  refine mv_ ?_
  refine vp_ (pv_lenM UndC.h rfl) ?_
  refine vp_ (pv_bin2 rfl rfl rfl) ?_
  refine mv_ ?_
  by_cases hp24 : 60 < (x1.length : Int)
  ·rw [or_tt (show (decide (60 < (x1.length : Int))) = true from (decide_eq_true hp24))] at h
   refine xsetB 13 (decide_eq_true hp24) rfl ?_
   refine sk_ ?_
   refine sk_ ?_
   refine sk_ ?_
   refine pk_ ?_
   refine xnil ?_
   exact xmeet ⟨true, h, rfl⟩ ⟨lk_, (SubM.of (.nil _) (.nil _))⟩
  ·rw [or_ff (show (decide (60 < (x1.length : Int))) = false from (decide_eq_false hp24))] at h
   refine xsetB 13 (decide_eq_false hp24) rfl ?_
   refine mv_ ?_
   refine vp_ (pv_lenM UndC.h rfl) ?_
   refine vp_ (pv_bin2 rfl rfl rfl) ?_
   refine pk_ ?_
   refine xnil ?_
   exact xmeet ⟨(decide ((x1.length : Int) < 1)), h, rfl⟩ ⟨lk_, (SubM.of (.nil _) (.nil _))⟩
 ·clear h
  rintro _ ⟨x21, h, rfl⟩
  by_cases hp27 : x21 = true
  ·replace h := h.1 hp27
   refine xcondT' hp27 rfl ?_
   refine sr_ ?_
   obtain ⟨y29, h28, h⟩ := h
   refine xcall0 (palinodelaw08_awake_con _ h28) Try.func7 (by kernel_rfl) rfl .nil rfl rfl ?_
   refine as_ ?_
   refine nt_ ?_
   refine xretc ?_
   refine xthen_ret ?_
   replace h := h.symm
   subst h
   exact xret1 hg rfl rfl (.refl _) (SubM.of (.nil _) (.nil _)) ⟨rfl, rfl, rfl⟩
  ·replace h := h.2 hp27
   refine xcondF' (b_f hp27) rfl ?_
   refine xskipc ?_
   refine xthen ?_
   refine sr_ ?_
   refine as_ ?_
   refine nt_ ?_
   refine xseq ?_
   refine sr_ ?_
   refine as_ ?_
   refine nt_ ?_
   refine xblock ?_
   obtain ⟨Inv, ⟨m0, hI⟩, hS⟩ := h
   refine xloop (fun σ m => ∃ (x701 : List UInt8), ∃ (x703 : Int), ∃ (i702 : Option (Nat × Nat)), Inv (x701, x703) m ∧ σ = ⟨[(0, .sl 1 none (List.map eb x1)), (3, .sl 1 (some i702) (List.map eb x701)), (4, .v (.int .i64 x703))], [], [⟨i702, 5, 1, x701.length⟩]⟩) ⟨([] : List UInt8), 0, none, hI, rfl⟩ (by exact ⟨(.cons rfl (.refl _) (.cons rfl (.nil_own _) (.cons rfl (.refl _) (.nil _)))), (SubM.of (.nil _) (.add (.nil _)))⟩) ?_
   rintro _ m ⟨x701, x703, i702, hI, rfl⟩
   obtain ⟨ag2, hag2, h⟩ : ∃ ag, (∀ s', ag s' → ∃ m', m' < m ∧ Inv s' m') ∧ palinodelaw08_BrePlain_l2 x1 ag x701 x703 r := ⟨_, fun _ h => h, hS (x701, x703) _ hI⟩
   clear hS hI
   refine xseq ?_
   refine sr_ ?_
   refine mv_ ?_
   refine mv_ ?_
   refine vp_ (pv_lenM UndC.h rfl) ?_
   refine vp_ (pv_bin2 rfl rfl rfl) ?_
   refine nt_ ?_
   by_cases hp876 : x703 < (x1.length : Int)
   ·replace h := h.1 hp876
    refine xcondT' (decide_eq_true hp876) rfl ?_
    refine xskipc ?_
    refine xthen ?_
    refine xseq ?_
    refine xblock ?_
    refine xseq ?_
    refine xseqM (fun σ => ∃ (x1012 : Bool), palinodelaw08_BrePlain_j3 x703 x1 x701 ag2 x1012 r ∧ σ = ⟨[(0, .sl 1 none (List.map eb x1)), (3, .sl 1 (some i702) (List.map eb x701)), (4, .v (.int .i64 x703)), (51, .v (.bool x1012))], [], [⟨i702, 5, 1, x701.length⟩]⟩) ?_ ?_
    ·refine xregion ?_
     refine mv_ ?_
     refine mv_ ?_
     obtain ⟨h1014a, h⟩ := h
     obtain ⟨y1013, h1014b, h⟩ := h
     refine vp_ (pv_indexAddrM h1014a h1014b UndC.h ShpC.h rfl rfl) ?_
     refine v_ (qv_load ShpC.h rfl rfl rfl) ?_
     refine vp_ (pv_convW (w8 y1013) UndC.h UndC.h rfl) ?_
     obtain ⟨y1017, h1016, h⟩ := h
     refine xcall0 (palinoderef08_Alnum_con (y1013.toNat : Int) _ h1016) Try.func12 (by kernel_rfl) rfl (.cons rfl (.refl _) .nil) rfl rfl ?_
     refine mv_ ?_
     by_cases hp1018 : y1017 = true
     ·replace h := h.1 hp1018
      refine xsetB 31 hp1018 rfl ?_
      refine sk_ ?_
      refine sk_ ?_
      refine sk_ ?_
      refine sk_ ?_
      refine sk_ ?_
      refine pk_ ?_
      refine mv_ ?_
      refine sk_ ?_
      refine sk_ ?_
      refine sk_ ?_
      refine sk_ ?_
      refine sk_ ?_
      refine pk_ ?_
      refine mv_ ?_
      refine sk_ ?_
      refine sk_ ?_
      refine sk_ ?_
      refine sk_ ?_
      refine sk_ ?_
      refine pk_ ?_
      refine xnil ?_
      exact xmeet ⟨true, h, rfl⟩ ⟨lk_, (SubM.of (.nil _) (.keep rfl (.nil _)))⟩
     ·replace h := h.2 hp1018
      refine xsetB 31 (b_f hp1018) rfl ?_
      refine mv_ ?_
      refine mv_ ?_
      obtain ⟨h1020a, h⟩ := h
      obtain ⟨y1019, h1020b, h⟩ := h
      refine vp_ (pv_indexAddrM h1020a h1020b UndC.h ShpC.h rfl rfl) ?_
      refine v_ (qv_load ShpC.h rfl rfl rfl) ?_
      refine vp_ (pv_bin2 rfl rfl rfl) ?_
      refine pk_ ?_
      refine mv_ ?_
      by_cases hp1022 : (y1019.toNat : Int) = 40
      ·replace h := h.1 hp1022
       refine xsetB 38 (decide_eq_true hp1022) rfl ?_
       refine sk_ ?_
       refine sk_ ?_
       refine sk_ ?_
       refine sk_ ?_
       refine sk_ ?_
       refine pk_ ?_
       refine mv_ ?_
       refine sk_ ?_
       refine sk_ ?_
       refine sk_ ?_
       refine sk_ ?_
       refine sk_ ?_
       refine pk_ ?_
       refine xnil ?_
       exact xmeet ⟨true, h, rfl⟩ ⟨lk_, (SubM.of (.nil _) (.keep rfl (.nil _)))⟩
      ·replace h := h.2 hp1022
       refine xsetB 38 (decide_eq_false hp1022) rfl ?_
       refine mv_ ?_
       refine mv_ ?_
       obtain ⟨h1024a, h⟩ := h
       obtain ⟨y1023, h1024b, h⟩ := h
       refine vp_ (pv_indexAddrM h1024a h1024b UndC.h ShpC.h rfl rfl) ?_
       refine v_ (qv_load ShpC.h rfl rfl rfl) ?_
       refine vp_ (pv_bin2 rfl rfl rfl) ?_
       refine pk_ ?_
       refine mv_ ?_
       by_cases hp1026 : (y1023.toNat : Int) = 41
       ·replace h := h.1 hp1026
        refine xsetB 45 (decide_eq_true hp1026) rfl ?_
        refine sk_ ?_
        refine sk_ ?_
        refine sk_ ?_
        refine sk_ ?_
        refine sk_ ?_
        refine pk_ ?_
        refine xnil ?_
        exact xmeet ⟨true, h, rfl⟩ ⟨lk_, (SubM.of (.nil _) (.keep rfl (.nil _)))⟩
       ·replace h := h.2 hp1026
        refine xsetB 45 (decide_eq_false hp1026) rfl ?_
        refine mv_ ?_
        refine mv_ ?_
        obtain ⟨h1028a, h⟩ := h
        obtain ⟨y1027, h1028b, h⟩ := h
        refine vp_ (pv_indexAddrM h1028a h1028b UndC.h ShpC.h rfl rfl) ?_
        refine v_ (qv_load ShpC.h rfl rfl rfl) ?_
        refine vp_ (pv_bin2 rfl rfl rfl) ?_
        refine pk_ ?_
        refine xnil ?_
        exact xmeet ⟨(decide ((y1027.toNat : Int) = 123)), h, rfl⟩ ⟨lk_, (SubM.of (.nil _) (.keep rfl (.nil _)))⟩
    ·clear h
     rintro _ ⟨x1012, h, rfl⟩
     by_cases hp1030 : x1012 = true
     ·replace h := h.1 hp1030
      refine xcondT' hp1030 rfl ?_
      refine sr_ ?_
      obtain ⟨y1032, h1031, h⟩ := h
      refine xcall0 (palinodelaw08_awake_con _ h1031) Try.func7 (by kernel_rfl) rfl .nil rfl rfl ?_
      refine as_ ?_
      refine nt_ ?_
      refine xretc ?_
      refine xthen_ret ?_
      refine xin_ret ?_
      refine xthen_ret ?_
      refine xthen_ret ?_
      refine xin_ret ?_
      refine xthen_ret ?_
      replace h := h.symm
      subst h
      exact xret1 hg rfl rfl (.refl _) (SubM.of (.nil _) (.nil _)) ⟨rfl, rfl, rfl⟩
     ·replace h := h.2 hp1030
      refine xcondF' (b_f hp1030) rfl ?_
      refine xskipc ?_
      refine xthen ?_
      refine xregion ?_
      refine mv_ ?_
      refine mv_ ?_
      refine mv_ ?_
      obtain ⟨h1034a, h⟩ := h
      obtain ⟨y1033, h1034b, h⟩ := h
      refine vp_ (pv_indexAddrM h1034a h1034b UndC.h ShpC.h rfl rfl) ?_
      refine v_ (qv_load ShpC.h rfl rfl rfl) ?_
      refine xbuildSliceM (f := eb) [(92 : UInt8), y1033] UndC.h InfC.h rfl rfl wr_ rfl rfl rfl rfl fun s58 => ?_
      obtain ⟨h1035, h⟩ := h
      refine xappendM (l := x701) (l2 := [(92 : UInt8), y1033]) 1 h1035 UndC.h InfC.h rfl rfl rfl (.refl _) rfl rfl rfl fun i1036 => ?_
      refine as_ ?_
      refine xnil ?_
      refine xin_normal ?_
      refine xthen ?_
      refine xregion ?_
      refine mv_ ?_
      obtain ⟨h1037, h⟩ := h
      refine vp_ (pv_addI h1037 rfl rfl) ?_
      refine as_ ?_
      refine xnil ?_
      obtain ⟨m', hm, hI⟩ := hag2 _ h
      exact xagain ⟨(x701 ++ [(92 : UInt8), y1033]), (x703 + 1), i1036, hI, rfl⟩ hm ⟨lk_, (SubM.of (.nil _) (.drop (.keep rfl (.nil _))))⟩
   ·replace h := h.2 hp876
    refine xcondF' (decide_eq_false hp876) rfl ?_
    refine xexit ?_
    refine xthen_exit ?_
    refine xthen_exit ?_
    refine xin_same rfl ?_
    refine xthen ?_
    refine sr_ ?_
    refine mv_ ?_
    obtain ⟨y1039, h1038, h⟩ := h
    refine xcallF (Fb := []) (Ft := [⟨i702, 5, 1, x701.length⟩]) (bre_Parse_con x701 _ h1038) Try.func8 (by kernel_rfl) rfl (.cons rfl (.tok _ _ _) .nil) (by exact sm_) rfl rfl ?_
    rintro _ _ _ ⟨rfl, rfl, rfl⟩
    simp only [List.nil_append, List.cons_append]
    refine mv_ ?_
    refine vp_ (pv_extract rfl rfl) ?_
    refine vp_ (pv_extract rfl rfl) ?_
    refine vp_ (pv_extract rfl rfl) ?_
    refine xalloc InfC.h rfl rfl fun b5 => ?_
    refine xstore 0 ShpC.h rfl rfl rfl rfl rfl rfl rfl ?_
    refine as_ ?_
    refine as_ ?_
    refine nt_ ?_
    refine xseq ?_
    refine sr_ ?_
    refine mv_ ?_
    refine vp_ (pv_bin2 rfl rfl rfl) ?_
    refine mv_ ?_
    by_cases hp1063 : ¬ (y1039.2.2 = 0)
    ·replace h := h.1 hp1063
     refine xsetB 68 (not_t (decide_eq_false hp1063)) rfl ?_
     refine sk_ ?_
     refine sk_ ?_
     refine sk_ ?_
     refine sk_ ?_
     refine sk_ ?_
     refine sk_ ?_
     refine sk_ ?_
     refine sk_ ?_
     refine pk_ ?_
     refine nt_ ?_
     refine xcondT rfl ?_
     refine sr_ ?_
     refine as_ ?_
     refine nt_ ?_
     refine xretc ?_
     refine xthen_ret ?_
     replace h := h.symm
     subst h
     exact xret1 hg rfl rfl (.refl _) (SubM.of (.nil _) (.nil _)) ⟨rfl, rfl, rfl⟩
    ·replace h := h.2 hp1063
     refine xsetB 68 (not_f (decide_eq_true (Decidable.of_not_not hp1063))) rfl ?_
     refine vp_ (qv_fieldAddrB FldC.h rfl) ?_
     refine v_ (qv_loadB 0 ShpC.h rfl rfl rfl rfl) ?_
     refine vp_ (pv_lenM UndC.h rfl) ?_
     refine mv_ ?_
     refine vp_ (pv_lenM UndC.h rfl) ?_
     obtain ⟨h1066, h⟩ := h
     refine vp_ (pv_mulI h1066 rfl rfl) ?_
     obtain ⟨h1067, h⟩ := h
     refine vp_ (pv_subI h1067 rfl rfl) ?_
     refine vp_ (pv_bin2 rfl rfl rfl) ?_
     refine pk_ ?_
     refine nt_ ?_
     by_cases hp1069 : ¬ ((y1039.1.1.length : Int) = ((2 * (x1.length : Int)) - 1))
     ·replace h := h.1 hp1069
      refine xcondT' (not_t (decide_eq_false hp1069)) rfl ?_
      refine sr_ ?_
      refine as_ ?_
      refine nt_ ?_
      refine xretc ?_
      refine xthen_ret ?_
      replace h := h.symm
      subst h
      exact xret1 hg rfl rfl (.refl _) (SubM.of (.nil _) (.nil _)) ⟨rfl, rfl, rfl⟩
     ·replace h := h.2 hp1069
      refine xcondF' (not_f (decide_eq_true (Decidable.of_not_not hp1069))) rfl ?_
      refine xskipc ?_
      refine xthen ?_
      refine sr_ ?_
      refine as_ ?_
      refine nt_ ?_
      refine xseq ?_
      refine sr_ ?_
      refine as_ ?_
      refine nt_ ?_
      refine xblock ?_
      obtain ⟨Inv, ⟨m0, hI⟩, hS⟩ := h
      refine xloop (fun σ m => ∃ (x1512 : Int), ∃ (x1513 : Int), Inv (x1512, x1513) m ∧ σ = ⟨[(0, .sl 1 none (List.map eb x1)), (5, .v (.pointer (some ⟨b5, 0, none⟩))), (8, .v (.int .i64 x1512)), (9, .v (.int .i64 x1513))], [⟨b5, 26, [.sl 10 none (List.map E_palinode_api_Node y1039.1.1), .v (.int .i64 y1039.1.2)]⟩], []⟩) ⟨0, 0, hI, rfl⟩ (by exact ⟨lk_, (SubM.of (.keep rfl rfl (.refl _) (.nil _)) (.nil _))⟩) ?_
      rintro _ m ⟨x1512, x1513, hI, rfl⟩
      obtain ⟨ag4, hag4, h⟩ : ∃ ag, (∀ s', ag s' → ∃ m', m' < m ∧ Inv s' m') ∧ palinodelaw08_BrePlain_l4 y1039 x1 ag x1512 x1513 r := ⟨_, fun _ h => h, hS (x1512, x1513) _ hI⟩
      clear hS hI
      refine xseq ?_
      refine sr_ ?_
      refine mv_ ?_
      refine vp_ (qv_fieldAddrB FldC.h rfl) ?_
      refine v_ (qv_loadB 0 ShpC.h rfl rfl rfl rfl) ?_
      refine vp_ (pv_lenM UndC.h rfl) ?_
      refine vp_ (pv_bin2 rfl rfl rfl) ?_
      refine nt_ ?_
      by_cases hp1629 : x1513 < (y1039.1.1.length : Int)
      ·replace h := h.1 hp1629
       refine xcondT' (decide_eq_true hp1629) rfl ?_
       refine xskipc ?_
       refine xthen ?_
       refine xseqM (fun σ => ∃ (x1681 : Int), palinodelaw08_BrePlain_j5 x1513 ag4 x1681 r ∧ σ = ⟨[(0, .sl 1 none (List.map eb x1)), (5, .v (.pointer (some ⟨b5, 0, none⟩))), (8, .v (.int .i64 x1681)), (9, .v (.int .i64 x1513))], [⟨b5, 26, [.sl 10 none (List.map E_palinode_api_Node y1039.1.1), .v (.int .i64 y1039.1.2)]⟩], []⟩) ?_ ?_
       ·refine xblock ?_
        refine sr_ ?_
        refine vp_ (qv_fieldAddrB FldC.h rfl) ?_
        refine v_ (qv_loadB 0 ShpC.h rfl rfl rfl rfl) ?_
        refine mv_ ?_
        obtain ⟨h1683a, h⟩ := h
        obtain ⟨y1682, h1683b, h⟩ := h
        refine vp_ (pv_indexAddrM h1683a h1683b UndC.h ShpC.h rfl rfl) ?_
        refine vp_ (qv_fieldAddrE FldC.h rfl) ?_
        refine v_ (qv_load ShpC.h rfl rfl rfl) ?_
        refine vp_ (pv_bin2 rfl rfl rfl) ?_
        refine nt_ ?_
        by_cases hp1685 : y1682.1 = 1
        ·replace h := h.1 hp1685
         refine xcondT' (decide_eq_true hp1685) rfl ?_
         refine xseq ?_
         refine xseq ?_
         refine xregionD (m := 18) (by kernel_rfl) rfl ?_
         refine pl_ 0 rfl (pv_move rfl) ?_
         refine pl_ 1 rfl (pv_move rfl) ?_
         refine pl_ 2 rfl (pv_lenM UndC.h rfl) ?_
         refine pl_ 3 rfl (pv_bin2 rfl rfl rfl) ?_
         refine pl_ 4 rfl (pv_move rfl) ?_
         by_cases hp1722 : (x1.length : Int) ≤ x1512
         ·replace h := h.1 hp1722
          refine psetB 96 (decide_eq_true hp1722) rfl ?_
          refine xpskip 5 rfl rfl rfl (by kernel_rfl) (by kernel_rfl) (by kernel_rfl) (fun _ _ _ _ h => h) ?_
          refine xpskip 6 rfl rfl rfl (by kernel_rfl) (by kernel_rfl) (by kernel_rfl) (fun _ _ _ _ h => h) ?_
          refine xpskip 7 rfl rfl rfl (by kernel_rfl) (by kernel_rfl) (by kernel_rfl) (fun _ _ _ _ h => h) ?_
          refine xpskip 8 rfl rfl rfl (by kernel_rfl) (by kernel_rfl) (by kernel_rfl) (fun _ _ _ _ h => h) ?_
          refine xpskip 9 rfl rfl rfl (by kernel_rfl) (by kernel_rfl) (by kernel_rfl) (fun _ _ _ _ h => h) ?_
          refine xpskip 10 rfl rfl rfl (by kernel_rfl) (by kernel_rfl) (by kernel_rfl) (fun _ _ _ _ h => h) ?_
          refine xpskip 11 rfl rfl rfl (by kernel_rfl) (by kernel_rfl) (by kernel_rfl) (fun _ _ _ _ h => h) ?_
          refine xpskip 12 rfl rfl rfl (by kernel_rfl) (by kernel_rfl) (by kernel_rfl) (fun _ _ _ _ h => h) ?_
          refine xpskip 13 rfl rfl rfl (by kernel_rfl) (by kernel_rfl) (by kernel_rfl) (fun _ _ _ _ h => h) ?_
          refine xpskip 14 rfl rfl rfl (by kernel_rfl) (by kernel_rfl) (by kernel_rfl) (fun _ _ _ _ h => h) ?_
          refine xpskip 15 rfl rfl rfl (by kernel_rfl) (by kernel_rfl) (by kernel_rfl) (fun _ _ _ _ h => h) ?_
          refine xpskip 16 rfl rfl rfl (by kernel_rfl) (by kernel_rfl) (by kernel_rfl) (fun _ _ _ _ h => h) ?_
          refine pl_ 17 rfl (pv_pick rfl rfl) ?_
          refine xpdone (by kernel_rfl) ?_
          refine xthen ?_
          refine xcondT rfl ?_
          refine sr_ ?_
          refine as_ ?_
          refine nt_ ?_
          refine xretc ?_
          refine xthen_ret ?_
          refine xin_ret ?_
          refine xthen_ret ?_
          refine xthen_ret ?_
          refine xin_ret ?_
          refine xthen_ret ?_
          replace h := h.symm
          subst h
          exact xret1 hg rfl rfl (.refl _) (SubM.of (.nil _) (.nil _)) ⟨rfl, rfl, rfl⟩
         ·replace h := h.2 hp1722
          refine psetB 96 (decide_eq_false hp1722) rfl ?_
          obtain ⟨h1724a, h⟩ := h
          obtain ⟨y1723, h1724b, h⟩ := h
          obtain ⟨h1726a, h⟩ := h
          obtain ⟨y1725, h1726b, h⟩ := h
          obtain ⟨y1728, h1727, h⟩ := h
          refine xpcut 0 #[true, true, true, true, true, true, true, true, true, true, true, true, true, true, true, true, true, true] (fun σ => σ = ⟨[(0, .sl 1 none (List.map eb x1)), (5, .v (.pointer (some ⟨b5, 0, none⟩))), (8, .v (.int .i64 x1512)), (9, .v (.int .i64 x1513)), (97, .v (.pointer (some ⟨b5, 0, none⟩))), (98, .sl 10 none (List.map E_palinode_api_Node y1039.1.1)), (99, .v (.int .i64 x1513)), (100, .el ([.v (.int .i64 y1723.1), .v (.int .i64 y1723.2.1), .v (.int .i64 y1723.2.2.1), .v (.int .i64 y1723.2.2.2.1), .v (.int .i64 y1723.2.2.2.2.1), .v (.int .i64 y1723.2.2.2.2.2.1)] ++ (List.map ew y1723.2.2.2.2.2.2.l).flatten)), (101, .el ((List.map ew y1723.2.2.2.2.2.2.l).flatten)), (102, .agg ((List.map ew y1723.2.2.2.2.2.2.l).flatten)), (103, .sl 1 none (List.map eb x1)), (104, .v (.int .i64 x1512)), (105, .el [.v (.int .u8 ((y1725.toNat : Int)))]), (106, .v (.int .u8 ((y1725.toNat : Int)))), (107, .agg ((List.map ew y1728.l).flatten)), (108, .v (.bool (!(decide ((y1723.2.2.2.2.2.2 : Arr 4 (UInt64)) = y1728))))), (109, .v (.bool (!(decide ((y1723.2.2.2.2.2.2 : Arr 4 (UInt64)) = y1728)))))], [⟨b5, 26, [.sl 10 none (List.map E_palinode_api_Node y1039.1.1), .v (.int .i64 y1039.1.2)]⟩], []⟩) ?_ (fun key1730 => ?_)
          ·rintro _ rfl
           refine xpdone (by kernel_rfl) ?_
           refine xthen ?_
           by_cases hp1731 : ¬ ((y1723.2.2.2.2.2.2 : Arr 4 (UInt64)) = y1728)
           ·replace h := h.1 hp1731
            refine xcondT' (not_t (decide_eq_false hp1731)) rfl ?_
            refine sr_ ?_
            refine as_ ?_
            refine nt_ ?_
            refine xretc ?_
            refine xthen_ret ?_
            refine xin_ret ?_
            refine xthen_ret ?_
            refine xthen_ret ?_
            refine xin_ret ?_
            refine xthen_ret ?_
            replace h := h.symm
            subst h
            exact xret1 hg rfl rfl (.refl _) (SubM.of (.nil _) (.nil _)) ⟨rfl, rfl, rfl⟩
           ·replace h := h.2 hp1731
            refine xcondF' (not_f (decide_eq_true (Decidable.of_not_not hp1731))) rfl ?_
            refine xskipc ?_
            refine xthen ?_
            refine xregion ?_
            refine mv_ ?_
            obtain ⟨h1732, h⟩ := h
            refine vp_ (pv_addI h1732 rfl rfl) ?_
            refine as_ ?_
            refine xnil ?_
            refine xin_normal ?_
            exact xmeet ⟨(x1512 + 1), h, rfl⟩ ⟨lk_, (SubM.of (.keep rfl rfl (.refl _) (.nil _)) (.nil _))⟩
          refine pl_ 5 rfl (qv_fieldAddrB FldC.h rfl) ?_
          refine pl_ 7 rfl (pv_move rfl) ?_
          refine pl_ 11 rfl (pv_move rfl) ?_
          refine pl_ 12 rfl (pv_move rfl) ?_
          refine pl_ 13 rfl (pv_indexAddrM h1726a h1726b UndC.h ShpC.h rfl rfl) ?_
          refine xpvalE 14 [6, 8, 9, 10] rfl (qv_load ShpC.h rfl rfl rfl) rfl rfl (by kernel_rfl) (by kernel_rfl) (by kernel_rfl) (fun _ _ _ _ h => h) ?_
          refine xpstepN (is := [6, 15]) (by kernel_rfl) (by simp) ?_
          intro i hi; simp only [List.mem_cons, List.not_mem_nil, or_false] at hi; rcases hi with rfl | rfl
          ·refine ⟨_, rfl, ?_⟩
           refine wv_ (qv_loadB 0 ShpC.h rfl rfl rfl rfl) ?_
           refine pl_ 8 rfl (pv_indexAddrM h1724a h1724b UndC.h ShpC.h rfl rfl) ?_
           refine pl_ 9 rfl (qv_fieldAddrE FldC.h rfl) ?_
           refine xfl0 [⟨10, 102, .agg ((List.map ew y1723.2.2.2.2.2.2.l).flatten)⟩] 3 ?_
           refine xflstep 15 (by kernel_rfl) rfl (.cons rfl rfl rfl (fun _ => rfl) (fun _ => qv_loadEP ((List.map ew y1723.2.2.2.2.2.2.l).flatten) [] sq_ sl_ (part_all (seg_lenE (by rfl))) ShpC.h rfl) .nil) fun D l td hR => ?_
           refine wcall0 (palinoderef08_One_con y1725 _ h1727) Try.func13 (by kernel_rfl) rfl (.cons rfl (.refl _) .nil) rfl rfl ?_
           refine xflgo1 hR ?_
           refine xflend (l' := #[true, true, true, true, true, true, true, true, true, true, true, true, true, true, true, true, false, false]) (by kernel_rfl) (.cons rfl rfl rfl (fun _ => rfl) (fun _ => qv_loadEP ((List.map ew y1723.2.2.2.2.2.2.l).flatten) [] sq_ sl_ (part_all (seg_lenE (by rfl))) ShpC.h rfl) .nil) (by kernel_rfl) rfl (by kernel_rfl) (by kernel_rfl) ?_
           simp only [List.nil_append, List.cons_append, List.map_cons, List.map_nil]
           refine pl_ 16 rfl (pv_neAgg (f := E_palinode_api_Set) (a := y1723.2.2.2.2.2.2) (b := y1728) (eqC_arr (t := 40) (e := 38) (f := ew) UndC.h ShpC.h (by kernel_rfl) inferInstance (fun _ => rfl)) (by decide) (by kernel_rfl) ev_ ev_) ?_
           refine pl_ 17 rfl (pv_pick rfl rfl) ?_
           exact xpuse key1730 rfl ⟨lk_, (SubM.of (.keep rfl rfl (.refl _) (.nil _)) (.nil _))⟩ rfl (by kernel_rfl)
          ·refine ⟨_, rfl, ?_⟩
           refine wcall0 (palinoderef08_One_con y1725 _ h1727) Try.func13 (by kernel_rfl) rfl (.cons rfl (.refl _) .nil) rfl rfl ?_
           refine xpvalE 6 [] rfl (qv_loadB 0 ShpC.h rfl rfl rfl rfl) rfl rfl (by kernel_rfl) (by kernel_rfl) (by kernel_rfl) (fun _ _ _ _ h => h) ?_
           refine pl_ 8 rfl (pv_indexAddrM h1724a h1724b UndC.h ShpC.h rfl rfl) ?_
           refine pl_ 9 rfl (qv_fieldAddrE FldC.h rfl) ?_
           refine xpvalE 10 [] rfl (qv_loadEP ((List.map ew y1723.2.2.2.2.2.2.l).flatten) [] sq_ sl_ (part_all (seg_lenE (by rfl))) ShpC.h rfl) rfl rfl (by kernel_rfl) (by kernel_rfl) (by kernel_rfl) (fun _ _ _ _ h => h) ?_
           refine pl_ 16 rfl (pv_neAgg (f := E_palinode_api_Set) (a := y1723.2.2.2.2.2.2) (b := y1728) (eqC_arr (t := 40) (e := 38) (f := ew) UndC.h ShpC.h (by kernel_rfl) inferInstance (fun _ => rfl)) (by decide) (by kernel_rfl) ev_ ev_) ?_
           refine pl_ 17 rfl (pv_pick rfl rfl) ?_
           exact xpuse key1730 rfl ⟨lk_, (SubM.of (.keep rfl rfl (.refl _) (.nil _)) (.nil _))⟩ rfl (by kernel_rfl)
        ·replace h := h.2 hp1685
         refine xcondF' (decide_eq_false hp1685) rfl ?_
         refine xskipc ?_
         refine xin_normal ?_
         exact xmeet ⟨x1512, h, rfl⟩ ⟨lk_, (SubM.of (.keep rfl rfl (.refl _) (.nil _)) (.nil _))⟩
       ·clear h
        rintro _ ⟨x1681, h, rfl⟩
        refine xregion ?_
        refine mv_ ?_
        obtain ⟨h1733, h⟩ := h
        refine vp_ (pv_addI h1733 rfl rfl) ?_
        refine as_ ?_
        refine xnil ?_
        obtain ⟨m', hm, hI⟩ := hag4 _ h
        exact xagain ⟨x1681, (x1513 + 1), hI, rfl⟩ hm ⟨lk_, (SubM.of (.keep rfl rfl (.refl _) (.nil _)) (.nil _))⟩
      ·replace h := h.2 hp1629
       refine xcondF' (decide_eq_false hp1629) rfl ?_
       refine xexit ?_
       refine xthen_exit ?_
       refine xthen_exit ?_
       refine xin_same rfl ?_
       refine xthen ?_
       refine sr_ ?_
       refine mv_ ?_
       refine mv_ ?_
       refine vp_ (pv_lenM UndC.h rfl) ?_
       refine vp_ (pv_bin2 rfl rfl rfl) ?_
       refine mv_ ?_
       by_cases hp1741 : x1512 = (x1.length : Int)
       ·replace h := h.1 hp1741
        refine xsetB 116 (decide_eq_true hp1741) rfl ?_
        obtain ⟨y1743, h1742, h⟩ := h
        refine xcall0 (palinodelaw08_awake_con _ h1742) Try.func7 (by kernel_rfl) rfl .nil rfl rfl ?_
        refine pk_ ?_
        refine as_ ?_
        refine nt_ ?_
        refine xretc ?_
        replace h := h.symm
        subst h
        exact xret1 hg rfl rfl (.refl _) (SubM.of (.nil _) (.nil _)) ⟨rfl, rfl, rfl⟩
       ·replace h := h.2 hp1741
        refine xsetB 116 (decide_eq_false hp1741) rfl ?_
        refine sk_ ?_
        refine pk_ ?_
        refine as_ ?_
        refine nt_ ?_
        refine xretc ?_
        replace h := h.symm
        subst h
        exact xret1 hg rfl rfl (.refl _) (SubM.of (.nil _) (.nil _)) ⟨rfl, rfl, rfl⟩
end Go.Proofs.Ytpddiffpanihdaa
