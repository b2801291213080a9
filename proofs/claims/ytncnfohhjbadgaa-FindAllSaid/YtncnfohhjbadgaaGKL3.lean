
/- What functions' texts ask for, and the walks that show it (printed by a program). -/
import Derived.Test.YtncnfohhjbadgaaGK
namespace Go.Proofs.Ytncnfohhjbadgaa
/-- palinodelaw12.FindAll -/
def palinodelaw12_FindAll_j3 (x91 : Bool) (r : Bool) : Prop :=
 r = x91
def palinodelaw12_FindAll_j4 (x113 : Bool) (r : Bool) : Prop :=
 r = x113
def palinodelaw12_FindAll_j2 (y41 : (List ((Arr 10 (Int × Int)))) × Int × Int) (x1 : (List (Int × Int × Int × Int × Int × Int × (Arr 4 (UInt64)))) × Int) (x2 : List UInt8) (x3 : Int) (x76 : Bool) (r : Bool) : Prop :=
 ((x76 = true → ((y41.2.2 = 1 → (((y41.1.length : Int) = 0 → ((y41.2.1 = 0 → ∃ y100 : Bool, palinodelaw12_awake_R y100 ∧ palinodelaw12_FindAll_j3 y100 r) ∧ (¬ (y41.2.1 = 0) → palinodelaw12_FindAll_j3 false r))) ∧ (¬ ((y41.1.length : Int) = 0) → palinodelaw12_FindAll_j3 false r))) ∧ (¬ (y41.2.2 = 1) → palinodelaw12_FindAll_j3 false r))) ∧ (¬ (x76 = true) → ∃ y102 : (List ((Arr 10 (Int × Int)))) × Int × Int, palinoderef12_All_R x1 x2 x3 y102 ∧ ∃ y115 : Bool, palinoderef12_Same_R y41.1 y102.1 y115 ∧ ((y115 = true → ((y41.2.1 = y102.2.1 → ((y41.2.2 = y102.2.2 → ∃ y122 : Bool, palinodelaw12_awake_R y122 ∧ palinodelaw12_FindAll_j4 y122 r) ∧ (¬ (y41.2.2 = y102.2.2) → palinodelaw12_FindAll_j4 false r))) ∧ (¬ (y41.2.1 = y102.2.1) → palinodelaw12_FindAll_j4 false r))) ∧ (¬ (y115 = true) → palinodelaw12_FindAll_j4 false r))))
def palinodelaw12_FindAll_j1 (x1 : (List (Int × Int × Int × Int × Int × Int × (Arr 4 (UInt64)))) × Int) (x2 : List UInt8) (x3 : Int) (x29 : Bool) (r : Bool) : Prop :=
 ((x29 = true → ∃ y39 : Bool, palinodelaw12_awake_R y39 ∧ r = y39) ∧ (¬ (x29 = true) → ∃ y41 : (List ((Arr 10 (Int × Int)))) × Int × Int, find_All_R x1 x2 x3 y41 ∧ ∃ y78 : Bool, palinoderef06_Right_R x1 y78 ∧ palinodelaw12_FindAll_j2 y41 x1 x2 x3 ((!y78) || (decide (x3 < 0))) r))
def palinodelaw12_FindAll_R (x1 : (List (Int × Int × Int × Int × Int × Int × (Arr 4 (UInt64)))) × Int) (x2 : List UInt8) (x3 : Int) (r : Bool) : Prop :=
 palinodelaw12_FindAll_j1 x1 x2 x3 ((decide (40 < (x1.1.length : Int))) || ((decide (10 < (x2.length : Int))) || (decide (3000 < x3)))) r
set_option maxHeartbeats 4000000 in
theorem palinodelaw12_FindAll_con (x1 : (List (Int × Int × Int × Int × Int × Int × (Arr 4 (UInt64)))) × Int) (x2 : List UInt8) (x3 : Int) (r : Bool) (h : palinodelaw12_FindAll_R x1 x2 x3 r) : Con Try.prog 4 [.agg [.sl 10 none (List.map E_palinode_api_Node x1.1), .v (.int .i64 x1.2)], .sl 1 none (List.map eb x2), .v (.int .i64 x3)] [] [] (Ret (.v (.bool r))) := by
 refine xenter Try.func4 rfl rfl fun g hg => ?_
 simp only [Try.ntmps4, slots]
 unfold palinodelaw12_FindAll_R at h
 refine sr_ ?_
 refine xbox rfl rfl rfl rfl fun b3 => ?_
 refine as_ ?_
 refine nt_ ?_
 refine xseq ?_
 refine xseqM (fun σ => ∃ (x29 : Bool), palinodelaw12_FindAll_j1 x1 x2 x3 x29 r ∧ σ = ⟨[(1, .sl 1 none (List.map eb x2)), (2, .v (.int .i64 x3)), (3, .v (.pointer (some ⟨b3, 0, none⟩))), (25, .v (.bool x29))], [⟨b3, 24, [.sl 10 none (List.map E_palinode_api_Node x1.1), .v (.int .i64 x1.2)]⟩], []⟩) ?_ ?_
 ·refine xregion ?_
  refine vp_ (qv_fieldAddrB FldC.h rfl) ?_
  refine v_ (qv_loadB 0 ShpC.h rfl rfl rfl rfl) ?_
  refine vp_ (pv_lenM UndC.h rfl) ?_
  refine vp_ (pv_bin2 rfl rfl rfl) ?_
  refine mv_ ?_
  by_cases hp32 : 40 < (x1.1.length : Int)
  ·rw [or_tt (show (decide (40 < (x1.1.length : Int))) = true from (decide_eq_true hp32))] at h
   refine xsetB 17 (decide_eq_true hp32) rfl ?_
   refine sk_ ?_
   refine sk_ ?_
   refine sk_ ?_
   refine pk_ ?_
   refine mv_ ?_
   refine sk_ ?_
   refine sk_ ?_
   refine pk_ ?_
   refine xnil ?_
   exact xmeet ⟨true, h, rfl⟩ ⟨lk_, (SubM.of (.keep rfl rfl (.refl _) (.nil _)) (.nil _))⟩
  ·rw [or_ff (show (decide (40 < (x1.1.length : Int))) = false from (decide_eq_false hp32))] at h
   refine xsetB 17 (decide_eq_false hp32) rfl ?_
   refine mv_ ?_
   refine vp_ (pv_lenM UndC.h rfl) ?_
   refine vp_ (pv_bin2 rfl rfl rfl) ?_
   refine pk_ ?_
   refine mv_ ?_
   by_cases hp35 : 10 < (x2.length : Int)
   ·rw [or_tt (show (decide (10 < (x2.length : Int))) = true from (decide_eq_true hp35))] at h
    refine xsetB 22 (decide_eq_true hp35) rfl ?_
    refine sk_ ?_
    refine sk_ ?_
    refine pk_ ?_
    refine xnil ?_
    exact xmeet ⟨true, h, rfl⟩ ⟨lk_, (SubM.of (.keep rfl rfl (.refl _) (.nil _)) (.nil _))⟩
   ·rw [or_ff (show (decide (10 < (x2.length : Int))) = false from (decide_eq_false hp35))] at h
    refine xsetB 22 (decide_eq_false hp35) rfl ?_
    refine mv_ ?_
    refine vp_ (pv_bin2 rfl rfl rfl) ?_
    refine pk_ ?_
    refine xnil ?_
    exact xmeet ⟨(decide (3000 < x3)), h, rfl⟩ ⟨lk_, (SubM.of (.keep rfl rfl (.refl _) (.nil _)) (.nil _))⟩
 ·clear h
  rintro _ ⟨x29, h, rfl⟩
  by_cases hp37 : x29 = true
  ·replace h := h.1 hp37
   refine xcondT' hp37 rfl ?_
   refine sr_ ?_
   obtain ⟨y39, h38, h⟩ := h
   refine xcall0 (palinodelaw12_awake_con _ h38) Try.func7 (by kernel_rfl) rfl .nil rfl rfl ?_
   refine as_ ?_
   refine nt_ ?_
   refine xretc ?_
   refine xthen_ret ?_
   replace h := h.symm
   subst h
   exact xret1 hg rfl rfl (.refl _) (SubM.of (.nil _) (.nil _)) ⟨rfl, rfl, rfl⟩
  ·replace h := h.2 hp37
   refine xcondF' (b_f hp37) rfl ?_
   refine xskipc ?_
   refine xthen ?_
   refine sr_ ?_
   refine v_ (qv_loadB 0 ShpC.h rfl rfl rfl rfl) ?_
   refine mv_ ?_
   refine mv_ ?_
   obtain ⟨y41, h40, h⟩ := h
   refine xcallF (Fb := [⟨b3, 24, [.sl 10 none (List.map E_palinode_api_Node x1.1), .v (.int .i64 x1.2)]⟩]) (Ft := []) (find_All_con x1 x2 x3 _ h40) Try.func11 (by kernel_rfl) rfl (.cons rfl (.refl _) (.cons rfl (.refl _) (.cons rfl (.refl _) .nil))) (by exact sm_) rfl rfl ?_
   rintro _ _ _ ⟨i42, rfl, rfl, rfl⟩
   simp only [List.nil_append, List.cons_append]
   refine mv_ ?_
   refine vp_ (pv_extract rfl rfl) ?_
   refine vp_ (pv_extract rfl rfl) ?_
   refine vp_ (pv_extract rfl rfl) ?_
   refine as_ ?_
   refine as_ ?_
   refine as_ ?_
   refine nt_ ?_
   refine xseq ?_
   refine xseqM (fun σ => ∃ (x76 : Bool), palinodelaw12_FindAll_j2 y41 x1 x2 x3 x76 r ∧ σ = ⟨[(1, .sl 1 none (List.map eb x2)), (2, .v (.int .i64 x3)), (3, .v (.pointer (some ⟨b3, 0, none⟩))), (7, .sl 20 (some i42) (List.map E_palinode_api_Hit y41.1)), (8, .v (.int .i64 y41.2.1)), (9, .v (.int .i64 y41.2.2)), (41, .v (.bool x76))], [⟨b3, 24, [.sl 10 none (List.map E_palinode_api_Node x1.1), .v (.int .i64 x1.2)]⟩], [⟨i42, 31, 20, y41.1.length⟩]⟩) ?_ ?_
   ·refine xregion ?_
    refine v_ (qv_loadB 0 ShpC.h rfl rfl rfl rfl) ?_
    obtain ⟨y78, h77, h⟩ := h
    refine xcall0 (palinoderef06_Right_con x1 _ h77) Try.func9 (by kernel_rfl) rfl (.cons rfl (.refl _) .nil) rfl rfl ?_
    refine vp_ (pv_not rfl) ?_
    refine mv_ ?_
    by_cases hp79 : ¬ (y78 = true)
    ·rw [or_tt (show (!y78) = true from (not_t (b_f hp79)))] at h
     refine xsetB 38 (not_t (b_f hp79)) rfl ?_
     refine sk_ ?_
     refine sk_ ?_
     refine pk_ ?_
     refine xnil ?_
     exact xmeet ⟨true, h, rfl⟩ ⟨lk_, (SubM.of (.keep rfl rfl (.refl _) (.nil _)) (.keep rfl (.nil _)))⟩
    ·rw [or_ff (show (!y78) = false from (not_f (Decidable.of_not_not hp79)))] at h
     refine xsetB 38 (not_f (Decidable.of_not_not hp79)) rfl ?_
     refine mv_ ?_
     refine vp_ (pv_bin2 rfl rfl rfl) ?_
     refine pk_ ?_
     refine xnil ?_
     exact xmeet ⟨(decide (x3 < 0)), h, rfl⟩ ⟨lk_, (SubM.of (.keep rfl rfl (.refl _) (.nil _)) (.keep rfl (.nil _)))⟩
   ·clear h
    rintro _ ⟨x76, h, rfl⟩
    by_cases hp81 : x76 = true
    ·replace h := h.1 hp81
     refine xcondT' hp81 rfl ?_
     refine xseqM (fun σ => ∃ (x91 : Bool), palinodelaw12_FindAll_j3 x91 r ∧ σ = ⟨[(6, .v (.bool x91))], [], []⟩) ?_ ?_
     ·refine xregion ?_
      refine mv_ ?_
      refine vp_ (pv_bin2 rfl rfl rfl) ?_
      refine mv_ ?_
      by_cases hp93 : y41.2.2 = 1
      ·replace h := h.1 hp93
       refine xsetB 44 (decide_eq_true hp93) rfl ?_
       refine mv_ ?_
       refine vp_ (pv_lenM UndC.h rfl) ?_
       refine vp_ (pv_bin2 rfl rfl rfl) ?_
       refine pk_ ?_
       refine mv_ ?_
       by_cases hp96 : (y41.1.length : Int) = 0
       ·replace h := h.1 hp96
        refine xsetB 49 (decide_eq_true hp96) rfl ?_
        refine mv_ ?_
        refine vp_ (pv_bin2 rfl rfl rfl) ?_
        refine pk_ ?_
        refine mv_ ?_
        by_cases hp98 : y41.2.1 = 0
        ·replace h := h.1 hp98
         refine xsetB 53 (decide_eq_true hp98) rfl ?_
         obtain ⟨y100, h99, h⟩ := h
         refine xcall0 (palinodelaw12_awake_con _ h99) Try.func7 (by kernel_rfl) rfl .nil rfl rfl ?_
         refine pk_ ?_
         refine as_ ?_
         refine xnil ?_
         exact xmeet ⟨y100, h, rfl⟩ ⟨(.cons rfl (.refl _) (.nil _)), (SubM.of (.nil _) (.nil _))⟩
        ·replace h := h.2 hp98
         refine xsetB 53 (decide_eq_false hp98) rfl ?_
         refine sk_ ?_
         refine pk_ ?_
         refine as_ ?_
         refine xnil ?_
         exact xmeet ⟨false, h, rfl⟩ ⟨(.cons rfl (.refl _) (.nil _)), (SubM.of (.nil _) (.nil _))⟩
       ·replace h := h.2 hp96
        refine xsetB 49 (decide_eq_false hp96) rfl ?_
        refine sk_ ?_
        refine sk_ ?_
        refine pk_ ?_
        refine mv_ ?_
        refine sk_ ?_
        refine pk_ ?_
        refine as_ ?_
        refine xnil ?_
        exact xmeet ⟨false, h, rfl⟩ ⟨(.cons rfl (.refl _) (.nil _)), (SubM.of (.nil _) (.nil _))⟩
      ·replace h := h.2 hp93
       refine xsetB 44 (decide_eq_false hp93) rfl ?_
       refine sk_ ?_
       refine sk_ ?_
       refine sk_ ?_
       refine pk_ ?_
       refine mv_ ?_
       refine sk_ ?_
       refine sk_ ?_
       refine pk_ ?_
       refine mv_ ?_
       refine sk_ ?_
       refine pk_ ?_
       refine as_ ?_
       refine xnil ?_
       exact xmeet ⟨false, h, rfl⟩ ⟨(.cons rfl (.refl _) (.nil _)), (SubM.of (.nil _) (.nil _))⟩
     ·clear h
      rintro _ ⟨x91, h, rfl⟩
      refine xretc ?_
      refine xthen_ret ?_
      replace h := h.symm
      subst h
      exact xret1 hg rfl rfl (.refl _) (SubM.of (.nil _) (.nil _)) ⟨rfl, rfl, rfl⟩
    ·replace h := h.2 hp81
     refine xcondF' (b_f hp81) rfl ?_
     refine xskipc ?_
     refine xthen ?_
     refine sr_ ?_
     refine v_ (qv_loadB 0 ShpC.h rfl rfl rfl rfl) ?_
     refine mv_ ?_
     refine mv_ ?_
     obtain ⟨y102, h101, h⟩ := h
     refine xcallF (Fb := [⟨b3, 24, [.sl 10 none (List.map E_palinode_api_Node x1.1), .v (.int .i64 x1.2)]⟩]) (Ft := [⟨i42, 31, 20, y41.1.length⟩]) (palinoderef12_All_con x1 x2 x3 _ h101) Try.func12 (by kernel_rfl) rfl (.cons rfl (.refl _) (.cons rfl (.refl _) (.cons rfl (.refl _) .nil))) (by exact sm_) rfl rfl ?_
     rintro _ _ _ ⟨i103, rfl, rfl, rfl⟩
     simp only [List.nil_append, List.cons_append]
     refine mv_ ?_
     refine vp_ (pv_extract rfl rfl) ?_
     refine vp_ (pv_extract rfl rfl) ?_
     refine vp_ (pv_extract rfl rfl) ?_
     refine as_ ?_
     refine as_ ?_
     refine as_ ?_
     refine nt_ ?_
     refine xseqM (fun σ => ∃ (x113 : Bool), palinodelaw12_FindAll_j4 x113 r ∧ σ = ⟨[(6, .v (.bool x113))], [], []⟩) ?_ ?_
     ·refine xregion ?_
      refine mv_ ?_
      refine mv_ ?_
      obtain ⟨y115, h114, h⟩ := h
      refine xcall0 (palinoderef12_Same_con y41.1 y102.1 _ h114) Try.func13 (by kernel_rfl) rfl (.cons rfl (.tok _ _ _) (.cons rfl (.tok _ _ _) .nil)) rfl rfl ?_
      refine mv_ ?_
      by_cases hp116 : y115 = true
      ·replace h := h.1 hp116
       refine xsetB 67 hp116 rfl ?_
       refine mv_ ?_
       refine mv_ ?_
       refine vp_ (pv_bin2 rfl rfl rfl) ?_
       refine pk_ ?_
       refine mv_ ?_
       by_cases hp118 : y41.2.1 = y102.2.1
       ·replace h := h.1 hp118
        refine xsetB 72 (decide_eq_true hp118) rfl ?_
        refine mv_ ?_
        refine mv_ ?_
        refine vp_ (pv_bin2 rfl rfl rfl) ?_
        refine pk_ ?_
        refine mv_ ?_
        by_cases hp120 : y41.2.2 = y102.2.2
        ·replace h := h.1 hp120
         refine xsetB 77 (decide_eq_true hp120) rfl ?_
         obtain ⟨y122, h121, h⟩ := h
         refine xcall0 (palinodelaw12_awake_con _ h121) Try.func7 (by kernel_rfl) rfl .nil rfl rfl ?_
         refine pk_ ?_
         refine as_ ?_
         refine xnil ?_
         exact xmeet ⟨y122, h, rfl⟩ ⟨(.cons rfl (.refl _) (.nil _)), (SubM.of (.nil _) (.nil _))⟩
        ·replace h := h.2 hp120
         refine xsetB 77 (decide_eq_false hp120) rfl ?_
         refine sk_ ?_
         refine pk_ ?_
         refine as_ ?_
         refine xnil ?_
         exact xmeet ⟨false, h, rfl⟩ ⟨(.cons rfl (.refl _) (.nil _)), (SubM.of (.nil _) (.nil _))⟩
       ·replace h := h.2 hp118
        refine xsetB 72 (decide_eq_false hp118) rfl ?_
        refine sk_ ?_
        refine sk_ ?_
        refine sk_ ?_
        refine pk_ ?_
        refine mv_ ?_
        refine sk_ ?_
        refine pk_ ?_
        refine as_ ?_
        refine xnil ?_
        exact xmeet ⟨false, h, rfl⟩ ⟨(.cons rfl (.refl _) (.nil _)), (SubM.of (.nil _) (.nil _))⟩
      ·replace h := h.2 hp116
       refine xsetB 67 (b_f hp116) rfl ?_
       refine sk_ ?_
       refine sk_ ?_
       refine sk_ ?_
       refine pk_ ?_
       refine mv_ ?_
       refine sk_ ?_
       refine sk_ ?_
       refine sk_ ?_
       refine pk_ ?_
       refine mv_ ?_
       refine sk_ ?_
       refine pk_ ?_
       refine as_ ?_
       refine xnil ?_
       exact xmeet ⟨false, h, rfl⟩ ⟨(.cons rfl (.refl _) (.nil _)), (SubM.of (.nil _) (.nil _))⟩
     ·clear h
      rintro _ ⟨x113, h, rfl⟩
      refine xretc ?_
      replace h := h.symm
      subst h
      exact xret1 hg rfl rfl (.refl _) (SubM.of (.nil _) (.nil _)) ⟨rfl, rfl, rfl⟩
end Go.Proofs.Ytncnfohhjbadgaa
