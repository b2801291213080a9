
/- What functions' texts ask for, and the walks that show it (printed by a program). -/
import Derived.Test.YtpddiffpanihdaaGKp8
namespace Go.Proofs.Ytpddiffpanihdaa
/-- palinodelaw08.awake -/
def palinodelaw08_awake_j1 (x34 : Bool) (r : Bool) : Prop :=
 r = x34
def palinodelaw08_awake_R (r : Bool) : Prop :=
 ∃ y3 : ((List (Int × Int × Int × Int × Int × Int × (Arr 4 (UInt64)))) × Int) × Int × Int, bre_Parse_R ([(97 : UInt8), (42 : UInt8)]) y3 ∧ ∃ y6 : ((List (Int × Int × Int × Int × Int × Int × (Arr 4 (UInt64)))) × Int) × Int × Int, bre_Parse_R ([(42 : UInt8), (97 : UInt8)]) y6 ∧ ∃ y9 : ((List (Int × Int × Int × Int × Int × Int × (Arr 4 (UInt64)))) × Int) × Int × Int, bre_Parse_R ([(92 : UInt8), (40 : UInt8), (97 : UInt8), (92 : UInt8), (41 : UInt8), (92 : UInt8), (49 : UInt8)]) y9 ∧ ∃ y12 : ((List (Int × Int × Int × Int × Int × Int × (Arr 4 (UInt64)))) × Int) × Int × Int, bre_Parse_R ([(97 : UInt8), (98 : UInt8), (92 : UInt8), (40 : UInt8)]) y12 ∧ ((y3.2.2 = 0 → (((y3.1.1.length : Int) = 2 → 0 ≤ (1 : Int) ∧ ∃ y40 : Int × Int × Int × Int × Int × Int × (Arr 4 (UInt64)), y3.1.1[(1 : Int).toNat]? = some y40 ∧ palinodelaw08_awake_j1 ((decide (y40.1 = 4)) && ((decide (y6.2.2 = 0)) && ((decide ((y6.1.1.length : Int) = 3)) && ((decide (y9.2.2 = 0)) && ((decide (y9.1.2 = 1)) && ((decide (y12.2.2 = 14)) && (decide (y12.2.1 = 4)))))))) r) ∧ (¬ ((y3.1.1.length : Int) = 2) → palinodelaw08_awake_j1 false r))) ∧ (¬ (y3.2.2 = 0) → palinodelaw08_awake_j1 false r))
def palinodelaw08_awake_j1_ev (fuel : Nat) (x34 : Bool) : Option (Bool) :=
 some x34
theorem palinodelaw08_awake_j1_ok {fuel : Nat} {x34 : Bool} {r : Bool} (h : palinodelaw08_awake_j1_ev fuel x34 = some r) : palinodelaw08_awake_j1 x34 r := by
 unfold palinodelaw08_awake_j1_ev at h
 unfold palinodelaw08_awake_j1
 exact (Option.some.inj h).symm
def palinodelaw08_awake_ev (fuel : Nat) : Option (Bool) :=
 ((bre_Parse_ev fuel ([(97 : UInt8), (42 : UInt8)])).bind fun y3 => ((bre_Parse_ev fuel ([(42 : UInt8), (97 : UInt8)])).bind fun y6 => ((bre_Parse_ev fuel ([(92 : UInt8), (40 : UInt8), (97 : UInt8), (92 : UInt8), (41 : UInt8), (92 : UInt8), (49 : UInt8)])).bind fun y9 => ((bre_Parse_ev fuel ([(97 : UInt8), (98 : UInt8), (92 : UInt8), (40 : UInt8)])).bind fun y12 => (if y3.2.2 = 0 then (if (y3.1.1.length : Int) = 2 then (if 0 ≤ (1 : Int) then ((y3.1.1[(1 : Int).toNat]?).bind fun y40 => palinodelaw08_awake_j1_ev fuel ((decide (y40.1 = 4)) && ((decide (y6.2.2 = 0)) && ((decide ((y6.1.1.length : Int) = 3)) && ((decide (y9.2.2 = 0)) && ((decide (y9.1.2 = 1)) && ((decide (y12.2.2 = 14)) && (decide (y12.2.1 = 4))))))))) else none) else palinodelaw08_awake_j1_ev fuel false) else palinodelaw08_awake_j1_ev fuel false)))))
theorem palinodelaw08_awake_ok {fuel : Nat} {r : Bool} (h : palinodelaw08_awake_ev fuel = some r) : palinodelaw08_awake_R r := by
 unfold palinodelaw08_awake_ev at h
 unfold palinodelaw08_awake_R
 obtain ⟨q430, g430, h⟩ := bind_ok h
 refine ⟨q430, bre_Parse_ok g430, ?_⟩
 obtain ⟨q431, g431, h⟩ := bind_ok h
 refine ⟨q431, bre_Parse_ok g431, ?_⟩
 obtain ⟨q432, g432, h⟩ := bind_ok h
 refine ⟨q432, bre_Parse_ok g432, ?_⟩
 obtain ⟨q433, g433, h⟩ := bind_ok h
 refine ⟨q433, bre_Parse_ok g433, ?_⟩
 refine ⟨fun g434 => ?_, fun g434 => ?_⟩
 ·rw [if_pos g434] at h
  refine ⟨fun g435 => ?_, fun g435 => ?_⟩
  ·rw [if_pos g435] at h
   obtain ⟨g436, h⟩ := if_ok h
   refine ⟨g436, ?_⟩
   obtain ⟨q437, g437, h⟩ := bind_ok h
   refine ⟨q437, g437, ?_⟩
   exact palinodelaw08_awake_j1_ok h
  ·rw [if_neg g435] at h
   exact palinodelaw08_awake_j1_ok h
 ·rw [if_neg g434] at h
  exact palinodelaw08_awake_j1_ok h
set_option maxHeartbeats 4000000 in
theorem palinodelaw08_awake_con (r : Bool) (h : palinodelaw08_awake_R r) : Con Try.prog 7 [] [] [] (Ret (.v (.bool r))) := by
 refine xenter Try.func7 rfl rfl fun g hg => ?_
 simp only [Try.ntmps7, slots]
 refine sr_ ?_
 refine as_ ?_
 refine nt_ ?_
 refine sr_ ?_
 refine xbuildSliceM (f := eb) [(97 : UInt8), (42 : UInt8)] UndC.h InfC.h rfl rfl wr_ rfl rfl rfl rfl fun s14 => ?_
 refine xmark 0 UndC.h UndC.h rfl rfl rfl rfl ?_
 obtain ⟨y3, h2, h⟩ := h
 refine xcallF (Fb := []) (Ft := []) (bre_Parse_con ([(97 : UInt8), (42 : UInt8)]) _ h2) Try.func8 (by kernel_rfl) rfl (.cons rfl (.refl _) .nil) (by exact sm_) rfl rfl ?_
 rintro _ _ _ ⟨rfl, rfl, rfl⟩
 simp only [List.nil_append, List.cons_append]
 refine mv_ ?_
 refine vp_ (pv_extract rfl rfl) ?_
 refine vp_ (pv_extract rfl rfl) ?_
 refine vp_ (pv_extract rfl rfl) ?_
 refine xalloc InfC.h rfl rfl fun b1 => ?_
 refine xstore 0 ShpC.h rfl rfl rfl rfl rfl rfl rfl ?_
 refine as_ ?_
 refine as_ ?_
 refine nt_ ?_
 refine sr_ ?_
 refine xbuildSliceM (f := eb) [(42 : UInt8), (97 : UInt8)] UndC.h InfC.h rfl rfl wr_ rfl rfl rfl rfl fun s21 => ?_
 refine xmark 0 UndC.h UndC.h rfl rfl rfl rfl ?_
 obtain ⟨y6, h5, h⟩ := h
 refine xcallF (Fb := [⟨b1, 26, [.sl 10 none (List.map E_palinode_api_Node y3.1.1), .v (.int .i64 y3.1.2)]⟩]) (Ft := []) (bre_Parse_con ([(42 : UInt8), (97 : UInt8)]) _ h5) Try.func8 (by kernel_rfl) rfl (.cons rfl (.refl _) .nil) (by exact sm_) rfl rfl ?_
 rintro _ _ _ ⟨rfl, rfl, rfl⟩
 simp only [List.nil_append, List.cons_append]
 refine mv_ ?_
 refine vp_ (pv_extract rfl rfl) ?_
 refine vp_ (pv_extract rfl rfl) ?_
 refine vp_ (pv_extract rfl rfl) ?_
 refine xalloc InfC.h rfl rfl fun b4 => ?_
 refine xstore 0 ShpC.h rfl rfl rfl rfl rfl rfl rfl ?_
 refine as_ ?_
 refine as_ ?_
 refine nt_ ?_
 refine sr_ ?_
 refine xbuildSliceM (f := eb) [(92 : UInt8), (40 : UInt8), (97 : UInt8), (92 : UInt8), (41 : UInt8), (92 : UInt8), (49 : UInt8)] UndC.h InfC.h rfl rfl wr_ rfl rfl rfl rfl fun s28 => ?_
 refine xmark 0 UndC.h UndC.h rfl rfl rfl rfl ?_
 obtain ⟨y9, h8, h⟩ := h
 refine xcallF (Fb := [⟨b4, 26, [.sl 10 none (List.map E_palinode_api_Node y6.1.1), .v (.int .i64 y6.1.2)]⟩, ⟨b1, 26, [.sl 10 none (List.map E_palinode_api_Node y3.1.1), .v (.int .i64 y3.1.2)]⟩]) (Ft := []) (bre_Parse_con ([(92 : UInt8), (40 : UInt8), (97 : UInt8), (92 : UInt8), (41 : UInt8), (92 : UInt8), (49 : UInt8)]) _ h8) Try.func8 (by kernel_rfl) rfl (.cons rfl (.refl _) .nil) (by exact sm_) rfl rfl ?_
 rintro _ _ _ ⟨rfl, rfl, rfl⟩
 simp only [List.nil_append, List.cons_append]
 refine mv_ ?_
 refine vp_ (pv_extract rfl rfl) ?_
 refine vp_ (pv_extract rfl rfl) ?_
 refine vp_ (pv_extract rfl rfl) ?_
 refine xalloc InfC.h rfl rfl fun b7 => ?_
 refine xstore 0 ShpC.h rfl rfl rfl rfl rfl rfl rfl ?_
 refine as_ ?_
 refine as_ ?_
 refine nt_ ?_
 refine sr_ ?_
 refine xbuildSliceM (f := eb) [(97 : UInt8), (98 : UInt8), (92 : UInt8), (40 : UInt8)] UndC.h InfC.h rfl rfl wr_ rfl rfl rfl rfl fun s35 => ?_
 refine xmark 0 UndC.h UndC.h rfl rfl rfl rfl ?_
 obtain ⟨y12, h11, h⟩ := h
 refine xcallF (Fb := [⟨b7, 26, [.sl 10 none (List.map E_palinode_api_Node y9.1.1), .v (.int .i64 y9.1.2)]⟩, ⟨b4, 26, [.sl 10 none (List.map E_palinode_api_Node y6.1.1), .v (.int .i64 y6.1.2)]⟩, ⟨b1, 26, [.sl 10 none (List.map E_palinode_api_Node y3.1.1), .v (.int .i64 y3.1.2)]⟩]) (Ft := []) (bre_Parse_con ([(97 : UInt8), (98 : UInt8), (92 : UInt8), (40 : UInt8)]) _ h11) Try.func8 (by kernel_rfl) rfl (.cons rfl (.refl _) .nil) (by exact sm_) rfl rfl ?_
 rintro _ _ _ ⟨rfl, rfl, rfl⟩
 simp only [List.nil_append, List.cons_append]
 refine mv_ ?_
 refine vp_ (pv_extract rfl rfl) ?_
 refine vp_ (pv_extract rfl rfl) ?_
 refine vp_ (pv_extract rfl rfl) ?_
 refine xalloc InfC.h rfl rfl fun b10 => ?_
 refine xstore 0 ShpC.h rfl rfl rfl rfl rfl rfl rfl ?_
 refine as_ ?_
 refine as_ ?_
 refine nt_ ?_
 refine xseqM (fun σ => ∃ (x34 : Bool), palinodelaw08_awake_j1 x34 r ∧ σ = ⟨[(0, .v (.bool x34))], [], []⟩) ?_ ?_
 ·refine xregion ?_
  refine mv_ ?_
  refine vp_ (pv_bin2 rfl rfl rfl) ?_
  refine mv_ ?_
  by_cases hp36 : y3.2.2 = 0
  ·replace h := h.1 hp36
   refine xsetB 43 (decide_eq_true hp36) rfl ?_
   refine vp_ (qv_fieldAddrB FldC.h rfl) ?_
   refine v_ (qv_loadB 3 ShpC.h rfl rfl rfl rfl) ?_
   refine vp_ (pv_lenM UndC.h rfl) ?_
   refine vp_ (pv_bin2 rfl rfl rfl) ?_
   refine pk_ ?_
   refine mv_ ?_
   by_cases hp39 : (y3.1.1.length : Int) = 2
   ·replace h := h.1 hp39
    refine xsetB 49 (decide_eq_true hp39) rfl ?_
    refine vp_ (qv_fieldAddrB FldC.h rfl) ?_
    refine v_ (qv_loadB 3 ShpC.h rfl rfl rfl rfl) ?_
    obtain ⟨h41a, h⟩ := h
    obtain ⟨y40, h41b, h⟩ := h
    refine vp_ (pv_indexAddrM h41a h41b UndC.h ShpC.h rfl rfl) ?_
    refine vp_ (qv_fieldAddrE FldC.h rfl) ?_
    refine v_ (qv_load ShpC.h rfl rfl rfl) ?_
    refine vp_ (pv_bin2 rfl rfl rfl) ?_
    refine pk_ ?_
    refine mv_ ?_
    by_cases hp43 : y40.1 = 4
    ·rw [and_tt (show (decide (y40.1 = 4)) = true from (decide_eq_true hp43))] at h
     refine xsetB 57 (decide_eq_true hp43) rfl ?_
     refine mv_ ?_
     refine vp_ (pv_bin2 rfl rfl rfl) ?_
     refine pk_ ?_
     refine mv_ ?_
     by_cases hp45 : y6.2.2 = 0
     ·rw [and_tt (show (decide (y6.2.2 = 0)) = true from (decide_eq_true hp45))] at h
      refine xsetB 61 (decide_eq_true hp45) rfl ?_
      refine vp_ (qv_fieldAddrB FldC.h rfl) ?_
      refine v_ (qv_loadB 2 ShpC.h rfl rfl rfl rfl) ?_
      refine vp_ (pv_lenM UndC.h rfl) ?_
      refine vp_ (pv_bin2 rfl rfl rfl) ?_
      refine pk_ ?_
      refine mv_ ?_
      by_cases hp48 : (y6.1.1.length : Int) = 3
      ·rw [and_tt (show (decide ((y6.1.1.length : Int) = 3)) = true from (decide_eq_true hp48))] at h
       refine xsetB 67 (decide_eq_true hp48) rfl ?_
       refine mv_ ?_
       refine vp_ (pv_bin2 rfl rfl rfl) ?_
       refine pk_ ?_
       refine mv_ ?_
       by_cases hp50 : y9.2.2 = 0
       ·rw [and_tt (show (decide (y9.2.2 = 0)) = true from (decide_eq_true hp50))] at h
        refine xsetB 71 (decide_eq_true hp50) rfl ?_
        refine vp_ (qv_fieldAddrB FldC.h rfl) ?_
        refine v_ (qv_loadB 1 ShpC.h rfl rfl rfl rfl) ?_
        refine vp_ (pv_bin2 rfl rfl rfl) ?_
        refine pk_ ?_
        refine mv_ ?_
        by_cases hp52 : y9.1.2 = 1
        ·rw [and_tt (show (decide (y9.1.2 = 1)) = true from (decide_eq_true hp52))] at h
         refine xsetB 76 (decide_eq_true hp52) rfl ?_
         refine mv_ ?_
         refine vp_ (pv_bin2 rfl rfl rfl) ?_
         refine pk_ ?_
         refine mv_ ?_
         by_cases hp54 : y12.2.2 = 14
         ·rw [and_tt (show (decide (y12.2.2 = 14)) = true from (decide_eq_true hp54))] at h
          refine xsetB 80 (decide_eq_true hp54) rfl ?_
          refine mv_ ?_
          refine vp_ (pv_bin2 rfl rfl rfl) ?_
          refine pk_ ?_
          refine as_ ?_
          refine xnil ?_
          exact xmeet ⟨(decide (y12.2.1 = 4)), h, rfl⟩ ⟨(.cons rfl (.refl _) (.nil _)), (SubM.of (.nil _) (.nil _))⟩
         ·rw [and_ff (show (decide (y12.2.2 = 14)) = false from (decide_eq_false hp54))] at h
          refine xsetB 80 (decide_eq_false hp54) rfl ?_
          refine sk_ ?_
          refine sk_ ?_
          refine pk_ ?_
          refine as_ ?_
          refine xnil ?_
          exact xmeet ⟨false, h, rfl⟩ ⟨(.cons rfl (.refl _) (.nil _)), (SubM.of (.nil _) (.nil _))⟩
        ·rw [and_ff (show (decide (y9.1.2 = 1)) = false from (decide_eq_false hp52))] at h
         refine xsetB 76 (decide_eq_false hp52) rfl ?_
         refine sk_ ?_
         refine sk_ ?_
         refine pk_ ?_
         refine mv_ ?_
         refine sk_ ?_
         refine sk_ ?_
         refine pk_ ?_
         refine as_ ?_
         refine xnil ?_
         exact xmeet ⟨false, h, rfl⟩ ⟨(.cons rfl (.refl _) (.nil _)), (SubM.of (.nil _) (.nil _))⟩
       ·rw [and_ff (show (decide (y9.2.2 = 0)) = false from (decide_eq_false hp50))] at h
        refine xsetB 71 (decide_eq_false hp50) rfl ?_
        refine sk_ ?_
        refine sk_ ?_
        refine sk_ ?_
        refine pk_ ?_
        refine mv_ ?_
        refine sk_ ?_
        refine sk_ ?_
        refine pk_ ?_
        refine mv_ ?_
        refine sk_ ?_
        refine sk_ ?_
        refine pk_ ?_
        refine as_ ?_
        refine xnil ?_
        exact xmeet ⟨false, h, rfl⟩ ⟨(.cons rfl (.refl _) (.nil _)), (SubM.of (.nil _) (.nil _))⟩
      ·rw [and_ff (show (decide ((y6.1.1.length : Int) = 3)) = false from (decide_eq_false hp48))] at h
       refine xsetB 67 (decide_eq_false hp48) rfl ?_
       refine sk_ ?_
       refine sk_ ?_
       refine pk_ ?_
       refine mv_ ?_
       refine sk_ ?_
       refine sk_ ?_
       refine sk_ ?_
       refine pk_ ?_
       refine mv_ ?_
       refine sk_ ?_
       refine sk_ ?_
       refine pk_ ?_
       refine mv_ ?_
       refine sk_ ?_
       refine sk_ ?_
       refine pk_ ?_
       refine as_ ?_
       refine xnil ?_
       exact xmeet ⟨false, h, rfl⟩ ⟨(.cons rfl (.refl _) (.nil _)), (SubM.of (.nil _) (.nil _))⟩
     ·rw [and_ff (show (decide (y6.2.2 = 0)) = false from (decide_eq_false hp45))] at h
      refine xsetB 61 (decide_eq_false hp45) rfl ?_
      refine sk_ ?_
      refine sk_ ?_
      refine sk_ ?_
      refine sk_ ?_
      refine pk_ ?_
      refine mv_ ?_
      refine sk_ ?_
      refine sk_ ?_
      refine pk_ ?_
      refine mv_ ?_
      refine sk_ ?_
      refine sk_ ?_
      refine sk_ ?_
      refine pk_ ?_
      refine mv_ ?_
      refine sk_ ?_
      refine sk_ ?_
      refine pk_ ?_
      refine mv_ ?_
      refine sk_ ?_
      refine sk_ ?_
      refine pk_ ?_
      refine as_ ?_
      refine xnil ?_
      exact xmeet ⟨false, h, rfl⟩ ⟨(.cons rfl (.refl _) (.nil _)), (SubM.of (.nil _) (.nil _))⟩
    ·rw [and_ff (show (decide (y40.1 = 4)) = false from (decide_eq_false hp43))] at h
     refine xsetB 57 (decide_eq_false hp43) rfl ?_
     refine sk_ ?_
     refine sk_ ?_
     refine pk_ ?_
     refine mv_ ?_
     refine sk_ ?_
     refine sk_ ?_
     refine sk_ ?_
     refine sk_ ?_
     refine pk_ ?_
     refine mv_ ?_
     refine sk_ ?_
     refine sk_ ?_
     refine pk_ ?_
     refine mv_ ?_
     refine sk_ ?_
     refine sk_ ?_
     refine sk_ ?_
     refine pk_ ?_
     refine mv_ ?_
     refine sk_ ?_
     refine sk_ ?_
     refine pk_ ?_
     refine mv_ ?_
     refine sk_ ?_
     refine sk_ ?_
     refine pk_ ?_
     refine as_ ?_
     refine xnil ?_
     exact xmeet ⟨false, h, rfl⟩ ⟨(.cons rfl (.refl _) (.nil _)), (SubM.of (.nil _) (.nil _))⟩
   ·replace h := h.2 hp39
    refine xsetB 49 (decide_eq_false hp39) rfl ?_
    refine sk_ ?_
    refine sk_ ?_
    refine sk_ ?_
    refine sk_ ?_
    refine sk_ ?_
    refine sk_ ?_
    refine pk_ ?_
    refine mv_ ?_
    refine sk_ ?_
    refine sk_ ?_
    refine pk_ ?_
    refine mv_ ?_
    refine sk_ ?_
    refine sk_ ?_
    refine sk_ ?_
    refine sk_ ?_
    refine pk_ ?_
    refine mv_ ?_
    refine sk_ ?_
    refine sk_ ?_
    refine pk_ ?_
    refine mv_ ?_
    refine sk_ ?_
    refine sk_ ?_
    refine sk_ ?_
    refine pk_ ?_
    refine mv_ ?_
    refine sk_ ?_
    refine sk_ ?_
    refine pk_ ?_
    refine mv_ ?_
    refine sk_ ?_
    refine sk_ ?_
    refine pk_ ?_
    refine as_ ?_
    refine xnil ?_
    exact xmeet ⟨false, h, rfl⟩ ⟨(.cons rfl (.refl _) (.nil _)), (SubM.of (.nil _) (.nil _))⟩
  ·replace h := h.2 hp36
   refine xsetB 43 (decide_eq_false hp36) rfl ?_
   refine sk_ ?_
   refine sk_ ?_
   refine sk_ ?_
   refine sk_ ?_
   refine pk_ ?_
   refine mv_ ?_
   refine sk_ ?_
   refine sk_ ?_
   refine sk_ ?_
   refine sk_ ?_
   refine sk_ ?_
   refine sk_ ?_
   refine pk_ ?_
   refine mv_ ?_
   refine sk_ ?_
   refine sk_ ?_
   refine pk_ ?_
   refine mv_ ?_
   refine sk_ ?_
   refine sk_ ?_
   refine sk_ ?_
   refine sk_ ?_
   refine pk_ ?_
   refine mv_ ?_
   refine sk_ ?_
   refine sk_ ?_
   refine pk_ ?_
   refine mv_ ?_
   refine sk_ ?_
   refine sk_ ?_
   refine sk_ ?_
   refine pk_ ?_
   refine mv_ ?_
   refine sk_ ?_
   refine sk_ ?_
   refine pk_ ?_
   refine mv_ ?_
   refine sk_ ?_
   refine sk_ ?_
   refine pk_ ?_
   refine as_ ?_
   refine xnil ?_
   exact xmeet ⟨false, h, rfl⟩ ⟨(.cons rfl (.refl _) (.nil _)), (SubM.of (.nil _) (.nil _))⟩
 ·clear h
  rintro _ ⟨x34, h, rfl⟩
  refine xretc ?_
  replace h := h.symm
  subst h
  exact xret1 hg rfl rfl (.refl _) (SubM.of (.nil _) (.nil _)) ⟨rfl, rfl, rfl⟩
end Go.Proofs.Ytpddiffpanihdaa
