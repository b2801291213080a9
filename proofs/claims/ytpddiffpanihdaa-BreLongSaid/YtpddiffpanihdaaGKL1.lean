
/- What functions' texts ask for, and the walks that show it (printed by a program). -/
import Derived.Test.YtpddiffpanihdaaGK
namespace Go.Proofs.Ytpddiffpanihdaa
/-- palinodelaw08.BreLong -/
def palinodelaw08_BreLong_j3 (x151 : Bool) (r : Bool) : Prop :=
 r = x151
def palinodelaw08_BreLong_j4 (x172 : Bool) (r : Bool) : Prop :=
 r = x172
def palinodelaw08_BreLong_l2 (z56 : Int) (x1 : UInt8) (ag2 : (Int × (List UInt8)) → Prop) (x95 : Int) (l96 : List UInt8) (r : Bool) : Prop :=
 ((x95 < (1 + ((z56 : Int).tmod (700))) → 0 ≤ (x95 : Int) ∧ ∃ y109 : UInt8, l96[(x95 : Int).toNat]? = some y109 ∧ InR (x95 + 1) ∧ ag2 ((x95 + 1), (l96.set (x95 : Int).toNat x1))) ∧ (¬ (x95 < (1 + ((z56 : Int).tmod (700)))) → ∃ y114 : ((List (Int × Int × Int × Int × Int × Int × (Arr 4 (UInt64)))) × Int) × Int × Int, bre_Parse_R l96 y114 ∧ InR (2 * (1 + ((z56 : Int).tmod (700)))) ∧ InR ((2 * (1 + ((z56 : Int).tmod (700)))) - 1) ∧ ((1000 < ((2 * (1 + ((z56 : Int).tmod (700)))) - 1) → ((y114.2.2 = 8 → ((y114.2.1 = (1 + ((z56 : Int).tmod (700))) → (((y114.1.1.length : Int) = 0 → ∃ y160 : Bool, palinodelaw08_awake_R y160 ∧ palinodelaw08_BreLong_j3 y160 r) ∧ (¬ ((y114.1.1.length : Int) = 0) → palinodelaw08_BreLong_j3 false r))) ∧ (¬ (y114.2.1 = (1 + ((z56 : Int).tmod (700)))) → palinodelaw08_BreLong_j3 false r))) ∧ (¬ (y114.2.2 = 8) → palinodelaw08_BreLong_j3 false r))) ∧ (¬ (1000 < ((2 * (1 + ((z56 : Int).tmod (700)))) - 1)) → ((y114.2.2 = 0 → InR (2 * (1 + ((z56 : Int).tmod (700)))) ∧ InR ((2 * (1 + ((z56 : Int).tmod (700)))) - 1) ∧ (((y114.1.1.length : Int) = ((2 * (1 + ((z56 : Int).tmod (700)))) - 1) → ((y114.1.2 = 0 → ∃ y183 : Bool, palinodelaw08_awake_R y183 ∧ palinodelaw08_BreLong_j4 y183 r) ∧ (¬ (y114.1.2 = 0) → palinodelaw08_BreLong_j4 false r))) ∧ (¬ ((y114.1.1.length : Int) = ((2 * (1 + ((z56 : Int).tmod (700)))) - 1)) → palinodelaw08_BreLong_j4 false r))) ∧ (¬ (y114.2.2 = 0) → palinodelaw08_BreLong_j4 false r))))))
def palinodelaw08_BreLong_j1 (x2 : UInt16) (x1 : UInt8) (x40 : Bool) (r : Bool) : Prop :=
 ((x40 = true → ∃ y54 : Bool, palinodelaw08_awake_R y54 ∧ r = y54) ∧ (¬ (x40 = true) → ∃ z56 : Int, z56 = IntKind.i64.wrap ((x2.toNat : Int)) ∧ (700 : Int) ≠ 0 ∧ InR (1 + ((z56 : Int).tmod (700))) ∧ MakeOk ((1 + ((z56 : Int).tmod (700)))) ((1 + ((z56 : Int).tmod (700)))) 1 ∧ LoopR (fun ag2 s => palinodelaw08_BreLong_l2 z56 x1 ag2 s.1 s.2 r) (0, (List.replicate ((1 + ((z56 : Int).tmod (700))) : Int).toNat (0 : UInt8)))))
def palinodelaw08_BreLong_R (x1 : UInt8) (x2 : UInt16) (r : Bool) : Prop :=
 palinodelaw08_BreLong_j1 x2 x1 ((decide ((x1.toNat : Int) = 92)) || ((decide ((x1.toNat : Int) = 91)) || ((decide ((x1.toNat : Int) = 42)) || ((decide ((x1.toNat : Int) = 36)) || ((decide ((x1.toNat : Int) = 94)) || (decide ((x1.toNat : Int) = 46))))))) r
set_option maxHeartbeats 4000000 in
theorem palinodelaw08_BreLong_con (x1 : UInt8) (x2 : UInt16) (r : Bool) (h : palinodelaw08_BreLong_R x1 x2 r) : Con Try.prog 4 [.v (.int .u8 ((x1.toNat : Int))), .v (.int .u16 ((x2.toNat : Int)))] [] [] (Ret (.v (.bool r))) := by
 refine xenter Try.func4 rfl rfl fun g hg => ?_
 simp only [Try.ntmps4, slots]
 unfold palinodelaw08_BreLong_R at h
 refine sr_ ?_
 refine as_ ?_
 refine nt_ ?_
 refine xseq ?_
 refine xseqM (fun σ => ∃ (x40 : Bool), palinodelaw08_BreLong_j1 x2 x1 x40 r ∧ σ = ⟨[(0, .v (.int .u8 ((x1.toNat : Int)))), (1, .v (.int .u16 ((x2.toNat : Int)))), (32, .v (.bool x40))], [], []⟩) ?_ ?_
 ·refine xregion ?_
  refine mv_ ?_
  refine vp_ (pv_bin2 rfl rfl rfl) ?_
  refine mv_ ?_
  by_cases hp42 : (x1.toNat : Int) = 92
  ·rw [or_tt (show (decide ((x1.toNat : Int) = 92)) = true from (decide_eq_true hp42))] at h
   refine xsetB 13 (decide_eq_true hp42) rfl ?_
   refine sk_ ?_
   refine sk_ ?_
   refine pk_ ?_
   refine mv_ ?_
   refine sk_ ?_
   refine sk_ ?_
   refine pk_ ?_
   refine mv_ ?_
   refine sk_ ?_
   refine sk_ ?_
   refine pk_ ?_
   refine mv_ ?_
   refine sk_ ?_
   refine sk_ ?_
   refine pk_ ?_
   refine mv_ ?_
   refine sk_ ?_
   refine sk_ ?_
   refine pk_ ?_
   refine xnil ?_
   exact xmeet ⟨true, h, rfl⟩ ⟨lk_, (SubM.of (.nil _) (.nil _))⟩
  ·rw [or_ff (show (decide ((x1.toNat : Int) = 92)) = false from (decide_eq_false hp42))] at h
   refine xsetB 13 (decide_eq_false hp42) rfl ?_
   refine mv_ ?_
   refine vp_ (pv_bin2 rfl rfl rfl) ?_
   refine pk_ ?_
   refine mv_ ?_
   by_cases hp44 : (x1.toNat : Int) = 91
   ·rw [or_tt (show (decide ((x1.toNat : Int) = 91)) = true from (decide_eq_true hp44))] at h
    refine xsetB 17 (decide_eq_true hp44) rfl ?_
    refine sk_ ?_
    refine sk_ ?_
    refine pk_ ?_
    refine mv_ ?_
    refine sk_ ?_
    refine sk_ ?_
    refine pk_ ?_
    refine mv_ ?_
    refine sk_ ?_
    refine sk_ ?_
    refine pk_ ?_
    refine mv_ ?_
    refine sk_ ?_
    refine sk_ ?_
    refine pk_ ?_
    refine xnil ?_
    exact xmeet ⟨true, h, rfl⟩ ⟨lk_, (SubM.of (.nil _) (.nil _))⟩
   ·rw [or_ff (show (decide ((x1.toNat : Int) = 91)) = false from (decide_eq_false hp44))] at h
    refine xsetB 17 (decide_eq_false hp44) rfl ?_
    refine mv_ ?_
    refine vp_ (pv_bin2 rfl rfl rfl) ?_
    refine pk_ ?_
    refine mv_ ?_
    by_cases hp46 : (x1.toNat : Int) = 42
    ·rw [or_tt (show (decide ((x1.toNat : Int) = 42)) = true from (decide_eq_true hp46))] at h
     refine xsetB 21 (decide_eq_true hp46) rfl ?_
     refine sk_ ?_
     refine sk_ ?_
     refine pk_ ?_
     refine mv_ ?_
     refine sk_ ?_
     refine sk_ ?_
     refine pk_ ?_
     refine mv_ ?_
     refine sk_ ?_
     refine sk_ ?_
     refine pk_ ?_
     refine xnil ?_
     exact xmeet ⟨true, h, rfl⟩ ⟨lk_, (SubM.of (.nil _) (.nil _))⟩
    ·rw [or_ff (show (decide ((x1.toNat : Int) = 42)) = false from (decide_eq_false hp46))] at h
     refine xsetB 21 (decide_eq_false hp46) rfl ?_
     refine mv_ ?_
     refine vp_ (pv_bin2 rfl rfl rfl) ?_
     refine pk_ ?_
     refine mv_ ?_
     by_cases hp48 : (x1.toNat : Int) = 36
     ·rw [or_tt (show (decide ((x1.toNat : Int) = 36)) = true from (decide_eq_true hp48))] at h
      refine xsetB 25 (decide_eq_true hp48) rfl ?_
      refine sk_ ?_
      refine sk_ ?_
      refine pk_ ?_
      refine mv_ ?_
      refine sk_ ?_
      refine sk_ ?_
      refine pk_ ?_
      refine xnil ?_
      exact xmeet ⟨true, h, rfl⟩ ⟨lk_, (SubM.of (.nil _) (.nil _))⟩
     ·rw [or_ff (show (decide ((x1.toNat : Int) = 36)) = false from (decide_eq_false hp48))] at h
      refine xsetB 25 (decide_eq_false hp48) rfl ?_
      refine mv_ ?_
      refine vp_ (pv_bin2 rfl rfl rfl) ?_
      refine pk_ ?_
      refine mv_ ?_
      by_cases hp50 : (x1.toNat : Int) = 94
      ·rw [or_tt (show (decide ((x1.toNat : Int) = 94)) = true from (decide_eq_true hp50))] at h
       refine xsetB 29 (decide_eq_true hp50) rfl ?_
       refine sk_ ?_
       refine sk_ ?_
       refine pk_ ?_
       refine xnil ?_
       exact xmeet ⟨true, h, rfl⟩ ⟨lk_, (SubM.of (.nil _) (.nil _))⟩
      ·rw [or_ff (show (decide ((x1.toNat : Int) = 94)) = false from (decide_eq_false hp50))] at h
       refine xsetB 29 (decide_eq_false hp50) rfl ?_
       refine mv_ ?_
       refine vp_ (pv_bin2 rfl rfl rfl) ?_
       refine pk_ ?_
       refine xnil ?_
       exact xmeet ⟨(decide ((x1.toNat : Int) = 46)), h, rfl⟩ ⟨lk_, (SubM.of (.nil _) (.nil _))⟩
 ·clear h
  rintro _ ⟨x40, h, rfl⟩
  by_cases hp52 : x40 = true
  ·replace h := h.1 hp52
   refine xcondT' hp52 rfl ?_
   refine sr_ ?_
   obtain ⟨y54, h53, h⟩ := h
   refine xcall0 (palinodelaw08_awake_con _ h53) Try.func7 (by kernel_rfl) rfl .nil rfl rfl ?_
   refine as_ ?_
   refine nt_ ?_
   refine xretc ?_
   refine xthen_ret ?_
   replace h := h.symm
   subst h
   exact xret1 hg rfl rfl (.refl _) (SubM.of (.nil _) (.nil _)) ⟨rfl, rfl, rfl⟩
  ·replace h := h.2 hp52
   refine xcondF' (b_f hp52) rfl ?_
   refine xskipc ?_
   refine xthen ?_
   refine sr_ ?_
   refine mv_ ?_
   obtain ⟨z56, h55, h⟩ := h
   refine vp_ (pv_convW h55 UndC.h UndC.h rfl) ?_
   obtain ⟨h57, h⟩ := h
   refine vp_ (pv_remW h57 rfl rfl rfl rfl) ?_
   obtain ⟨h58, h⟩ := h
   refine vp_ (pv_addI h58 rfl rfl) ?_
   refine as_ ?_
   refine nt_ ?_
   refine sr_ ?_
   refine mv_ ?_
   obtain ⟨h59, h⟩ := h
   refine xmakeRb (f := eb) (0 : UInt8) h59 UndC.h InfC.h (.refl _) rfl rfl rfl rfl fun i60 => ?_
   refine as_ ?_
   refine nt_ ?_
   refine xseq ?_
   refine sr_ ?_
   refine as_ ?_
   refine nt_ ?_
   refine xblock ?_
   obtain ⟨Inv, ⟨m0, hI⟩, hS⟩ := h
   refine xloop (fun σ m => ∃ (x95 : Int), ∃ (l96 : List UInt8), Inv (x95, l96) m ∧ σ = ⟨[(0, .v (.int .u8 ((x1.toNat : Int)))), (5, .v (.int .i64 ((1 + ((z56 : Int).tmod (700)))))), (6, .rb i60 l96.length), (7, .v (.int .i64 x95))], [rbx i60 5 1 (List.map eb l96)], []⟩) ⟨0, (List.replicate ((1 + ((z56 : Int).tmod (700))) : Int).toNat (0 : UInt8)), hI, rfl⟩ (by exact ⟨(.cons rfl (.refl _) (.cons rfl (.refl _) (.cons rfl (.eq (by first | rfl | simp)) (.cons rfl (.refl _) (.nil _))))), by exact (SubM.of (.keep rfl rfl (.refl _) (.nil _)) (.nil _))⟩) ?_
   rintro _ m ⟨x95, l96, hI, rfl⟩
   obtain ⟨ag2, hag2, h⟩ : ∃ ag, (∀ s', ag s' → ∃ m', m' < m ∧ Inv s' m') ∧ palinodelaw08_BreLong_l2 z56 x1 ag x95 l96 r := ⟨_, fun _ h => h, hS (x95, l96) _ hI⟩
   clear hS hI
   refine xseq ?_
   refine sr_ ?_
   refine mv_ ?_
   refine mv_ ?_
   refine vp_ (pv_bin2 rfl rfl rfl) ?_
   refine nt_ ?_
   by_cases hp108 : x95 < (1 + ((z56 : Int).tmod (700)))
   ·replace h := h.1 hp108
    refine xcondT' (decide_eq_true hp108) rfl ?_
    refine xskipc ?_
    refine xthen ?_
    refine xseq ?_
    refine xblock ?_
    refine xregion ?_
    refine mv_ ?_
    refine mv_ ?_
    refine mv_ ?_
    obtain ⟨h110a, h⟩ := h
    obtain ⟨y109, h110b, h⟩ := h
    refine vp_ (pv_indexAddrRbM rfl h110a h110b UndC.h ShpC.h rfl rfl) ?_
    refine xstoreRb (f := eb) (k := 1) (off := 0) (i := (x95 : Int).toNat) 0 x1 h110b rfl (by decide) ShpC.h rfl rfl rfl rfl sl_ (.refl _) rfl ?_
    refine xnil ?_
    refine xin_normal ?_
    refine xthen ?_
    refine xregion ?_
    refine mv_ ?_
    obtain ⟨h112, h⟩ := h
    refine vp_ (pv_addI h112 rfl rfl) ?_
    refine as_ ?_
    refine xnil ?_
    obtain ⟨m', hm, hI⟩ := hag2 _ h
    exact xagain ⟨(x95 + 1), (l96.set (x95 : Int).toNat x1), hI, rfl⟩ hm ⟨(.cons rfl (.refl _) (.cons rfl (.refl _) (.cons rfl (.eq (by first | rfl | simp)) (.cons rfl (.refl _) (.nil _))))), by exact (SubM.of (.keep rfl rfl (.refl _) (.nil _)) (.nil _))⟩
   ·replace h := h.2 hp108
    refine xcondF' (decide_eq_false hp108) rfl ?_
    refine xexit ?_
    refine xthen_exit ?_
    refine xthen_exit ?_
    refine xin_same rfl ?_
    refine xthen ?_
    refine sr_ ?_
    refine mv_ ?_
    refine xfreezeL (f := eb) 0 50 rfl rfl rfl rfl ?_
    obtain ⟨y114, h113, h⟩ := h
    refine xcallF (Fb := []) (Ft := []) (bre_Parse_con l96 _ h113) Try.func8 (by kernel_rfl) rfl (.cons rfl (.refl _) .nil) (by exact sm_) rfl rfl ?_
    rintro _ _ _ ⟨rfl, rfl, rfl⟩
    simp only [List.nil_append, List.cons_append]
    refine mv_ ?_
    refine vp_ (pv_extract rfl rfl) ?_
    refine vp_ (pv_extract rfl rfl) ?_
    refine vp_ (pv_extract rfl rfl) ?_
    refine xalloc InfC.h rfl rfl fun b8 => ?_
    refine xstore 0 ShpC.h rfl rfl rfl rfl rfl rfl rfl ?_
    refine as_ ?_
    refine as_ ?_
    refine nt_ ?_
    refine xseq ?_
    refine sr_ ?_
    refine mv_ ?_
    obtain ⟨h138, h⟩ := h
    refine vp_ (pv_mulI h138 rfl rfl) ?_
    obtain ⟨h139, h⟩ := h
    refine vp_ (pv_subI h139 rfl rfl) ?_
    refine vp_ (pv_bin2 rfl rfl rfl) ?_
    refine nt_ ?_
    by_cases hp141 : 1000 < ((2 * (1 + ((z56 : Int).tmod (700)))) - 1)
    ·replace h := h.1 hp141
     refine xcondT' (decide_eq_true hp141) rfl ?_
     refine xseqM (fun σ => ∃ (x151 : Bool), palinodelaw08_BreLong_j3 x151 r ∧ σ = ⟨[(4, .v (.bool x151))], [], []⟩) ?_ ?_
     ·refine xregion ?_
      refine mv_ ?_
      refine vp_ (pv_bin2 rfl rfl rfl) ?_
      refine mv_ ?_
      by_cases hp153 : y114.2.2 = 8
      ·replace h := h.1 hp153
       refine xsetB 61 (decide_eq_true hp153) rfl ?_
       refine mv_ ?_
       refine mv_ ?_
       refine vp_ (pv_bin2 rfl rfl rfl) ?_
       refine pk_ ?_
       refine mv_ ?_
       by_cases hp155 : y114.2.1 = (1 + ((z56 : Int).tmod (700)))
       ·replace h := h.1 hp155
        refine xsetB 66 (decide_eq_true hp155) rfl ?_
        refine vp_ (qv_fieldAddrB FldC.h rfl) ?_
        refine v_ (qv_loadB 0 ShpC.h rfl rfl rfl rfl) ?_
        refine vp_ (pv_lenM UndC.h rfl) ?_
        refine vp_ (pv_bin2 rfl rfl rfl) ?_
        refine pk_ ?_
        refine mv_ ?_
        by_cases hp158 : (y114.1.1.length : Int) = 0
        ·replace h := h.1 hp158
         refine xsetB 72 (decide_eq_true hp158) rfl ?_
         obtain ⟨y160, h159, h⟩ := h
         refine xcall0 (palinodelaw08_awake_con _ h159) Try.func7 (by kernel_rfl) rfl .nil rfl rfl ?_
         refine pk_ ?_
         refine as_ ?_
         refine xnil ?_
         exact xmeet ⟨y160, h, rfl⟩ ⟨(.cons rfl (.refl _) (.nil _)), (SubM.of (.nil _) (.nil _))⟩
        ·replace h := h.2 hp158
         refine xsetB 72 (decide_eq_false hp158) rfl ?_
         refine sk_ ?_
         refine pk_ ?_
         refine as_ ?_
         refine xnil ?_
         exact xmeet ⟨false, h, rfl⟩ ⟨(.cons rfl (.refl _) (.nil _)), (SubM.of (.nil _) (.nil _))⟩
       ·replace h := h.2 hp155
        refine xsetB 66 (decide_eq_false hp155) rfl ?_
        refine sk_ ?_
        refine sk_ ?_
        refine sk_ ?_
        refine sk_ ?_
        refine pk_ ?_
        refine mv_ ?_
        refine sk_ ?_
        refine pk_ ?_
        refine as_ ?_
        refine xnil ?_
        exact xmeet ⟨false, h, rfl⟩ ⟨(.cons rfl (.refl _) (.nil _)), (SubM.of (.nil _) (.nil _))⟩
      ·replace h := h.2 hp153
       refine xsetB 61 (decide_eq_false hp153) rfl ?_
       refine sk_ ?_
       refine sk_ ?_
       refine sk_ ?_
       refine pk_ ?_
       refine mv_ ?_
       refine sk_ ?_
       refine sk_ ?_
       refine sk_ ?_
       refine sk_ ?_
       refine pk_ ?_
       refine mv_ ?_
       refine sk_ ?_
       refine pk_ ?_
       refine as_ ?_
       refine xnil ?_
       exact xmeet ⟨false, h, rfl⟩ ⟨(.cons rfl (.refl _) (.nil _)), (SubM.of (.nil _) (.nil _))⟩
     ·clear h
      rintro _ ⟨x151, h, rfl⟩
      refine xretc ?_
      refine xthen_ret ?_
      replace h := h.symm
      subst h
      exact xret1 hg rfl rfl (.refl _) (SubM.of (.nil _) (.nil _)) ⟨rfl, rfl, rfl⟩
    ·replace h := h.2 hp141
     refine xcondF' (decide_eq_false hp141) rfl ?_
     refine xskipc ?_
     refine xthen ?_
     refine xseqM (fun σ => ∃ (x172 : Bool), palinodelaw08_BreLong_j4 x172 r ∧ σ = ⟨[(4, .v (.bool x172))], [], []⟩) ?_ ?_
     ·refine xregion ?_
      refine mv_ ?_
      refine vp_ (pv_bin2 rfl rfl rfl) ?_
      refine mv_ ?_
      by_cases hp174 : y114.2.2 = 0
      ·replace h := h.1 hp174
       refine xsetB 77 (decide_eq_true hp174) rfl ?_
       refine vp_ (qv_fieldAddrB FldC.h rfl) ?_
       refine v_ (qv_loadB 0 ShpC.h rfl rfl rfl rfl) ?_
       refine vp_ (pv_lenM UndC.h rfl) ?_
       refine mv_ ?_
       obtain ⟨h176, h⟩ := h
       refine vp_ (pv_mulI h176 rfl rfl) ?_
       obtain ⟨h177, h⟩ := h
       refine vp_ (pv_subI h177 rfl rfl) ?_
       refine vp_ (pv_bin2 rfl rfl rfl) ?_
       refine pk_ ?_
       refine mv_ ?_
       by_cases hp179 : (y114.1.1.length : Int) = ((2 * (1 + ((z56 : Int).tmod (700)))) - 1)
       ·replace h := h.1 hp179
        refine xsetB 86 (decide_eq_true hp179) rfl ?_
        refine vp_ (qv_fieldAddrB FldC.h rfl) ?_
        refine v_ (qv_loadB 0 ShpC.h rfl rfl rfl rfl) ?_
        refine vp_ (pv_bin2 rfl rfl rfl) ?_
        refine pk_ ?_
        refine mv_ ?_
        by_cases hp181 : y114.1.2 = 0
        ·replace h := h.1 hp181
         refine xsetB 91 (decide_eq_true hp181) rfl ?_
         obtain ⟨y183, h182, h⟩ := h
         refine xcall0 (palinodelaw08_awake_con _ h182) Try.func7 (by kernel_rfl) rfl .nil rfl rfl ?_
         refine pk_ ?_
         refine as_ ?_
         refine xnil ?_
         exact xmeet ⟨y183, h, rfl⟩ ⟨(.cons rfl (.refl _) (.nil _)), (SubM.of (.nil _) (.nil _))⟩
        ·replace h := h.2 hp181
         refine xsetB 91 (decide_eq_false hp181) rfl ?_
         refine sk_ ?_
         refine pk_ ?_
         refine as_ ?_
         refine xnil ?_
         exact xmeet ⟨false, h, rfl⟩ ⟨(.cons rfl (.refl _) (.nil _)), (SubM.of (.nil _) (.nil _))⟩
       ·replace h := h.2 hp179
        refine xsetB 86 (decide_eq_false hp179) rfl ?_
        refine sk_ ?_
        refine sk_ ?_
        refine sk_ ?_
        refine pk_ ?_
        refine mv_ ?_
        refine sk_ ?_
        refine pk_ ?_
        refine as_ ?_
        refine xnil ?_
        exact xmeet ⟨false, h, rfl⟩ ⟨(.cons rfl (.refl _) (.nil _)), (SubM.of (.nil _) (.nil _))⟩
      ·replace h := h.2 hp174
       refine xsetB 77 (decide_eq_false hp174) rfl ?_
       refine sk_ ?_
       refine sk_ ?_
       refine sk_ ?_
       refine sk_ ?_
       refine sk_ ?_
       refine sk_ ?_
       refine sk_ ?_
       refine pk_ ?_
       refine mv_ ?_
       refine sk_ ?_
       refine sk_ ?_
       refine sk_ ?_
       refine pk_ ?_
       refine mv_ ?_
       refine sk_ ?_
       refine pk_ ?_
       refine as_ ?_
       refine xnil ?_
       exact xmeet ⟨false, h, rfl⟩ ⟨(.cons rfl (.refl _) (.nil _)), (SubM.of (.nil _) (.nil _))⟩
     ·clear h
      rintro _ ⟨x172, h, rfl⟩
      refine xretc ?_
      replace h := h.symm
      subst h
      exact xret1 hg rfl rfl (.refl _) (SubM.of (.nil _) (.nil _)) ⟨rfl, rfl, rfl⟩
end Go.Proofs.Ytpddiffpanihdaa
