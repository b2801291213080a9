
/- What functions' texts ask for, and the walks that show it (printed by a program). -/
import Derived.Test.YtncnfohhjbadgaaGKp8
namespace Go.Proofs.Ytncnfohhjbadgaa
/-- palinoderef06.may -/
def palinoderef06_may_j6 (x354 : Bool) (r : Bool) : Prop :=
 r = x354
def palinoderef06_may_j5 (x1 : Int × Int × Int × Int × Int × Int × (Arr 4 (UInt64))) (x304 : Bool) (r : Bool) : Prop :=
 ((x304 = true → r = false) ∧ (¬ (x304 = true) → ((¬ (x1.1 = 4) → ((x1.2.2.2.1 = 0 → r = (decide (x1.2.2.2.2.1 = 0))) ∧ (¬ (x1.2.2.2.1 = 0) → r = false))) ∧ (¬ (¬ (x1.1 = 4)) → palinoderef06_may_j6 ((decide (0 ≤ x1.2.2.2.1)) && ((decide (x1.2.2.2.1 ≤ 255)) && ((decide (x1.2.2.2.2.1 = (-1))) || ((decide (x1.2.2.2.1 ≤ x1.2.2.2.2.1)) && (decide (x1.2.2.2.2.1 ≤ 255)))))) r))))
def palinoderef06_may_j4 (x1 : Int × Int × Int × Int × Int × Int × (Arr 4 (UInt64))) (x21 : Bool) (x3 : Int) (x180 : Bool) (r : Bool) : Prop :=
 ((x180 = true → r = false) ∧ (¬ (x180 = true) → palinoderef06_may_j5 x1 (bif x21 then ((decide (x1.2.2.2.2.2.1 < 1)) || ((decide (x3 < x1.2.2.2.2.2.1)) || (bif (!x21) then ((!(decide (x1.2.2.2.2.2.1 = 0))) || ((!(decide (x1.1 = 1))) && (!(decide ((x1.2.2.2.2.2.2 : Arr 4 (UInt64)) = (Arr.rep 4 (0 : UInt64))))))) else ((!(decide (x1.1 = 1))) && (!(decide ((x1.2.2.2.2.2.2 : Arr 4 (UInt64)) = (Arr.rep 4 (0 : UInt64))))))))) else (bif (!x21) then ((!(decide (x1.2.2.2.2.2.1 = 0))) || ((!(decide (x1.1 = 1))) && (!(decide ((x1.2.2.2.2.2.2 : Arr 4 (UInt64)) = (Arr.rep 4 (0 : UInt64))))))) else ((!(decide (x1.1 = 1))) && (!(decide ((x1.2.2.2.2.2.2 : Arr 4 (UInt64)) = (Arr.rep 4 (0 : UInt64)))))))) r))
def palinoderef06_may_j3 (x1 : Int × Int × Int × Int × Int × Int × (Arr 4 (UInt64))) (x3 : Int) (x7 : Bool) (x2 : Int) (x14 : Bool) (x21 : Bool) (r : Bool) : Prop :=
 palinoderef06_may_j4 x1 x21 x3 ((decide (x1.1 < 0)) || ((decide (8 < x1.1)) || (bif x7 then ((decide (x1.2.1 < 0)) || ((decide (x2 ≤ x1.2.1)) || (bif (!x7) then ((!(decide (x1.2.1 = 0))) || (bif x14 then ((decide (x1.2.2.1 < 0)) || ((decide (x2 ≤ x1.2.2.1)) || ((!x14) && (!(decide (x1.2.2.1 = 0)))))) else ((!x14) && (!(decide (x1.2.2.1 = 0)))))) else (bif x14 then ((decide (x1.2.2.1 < 0)) || ((decide (x2 ≤ x1.2.2.1)) || ((!x14) && (!(decide (x1.2.2.1 = 0)))))) else ((!x14) && (!(decide (x1.2.2.1 = 0)))))))) else (bif (!x7) then ((!(decide (x1.2.1 = 0))) || (bif x14 then ((decide (x1.2.2.1 < 0)) || ((decide (x2 ≤ x1.2.2.1)) || ((!x14) && (!(decide (x1.2.2.1 = 0)))))) else ((!x14) && (!(decide (x1.2.2.1 = 0)))))) else (bif x14 then ((decide (x1.2.2.1 < 0)) || ((decide (x2 ≤ x1.2.2.1)) || ((!x14) && (!(decide (x1.2.2.1 = 0)))))) else ((!x14) && (!(decide (x1.2.2.1 = 0))))))))) r
def palinoderef06_may_j2 (x1 : Int × Int × Int × Int × Int × Int × (Arr 4 (UInt64))) (x3 : Int) (x7 : Bool) (x2 : Int) (x14 : Bool) (r : Bool) : Prop :=
 palinoderef06_may_j3 x1 x3 x7 x2 x14 ((decide (x1.1 = 5)) || (decide (x1.1 = 6))) r
def palinoderef06_may_j1 (x1 : Int × Int × Int × Int × Int × Int × (Arr 4 (UInt64))) (x3 : Int) (x2 : Int) (x7 : Bool) (r : Bool) : Prop :=
 palinoderef06_may_j2 x1 x3 x7 x2 ((decide (x1.1 = 2)) || (decide (x1.1 = 3))) r
def palinoderef06_may_R (x1 : Int × Int × Int × Int × Int × Int × (Arr 4 (UInt64))) (x2 : Int) (x3 : Int) (r : Bool) : Prop :=
 palinoderef06_may_j1 x1 x3 x2 ((decide (2 ≤ x1.1)) && (decide (x1.1 ≤ 5))) r
set_option maxHeartbeats 4000000 in
theorem palinoderef06_may_con (x1 : Int × Int × Int × Int × Int × Int × (Arr 4 (UInt64))) (x2 : Int) (x3 : Int) (r : Bool) (h : palinoderef06_may_R x1 x2 x3 r) : Con Try.prog 19 [.agg ([.v (.int .i64 x1.1), .v (.int .i64 x1.2.1), .v (.int .i64 x1.2.2.1), .v (.int .i64 x1.2.2.2.1), .v (.int .i64 x1.2.2.2.2.1), .v (.int .i64 x1.2.2.2.2.2.1)] ++ (List.map ew x1.2.2.2.2.2.2.l).flatten), .v (.int .i64 x2), .v (.int .i64 x3)] [] [] (Ret (.v (.bool r))) := by
 refine xenter Try.func19 rfl rfl fun g hg => ?_
 simp only [Try.ntmps19, slots]
 unfold palinoderef06_may_R at h
 refine sr_ ?_
 refine xbox rfl rfl rfl rfl fun b3 => ?_
 refine as_ ?_
 refine nt_ ?_
 refine xseqM (fun σ => ∃ (x7 : Bool), palinoderef06_may_j1 x1 x3 x2 x7 r ∧ σ = ⟨[(1, .v (.int .i64 x2)), (2, .v (.int .i64 x3)), (3, .v (.pointer (some ⟨b3, 0, none⟩))), (7, .v (.bool x7))], [⟨b3, 54, ([.v (.int .i64 x1.1), .v (.int .i64 x1.2.1), .v (.int .i64 x1.2.2.1), .v (.int .i64 x1.2.2.2.1), .v (.int .i64 x1.2.2.2.2.1), .v (.int .i64 x1.2.2.2.2.2.1)] ++ (List.map ew x1.2.2.2.2.2.2.l).flatten)⟩], []⟩) ?_ ?_
 ·refine xregion ?_
  refine vp_ (qv_fieldAddrB FldC.h rfl) ?_
  refine v_ (qv_loadB 0 ShpC.h rfl rfl rfl rfl) ?_
  refine vp_ (pv_bin2 rfl rfl rfl) ?_
  refine mv_ ?_
  by_cases hp9 : 2 ≤ x1.1
  ·rw [and_tt (show (decide (2 ≤ x1.1)) = true from (decide_eq_true hp9))] at h
   refine xsetB 13 (decide_eq_true hp9) rfl ?_
   refine vp_ (qv_fieldAddrB FldC.h rfl) ?_
   refine v_ (qv_loadB 0 ShpC.h rfl rfl rfl rfl) ?_
   refine vp_ (pv_bin2 rfl rfl rfl) ?_
   refine pk_ ?_
   refine as_ ?_
   refine xnil ?_
   exact xmeet ⟨(decide (x1.1 ≤ 5)), h, rfl⟩ ⟨lk_, (SubM.of (.keep rfl rfl (.refl _) (.nil _)) (.nil _))⟩
  ·rw [and_ff (show (decide (2 ≤ x1.1)) = false from (decide_eq_false hp9))] at h
   refine xsetB 13 (decide_eq_false hp9) rfl ?_
   refine sk_ ?_
   refine sk_ ?_
   refine sk_ ?_
   refine pk_ ?_
   refine as_ ?_
   refine xnil ?_
   exact xmeet ⟨false, h, rfl⟩ ⟨lk_, (SubM.of (.keep rfl rfl (.refl _) (.nil _)) (.nil _))⟩
 ·clear h
  rintro _ ⟨x7, h, rfl⟩
  unfold palinoderef06_may_j1 at h
  refine xseqM (fun σ => ∃ (x14 : Bool), palinoderef06_may_j2 x1 x3 x7 x2 x14 r ∧ σ = ⟨[(1, .v (.int .i64 x2)), (2, .v (.int .i64 x3)), (3, .v (.pointer (some ⟨b3, 0, none⟩))), (7, .v (.bool x7)), (8, .v (.bool x14))], [⟨b3, 54, ([.v (.int .i64 x1.1), .v (.int .i64 x1.2.1), .v (.int .i64 x1.2.2.1), .v (.int .i64 x1.2.2.2.1), .v (.int .i64 x1.2.2.2.2.1), .v (.int .i64 x1.2.2.2.2.2.1)] ++ (List.map ew x1.2.2.2.2.2.2.l).flatten)⟩], []⟩) ?_ ?_
  ·refine xregion ?_
   refine vp_ (qv_fieldAddrB FldC.h rfl) ?_
   refine v_ (qv_loadB 0 ShpC.h rfl rfl rfl rfl) ?_
   refine vp_ (pv_bin2 rfl rfl rfl) ?_
   refine mv_ ?_
   by_cases hp16 : x1.1 = 2
   ·rw [or_tt (show (decide (x1.1 = 2)) = true from (decide_eq_true hp16))] at h
    refine xsetB 21 (decide_eq_true hp16) rfl ?_
    refine sk_ ?_
    refine sk_ ?_
    refine sk_ ?_
    refine pk_ ?_
    refine as_ ?_
    refine xnil ?_
    exact xmeet ⟨true, h, rfl⟩ ⟨lk_, (SubM.of (.keep rfl rfl (.refl _) (.nil _)) (.nil _))⟩
   ·rw [or_ff (show (decide (x1.1 = 2)) = false from (decide_eq_false hp16))] at h
    refine xsetB 21 (decide_eq_false hp16) rfl ?_
    refine vp_ (qv_fieldAddrB FldC.h rfl) ?_
    refine v_ (qv_loadB 0 ShpC.h rfl rfl rfl rfl) ?_
    refine vp_ (pv_bin2 rfl rfl rfl) ?_
    refine pk_ ?_
    refine as_ ?_
    refine xnil ?_
    exact xmeet ⟨(decide (x1.1 = 3)), h, rfl⟩ ⟨lk_, (SubM.of (.keep rfl rfl (.refl _) (.nil _)) (.nil _))⟩
  ·clear h
   rintro _ ⟨x14, h, rfl⟩
   unfold palinoderef06_may_j2 at h
   refine xseqM (fun σ => ∃ (x21 : Bool), palinoderef06_may_j3 x1 x3 x7 x2 x14 x21 r ∧ σ = ⟨[(1, .v (.int .i64 x2)), (2, .v (.int .i64 x3)), (3, .v (.pointer (some ⟨b3, 0, none⟩))), (7, .v (.bool x7)), (8, .v (.bool x14)), (9, .v (.bool x21))], [⟨b3, 54, ([.v (.int .i64 x1.1), .v (.int .i64 x1.2.1), .v (.int .i64 x1.2.2.1), .v (.int .i64 x1.2.2.2.1), .v (.int .i64 x1.2.2.2.2.1), .v (.int .i64 x1.2.2.2.2.2.1)] ++ (List.map ew x1.2.2.2.2.2.2.l).flatten)⟩], []⟩) ?_ ?_
   ·refine xregion ?_
    refine vp_ (qv_fieldAddrB FldC.h rfl) ?_
    refine v_ (qv_loadB 0 ShpC.h rfl rfl rfl rfl) ?_
    refine vp_ (pv_bin2 rfl rfl rfl) ?_
    refine mv_ ?_
    by_cases hp23 : x1.1 = 5
    ·rw [or_tt (show (decide (x1.1 = 5)) = true from (decide_eq_true hp23))] at h
     refine xsetB 29 (decide_eq_true hp23) rfl ?_
     refine sk_ ?_
     refine sk_ ?_
     refine sk_ ?_
     refine pk_ ?_
     refine as_ ?_
     refine xnil ?_
     exact xmeet ⟨true, h, rfl⟩ ⟨lk_, (SubM.of (.keep rfl rfl (.refl _) (.nil _)) (.nil _))⟩
    ·rw [or_ff (show (decide (x1.1 = 5)) = false from (decide_eq_false hp23))] at h
     refine xsetB 29 (decide_eq_false hp23) rfl ?_
     refine vp_ (qv_fieldAddrB FldC.h rfl) ?_
     refine v_ (qv_loadB 0 ShpC.h rfl rfl rfl rfl) ?_
     refine vp_ (pv_bin2 rfl rfl rfl) ?_
     refine pk_ ?_
     refine as_ ?_
     refine xnil ?_
     exact xmeet ⟨(decide (x1.1 = 6)), h, rfl⟩ ⟨lk_, (SubM.of (.keep rfl rfl (.refl _) (.nil _)) (.nil _))⟩
   ·clear h
    rintro _ ⟨x21, h, rfl⟩
    unfold palinoderef06_may_j3 at h
    refine xseq ?_
    refine xseqM (fun σ => ∃ (x180 : Bool), palinoderef06_may_j4 x1 x21 x3 x180 r ∧ σ = ⟨[(2, .v (.int .i64 x3)), (3, .v (.pointer (some ⟨b3, 0, none⟩))), (9, .v (.bool x21)), (87, .v (.bool x180))], [⟨b3, 54, ([.v (.int .i64 x1.1), .v (.int .i64 x1.2.1), .v (.int .i64 x1.2.2.1), .v (.int .i64 x1.2.2.2.1), .v (.int .i64 x1.2.2.2.2.1), .v (.int .i64 x1.2.2.2.2.2.1)] ++ (List.map ew x1.2.2.2.2.2.2.l).flatten)⟩], []⟩) ?_ ?_
    ·refine xregion ?_
     refine vp_ (qv_fieldAddrB FldC.h rfl) ?_
     refine v_ (qv_loadB 0 ShpC.h rfl rfl rfl rfl) ?_
     refine vp_ (pv_bin2 rfl rfl rfl) ?_
     refine mv_ ?_
     by_cases hp182 : x1.1 < 0
     ·rw [or_tt (show (decide (x1.1 < 0)) = true from (decide_eq_true hp182))] at h
      refine xsetB 37 (decide_eq_true hp182) rfl ?_
      refine sk_ ?_
      refine sk_ ?_
      refine sk_ ?_
      refine pk_ ?_
      refine mv_ ?_
      refine sk_ ?_
      refine sk_ ?_
      refine sk_ ?_
      refine sk_ ?_
      refine sk_ ?_
      refine sk_ ?_
      refine sk_ ?_
      refine sk_ ?_
      refine sk_ ?_
      refine sk_ ?_
      refine sk_ ?_
      refine sk_ ?_
      refine pk_ ?_
      refine mv_ ?_
      refine sk_ ?_
      refine sk_ ?_
      refine sk_ ?_
      refine sk_ ?_
      refine sk_ ?_
      refine sk_ ?_
      refine sk_ ?_
      refine pk_ ?_
      refine mv_ ?_
      refine sk_ ?_
      refine sk_ ?_
      refine sk_ ?_
      refine sk_ ?_
      refine sk_ ?_
      refine sk_ ?_
      refine sk_ ?_
      refine sk_ ?_
      refine sk_ ?_
      refine sk_ ?_
      refine sk_ ?_
      refine sk_ ?_
      refine pk_ ?_
      refine mv_ ?_
      refine sk_ ?_
      refine sk_ ?_
      refine sk_ ?_
      refine sk_ ?_
      refine sk_ ?_
      refine sk_ ?_
      refine sk_ ?_
      refine pk_ ?_
      refine xnil ?_
      exact xmeet ⟨true, h, rfl⟩ ⟨lk_, (SubM.of (.keep rfl rfl (.refl _) (.nil _)) (.nil _))⟩
     ·rw [or_ff (show (decide (x1.1 < 0)) = false from (decide_eq_false hp182))] at h
      refine xsetB 37 (decide_eq_false hp182) rfl ?_
      refine vp_ (qv_fieldAddrB FldC.h rfl) ?_
      refine v_ (qv_loadB 0 ShpC.h rfl rfl rfl rfl) ?_
      refine vp_ (pv_bin2 rfl rfl rfl) ?_
      refine pk_ ?_
      refine mv_ ?_
      by_cases hp184 : 8 < x1.1
      ·rw [or_tt (show (decide (8 < x1.1)) = true from (decide_eq_true hp184))] at h
       refine xsetB 42 (decide_eq_true hp184) rfl ?_
       refine sk_ ?_
       refine sk_ ?_
       refine sk_ ?_
       refine sk_ ?_
       refine sk_ ?_
       refine sk_ ?_
       refine sk_ ?_
       refine sk_ ?_
       refine sk_ ?_
       refine sk_ ?_
       refine sk_ ?_
       refine sk_ ?_
       refine pk_ ?_
       refine mv_ ?_
       refine sk_ ?_
       refine sk_ ?_
       refine sk_ ?_
       refine sk_ ?_
       refine sk_ ?_
       refine sk_ ?_
       refine sk_ ?_
       refine pk_ ?_
       refine mv_ ?_
       refine sk_ ?_
       refine sk_ ?_
       refine sk_ ?_
       refine sk_ ?_
       refine sk_ ?_
       refine sk_ ?_
       refine sk_ ?_
       refine sk_ ?_
       refine sk_ ?_
       refine sk_ ?_
       refine sk_ ?_
       refine sk_ ?_
       refine pk_ ?_
       refine mv_ ?_
       refine sk_ ?_
       refine sk_ ?_
       refine sk_ ?_
       refine sk_ ?_
       refine sk_ ?_
       refine sk_ ?_
       refine sk_ ?_
       refine pk_ ?_
       refine xnil ?_
       exact xmeet ⟨true, h, rfl⟩ ⟨lk_, (SubM.of (.keep rfl rfl (.refl _) (.nil _)) (.nil _))⟩
      ·rw [or_ff (show (decide (8 < x1.1)) = false from (decide_eq_false hp184))] at h
       refine xsetB 42 (decide_eq_false hp184) rfl ?_
       refine mv_ ?_
       refine mv_ ?_
       by_cases hp185 : x7 = true
       ·rw [cond_tt (show x7 = true from hp185)] at h
        refine xsetB 44 hp185 rfl ?_
        refine vp_ (qv_fieldAddrB FldC.h rfl) ?_
        refine v_ (qv_loadB 0 ShpC.h rfl rfl rfl rfl) ?_
        refine vp_ (pv_bin2 rfl rfl rfl) ?_
        refine mv_ ?_
        by_cases hp187 : x1.2.1 < 0
        ·rw [or_tt (show (decide (x1.2.1 < 0)) = true from (decide_eq_true hp187))] at h
         refine xsetB 48 (decide_eq_true hp187) rfl ?_
         refine sk_ ?_
         refine sk_ ?_
         refine sk_ ?_
         refine sk_ ?_
         refine pk_ ?_
         refine pk_ ?_
         refine pk_ ?_
         refine mv_ ?_
         refine sk_ ?_
         refine sk_ ?_
         refine sk_ ?_
         refine sk_ ?_
         refine sk_ ?_
         refine sk_ ?_
         refine sk_ ?_
         refine pk_ ?_
         refine mv_ ?_
         refine sk_ ?_
         refine sk_ ?_
         refine sk_ ?_
         refine sk_ ?_
         refine sk_ ?_
         refine sk_ ?_
         refine sk_ ?_
         refine sk_ ?_
         refine sk_ ?_
         refine sk_ ?_
         refine sk_ ?_
         refine sk_ ?_
         refine pk_ ?_
         refine mv_ ?_
         refine sk_ ?_
         refine sk_ ?_
         refine sk_ ?_
         refine sk_ ?_
         refine sk_ ?_
         refine sk_ ?_
         refine sk_ ?_
         refine pk_ ?_
         refine xnil ?_
         exact xmeet ⟨true, h, rfl⟩ ⟨lk_, (SubM.of (.keep rfl rfl (.refl _) (.nil _)) (.nil _))⟩
        ·rw [or_ff (show (decide (x1.2.1 < 0)) = false from (decide_eq_false hp187))] at h
         refine xsetB 48 (decide_eq_false hp187) rfl ?_
         refine vp_ (qv_fieldAddrB FldC.h rfl) ?_
         refine v_ (qv_loadB 0 ShpC.h rfl rfl rfl rfl) ?_
         refine mv_ ?_
         refine vp_ (pv_bin2 rfl rfl rfl) ?_
         refine pk_ ?_
         refine pk_ ?_
         refine pk_ ?_
         refine mv_ ?_
         by_cases hp189 : x2 ≤ x1.2.1
         ·rw [or_tt (show (decide (x2 ≤ x1.2.1)) = true from (decide_eq_true hp189))] at h
          refine xsetB 56 (decide_eq_true hp189) rfl ?_
          refine sk_ ?_
          refine sk_ ?_
          refine sk_ ?_
          refine sk_ ?_
          refine sk_ ?_
          refine sk_ ?_
          refine sk_ ?_
          refine pk_ ?_
          refine mv_ ?_
          refine sk_ ?_
          refine sk_ ?_
          refine sk_ ?_
          refine sk_ ?_
          refine sk_ ?_
          refine sk_ ?_
          refine sk_ ?_
          refine sk_ ?_
          refine sk_ ?_
          refine sk_ ?_
          refine sk_ ?_
          refine sk_ ?_
          refine pk_ ?_
          refine mv_ ?_
          refine sk_ ?_
          refine sk_ ?_
          refine sk_ ?_
          refine sk_ ?_
          refine sk_ ?_
          refine sk_ ?_
          refine sk_ ?_
          refine pk_ ?_
          refine xnil ?_
          exact xmeet ⟨true, h, rfl⟩ ⟨lk_, (SubM.of (.keep rfl rfl (.refl _) (.nil _)) (.nil _))⟩
         ·rw [or_ff (show (decide (x2 ≤ x1.2.1)) = false from (decide_eq_false hp189))] at h
          refine xsetB 56 (decide_eq_false hp189) rfl ?_
          refine mv_ ?_
          refine vp_ (pv_not rfl) ?_
          refine mv_ ?_
          by_cases hp190 : ¬ (x7 = true)
          ·rw [cond_tt (show (!x7) = true from (not_t (b_f hp190)))] at h
           refine xsetB 59 (not_t (b_f hp190)) rfl ?_
           refine vp_ (qv_fieldAddrB FldC.h rfl) ?_
           refine v_ (qv_loadB 0 ShpC.h rfl rfl rfl rfl) ?_
           refine vp_ (pv_bin2 rfl rfl rfl) ?_
           refine pk_ ?_
           refine pk_ ?_
           refine mv_ ?_
           by_cases hp192 : ¬ (x1.2.1 = 0)
           ·rw [or_tt (show (!(decide (x1.2.1 = 0))) = true from (not_t (decide_eq_false hp192)))] at h
            refine xsetB 65 (not_t (decide_eq_false hp192)) rfl ?_
            refine sk_ ?_
            refine sk_ ?_
            refine sk_ ?_
            refine sk_ ?_
            refine sk_ ?_
            refine sk_ ?_
            refine sk_ ?_
            refine sk_ ?_
            refine sk_ ?_
            refine sk_ ?_
            refine sk_ ?_
            refine sk_ ?_
            refine pk_ ?_
            refine mv_ ?_
            refine sk_ ?_
            refine sk_ ?_
            refine sk_ ?_
            refine sk_ ?_
            refine sk_ ?_
            refine sk_ ?_
            refine sk_ ?_
            refine pk_ ?_
            refine xnil ?_
            exact xmeet ⟨true, h, rfl⟩ ⟨lk_, (SubM.of (.keep rfl rfl (.refl _) (.nil _)) (.nil _))⟩
           ·rw [or_ff (show (!(decide (x1.2.1 = 0))) = false from (not_f (decide_eq_true (Decidable.of_not_not hp192))))] at h
            refine xsetB 65 (not_f (decide_eq_true (Decidable.of_not_not hp192))) rfl ?_
            refine mv_ ?_
            refine mv_ ?_
            by_cases hp193 : x14 = true
            ·rw [cond_tt (show x14 = true from hp193)] at h
             refine xsetB 67 hp193 rfl ?_
             refine vp_ (qv_fieldAddrB FldC.h rfl) ?_
             refine v_ (qv_loadB 0 ShpC.h rfl rfl rfl rfl) ?_
             refine vp_ (pv_bin2 rfl rfl rfl) ?_
             refine mv_ ?_
             by_cases hp195 : x1.2.2.1 < 0
             ·rw [or_tt (show (decide (x1.2.2.1 < 0)) = true from (decide_eq_true hp195))] at h
              refine xsetB 71 (decide_eq_true hp195) rfl ?_
              refine sk_ ?_
              refine sk_ ?_
              refine sk_ ?_
              refine sk_ ?_
              refine pk_ ?_
              refine pk_ ?_
              refine pk_ ?_
              refine mv_ ?_
              refine sk_ ?_
              refine sk_ ?_
              refine sk_ ?_
              refine sk_ ?_
              refine sk_ ?_
              refine sk_ ?_
              refine sk_ ?_
              refine pk_ ?_
              refine xnil ?_
              exact xmeet ⟨true, h, rfl⟩ ⟨lk_, (SubM.of (.keep rfl rfl (.refl _) (.nil _)) (.nil _))⟩
             ·rw [or_ff (show (decide (x1.2.2.1 < 0)) = false from (decide_eq_false hp195))] at h
              refine xsetB 71 (decide_eq_false hp195) rfl ?_
              refine vp_ (qv_fieldAddrB FldC.h rfl) ?_
              refine v_ (qv_loadB 0 ShpC.h rfl rfl rfl rfl) ?_
              refine mv_ ?_
              refine vp_ (pv_bin2 rfl rfl rfl) ?_
              refine pk_ ?_
              refine pk_ ?_
              refine pk_ ?_
              refine mv_ ?_
              by_cases hp197 : x2 ≤ x1.2.2.1
              ·rw [or_tt (show (decide (x2 ≤ x1.2.2.1)) = true from (decide_eq_true hp197))] at h
               refine xsetB 79 (decide_eq_true hp197) rfl ?_
               refine sk_ ?_
               refine sk_ ?_
               refine sk_ ?_
               refine sk_ ?_
               refine sk_ ?_
               refine sk_ ?_
               refine sk_ ?_
               refine pk_ ?_
               refine xnil ?_
               exact xmeet ⟨true, h, rfl⟩ ⟨lk_, (SubM.of (.keep rfl rfl (.refl _) (.nil _)) (.nil _))⟩
              ·rw [or_ff (show (decide (x2 ≤ x1.2.2.1)) = false from (decide_eq_false hp197))] at h
               refine xsetB 79 (decide_eq_false hp197) rfl ?_
               refine mv_ ?_
               refine vp_ (pv_not rfl) ?_
               refine mv_ ?_
               by_cases hp198 : ¬ (x14 = true)
               ·rw [and_tt (show (!x14) = true from (not_t (b_f hp198)))] at h
                refine xsetB 82 (not_t (b_f hp198)) rfl ?_
                refine vp_ (qv_fieldAddrB FldC.h rfl) ?_
                refine v_ (qv_loadB 0 ShpC.h rfl rfl rfl rfl) ?_
                refine vp_ (pv_bin2 rfl rfl rfl) ?_
                refine pk_ ?_
                refine pk_ ?_
                refine xnil ?_
                exact xmeet ⟨(!(decide (x1.2.2.1 = 0))), h, rfl⟩ ⟨lk_, (SubM.of (.keep rfl rfl (.refl _) (.nil _)) (.nil _))⟩
               ·rw [and_ff (show (!x14) = false from (not_f (Decidable.of_not_not hp198)))] at h
                refine xsetB 82 (not_f (Decidable.of_not_not hp198)) rfl ?_
                refine sk_ ?_
                refine sk_ ?_
                refine sk_ ?_
                refine pk_ ?_
                refine pk_ ?_
                refine xnil ?_
                exact xmeet ⟨false, h, rfl⟩ ⟨lk_, (SubM.of (.keep rfl rfl (.refl _) (.nil _)) (.nil _))⟩
            ·rw [cond_ff (show x14 = false from (b_f hp193))] at h
             refine xsetB 67 (b_f hp193) rfl ?_
             refine sk_ ?_
             refine sk_ ?_
             refine sk_ ?_
             refine sk_ ?_
             refine sk_ ?_
             refine sk_ ?_
             refine sk_ ?_
             refine sk_ ?_
             refine sk_ ?_
             refine pk_ ?_
             refine pk_ ?_
             refine mv_ ?_
             refine mv_ ?_
             refine vp_ (pv_not rfl) ?_
             refine mv_ ?_
             by_cases hp200 : ¬ (x14 = true)
             ·rw [and_tt (show (!x14) = true from (not_t (b_f hp200)))] at h
              refine xsetB 82 (not_t (b_f hp200)) rfl ?_
              refine vp_ (qv_fieldAddrB FldC.h rfl) ?_
              refine v_ (qv_loadB 0 ShpC.h rfl rfl rfl rfl) ?_
              refine vp_ (pv_bin2 rfl rfl rfl) ?_
              refine pk_ ?_
              refine pk_ ?_
              refine xnil ?_
              exact xmeet ⟨(!(decide (x1.2.2.1 = 0))), h, rfl⟩ ⟨lk_, (SubM.of (.keep rfl rfl (.refl _) (.nil _)) (.nil _))⟩
             ·rw [and_ff (show (!x14) = false from (not_f (Decidable.of_not_not hp200)))] at h
              refine xsetB 82 (not_f (Decidable.of_not_not hp200)) rfl ?_
              refine sk_ ?_
              refine sk_ ?_
              refine sk_ ?_
              refine pk_ ?_
              refine pk_ ?_
              refine xnil ?_
              exact xmeet ⟨false, h, rfl⟩ ⟨lk_, (SubM.of (.keep rfl rfl (.refl _) (.nil _)) (.nil _))⟩
          ·rw [cond_ff (show (!x7) = false from (not_f (Decidable.of_not_not hp190)))] at h
           refine xsetB 59 (not_f (Decidable.of_not_not hp190)) rfl ?_
           refine sk_ ?_
           refine sk_ ?_
           refine sk_ ?_
           refine pk_ ?_
           refine pk_ ?_
           refine mv_ ?_
           refine mv_ ?_
           refine mv_ ?_
           by_cases hp202 : x14 = true
           ·rw [cond_tt (show x14 = true from hp202)] at h
            refine xsetB 67 hp202 rfl ?_
            refine vp_ (qv_fieldAddrB FldC.h rfl) ?_
            refine v_ (qv_loadB 0 ShpC.h rfl rfl rfl rfl) ?_
            refine vp_ (pv_bin2 rfl rfl rfl) ?_
            refine mv_ ?_
            by_cases hp204 : x1.2.2.1 < 0
            ·rw [or_tt (show (decide (x1.2.2.1 < 0)) = true from (decide_eq_true hp204))] at h
             refine xsetB 71 (decide_eq_true hp204) rfl ?_
             refine sk_ ?_
             refine sk_ ?_
             refine sk_ ?_
             refine sk_ ?_
             refine pk_ ?_
             refine pk_ ?_
             refine pk_ ?_
             refine mv_ ?_
             refine sk_ ?_
             refine sk_ ?_
             refine sk_ ?_
             refine sk_ ?_
             refine sk_ ?_
             refine sk_ ?_
             refine sk_ ?_
             refine pk_ ?_
             refine xnil ?_
             exact xmeet ⟨true, h, rfl⟩ ⟨lk_, (SubM.of (.keep rfl rfl (.refl _) (.nil _)) (.nil _))⟩
            ·rw [or_ff (show (decide (x1.2.2.1 < 0)) = false from (decide_eq_false hp204))] at h
             refine xsetB 71 (decide_eq_false hp204) rfl ?_
             refine vp_ (qv_fieldAddrB FldC.h rfl) ?_
             refine v_ (qv_loadB 0 ShpC.h rfl rfl rfl rfl) ?_
             refine mv_ ?_
             refine vp_ (pv_bin2 rfl rfl rfl) ?_
             refine pk_ ?_
             refine pk_ ?_
             refine pk_ ?_
             refine mv_ ?_
             by_cases hp206 : x2 ≤ x1.2.2.1
             ·rw [or_tt (show (decide (x2 ≤ x1.2.2.1)) = true from (decide_eq_true hp206))] at h
              refine xsetB 79 (decide_eq_true hp206) rfl ?_
              refine sk_ ?_
              refine sk_ ?_
              refine sk_ ?_
              refine sk_ ?_
              refine sk_ ?_
              refine sk_ ?_
              refine sk_ ?_
              refine pk_ ?_
              refine xnil ?_
              exact xmeet ⟨true, h, rfl⟩ ⟨lk_, (SubM.of (.keep rfl rfl (.refl _) (.nil _)) (.nil _))⟩
             ·rw [or_ff (show (decide (x2 ≤ x1.2.2.1)) = false from (decide_eq_false hp206))] at h
              refine xsetB 79 (decide_eq_false hp206) rfl ?_
              refine mv_ ?_
              refine vp_ (pv_not rfl) ?_
              refine mv_ ?_
              by_cases hp207 : ¬ (x14 = true)
              ·rw [and_tt (show (!x14) = true from (not_t (b_f hp207)))] at h
               refine xsetB 82 (not_t (b_f hp207)) rfl ?_
               refine vp_ (qv_fieldAddrB FldC.h rfl) ?_
               refine v_ (qv_loadB 0 ShpC.h rfl rfl rfl rfl) ?_
               refine vp_ (pv_bin2 rfl rfl rfl) ?_
               refine pk_ ?_
               refine pk_ ?_
               refine xnil ?_
               exact xmeet ⟨(!(decide (x1.2.2.1 = 0))), h, rfl⟩ ⟨lk_, (SubM.of (.keep rfl rfl (.refl _) (.nil _)) (.nil _))⟩
              ·rw [and_ff (show (!x14) = false from (not_f (Decidable.of_not_not hp207)))] at h
               refine xsetB 82 (not_f (Decidable.of_not_not hp207)) rfl ?_
               refine sk_ ?_
               refine sk_ ?_
               refine sk_ ?_
               refine pk_ ?_
               refine pk_ ?_
               refine xnil ?_
               exact xmeet ⟨false, h, rfl⟩ ⟨lk_, (SubM.of (.keep rfl rfl (.refl _) (.nil _)) (.nil _))⟩
           ·rw [cond_ff (show x14 = false from (b_f hp202))] at h
            refine xsetB 67 (b_f hp202) rfl ?_
            refine sk_ ?_
            refine sk_ ?_
            refine sk_ ?_
            refine sk_ ?_
            refine sk_ ?_
            refine sk_ ?_
            refine sk_ ?_
            refine sk_ ?_
            refine sk_ ?_
            refine pk_ ?_
            refine pk_ ?_
            refine mv_ ?_
            refine mv_ ?_
            refine vp_ (pv_not rfl) ?_
            refine mv_ ?_
            by_cases hp209 : ¬ (x14 = true)
            ·rw [and_tt (show (!x14) = true from (not_t (b_f hp209)))] at h
             refine xsetB 82 (not_t (b_f hp209)) rfl ?_
             refine vp_ (qv_fieldAddrB FldC.h rfl) ?_
             refine v_ (qv_loadB 0 ShpC.h rfl rfl rfl rfl) ?_
             refine vp_ (pv_bin2 rfl rfl rfl) ?_
             refine pk_ ?_
             refine pk_ ?_
             refine xnil ?_
             exact xmeet ⟨(!(decide (x1.2.2.1 = 0))), h, rfl⟩ ⟨lk_, (SubM.of (.keep rfl rfl (.refl _) (.nil _)) (.nil _))⟩
            ·rw [and_ff (show (!x14) = false from (not_f (Decidable.of_not_not hp209)))] at h
             refine xsetB 82 (not_f (Decidable.of_not_not hp209)) rfl ?_
             refine sk_ ?_
             refine sk_ ?_
             refine sk_ ?_
             refine pk_ ?_
             refine pk_ ?_
             refine xnil ?_
             exact xmeet ⟨false, h, rfl⟩ ⟨lk_, (SubM.of (.keep rfl rfl (.refl _) (.nil _)) (.nil _))⟩
       ·rw [cond_ff (show x7 = false from (b_f hp185))] at h
        refine xsetB 44 (b_f hp185) rfl ?_
        refine sk_ ?_
        refine sk_ ?_
        refine sk_ ?_
        refine sk_ ?_
        refine sk_ ?_
        refine sk_ ?_
        refine sk_ ?_
        refine sk_ ?_
        refine sk_ ?_
        refine pk_ ?_
        refine pk_ ?_
        refine mv_ ?_
        refine mv_ ?_
        refine vp_ (pv_not rfl) ?_
        refine mv_ ?_
        by_cases hp211 : ¬ (x7 = true)
        ·rw [cond_tt (show (!x7) = true from (not_t (b_f hp211)))] at h
         refine xsetB 59 (not_t (b_f hp211)) rfl ?_
         refine vp_ (qv_fieldAddrB FldC.h rfl) ?_
         refine v_ (qv_loadB 0 ShpC.h rfl rfl rfl rfl) ?_
         refine vp_ (pv_bin2 rfl rfl rfl) ?_
         refine pk_ ?_
         refine pk_ ?_
         refine mv_ ?_
         by_cases hp213 : ¬ (x1.2.1 = 0)
         ·rw [or_tt (show (!(decide (x1.2.1 = 0))) = true from (not_t (decide_eq_false hp213)))] at h
          refine xsetB 65 (not_t (decide_eq_false hp213)) rfl ?_
          refine sk_ ?_
          refine sk_ ?_
          refine sk_ ?_
          refine sk_ ?_
          refine sk_ ?_
          refine sk_ ?_
          refine sk_ ?_
          refine sk_ ?_
          refine sk_ ?_
          refine sk_ ?_
          refine sk_ ?_
          refine sk_ ?_
          refine pk_ ?_
          refine mv_ ?_
          refine sk_ ?_
          refine sk_ ?_
          refine sk_ ?_
          refine sk_ ?_
          refine sk_ ?_
          refine sk_ ?_
          refine sk_ ?_
          refine pk_ ?_
          refine xnil ?_
          exact xmeet ⟨true, h, rfl⟩ ⟨lk_, (SubM.of (.keep rfl rfl (.refl _) (.nil _)) (.nil _))⟩
         ·rw [or_ff (show (!(decide (x1.2.1 = 0))) = false from (not_f (decide_eq_true (Decidable.of_not_not hp213))))] at h
          refine xsetB 65 (not_f (decide_eq_true (Decidable.of_not_not hp213))) rfl ?_
          refine mv_ ?_
          refine mv_ ?_
          by_cases hp214 : x14 = true
          ·rw [cond_tt (show x14 = true from hp214)] at h
           refine xsetB 67 hp214 rfl ?_
           refine vp_ (qv_fieldAddrB FldC.h rfl) ?_
           refine v_ (qv_loadB 0 ShpC.h rfl rfl rfl rfl) ?_
           refine vp_ (pv_bin2 rfl rfl rfl) ?_
           refine mv_ ?_
           by_cases hp216 : x1.2.2.1 < 0
           ·rw [or_tt (show (decide (x1.2.2.1 < 0)) = true from (decide_eq_true hp216))] at h
            refine xsetB 71 (decide_eq_true hp216) rfl ?_
            refine sk_ ?_
            refine sk_ ?_
            refine sk_ ?_
            refine sk_ ?_
            refine pk_ ?_
            refine pk_ ?_
            refine pk_ ?_
            refine mv_ ?_
            refine sk_ ?_
            refine sk_ ?_
            refine sk_ ?_
            refine sk_ ?_
            refine sk_ ?_
            refine sk_ ?_
            refine sk_ ?_
            refine pk_ ?_
            refine xnil ?_
            exact xmeet ⟨true, h, rfl⟩ ⟨lk_, (SubM.of (.keep rfl rfl (.refl _) (.nil _)) (.nil _))⟩
           ·rw [or_ff (show (decide (x1.2.2.1 < 0)) = false from (decide_eq_false hp216))] at h
            refine xsetB 71 (decide_eq_false hp216) rfl ?_
            refine vp_ (qv_fieldAddrB FldC.h rfl) ?_
            refine v_ (qv_loadB 0 ShpC.h rfl rfl rfl rfl) ?_
            refine mv_ ?_
            refine vp_ (pv_bin2 rfl rfl rfl) ?_
            refine pk_ ?_
            refine pk_ ?_
            refine pk_ ?_
            refine mv_ ?_
            by_cases hp218 : x2 ≤ x1.2.2.1
            ·rw [or_tt (show (decide (x2 ≤ x1.2.2.1)) = true from (decide_eq_true hp218))] at h
             refine xsetB 79 (decide_eq_true hp218) rfl ?_
             refine sk_ ?_
             refine sk_ ?_
             refine sk_ ?_
             refine sk_ ?_
             refine sk_ ?_
             refine sk_ ?_
             refine sk_ ?_
             refine pk_ ?_
             refine xnil ?_
             exact xmeet ⟨true, h, rfl⟩ ⟨lk_, (SubM.of (.keep rfl rfl (.refl _) (.nil _)) (.nil _))⟩
            ·rw [or_ff (show (decide (x2 ≤ x1.2.2.1)) = false from (decide_eq_false hp218))] at h
             refine xsetB 79 (decide_eq_false hp218) rfl ?_
             refine mv_ ?_
             refine vp_ (pv_not rfl) ?_
             refine mv_ ?_
             by_cases hp219 : ¬ (x14 = true)
             ·rw [and_tt (show (!x14) = true from (not_t (b_f hp219)))] at h
              refine xsetB 82 (not_t (b_f hp219)) rfl ?_
              refine vp_ (qv_fieldAddrB FldC.h rfl) ?_
              refine v_ (qv_loadB 0 ShpC.h rfl rfl rfl rfl) ?_
              refine vp_ (pv_bin2 rfl rfl rfl) ?_
              refine pk_ ?_
              refine pk_ ?_
              refine xnil ?_
              exact xmeet ⟨(!(decide (x1.2.2.1 = 0))), h, rfl⟩ ⟨lk_, (SubM.of (.keep rfl rfl (.refl _) (.nil _)) (.nil _))⟩
             ·rw [and_ff (show (!x14) = false from (not_f (Decidable.of_not_not hp219)))] at h
              refine xsetB 82 (not_f (Decidable.of_not_not hp219)) rfl ?_
              refine sk_ ?_
              refine sk_ ?_
              refine sk_ ?_
              refine pk_ ?_
              refine pk_ ?_
              refine xnil ?_
              exact xmeet ⟨false, h, rfl⟩ ⟨lk_, (SubM.of (.keep rfl rfl (.refl _) (.nil _)) (.nil _))⟩
          ·rw [cond_ff (show x14 = false from (b_f hp214))] at h
           refine xsetB 67 (b_f hp214) rfl ?_
           refine sk_ ?_
           refine sk_ ?_
           refine sk_ ?_
           refine sk_ ?_
           refine sk_ ?_
           refine sk_ ?_
           refine sk_ ?_
           refine sk_ ?_
           refine sk_ ?_
           refine pk_ ?_
           refine pk_ ?_
           refine mv_ ?_
           refine mv_ ?_
           refine vp_ (pv_not rfl) ?_
           refine mv_ ?_
           by_cases hp221 : ¬ (x14 = true)
           ·rw [and_tt (show (!x14) = true from (not_t (b_f hp221)))] at h
            refine xsetB 82 (not_t (b_f hp221)) rfl ?_
            refine vp_ (qv_fieldAddrB FldC.h rfl) ?_
            refine v_ (qv_loadB 0 ShpC.h rfl rfl rfl rfl) ?_
            refine vp_ (pv_bin2 rfl rfl rfl) ?_
            refine pk_ ?_
            refine pk_ ?_
            refine xnil ?_
            exact xmeet ⟨(!(decide (x1.2.2.1 = 0))), h, rfl⟩ ⟨lk_, (SubM.of (.keep rfl rfl (.refl _) (.nil _)) (.nil _))⟩
           ·rw [and_ff (show (!x14) = false from (not_f (Decidable.of_not_not hp221)))] at h
            refine xsetB 82 (not_f (Decidable.of_not_not hp221)) rfl ?_
            refine sk_ ?_
            refine sk_ ?_
            refine sk_ ?_
            refine pk_ ?_
            refine pk_ ?_
            refine xnil ?_
            exact xmeet ⟨false, h, rfl⟩ ⟨lk_, (SubM.of (.keep rfl rfl (.refl _) (.nil _)) (.nil _))⟩
        ·rw [cond_ff (show (!x7) = false from (not_f (Decidable.of_not_not hp211)))] at h
         refine xsetB 59 (not_f (Decidable.of_not_not hp211)) rfl ?_
         refine sk_ ?_
         refine sk_ ?_
         refine sk_ ?_
         refine pk_ ?_
         refine pk_ ?_
         refine mv_ ?_
         refine mv_ ?_
         refine mv_ ?_
         by_cases hp223 : x14 = true
         ·rw [cond_tt (show x14 = true from hp223)] at h
          refine xsetB 67 hp223 rfl ?_
          refine vp_ (qv_fieldAddrB FldC.h rfl) ?_
          refine v_ (qv_loadB 0 ShpC.h rfl rfl rfl rfl) ?_
          refine vp_ (pv_bin2 rfl rfl rfl) ?_
          refine mv_ ?_
          by_cases hp225 : x1.2.2.1 < 0
          ·rw [or_tt (show (decide (x1.2.2.1 < 0)) = true from (decide_eq_true hp225))] at h
           refine xsetB 71 (decide_eq_true hp225) rfl ?_
           refine sk_ ?_
           refine sk_ ?_
           refine sk_ ?_
           refine sk_ ?_
           refine pk_ ?_
           refine pk_ ?_
           refine pk_ ?_
           refine mv_ ?_
           refine sk_ ?_
           refine sk_ ?_
           refine sk_ ?_
           refine sk_ ?_
           refine sk_ ?_
           refine sk_ ?_
           refine sk_ ?_
           refine pk_ ?_
           refine xnil ?_
           exact xmeet ⟨true, h, rfl⟩ ⟨lk_, (SubM.of (.keep rfl rfl (.refl _) (.nil _)) (.nil _))⟩
          ·rw [or_ff (show (decide (x1.2.2.1 < 0)) = false from (decide_eq_false hp225))] at h
           refine xsetB 71 (decide_eq_false hp225) rfl ?_
           refine vp_ (qv_fieldAddrB FldC.h rfl) ?_
           refine v_ (qv_loadB 0 ShpC.h rfl rfl rfl rfl) ?_
           refine mv_ ?_
           refine vp_ (pv_bin2 rfl rfl rfl) ?_
           refine pk_ ?_
           refine pk_ ?_
           refine pk_ ?_
           refine mv_ ?_
           by_cases hp227 : x2 ≤ x1.2.2.1
           ·rw [or_tt (show (decide (x2 ≤ x1.2.2.1)) = true from (decide_eq_true hp227))] at h
            refine xsetB 79 (decide_eq_true hp227) rfl ?_
            refine sk_ ?_
            refine sk_ ?_
            refine sk_ ?_
            refine sk_ ?_
            refine sk_ ?_
            refine sk_ ?_
            refine sk_ ?_
            refine pk_ ?_
            refine xnil ?_
            exact xmeet ⟨true, h, rfl⟩ ⟨lk_, (SubM.of (.keep rfl rfl (.refl _) (.nil _)) (.nil _))⟩
           ·rw [or_ff (show (decide (x2 ≤ x1.2.2.1)) = false from (decide_eq_false hp227))] at h
            refine xsetB 79 (decide_eq_false hp227) rfl ?_
            refine mv_ ?_
            refine vp_ (pv_not rfl) ?_
            refine mv_ ?_
            by_cases hp228 : ¬ (x14 = true)
            ·rw [and_tt (show (!x14) = true from (not_t (b_f hp228)))] at h
             refine xsetB 82 (not_t (b_f hp228)) rfl ?_
             refine vp_ (qv_fieldAddrB FldC.h rfl) ?_
             refine v_ (qv_loadB 0 ShpC.h rfl rfl rfl rfl) ?_
             refine vp_ (pv_bin2 rfl rfl rfl) ?_
             refine pk_ ?_
             refine pk_ ?_
             refine xnil ?_
             exact xmeet ⟨(!(decide (x1.2.2.1 = 0))), h, rfl⟩ ⟨lk_, (SubM.of (.keep rfl rfl (.refl _) (.nil _)) (.nil _))⟩
            ·rw [and_ff (show (!x14) = false from (not_f (Decidable.of_not_not hp228)))] at h
             refine xsetB 82 (not_f (Decidable.of_not_not hp228)) rfl ?_
             refine sk_ ?_
             refine sk_ ?_
             refine sk_ ?_
             refine pk_ ?_
             refine pk_ ?_
             refine xnil ?_
             exact xmeet ⟨false, h, rfl⟩ ⟨lk_, (SubM.of (.keep rfl rfl (.refl _) (.nil _)) (.nil _))⟩
         ·rw [cond_ff (show x14 = false from (b_f hp223))] at h
          refine xsetB 67 (b_f hp223) rfl ?_
          refine sk_ ?_
          refine sk_ ?_
          refine sk_ ?_
          refine sk_ ?_
          refine sk_ ?_
          refine sk_ ?_
          refine sk_ ?_
          refine sk_ ?_
          refine sk_ ?_
          refine pk_ ?_
          refine pk_ ?_
          refine mv_ ?_
          refine mv_ ?_
          refine vp_ (pv_not rfl) ?_
          refine mv_ ?_
          by_cases hp230 : ¬ (x14 = true)
          ·rw [and_tt (show (!x14) = true from (not_t (b_f hp230)))] at h
           refine xsetB 82 (not_t (b_f hp230)) rfl ?_
           refine vp_ (qv_fieldAddrB FldC.h rfl) ?_
           refine v_ (qv_loadB 0 ShpC.h rfl rfl rfl rfl) ?_
           refine vp_ (pv_bin2 rfl rfl rfl) ?_
           refine pk_ ?_
           refine pk_ ?_
           refine xnil ?_
           exact xmeet ⟨(!(decide (x1.2.2.1 = 0))), h, rfl⟩ ⟨lk_, (SubM.of (.keep rfl rfl (.refl _) (.nil _)) (.nil _))⟩
          ·rw [and_ff (show (!x14) = false from (not_f (Decidable.of_not_not hp230)))] at h
           refine xsetB 82 (not_f (Decidable.of_not_not hp230)) rfl ?_
           refine sk_ ?_
           refine sk_ ?_
           refine sk_ ?_
           refine pk_ ?_
           refine pk_ ?_
           refine xnil ?_
           exact xmeet ⟨false, h, rfl⟩ ⟨lk_, (SubM.of (.keep rfl rfl (.refl _) (.nil _)) (.nil _))⟩
    ·clear h
     rintro _ ⟨x180, h, rfl⟩
     by_cases hp232 : x180 = true
     ·replace h := h.1 hp232
      refine xcondT' hp232 rfl ?_
      refine sr_ ?_
      refine as_ ?_
      refine nt_ ?_
      refine xretc ?_
      refine xthen_ret ?_
      replace h := h.symm
      subst h
      exact xret1 hg rfl rfl (.refl _) (SubM.of (.nil _) (.nil _)) ⟨rfl, rfl, rfl⟩
     ·replace h := h.2 hp232
      refine xcondF' (b_f hp232) rfl ?_
      refine xskipc ?_
      refine xthen ?_
      refine xseq ?_
      refine xseqM (fun σ => ∃ (x304 : Bool), palinoderef06_may_j5 x1 x304 r ∧ σ = ⟨[(3, .v (.pointer (some ⟨b3, 0, none⟩))), (119, .v (.bool x304))], [⟨b3, 54, ([.v (.int .i64 x1.1), .v (.int .i64 x1.2.1), .v (.int .i64 x1.2.2.1), .v (.int .i64 x1.2.2.2.1), .v (.int .i64 x1.2.2.2.2.1), .v (.int .i64 x1.2.2.2.2.2.1)] ++ (List.map ew x1.2.2.2.2.2.2.l).flatten)⟩], []⟩) ?_ ?_
      ·refine xregion ?_
       refine mv_ ?_
       refine mv_ ?_
       by_cases hp305 : x21 = true
       ·rw [cond_tt (show x21 = true from hp305)] at h
        refine xsetB 89 hp305 rfl ?_
        refine vp_ (qv_fieldAddrB FldC.h rfl) ?_
        refine v_ (qv_loadB 0 ShpC.h rfl rfl rfl rfl) ?_
        refine vp_ (pv_bin2 rfl rfl rfl) ?_
        refine mv_ ?_
        by_cases hp307 : x1.2.2.2.2.2.1 < 1
        ·rw [or_tt (show (decide (x1.2.2.2.2.2.1 < 1)) = true from (decide_eq_true hp307))] at h
         refine xsetB 93 (decide_eq_true hp307) rfl ?_
         refine sk_ ?_
         refine sk_ ?_
         refine sk_ ?_
         refine sk_ ?_
         refine pk_ ?_
         refine pk_ ?_
         refine mv_ ?_
         refine sk_ ?_
         refine sk_ ?_
         refine sk_ ?_
         refine sk_ ?_
         refine sk_ ?_
         refine sk_ ?_
         refine sk_ ?_
         refine pk_ ?_
         refine mv_ ?_
         refine sk_ ?_
         refine sk_ ?_
         refine sk_ ?_
         refine sk_ ?_
         refine sk_ ?_
         refine sk_ ?_
         refine sk_ ?_
         refine sk_ ?_
         refine sk_ ?_
         refine pk_ ?_
         refine xnil ?_
         exact xmeet ⟨true, h, rfl⟩ ⟨lk_, (SubM.of (.keep rfl rfl (.refl _) (.nil _)) (.nil _))⟩
        ·rw [or_ff (show (decide (x1.2.2.2.2.2.1 < 1)) = false from (decide_eq_false hp307))] at h
         refine xsetB 93 (decide_eq_false hp307) rfl ?_
         refine vp_ (qv_fieldAddrB FldC.h rfl) ?_
         refine v_ (qv_loadB 0 ShpC.h rfl rfl rfl rfl) ?_
         refine mv_ ?_
         refine vp_ (pv_bin2 rfl rfl rfl) ?_
         refine pk_ ?_
         refine pk_ ?_
         refine mv_ ?_
         by_cases hp309 : x3 < x1.2.2.2.2.2.1
         ·rw [or_tt (show (decide (x3 < x1.2.2.2.2.2.1)) = true from (decide_eq_true hp309))] at h
          refine xsetB 100 (decide_eq_true hp309) rfl ?_
          refine sk_ ?_
          refine sk_ ?_
          refine sk_ ?_
          refine sk_ ?_
          refine sk_ ?_
          refine sk_ ?_
          refine sk_ ?_
          refine pk_ ?_
          refine mv_ ?_
          refine sk_ ?_
          refine sk_ ?_
          refine sk_ ?_
          refine sk_ ?_
          refine sk_ ?_
          refine sk_ ?_
          refine sk_ ?_
          refine sk_ ?_
          refine sk_ ?_
          refine pk_ ?_
          refine xnil ?_
          exact xmeet ⟨true, h, rfl⟩ ⟨lk_, (SubM.of (.keep rfl rfl (.refl _) (.nil _)) (.nil _))⟩
         ·rw [or_ff (show (decide (x3 < x1.2.2.2.2.2.1)) = false from (decide_eq_false hp309))] at h
          refine xsetB 100 (decide_eq_false hp309) rfl ?_
          refine mv_ ?_
          refine vp_ (pv_not rfl) ?_
          refine mv_ ?_
          by_cases hp310 : ¬ (x21 = true)
          ·rw [cond_tt (show (!x21) = true from (not_t (b_f hp310)))] at h
           refine xsetB 103 (not_t (b_f hp310)) rfl ?_
           refine vp_ (qv_fieldAddrB FldC.h rfl) ?_
           refine v_ (qv_loadB 0 ShpC.h rfl rfl rfl rfl) ?_
           refine vp_ (pv_bin2 rfl rfl rfl) ?_
           refine pk_ ?_
           refine pk_ ?_
           refine mv_ ?_
           by_cases hp312 : ¬ (x1.2.2.2.2.2.1 = 0)
           ·rw [or_tt (show (!(decide (x1.2.2.2.2.2.1 = 0))) = true from (not_t (decide_eq_false hp312)))] at h
            refine xsetB 109 (not_t (decide_eq_false hp312)) rfl ?_
            refine sk_ ?_
            refine sk_ ?_
            refine sk_ ?_
            refine sk_ ?_
            refine sk_ ?_
            refine sk_ ?_
            refine sk_ ?_
            refine sk_ ?_
            refine sk_ ?_
            refine pk_ ?_
            refine xnil ?_
            exact xmeet ⟨true, h, rfl⟩ ⟨lk_, (SubM.of (.keep rfl rfl (.refl _) (.nil _)) (.nil _))⟩
           ·rw [or_ff (show (!(decide (x1.2.2.2.2.2.1 = 0))) = false from (not_f (decide_eq_true (Decidable.of_not_not hp312))))] at h
            refine xsetB 109 (not_f (decide_eq_true (Decidable.of_not_not hp312))) rfl ?_
            refine vp_ (qv_fieldAddrB FldC.h rfl) ?_
            refine v_ (qv_loadB 0 ShpC.h rfl rfl rfl rfl) ?_
            refine vp_ (pv_bin2 rfl rfl rfl) ?_
            refine mv_ ?_
            by_cases hp314 : ¬ (x1.1 = 1)
            ·rw [and_tt (show (!(decide (x1.1 = 1))) = true from (not_t (decide_eq_false hp314)))] at h
             refine xsetB 113 (not_t (decide_eq_false hp314)) rfl ?_
             refine vp_ (qv_fieldAddrB FldC.h rfl) ?_
             refine v_ (qv_loadP 0 [.v (.int .i64 x1.1), .v (.int .i64 x1.2.1), .v (.int .i64 x1.2.2.1), .v (.int .i64 x1.2.2.2.1), .v (.int .i64 x1.2.2.2.2.1), .v (.int .i64 x1.2.2.2.2.2.1)] ((List.map ew x1.2.2.2.2.2.2.l).flatten) [] sq_ sl_ sl_ (part_all (seg_lenE (by rfl))) ShpC.h rfl rfl) ?_
             refine vp_ (pv_buildAC (cs := ((List.map ew ((Arr.rep 4 (0 : UInt64))).l).flatten)) UndC.h ShpC.h InfC.h rfl (by rfl)) ?_
             refine vp_ (pv_neAgg (f := E_palinode_api_Set) (a := x1.2.2.2.2.2.2) (b := (Arr.rep 4 (0 : UInt64))) (eqC_arr (t := 51) (e := 49) (f := ew) UndC.h ShpC.h (by kernel_rfl) inferInstance (fun _ => rfl)) (by decide) (by kernel_rfl) ev_ ev_) ?_
             refine pk_ ?_
             refine pk_ ?_
             refine xnil ?_
             exact xmeet ⟨(!(decide ((x1.2.2.2.2.2.2 : Arr 4 (UInt64)) = (Arr.rep 4 (0 : UInt64))))), h, rfl⟩ ⟨lk_, (SubM.of (.keep rfl rfl (.refl _) (.nil _)) (.nil _))⟩
            ·rw [and_ff (show (!(decide (x1.1 = 1))) = false from (not_f (decide_eq_true (Decidable.of_not_not hp314))))] at h
             refine xsetB 113 (not_f (decide_eq_true (Decidable.of_not_not hp314))) rfl ?_
             refine sk_ ?_
             refine sk_ ?_
             refine sk_ ?_
             refine sk_ ?_
             refine pk_ ?_
             refine pk_ ?_
             refine xnil ?_
             exact xmeet ⟨false, h, rfl⟩ ⟨lk_, (SubM.of (.keep rfl rfl (.refl _) (.nil _)) (.nil _))⟩
          ·rw [cond_ff (show (!x21) = false from (not_f (Decidable.of_not_not hp310)))] at h
           refine xsetB 103 (not_f (Decidable.of_not_not hp310)) rfl ?_
           refine sk_ ?_
           refine sk_ ?_
           refine sk_ ?_
           refine pk_ ?_
           refine pk_ ?_
           refine mv_ ?_
           refine vp_ (qv_fieldAddrB FldC.h rfl) ?_
           refine v_ (qv_loadB 0 ShpC.h rfl rfl rfl rfl) ?_
           refine vp_ (pv_bin2 rfl rfl rfl) ?_
           refine mv_ ?_
           by_cases hp317 : ¬ (x1.1 = 1)
           ·rw [and_tt (show (!(decide (x1.1 = 1))) = true from (not_t (decide_eq_false hp317)))] at h
            refine xsetB 113 (not_t (decide_eq_false hp317)) rfl ?_
            refine vp_ (qv_fieldAddrB FldC.h rfl) ?_
            refine v_ (qv_loadP 0 [.v (.int .i64 x1.1), .v (.int .i64 x1.2.1), .v (.int .i64 x1.2.2.1), .v (.int .i64 x1.2.2.2.1), .v (.int .i64 x1.2.2.2.2.1), .v (.int .i64 x1.2.2.2.2.2.1)] ((List.map ew x1.2.2.2.2.2.2.l).flatten) [] sq_ sl_ sl_ (part_all (seg_lenE (by rfl))) ShpC.h rfl rfl) ?_
            refine vp_ (pv_buildAC (cs := ((List.map ew ((Arr.rep 4 (0 : UInt64))).l).flatten)) UndC.h ShpC.h InfC.h rfl (by rfl)) ?_
            refine vp_ (pv_neAgg (f := E_palinode_api_Set) (a := x1.2.2.2.2.2.2) (b := (Arr.rep 4 (0 : UInt64))) (eqC_arr (t := 51) (e := 49) (f := ew) UndC.h ShpC.h (by kernel_rfl) inferInstance (fun _ => rfl)) (by decide) (by kernel_rfl) ev_ ev_) ?_
            refine pk_ ?_
            refine pk_ ?_
            refine xnil ?_
            exact xmeet ⟨(!(decide ((x1.2.2.2.2.2.2 : Arr 4 (UInt64)) = (Arr.rep 4 (0 : UInt64))))), h, rfl⟩ ⟨lk_, (SubM.of (.keep rfl rfl (.refl _) (.nil _)) (.nil _))⟩
           ·rw [and_ff (show (!(decide (x1.1 = 1))) = false from (not_f (decide_eq_true (Decidable.of_not_not hp317))))] at h
            refine xsetB 113 (not_f (decide_eq_true (Decidable.of_not_not hp317))) rfl ?_
            refine sk_ ?_
            refine sk_ ?_
            refine sk_ ?_
            refine sk_ ?_
            refine pk_ ?_
            refine pk_ ?_
            refine xnil ?_
            exact xmeet ⟨false, h, rfl⟩ ⟨lk_, (SubM.of (.keep rfl rfl (.refl _) (.nil _)) (.nil _))⟩
       ·rw [cond_ff (show x21 = false from (b_f hp305))] at h
        refine xsetB 89 (b_f hp305) rfl ?_
        refine sk_ ?_
        refine sk_ ?_
        refine sk_ ?_
        refine sk_ ?_
        refine sk_ ?_
        refine sk_ ?_
        refine sk_ ?_
        refine sk_ ?_
        refine sk_ ?_
        refine pk_ ?_
        refine mv_ ?_
        refine mv_ ?_
        refine vp_ (pv_not rfl) ?_
        refine mv_ ?_
        by_cases hp319 : ¬ (x21 = true)
        ·rw [cond_tt (show (!x21) = true from (not_t (b_f hp319)))] at h
         refine xsetB 103 (not_t (b_f hp319)) rfl ?_
         refine vp_ (qv_fieldAddrB FldC.h rfl) ?_
         refine v_ (qv_loadB 0 ShpC.h rfl rfl rfl rfl) ?_
         refine vp_ (pv_bin2 rfl rfl rfl) ?_
         refine pk_ ?_
         refine pk_ ?_
         refine mv_ ?_
         by_cases hp321 : ¬ (x1.2.2.2.2.2.1 = 0)
         ·rw [or_tt (show (!(decide (x1.2.2.2.2.2.1 = 0))) = true from (not_t (decide_eq_false hp321)))] at h
          refine xsetB 109 (not_t (decide_eq_false hp321)) rfl ?_
          refine sk_ ?_
          refine sk_ ?_
          refine sk_ ?_
          refine sk_ ?_
          refine sk_ ?_
          refine sk_ ?_
          refine sk_ ?_
          refine sk_ ?_
          refine sk_ ?_
          refine pk_ ?_
          refine xnil ?_
          exact xmeet ⟨true, h, rfl⟩ ⟨lk_, (SubM.of (.keep rfl rfl (.refl _) (.nil _)) (.nil _))⟩
         ·rw [or_ff (show (!(decide (x1.2.2.2.2.2.1 = 0))) = false from (not_f (decide_eq_true (Decidable.of_not_not hp321))))] at h
          refine xsetB 109 (not_f (decide_eq_true (Decidable.of_not_not hp321))) rfl ?_
          refine vp_ (qv_fieldAddrB FldC.h rfl) ?_
          refine v_ (qv_loadB 0 ShpC.h rfl rfl rfl rfl) ?_
          refine vp_ (pv_bin2 rfl rfl rfl) ?_
          refine mv_ ?_
          by_cases hp323 : ¬ (x1.1 = 1)
          ·rw [and_tt (show (!(decide (x1.1 = 1))) = true from (not_t (decide_eq_false hp323)))] at h
           refine xsetB 113 (not_t (decide_eq_false hp323)) rfl ?_
           refine vp_ (qv_fieldAddrB FldC.h rfl) ?_
           refine v_ (qv_loadP 0 [.v (.int .i64 x1.1), .v (.int .i64 x1.2.1), .v (.int .i64 x1.2.2.1), .v (.int .i64 x1.2.2.2.1), .v (.int .i64 x1.2.2.2.2.1), .v (.int .i64 x1.2.2.2.2.2.1)] ((List.map ew x1.2.2.2.2.2.2.l).flatten) [] sq_ sl_ sl_ (part_all (seg_lenE (by rfl))) ShpC.h rfl rfl) ?_
           refine vp_ (pv_buildAC (cs := ((List.map ew ((Arr.rep 4 (0 : UInt64))).l).flatten)) UndC.h ShpC.h InfC.h rfl (by rfl)) ?_
           refine vp_ (pv_neAgg (f := E_palinode_api_Set) (a := x1.2.2.2.2.2.2) (b := (Arr.rep 4 (0 : UInt64))) (eqC_arr (t := 51) (e := 49) (f := ew) UndC.h ShpC.h (by kernel_rfl) inferInstance (fun _ => rfl)) (by decide) (by kernel_rfl) ev_ ev_) ?_
           refine pk_ ?_
           refine pk_ ?_
           refine xnil ?_
           exact xmeet ⟨(!(decide ((x1.2.2.2.2.2.2 : Arr 4 (UInt64)) = (Arr.rep 4 (0 : UInt64))))), h, rfl⟩ ⟨lk_, (SubM.of (.keep rfl rfl (.refl _) (.nil _)) (.nil _))⟩
          ·rw [and_ff (show (!(decide (x1.1 = 1))) = false from (not_f (decide_eq_true (Decidable.of_not_not hp323))))] at h
           refine xsetB 113 (not_f (decide_eq_true (Decidable.of_not_not hp323))) rfl ?_
           refine sk_ ?_
           refine sk_ ?_
           refine sk_ ?_
           refine sk_ ?_
           refine pk_ ?_
           refine pk_ ?_
           refine xnil ?_
           exact xmeet ⟨false, h, rfl⟩ ⟨lk_, (SubM.of (.keep rfl rfl (.refl _) (.nil _)) (.nil _))⟩
        ·rw [cond_ff (show (!x21) = false from (not_f (Decidable.of_not_not hp319)))] at h
         refine xsetB 103 (not_f (Decidable.of_not_not hp319)) rfl ?_
         refine sk_ ?_
         refine sk_ ?_
         refine sk_ ?_
         refine pk_ ?_
         refine pk_ ?_
         refine mv_ ?_
         refine vp_ (qv_fieldAddrB FldC.h rfl) ?_
         refine v_ (qv_loadB 0 ShpC.h rfl rfl rfl rfl) ?_
         refine vp_ (pv_bin2 rfl rfl rfl) ?_
         refine mv_ ?_
         by_cases hp326 : ¬ (x1.1 = 1)
         ·rw [and_tt (show (!(decide (x1.1 = 1))) = true from (not_t (decide_eq_false hp326)))] at h
          refine xsetB 113 (not_t (decide_eq_false hp326)) rfl ?_
          refine vp_ (qv_fieldAddrB FldC.h rfl) ?_
          refine v_ (qv_loadP 0 [.v (.int .i64 x1.1), .v (.int .i64 x1.2.1), .v (.int .i64 x1.2.2.1), .v (.int .i64 x1.2.2.2.1), .v (.int .i64 x1.2.2.2.2.1), .v (.int .i64 x1.2.2.2.2.2.1)] ((List.map ew x1.2.2.2.2.2.2.l).flatten) [] sq_ sl_ sl_ (part_all (seg_lenE (by rfl))) ShpC.h rfl rfl) ?_
          refine vp_ (pv_buildAC (cs := ((List.map ew ((Arr.rep 4 (0 : UInt64))).l).flatten)) UndC.h ShpC.h InfC.h rfl (by rfl)) ?_
          refine vp_ (pv_neAgg (f := E_palinode_api_Set) (a := x1.2.2.2.2.2.2) (b := (Arr.rep 4 (0 : UInt64))) (eqC_arr (t := 51) (e := 49) (f := ew) UndC.h ShpC.h (by kernel_rfl) inferInstance (fun _ => rfl)) (by decide) (by kernel_rfl) ev_ ev_) ?_
          refine pk_ ?_
          refine pk_ ?_
          refine xnil ?_
          exact xmeet ⟨(!(decide ((x1.2.2.2.2.2.2 : Arr 4 (UInt64)) = (Arr.rep 4 (0 : UInt64))))), h, rfl⟩ ⟨lk_, (SubM.of (.keep rfl rfl (.refl _) (.nil _)) (.nil _))⟩
         ·rw [and_ff (show (!(decide (x1.1 = 1))) = false from (not_f (decide_eq_true (Decidable.of_not_not hp326))))] at h
          refine xsetB 113 (not_f (decide_eq_true (Decidable.of_not_not hp326))) rfl ?_
          refine sk_ ?_
          refine sk_ ?_
          refine sk_ ?_
          refine sk_ ?_
          refine pk_ ?_
          refine pk_ ?_
          refine xnil ?_
          exact xmeet ⟨false, h, rfl⟩ ⟨lk_, (SubM.of (.keep rfl rfl (.refl _) (.nil _)) (.nil _))⟩
      ·clear h
       rintro _ ⟨x304, h, rfl⟩
       by_cases hp328 : x304 = true
       ·replace h := h.1 hp328
        refine xcondT' hp328 rfl ?_
        refine sr_ ?_
        refine as_ ?_
        refine nt_ ?_
        refine xretc ?_
        refine xthen_ret ?_
        replace h := h.symm
        subst h
        exact xret1 hg rfl rfl (.refl _) (SubM.of (.nil _) (.nil _)) ⟨rfl, rfl, rfl⟩
       ·replace h := h.2 hp328
        refine xcondF' (b_f hp328) rfl ?_
        refine xskipc ?_
        refine xthen ?_
        refine xseq ?_
        refine sr_ ?_
        refine vp_ (qv_fieldAddrB FldC.h rfl) ?_
        refine v_ (qv_loadB 0 ShpC.h rfl rfl rfl rfl) ?_
        refine vp_ (pv_bin2 rfl rfl rfl) ?_
        refine nt_ ?_
        by_cases hp338 : ¬ (x1.1 = 4)
        ·replace h := h.1 hp338
         refine xcondT' (not_t (decide_eq_false hp338)) rfl ?_
         refine sr_ ?_
         refine vp_ (qv_fieldAddrB FldC.h rfl) ?_
         refine v_ (qv_loadB 0 ShpC.h rfl rfl rfl rfl) ?_
         refine vp_ (pv_bin2 rfl rfl rfl) ?_
         refine mv_ ?_
         by_cases hp343 : x1.2.2.2.1 = 0
         ·replace h := h.1 hp343
          refine xsetB 126 (decide_eq_true hp343) rfl ?_
          refine vp_ (qv_fieldAddrB FldC.h rfl) ?_
          refine v_ (qv_loadB 0 ShpC.h rfl rfl rfl rfl) ?_
          refine vp_ (pv_bin2 rfl rfl rfl) ?_
          refine pk_ ?_
          refine as_ ?_
          refine nt_ ?_
          refine xretc ?_
          refine xthen_ret ?_
          replace h := h.symm
          subst h
          exact xret1 hg rfl rfl (.refl _) (SubM.of (.nil _) (.nil _)) ⟨rfl, rfl, rfl⟩
         ·replace h := h.2 hp343
          refine xsetB 126 (decide_eq_false hp343) rfl ?_
          refine sk_ ?_
          refine sk_ ?_
          refine sk_ ?_
          refine pk_ ?_
          refine as_ ?_
          refine nt_ ?_
          refine xretc ?_
          refine xthen_ret ?_
          replace h := h.symm
          subst h
          exact xret1 hg rfl rfl (.refl _) (SubM.of (.nil _) (.nil _)) ⟨rfl, rfl, rfl⟩
        ·replace h := h.2 hp338
         refine xcondF' (not_f (decide_eq_true (Decidable.of_not_not hp338))) rfl ?_
         refine xskipc ?_
         refine xthen ?_
         refine xseqM (fun σ => ∃ (x354 : Bool), palinoderef06_may_j6 x354 r ∧ σ = ⟨[(6, .v (.bool x354))], [], []⟩) ?_ ?_
         ·refine xregion ?_
          refine vp_ (qv_fieldAddrB FldC.h rfl) ?_
          refine v_ (qv_loadB 0 ShpC.h rfl rfl rfl rfl) ?_
          refine vp_ (pv_bin2 rfl rfl rfl) ?_
          refine mv_ ?_
          by_cases hp356 : 0 ≤ x1.2.2.2.1
          ·rw [and_tt (show (decide (0 ≤ x1.2.2.2.1)) = true from (decide_eq_true hp356))] at h
           refine xsetB 134 (decide_eq_true hp356) rfl ?_
           refine vp_ (qv_fieldAddrB FldC.h rfl) ?_
           refine v_ (qv_loadB 0 ShpC.h rfl rfl rfl rfl) ?_
           refine vp_ (pv_bin2 rfl rfl rfl) ?_
           refine pk_ ?_
           refine mv_ ?_
           by_cases hp358 : x1.2.2.2.1 ≤ 255
           ·rw [and_tt (show (decide (x1.2.2.2.1 ≤ 255)) = true from (decide_eq_true hp358))] at h
            refine xsetB 139 (decide_eq_true hp358) rfl ?_
            refine vp_ (qv_fieldAddrB FldC.h rfl) ?_
            refine v_ (qv_loadB 0 ShpC.h rfl rfl rfl rfl) ?_
            refine vp_ (pv_bin2 rfl rfl rfl) ?_
            refine mv_ ?_
            by_cases hp360 : x1.2.2.2.2.1 = (-1)
            ·rw [or_tt (show (decide (x1.2.2.2.2.1 = (-1))) = true from (decide_eq_true hp360))] at h
             refine xsetB 143 (decide_eq_true hp360) rfl ?_
             refine sk_ ?_
             refine sk_ ?_
             refine sk_ ?_
             refine sk_ ?_
             refine sk_ ?_
             refine sk_ ?_
             refine sk_ ?_
             refine sk_ ?_
             refine sk_ ?_
             refine sk_ ?_
             refine pk_ ?_
             refine pk_ ?_
             refine as_ ?_
             refine xnil ?_
             exact xmeet ⟨true, h, rfl⟩ ⟨(.cons rfl (.refl _) (.nil _)), (SubM.of (.nil _) (.nil _))⟩
            ·rw [or_ff (show (decide (x1.2.2.2.2.1 = (-1))) = false from (decide_eq_false hp360))] at h
             refine xsetB 143 (decide_eq_false hp360) rfl ?_
             refine vp_ (qv_fieldAddrB FldC.h rfl) ?_
             refine v_ (qv_loadB 0 ShpC.h rfl rfl rfl rfl) ?_
             refine vp_ (qv_fieldAddrB FldC.h rfl) ?_
             refine v_ (qv_loadB 0 ShpC.h rfl rfl rfl rfl) ?_
             refine vp_ (pv_bin2 rfl rfl rfl) ?_
             refine mv_ ?_
             by_cases hp362 : x1.2.2.2.1 ≤ x1.2.2.2.2.1
             ·rw [and_tt (show (decide (x1.2.2.2.1 ≤ x1.2.2.2.2.1)) = true from (decide_eq_true hp362))] at h
              refine xsetB 149 (decide_eq_true hp362) rfl ?_
              refine vp_ (qv_fieldAddrB FldC.h rfl) ?_
              refine v_ (qv_loadB 0 ShpC.h rfl rfl rfl rfl) ?_
              refine vp_ (pv_bin2 rfl rfl rfl) ?_
              refine pk_ ?_
              refine pk_ ?_
              refine pk_ ?_
              refine as_ ?_
              refine xnil ?_
              exact xmeet ⟨(decide (x1.2.2.2.2.1 ≤ 255)), h, rfl⟩ ⟨(.cons rfl (.refl _) (.nil _)), (SubM.of (.nil _) (.nil _))⟩
             ·rw [and_ff (show (decide (x1.2.2.2.1 ≤ x1.2.2.2.2.1)) = false from (decide_eq_false hp362))] at h
              refine xsetB 149 (decide_eq_false hp362) rfl ?_
              refine sk_ ?_
              refine sk_ ?_
              refine sk_ ?_
              refine pk_ ?_
              refine pk_ ?_
              refine pk_ ?_
              refine as_ ?_
              refine xnil ?_
              exact xmeet ⟨false, h, rfl⟩ ⟨(.cons rfl (.refl _) (.nil _)), (SubM.of (.nil _) (.nil _))⟩
           ·rw [and_ff (show (decide (x1.2.2.2.1 ≤ 255)) = false from (decide_eq_false hp358))] at h
            refine xsetB 139 (decide_eq_false hp358) rfl ?_
            refine sk_ ?_
            refine sk_ ?_
            refine sk_ ?_
            refine sk_ ?_
            refine sk_ ?_
            refine sk_ ?_
            refine sk_ ?_
            refine sk_ ?_
            refine sk_ ?_
            refine sk_ ?_
            refine sk_ ?_
            refine sk_ ?_
            refine sk_ ?_
            refine sk_ ?_
            refine sk_ ?_
            refine pk_ ?_
            refine as_ ?_
            refine xnil ?_
            exact xmeet ⟨false, h, rfl⟩ ⟨(.cons rfl (.refl _) (.nil _)), (SubM.of (.nil _) (.nil _))⟩
          ·rw [and_ff (show (decide (0 ≤ x1.2.2.2.1)) = false from (decide_eq_false hp356))] at h
           refine xsetB 134 (decide_eq_false hp356) rfl ?_
           refine sk_ ?_
           refine sk_ ?_
           refine sk_ ?_
           refine pk_ ?_
           refine mv_ ?_
           refine sk_ ?_
           refine sk_ ?_
           refine sk_ ?_
           refine sk_ ?_
           refine sk_ ?_
           refine sk_ ?_
           refine sk_ ?_
           refine sk_ ?_
           refine sk_ ?_
           refine sk_ ?_
           refine sk_ ?_
           refine sk_ ?_
           refine sk_ ?_
           refine sk_ ?_
           refine sk_ ?_
           refine pk_ ?_
           refine as_ ?_
           refine xnil ?_
           exact xmeet ⟨false, h, rfl⟩ ⟨(.cons rfl (.refl _) (.nil _)), (SubM.of (.nil _) (.nil _))⟩
         ·clear h
          rintro _ ⟨x354, h, rfl⟩
          refine xretc ?_
          replace h := h.symm
          subst h
          exact xret1 hg rfl rfl (.refl _) (SubM.of (.nil _) (.nil _)) ⟨rfl, rfl, rfl⟩
end Go.Proofs.Ytncnfohhjbadgaa
