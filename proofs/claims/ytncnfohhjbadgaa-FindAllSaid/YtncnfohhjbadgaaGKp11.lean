
/- What functions' texts ask for, and the walks that show it (printed by a program). -/
import Derived.Test.YtncnfohhjbadgaaGKp10
namespace Go.Proofs.Ytncnfohhjbadgaa
/-- palinoderef06.least -/
def palinoderef06_least_j5 (nv55 : Int) (r : Int) : Prop :=
 r = (if 65537 < nv55 then 65537 else nv55)
def palinoderef06_least_j4 (y3 : Int × Int × Int × Int × Int × Int × (Arr 4 (UInt64))) (c_palinoderef06_least : (List (Int × Int × Int × Int × Int × Int × (Arr 4 (UInt64)))) → (Int) → (Int) → Prop) (l1 : List (Int × Int × Int × Int × Int × Int × (Arr 4 (UInt64)))) (nv45 : Int) (r : Int) : Prop :=
 ((y3.1 = 5 → ∃ y59 : Int, c_palinoderef06_least l1 y3.2.1 y59 ∧ palinoderef06_least_j5 y59 r) ∧ (¬ (y3.1 = 5) → palinoderef06_least_j5 nv45 r))
def palinoderef06_least_j3 (y3 : Int × Int × Int × Int × Int × Int × (Arr 4 (UInt64))) (c_palinoderef06_least : (List (Int × Int × Int × Int × Int × Int × (Arr 4 (UInt64)))) → (Int) → (Int) → Prop) (l1 : List (Int × Int × Int × Int × Int × Int × (Arr 4 (UInt64)))) (nv32 : Int) (r : Int) : Prop :=
 ((y3.1 = 4 → ∃ y49 : Int, c_palinoderef06_least l1 y3.2.1 y49 ∧ InR (y3.2.2.2.1 * y49) ∧ palinoderef06_least_j4 y3 c_palinoderef06_least l1 (y3.2.2.2.1 * y49) r) ∧ (¬ (y3.1 = 4) → palinoderef06_least_j4 y3 c_palinoderef06_least l1 nv32 r))
def palinoderef06_least_j2 (y3 : Int × Int × Int × Int × Int × Int × (Arr 4 (UInt64))) (c_palinoderef06_least : (List (Int × Int × Int × Int × Int × Int × (Arr 4 (UInt64)))) → (Int) → (Int) → Prop) (l1 : List (Int × Int × Int × Int × Int × Int × (Arr 4 (UInt64)))) (nv17 : Int) (r : Int) : Prop :=
 ((y3.1 = 3 → ∃ y36 : Int, c_palinoderef06_least l1 y3.2.1 y36 ∧ ∃ y38 : Int, c_palinoderef06_least l1 y3.2.2.1 y38 ∧ palinoderef06_least_j3 y3 c_palinoderef06_least l1 (if y38 < y36 then y38 else y36) r) ∧ (¬ (y3.1 = 3) → palinoderef06_least_j3 y3 c_palinoderef06_least l1 nv17 r))
def palinoderef06_least_j1 (y3 : Int × Int × Int × Int × Int × Int × (Arr 4 (UInt64))) (c_palinoderef06_least : (List (Int × Int × Int × Int × Int × Int × (Arr 4 (UInt64)))) → (Int) → (Int) → Prop) (l1 : List (Int × Int × Int × Int × Int × Int × (Arr 4 (UInt64)))) (nv7 : Int) (r : Int) : Prop :=
 ((y3.1 = 2 → ∃ y21 : Int, c_palinoderef06_least l1 y3.2.1 y21 ∧ ∃ y23 : Int, c_palinoderef06_least l1 y3.2.2.1 y23 ∧ InR (y21 + y23) ∧ palinoderef06_least_j2 y3 c_palinoderef06_least l1 (y21 + y23) r) ∧ (¬ (y3.1 = 2) → palinoderef06_least_j2 y3 c_palinoderef06_least l1 nv7 r))
def palinoderef06_least_B (c_palinoderef06_least : (List (Int × Int × Int × Int × Int × Int × (Arr 4 (UInt64)))) → (Int) → (Int) → Prop) (l1 : List (Int × Int × Int × Int × Int × Int × (Arr 4 (UInt64)))) (iv2 : Int) (r : Int) : Prop :=
 0 ≤ (iv2 : Int) ∧ ∃ y3 : Int × Int × Int × Int × Int × Int × (Arr 4 (UInt64)), l1[(iv2 : Int).toNat]? = some y3 ∧ ((y3.1 = 1 → palinoderef06_least_j1 y3 c_palinoderef06_least l1 1 r) ∧ (¬ (y3.1 = 1) → palinoderef06_least_j1 y3 c_palinoderef06_least l1 0 r))
def rec_palinoderef06_least_H (S1 : Nat → (List (Int × Int × Int × Int × Int × Int × (Arr 4 (UInt64)))) → (Int) → (Int) → Prop) : Prop :=
 (∀ (m : Nat) (l1 : List (Int × Int × Int × Int × Int × Int × (Arr 4 (UInt64)))) (iv2 : Int) (r : Int), S1 m l1 iv2 r → palinoderef06_least_B (fun a0 a1 r => ∃ m', m' < m ∧ S1 m' a0 a1 r) l1 iv2 r)
def palinoderef06_least_R (l1 : List (Int × Int × Int × Int × Int × Int × (Arr 4 (UInt64)))) (iv2 : Int) (r : Int) : Prop := ∃ (S1 : Nat → (List (Int × Int × Int × Int × Int × Int × (Arr 4 (UInt64)))) → (Int) → (Int) → Prop), rec_palinoderef06_least_H S1 ∧ ∃ m : Nat, S1 m l1 iv2 r
set_option maxHeartbeats 4000000 in
theorem rec_palinoderef06_least_con {S1 : Nat → (List (Int × Int × Int × Int × Int × Int × (Arr 4 (UInt64)))) → (Int) → (Int) → Prop} (H : rec_palinoderef06_least_H S1) : ∀ m : Nat, (∀ (l1 : List (Int × Int × Int × Int × Int × Int × (Arr 4 (UInt64)))) (iv2 : Int) (r : Int), S1 m l1 iv2 r → Con Try.prog 30 [.sl 10 none (List.map E_palinode_api_Node l1), .v (.int .i64 iv2)] [] [] (Ret (.v (.int .i64 r)))) := by
 intro m
 induction m using Nat.strongRecOn with
 | _ m ih =>
  intro l1 iv2 r h
  obtain ⟨c_palinoderef06_least, hc_palinoderef06_least, h⟩ : ∃ (c_palinoderef06_least : (List (Int × Int × Int × Int × Int × Int × (Arr 4 (UInt64)))) → (Int) → (Int) → Prop), (∀ a0 a1 r, c_palinoderef06_least a0 a1 r → ∃ m', m' < m ∧ S1 m' a0 a1 r) ∧ palinoderef06_least_B c_palinoderef06_least l1 iv2 r := ⟨_, fun _ _ _ h => h, H m l1 iv2 r h⟩
  refine xenter Try.func30 rfl rfl fun g hg => ?_
  simp only [Try.ntmps30, slots]
  refine sr_ ?_
  refine as_ ?_
  refine nt_ ?_
  refine sr_ ?_
  refine mv_ ?_
  refine mv_ ?_
  obtain ⟨h4a, h⟩ := h
  obtain ⟨y3, h4b, h⟩ := h
  refine vp_ (pv_indexAddrM h4a h4b UndC.h ShpC.h rfl rfl) ?_
  refine v_ (qv_loadEP ([.v (.int .i64 y3.1), .v (.int .i64 y3.2.1), .v (.int .i64 y3.2.2.1), .v (.int .i64 y3.2.2.2.1), .v (.int .i64 y3.2.2.2.2.1), .v (.int .i64 y3.2.2.2.2.2.1)] ++ (List.map ew y3.2.2.2.2.2.2.l).flatten) [] sq_ sl_ (part_all sl_) ShpC.h rfl) ?_
  refine xalloc InfC.h rfl rfl fun b5 => ?_
  refine xreb 0 ([.v (.int .i64 0), .v (.int .i64 0), .v (.int .i64 0), .v (.int .i64 0), .v (.int .i64 0), .v (.int .i64 0)] ++ (List.map ew ((Arr.rep 4 (0 : UInt64))).l).flatten) rfl rfl ?_
  refine xstoreQ 0 [] ([.v (.int .i64 0), .v (.int .i64 0), .v (.int .i64 0), .v (.int .i64 0), .v (.int .i64 0), .v (.int .i64 0)] ++ (List.map ew ((Arr.rep 4 (0 : UInt64))).l).flatten) [] ([.v (.int .i64 y3.1), .v (.int .i64 y3.2.1), .v (.int .i64 y3.2.2.1), .v (.int .i64 y3.2.2.2.1), .v (.int .i64 y3.2.2.2.2.1), .v (.int .i64 y3.2.2.2.2.2.1)] ++ (List.map ew y3.2.2.2.2.2.2.l).flatten) ShpC.h rfl rfl rfl rfl rfl ?_
  refine nt_ ?_
  refine sr_ ?_
  refine as_ ?_
  refine nt_ ?_
  refine xseqM (fun σ => ∃ (nv7 : Int), palinoderef06_least_j1 y3 c_palinoderef06_least l1 nv7 r ∧ σ = ⟨[(0, .sl 10 none (List.map E_palinode_api_Node l1)), (5, .v (.pointer (some ⟨b5, 0, none⟩))), (6, .v (.int .i64 nv7))], [⟨b5, 54, ([.v (.int .i64 y3.1), .v (.int .i64 y3.2.1), .v (.int .i64 y3.2.2.1), .v (.int .i64 y3.2.2.2.1), .v (.int .i64 y3.2.2.2.2.1), .v (.int .i64 y3.2.2.2.2.2.1)] ++ (List.map ew y3.2.2.2.2.2.2.l).flatten)⟩], []⟩) ?_ ?_
  ·refine xseq ?_
   refine xregion ?_
   refine vp_ (qv_fieldAddrB FldC.h rfl) ?_
   refine v_ (qv_loadB 0 ShpC.h rfl rfl rfl rfl) ?_
   refine vp_ (pv_bin2 rfl rfl rfl) ?_
   refine nt_ ?_
   by_cases hp9 : y3.1 = 1
   ·replace h := h.1 hp9
    refine xcondT' (decide_eq_true hp9) rfl ?_
    refine xregion ?_
    refine as_ ?_
    refine xnil ?_
    exact xmeet ⟨1, h, rfl⟩ ⟨lk_, (SubM.of (.keep rfl rfl (.refl _) (.nil _)) (.nil _))⟩
   ·replace h := h.2 hp9
    refine xcondF' (decide_eq_false hp9) rfl ?_
    refine xskipc ?_
    exact xmeet ⟨0, h, rfl⟩ ⟨lk_, (SubM.of (.keep rfl rfl (.refl _) (.nil _)) (.nil _))⟩
  ·clear h
   rintro _ ⟨nv7, h, rfl⟩
   refine xseqM (fun σ => ∃ (nv17 : Int), palinoderef06_least_j2 y3 c_palinoderef06_least l1 nv17 r ∧ σ = ⟨[(0, .sl 10 none (List.map E_palinode_api_Node l1)), (5, .v (.pointer (some ⟨b5, 0, none⟩))), (6, .v (.int .i64 nv17))], [⟨b5, 54, ([.v (.int .i64 y3.1), .v (.int .i64 y3.2.1), .v (.int .i64 y3.2.2.1), .v (.int .i64 y3.2.2.2.1), .v (.int .i64 y3.2.2.2.2.1), .v (.int .i64 y3.2.2.2.2.2.1)] ++ (List.map ew y3.2.2.2.2.2.2.l).flatten)⟩], []⟩) ?_ ?_
   ·refine xseq ?_
    refine xregion ?_
    refine vp_ (qv_fieldAddrB FldC.h rfl) ?_
    refine v_ (qv_loadB 0 ShpC.h rfl rfl rfl rfl) ?_
    refine vp_ (pv_bin2 rfl rfl rfl) ?_
    refine nt_ ?_
    by_cases hp19 : y3.1 = 2
    ·replace h := h.1 hp19
     refine xcondT' (decide_eq_true hp19) rfl ?_
     refine xregionD (m := 10) (by kernel_rfl) rfl ?_
     obtain ⟨y21, h20, h⟩ := h
     obtain ⟨y23, h22, h⟩ := h
     obtain ⟨h24, h⟩ := h
     refine pl_ 0 rfl (pv_move rfl) ?_
     refine pl_ 1 rfl (qv_fieldAddrB FldC.h rfl) ?_
     refine pl_ 4 rfl (pv_move rfl) ?_
     refine pl_ 5 rfl (qv_fieldAddrB FldC.h rfl) ?_
     refine xpvalE 2 [6] rfl (qv_loadB 0 ShpC.h rfl rfl rfl rfl) rfl rfl (by kernel_rfl) (by kernel_rfl) (by kernel_rfl) (fun _ _ _ _ h => h) ?_
     refine xfl0 [⟨6, 23, .v (.int .i64 y3.2.2.1)⟩] 4 ?_
     refine xflstep 3 (by kernel_rfl) rfl (.cons rfl rfl rfl (fun _ => rfl) (fun _ => qv_loadB 0 ShpC.h rfl rfl rfl rfl) .nil) fun D l td hR => ?_
     obtain ⟨m20, hm20, h20⟩ := hc_palinoderef06_least _ _ _ h20
     refine wcall0 ((ih m20 hm20) l1 y3.2.1 _ h20) Try.func30 (by kernel_rfl) rfl (.cons rfl (.refl _) (.cons rfl (.refl _) .nil)) rfl rfl ?_
     refine xflgo1 hR ?_
     refine xflend (l' := #[true, true, true, true, true, true, true, false, false, false]) (by kernel_rfl) (.cons rfl rfl rfl (fun _ => rfl) (fun _ => qv_loadB 0 ShpC.h rfl rfl rfl rfl) .nil) (by kernel_rfl) rfl (by kernel_rfl) (by kernel_rfl) ?_
     simp only [List.nil_append, List.cons_append, List.map_cons, List.map_nil]
     refine xpstep (i := 7) (by kernel_rfl) rfl ?_
     obtain ⟨m22, hm22, h22⟩ := hc_palinoderef06_least _ _ _ h22
     refine wcall0 ((ih m22 hm22) l1 y3.2.2.1 _ h22) Try.func30 (by kernel_rfl) rfl (.cons rfl (.refl _) (.cons rfl (.refl _) .nil)) rfl rfl ?_
     refine pl_ 8 rfl (pv_addI h24 rfl rfl) ?_
     refine pl_ 9 rfl (pv_assign rfl) ?_
     refine xpdone (by kernel_rfl) ?_
     exact xmeet ⟨(y21 + y23), h, rfl⟩ ⟨lk_, (SubM.of (.keep rfl rfl (.refl _) (.nil _)) (.nil _))⟩
    ·replace h := h.2 hp19
     refine xcondF' (decide_eq_false hp19) rfl ?_
     refine xskipc ?_
     exact xmeet ⟨nv7, h, rfl⟩ ⟨lk_, (SubM.of (.keep rfl rfl (.refl _) (.nil _)) (.nil _))⟩
   ·clear h
    rintro _ ⟨nv17, h, rfl⟩
    refine xseqM (fun σ => ∃ (nv32 : Int), palinoderef06_least_j3 y3 c_palinoderef06_least l1 nv32 r ∧ σ = ⟨[(0, .sl 10 none (List.map E_palinode_api_Node l1)), (5, .v (.pointer (some ⟨b5, 0, none⟩))), (6, .v (.int .i64 nv32))], [⟨b5, 54, ([.v (.int .i64 y3.1), .v (.int .i64 y3.2.1), .v (.int .i64 y3.2.2.1), .v (.int .i64 y3.2.2.2.1), .v (.int .i64 y3.2.2.2.2.1), .v (.int .i64 y3.2.2.2.2.2.1)] ++ (List.map ew y3.2.2.2.2.2.2.l).flatten)⟩], []⟩) ?_ ?_
    ·refine xseq ?_
     refine xregion ?_
     refine vp_ (qv_fieldAddrB FldC.h rfl) ?_
     refine v_ (qv_loadB 0 ShpC.h rfl rfl rfl rfl) ?_
     refine vp_ (pv_bin2 rfl rfl rfl) ?_
     refine nt_ ?_
     by_cases hp34 : y3.1 = 3
     ·replace h := h.1 hp34
      refine xcondT' (decide_eq_true hp34) rfl ?_
      refine xregionD (m := 10) (by kernel_rfl) rfl ?_
      obtain ⟨y36, h35, h⟩ := h
      obtain ⟨y38, h37, h⟩ := h
      refine pl_ 0 rfl (pv_move rfl) ?_
      refine pl_ 1 rfl (qv_fieldAddrB FldC.h rfl) ?_
      refine pl_ 4 rfl (pv_move rfl) ?_
      refine pl_ 5 rfl (qv_fieldAddrB FldC.h rfl) ?_
      refine xpvalE 2 [6] rfl (qv_loadB 0 ShpC.h rfl rfl rfl rfl) rfl rfl (by kernel_rfl) (by kernel_rfl) (by kernel_rfl) (fun _ _ _ _ h => h) ?_
      refine xfl0 [⟨6, 35, .v (.int .i64 y3.2.2.1)⟩] 4 ?_
      refine xflstep 3 (by kernel_rfl) rfl (.cons rfl rfl rfl (fun _ => rfl) (fun _ => qv_loadB 0 ShpC.h rfl rfl rfl rfl) .nil) fun D l td hR => ?_
      obtain ⟨m35, hm35, h35⟩ := hc_palinoderef06_least _ _ _ h35
      refine wcall0 ((ih m35 hm35) l1 y3.2.1 _ h35) Try.func30 (by kernel_rfl) rfl (.cons rfl (.refl _) (.cons rfl (.refl _) .nil)) rfl rfl ?_
      refine xflgo1 hR ?_
      refine xflend (l' := #[true, true, true, true, true, true, true, false, false, false]) (by kernel_rfl) (.cons rfl rfl rfl (fun _ => rfl) (fun _ => qv_loadB 0 ShpC.h rfl rfl rfl rfl) .nil) (by kernel_rfl) rfl (by kernel_rfl) (by kernel_rfl) ?_
      simp only [List.nil_append, List.cons_append, List.map_cons, List.map_nil]
      refine xpstep (i := 7) (by kernel_rfl) rfl ?_
      obtain ⟨m37, hm37, h37⟩ := hc_palinoderef06_least _ _ _ h37
      refine wcall0 ((ih m37 hm37) l1 y3.2.2.1 _ h37) Try.func30 (by kernel_rfl) rfl (.cons rfl (.refl _) (.cons rfl (.refl _) .nil)) rfl rfl ?_
      refine pl_ 8 rfl (pv_min rfl rfl) ?_
      refine pl_ 9 rfl (pv_assign rfl) ?_
      refine xpdone (by kernel_rfl) ?_
      exact xmeet ⟨(if y38 < y36 then y38 else y36), h, rfl⟩ ⟨lk_, (SubM.of (.keep rfl rfl (.refl _) (.nil _)) (.nil _))⟩
     ·replace h := h.2 hp34
      refine xcondF' (decide_eq_false hp34) rfl ?_
      refine xskipc ?_
      exact xmeet ⟨nv17, h, rfl⟩ ⟨lk_, (SubM.of (.keep rfl rfl (.refl _) (.nil _)) (.nil _))⟩
    ·clear h
     rintro _ ⟨nv32, h, rfl⟩
     refine xseqM (fun σ => ∃ (nv45 : Int), palinoderef06_least_j4 y3 c_palinoderef06_least l1 nv45 r ∧ σ = ⟨[(0, .sl 10 none (List.map E_palinode_api_Node l1)), (5, .v (.pointer (some ⟨b5, 0, none⟩))), (6, .v (.int .i64 nv45))], [⟨b5, 54, ([.v (.int .i64 y3.1), .v (.int .i64 y3.2.1), .v (.int .i64 y3.2.2.1), .v (.int .i64 y3.2.2.2.1), .v (.int .i64 y3.2.2.2.2.1), .v (.int .i64 y3.2.2.2.2.2.1)] ++ (List.map ew y3.2.2.2.2.2.2.l).flatten)⟩], []⟩) ?_ ?_
     ·refine xseq ?_
      refine xregion ?_
      refine vp_ (qv_fieldAddrB FldC.h rfl) ?_
      refine v_ (qv_loadB 0 ShpC.h rfl rfl rfl rfl) ?_
      refine vp_ (pv_bin2 rfl rfl rfl) ?_
      refine nt_ ?_
      by_cases hp47 : y3.1 = 4
      ·replace h := h.1 hp47
       refine xcondT' (decide_eq_true hp47) rfl ?_
       refine xregionD (m := 8) (by kernel_rfl) rfl ?_
       obtain ⟨y49, h48, h⟩ := h
       obtain ⟨h50, h⟩ := h
       refine pl_ 0 rfl (qv_fieldAddrB FldC.h rfl) ?_
       refine pl_ 2 rfl (pv_move rfl) ?_
       refine pl_ 3 rfl (qv_fieldAddrB FldC.h rfl) ?_
       refine xpvalE 4 [1] rfl (qv_loadB 0 ShpC.h rfl rfl rfl rfl) rfl rfl (by kernel_rfl) (by kernel_rfl) (by kernel_rfl) (fun _ _ _ _ h => h) ?_
       refine xfl0 [⟨1, 42, .v (.int .i64 y3.2.2.2.1)⟩] 3 ?_
       refine xflstep 5 (by kernel_rfl) rfl (.cons rfl rfl rfl (fun _ => rfl) (fun _ => qv_loadB 0 ShpC.h rfl rfl rfl rfl) .nil) fun D l td hR => ?_
       obtain ⟨m48, hm48, h48⟩ := hc_palinoderef06_least _ _ _ h48
       refine wcall0 ((ih m48 hm48) l1 y3.2.1 _ h48) Try.func30 (by kernel_rfl) rfl (.cons rfl (.refl _) (.cons rfl (.refl _) .nil)) rfl rfl ?_
       refine xflgo1 hR ?_
       refine xflend (l' := #[true, true, true, true, true, true, false, false]) (by kernel_rfl) (.cons rfl rfl rfl (fun _ => rfl) (fun _ => qv_loadB 0 ShpC.h rfl rfl rfl rfl) .nil) (by kernel_rfl) rfl (by kernel_rfl) (by kernel_rfl) ?_
       simp only [List.nil_append, List.cons_append, List.map_cons, List.map_nil]
       refine pl_ 6 rfl (pv_mulI h50 rfl rfl) ?_
       refine pl_ 7 rfl (pv_assign rfl) ?_
       refine xpdone (by kernel_rfl) ?_
       exact xmeet ⟨(y3.2.2.2.1 * y49), h, rfl⟩ ⟨lk_, (SubM.of (.keep rfl rfl (.refl _) (.nil _)) (.nil _))⟩
      ·replace h := h.2 hp47
       refine xcondF' (decide_eq_false hp47) rfl ?_
       refine xskipc ?_
       exact xmeet ⟨nv32, h, rfl⟩ ⟨lk_, (SubM.of (.keep rfl rfl (.refl _) (.nil _)) (.nil _))⟩
     ·clear h
      rintro _ ⟨nv45, h, rfl⟩
      refine xseqM (fun σ => ∃ (nv55 : Int), palinoderef06_least_j5 nv55 r ∧ σ = ⟨[(6, .v (.int .i64 nv55))], [], []⟩) ?_ ?_
      ·refine xseq ?_
       refine xregion ?_
       refine vp_ (qv_fieldAddrB FldC.h rfl) ?_
       refine v_ (qv_loadB 0 ShpC.h rfl rfl rfl rfl) ?_
       refine vp_ (pv_bin2 rfl rfl rfl) ?_
       refine nt_ ?_
       by_cases hp57 : y3.1 = 5
       ·replace h := h.1 hp57
        refine xcondT' (decide_eq_true hp57) rfl ?_
        refine xregion ?_
        refine mv_ ?_
        refine vp_ (qv_fieldAddrB FldC.h rfl) ?_
        refine v_ (qv_loadB 0 ShpC.h rfl rfl rfl rfl) ?_
        obtain ⟨y59, h58, h⟩ := h
        obtain ⟨m58, hm58, h58⟩ := hc_palinoderef06_least _ _ _ h58
        refine xcall0 ((ih m58 hm58) l1 y3.2.1 _ h58) Try.func30 (by kernel_rfl) rfl (.cons rfl (.refl _) (.cons rfl (.refl _) .nil)) rfl rfl ?_
        refine as_ ?_
        refine xnil ?_
        exact xmeet ⟨y59, h, rfl⟩ ⟨(.cons rfl (.refl _) (.nil _)), (SubM.of (.nil _) (.nil _))⟩
       ·replace h := h.2 hp57
        refine xcondF' (decide_eq_false hp57) rfl ?_
        refine xskipc ?_
        exact xmeet ⟨nv45, h, rfl⟩ ⟨(.cons rfl (.refl _) (.nil _)), (SubM.of (.nil _) (.nil _))⟩
      ·clear h
       rintro _ ⟨nv55, h, rfl⟩
       refine sr_ ?_
       refine mv_ ?_
       refine vp_ (pv_min rfl rfl) ?_
       refine as_ ?_
       refine nt_ ?_
       refine xretc ?_
       replace h := h.symm
       subst h
       exact xret1 hg rfl rfl (.refl _) (SubM.of (.nil _) (.nil _)) ⟨rfl, rfl, rfl⟩
theorem palinoderef06_least_con (l1 : List (Int × Int × Int × Int × Int × Int × (Arr 4 (UInt64)))) (iv2 : Int) (r : Int) (h : palinoderef06_least_R l1 iv2 r) : Con Try.prog 30 [.sl 10 none (List.map E_palinode_api_Node l1), .v (.int .i64 iv2)] [] [] (Ret (.v (.int .i64 r))) := by
 obtain ⟨S1, H, m, h⟩ := h
 exact (rec_palinoderef06_least_con H m) l1 iv2 r h
/-- palinoderef06.Least -/
def palinoderef06_Least_R (re1 : (List (Int × Int × Int × Int × Int × Int × (Arr 4 (UInt64)))) × Int) (r : Int) : Prop :=
 ∃ y6 : Bool, palinoderef06_Right_R re1 y6 ∧ ((¬ (y6 = true) → r = 0) ∧ (¬ (¬ (y6 = true)) → InR ((re1.1.length : Int) - 1) ∧ ∃ y11 : Int, palinoderef06_least_R re1.1 ((re1.1.length : Int) - 1) y11 ∧ r = y11))
set_option maxHeartbeats 4000000 in
theorem palinoderef06_Least_con (re1 : (List (Int × Int × Int × Int × Int × Int × (Arr 4 (UInt64)))) × Int) (r : Int) (h : palinoderef06_Least_R re1 r) : Con Try.prog 20 [.agg [.sl 10 none (List.map E_palinode_api_Node re1.1), .v (.int .i64 re1.2)]] [] [] (Ret (.v (.int .i64 r))) := by
 refine xenter Try.func20 rfl rfl fun g hg => ?_
 simp only [Try.ntmps20, slots]
 refine sr_ ?_
 refine xbox rfl rfl rfl rfl fun b1 => ?_
 refine as_ ?_
 refine nt_ ?_
 refine xseq ?_
 refine sr_ ?_
 refine v_ (qv_loadB 0 ShpC.h rfl rfl rfl rfl) ?_
 obtain ⟨y6, h5, h⟩ := h
 refine xcall0 (palinoderef06_Right_con re1 _ h5) Try.func9 (by kernel_rfl) rfl (.cons rfl (.refl _) .nil) rfl rfl ?_
 refine vp_ (pv_not rfl) ?_
 refine nt_ ?_
 by_cases hp7 : ¬ (y6 = true)
 ·replace h := h.1 hp7
  refine xcondT' (not_t (b_f hp7)) rfl ?_
  refine sr_ ?_
  refine as_ ?_
  refine nt_ ?_
  refine xretc ?_
  refine xthen_ret ?_
  replace h := h.symm
  subst h
  exact xret1 hg rfl rfl (.refl _) (SubM.of (.nil _) (.nil _)) ⟨rfl, rfl, rfl⟩
 ·replace h := h.2 hp7
  refine xcondF' (not_f (Decidable.of_not_not hp7)) rfl ?_
  refine xskipc ?_
  refine xthen ?_
  refine sr_ ?_
  refine vp_ (qv_fieldAddrB FldC.h rfl) ?_
  refine v_ (qv_loadB 0 ShpC.h rfl rfl rfl rfl) ?_
  refine vp_ (qv_fieldAddrB FldC.h rfl) ?_
  refine v_ (qv_loadB 0 ShpC.h rfl rfl rfl rfl) ?_
  refine vp_ (pv_lenM UndC.h rfl) ?_
  obtain ⟨h9, h⟩ := h
  refine vp_ (pv_subI h9 rfl rfl) ?_
  obtain ⟨y11, h10, h⟩ := h
  refine xcall0 (palinoderef06_least_con re1.1 ((re1.1.length : Int) - 1) _ h10) Try.func30 (by kernel_rfl) rfl (.cons rfl (.refl _) (.cons rfl (.refl _) .nil)) rfl rfl ?_
  refine as_ ?_
  refine nt_ ?_
  refine xretc ?_
  replace h := h.symm
  subst h
  exact xret1 hg rfl rfl (.refl _) (SubM.of (.nil _) (.nil _)) ⟨rfl, rfl, rfl⟩
/-- palinoderef11.None -/
def palinoderef11_None_l1 (ag1 : (Int × (Arr 10 (Int × Int))) → Prop) (iv31 : Int) (f32 : Arr 10 (Int × Int)) (r : (Arr 10 (Int × Int))) : Prop :=
 ((iv31 < 10 → (0 ≤ (iv31 : Int) ∧ (iv31 : Int) < 10) ∧ ∃ y45 : Int × Int, f32.l[(iv31 : Int).toNat]? = some y45 ∧ InR (iv31 + 1) ∧ ag1 ((iv31 + 1), (Arr.set f32 (iv31 : Int).toNat (((-1), (-1)))))) ∧ (¬ (iv31 < 10) → r = f32))
def palinoderef11_None_R (r : (Arr 10 (Int × Int))) : Prop :=
 LoopR (fun ag1 s => palinoderef11_None_l1 ag1 s.1 s.2 r) (0, (Arr.rep 10 (0, 0)))
set_option maxRecDepth 100000 in
set_option maxHeartbeats 4000000 in
theorem palinoderef11_None_con (r : (Arr 10 (Int × Int))) (h : palinoderef11_None_R r) : Con Try.prog 24 [] [] [] (Ret (.agg ((List.map E_palinode_api_Span r.l).flatten))) := by
 refine xenter Try.func24 rfl rfl fun g hg => ?_
 simp only [Try.ntmps24, slots]
 refine sr_ ?_
 refine xalloc InfC.h rfl rfl fun b0 => ?_
 refine xreb 0 ((List.map E_palinode_api_Span ((Arr.rep 10 (0, 0))).l).flatten) rfl rfl ?_
 refine nt_ ?_
 refine sr_ ?_
 refine xalloc InfC.h rfl rfl fun b1 => ?_
 refine xreb 0 ((List.map E_palinode_api_Span ((Arr.rep 10 (0, 0))).l).flatten) rfl rfl ?_
 refine nt_ ?_
 refine xseq ?_
 refine sr_ ?_
 refine as_ ?_
 refine nt_ ?_
 refine xblock ?_
 obtain ⟨Inv, ⟨m0, hI⟩, hS⟩ := h
 refine xloop (fun σ m => ∃ (iv31 : Int), ∃ (f32 : Arr 10 (Int × Int)), Inv (iv31, f32) m ∧ σ = ⟨[(0, .v (.pointer (some ⟨b0, 0, none⟩))), (1, .v (.pointer (some ⟨b1, 0, none⟩))), (2, .v (.int .i64 iv31))], [⟨b1, 29, ((List.map E_palinode_api_Span f32.l).flatten)⟩, ⟨b0, 29, ((List.map E_palinode_api_Span ((Arr.rep 10 (0, 0))).l).flatten)⟩], []⟩) ⟨0, (Arr.rep 10 (0, 0)), hI, rfl⟩ (by exact ⟨lk_, (SubM.of (.keep rfl rfl (.refl _) (.keep rfl rfl (.refl _) (.nil _))) (.nil _))⟩) ?_
 rintro _ m ⟨iv31, f32, hI, rfl⟩
 obtain ⟨ag1, hag1, h⟩ : ∃ ag, (∀ s', ag s' → ∃ m', m' < m ∧ Inv s' m') ∧ palinoderef11_None_l1 ag iv31 f32 r := ⟨_, fun _ h => h, hS (iv31, f32) _ hI⟩
 clear hS hI
 refine xseq ?_
 refine sr_ ?_
 refine mv_ ?_
 refine vp_ (pv_bin2 rfl rfl rfl) ?_
 refine nt_ ?_
 by_cases hp43 : iv31 < 10
 ·replace h := h.1 hp43
  refine xcondT' (decide_eq_true hp43) rfl ?_
  refine xskipc ?_
  refine xthen ?_
  refine xseq ?_
  refine xblock ?_
  refine xregion ?_
  refine mv_ ?_
  refine vp_ (pv_buildC StrC.h rfl rfl) ?_
  obtain ⟨h44, h⟩ := h
  obtain ⟨y45, h44b, h⟩ := h
  refine vp_ (pv_indexAddrBA h44 UndC.h ShpC.h rfl rfl) ?_
  refine xstoreA (f := E_palinode_api_Span) (a := f32) (k := 2) (off := 0) (i := (iv31 : Int).toNat) 0 [] [] ((-1), (-1)) h44b sq_ so_ (by decide) ShpC.h rfl rfl rfl rfl sl_ rfl rfl ?_
  refine xreb 0 ((List.map E_palinode_api_Span ((Arr.set f32 (iv31 : Int).toNat (((-1), (-1))))).l).flatten) rfl sq_ ?_
  refine xnil ?_
  refine xin_normal ?_
  refine xthen ?_
  refine xregion ?_
  refine mv_ ?_
  obtain ⟨h46, h⟩ := h
  refine vp_ (pv_addI h46 rfl rfl) ?_
  refine as_ ?_
  refine xnil ?_
  obtain ⟨m', hm, hI⟩ := hag1 _ h
  exact xagain ⟨(iv31 + 1), (Arr.set f32 (iv31 : Int).toNat (((-1), (-1)))), hI, rfl⟩ hm ⟨lk_, (SubM.of (.keep rfl rfl (.refl _) (.keep rfl rfl (.refl _) (.nil _))) (.nil _))⟩
 ·replace h := h.2 hp43
  refine xcondF' (decide_eq_false hp43) rfl ?_
  refine xexit ?_
  refine xthen_exit ?_
  refine xthen_exit ?_
  refine xin_same rfl ?_
  refine xthen ?_
  refine sr_ ?_
  refine v_ (qv_loadP 0 [] ((List.map E_palinode_api_Span f32.l).flatten) [] sq_ sl_ sl_ (part_all (seg_lenE (by rfl))) ShpC.h rfl rfl) ?_
  refine xstoreQ 1 [] ((List.map E_palinode_api_Span ((Arr.rep 10 (0, 0))).l).flatten) [] ((List.map E_palinode_api_Span f32.l).flatten) ShpC.h rfl rfl rfl rfl rfl ?_
  refine nt_ ?_
  refine xretc ?_
  replace h := h.symm
  subst h
  exact xretL (rs := [.cell 0 29]) (ss := [.agg ((List.map E_palinode_api_Span f32.l).flatten)]) hg rfl (by refine RetL.cell 1 ShpC.h rfl rfl (part_midE (pre := []) (mid := ((List.map E_palinode_api_Span f32.l).flatten)) (post := []) sq_ sl_ sl_ (part_all (seg_lenE (by rfl)))) (len_midE (pre := []) (mid := ((List.map E_palinode_api_Span f32.l).flatten)) (post := []) sq_ sl_ sl_) wk_ ?_; exact RetL.nil) (SubM.of (.nil _) (.nil _)) ⟨rfl, rfl, rfl⟩
/-- palinoderef11.Better -/
def palinoderef11_Better_l1 (a1 : (Arr 10 (Int × Int))) (bv2 : (Arr 10 (Int × Int))) (ag1 : (Int) → Prop) (gv230 : Int) (r : Bool) : Prop :=
 ((gv230 < 10 → (0 ≤ (gv230 : Int) ∧ (gv230 : Int) < 10) ∧ ∃ y310 : Int × Int, a1.l[(gv230 : Int).toNat]? = some y310 ∧ (0 ≤ (gv230 : Int) ∧ (gv230 : Int) < 10) ∧ ∃ y312 : Int × Int, bv2.l[(gv230 : Int).toNat]? = some y312 ∧ (((y310 : Int × Int) = y312 → InR (gv230 + 1) ∧ ag1 (gv230 + 1)) ∧ (¬ ((y310 : Int × Int) = y312) → ((y310.1 < 0 → r = false) ∧ (¬ (y310.1 < 0) → ((y312.1 < 0 → r = true) ∧ (¬ (y312.1 < 0) → ((¬ (y310.1 = y312.1) → r = (decide (y310.1 < y312.1))) ∧ (¬ (¬ (y310.1 = y312.1)) → r = (decide (y312.2 < y310.2))))))))))) ∧ (¬ (gv230 < 10) → r = false))
def palinoderef11_Better_R (a1 : (Arr 10 (Int × Int))) (bv2 : (Arr 10 (Int × Int))) (r : Bool) : Prop :=
 (0 ≤ (0 : Int) ∧ (0 : Int) < 10) ∧ ∃ y15 : Int × Int, a1.l[(0 : Int).toNat]? = some y15 ∧ (0 ≤ (0 : Int) ∧ (0 : Int) < 10) ∧ ∃ y17 : Int × Int, bv2.l[(0 : Int).toNat]? = some y17 ∧ ((¬ (y15.2 = y17.2) → (0 ≤ (0 : Int) ∧ (0 : Int) < 10) ∧ ∃ y21 : Int × Int, a1.l[(0 : Int).toNat]? = some y21 ∧ (0 ≤ (0 : Int) ∧ (0 : Int) < 10) ∧ ∃ y23 : Int × Int, bv2.l[(0 : Int).toNat]? = some y23 ∧ r = (decide (y23.2 < y21.2))) ∧ (¬ (¬ (y15.2 = y17.2)) → LoopR (fun ag1 s => palinoderef11_Better_l1 a1 bv2 ag1 s r) 1))
set_option maxHeartbeats 4000000 in
theorem palinoderef11_Better_con (a1 : (Arr 10 (Int × Int))) (bv2 : (Arr 10 (Int × Int))) (r : Bool) (h : palinoderef11_Better_R a1 bv2 r) : Con Try.prog 25 [.agg ((List.map E_palinode_api_Span a1.l).flatten), .agg ((List.map E_palinode_api_Span bv2.l).flatten)] [] [] (Ret (.v (.bool r))) := by
 refine xenter Try.func25 rfl rfl fun g hg => ?_
 simp only [Try.ntmps25, slots]
 refine sr_ ?_
 refine xbox rfl rfl rfl rfl fun b2 => ?_
 refine xbox rfl rfl rfl rfl fun b3 => ?_
 refine as_ ?_
 refine nt_ ?_
 refine xseq ?_
 refine sr_ ?_
 refine vp_ (qv_fieldAddrB FldC.h rfl) ?_
 obtain ⟨h14, h⟩ := h
 obtain ⟨y15, h14b, h⟩ := h
 refine vp_ (pv_indexAddrBA h14 UndC.h ShpC.h rfl rfl) ?_
 refine vp_ (qv_fieldAddrB FldC.h rfl) ?_
 refine v_ (qv_loadA (f := E_palinode_api_Span) (a := a1) (k := 2) (off := 1) (i := (0 : Int).toNat) 1 [] [] h14b sq_ so_ (by decide) rfl ShpC.h rfl rfl) ?_
 refine vp_ (qv_fieldAddrB FldC.h rfl) ?_
 obtain ⟨h16, h⟩ := h
 obtain ⟨y17, h16b, h⟩ := h
 refine vp_ (pv_indexAddrBA h16 UndC.h ShpC.h rfl rfl) ?_
 refine vp_ (qv_fieldAddrB FldC.h rfl) ?_
 refine v_ (qv_loadA (f := E_palinode_api_Span) (a := bv2) (k := 2) (off := 1) (i := (0 : Int).toNat) 0 [] [] h16b sq_ so_ (by decide) rfl ShpC.h rfl rfl) ?_
 refine vp_ (pv_bin2 rfl rfl rfl) ?_
 refine nt_ ?_
 by_cases hp19 : ¬ (y15.2 = y17.2)
 ·replace h := h.1 hp19
  refine xcondT' (not_t (decide_eq_false hp19)) rfl ?_
  refine sr_ ?_
  refine vp_ (qv_fieldAddrB FldC.h rfl) ?_
  obtain ⟨h20, h⟩ := h
  obtain ⟨y21, h20b, h⟩ := h
  refine vp_ (pv_indexAddrBA h20 UndC.h ShpC.h rfl rfl) ?_
  refine vp_ (qv_fieldAddrB FldC.h rfl) ?_
  refine v_ (qv_loadA (f := E_palinode_api_Span) (a := a1) (k := 2) (off := 1) (i := (0 : Int).toNat) 1 [] [] h20b sq_ so_ (by decide) rfl ShpC.h rfl rfl) ?_
  refine vp_ (qv_fieldAddrB FldC.h rfl) ?_
  obtain ⟨h22, h⟩ := h
  obtain ⟨y23, h22b, h⟩ := h
  refine vp_ (pv_indexAddrBA h22 UndC.h ShpC.h rfl rfl) ?_
  refine vp_ (qv_fieldAddrB FldC.h rfl) ?_
  refine v_ (qv_loadA (f := E_palinode_api_Span) (a := bv2) (k := 2) (off := 1) (i := (0 : Int).toNat) 0 [] [] h22b sq_ so_ (by decide) rfl ShpC.h rfl rfl) ?_
  refine vp_ (pv_bin2 rfl rfl rfl) ?_
  refine as_ ?_
  refine nt_ ?_
  refine xretc ?_
  refine xthen_ret ?_
  replace h := h.symm
  subst h
  exact xret1 hg rfl rfl (.refl _) (SubM.of (.nil _) (.nil _)) ⟨rfl, rfl, rfl⟩
 ·replace h := h.2 hp19
  refine xcondF' (not_f (decide_eq_true (Decidable.of_not_not hp19))) rfl ?_
  refine xskipc ?_
  refine xthen ?_
  refine xseq ?_
  refine sr_ ?_
  refine as_ ?_
  refine nt_ ?_
  refine xblock ?_
  obtain ⟨Inv, ⟨m0, hI⟩, hS⟩ := h
  refine xloop (fun σ m => ∃ (gv230 : Int), Inv gv230 m ∧ σ = ⟨[(2, .v (.pointer (some ⟨b2, 0, none⟩))), (3, .v (.pointer (some ⟨b3, 0, none⟩))), (5, .v (.int .i64 gv230))], [⟨b3, 31, ((List.map E_palinode_api_Span bv2.l).flatten)⟩, ⟨b2, 31, ((List.map E_palinode_api_Span a1.l).flatten)⟩], []⟩) ⟨1, hI, rfl⟩ ⟨lk_, (SubM.of (.keep rfl rfl (.refl _) (.keep rfl rfl (.refl _) (.nil _))) (.nil _))⟩ ?_
  rintro _ m ⟨gv230, hI, rfl⟩
  obtain ⟨ag1, hag1, h⟩ : ∃ ag, (∀ s', ag s' → ∃ m', m' < m ∧ Inv s' m') ∧ palinoderef11_Better_l1 a1 bv2 ag gv230 r := ⟨_, fun _ h => h, hS gv230 _ hI⟩
  clear hS hI
  refine xseq ?_
  refine sr_ ?_
  refine mv_ ?_
  refine vp_ (pv_bin2 rfl rfl rfl) ?_
  refine nt_ ?_
  by_cases hp285 : gv230 < 10
  ·replace h := h.1 hp285
   refine xcondT' (decide_eq_true hp285) rfl ?_
   refine xskipc ?_
   refine xthen ?_
   refine xseq ?_
   refine xblock ?_
   refine sr_ ?_
   refine mv_ ?_
   refine vp_ (qv_fieldAddrB FldC.h rfl) ?_
   obtain ⟨h309, h⟩ := h
   obtain ⟨y310, h309b, h⟩ := h
   refine vp_ (pv_indexAddrBA h309 UndC.h ShpC.h rfl rfl) ?_
   refine v_ (qv_loadA (f := E_palinode_api_Span) (a := a1) (k := 2) (off := 0) (i := (gv230 : Int).toNat) 1 [] [] h309b sq_ so_ (by decide) (by first | rfl | exact part_all sl_) ShpC.h rfl rfl) ?_
   refine xalloc InfC.h rfl rfl fun b6 => ?_
   refine xstore 0 ShpC.h rfl rfl rfl rfl rfl rfl rfl ?_
   refine nt_ ?_
   refine sr_ ?_
   refine mv_ ?_
   refine vp_ (qv_fieldAddrB FldC.h rfl) ?_
   obtain ⟨h311, h⟩ := h
   obtain ⟨y312, h311b, h⟩ := h
   refine vp_ (pv_indexAddrBA h311 UndC.h ShpC.h rfl rfl) ?_
   refine v_ (qv_loadA (f := E_palinode_api_Span) (a := bv2) (k := 2) (off := 0) (i := (gv230 : Int).toNat) 1 [] [] h311b sq_ so_ (by decide) (by first | rfl | exact part_all sl_) ShpC.h rfl rfl) ?_
   refine xalloc InfC.h rfl rfl fun b7 => ?_
   refine xstore 0 ShpC.h rfl rfl rfl rfl rfl rfl rfl ?_
   refine nt_ ?_
   refine xseq ?_
   refine sr_ ?_
   refine v_ (qv_loadB 1 ShpC.h rfl rfl rfl rfl) ?_
   refine v_ (qv_loadB 0 ShpC.h rfl rfl rfl rfl) ?_
   refine vp_ (pv_eqAgg (f := E_palinode_api_Span) (a := y310) (b := y312) eqc_28 (by decide) (by kernel_rfl) ev_ ev_) ?_
   refine nt_ ?_
   by_cases hp316 : (y310 : Int × Int) = y312
   ·replace h := h.1 hp316
    refine xcondT' (decide_eq_true hp316) rfl ?_
    refine xexit ?_
    refine xthen_exit ?_
    refine xin_same rfl ?_
    refine xthen ?_
    refine xregion ?_
    refine mv_ ?_
    obtain ⟨h317, h⟩ := h
    refine vp_ (pv_addI h317 rfl rfl) ?_
    refine as_ ?_
    refine xnil ?_
    obtain ⟨m', hm, hI⟩ := hag1 _ h
    exact xagain ⟨(gv230 + 1), hI, rfl⟩ hm ⟨lk_, (SubM.of (.drop (.drop (.keep rfl rfl (.refl _) (.keep rfl rfl (.refl _) (.nil _))))) (.nil _))⟩
   ·replace h := h.2 hp316
    refine xcondF' (decide_eq_false hp316) rfl ?_
    refine xskipc ?_
    refine xthen ?_
    refine xseq ?_
    refine sr_ ?_
    refine vp_ (qv_fieldAddrB FldC.h rfl) ?_
    refine v_ (qv_loadB 1 ShpC.h rfl rfl rfl rfl) ?_
    refine vp_ (pv_bin2 rfl rfl rfl) ?_
    refine nt_ ?_
    by_cases hp321 : y310.1 < 0
    ·replace h := h.1 hp321
     refine xcondT' (decide_eq_true hp321) rfl ?_
     refine sr_ ?_
     refine as_ ?_
     refine nt_ ?_
     refine xretc ?_
     refine xthen_ret ?_
     refine xin_ret ?_
     refine xthen_ret ?_
     refine xthen_ret ?_
     refine xin_ret ?_
     refine xthen_ret ?_
     replace h := h.symm
     subst h
     exact xret1 hg rfl rfl (.refl _) (SubM.of (.nil _) (.nil _)) ⟨rfl, rfl, rfl⟩
    ·replace h := h.2 hp321
     refine xcondF' (decide_eq_false hp321) rfl ?_
     refine xskipc ?_
     refine xthen ?_
     refine xseq ?_
     refine sr_ ?_
     refine vp_ (qv_fieldAddrB FldC.h rfl) ?_
     refine v_ (qv_loadB 0 ShpC.h rfl rfl rfl rfl) ?_
     refine vp_ (pv_bin2 rfl rfl rfl) ?_
     refine nt_ ?_
     by_cases hp325 : y312.1 < 0
     ·replace h := h.1 hp325
      refine xcondT' (decide_eq_true hp325) rfl ?_
      refine sr_ ?_
      refine as_ ?_
      refine nt_ ?_
      refine xretc ?_
      refine xthen_ret ?_
      refine xin_ret ?_
      refine xthen_ret ?_
      refine xthen_ret ?_
      refine xin_ret ?_
      refine xthen_ret ?_
      replace h := h.symm
      subst h
      exact xret1 hg rfl rfl (.refl _) (SubM.of (.nil _) (.nil _)) ⟨rfl, rfl, rfl⟩
     ·replace h := h.2 hp325
      refine xcondF' (decide_eq_false hp325) rfl ?_
      refine xskipc ?_
      refine xthen ?_
      refine xseq ?_
      refine sr_ ?_
      refine vp_ (qv_fieldAddrB FldC.h rfl) ?_
      refine v_ (qv_loadB 1 ShpC.h rfl rfl rfl rfl) ?_
      refine vp_ (qv_fieldAddrB FldC.h rfl) ?_
      refine v_ (qv_loadB 0 ShpC.h rfl rfl rfl rfl) ?_
      refine vp_ (pv_bin2 rfl rfl rfl) ?_
      refine nt_ ?_
      by_cases hp330 : ¬ (y310.1 = y312.1)
      ·replace h := h.1 hp330
       refine xcondT' (not_t (decide_eq_false hp330)) rfl ?_
       refine sr_ ?_
       refine vp_ (qv_fieldAddrB FldC.h rfl) ?_
       refine v_ (qv_loadB 1 ShpC.h rfl rfl rfl rfl) ?_
       refine vp_ (qv_fieldAddrB FldC.h rfl) ?_
       refine v_ (qv_loadB 0 ShpC.h rfl rfl rfl rfl) ?_
       refine vp_ (pv_bin2 rfl rfl rfl) ?_
       refine as_ ?_
       refine nt_ ?_
       refine xretc ?_
       refine xthen_ret ?_
       refine xin_ret ?_
       refine xthen_ret ?_
       refine xthen_ret ?_
       refine xin_ret ?_
       refine xthen_ret ?_
       replace h := h.symm
       subst h
       exact xret1 hg rfl rfl (.refl _) (SubM.of (.nil _) (.nil _)) ⟨rfl, rfl, rfl⟩
      ·replace h := h.2 hp330
       refine xcondF' (not_f (decide_eq_true (Decidable.of_not_not hp330))) rfl ?_
       refine xskipc ?_
       refine xthen ?_
       refine sr_ ?_
       refine vp_ (qv_fieldAddrB FldC.h rfl) ?_
       refine v_ (qv_loadB 1 ShpC.h rfl rfl rfl rfl) ?_
       refine vp_ (qv_fieldAddrB FldC.h rfl) ?_
       refine v_ (qv_loadB 0 ShpC.h rfl rfl rfl rfl) ?_
       refine vp_ (pv_bin2 rfl rfl rfl) ?_
       refine as_ ?_
       refine nt_ ?_
       refine xretc ?_
       refine xin_ret ?_
       refine xthen_ret ?_
       refine xthen_ret ?_
       refine xin_ret ?_
       refine xthen_ret ?_
       replace h := h.symm
       subst h
       exact xret1 hg rfl rfl (.refl _) (SubM.of (.nil _) (.nil _)) ⟨rfl, rfl, rfl⟩
  ·replace h := h.2 hp285
   refine xcondF' (decide_eq_false hp285) rfl ?_
   refine xexit ?_
   refine xthen_exit ?_
   refine xthen_exit ?_
   refine xin_same rfl ?_
   refine xthen ?_
   refine sr_ ?_
   refine as_ ?_
   refine nt_ ?_
   refine xretc ?_
   replace h := h.symm
   subst h
   exact xret1 hg rfl rfl (.refl _) (SubM.of (.nil _) (.nil _)) ⟨rfl, rfl, rfl⟩
/-- palinoderef11.row -/
def palinoderef11_row_R (l1 : List (Int × Int × Int × Int)) (ahead2 : List (Int × Int × Int × Int)) (r : (List (Int × Int × Int × Int))) : Prop :=
 Room ((([] : List (Int × Int × Int × Int))).length + ahead2.length) 32 ∧ Room (((([] : List (Int × Int × Int × Int)) ++ ahead2)).length + l1.length) 32 ∧ r = ((([] : List (Int × Int × Int × Int)) ++ ahead2) ++ l1)
set_option maxHeartbeats 4000000 in
theorem palinoderef11_row_con (l1 : List (Int × Int × Int × Int)) (ahead2 : List (Int × Int × Int × Int)) (r : (List (Int × Int × Int × Int))) (h : palinoderef11_row_R l1 ahead2 r) : Con Try.prog 45 [.sl 4 none (List.map E_palinode_palinoderef11_Task l1), .sl 4 none (List.map E_palinode_palinoderef11_Task ahead2)] [] [] (RetM 4 88 E_palinode_palinoderef11_Task r) := by
 refine xenter Try.func45 rfl rfl fun g hg => ?_
 simp only [Try.ntmps45, slots]
 refine sr_ ?_
 refine as_ ?_
 refine nt_ ?_
 refine sr_ ?_
 refine xbuildSliceM (f := E_palinode_palinoderef11_Task) ([] : List (Int × Int × Int × Int)) UndC.h InfC.h rfl rfl wr_ rfl rfl rfl rfl fun s5 => ?_
 refine mv_ ?_
 obtain ⟨h3, h⟩ := h
 refine xappendM (l := ([] : List (Int × Int × Int × Int))) (l2 := ahead2) 0 h3 UndC.h InfC.h rfl rfl rfl (.refl _) rfl rfl rfl fun i4 => ?_
 refine mv_ ?_
 obtain ⟨h5, h⟩ := h
 refine xappendM (l := (([] : List (Int × Int × Int × Int)) ++ ahead2)) (l2 := l1) 0 h5 UndC.h InfC.h rfl rfl rfl (.refl _) rfl rfl rfl fun i6 => ?_
 refine as_ ?_
 refine nt_ ?_
 refine xretc ?_
 replace h := h.symm
 subst h
 exact xret1 hg rfl rfl (.refl _) (SubM.of (.nil _) (.keep rfl (.nil _))) ⟨i6, rfl, rfl, rfl⟩
/-- palinoderef05.Has -/
def palinoderef05_Has_l1 (c2 : UInt8) (ag1 : (UInt64 × UInt8) → Prop) (w57 : UInt64) (iv58 : UInt8) (r : Bool) : Prop :=
 (64 : Int) ≠ 0 ∧ ∃ c76 : UInt8, (c76.toNat : Int) = (((c2.toNat : Int)).tmod 64) ∧ (((iv58.toNat : Int) < (c76.toNat : Int) → (2 : Int) ≠ 0 ∧ ∃ c80 : UInt64, (c80.toNat : Int) = IntKind.u64.wrap (((w57.toNat : Int)).tdiv 2) ∧ ∃ c82 : UInt8, (c82.toNat : Int) = IntKind.u8.wrap ((iv58.toNat : Int) + 1) ∧ ag1 (c80, c82)) ∧ (¬ ((iv58.toNat : Int) < (c76.toNat : Int)) → (2 : Int) ≠ 0 ∧ ∃ c84 : UInt64, (c84.toNat : Int) = (((w57.toNat : Int)).tmod 2) ∧ r = (decide ((c84.toNat : Int) = 1))))
def palinoderef05_Has_R (sv1 : Arr 4 (UInt64)) (c2 : UInt8) (r : Bool) : Prop :=
 (64 : Int) ≠ 0 ∧ ∃ c4 : UInt8, (c4.toNat : Int) = IntKind.u8.wrap (((c2.toNat : Int)).tdiv 64) ∧ (0 ≤ ((c4.toNat : Int) : Int) ∧ ((c4.toNat : Int) : Int) < 4) ∧ ∃ y6 : UInt64, sv1.l[((c4.toNat : Int) : Int).toNat]? = some y6 ∧ LoopR (fun ag1 s => palinoderef05_Has_l1 c2 ag1 s.1 s.2 r) (y6, (0 : UInt8))
set_option maxHeartbeats 4000000 in
theorem palinoderef05_Has_con (sv1 : Arr 4 (UInt64)) (c2 : UInt8) (r : Bool) (h : palinoderef05_Has_R sv1 c2 r) : Con Try.prog 34 [.agg ((List.map ew sv1.l).flatten), .v (.int .u8 ((c2.toNat : Int)))] [] [] (Ret (.v (.bool r))) := by
 refine xenter Try.func34 rfl rfl fun g hg => ?_
 simp only [Try.ntmps34, slots]
 refine sr_ ?_
 refine xbox rfl rfl rfl rfl fun b2 => ?_
 refine as_ ?_
 refine nt_ ?_
 refine sr_ ?_
 refine mv_ ?_
 obtain ⟨h3, h⟩ := h
 obtain ⟨c4, h3r, h⟩ := h
 refine vp_ (pv_quoW h3 h3r rfl rfl rfl) ?_
 obtain ⟨h5, h⟩ := h
 obtain ⟨y6, h5b, h⟩ := h
 refine vp_ (pv_indexAddrBA h5 UndC.h ShpC.h rfl rfl) ?_
 refine v_ (qv_loadA (f := ew) (a := sv1) (k := 1) (off := 0) (i := ((c4.toNat : Int) : Int).toNat) 0 [] [] h5b sq_ so_ (by decide) rfl ShpC.h rfl rfl) ?_
 refine as_ ?_
 refine nt_ ?_
 refine xseq ?_
 refine sr_ ?_
 refine as_ ?_
 refine nt_ ?_
 refine xblock ?_
 obtain ⟨Inv, ⟨m0, hI⟩, hS⟩ := h
 refine xloop (fun σ m => ∃ (w57 : UInt64), ∃ (iv58 : UInt8), Inv (w57, iv58) m ∧ σ = ⟨[(1, .v (.int .u8 ((c2.toNat : Int)))), (5, .v (.int .u64 ((w57.toNat : Int)))), (6, .v (.int .u8 ((iv58.toNat : Int))))], [], []⟩) ⟨y6, (0 : UInt8), hI, rfl⟩ ⟨lk_, (SubM.of (.nil _) (.nil _))⟩ ?_
 rintro _ m ⟨w57, iv58, hI, rfl⟩
 obtain ⟨ag1, hag1, h⟩ : ∃ ag, (∀ s', ag s' → ∃ m', m' < m ∧ Inv s' m') ∧ palinoderef05_Has_l1 c2 ag w57 iv58 r := ⟨_, fun _ h => h, hS (w57, iv58) _ hI⟩
 clear hS hI
 refine xseq ?_
 refine sr_ ?_
 refine mv_ ?_
 refine mv_ ?_
 obtain ⟨h75, h⟩ := h
 obtain ⟨c76, h75r, h⟩ := h
 refine vp_ (pv_remW h75 h75r rfl rfl rfl) ?_
 refine vp_ (pv_bin2 rfl rfl rfl) ?_
 refine nt_ ?_
 by_cases hp78 : (iv58.toNat : Int) < (c76.toNat : Int)
 ·replace h := h.1 hp78
  refine xcondT' (decide_eq_true hp78) rfl ?_
  refine xskipc ?_
  refine xthen ?_
  refine xseq ?_
  refine xblock ?_
  refine xregion ?_
  refine mv_ ?_
  obtain ⟨h79, h⟩ := h
  obtain ⟨c80, h79r, h⟩ := h
  refine vp_ (pv_quoW h79 h79r rfl rfl rfl) ?_
  refine as_ ?_
  refine xnil ?_
  refine xin_normal ?_
  refine xthen ?_
  refine xregion ?_
  refine mv_ ?_
  obtain ⟨c82, h81, h⟩ := h
  refine vp_ (pv_wr h81 rfl rfl rfl) ?_
  refine as_ ?_
  refine xnil ?_
  obtain ⟨m', hm, hI⟩ := hag1 _ h
  exact xagain ⟨c80, c82, hI, rfl⟩ hm ⟨lk_, (SubM.of (.nil _) (.nil _))⟩
 ·replace h := h.2 hp78
  refine xcondF' (decide_eq_false hp78) rfl ?_
  refine xexit ?_
  refine xthen_exit ?_
  refine xthen_exit ?_
  refine xin_same rfl ?_
  refine xthen ?_
  refine sr_ ?_
  refine mv_ ?_
  obtain ⟨h83, h⟩ := h
  obtain ⟨c84, h83r, h⟩ := h
  refine vp_ (pv_remW h83 h83r rfl rfl rfl) ?_
  refine vp_ (pv_bin2 rfl rfl rfl) ?_
  refine as_ ?_
  refine nt_ ?_
  refine xretc ?_
  replace h := h.symm
  subst h
  exact xret1 hg rfl rfl (.refl _) (SubM.of (.nil _) (.nil _)) ⟨rfl, rfl, rfl⟩
/-- palinoderef11.Same -/
def palinoderef11_Same_l1 (sv2 : Int × Int) (text1 : List UInt8) (atv3 : Int) (ag1 : (Int) → Prop) (iv179 : Int) (r : Int) : Prop :=
 InR (sv2.2 - sv2.1) ∧ ((iv179 < (sv2.2 - sv2.1) → InR (sv2.1 + iv179) ∧ 0 ≤ ((sv2.1 + iv179) : Int) ∧ ∃ y246 : UInt8, text1[((sv2.1 + iv179) : Int).toNat]? = some y246 ∧ InR (atv3 + iv179) ∧ 0 ≤ ((atv3 + iv179) : Int) ∧ ∃ y249 : UInt8, text1[((atv3 + iv179) : Int).toNat]? = some y249 ∧ ((¬ ((y246.toNat : Int) = (y249.toNat : Int)) → r = (-1)) ∧ (¬ (¬ ((y246.toNat : Int) = (y249.toNat : Int))) → InR (iv179 + 1) ∧ ag1 (iv179 + 1)))) ∧ (¬ (iv179 < (sv2.2 - sv2.1)) → InR (atv3 + sv2.2) ∧ InR ((atv3 + sv2.2) - sv2.1) ∧ r = ((atv3 + sv2.2) - sv2.1)))
def palinoderef11_Same_R (text1 : List UInt8) (sv2 : Int × Int) (atv3 : Int) (r : Int) : Prop :=
 ((sv2.1 < 0 → r = (-1)) ∧ (¬ (sv2.1 < 0) → InR (sv2.2 - sv2.1) ∧ InR ((text1.length : Int) - atv3) ∧ ((((text1.length : Int) - atv3) < (sv2.2 - sv2.1) → r = (-1)) ∧ (¬ (((text1.length : Int) - atv3) < (sv2.2 - sv2.1)) → LoopR (fun ag1 s => palinoderef11_Same_l1 sv2 text1 atv3 ag1 s r) 0))))
set_option maxHeartbeats 4000000 in
theorem palinoderef11_Same_con (text1 : List UInt8) (sv2 : Int × Int) (atv3 : Int) (r : Int) (h : palinoderef11_Same_R text1 sv2 atv3 r) : Con Try.prog 37 [.sl 1 none (List.map eb text1), .agg [.v (.int .i64 sv2.1), .v (.int .i64 sv2.2)], .v (.int .i64 atv3)] [] [] (Ret (.v (.int .i64 r))) := by
 refine xenter Try.func37 rfl rfl fun g hg => ?_
 simp only [Try.ntmps37, slots]
 refine sr_ ?_
 refine xbox rfl rfl rfl rfl fun b4 => ?_
 refine as_ ?_
 refine nt_ ?_
 refine xseq ?_
 refine sr_ ?_
 refine vp_ (qv_fieldAddrB FldC.h rfl) ?_
 refine v_ (qv_loadB 0 ShpC.h rfl rfl rfl rfl) ?_
 refine vp_ (pv_bin2 rfl rfl rfl) ?_
 refine mv_ ?_
 by_cases hp24 : sv2.1 < 0
 ·replace h := h.1 hp24
  refine xsetB 11 (decide_eq_true hp24) rfl ?_
  refine sk_ ?_
  refine sk_ ?_
  refine sk_ ?_
  refine sk_ ?_
  refine sk_ ?_
  refine sk_ ?_
  refine sk_ ?_
  refine sk_ ?_
  refine sk_ ?_
  refine sk_ ?_
  refine pk_ ?_
  refine nt_ ?_
  refine xcondT rfl ?_
  refine sr_ ?_
  refine as_ ?_
  refine nt_ ?_
  refine xretc ?_
  refine xthen_ret ?_
  replace h := h.symm
  subst h
  exact xret1 hg rfl rfl (.refl _) (SubM.of (.nil _) (.nil _)) ⟨rfl, rfl, rfl⟩
 ·replace h := h.2 hp24
  refine xsetB 11 (decide_eq_false hp24) rfl ?_
  refine vp_ (qv_fieldAddrB FldC.h rfl) ?_
  refine v_ (qv_loadB 0 ShpC.h rfl rfl rfl rfl) ?_
  refine vp_ (qv_fieldAddrB FldC.h rfl) ?_
  refine v_ (qv_loadB 0 ShpC.h rfl rfl rfl rfl) ?_
  obtain ⟨h25, h⟩ := h
  refine vp_ (pv_subI h25 rfl rfl) ?_
  refine mv_ ?_
  refine vp_ (pv_lenM UndC.h rfl) ?_
  refine mv_ ?_
  obtain ⟨h27, h⟩ := h
  refine vp_ (pv_subI h27 rfl rfl) ?_
  refine vp_ (pv_bin2 rfl rfl rfl) ?_
  refine pk_ ?_
  refine nt_ ?_
  by_cases hp29 : ((text1.length : Int) - atv3) < (sv2.2 - sv2.1)
  ·replace h := h.1 hp29
   refine xcondT' (decide_eq_true hp29) rfl ?_
   refine sr_ ?_
   refine as_ ?_
   refine nt_ ?_
   refine xretc ?_
   refine xthen_ret ?_
   replace h := h.symm
   subst h
   exact xret1 hg rfl rfl (.refl _) (SubM.of (.nil _) (.nil _)) ⟨rfl, rfl, rfl⟩
  ·replace h := h.2 hp29
   refine xcondF' (decide_eq_false hp29) rfl ?_
   refine xskipc ?_
   refine xthen ?_
   refine xseq ?_
   refine sr_ ?_
   refine as_ ?_
   refine nt_ ?_
   refine xblock ?_
   obtain ⟨Inv, ⟨m0, hI⟩, hS⟩ := h
   refine xloop (fun σ m => ∃ (iv179 : Int), Inv iv179 m ∧ σ = ⟨[(0, .sl 1 none (List.map eb text1)), (2, .v (.int .i64 atv3)), (4, .v (.pointer (some ⟨b4, 0, none⟩))), (7, .v (.int .i64 iv179))], [⟨b4, 28, [.v (.int .i64 sv2.1), .v (.int .i64 sv2.2)]⟩], []⟩) ⟨0, hI, rfl⟩ ⟨lk_, (SubM.of (.keep rfl rfl (.refl _) (.nil _)) (.nil _))⟩ ?_
   rintro _ m ⟨iv179, hI, rfl⟩
   obtain ⟨ag1, hag1, h⟩ : ∃ ag, (∀ s', ag s' → ∃ m', m' < m ∧ Inv s' m') ∧ palinoderef11_Same_l1 sv2 text1 atv3 ag iv179 r := ⟨_, fun _ h => h, hS iv179 _ hI⟩
   clear hS hI
   refine xseq ?_
   refine sr_ ?_
   refine mv_ ?_
   refine vp_ (qv_fieldAddrB FldC.h rfl) ?_
   refine v_ (qv_loadB 0 ShpC.h rfl rfl rfl rfl) ?_
   refine vp_ (qv_fieldAddrB FldC.h rfl) ?_
   refine v_ (qv_loadB 0 ShpC.h rfl rfl rfl rfl) ?_
   obtain ⟨h220, h⟩ := h
   refine vp_ (pv_subI h220 rfl rfl) ?_
   refine vp_ (pv_bin2 rfl rfl rfl) ?_
   refine nt_ ?_
   by_cases hp222 : iv179 < (sv2.2 - sv2.1)
   ·replace h := h.1 hp222
    refine xcondT' (decide_eq_true hp222) rfl ?_
    refine xskipc ?_
    refine xthen ?_
    refine xseq ?_
    refine xblock ?_
    refine xseq ?_
    refine xregionD (m := 14) (by kernel_rfl) rfl ?_
    obtain ⟨h245, h⟩ := h
    obtain ⟨h247a, h⟩ := h
    obtain ⟨y246, h247b, h⟩ := h
    obtain ⟨h248, h⟩ := h
    obtain ⟨h250a, h⟩ := h
    obtain ⟨y249, h250b, h⟩ := h
    refine pl_ 0 rfl (pv_move rfl) ?_
    refine pl_ 1 rfl (qv_fieldAddrB FldC.h rfl) ?_
    refine pl_ 3 rfl (pv_move rfl) ?_
    refine pl_ 7 rfl (pv_move rfl) ?_
    refine pl_ 8 rfl (pv_move rfl) ?_
    refine pl_ 9 rfl (pv_move rfl) ?_
    refine pl_ 10 rfl (pv_addI h248 rfl rfl) ?_
    refine pl_ 11 rfl (pv_indexAddrM h250a h250b UndC.h ShpC.h rfl rfl) ?_
    refine xpvalE 2 [12] rfl (qv_loadB 0 ShpC.h rfl rfl rfl rfl) rfl rfl (by kernel_rfl) (by kernel_rfl) (by kernel_rfl) (fun _ _ _ _ h => h) ?_
    refine pl_ 4 rfl (pv_addI h245 rfl rfl) ?_
    refine pl_ 5 rfl (pv_indexAddrM h247a h247b UndC.h ShpC.h rfl rfl) ?_
    refine xpvalE 6 [12] rfl (qv_load ShpC.h rfl rfl rfl) rfl rfl (by kernel_rfl) (by kernel_rfl) (by kernel_rfl) (fun _ _ _ _ h => h) ?_
    refine xpvalE 12 [] rfl (qv_load ShpC.h rfl rfl rfl) rfl rfl (by kernel_rfl) (by kernel_rfl) (by kernel_rfl) (fun _ _ _ _ h => h) ?_
    refine pl_ 13 rfl (pv_bin2 rfl rfl rfl) ?_
    refine xpdone (by kernel_rfl) ?_
    refine xthen ?_
    by_cases hp252 : ¬ ((y246.toNat : Int) = (y249.toNat : Int))
    ·replace h := h.1 hp252
     refine xcondT' (not_t (decide_eq_false hp252)) rfl ?_
     refine sr_ ?_
     refine as_ ?_
     refine nt_ ?_
     refine xretc ?_
     refine xin_ret ?_
     refine xthen_ret ?_
     refine xthen_ret ?_
     refine xin_ret ?_
     refine xthen_ret ?_
     replace h := h.symm
     subst h
     exact xret1 hg rfl rfl (.refl _) (SubM.of (.nil _) (.nil _)) ⟨rfl, rfl, rfl⟩
    ·replace h := h.2 hp252
     refine xcondF' (not_f (decide_eq_true (Decidable.of_not_not hp252))) rfl ?_
     refine xskipc ?_
     refine xin_normal ?_
     refine xthen ?_
     refine xregion ?_
     refine mv_ ?_
     obtain ⟨h253, h⟩ := h
     refine vp_ (pv_addI h253 rfl rfl) ?_
     refine as_ ?_
     refine xnil ?_
     obtain ⟨m', hm, hI⟩ := hag1 _ h
     exact xagain ⟨(iv179 + 1), hI, rfl⟩ hm ⟨lk_, (SubM.of (.keep rfl rfl (.refl _) (.nil _)) (.nil _))⟩
   ·replace h := h.2 hp222
    refine xcondF' (decide_eq_false hp222) rfl ?_
    refine xexit ?_
    refine xthen_exit ?_
    refine xthen_exit ?_
    refine xin_same rfl ?_
    refine xthen ?_
    refine sr_ ?_
    refine mv_ ?_
    refine vp_ (qv_fieldAddrB FldC.h rfl) ?_
    refine v_ (qv_loadB 0 ShpC.h rfl rfl rfl rfl) ?_
    obtain ⟨h254, h⟩ := h
    refine vp_ (pv_addI h254 rfl rfl) ?_
    refine vp_ (qv_fieldAddrB FldC.h rfl) ?_
    refine v_ (qv_loadB 0 ShpC.h rfl rfl rfl rfl) ?_
    obtain ⟨h255, h⟩ := h
    refine vp_ (pv_subI h255 rfl rfl) ?_
    refine as_ ?_
    refine nt_ ?_
    refine xretc ?_
    replace h := h.symm
    subst h
    exact xret1 hg rfl rfl (.refl _) (SubM.of (.nil _) (.nil _)) ⟨rfl, rfl, rfl⟩
end Go.Proofs.Ytncnfohhjbadgaa
