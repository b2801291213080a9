
/- What functions' texts ask for, and the walks that show it (printed by a program). -/
import Derived.Test.YtpddiffpanihdaaGKp1
namespace Go.Proofs.Ytpddiffpanihdaa
/-- (*tree.Builder).put -/
def tree_Builder_put_R (o1 : ((List (Int × Int × Int × Int × Int × Int × (Arr 4 (UInt64)))) × Int) × (List UInt8) × Int × (Arr 10 (Bool))) (nv3 : Int × Int × Int × Int × Int × Int × (Arr 4 (UInt64))) (r : Int × (((List (Int × Int × Int × Int × Int × Int × (Arr 4 (UInt64)))) × Int) × (List UInt8) × Int × (Arr 10 (Bool)))) : Prop :=
 ((1000 ≤ (o1.1.1.length : Int) → r = ((-1), ((o1.1.1, o1.1.2), o1.2.1, o1.2.2.1, o1.2.2.2))) ∧ (¬ (1000 ≤ (o1.1.1.length : Int)) → ∃ y28 : Bool, tree_isNode_R nv3 (o1.1.1.length : Int) o1.1.2 y28 ∧ ((¬ (y28 = true) → r = ((-1), ((o1.1.1, o1.1.2), o1.2.1, o1.2.2.1, o1.2.2.2))) ∧ (¬ (¬ (y28 = true)) → Room (o1.1.1.length + ([nv3]).length) 80 ∧ InR ((((o1.1.1 ++ [nv3])).length : Int) - 1) ∧ r = (((((o1.1.1 ++ [nv3])).length : Int) - 1), (((o1.1.1 ++ [nv3]), o1.1.2), o1.2.1, o1.2.2.1, o1.2.2.2))))))
def tree_Builder_put_ev (fuel : Nat) (o1 : ((List (Int × Int × Int × Int × Int × Int × (Arr 4 (UInt64)))) × Int) × (List UInt8) × Int × (Arr 10 (Bool))) (nv3 : Int × Int × Int × Int × Int × Int × (Arr 4 (UInt64))) : Option (Int × (((List (Int × Int × Int × Int × Int × Int × (Arr 4 (UInt64)))) × Int) × (List UInt8) × Int × (Arr 10 (Bool)))) :=
 (if 1000 ≤ (o1.1.1.length : Int) then some ((-1), ((o1.1.1, o1.1.2), o1.2.1, o1.2.2.1, o1.2.2.2)) else ((tree_isNode_ev fuel nv3 (o1.1.1.length : Int) o1.1.2).bind fun y28 => (if ¬ (y28 = true) then some ((-1), ((o1.1.1, o1.1.2), o1.2.1, o1.2.2.1, o1.2.2.2)) else (if Room (o1.1.1.length + ([nv3]).length) 80 then (if InR ((((o1.1.1 ++ [nv3])).length : Int) - 1) then some (((((o1.1.1 ++ [nv3])).length : Int) - 1), (((o1.1.1 ++ [nv3]), o1.1.2), o1.2.1, o1.2.2.1, o1.2.2.2)) else none) else none))))
theorem tree_Builder_put_ok {fuel : Nat} {o1 : ((List (Int × Int × Int × Int × Int × Int × (Arr 4 (UInt64)))) × Int) × (List UInt8) × Int × (Arr 10 (Bool))} {nv3 : Int × Int × Int × Int × Int × Int × (Arr 4 (UInt64))} {r : Int × (((List (Int × Int × Int × Int × Int × Int × (Arr 4 (UInt64)))) × Int) × (List UInt8) × Int × (Arr 10 (Bool)))} (h : tree_Builder_put_ev fuel o1 nv3 = some r) : tree_Builder_put_R o1 nv3 r := by
 unfold tree_Builder_put_ev at h
 unfold tree_Builder_put_R
 refine ⟨fun g35 => ?_, fun g35 => ?_⟩
 ·rw [if_pos g35] at h
  exact (Option.some.inj h).symm
 ·rw [if_neg g35] at h
  obtain ⟨q36, g36, h⟩ := bind_ok h
  refine ⟨q36, tree_isNode_ok g36, ?_⟩
  refine ⟨fun g37 => ?_, fun g37 => ?_⟩
  ·rw [if_pos g37] at h
   exact (Option.some.inj h).symm
  ·rw [if_neg g37] at h
   obtain ⟨g38, h⟩ := if_ok h
   refine ⟨g38, ?_⟩
   obtain ⟨g39, h⟩ := if_ok h
   refine ⟨g39, ?_⟩
   exact (Option.some.inj h).symm
set_option maxHeartbeats 4000000 in
theorem tree_Builder_put_con (o1 : ((List (Int × Int × Int × Int × Int × Int × (Arr 4 (UInt64)))) × Int) × (List UInt8) × Int × (Arr 10 (Bool))) (nv3 : Int × Int × Int × Int × Int × Int × (Arr 4 (UInt64))) (bx0 : Nat) (ia2 : Option (Nat × Nat)) (r : Int × (((List (Int × Int × Int × Int × Int × Int × (Arr 4 (UInt64)))) × Int) × (List UInt8) × Int × (Arr 10 (Bool)))) (h : tree_Builder_put_R o1 nv3 r) : Con Try.prog 31 [.v (.pointer (some ⟨bx0, 0, none⟩)), .agg ([.v (.int .i64 nv3.1), .v (.int .i64 nv3.2.1), .v (.int .i64 nv3.2.2.1), .v (.int .i64 nv3.2.2.2.1), .v (.int .i64 nv3.2.2.2.2.1), .v (.int .i64 nv3.2.2.2.2.2.1)] ++ (List.map ew nv3.2.2.2.2.2.2.l).flatten)] [⟨bx0, 50, ([.sl 10 (some ia2) (List.map E_palinode_api_Node o1.1.1), .v (.int .i64 o1.1.2), .sl 1 none (List.map eb o1.2.1), .v (.int .i64 o1.2.2.1)] ++ (List.map eB o1.2.2.2.l).flatten)⟩] [⟨ia2, 42, 10, o1.1.1.length⟩] (fun rr bx tk => ∃ j1, rr = .v (.int .i64 r.1) ∧ bx = [⟨bx0, 50, ([.sl 10 (some j1) (List.map E_palinode_api_Node r.2.1.1), .v (.int .i64 r.2.1.2), .sl 1 none (List.map eb r.2.2.1), .v (.int .i64 r.2.2.2.1)] ++ (List.map eB r.2.2.2.2.l).flatten)⟩] ∧ tk = [⟨j1, 42, 10, r.2.1.1.length⟩]) := by
 refine xenter Try.func31 rfl rfl fun g hg => ?_
 simp only [Try.ntmps31, slots]
 refine sr_ ?_
 refine xbox rfl rfl rfl rfl fun b3 => ?_
 refine as_ ?_
 refine nt_ ?_
 refine xseq ?_
 refine xseq ?_
 refine xregionD (m := 20) (by kernel_rfl) rfl ?_
 refine pl_ 0 rfl (pv_move rfl) ?_
 refine pl_ 1 rfl (pv_nilCheck rfl) ?_
 refine pl_ 2 rfl (qv_fieldAddrB FldC.h rfl) ?_
 refine xpvalE 3 [] rfl (qv_loadB 1 ShpC.h rfl rfl rfl rfl) rfl rfl (by kernel_rfl) (by kernel_rfl) (by kernel_rfl) (fun _ _ _ _ h => h) ?_
 refine pl_ 4 rfl (pv_lenM UndC.h rfl) ?_
 refine pl_ 5 rfl (pv_bin2 rfl rfl rfl) ?_
 refine pl_ 6 rfl (pv_move rfl) ?_
 by_cases hp25 : 1000 ≤ (o1.1.1.length : Int)
 ·replace h := h.1 hp25
  refine psetB 11 (decide_eq_true hp25) rfl ?_
  refine xpskip 7 rfl rfl rfl (by kernel_rfl) (by kernel_rfl) (by kernel_rfl) (fun _ _ _ _ h => h) ?_
  refine xpskip 8 rfl rfl rfl (by kernel_rfl) (by kernel_rfl) (by kernel_rfl) (fun _ _ _ _ h => h) ?_
  refine xpskip 9 rfl rfl rfl (by kernel_rfl) (by kernel_rfl) (by kernel_rfl) (fun _ _ _ _ h => h) ?_
  refine xpskip 10 rfl rfl rfl (by kernel_rfl) (by kernel_rfl) (by kernel_rfl) (fun _ _ _ _ h => h) ?_
  refine xpskip 11 rfl rfl rfl (by kernel_rfl) (by kernel_rfl) (by kernel_rfl) (fun _ _ _ _ h => h) ?_
  refine xpskip 12 rfl rfl rfl (by kernel_rfl) (by kernel_rfl) (by kernel_rfl) (fun _ _ _ _ h => h) ?_
  refine xpskip 13 rfl rfl rfl (by kernel_rfl) (by kernel_rfl) (by kernel_rfl) (fun _ _ _ _ h => h) ?_
  refine xpskip 14 rfl rfl rfl (by kernel_rfl) (by kernel_rfl) (by kernel_rfl) (fun _ _ _ _ h => h) ?_
  refine xpskip 15 rfl rfl rfl (by kernel_rfl) (by kernel_rfl) (by kernel_rfl) (fun _ _ _ _ h => h) ?_
  refine xpskip 16 rfl rfl rfl (by kernel_rfl) (by kernel_rfl) (by kernel_rfl) (fun _ _ _ _ h => h) ?_
  refine xpskip 17 rfl rfl rfl (by kernel_rfl) (by kernel_rfl) (by kernel_rfl) (fun _ _ _ _ h => h) ?_
  refine xpskip 18 rfl rfl rfl (by kernel_rfl) (by kernel_rfl) (by kernel_rfl) (fun _ _ _ _ h => h) ?_
  refine pl_ 19 rfl (pv_pick rfl rfl) ?_
  refine xpdone (by kernel_rfl) ?_
  refine xthen ?_
  refine xcondT rfl ?_
  refine sr_ ?_
  refine as_ ?_
  refine nt_ ?_
  refine xretc ?_
  refine xthen_ret ?_
  replace h := h.symm
  subst h
  exact xret1 hg rfl rfl (.refl _) (SubM.of (.drop (.keep rfl rfl (.refl _) (.nil _))) (.keep rfl (.nil _))) ⟨ia2, rfl, rfl, rfl⟩
 ·replace h := h.2 hp25
  refine psetB 11 (decide_eq_false hp25) rfl ?_
  obtain ⟨y28, h27, h⟩ := h
  refine pl_ 8 rfl (pv_move rfl) ?_
  refine pl_ 9 rfl (pv_nilCheck rfl) ?_
  refine pl_ 10 rfl (qv_fieldAddrB FldC.h rfl) ?_
  refine pl_ 13 rfl (pv_move rfl) ?_
  refine pl_ 14 rfl (pv_nilCheck rfl) ?_
  refine pl_ 15 rfl (qv_fieldAddrB FldC.h rfl) ?_
  refine xpvalE 7 [11, 12, 16] rfl (qv_loadP 0 [] ([.v (.int .i64 nv3.1), .v (.int .i64 nv3.2.1), .v (.int .i64 nv3.2.2.1), .v (.int .i64 nv3.2.2.2.1), .v (.int .i64 nv3.2.2.2.2.1), .v (.int .i64 nv3.2.2.2.2.2.1)] ++ (List.map ew nv3.2.2.2.2.2.2.l).flatten) [] sq_ sl_ sl_ (part_all sl_) ShpC.h rfl rfl) rfl rfl (by kernel_rfl) (by kernel_rfl) (by kernel_rfl) (fun _ _ _ _ h => h) ?_
  refine xpvalE 11 [16] rfl (qv_loadB 1 ShpC.h rfl rfl rfl rfl) rfl rfl (by kernel_rfl) (by kernel_rfl) (by kernel_rfl) (fun _ _ _ _ h => h) ?_
  refine pl_ 12 rfl (pv_lenM UndC.h rfl) ?_
  refine xpvalE 16 [] rfl (qv_loadB 1 ShpC.h rfl rfl rfl rfl) rfl rfl (by kernel_rfl) (by kernel_rfl) (by kernel_rfl) (fun _ _ _ _ h => h) ?_
  refine xpstep (i := 17) (by kernel_rfl) rfl ?_
  refine wcall0 (tree_isNode_con nv3 (o1.1.1.length : Int) o1.1.2 _ h27) Try.func37 (by kernel_rfl) rfl (.cons rfl (.refl _) (.cons rfl (.refl _) (.cons rfl (.refl _) .nil))) rfl rfl ?_
  refine pl_ 18 rfl (pv_not rfl) ?_
  refine pl_ 19 rfl (pv_pick rfl rfl) ?_
  refine xpdone (by kernel_rfl) ?_
  refine xthen ?_
  by_cases hp29 : ¬ (y28 = true)
  ·replace h := h.1 hp29
   refine xcondT' (not_t (b_f hp29)) rfl ?_
   refine sr_ ?_
   refine as_ ?_
   refine nt_ ?_
   refine xretc ?_
   refine xthen_ret ?_
   replace h := h.symm
   subst h
   exact xret1 hg rfl rfl (.refl _) (SubM.of (.drop (.keep rfl rfl (.refl _) (.nil _))) (.keep rfl (.nil _))) ⟨ia2, rfl, rfl, rfl⟩
  ·replace h := h.2 hp29
   refine xcondF' (not_f (Decidable.of_not_not hp29)) rfl ?_
   refine xskipc ?_
   refine xthen ?_
   refine xseq ?_
   refine xregionD (m := 11) (by kernel_rfl) rfl ?_
   obtain ⟨h32, h⟩ := h
   refine pl_ 0 rfl (pv_move rfl) ?_
   refine pl_ 1 rfl (pv_move rfl) ?_
   refine pl_ 2 rfl (pv_nilCheck rfl) ?_
   refine pl_ 3 rfl (qv_fieldAddrB FldC.h rfl) ?_
   refine xpvalE 4 [5, 6] rfl (qv_loadB 1 ShpC.h rfl rfl rfl rfl) rfl rfl (by kernel_rfl) (by kernel_rfl) (by kernel_rfl) (fun _ _ _ _ h => h) ?_
   refine xpvalE 5 [] rfl (qv_loadP 0 [] ([.v (.int .i64 nv3.1), .v (.int .i64 nv3.2.1), .v (.int .i64 nv3.2.2.1), .v (.int .i64 nv3.2.2.2.1), .v (.int .i64 nv3.2.2.2.2.1), .v (.int .i64 nv3.2.2.2.2.2.1)] ++ (List.map ew nv3.2.2.2.2.2.2.l).flatten) [] sq_ sl_ sl_ (part_all sl_) ShpC.h rfl rfl) rfl rfl (by kernel_rfl) (by kernel_rfl) (by kernel_rfl) (fun _ _ _ _ h => h) ?_
   refine xpstep (i := 6) (by kernel_rfl) rfl ?_
   refine wbuildSliceME (f := E_palinode_api_Node) [nv3] UndC.h InfC.h rfl (.cons rfl (beq_of sl_) rfl rfl .nil) wr_ rfl rfl rfl rfl fun s31 => ?_
   refine xpstep (i := 7) (by kernel_rfl) rfl ?_
   refine wappendM (l := o1.1.1) (l2 := [nv3]) 1 h32 UndC.h InfC.h rfl rfl rfl (.refl _) rfl rfl rfl fun i33 => ?_
   refine pl_ 8 rfl (pv_nilCheck rfl) ?_
   refine pl_ 9 rfl (qv_fieldAddrB FldC.h rfl) ?_
   refine xpstep (i := 10) (by kernel_rfl) rfl ?_
   refine wstore 1 ShpC.h rfl rfl rfl rfl rfl rfl rfl ?_
   refine xpdone (by kernel_rfl) ?_
   refine xthen ?_
   refine sr_ ?_
   refine mv_ ?_
   refine vp_ (pv_nilCheck rfl) ?_
   refine vp_ (qv_fieldAddrB FldC.h rfl) ?_
   refine v_ (qv_loadB 1 ShpC.h rfl rfl rfl rfl) ?_
   refine vp_ (pv_lenM UndC.h rfl) ?_
   obtain ⟨h35, h⟩ := h
   refine vp_ (pv_subI h35 rfl rfl) ?_
   refine as_ ?_
   refine nt_ ?_
   refine xretc ?_
   replace h := h.symm
   subst h
   exact xret1 hg rfl rfl (.refl _) (SubM.of (.drop (.keep rfl rfl (.refl _) (.nil _))) (.drop (.keep rfl (.nil _)))) ⟨i33, rfl, rfl, rfl⟩
/-- (*tree.Builder).Bol -/
def tree_Builder_Bol_R (o1 : ((List (Int × Int × Int × Int × Int × Int × (Arr 4 (UInt64)))) × Int) × (List UInt8) × Int × (Arr 10 (Bool))) (r : Int × (((List (Int × Int × Int × Int × Int × Int × (Arr 4 (UInt64)))) × Int) × (List UInt8) × Int × (Arr 10 (Bool)))) : Prop :=
 ∃ y4 : Int × (((List (Int × Int × Int × Int × Int × Int × (Arr 4 (UInt64)))) × Int) × (List UInt8) × Int × (Arr 10 (Bool))), tree_Builder_put_R ((o1.1.1, o1.1.2), o1.2.1, o1.2.2.1, o1.2.2.2) (7, 0, 0, 0, 0, 0, (Arr.rep 4 (0 : UInt64))) y4 ∧ r = (y4.1, ((y4.2.1.1, y4.2.1.2), y4.2.2.1, y4.2.2.2.1, y4.2.2.2.2))
def tree_Builder_Bol_ev (fuel : Nat) (o1 : ((List (Int × Int × Int × Int × Int × Int × (Arr 4 (UInt64)))) × Int) × (List UInt8) × Int × (Arr 10 (Bool))) : Option (Int × (((List (Int × Int × Int × Int × Int × Int × (Arr 4 (UInt64)))) × Int) × (List UInt8) × Int × (Arr 10 (Bool)))) :=
 ((tree_Builder_put_ev fuel ((o1.1.1, o1.1.2), o1.2.1, o1.2.2.1, o1.2.2.2) (7, 0, 0, 0, 0, 0, (Arr.rep 4 (0 : UInt64)))).bind fun y4 => some (y4.1, ((y4.2.1.1, y4.2.1.2), y4.2.2.1, y4.2.2.2.1, y4.2.2.2.2)))
theorem tree_Builder_Bol_ok {fuel : Nat} {o1 : ((List (Int × Int × Int × Int × Int × Int × (Arr 4 (UInt64)))) × Int) × (List UInt8) × Int × (Arr 10 (Bool))} {r : Int × (((List (Int × Int × Int × Int × Int × Int × (Arr 4 (UInt64)))) × Int) × (List UInt8) × Int × (Arr 10 (Bool)))} (h : tree_Builder_Bol_ev fuel o1 = some r) : tree_Builder_Bol_R o1 r := by
 unfold tree_Builder_Bol_ev at h
 unfold tree_Builder_Bol_R
 obtain ⟨q40, g40, h⟩ := bind_ok h
 refine ⟨q40, tree_Builder_put_ok g40, ?_⟩
 exact (Option.some.inj h).symm
set_option maxHeartbeats 4000000 in
theorem tree_Builder_Bol_con (o1 : ((List (Int × Int × Int × Int × Int × Int × (Arr 4 (UInt64)))) × Int) × (List UInt8) × Int × (Arr 10 (Bool))) (bx0 : Nat) (ia2 : Option (Nat × Nat)) (r : Int × (((List (Int × Int × Int × Int × Int × Int × (Arr 4 (UInt64)))) × Int) × (List UInt8) × Int × (Arr 10 (Bool)))) (h : tree_Builder_Bol_R o1 r) : Con Try.prog 21 [.v (.pointer (some ⟨bx0, 0, none⟩))] [⟨bx0, 50, ([.sl 10 (some ia2) (List.map E_palinode_api_Node o1.1.1), .v (.int .i64 o1.1.2), .sl 1 none (List.map eb o1.2.1), .v (.int .i64 o1.2.2.1)] ++ (List.map eB o1.2.2.2.l).flatten)⟩] [⟨ia2, 42, 10, o1.1.1.length⟩] (fun rr bx tk => ∃ j1, rr = .v (.int .i64 r.1) ∧ bx = [⟨bx0, 50, ([.sl 10 (some j1) (List.map E_palinode_api_Node r.2.1.1), .v (.int .i64 r.2.1.2), .sl 1 none (List.map eb r.2.2.1), .v (.int .i64 r.2.2.2.1)] ++ (List.map eB r.2.2.2.2.l).flatten)⟩] ∧ tk = [⟨j1, 42, 10, r.2.1.1.length⟩]) := by
 refine xenter Try.func21 rfl rfl fun g hg => ?_
 simp only [Try.ntmps21, slots]
 refine sr_ ?_
 refine as_ ?_
 refine nt_ ?_
 refine sr_ ?_
 refine mv_ ?_
 refine vp_ (pv_buildC (cs := ([.v (.int .i64 7), .v (.int .i64 0), .v (.int .i64 0), .v (.int .i64 0), .v (.int .i64 0), .v (.int .i64 0)] ++ (List.map ew ((Arr.rep 4 (0 : UInt64))).l).flatten)) StrC.h rfl (by refine fill_step [] [.v (.int .i64 0)] ([.v (.int .i64 0), .v (.int .i64 0), .v (.int .i64 0), .v (.int .i64 0), .v (.int .i64 0)] ++ (List.map ew ((Arr.rep 4 (0 : UInt64))).l).flatten) sq_ sl_ sl_ sl_ rfl rfl ?_; exact congrArg some sq_)) ?_
 obtain ⟨y4, h3, h⟩ := h
 refine xcallF (Fb := []) (Ft := []) (tree_Builder_put_con ((o1.1.1, o1.1.2), o1.2.1, o1.2.2.1, o1.2.2.2) (7, 0, 0, 0, 0, 0, (Arr.rep 4 (0 : UInt64))) bx0 ia2 _ h3) Try.func31 (by kernel_rfl) rfl (.cons rfl (.refl _) (.cons rfl (.refl _) .nil)) (by exact sm_) rfl rfl ?_
 rintro _ _ _ ⟨i5, rfl, rfl, rfl⟩
 simp only [List.nil_append, List.cons_append]
 refine as_ ?_
 refine nt_ ?_
 refine xretc ?_
 replace h := h.symm
 subst h
 exact xret1 hg rfl rfl (.refl _) (SubM.of (.keep rfl rfl (.refl _) (.nil _)) (.keep rfl (.nil _))) ⟨i5, rfl, rfl, rfl⟩
/-- (*bre.parser).fail -/
def bre_parser_fail_R (o1 : ((List (Int × Int × Int × Int × Int × Int × (Arr 4 (UInt64)))) × Int) × (List UInt8) × Int × (Arr 10 (Bool))) (e3 : Int) (r : (List (Int × Int))) : Prop :=
 r = [(o1.2.2.1, e3)]
def bre_parser_fail_ev (fuel : Nat) (o1 : ((List (Int × Int × Int × Int × Int × Int × (Arr 4 (UInt64)))) × Int) × (List UInt8) × Int × (Arr 10 (Bool))) (e3 : Int) : Option ((List (Int × Int))) :=
 some ([(o1.2.2.1, e3)])
theorem bre_parser_fail_ok {fuel : Nat} {o1 : ((List (Int × Int × Int × Int × Int × Int × (Arr 4 (UInt64)))) × Int) × (List UInt8) × Int × (Arr 10 (Bool))} {e3 : Int} {r : (List (Int × Int))} (h : bre_parser_fail_ev fuel o1 e3 = some r) : bre_parser_fail_R o1 e3 r := by
 unfold bre_parser_fail_ev at h
 unfold bre_parser_fail_R
 exact (Option.some.inj h).symm
set_option maxHeartbeats 4000000 in
theorem bre_parser_fail_con (o1 : ((List (Int × Int × Int × Int × Int × Int × (Arr 4 (UInt64)))) × Int) × (List UInt8) × Int × (Arr 10 (Bool))) (e3 : Int) (bx0 : Nat) (ia2 : Option (Nat × Nat)) (r : (List (Int × Int))) (h : bre_parser_fail_R o1 e3 r) : Con Try.prog 22 [.v (.pointer (some ⟨bx0, 0, none⟩)), .v (.int .i64 e3)] [⟨bx0, 50, ([.sl 10 (some ia2) (List.map E_palinode_api_Node o1.1.1), .v (.int .i64 o1.1.2), .sl 1 none (List.map eb o1.2.1), .v (.int .i64 o1.2.2.1)] ++ (List.map eB o1.2.2.2.l).flatten)⟩] [⟨ia2, 42, 10, o1.1.1.length⟩] (fun rr bx tk => rr = .pt (List.isEmpty r) (PC_palinode_bre_wrong r) ∧ bx = [⟨bx0, 50, ([.sl 10 (some ia2) (List.map E_palinode_api_Node o1.1.1), .v (.int .i64 o1.1.2), .sl 1 none (List.map eb o1.2.1), .v (.int .i64 o1.2.2.1)] ++ (List.map eB o1.2.2.2.l).flatten)⟩] ∧ tk = [⟨ia2, 42, 10, o1.1.1.length⟩]) := by
 refine xenter Try.func22 rfl rfl fun g hg => ?_
 simp only [Try.ntmps22, slots]
 refine sr_ ?_
 refine as_ ?_
 refine nt_ ?_
 refine sr_ ?_
 refine mv_ ?_
 refine vp_ (pv_nilCheck rfl) ?_
 refine vp_ (qv_fieldAddrB FldC.h rfl) ?_
 refine v_ (qv_loadB 0 ShpC.h rfl rfl rfl rfl) ?_
 refine mv_ ?_
 refine vp_ (pv_buildC StrC.h rfl rfl) ?_
 refine xbox rfl rfl rfl rfl fun b11 => ?_
 refine xfreezeB 0 11 rfl rfl ?_
 refine as_ ?_
 refine nt_ ?_
 refine xretc ?_
 replace h := h.symm
 subst h
 exact xret1 hg rfl rfl (.refl _) (SubM.of (.keep rfl rfl (.refl _) (.nil _)) (.keep rfl (.nil _))) ⟨rfl, rfl, rfl⟩
/-- (*tree.Builder).Empty -/
def tree_Builder_Empty_R (o1 : ((List (Int × Int × Int × Int × Int × Int × (Arr 4 (UInt64)))) × Int) × (List UInt8) × Int × (Arr 10 (Bool))) (r : Int × (((List (Int × Int × Int × Int × Int × Int × (Arr 4 (UInt64)))) × Int) × (List UInt8) × Int × (Arr 10 (Bool)))) : Prop :=
 ∃ y4 : Int × (((List (Int × Int × Int × Int × Int × Int × (Arr 4 (UInt64)))) × Int) × (List UInt8) × Int × (Arr 10 (Bool))), tree_Builder_put_R ((o1.1.1, o1.1.2), o1.2.1, o1.2.2.1, o1.2.2.2) (0, 0, 0, 0, 0, 0, (Arr.rep 4 (0 : UInt64))) y4 ∧ r = (y4.1, ((y4.2.1.1, y4.2.1.2), y4.2.2.1, y4.2.2.2.1, y4.2.2.2.2))
def tree_Builder_Empty_ev (fuel : Nat) (o1 : ((List (Int × Int × Int × Int × Int × Int × (Arr 4 (UInt64)))) × Int) × (List UInt8) × Int × (Arr 10 (Bool))) : Option (Int × (((List (Int × Int × Int × Int × Int × Int × (Arr 4 (UInt64)))) × Int) × (List UInt8) × Int × (Arr 10 (Bool)))) :=
 ((tree_Builder_put_ev fuel ((o1.1.1, o1.1.2), o1.2.1, o1.2.2.1, o1.2.2.2) (0, 0, 0, 0, 0, 0, (Arr.rep 4 (0 : UInt64)))).bind fun y4 => some (y4.1, ((y4.2.1.1, y4.2.1.2), y4.2.2.1, y4.2.2.2.1, y4.2.2.2.2)))
theorem tree_Builder_Empty_ok {fuel : Nat} {o1 : ((List (Int × Int × Int × Int × Int × Int × (Arr 4 (UInt64)))) × Int) × (List UInt8) × Int × (Arr 10 (Bool))} {r : Int × (((List (Int × Int × Int × Int × Int × Int × (Arr 4 (UInt64)))) × Int) × (List UInt8) × Int × (Arr 10 (Bool)))} (h : tree_Builder_Empty_ev fuel o1 = some r) : tree_Builder_Empty_R o1 r := by
 unfold tree_Builder_Empty_ev at h
 unfold tree_Builder_Empty_R
 obtain ⟨q41, g41, h⟩ := bind_ok h
 refine ⟨q41, tree_Builder_put_ok g41, ?_⟩
 exact (Option.some.inj h).symm
set_option maxHeartbeats 4000000 in
theorem tree_Builder_Empty_con (o1 : ((List (Int × Int × Int × Int × Int × Int × (Arr 4 (UInt64)))) × Int) × (List UInt8) × Int × (Arr 10 (Bool))) (bx0 : Nat) (ia2 : Option (Nat × Nat)) (r : Int × (((List (Int × Int × Int × Int × Int × Int × (Arr 4 (UInt64)))) × Int) × (List UInt8) × Int × (Arr 10 (Bool)))) (h : tree_Builder_Empty_R o1 r) : Con Try.prog 35 [.v (.pointer (some ⟨bx0, 0, none⟩))] [⟨bx0, 50, ([.sl 10 (some ia2) (List.map E_palinode_api_Node o1.1.1), .v (.int .i64 o1.1.2), .sl 1 none (List.map eb o1.2.1), .v (.int .i64 o1.2.2.1)] ++ (List.map eB o1.2.2.2.l).flatten)⟩] [⟨ia2, 42, 10, o1.1.1.length⟩] (fun rr bx tk => ∃ j1, rr = .v (.int .i64 r.1) ∧ bx = [⟨bx0, 50, ([.sl 10 (some j1) (List.map E_palinode_api_Node r.2.1.1), .v (.int .i64 r.2.1.2), .sl 1 none (List.map eb r.2.2.1), .v (.int .i64 r.2.2.2.1)] ++ (List.map eB r.2.2.2.2.l).flatten)⟩] ∧ tk = [⟨j1, 42, 10, r.2.1.1.length⟩]) := by
 refine xenter Try.func35 rfl rfl fun g hg => ?_
 simp only [Try.ntmps35, slots]
 refine sr_ ?_
 refine as_ ?_
 refine nt_ ?_
 refine sr_ ?_
 refine mv_ ?_
 refine vp_ (pv_buildC (cs := ([.v (.int .i64 0), .v (.int .i64 0), .v (.int .i64 0), .v (.int .i64 0), .v (.int .i64 0), .v (.int .i64 0)] ++ (List.map ew ((Arr.rep 4 (0 : UInt64))).l).flatten)) StrC.h rfl (by refine fill_step [] [.v (.int .i64 0)] ([.v (.int .i64 0), .v (.int .i64 0), .v (.int .i64 0), .v (.int .i64 0), .v (.int .i64 0)] ++ (List.map ew ((Arr.rep 4 (0 : UInt64))).l).flatten) sq_ sl_ sl_ sl_ rfl rfl ?_; exact congrArg some sq_)) ?_
 obtain ⟨y4, h3, h⟩ := h
 refine xcallF (Fb := []) (Ft := []) (tree_Builder_put_con ((o1.1.1, o1.1.2), o1.2.1, o1.2.2.1, o1.2.2.2) (0, 0, 0, 0, 0, 0, (Arr.rep 4 (0 : UInt64))) bx0 ia2 _ h3) Try.func31 (by kernel_rfl) rfl (.cons rfl (.refl _) (.cons rfl (.refl _) .nil)) (by exact sm_) rfl rfl ?_
 rintro _ _ _ ⟨i5, rfl, rfl, rfl⟩
 simp only [List.nil_append, List.cons_append]
 refine as_ ?_
 refine nt_ ?_
 refine xretc ?_
 replace h := h.symm
 subst h
 exact xret1 hg rfl rfl (.refl _) (SubM.of (.keep rfl rfl (.refl _) (.nil _)) (.keep rfl (.nil _))) ⟨i5, rfl, rfl, rfl⟩
/-- (*tree.Builder).fold -/
def tree_Builder_fold_l1 (l4 : List Int) (kind3 : Int) (ag1 : (Int × Int × (List (Int × Int × Int × Int × Int × Int × (Arr 4 (UInt64)))) × Int × (List UInt8) × Int × (Arr 10 (Bool))) → Prop) (atv141 : Int) (x142 : Int) (f143 : List (Int × Int × Int × Int × Int × Int × (Arr 4 (UInt64)))) (f145 : Int) (f146 : List UInt8) (f147 : Int) (f148 : Arr 10 (Bool)) (r : Int × (((List (Int × Int × Int × Int × Int × Int × (Arr 4 (UInt64)))) × Int) × (List UInt8) × Int × (Arr 10 (Bool)))) : Prop :=
 ((x142 < (((l4.drop (1 : Int).toNat)).length : Int) → 0 ≤ (x142 : Int) ∧ ∃ y183 : Int, ((l4.drop (1 : Int).toNat))[(x142 : Int).toNat]? = some y183 ∧ ((atv141 = (-1) → r = (atv141, ((f143, f145), f146, f147, f148))) ∧ (¬ (atv141 = (-1)) → ∃ y190 : Int × (((List (Int × Int × Int × Int × Int × Int × (Arr 4 (UInt64)))) × Int) × (List UInt8) × Int × (Arr 10 (Bool))), tree_Builder_put_R ((f143, f145), f146, f147, f148) (kind3, atv141, y183, 0, 0, 0, (Arr.rep 4 (0 : UInt64))) y190 ∧ InR (x142 + 1) ∧ ag1 (y190.1, (x142 + 1), y190.2.1.1, y190.2.1.2, y190.2.2.1, y190.2.2.2.1, y190.2.2.2.2)))) ∧ (¬ (x142 < (((l4.drop (1 : Int).toNat)).length : Int)) → r = (atv141, ((f143, f145), f146, f147, f148))))
def tree_Builder_fold_R (o1 : ((List (Int × Int × Int × Int × Int × Int × (Arr 4 (UInt64)))) × Int) × (List UInt8) × Int × (Arr 10 (Bool))) (kind3 : Int) (l4 : List Int) (r : Int × (((List (Int × Int × Int × Int × Int × Int × (Arr 4 (UInt64)))) × Int) × (List UInt8) × Int × (Arr 10 (Bool)))) : Prop :=
 0 ≤ (0 : Int) ∧ ∃ y30 : Int, l4[(0 : Int).toNat]? = some y30 ∧ ((y30 < 0 → r = ((-1), ((o1.1.1, o1.1.2), o1.2.1, o1.2.2.1, o1.2.2.2))) ∧ (¬ (y30 < 0) → 0 ≤ (0 : Int) ∧ ∃ y34 : Int, l4[(0 : Int).toNat]? = some y34 ∧ (((o1.1.1.length : Int) ≤ y34 → r = ((-1), ((o1.1.1, o1.1.2), o1.2.1, o1.2.2.1, o1.2.2.2))) ∧ (¬ ((o1.1.1.length : Int) ≤ y34) → 0 ≤ (0 : Int) ∧ ∃ y39 : Int, l4[(0 : Int).toNat]? = some y39 ∧ (0 ≤ (1 : Int) ∧ (1 : Int) ≤ (l4.length : Int)) ∧ LoopR (fun ag1 s => tree_Builder_fold_l1 l4 kind3 ag1 s.1 s.2.1 s.2.2.1 s.2.2.2.1 s.2.2.2.2.1 s.2.2.2.2.2.1 s.2.2.2.2.2.2 r) (y39, 0, o1.1.1, o1.1.2, o1.2.1, o1.2.2.1, o1.2.2.2)))))
def tree_Builder_fold_l1_ev (fuel : Nat) (l4 : List Int) (kind3 : Int) (ag1e : (Int × Int × (List (Int × Int × Int × Int × Int × Int × (Arr 4 (UInt64)))) × Int × (List UInt8) × Int × (Arr 10 (Bool))) → Option (Int × (((List (Int × Int × Int × Int × Int × Int × (Arr 4 (UInt64)))) × Int) × (List UInt8) × Int × (Arr 10 (Bool))))) (atv141 : Int) (x142 : Int) (f143 : List (Int × Int × Int × Int × Int × Int × (Arr 4 (UInt64)))) (f145 : Int) (f146 : List UInt8) (f147 : Int) (f148 : Arr 10 (Bool)) : Option (Int × (((List (Int × Int × Int × Int × Int × Int × (Arr 4 (UInt64)))) × Int) × (List UInt8) × Int × (Arr 10 (Bool)))) :=
 (if x142 < (((l4.drop (1 : Int).toNat)).length : Int) then (if 0 ≤ (x142 : Int) then ((((l4.drop (1 : Int).toNat))[(x142 : Int).toNat]?).bind fun y183 => (if atv141 = (-1) then some (atv141, ((f143, f145), f146, f147, f148)) else ((tree_Builder_put_ev fuel ((f143, f145), f146, f147, f148) (kind3, atv141, y183, 0, 0, 0, (Arr.rep 4 (0 : UInt64)))).bind fun y190 => (if InR (x142 + 1) then ag1e (y190.1, (x142 + 1), y190.2.1.1, y190.2.1.2, y190.2.2.1, y190.2.2.2.1, y190.2.2.2.2) else none)))) else none) else some (atv141, ((f143, f145), f146, f147, f148)))
theorem tree_Builder_fold_l1_ok {fuel : Nat} {l4 : List Int} {kind3 : Int} {ag1e : (Int × Int × (List (Int × Int × Int × Int × Int × Int × (Arr 4 (UInt64)))) × Int × (List UInt8) × Int × (Arr 10 (Bool))) → Option (Int × (((List (Int × Int × Int × Int × Int × Int × (Arr 4 (UInt64)))) × Int) × (List UInt8) × Int × (Arr 10 (Bool))))} {ag1 : (Int × Int × (List (Int × Int × Int × Int × Int × Int × (Arr 4 (UInt64)))) × Int × (List UInt8) × Int × (Arr 10 (Bool))) → Prop} {atv141 : Int} {x142 : Int} {f143 : List (Int × Int × Int × Int × Int × Int × (Arr 4 (UInt64)))} {f145 : Int} {f146 : List UInt8} {f147 : Int} {f148 : Arr 10 (Bool)} {r : Int × (((List (Int × Int × Int × Int × Int × Int × (Arr 4 (UInt64)))) × Int) × (List UInt8) × Int × (Arr 10 (Bool)))} (hagag1 : ∀ s, ag1e s = some r → ag1 s) (h : tree_Builder_fold_l1_ev fuel l4 kind3 ag1e atv141 x142 f143 f145 f146 f147 f148 = some r) : tree_Builder_fold_l1 l4 kind3 ag1 atv141 x142 f143 f145 f146 f147 f148 r := by
 unfold tree_Builder_fold_l1_ev at h
 unfold tree_Builder_fold_l1
 refine ⟨fun g42 => ?_, fun g42 => ?_⟩
 ·rw [if_pos g42] at h
  obtain ⟨g43, h⟩ := if_ok h
  refine ⟨g43, ?_⟩
  obtain ⟨q44, g44, h⟩ := bind_ok h
  refine ⟨q44, g44, ?_⟩
  refine ⟨fun g45 => ?_, fun g45 => ?_⟩
  ·rw [if_pos g45] at h
   exact (Option.some.inj h).symm
  ·rw [if_neg g45] at h
   obtain ⟨q46, g46, h⟩ := bind_ok h
   refine ⟨q46, tree_Builder_put_ok g46, ?_⟩
   obtain ⟨g47, h⟩ := if_ok h
   refine ⟨g47, ?_⟩
   exact hagag1 _ h
 ·rw [if_neg g42] at h
  exact (Option.some.inj h).symm
def tree_Builder_fold_ev (fuel : Nat) (o1 : ((List (Int × Int × Int × Int × Int × Int × (Arr 4 (UInt64)))) × Int) × (List UInt8) × Int × (Arr 10 (Bool))) (kind3 : Int) (l4 : List Int) : Option (Int × (((List (Int × Int × Int × Int × Int × Int × (Arr 4 (UInt64)))) × Int) × (List UInt8) × Int × (Arr 10 (Bool)))) :=
 (if 0 ≤ (0 : Int) then ((l4[(0 : Int).toNat]?).bind fun y30 => (if y30 < 0 then some ((-1), ((o1.1.1, o1.1.2), o1.2.1, o1.2.2.1, o1.2.2.2)) else (if 0 ≤ (0 : Int) then ((l4[(0 : Int).toNat]?).bind fun y34 => (if (o1.1.1.length : Int) ≤ y34 then some ((-1), ((o1.1.1, o1.1.2), o1.2.1, o1.2.2.1, o1.2.2.2)) else (if 0 ≤ (0 : Int) then ((l4[(0 : Int).toNat]?).bind fun y39 => (if (0 ≤ (1 : Int) ∧ (1 : Int) ≤ (l4.length : Int)) then (loopE (fun ag1e s => tree_Builder_fold_l1_ev fuel l4 kind3 ag1e s.1 s.2.1 s.2.2.1 s.2.2.2.1 s.2.2.2.2.1 s.2.2.2.2.2.1 s.2.2.2.2.2.2) fuel (y39, 0, o1.1.1, o1.1.2, o1.2.1, o1.2.2.1, o1.2.2.2)) else none)) else none))) else none))) else none)
theorem tree_Builder_fold_ok {fuel : Nat} {o1 : ((List (Int × Int × Int × Int × Int × Int × (Arr 4 (UInt64)))) × Int) × (List UInt8) × Int × (Arr 10 (Bool))} {kind3 : Int} {l4 : List Int} {r : Int × (((List (Int × Int × Int × Int × Int × Int × (Arr 4 (UInt64)))) × Int) × (List UInt8) × Int × (Arr 10 (Bool)))} (h : tree_Builder_fold_ev fuel o1 kind3 l4 = some r) : tree_Builder_fold_R o1 kind3 l4 r := by
 unfold tree_Builder_fold_ev at h
 unfold tree_Builder_fold_R
 obtain ⟨g48, h⟩ := if_ok h
 refine ⟨g48, ?_⟩
 obtain ⟨q49, g49, h⟩ := bind_ok h
 refine ⟨q49, g49, ?_⟩
 refine ⟨fun g50 => ?_, fun g50 => ?_⟩
 ·rw [if_pos g50] at h
  exact (Option.some.inj h).symm
 ·rw [if_neg g50] at h
  obtain ⟨g51, h⟩ := if_ok h
  refine ⟨g51, ?_⟩
  obtain ⟨q52, g52, h⟩ := bind_ok h
  refine ⟨q52, g52, ?_⟩
  refine ⟨fun g53 => ?_, fun g53 => ?_⟩
  ·rw [if_pos g53] at h
   exact (Option.some.inj h).symm
  ·rw [if_neg g53] at h
   obtain ⟨g54, h⟩ := if_ok h
   refine ⟨g54, ?_⟩
   obtain ⟨q55, g55, h⟩ := bind_ok h
   refine ⟨q55, g55, ?_⟩
   obtain ⟨g56, h⟩ := if_ok h
   refine ⟨g56, ?_⟩
   refine loopE_ok ?_ h
   intro ae ag s hag h
   exact tree_Builder_fold_l1_ok hag h
set_option maxHeartbeats 4000000 in
theorem tree_Builder_fold_con (o1 : ((List (Int × Int × Int × Int × Int × Int × (Arr 4 (UInt64)))) × Int) × (List UInt8) × Int × (Arr 10 (Bool))) (kind3 : Int) (l4 : List Int) (bx0 : Nat) (ia2 : Option (Nat × Nat)) (r : Int × (((List (Int × Int × Int × Int × Int × Int × (Arr 4 (UInt64)))) × Int) × (List UInt8) × Int × (Arr 10 (Bool)))) (h : tree_Builder_fold_R o1 kind3 l4 r) : Con Try.prog 36 [.v (.pointer (some ⟨bx0, 0, none⟩)), .v (.int .i64 kind3), .sl 1 none (List.map ei l4)] [⟨bx0, 50, ([.sl 10 (some ia2) (List.map E_palinode_api_Node o1.1.1), .v (.int .i64 o1.1.2), .sl 1 none (List.map eb o1.2.1), .v (.int .i64 o1.2.2.1)] ++ (List.map eB o1.2.2.2.l).flatten)⟩] [⟨ia2, 42, 10, o1.1.1.length⟩] (fun rr bx tk => ∃ j1, rr = .v (.int .i64 r.1) ∧ bx = [⟨bx0, 50, ([.sl 10 (some j1) (List.map E_palinode_api_Node r.2.1.1), .v (.int .i64 r.2.1.2), .sl 1 none (List.map eb r.2.2.1), .v (.int .i64 r.2.2.2.1)] ++ (List.map eB r.2.2.2.2.l).flatten)⟩] ∧ tk = [⟨j1, 42, 10, r.2.1.1.length⟩]) := by
 refine xenter Try.func36 rfl rfl fun g hg => ?_
 simp only [Try.ntmps36, slots]
 refine sr_ ?_
 refine as_ ?_
 refine nt_ ?_
 refine xseq ?_
 refine xseq ?_
 refine xregionD (m := 15) (by kernel_rfl) rfl ?_
 obtain ⟨h31a, h⟩ := h
 obtain ⟨y30, h31b, h⟩ := h
 refine pl_ 0 rfl (pv_move rfl) ?_
 refine pl_ 1 rfl (pv_indexAddrM h31a h31b UndC.h ShpC.h rfl rfl) ?_
 refine xpvalE 2 [] rfl (qv_load ShpC.h rfl rfl rfl) rfl rfl (by kernel_rfl) (by kernel_rfl) (by kernel_rfl) (fun _ _ _ _ h => h) ?_
 refine pl_ 3 rfl (pv_bin2 rfl rfl rfl) ?_
 refine pl_ 4 rfl (pv_move rfl) ?_
 by_cases hp33 : y30 < 0
 ·replace h := h.1 hp33
  refine psetB 14 (decide_eq_true hp33) rfl ?_
  refine xpskip 5 rfl rfl rfl (by kernel_rfl) (by kernel_rfl) (by kernel_rfl) (fun _ _ _ _ h => h) ?_
  refine xpskip 6 rfl rfl rfl (by kernel_rfl) (by kernel_rfl) (by kernel_rfl) (fun _ _ _ _ h => h) ?_
  refine xpskip 7 rfl rfl rfl (by kernel_rfl) (by kernel_rfl) (by kernel_rfl) (fun _ _ _ _ h => h) ?_
  refine xpskip 8 rfl rfl rfl (by kernel_rfl) (by kernel_rfl) (by kernel_rfl) (fun _ _ _ _ h => h) ?_
  refine xpskip 9 rfl rfl rfl (by kernel_rfl) (by kernel_rfl) (by kernel_rfl) (fun _ _ _ _ h => h) ?_
  refine xpskip 10 rfl rfl rfl (by kernel_rfl) (by kernel_rfl) (by kernel_rfl) (fun _ _ _ _ h => h) ?_
  refine xpskip 11 rfl rfl rfl (by kernel_rfl) (by kernel_rfl) (by kernel_rfl) (fun _ _ _ _ h => h) ?_
  refine xpskip 12 rfl rfl rfl (by kernel_rfl) (by kernel_rfl) (by kernel_rfl) (fun _ _ _ _ h => h) ?_
  refine xpskip 13 rfl rfl rfl (by kernel_rfl) (by kernel_rfl) (by kernel_rfl) (fun _ _ _ _ h => h) ?_
  refine pl_ 14 rfl (pv_pick rfl rfl) ?_
  refine xpdone (by kernel_rfl) ?_
  refine xthen ?_
  refine xcondT rfl ?_
  refine sr_ ?_
  refine as_ ?_
  refine nt_ ?_
  refine xretc ?_
  refine xthen_ret ?_
  replace h := h.symm
  subst h
  exact xret1 hg rfl rfl (.refl _) (SubM.of (.keep rfl rfl (.refl _) (.nil _)) (.keep rfl (.nil _))) ⟨ia2, rfl, rfl, rfl⟩
 ·replace h := h.2 hp33
  refine psetB 14 (decide_eq_false hp33) rfl ?_
  obtain ⟨h35a, h⟩ := h
  obtain ⟨y34, h35b, h⟩ := h
  refine pl_ 5 rfl (pv_move rfl) ?_
  refine pl_ 6 rfl (pv_indexAddrM h35a h35b UndC.h ShpC.h rfl rfl) ?_
  refine pl_ 8 rfl (pv_move rfl) ?_
  refine pl_ 9 rfl (pv_nilCheck rfl) ?_
  refine pl_ 10 rfl (qv_fieldAddrB FldC.h rfl) ?_
  refine xpvalE 7 [11, 12] rfl (qv_load ShpC.h rfl rfl rfl) rfl rfl (by kernel_rfl) (by kernel_rfl) (by kernel_rfl) (fun _ _ _ _ h => h) ?_
  refine xpvalE 11 [] rfl (qv_loadB 0 ShpC.h rfl rfl rfl rfl) rfl rfl (by kernel_rfl) (by kernel_rfl) (by kernel_rfl) (fun _ _ _ _ h => h) ?_
  refine pl_ 12 rfl (pv_lenM UndC.h rfl) ?_
  refine pl_ 13 rfl (pv_bin2 rfl rfl rfl) ?_
  refine pl_ 14 rfl (pv_pick rfl rfl) ?_
  refine xpdone (by kernel_rfl) ?_
  refine xthen ?_
  by_cases hp38 : (o1.1.1.length : Int) ≤ y34
  ·replace h := h.1 hp38
   refine xcondT' (decide_eq_true hp38) rfl ?_
   refine sr_ ?_
   refine as_ ?_
   refine nt_ ?_
   refine xretc ?_
   refine xthen_ret ?_
   replace h := h.symm
   subst h
   exact xret1 hg rfl rfl (.refl _) (SubM.of (.keep rfl rfl (.refl _) (.nil _)) (.keep rfl (.nil _))) ⟨ia2, rfl, rfl, rfl⟩
  ·replace h := h.2 hp38
   refine xcondF' (decide_eq_false hp38) rfl ?_
   refine xskipc ?_
   refine xthen ?_
   refine sr_ ?_
   refine mv_ ?_
   obtain ⟨h40a, h⟩ := h
   obtain ⟨y39, h40b, h⟩ := h
   refine vp_ (pv_indexAddrM h40a h40b UndC.h ShpC.h rfl rfl) ?_
   refine v_ (qv_load ShpC.h rfl rfl rfl) ?_
   refine as_ ?_
   refine nt_ ?_
   refine xseq ?_
   refine sr_ ?_
   refine mv_ ?_
   obtain ⟨h117, h⟩ := h
   refine vp_ (pv_sliceLo h117 UndC.h ShpC.h rfl rfl) ?_
   refine vp_ (pv_lenM UndC.h rfl) ?_
   refine mv_ ?_
   refine nt_ ?_
   refine xblock ?_
   obtain ⟨Inv, ⟨m0, hI⟩, hS⟩ := h
   refine xloop (fun σ m => ∃ (atv141 : Int), ∃ (x142 : Int), ∃ (f143 : List (Int × Int × Int × Int × Int × Int × (Arr 4 (UInt64)))), ∃ (f145 : Int), ∃ (f146 : List UInt8), ∃ (f147 : Int), ∃ (f148 : Arr 10 (Bool)), ∃ (i144 : Option (Nat × Nat)), Inv (atv141, x142, f143, f145, f146, f147, f148) m ∧ σ = ⟨[(0, .v (.pointer (some ⟨bx0, 0, none⟩))), (1, .v (.int .i64 kind3)), (7, .v (.int .i64 atv141)), (29, .sl 1 none (List.map ei ((l4.drop (1 : Int).toNat)))), (30, .v (.int .i64 ((((l4.drop (1 : Int).toNat)).length : Int)))), (31, .v (.int .i64 x142))], [⟨bx0, 50, ([.sl 10 (some i144) (List.map E_palinode_api_Node f143), .v (.int .i64 f145), .sl 1 none (List.map eb f146), .v (.int .i64 f147)] ++ (List.map eB f148.l).flatten)⟩], [⟨i144, 42, 10, f143.length⟩]⟩) ⟨y39, 0, o1.1.1, o1.1.2, o1.2.1, o1.2.2.1, o1.2.2.2, ia2, hI, rfl⟩ (by exact ⟨lk_, (SubM.of (.keep rfl rfl (.refl _) (.nil _)) (.keep rfl (.nil _)))⟩) ?_
   rintro _ m ⟨atv141, x142, f143, f145, f146, f147, f148, i144, hI, rfl⟩
   obtain ⟨ag1, hag1, h⟩ : ∃ ag, (∀ s', ag s' → ∃ m', m' < m ∧ Inv s' m') ∧ tree_Builder_fold_l1 l4 kind3 ag atv141 x142 f143 f145 f146 f147 f148 r := ⟨_, fun _ h => h, hS (atv141, x142, f143, f145, f146, f147, f148) _ hI⟩
   clear hS hI
   refine sr_ ?_
   refine vp_ (pv_bin2 rfl rfl rfl) ?_
   refine nt_ ?_
   refine xseq ?_
   by_cases hp173 : x142 < (((l4.drop (1 : Int).toNat)).length : Int)
   ·replace h := h.1 hp173
    refine xcondT' (decide_eq_true hp173) rfl ?_
    refine xskipc ?_
    refine xthen ?_
    refine xseq ?_
    refine xblock ?_
    refine sr_ ?_
    obtain ⟨h184a, h⟩ := h
    obtain ⟨y183, h184b, h⟩ := h
    refine vp_ (pv_indexAddrM h184a h184b UndC.h ShpC.h rfl rfl) ?_
    refine v_ (qv_load ShpC.h rfl rfl rfl) ?_
    refine as_ ?_
    refine nt_ ?_
    refine xseq ?_
    refine sr_ ?_
    refine mv_ ?_
    refine vp_ (pv_bin2 rfl rfl rfl) ?_
    refine nt_ ?_
    by_cases hp188 : atv141 = (-1)
    ·replace h := h.1 hp188
     refine xcondT' (decide_eq_true hp188) rfl ?_
     refine xexit ?_
     refine xthen_exit ?_
     refine xin_other rfl ?_
     refine xthen_exit ?_
     refine xthen_exit ?_
     refine xin_same rfl ?_
     refine xthen ?_
     refine sr_ ?_
     refine mv_ ?_
     refine as_ ?_
     refine nt_ ?_
     refine xretc ?_
     replace h := h.symm
     subst h
     exact xret1 hg rfl rfl (.refl _) (SubM.of (.keep rfl rfl (.refl _) (.nil _)) (.keep rfl (.nil _))) ⟨i144, rfl, rfl, rfl⟩
    ·replace h := h.2 hp188
     refine xcondF' (decide_eq_false hp188) rfl ?_
     refine xskipc ?_
     refine xthen ?_
     refine xregion ?_
     refine mv_ ?_
     refine mv_ ?_
     refine mv_ ?_
     refine mv_ ?_
     refine vp_ (pv_buildC (cs := ([.v (.int .i64 kind3), .v (.int .i64 atv141), .v (.int .i64 y183), .v (.int .i64 0), .v (.int .i64 0), .v (.int .i64 0)] ++ (List.map ew ((Arr.rep 4 (0 : UInt64))).l).flatten)) StrC.h rfl (by refine fill_step [] [.v (.int .i64 0)] ([.v (.int .i64 0), .v (.int .i64 0), .v (.int .i64 0), .v (.int .i64 0), .v (.int .i64 0)] ++ (List.map ew ((Arr.rep 4 (0 : UInt64))).l).flatten) sq_ sl_ sl_ sl_ rfl rfl ?_; refine fill_step [.v (.int .i64 kind3)] [.v (.int .i64 0)] ([.v (.int .i64 0), .v (.int .i64 0), .v (.int .i64 0), .v (.int .i64 0)] ++ (List.map ew ((Arr.rep 4 (0 : UInt64))).l).flatten) sq_ sl_ sl_ sl_ rfl rfl ?_; refine fill_step [.v (.int .i64 kind3), .v (.int .i64 atv141)] [.v (.int .i64 0)] ([.v (.int .i64 0), .v (.int .i64 0), .v (.int .i64 0)] ++ (List.map ew ((Arr.rep 4 (0 : UInt64))).l).flatten) sq_ sl_ sl_ sl_ rfl rfl ?_; exact congrArg some sq_)) ?_
     obtain ⟨y190, h189, h⟩ := h
     refine xcallF (Fb := []) (Ft := []) (tree_Builder_put_con ((f143, f145), f146, f147, f148) (kind3, atv141, y183, 0, 0, 0, (Arr.rep 4 (0 : UInt64))) bx0 i144 _ h189) Try.func31 (by kernel_rfl) rfl (.cons rfl (.refl _) (.cons rfl (.refl _) .nil)) (by exact sm_) rfl rfl ?_
     rintro _ _ _ ⟨i191, rfl, rfl, rfl⟩
     simp only [List.nil_append, List.cons_append]
     refine as_ ?_
     refine xnil ?_
     refine xin_normal ?_
     refine xthen ?_
     refine xregion ?_
     obtain ⟨h192, h⟩ := h
     refine vp_ (pv_addI h192 rfl rfl) ?_
     refine mv_ ?_
     refine xnil ?_
     obtain ⟨m', hm, hI⟩ := hag1 _ h
     exact xagain ⟨y190.1, (x142 + 1), y190.2.1.1, y190.2.1.2, y190.2.2.1, y190.2.2.2.1, y190.2.2.2.2, i191, hI, rfl⟩ hm ⟨lk_, (SubM.of (.keep rfl rfl (.refl _) (.nil _)) (.keep rfl (.nil _)))⟩
   ·replace h := h.2 hp173
    refine xcondF' (decide_eq_false hp173) rfl ?_
    refine xexit ?_
    refine xthen_exit ?_
    refine xthen_exit ?_
    refine xin_same rfl ?_
    refine xthen ?_
    refine sr_ ?_
    refine mv_ ?_
    refine as_ ?_
    refine nt_ ?_
    refine xretc ?_
    replace h := h.symm
    subst h
    exact xret1 hg rfl rfl (.refl _) (SubM.of (.keep rfl rfl (.refl _) (.nil _)) (.keep rfl (.nil _))) ⟨i144, rfl, rfl, rfl⟩
/-- (*tree.Builder).Cat -/
def tree_Builder_Cat_R (o1 : ((List (Int × Int × Int × Int × Int × Int × (Arr 4 (UInt64)))) × Int) × (List UInt8) × Int × (Arr 10 (Bool))) (l3 : List Int) (r : Int × (((List (Int × Int × Int × Int × Int × Int × (Arr 4 (UInt64)))) × Int) × (List UInt8) × Int × (Arr 10 (Bool)))) : Prop :=
 (((l3.length : Int) = 0 → ∃ y14 : Int × (((List (Int × Int × Int × Int × Int × Int × (Arr 4 (UInt64)))) × Int) × (List UInt8) × Int × (Arr 10 (Bool))), tree_Builder_Empty_R ((o1.1.1, o1.1.2), o1.2.1, o1.2.2.1, o1.2.2.2) y14 ∧ r = (y14.1, ((y14.2.1.1, y14.2.1.2), y14.2.2.1, y14.2.2.2.1, y14.2.2.2.2))) ∧ (¬ ((l3.length : Int) = 0) → ∃ y17 : Int × (((List (Int × Int × Int × Int × Int × Int × (Arr 4 (UInt64)))) × Int) × (List UInt8) × Int × (Arr 10 (Bool))), tree_Builder_fold_R ((o1.1.1, o1.1.2), o1.2.1, o1.2.2.1, o1.2.2.2) 2 l3 y17 ∧ r = (y17.1, ((y17.2.1.1, y17.2.1.2), y17.2.2.1, y17.2.2.2.1, y17.2.2.2.2))))
def tree_Builder_Cat_ev (fuel : Nat) (o1 : ((List (Int × Int × Int × Int × Int × Int × (Arr 4 (UInt64)))) × Int) × (List UInt8) × Int × (Arr 10 (Bool))) (l3 : List Int) : Option (Int × (((List (Int × Int × Int × Int × Int × Int × (Arr 4 (UInt64)))) × Int) × (List UInt8) × Int × (Arr 10 (Bool)))) :=
 (if (l3.length : Int) = 0 then ((tree_Builder_Empty_ev fuel ((o1.1.1, o1.1.2), o1.2.1, o1.2.2.1, o1.2.2.2)).bind fun y14 => some (y14.1, ((y14.2.1.1, y14.2.1.2), y14.2.2.1, y14.2.2.2.1, y14.2.2.2.2))) else ((tree_Builder_fold_ev fuel ((o1.1.1, o1.1.2), o1.2.1, o1.2.2.1, o1.2.2.2) 2 l3).bind fun y17 => some (y17.1, ((y17.2.1.1, y17.2.1.2), y17.2.2.1, y17.2.2.2.1, y17.2.2.2.2))))
theorem tree_Builder_Cat_ok {fuel : Nat} {o1 : ((List (Int × Int × Int × Int × Int × Int × (Arr 4 (UInt64)))) × Int) × (List UInt8) × Int × (Arr 10 (Bool))} {l3 : List Int} {r : Int × (((List (Int × Int × Int × Int × Int × Int × (Arr 4 (UInt64)))) × Int) × (List UInt8) × Int × (Arr 10 (Bool)))} (h : tree_Builder_Cat_ev fuel o1 l3 = some r) : tree_Builder_Cat_R o1 l3 r := by
 unfold tree_Builder_Cat_ev at h
 unfold tree_Builder_Cat_R
 refine ⟨fun g57 => ?_, fun g57 => ?_⟩
 ·rw [if_pos g57] at h
  obtain ⟨q58, g58, h⟩ := bind_ok h
  refine ⟨q58, tree_Builder_Empty_ok g58, ?_⟩
  exact (Option.some.inj h).symm
 ·rw [if_neg g57] at h
  obtain ⟨q59, g59, h⟩ := bind_ok h
  refine ⟨q59, tree_Builder_fold_ok g59, ?_⟩
  exact (Option.some.inj h).symm
set_option maxHeartbeats 4000000 in
theorem tree_Builder_Cat_con (o1 : ((List (Int × Int × Int × Int × Int × Int × (Arr 4 (UInt64)))) × Int) × (List UInt8) × Int × (Arr 10 (Bool))) (l3 : List Int) (bx0 : Nat) (ia2 : Option (Nat × Nat)) (r : Int × (((List (Int × Int × Int × Int × Int × Int × (Arr 4 (UInt64)))) × Int) × (List UInt8) × Int × (Arr 10 (Bool)))) (h : tree_Builder_Cat_R o1 l3 r) : Con Try.prog 24 [.v (.pointer (some ⟨bx0, 0, none⟩)), .sl 1 none (List.map ei l3)] [⟨bx0, 50, ([.sl 10 (some ia2) (List.map E_palinode_api_Node o1.1.1), .v (.int .i64 o1.1.2), .sl 1 none (List.map eb o1.2.1), .v (.int .i64 o1.2.2.1)] ++ (List.map eB o1.2.2.2.l).flatten)⟩] [⟨ia2, 42, 10, o1.1.1.length⟩] (fun rr bx tk => ∃ j1, rr = .v (.int .i64 r.1) ∧ bx = [⟨bx0, 50, ([.sl 10 (some j1) (List.map E_palinode_api_Node r.2.1.1), .v (.int .i64 r.2.1.2), .sl 1 none (List.map eb r.2.2.1), .v (.int .i64 r.2.2.2.1)] ++ (List.map eB r.2.2.2.2.l).flatten)⟩] ∧ tk = [⟨j1, 42, 10, r.2.1.1.length⟩]) := by
 refine xenter Try.func24 rfl rfl fun g hg => ?_
 simp only [Try.ntmps24, slots]
 refine sr_ ?_
 refine as_ ?_
 refine nt_ ?_
 refine xseq ?_
 refine sr_ ?_
 refine mv_ ?_
 refine vp_ (pv_lenM UndC.h rfl) ?_
 refine vp_ (pv_bin2 rfl rfl rfl) ?_
 refine nt_ ?_
 by_cases hp12 : (l3.length : Int) = 0
 ·replace h := h.1 hp12
  refine xcondT' (decide_eq_true hp12) rfl ?_
  refine sr_ ?_
  refine mv_ ?_
  obtain ⟨y14, h13, h⟩ := h
  refine xcallF (Fb := []) (Ft := []) (tree_Builder_Empty_con ((o1.1.1, o1.1.2), o1.2.1, o1.2.2.1, o1.2.2.2) bx0 ia2 _ h13) Try.func35 (by kernel_rfl) rfl (.cons rfl (.refl _) .nil) (by exact sm_) rfl rfl ?_
  rintro _ _ _ ⟨i15, rfl, rfl, rfl⟩
  simp only [List.nil_append, List.cons_append]
  refine as_ ?_
  refine nt_ ?_
  refine xretc ?_
  refine xthen_ret ?_
  replace h := h.symm
  subst h
  exact xret1 hg rfl rfl (.refl _) (SubM.of (.keep rfl rfl (.refl _) (.nil _)) (.keep rfl (.nil _))) ⟨i15, rfl, rfl, rfl⟩
 ·replace h := h.2 hp12
  refine xcondF' (decide_eq_false hp12) rfl ?_
  refine xskipc ?_
  refine xthen ?_
  refine sr_ ?_
  refine mv_ ?_
  refine mv_ ?_
  obtain ⟨y17, h16, h⟩ := h
  refine xcallF (Fb := []) (Ft := []) (tree_Builder_fold_con ((o1.1.1, o1.1.2), o1.2.1, o1.2.2.1, o1.2.2.2) 2 l3 bx0 ia2 _ h16) Try.func36 (by kernel_rfl) rfl (.cons rfl (.refl _) (.cons rfl (.refl _) (.cons rfl (.refl _) .nil))) (by exact sm_) rfl rfl ?_
  rintro _ _ _ ⟨i18, rfl, rfl, rfl⟩
  simp only [List.nil_append, List.cons_append]
  refine as_ ?_
  refine nt_ ?_
  refine xretc ?_
  replace h := h.symm
  subst h
  exact xret1 hg rfl rfl (.refl _) (SubM.of (.keep rfl rfl (.refl _) (.nil _)) (.keep rfl (.nil _))) ⟨i18, rfl, rfl, rfl⟩
/-- class.with -/
def class_with_R (sv1 : Arr 4 (UInt64)) (c2 : UInt8) (r : (Arr 4 (UInt64))) : Prop :=
 (64 : Int) ≠ 0 ∧ ∃ c4 : UInt8, (c4.toNat : Int) = IntKind.u8.wrap (((c2.toNat : Int)).tdiv 64) ∧ (0 ≤ ((c4.toNat : Int) : Int) ∧ ((c4.toNat : Int) : Int) < 4) ∧ ∃ y6 : UInt64, sv1.l[((c4.toNat : Int) : Int).toNat]? = some y6 ∧ (64 : Int) ≠ 0 ∧ ∃ c8 : UInt8, (c8.toNat : Int) = (((c2.toNat : Int)).tmod 64) ∧ (0 : Int) ≤ (c8.toNat : Int) ∧ ∃ c10 : UInt64, (c10.toNat : Int) = IntKind.u64.wrap ((1 : Int) * 2 ^ (min ((c8.toNat : Int) : Int).toNat IntKind.u64.bits)) ∧ ∃ c12 : UInt64, (c12.toNat : Int) = IntKind.u64.wrap (BitVec.ofInt IntKind.u64.bits (y6.toNat : Int) ||| BitVec.ofInt IntKind.u64.bits (c10.toNat : Int)).toNat ∧ (0 ≤ ((c4.toNat : Int) : Int) ∧ ((c4.toNat : Int) : Int) < 4) ∧ ∃ y14 : UInt64, sv1.l[((c4.toNat : Int) : Int).toNat]? = some y14 ∧ r = (Arr.set sv1 ((c4.toNat : Int) : Int).toNat c12)
def class_with_ev (fuel : Nat) (sv1 : Arr 4 (UInt64)) (c2 : UInt8) : Option ((Arr 4 (UInt64))) :=
 (if (64 : Int) ≠ 0 then (exB (IntKind.u8.wrap (((c2.toNat : Int)).tdiv 64)) fun c4 => (if (0 ≤ ((c4.toNat : Int) : Int) ∧ ((c4.toNat : Int) : Int) < 4) then ((sv1.l[((c4.toNat : Int) : Int).toNat]?).bind fun y6 => (if (64 : Int) ≠ 0 then (exB ((((c2.toNat : Int)).tmod 64)) fun c8 => (if (0 : Int) ≤ (c8.toNat : Int) then (exL (IntKind.u64.wrap ((1 : Int) * 2 ^ (min ((c8.toNat : Int) : Int).toNat IntKind.u64.bits))) fun c10 => (exL (IntKind.u64.wrap (BitVec.ofInt IntKind.u64.bits (y6.toNat : Int) ||| BitVec.ofInt IntKind.u64.bits (c10.toNat : Int)).toNat) fun c12 => (if (0 ≤ ((c4.toNat : Int) : Int) ∧ ((c4.toNat : Int) : Int) < 4) then ((sv1.l[((c4.toNat : Int) : Int).toNat]?).bind fun y14 => some (Arr.set sv1 ((c4.toNat : Int) : Int).toNat c12)) else none))) else none)) else none)) else none)) else none)
theorem class_with_ok {fuel : Nat} {sv1 : Arr 4 (UInt64)} {c2 : UInt8} {r : (Arr 4 (UInt64))} (h : class_with_ev fuel sv1 c2 = some r) : class_with_R sv1 c2 r := by
 unfold class_with_ev at h
 unfold class_with_R
 obtain ⟨g60, h⟩ := if_ok h
 refine ⟨g60, ?_⟩
 obtain ⟨q61, g61, h⟩ := exB_ok h
 refine ⟨q61, g61, ?_⟩
 obtain ⟨g62, h⟩ := if_ok h
 refine ⟨g62, ?_⟩
 obtain ⟨q63, g63, h⟩ := bind_ok h
 refine ⟨q63, g63, ?_⟩
 obtain ⟨g64, h⟩ := if_ok h
 refine ⟨g64, ?_⟩
 obtain ⟨q65, g65, h⟩ := exB_ok h
 refine ⟨q65, g65, ?_⟩
 obtain ⟨g66, h⟩ := if_ok h
 refine ⟨g66, ?_⟩
 obtain ⟨q67, g67, h⟩ := exL_ok h
 refine ⟨q67, g67, ?_⟩
 obtain ⟨q68, g68, h⟩ := exL_ok h
 refine ⟨q68, g68, ?_⟩
 obtain ⟨g69, h⟩ := if_ok h
 refine ⟨g69, ?_⟩
 obtain ⟨q70, g70, h⟩ := bind_ok h
 refine ⟨q70, g70, ?_⟩
 exact (Option.some.inj h).symm
set_option maxHeartbeats 4000000 in
theorem class_with_con (sv1 : Arr 4 (UInt64)) (c2 : UInt8) (r : (Arr 4 (UInt64))) (h : class_with_R sv1 c2 r) : Con Try.prog 61 [.agg ((List.map ew sv1.l).flatten), .v (.int .u8 ((c2.toNat : Int)))] [] [] (Ret (.agg ((List.map ew r.l).flatten))) := by
 refine xenter Try.func61 rfl rfl fun g hg => ?_
 simp only [Try.ntmps61, slots]
 refine sr_ ?_
 refine xbox rfl rfl rfl rfl fun b2 => ?_
 refine xalloc InfC.h rfl rfl fun b4 => ?_
 refine xreb 0 ((List.map ew ((Arr.rep 4 (0 : UInt64))).l).flatten) rfl rfl ?_
 refine nt_ ?_
 refine sr_ ?_
 refine mv_ ?_
 obtain ⟨h3, h⟩ := h
 obtain ⟨c4, h3r, h⟩ := h
 refine vp_ (pv_quoW h3 h3r rfl rfl rfl) ?_
 obtain ⟨h5, h⟩ := h
 obtain ⟨y6, h5b, h⟩ := h
 refine vp_ (pv_indexAddrBA h5 UndC.h ShpC.h rfl rfl) ?_
 refine v_ (qv_loadA (f := ew) (a := sv1) (k := 1) (off := 0) (i := ((c4.toNat : Int) : Int).toNat) 1 [] [] h5b sq_ so_ (by decide) rfl ShpC.h rfl rfl) ?_
 refine mv_ ?_
 obtain ⟨h7, h⟩ := h
 obtain ⟨c8, h7r, h⟩ := h
 refine vp_ (pv_remW h7 h7r rfl rfl rfl) ?_
 obtain ⟨h9, h⟩ := h
 obtain ⟨c10, h9r, h⟩ := h
 refine vp_ (pv_shlW h9 h9r rfl rfl) ?_
 obtain ⟨c12, h11, h⟩ := h
 refine vp_ (pv_wr h11 rfl rfl rfl) ?_
 obtain ⟨h13, h⟩ := h
 obtain ⟨y14, h13b, h⟩ := h
 refine vp_ (pv_indexAddrBA h13 UndC.h ShpC.h rfl rfl) ?_
 refine xstoreA (f := ew) (a := sv1) (k := 1) (off := 0) (i := ((c4.toNat : Int) : Int).toNat) 1 [] [] c12 h13b sq_ so_ (by decide) ShpC.h rfl rfl rfl rfl sl_ rfl rfl ?_
 refine xreb 1 ((List.map ew ((Arr.set sv1 ((c4.toNat : Int) : Int).toNat c12)).l).flatten) rfl sq_ ?_
 refine nt_ ?_
 refine sr_ ?_
 refine v_ (qv_loadP 1 [] ((List.map ew ((Arr.set sv1 ((c4.toNat : Int) : Int).toNat c12)).l).flatten) [] sq_ sl_ sl_ (part_all (seg_lenE (by rfl))) ShpC.h rfl rfl) ?_
 refine xstoreQ 0 [] ((List.map ew ((Arr.rep 4 (0 : UInt64))).l).flatten) [] ((List.map ew ((Arr.set sv1 ((c4.toNat : Int) : Int).toNat c12)).l).flatten) ShpC.h rfl rfl rfl rfl rfl ?_
 refine nt_ ?_
 refine xretc ?_
 replace h := h.symm
 subst h
 exact xretL (rs := [.cell 4 40]) (ss := [.agg ((List.map ew ((Arr.set sv1 ((c4.toNat : Int) : Int).toNat c12)).l).flatten)]) hg rfl (by refine RetL.cell 0 ShpC.h rfl rfl (part_midE (pre := []) (mid := ((List.map ew ((Arr.set sv1 ((c4.toNat : Int) : Int).toNat c12)).l).flatten)) (post := []) sq_ sl_ sl_ (part_all (seg_lenE (by rfl)))) (len_midE (pre := []) (mid := ((List.map ew ((Arr.set sv1 ((c4.toNat : Int) : Int).toNat c12)).l).flatten)) (post := []) sq_ sl_ sl_) wk_ ?_; exact RetL.nil) (SubM.of (.nil _) (.nil _)) ⟨rfl, rfl, rfl⟩
/-- class.Of -/
def class_Of_l1 (l1 : List UInt8) (ag1 : (Int × (Arr 4 (UInt64))) → Prop) (x38 : Int) (f39 : Arr 4 (UInt64)) (r : (Arr 4 (UInt64))) : Prop :=
 ((x38 < (l1.length : Int) → 0 ≤ (x38 : Int) ∧ ∃ y51 : UInt8, l1[(x38 : Int).toNat]? = some y51 ∧ ∃ y54 : (Arr 4 (UInt64)), class_with_R f39 y51 y54 ∧ InR (x38 + 1) ∧ ag1 ((x38 + 1), y54)) ∧ (¬ (x38 < (l1.length : Int)) → r = f39))
def class_Of_R (l1 : List UInt8) (r : (Arr 4 (UInt64))) : Prop :=
 LoopR (fun ag1 s => class_Of_l1 l1 ag1 s.1 s.2 r) (0, (Arr.rep 4 (0 : UInt64)))
def class_Of_l1_ev (fuel : Nat) (l1 : List UInt8) (ag1e : (Int × (Arr 4 (UInt64))) → Option ((Arr 4 (UInt64)))) (x38 : Int) (f39 : Arr 4 (UInt64)) : Option ((Arr 4 (UInt64))) :=
 (if x38 < (l1.length : Int) then (if 0 ≤ (x38 : Int) then ((l1[(x38 : Int).toNat]?).bind fun y51 => ((class_with_ev fuel f39 y51).bind fun y54 => (if InR (x38 + 1) then ag1e ((x38 + 1), y54) else none))) else none) else some f39)
theorem class_Of_l1_ok {fuel : Nat} {l1 : List UInt8} {ag1e : (Int × (Arr 4 (UInt64))) → Option ((Arr 4 (UInt64)))} {ag1 : (Int × (Arr 4 (UInt64))) → Prop} {x38 : Int} {f39 : Arr 4 (UInt64)} {r : (Arr 4 (UInt64))} (hagag1 : ∀ s, ag1e s = some r → ag1 s) (h : class_Of_l1_ev fuel l1 ag1e x38 f39 = some r) : class_Of_l1 l1 ag1 x38 f39 r := by
 unfold class_Of_l1_ev at h
 unfold class_Of_l1
 refine ⟨fun g71 => ?_, fun g71 => ?_⟩
 ·rw [if_pos g71] at h
  obtain ⟨g72, h⟩ := if_ok h
  refine ⟨g72, ?_⟩
  obtain ⟨q73, g73, h⟩ := bind_ok h
  refine ⟨q73, g73, ?_⟩
  obtain ⟨q74, g74, h⟩ := bind_ok h
  refine ⟨q74, class_with_ok g74, ?_⟩
  obtain ⟨g75, h⟩ := if_ok h
  refine ⟨g75, ?_⟩
  exact hagag1 _ h
 ·rw [if_neg g71] at h
  exact (Option.some.inj h).symm
def class_Of_ev (fuel : Nat) (l1 : List UInt8) : Option ((Arr 4 (UInt64))) :=
 (loopE (fun ag1e s => class_Of_l1_ev fuel l1 ag1e s.1 s.2) fuel (0, (Arr.rep 4 (0 : UInt64))))
theorem class_Of_ok {fuel : Nat} {l1 : List UInt8} {r : (Arr 4 (UInt64))} (h : class_Of_ev fuel l1 = some r) : class_Of_R l1 r := by
 unfold class_Of_ev at h
 unfold class_Of_R
 refine loopE_ok ?_ h
 intro ae ag s hag h
 exact class_Of_l1_ok hag h
set_option maxHeartbeats 4000000 in
theorem class_Of_con (l1 : List UInt8) (r : (Arr 4 (UInt64))) (h : class_Of_R l1 r) : Con Try.prog 46 [.sl 1 none (List.map eb l1)] [] [] (Ret (.agg ((List.map ew r.l).flatten))) := by
 refine xenter Try.func46 rfl rfl fun g hg => ?_
 simp only [Try.ntmps46, slots]
 refine sr_ ?_
 refine xalloc InfC.h rfl rfl fun b2 => ?_
 refine xreb 0 ((List.map ew ((Arr.rep 4 (0 : UInt64))).l).flatten) rfl rfl ?_
 refine nt_ ?_
 refine sr_ ?_
 refine xalloc InfC.h rfl rfl fun b3 => ?_
 refine xreb 0 ((List.map ew ((Arr.rep 4 (0 : UInt64))).l).flatten) rfl rfl ?_
 refine nt_ ?_
 refine xseq ?_
 refine sr_ ?_
 refine mv_ ?_
 refine vp_ (pv_lenM UndC.h rfl) ?_
 refine mv_ ?_
 refine nt_ ?_
 refine xblock ?_
 obtain ⟨Inv, ⟨m0, hI⟩, hS⟩ := h
 refine xloop (fun σ m => ∃ (x38 : Int), ∃ (f39 : Arr 4 (UInt64)), Inv (x38, f39) m ∧ σ = ⟨[(2, .v (.pointer (some ⟨b2, 0, none⟩))), (3, .v (.pointer (some ⟨b3, 0, none⟩))), (6, .sl 1 none (List.map eb l1)), (7, .v (.int .i64 ((l1.length : Int)))), (8, .v (.int .i64 x38))], [⟨b3, 40, ((List.map ew f39.l).flatten)⟩, ⟨b2, 40, ((List.map ew ((Arr.rep 4 (0 : UInt64))).l).flatten)⟩], []⟩) ⟨0, (Arr.rep 4 (0 : UInt64)), hI, rfl⟩ (by exact ⟨lk_, (SubM.of (.keep rfl rfl (.refl _) (.keep rfl rfl (.refl _) (.nil _))) (.nil _))⟩) ?_
 rintro _ m ⟨x38, f39, hI, rfl⟩
 obtain ⟨ag1, hag1, h⟩ : ∃ ag, (∀ s', ag s' → ∃ m', m' < m ∧ Inv s' m') ∧ class_Of_l1 l1 ag x38 f39 r := ⟨_, fun _ h => h, hS (x38, f39) _ hI⟩
 clear hS hI
 refine sr_ ?_
 refine vp_ (pv_bin2 rfl rfl rfl) ?_
 refine nt_ ?_
 refine xseq ?_
 by_cases hp50 : x38 < (l1.length : Int)
 ·replace h := h.1 hp50
  refine xcondT' (decide_eq_true hp50) rfl ?_
  refine xskipc ?_
  refine xthen ?_
  refine xseq ?_
  refine xblock ?_
  refine sr_ ?_
  obtain ⟨h52a, h⟩ := h
  obtain ⟨y51, h52b, h⟩ := h
  refine vp_ (pv_indexAddrM h52a h52b UndC.h ShpC.h rfl rfl) ?_
  refine v_ (qv_load ShpC.h rfl rfl rfl) ?_
  refine as_ ?_
  refine nt_ ?_
  refine xregion ?_
  refine v_ (qv_loadP 0 [] ((List.map ew f39.l).flatten) [] sq_ sl_ sl_ (part_all (seg_lenE (by rfl))) ShpC.h rfl rfl) ?_
  refine mv_ ?_
  obtain ⟨y54, h53, h⟩ := h
  refine xcall0 (class_with_con f39 y51 _ h53) Try.func61 (by kernel_rfl) rfl (.cons rfl (.refl _) (.cons rfl (.refl _) .nil)) rfl rfl ?_
  refine xstoreQ 0 [] ((List.map ew f39.l).flatten) [] ((List.map ew y54.l).flatten) ShpC.h rfl rfl rfl rfl rfl ?_
  refine xnil ?_
  refine xin_normal ?_
  refine xthen ?_
  refine xregion ?_
  obtain ⟨h55, h⟩ := h
  refine vp_ (pv_addI h55 rfl rfl) ?_
  refine mv_ ?_
  refine xnil ?_
  obtain ⟨m', hm, hI⟩ := hag1 _ h
  exact xagain ⟨(x38 + 1), y54, hI, rfl⟩ hm ⟨lk_, (SubM.of (.keep rfl rfl (.refl _) (.keep rfl rfl (.refl _) (.nil _))) (.nil _))⟩
 ·replace h := h.2 hp50
  refine xcondF' (decide_eq_false hp50) rfl ?_
  refine xexit ?_
  refine xthen_exit ?_
  refine xthen_exit ?_
  refine xin_same rfl ?_
  refine xthen ?_
  refine sr_ ?_
  refine v_ (qv_loadP 0 [] ((List.map ew f39.l).flatten) [] sq_ sl_ sl_ (part_all (seg_lenE (by rfl))) ShpC.h rfl rfl) ?_
  refine xstoreQ 1 [] ((List.map ew ((Arr.rep 4 (0 : UInt64))).l).flatten) [] ((List.map ew f39.l).flatten) ShpC.h rfl rfl rfl rfl rfl ?_
  refine nt_ ?_
  refine xretc ?_
  replace h := h.symm
  subst h
  exact xretL (rs := [.cell 2 40]) (ss := [.agg ((List.map ew f39.l).flatten)]) hg rfl (by refine RetL.cell 1 ShpC.h rfl rfl (part_midE (pre := []) (mid := ((List.map ew f39.l).flatten)) (post := []) sq_ sl_ sl_ (part_all (seg_lenE (by rfl)))) (len_midE (pre := []) (mid := ((List.map ew f39.l).flatten)) (post := []) sq_ sl_ sl_) wk_ ?_; exact RetL.nil) (SubM.of (.nil _) (.nil _)) ⟨rfl, rfl, rfl⟩
/-- (*tree.Builder).Set -/
def tree_Builder_Set_R (o1 : ((List (Int × Int × Int × Int × Int × Int × (Arr 4 (UInt64)))) × Int) × (List UInt8) × Int × (Arr 10 (Bool))) (sv3 : Arr 4 (UInt64)) (r : Int × (((List (Int × Int × Int × Int × Int × Int × (Arr 4 (UInt64)))) × Int) × (List UInt8) × Int × (Arr 10 (Bool)))) : Prop :=
 ∃ y5 : Int × (((List (Int × Int × Int × Int × Int × Int × (Arr 4 (UInt64)))) × Int) × (List UInt8) × Int × (Arr 10 (Bool))), tree_Builder_put_R ((o1.1.1, o1.1.2), o1.2.1, o1.2.2.1, o1.2.2.2) (1, 0, 0, 0, 0, 0, sv3) y5 ∧ r = (y5.1, ((y5.2.1.1, y5.2.1.2), y5.2.2.1, y5.2.2.2.1, y5.2.2.2.2))
def tree_Builder_Set_ev (fuel : Nat) (o1 : ((List (Int × Int × Int × Int × Int × Int × (Arr 4 (UInt64)))) × Int) × (List UInt8) × Int × (Arr 10 (Bool))) (sv3 : Arr 4 (UInt64)) : Option (Int × (((List (Int × Int × Int × Int × Int × Int × (Arr 4 (UInt64)))) × Int) × (List UInt8) × Int × (Arr 10 (Bool)))) :=
 ((tree_Builder_put_ev fuel ((o1.1.1, o1.1.2), o1.2.1, o1.2.2.1, o1.2.2.2) (1, 0, 0, 0, 0, 0, sv3)).bind fun y5 => some (y5.1, ((y5.2.1.1, y5.2.1.2), y5.2.2.1, y5.2.2.2.1, y5.2.2.2.2)))
theorem tree_Builder_Set_ok {fuel : Nat} {o1 : ((List (Int × Int × Int × Int × Int × Int × (Arr 4 (UInt64)))) × Int) × (List UInt8) × Int × (Arr 10 (Bool))} {sv3 : Arr 4 (UInt64)} {r : Int × (((List (Int × Int × Int × Int × Int × Int × (Arr 4 (UInt64)))) × Int) × (List UInt8) × Int × (Arr 10 (Bool)))} (h : tree_Builder_Set_ev fuel o1 sv3 = some r) : tree_Builder_Set_R o1 sv3 r := by
 unfold tree_Builder_Set_ev at h
 unfold tree_Builder_Set_R
 obtain ⟨q76, g76, h⟩ := bind_ok h
 refine ⟨q76, tree_Builder_put_ok g76, ?_⟩
 exact (Option.some.inj h).symm
set_option maxHeartbeats 4000000 in
theorem tree_Builder_Set_con (o1 : ((List (Int × Int × Int × Int × Int × Int × (Arr 4 (UInt64)))) × Int) × (List UInt8) × Int × (Arr 10 (Bool))) (sv3 : Arr 4 (UInt64)) (bx0 : Nat) (ia2 : Option (Nat × Nat)) (r : Int × (((List (Int × Int × Int × Int × Int × Int × (Arr 4 (UInt64)))) × Int) × (List UInt8) × Int × (Arr 10 (Bool)))) (h : tree_Builder_Set_R o1 sv3 r) : Con Try.prog 45 [.v (.pointer (some ⟨bx0, 0, none⟩)), .agg ((List.map ew sv3.l).flatten)] [⟨bx0, 50, ([.sl 10 (some ia2) (List.map E_palinode_api_Node o1.1.1), .v (.int .i64 o1.1.2), .sl 1 none (List.map eb o1.2.1), .v (.int .i64 o1.2.2.1)] ++ (List.map eB o1.2.2.2.l).flatten)⟩] [⟨ia2, 42, 10, o1.1.1.length⟩] (fun rr bx tk => ∃ j1, rr = .v (.int .i64 r.1) ∧ bx = [⟨bx0, 50, ([.sl 10 (some j1) (List.map E_palinode_api_Node r.2.1.1), .v (.int .i64 r.2.1.2), .sl 1 none (List.map eb r.2.2.1), .v (.int .i64 r.2.2.2.1)] ++ (List.map eB r.2.2.2.2.l).flatten)⟩] ∧ tk = [⟨j1, 42, 10, r.2.1.1.length⟩]) := by
 refine xenter Try.func45 rfl rfl fun g hg => ?_
 simp only [Try.ntmps45, slots]
 refine sr_ ?_
 refine xbox rfl rfl rfl rfl fun b3 => ?_
 refine as_ ?_
 refine nt_ ?_
 refine sr_ ?_
 refine mv_ ?_
 refine v_ (qv_loadP 0 [] ((List.map ew sv3.l).flatten) [] sq_ sl_ sl_ (part_all (seg_lenE (by rfl))) ShpC.h rfl rfl) ?_
 refine vp_ (pv_buildC (cs := ([.v (.int .i64 1), .v (.int .i64 0), .v (.int .i64 0), .v (.int .i64 0), .v (.int .i64 0), .v (.int .i64 0)] ++ (List.map ew sv3.l).flatten)) StrC.h rfl (by refine fill_step [] [.v (.int .i64 0)] ([.v (.int .i64 0), .v (.int .i64 0), .v (.int .i64 0), .v (.int .i64 0), .v (.int .i64 0)] ++ (List.map ew ((Arr.rep 4 (0 : UInt64))).l).flatten) sq_ sl_ sl_ sl_ rfl rfl ?_; refine fill_step [.v (.int .i64 1), .v (.int .i64 0), .v (.int .i64 0), .v (.int .i64 0), .v (.int .i64 0), .v (.int .i64 0)] ((List.map ew ((Arr.rep 4 (0 : UInt64))).l).flatten) [] sq_ sl_ sl_ sl_ rfl rfl ?_; exact congrArg some sq_)) ?_
 obtain ⟨y5, h4, h⟩ := h
 refine xcallF (Fb := [⟨b3, 40, ((List.map ew sv3.l).flatten)⟩]) (Ft := []) (tree_Builder_put_con ((o1.1.1, o1.1.2), o1.2.1, o1.2.2.1, o1.2.2.2) (1, 0, 0, 0, 0, 0, sv3) bx0 ia2 _ h4) Try.func31 (by kernel_rfl) rfl (.cons rfl (.refl _) (.cons rfl (.refl _) .nil)) (by refine SubM.trans (SubM.mvB 1 rfl) ?_; (simp only [List.eraseIdx]); exact sm_) rfl rfl ?_
 rintro _ _ _ ⟨i6, rfl, rfl, rfl⟩
 simp only [List.nil_append, List.cons_append]
 refine as_ ?_
 refine nt_ ?_
 refine xretc ?_
 replace h := h.symm
 subst h
 exact xret1 hg rfl rfl (.refl _) (SubM.of (.keep rfl rfl (.refl _) (.nil _)) (.keep rfl (.nil _))) ⟨i6, rfl, rfl, rfl⟩
/-- (*bre.parser).one -/
def bre_parser_one_R (o1 : ((List (Int × Int × Int × Int × Int × Int × (Arr 4 (UInt64)))) × Int) × (List UInt8) × Int × (Arr 10 (Bool))) (c3 : UInt8) (r : Int × (((List (Int × Int × Int × Int × Int × Int × (Arr 4 (UInt64)))) × Int) × (List UInt8) × Int × (Arr 10 (Bool)))) : Prop :=
 InR (o1.2.2.1 + 1) ∧ ∃ y11 : (Arr 4 (UInt64)), class_Of_R ([c3]) y11 ∧ ∃ y13 : Int × (((List (Int × Int × Int × Int × Int × Int × (Arr 4 (UInt64)))) × Int) × (List UInt8) × Int × (Arr 10 (Bool))), tree_Builder_Set_R ((o1.1.1, o1.1.2), o1.2.1, (o1.2.2.1 + 1), o1.2.2.2) y11 y13 ∧ r = (y13.1, ((y13.2.1.1, y13.2.1.2), y13.2.2.1, y13.2.2.2.1, y13.2.2.2.2))
def bre_parser_one_ev (fuel : Nat) (o1 : ((List (Int × Int × Int × Int × Int × Int × (Arr 4 (UInt64)))) × Int) × (List UInt8) × Int × (Arr 10 (Bool))) (c3 : UInt8) : Option (Int × (((List (Int × Int × Int × Int × Int × Int × (Arr 4 (UInt64)))) × Int) × (List UInt8) × Int × (Arr 10 (Bool)))) :=
 (if InR (o1.2.2.1 + 1) then ((class_Of_ev fuel ([c3])).bind fun y11 => ((tree_Builder_Set_ev fuel ((o1.1.1, o1.1.2), o1.2.1, (o1.2.2.1 + 1), o1.2.2.2) y11).bind fun y13 => some (y13.1, ((y13.2.1.1, y13.2.1.2), y13.2.2.1, y13.2.2.2.1, y13.2.2.2.2)))) else none)
theorem bre_parser_one_ok {fuel : Nat} {o1 : ((List (Int × Int × Int × Int × Int × Int × (Arr 4 (UInt64)))) × Int) × (List UInt8) × Int × (Arr 10 (Bool))} {c3 : UInt8} {r : Int × (((List (Int × Int × Int × Int × Int × Int × (Arr 4 (UInt64)))) × Int) × (List UInt8) × Int × (Arr 10 (Bool)))} (h : bre_parser_one_ev fuel o1 c3 = some r) : bre_parser_one_R o1 c3 r := by
 unfold bre_parser_one_ev at h
 unfold bre_parser_one_R
 obtain ⟨g77, h⟩ := if_ok h
 refine ⟨g77, ?_⟩
 obtain ⟨q78, g78, h⟩ := bind_ok h
 refine ⟨q78, class_Of_ok g78, ?_⟩
 obtain ⟨q79, g79, h⟩ := bind_ok h
 refine ⟨q79, tree_Builder_Set_ok g79, ?_⟩
 exact (Option.some.inj h).symm
set_option maxHeartbeats 4000000 in
theorem bre_parser_one_con (o1 : ((List (Int × Int × Int × Int × Int × Int × (Arr 4 (UInt64)))) × Int) × (List UInt8) × Int × (Arr 10 (Bool))) (c3 : UInt8) (bx0 : Nat) (ia2 : Option (Nat × Nat)) (r : Int × (((List (Int × Int × Int × Int × Int × Int × (Arr 4 (UInt64)))) × Int) × (List UInt8) × Int × (Arr 10 (Bool)))) (h : bre_parser_one_R o1 c3 r) : Con Try.prog 32 [.v (.pointer (some ⟨bx0, 0, none⟩)), .v (.int .u8 ((c3.toNat : Int)))] [⟨bx0, 50, ([.sl 10 (some ia2) (List.map E_palinode_api_Node o1.1.1), .v (.int .i64 o1.1.2), .sl 1 none (List.map eb o1.2.1), .v (.int .i64 o1.2.2.1)] ++ (List.map eB o1.2.2.2.l).flatten)⟩] [⟨ia2, 42, 10, o1.1.1.length⟩] (fun rr bx tk => ∃ j1, rr = .v (.int .i64 r.1) ∧ bx = [⟨bx0, 50, ([.sl 10 (some j1) (List.map E_palinode_api_Node r.2.1.1), .v (.int .i64 r.2.1.2), .sl 1 none (List.map eb r.2.2.1), .v (.int .i64 r.2.2.2.1)] ++ (List.map eB r.2.2.2.2.l).flatten)⟩] ∧ tk = [⟨j1, 42, 10, r.2.1.1.length⟩]) := by
 refine xenter Try.func32 rfl rfl fun g hg => ?_
 simp only [Try.ntmps32, slots]
 refine sr_ ?_
 refine as_ ?_
 refine nt_ ?_
 refine sr_ ?_
 refine mv_ ?_
 refine vp_ (pv_nilCheck rfl) ?_
 refine vp_ (qv_fieldAddrB FldC.h rfl) ?_
 refine v_ (qv_loadB 0 ShpC.h rfl rfl rfl rfl) ?_
 obtain ⟨h4, h⟩ := h
 refine vp_ (pv_addI h4 rfl rfl) ?_
 refine vp_ (pv_nilCheck rfl) ?_
 refine vp_ (qv_fieldAddrB FldC.h rfl) ?_
 refine xstore 0 ShpC.h rfl rfl rfl rfl rfl rfl rfl ?_
 refine nt_ ?_
 refine xseq ?_
 refine xregionD (m := 8) (by kernel_rfl) rfl ?_
 obtain ⟨y11, h10, h⟩ := h
 obtain ⟨y13, h12, h⟩ := h
 refine pl_ 0 rfl (pv_move rfl) ?_
 refine pl_ 1 rfl (pv_nilCheck rfl) ?_
 refine pl_ 2 rfl (qv_fieldAddrB FldC.h rfl) ?_
 refine pl_ 3 rfl (pv_move rfl) ?_
 refine xpstep (i := 4) (by kernel_rfl) rfl ?_
 refine wbuildSliceM (f := eb) [c3] UndC.h InfC.h rfl rfl wr_ rfl rfl rfl rfl fun s16 => ?_
 refine xpstep (i := 5) (by kernel_rfl) rfl ?_
 refine wcall0 (class_Of_con ([c3]) _ h10) Try.func46 (by kernel_rfl) rfl (.cons rfl (.tok _ _ _) .nil) rfl rfl ?_
 refine xpstep (i := 6) (by kernel_rfl) rfl ?_
 refine wcallF (Fb := []) (Ft := [⟨(some (s16, 1)), 5, 1, ([c3]).length⟩]) (tree_Builder_Set_con ((o1.1.1, o1.1.2), o1.2.1, (o1.2.2.1 + 1), o1.2.2.2) y11 bx0 ia2 _ h12) Try.func45 (by kernel_rfl) rfl (.cons rfl (.refl _) (.cons rfl (.refl _) .nil)) (by refine SubM.trans (SubM.mvT 1 rfl) ?_; (simp only [List.eraseIdx]); exact sm_) rfl rfl ?_
 rintro _ _ _ ⟨i14, rfl, rfl, rfl⟩
 simp only [List.nil_append, List.cons_append]
 refine pl_ 7 rfl (pv_assign rfl) ?_
 refine xpdone (by kernel_rfl) ?_
 refine xthen ?_
 refine xretc ?_
 replace h := h.symm
 subst h
 exact xret1 hg rfl rfl (.refl _) (SubM.of (.keep rfl rfl (.refl _) (.nil _)) (.keep rfl (.nil _))) ⟨i14, rfl, rfl, rfl⟩
/-- (*tree.Builder).Rep -/
def tree_Builder_Rep_R (o1 : ((List (Int × Int × Int × Int × Int × Int × (Arr 4 (UInt64)))) × Int) × (List UInt8) × Int × (Arr 10 (Bool))) (a3 : Int) (lo4 : Int) (hi5 : Int) (r : Int × (((List (Int × Int × Int × Int × Int × Int × (Arr 4 (UInt64)))) × Int) × (List UInt8) × Int × (Arr 10 (Bool)))) : Prop :=
 ∃ y7 : Int × (((List (Int × Int × Int × Int × Int × Int × (Arr 4 (UInt64)))) × Int) × (List UInt8) × Int × (Arr 10 (Bool))), tree_Builder_put_R ((o1.1.1, o1.1.2), o1.2.1, o1.2.2.1, o1.2.2.2) (4, a3, 0, lo4, hi5, 0, (Arr.rep 4 (0 : UInt64))) y7 ∧ r = (y7.1, ((y7.2.1.1, y7.2.1.2), y7.2.2.1, y7.2.2.2.1, y7.2.2.2.2))
def tree_Builder_Rep_ev (fuel : Nat) (o1 : ((List (Int × Int × Int × Int × Int × Int × (Arr 4 (UInt64)))) × Int) × (List UInt8) × Int × (Arr 10 (Bool))) (a3 : Int) (lo4 : Int) (hi5 : Int) : Option (Int × (((List (Int × Int × Int × Int × Int × Int × (Arr 4 (UInt64)))) × Int) × (List UInt8) × Int × (Arr 10 (Bool)))) :=
 ((tree_Builder_put_ev fuel ((o1.1.1, o1.1.2), o1.2.1, o1.2.2.1, o1.2.2.2) (4, a3, 0, lo4, hi5, 0, (Arr.rep 4 (0 : UInt64)))).bind fun y7 => some (y7.1, ((y7.2.1.1, y7.2.1.2), y7.2.2.1, y7.2.2.2.1, y7.2.2.2.2)))
theorem tree_Builder_Rep_ok {fuel : Nat} {o1 : ((List (Int × Int × Int × Int × Int × Int × (Arr 4 (UInt64)))) × Int) × (List UInt8) × Int × (Arr 10 (Bool))} {a3 : Int} {lo4 : Int} {hi5 : Int} {r : Int × (((List (Int × Int × Int × Int × Int × Int × (Arr 4 (UInt64)))) × Int) × (List UInt8) × Int × (Arr 10 (Bool)))} (h : tree_Builder_Rep_ev fuel o1 a3 lo4 hi5 = some r) : tree_Builder_Rep_R o1 a3 lo4 hi5 r := by
 unfold tree_Builder_Rep_ev at h
 unfold tree_Builder_Rep_R
 obtain ⟨q80, g80, h⟩ := bind_ok h
 refine ⟨q80, tree_Builder_put_ok g80, ?_⟩
 exact (Option.some.inj h).symm
set_option maxHeartbeats 4000000 in
theorem tree_Builder_Rep_con (o1 : ((List (Int × Int × Int × Int × Int × Int × (Arr 4 (UInt64)))) × Int) × (List UInt8) × Int × (Arr 10 (Bool))) (a3 : Int) (lo4 : Int) (hi5 : Int) (bx0 : Nat) (ia2 : Option (Nat × Nat)) (r : Int × (((List (Int × Int × Int × Int × Int × Int × (Arr 4 (UInt64)))) × Int) × (List UInt8) × Int × (Arr 10 (Bool)))) (h : tree_Builder_Rep_R o1 a3 lo4 hi5 r) : Con Try.prog 52 [.v (.pointer (some ⟨bx0, 0, none⟩)), .v (.int .i64 a3), .v (.int .i64 lo4), .v (.int .i64 hi5)] [⟨bx0, 50, ([.sl 10 (some ia2) (List.map E_palinode_api_Node o1.1.1), .v (.int .i64 o1.1.2), .sl 1 none (List.map eb o1.2.1), .v (.int .i64 o1.2.2.1)] ++ (List.map eB o1.2.2.2.l).flatten)⟩] [⟨ia2, 42, 10, o1.1.1.length⟩] (fun rr bx tk => ∃ j1, rr = .v (.int .i64 r.1) ∧ bx = [⟨bx0, 50, ([.sl 10 (some j1) (List.map E_palinode_api_Node r.2.1.1), .v (.int .i64 r.2.1.2), .sl 1 none (List.map eb r.2.2.1), .v (.int .i64 r.2.2.2.1)] ++ (List.map eB r.2.2.2.2.l).flatten)⟩] ∧ tk = [⟨j1, 42, 10, r.2.1.1.length⟩]) := by
 refine xenter Try.func52 rfl rfl fun g hg => ?_
 simp only [Try.ntmps52, slots]
 refine sr_ ?_
 refine as_ ?_
 refine nt_ ?_
 refine sr_ ?_
 refine mv_ ?_
 refine mv_ ?_
 refine mv_ ?_
 refine mv_ ?_
 refine vp_ (pv_buildC (cs := ([.v (.int .i64 4), .v (.int .i64 a3), .v (.int .i64 0), .v (.int .i64 lo4), .v (.int .i64 hi5), .v (.int .i64 0)] ++ (List.map ew ((Arr.rep 4 (0 : UInt64))).l).flatten)) StrC.h rfl (by refine fill_step [] [.v (.int .i64 0)] ([.v (.int .i64 0), .v (.int .i64 0), .v (.int .i64 0), .v (.int .i64 0), .v (.int .i64 0)] ++ (List.map ew ((Arr.rep 4 (0 : UInt64))).l).flatten) sq_ sl_ sl_ sl_ rfl rfl ?_; refine fill_step [.v (.int .i64 4)] [.v (.int .i64 0)] ([.v (.int .i64 0), .v (.int .i64 0), .v (.int .i64 0), .v (.int .i64 0)] ++ (List.map ew ((Arr.rep 4 (0 : UInt64))).l).flatten) sq_ sl_ sl_ sl_ rfl rfl ?_; refine fill_step [.v (.int .i64 4), .v (.int .i64 a3), .v (.int .i64 0)] [.v (.int .i64 0)] ([.v (.int .i64 0), .v (.int .i64 0)] ++ (List.map ew ((Arr.rep 4 (0 : UInt64))).l).flatten) sq_ sl_ sl_ sl_ rfl rfl ?_; refine fill_step [.v (.int .i64 4), .v (.int .i64 a3), .v (.int .i64 0), .v (.int .i64 lo4)] [.v (.int .i64 0)] ([.v (.int .i64 0)] ++ (List.map ew ((Arr.rep 4 (0 : UInt64))).l).flatten) sq_ sl_ sl_ sl_ rfl rfl ?_; exact congrArg some sq_)) ?_
 obtain ⟨y7, h6, h⟩ := h
 refine xcallF (Fb := []) (Ft := []) (tree_Builder_put_con ((o1.1.1, o1.1.2), o1.2.1, o1.2.2.1, o1.2.2.2) (4, a3, 0, lo4, hi5, 0, (Arr.rep 4 (0 : UInt64))) bx0 ia2 _ h6) Try.func31 (by kernel_rfl) rfl (.cons rfl (.refl _) (.cons rfl (.refl _) .nil)) (by exact sm_) rfl rfl ?_
 rintro _ _ _ ⟨i8, rfl, rfl, rfl⟩
 simp only [List.nil_append, List.cons_append]
 refine as_ ?_
 refine nt_ ?_
 refine xretc ?_
 replace h := h.symm
 subst h
 exact xret1 hg rfl rfl (.refl _) (SubM.of (.keep rfl rfl (.refl _) (.nil _)) (.keep rfl (.nil _))) ⟨i8, rfl, rfl, rfl⟩
/-- digit.within -/
def digit_within_R (c1 : UInt8) (low2 : UInt8) (high3 : UInt8) (r : Bool) : Prop :=
 (((low2.toNat : Int) ≤ (c1.toNat : Int) → r = (decide ((c1.toNat : Int) ≤ (high3.toNat : Int)))) ∧ (¬ ((low2.toNat : Int) ≤ (c1.toNat : Int)) → r = false))
def digit_within_ev (fuel : Nat) (c1 : UInt8) (low2 : UInt8) (high3 : UInt8) : Option (Bool) :=
 (if (low2.toNat : Int) ≤ (c1.toNat : Int) then some (decide ((c1.toNat : Int) ≤ (high3.toNat : Int))) else some false)
theorem digit_within_ok {fuel : Nat} {c1 : UInt8} {low2 : UInt8} {high3 : UInt8} {r : Bool} (h : digit_within_ev fuel c1 low2 high3 = some r) : digit_within_R c1 low2 high3 r := by
 unfold digit_within_ev at h
 unfold digit_within_R
 refine ⟨fun g81 => ?_, fun g81 => ?_⟩
 ·rw [if_pos g81] at h
  exact (Option.some.inj h).symm
 ·rw [if_neg g81] at h
  exact (Option.some.inj h).symm
set_option maxHeartbeats 4000000 in
theorem digit_within_con (c1 : UInt8) (low2 : UInt8) (high3 : UInt8) (r : Bool) (h : digit_within_R c1 low2 high3 r) : Con Try.prog 77 [.v (.int .u8 ((c1.toNat : Int))), .v (.int .u8 ((low2.toNat : Int))), .v (.int .u8 ((high3.toNat : Int)))] [] [] (Ret (.v (.bool r))) := by
 refine xenter Try.func77 rfl rfl fun g hg => ?_
 simp only [Try.ntmps77, slots]
 refine sr_ ?_
 refine as_ ?_
 refine nt_ ?_
 refine sr_ ?_
 refine mv_ ?_
 refine mv_ ?_
 refine vp_ (pv_bin2 rfl rfl rfl) ?_
 refine mv_ ?_
 by_cases hp8 : (low2.toNat : Int) ≤ (c1.toNat : Int)
 ·replace h := h.1 hp8
  refine xsetB 10 (decide_eq_true hp8) rfl ?_
  refine mv_ ?_
  refine mv_ ?_
  refine vp_ (pv_bin2 rfl rfl rfl) ?_
  refine pk_ ?_
  refine as_ ?_
  refine nt_ ?_
  refine xretc ?_
  replace h := h.symm
  subst h
  exact xret1 hg rfl rfl (.refl _) (SubM.of (.nil _) (.nil _)) ⟨rfl, rfl, rfl⟩
 ·replace h := h.2 hp8
  refine xsetB 10 (decide_eq_false hp8) rfl ?_
  refine sk_ ?_
  refine sk_ ?_
  refine sk_ ?_
  refine pk_ ?_
  refine as_ ?_
  refine nt_ ?_
  refine xretc ?_
  replace h := h.symm
  subst h
  exact xret1 hg rfl rfl (.refl _) (SubM.of (.nil _) (.nil _)) ⟨rfl, rfl, rfl⟩
/-- digit.isDigit -/
def digit_isDigit_R (c1 : UInt8) (r : Bool) : Prop :=
 ∃ y3 : Bool, digit_within_R c1 (48 : UInt8) (57 : UInt8) y3 ∧ r = y3
def digit_isDigit_ev (fuel : Nat) (c1 : UInt8) : Option (Bool) :=
 ((digit_within_ev fuel c1 (48 : UInt8) (57 : UInt8)).bind fun y3 => some y3)
theorem digit_isDigit_ok {fuel : Nat} {c1 : UInt8} {r : Bool} (h : digit_isDigit_ev fuel c1 = some r) : digit_isDigit_R c1 r := by
 unfold digit_isDigit_ev at h
 unfold digit_isDigit_R
 obtain ⟨q82, g82, h⟩ := bind_ok h
 refine ⟨q82, digit_within_ok g82, ?_⟩
 exact (Option.some.inj h).symm
set_option maxHeartbeats 4000000 in
theorem digit_isDigit_con (c1 : UInt8) (r : Bool) (h : digit_isDigit_R c1 r) : Con Try.prog 67 [.v (.int .u8 ((c1.toNat : Int)))] [] [] (Ret (.v (.bool r))) := by
 refine xenter Try.func67 rfl rfl fun g hg => ?_
 simp only [Try.ntmps67, slots]
 refine sr_ ?_
 refine as_ ?_
 refine nt_ ?_
 refine sr_ ?_
 refine mv_ ?_
 obtain ⟨y3, h2, h⟩ := h
 refine xcall0 (digit_within_con c1 (48 : UInt8) (57 : UInt8) _ h2) Try.func77 (by kernel_rfl) rfl (.cons rfl (.refl _) (.cons rfl (.refl _) (.cons rfl (.refl _) .nil))) rfl rfl ?_
 refine as_ ?_
 refine nt_ ?_
 refine xretc ?_
 replace h := h.symm
 subst h
 exact xret1 hg rfl rfl (.refl _) (SubM.of (.nil _) (.nil _)) ⟨rfl, rfl, rfl⟩
end Go.Proofs.Ytpddiffpanihdaa
