
/- What functions' texts ask for, and the walks that show it (printed by a program). -/
import Derived.Test.YtncnfohhjbadgaaFl
namespace Go.Proofs.Ytncnfohhjbadgaa
abbrev E_palinode_api_Node (x : Int × Int × Int × Int × Int × Int × (Arr 4 (UInt64))) : List Sd := ([.v (.int .i64 x.1), .v (.int .i64 x.2.1), .v (.int .i64 x.2.2.1), .v (.int .i64 x.2.2.2.1), .v (.int .i64 x.2.2.2.2.1), .v (.int .i64 x.2.2.2.2.2.1)] ++ (List.map ew x.2.2.2.2.2.2.l).flatten)
instance : EncLen E_palinode_api_Node 10 := ⟨fun _ => sl_⟩
abbrev E_palinode_api_Span (x : Int × Int) : List Sd := [.v (.int .i64 x.1), .v (.int .i64 x.2)]
instance : EncLen E_palinode_api_Span 2 := ⟨fun _ => sl_⟩
abbrev E_palinode_api_Hit (x : (Arr 10 (Int × Int))) : List Sd := ((List.map E_palinode_api_Span x.l).flatten)
instance : EncLen E_palinode_api_Hit 20 := ⟨fun _ => sl_⟩
abbrev E_palinode_api_Set (x : Arr 4 (UInt64)) : List Sd := ((List.map ew x.l).flatten)
instance : EncLen E_palinode_api_Set 4 := ⟨fun _ => sl_⟩
set_option synthInstance.maxSize 4000 in
instance : DecidableEq (Int × Int × Int × Int × Int × Int × (Arr 4 (UInt64))) := inferInstance
set_option synthInstance.maxSize 4000 in
set_option maxRecDepth 20000 in
theorem eqc_54 : EqC Try.prog 54 E_palinode_api_Node true 3 := ⟨by
 rintro d hd ⟨x0, x1, x2, x3, x4, x5, x6⟩ ⟨y0, y1, y2, y3, y4, y5, y6⟩ R w _ _ ⟨us, rfl, hu, hu1⟩ ⟨vs, rfl, hv, hv1⟩ W
 obtain ⟨d, rfl, hd'⟩ := d_succ hd
 have h7 := eqF_nil (P := Try.prog) d us vs W
 have h6 := eqF_cons (P := Try.prog) (fd := ({ name := "Set", type := 51, offset := 6, embedded := false, tag := "", pkgPath := "", byteOffset := 48 } : Field)) (f := E_palinode_api_Set) (ag := true) (x := x6) (y := y6) hu hu1 hv hv1 (by decide) ShpC.h (eqC_arr (t := 51) (e := 49) (f := ew) UndC.h ShpC.h (by kernel_rfl) inferInstance (fun _ => rfl)) (show 2 ≤ d by omega) (part_midE (pre := [.v (.int .i64 x0), .v (.int .i64 x1), .v (.int .i64 x2), .v (.int .i64 x3), .v (.int .i64 x4), .v (.int .i64 x5)]) (mid := ((List.map ew x6.l).flatten)) (post := []) sq_ sl_ sl_ (part_all sl_)) (part_midE (pre := [.v (.int .i64 y0), .v (.int .i64 y1), .v (.int .i64 y2), .v (.int .i64 y3), .v (.int .i64 y4), .v (.int .i64 y5)]) (mid := ((List.map ew y6.l).flatten)) (post := []) sq_ sl_ sl_ (part_all sl_)) h7
 have h5 := eqF_cons (P := Try.prog) (fd := ({ name := "Group", type := 3, offset := 5, embedded := false, tag := "", pkgPath := "", byteOffset := 40 } : Field)) (f := ei) (ag := false) (x := x5) (y := y5) hu hu1 hv hv1 (by decide) ShpC.h inferInstance (show 1 ≤ d by omega) (part_midE (pre := [.v (.int .i64 x0), .v (.int .i64 x1), .v (.int .i64 x2), .v (.int .i64 x3), .v (.int .i64 x4)]) (mid := [.v (.int .i64 x5)]) (post := ((List.map ew x6.l).flatten)) sq_ sl_ sl_ rfl) (part_midE (pre := [.v (.int .i64 y0), .v (.int .i64 y1), .v (.int .i64 y2), .v (.int .i64 y3), .v (.int .i64 y4)]) (mid := [.v (.int .i64 y5)]) (post := ((List.map ew y6.l).flatten)) sq_ sl_ sl_ rfl) h6
 have h4 := eqF_cons (P := Try.prog) (fd := ({ name := "Hi", type := 3, offset := 4, embedded := false, tag := "", pkgPath := "", byteOffset := 32 } : Field)) (f := ei) (ag := false) (x := x4) (y := y4) hu hu1 hv hv1 (by decide) ShpC.h inferInstance (show 1 ≤ d by omega) (part_midE (pre := [.v (.int .i64 x0), .v (.int .i64 x1), .v (.int .i64 x2), .v (.int .i64 x3)]) (mid := [.v (.int .i64 x4)]) (post := ([.v (.int .i64 x5)] ++ (List.map ew x6.l).flatten)) sq_ sl_ sl_ rfl) (part_midE (pre := [.v (.int .i64 y0), .v (.int .i64 y1), .v (.int .i64 y2), .v (.int .i64 y3)]) (mid := [.v (.int .i64 y4)]) (post := ([.v (.int .i64 y5)] ++ (List.map ew y6.l).flatten)) sq_ sl_ sl_ rfl) h5
 have h3 := eqF_cons (P := Try.prog) (fd := ({ name := "Lo", type := 3, offset := 3, embedded := false, tag := "", pkgPath := "", byteOffset := 24 } : Field)) (f := ei) (ag := false) (x := x3) (y := y3) hu hu1 hv hv1 (by decide) ShpC.h inferInstance (show 1 ≤ d by omega) (part_midE (pre := [.v (.int .i64 x0), .v (.int .i64 x1), .v (.int .i64 x2)]) (mid := [.v (.int .i64 x3)]) (post := ([.v (.int .i64 x4), .v (.int .i64 x5)] ++ (List.map ew x6.l).flatten)) sq_ sl_ sl_ rfl) (part_midE (pre := [.v (.int .i64 y0), .v (.int .i64 y1), .v (.int .i64 y2)]) (mid := [.v (.int .i64 y3)]) (post := ([.v (.int .i64 y4), .v (.int .i64 y5)] ++ (List.map ew y6.l).flatten)) sq_ sl_ sl_ rfl) h4
 have h2 := eqF_cons (P := Try.prog) (fd := ({ name := "B", type := 3, offset := 2, embedded := false, tag := "", pkgPath := "", byteOffset := 16 } : Field)) (f := ei) (ag := false) (x := x2) (y := y2) hu hu1 hv hv1 (by decide) ShpC.h inferInstance (show 1 ≤ d by omega) (part_midE (pre := [.v (.int .i64 x0), .v (.int .i64 x1)]) (mid := [.v (.int .i64 x2)]) (post := ([.v (.int .i64 x3), .v (.int .i64 x4), .v (.int .i64 x5)] ++ (List.map ew x6.l).flatten)) sq_ sl_ sl_ rfl) (part_midE (pre := [.v (.int .i64 y0), .v (.int .i64 y1)]) (mid := [.v (.int .i64 y2)]) (post := ([.v (.int .i64 y3), .v (.int .i64 y4), .v (.int .i64 y5)] ++ (List.map ew y6.l).flatten)) sq_ sl_ sl_ rfl) h3
 have h1 := eqF_cons (P := Try.prog) (fd := ({ name := "A", type := 3, offset := 1, embedded := false, tag := "", pkgPath := "", byteOffset := 8 } : Field)) (f := ei) (ag := false) (x := x1) (y := y1) hu hu1 hv hv1 (by decide) ShpC.h inferInstance (show 1 ≤ d by omega) (part_midE (pre := [.v (.int .i64 x0)]) (mid := [.v (.int .i64 x1)]) (post := ([.v (.int .i64 x2), .v (.int .i64 x3), .v (.int .i64 x4), .v (.int .i64 x5)] ++ (List.map ew x6.l).flatten)) sq_ sl_ sl_ rfl) (part_midE (pre := [.v (.int .i64 y0)]) (mid := [.v (.int .i64 y1)]) (post := ([.v (.int .i64 y2), .v (.int .i64 y3), .v (.int .i64 y4), .v (.int .i64 y5)] ++ (List.map ew y6.l).flatten)) sq_ sl_ sl_ rfl) h2
 have h0 := eqF_cons (P := Try.prog) (fd := ({ name := "Kind", type := 3, offset := 0, embedded := false, tag := "", pkgPath := "", byteOffset := 0 } : Field)) (f := ei) (ag := false) (x := x0) (y := y0) hu hu1 hv hv1 (by decide) ShpC.h inferInstance (show 1 ≤ d by omega) (part_midE (pre := []) (mid := [.v (.int .i64 x0)]) (post := ([.v (.int .i64 x1), .v (.int .i64 x2), .v (.int .i64 x3), .v (.int .i64 x4), .v (.int .i64 x5)] ++ (List.map ew x6.l).flatten)) sq_ sl_ sl_ rfl) (part_midE (pre := []) (mid := [.v (.int .i64 y0)]) (post := ([.v (.int .i64 y1), .v (.int .i64 y2), .v (.int .i64 y3), .v (.int .i64 y4), .v (.int .i64 y5)] ++ (List.map ew y6.l).flatten)) sq_ sl_ sl_ rfl) h1
 have hf : (Try.prog.fieldsOf 54).toList = [({ name := "Kind", type := 3, offset := 0, embedded := false, tag := "", pkgPath := "", byteOffset := 0 } : Field), ({ name := "A", type := 3, offset := 1, embedded := false, tag := "", pkgPath := "", byteOffset := 8 } : Field), ({ name := "B", type := 3, offset := 2, embedded := false, tag := "", pkgPath := "", byteOffset := 16 } : Field), ({ name := "Lo", type := 3, offset := 3, embedded := false, tag := "", pkgPath := "", byteOffset := 24 } : Field), ({ name := "Hi", type := 3, offset := 4, embedded := false, tag := "", pkgPath := "", byteOffset := 32 } : Field), ({ name := "Group", type := 3, offset := 5, embedded := false, tag := "", pkgPath := "", byteOffset := 40 } : Field), ({ name := "Set", type := 51, offset := 6, embedded := false, tag := "", pkgPath := "", byteOffset := 48 } : Field)] := by kernel_rfl
 rw [← hf] at h0
 refine ((run_equalIn_struct W d 54 us vs (by kernel_rfl) (by kernel_rfl)).trans h0).trans ?_
 congr 1; rw [Bool.eq_iff_iff]; simp only [Bool.and_true, Bool.and_eq_true, decide_eq_true_eq, Prod.mk.injEq]⟩
def PC_palinode_match_cell : List (Int × Int × Int × Int) → List Sd
 | [] => []
 | x :: r => [.v (.int .i64 x.1), .v (.int .i64 x.2.1), .v (.int .i64 x.2.2.1), .v (.int .i64 x.2.2.2), .pt (List.isEmpty r) (PC_palinode_match_cell r)]
abbrev E_palinode_match_way (x : Int × (Arr 10 (Int × Int)) × (List (Int × Int × Int × Int))) : List Sd := ([.v (.int .i64 x.1)] ++ ((List.map E_palinode_api_Span x.2.1.l).flatten ++ [.pt (List.isEmpty x.2.2) (PC_palinode_match_cell x.2.2)]))
instance : EncLen E_palinode_match_way 22 := ⟨fun _ => sl_⟩
set_option synthInstance.maxSize 4000 in
instance : DecidableEq (Int × Int) := inferInstance
set_option synthInstance.maxSize 4000 in
set_option maxRecDepth 20000 in
theorem eqc_28 : EqC Try.prog 28 E_palinode_api_Span true 2 := ⟨by
 rintro d hd ⟨x0, x1⟩ ⟨y0, y1⟩ R w _ _ ⟨us, rfl, hu, hu1⟩ ⟨vs, rfl, hv, hv1⟩ W
 obtain ⟨d, rfl, hd'⟩ := d_succ hd
 have h2 := eqF_nil (P := Try.prog) d us vs W
 have h1 := eqF_cons (P := Try.prog) (fd := ({ name := "To", type := 3, offset := 1, embedded := false, tag := "", pkgPath := "", byteOffset := 8 } : Field)) (f := ei) (ag := false) (x := x1) (y := y1) hu hu1 hv hv1 (by decide) ShpC.h inferInstance (show 1 ≤ d by omega) (part_midE (pre := [.v (.int .i64 x0)]) (mid := [.v (.int .i64 x1)]) (post := []) sq_ sl_ sl_ rfl) (part_midE (pre := [.v (.int .i64 y0)]) (mid := [.v (.int .i64 y1)]) (post := []) sq_ sl_ sl_ rfl) h2
 have h0 := eqF_cons (P := Try.prog) (fd := ({ name := "From", type := 3, offset := 0, embedded := false, tag := "", pkgPath := "", byteOffset := 0 } : Field)) (f := ei) (ag := false) (x := x0) (y := y0) hu hu1 hv hv1 (by decide) ShpC.h inferInstance (show 1 ≤ d by omega) (part_midE (pre := []) (mid := [.v (.int .i64 x0)]) (post := [.v (.int .i64 x1)]) sq_ sl_ sl_ rfl) (part_midE (pre := []) (mid := [.v (.int .i64 y0)]) (post := [.v (.int .i64 y1)]) sq_ sl_ sl_ rfl) h1
 have hf : (Try.prog.fieldsOf 28).toList = [({ name := "From", type := 3, offset := 0, embedded := false, tag := "", pkgPath := "", byteOffset := 0 } : Field), ({ name := "To", type := 3, offset := 1, embedded := false, tag := "", pkgPath := "", byteOffset := 8 } : Field)] := by kernel_rfl
 rw [← hf] at h0
 refine ((run_equalIn_struct W d 28 us vs (by kernel_rfl) (by kernel_rfl)).trans h0).trans ?_
 congr 1; rw [Bool.eq_iff_iff]; simp only [Bool.and_true, Bool.and_eq_true, decide_eq_true_eq, Prod.mk.injEq]⟩
abbrev E_10_api_Span (x : Arr 10 (Int × Int)) : List Sd := ((List.map E_palinode_api_Span x.l).flatten)
instance : EncLen E_10_api_Span 20 := ⟨fun _ => sl_⟩
set_option synthInstance.maxSize 4000 in
instance : DecidableEq ((Arr 10 (Int × Int))) := inferInstance
set_option synthInstance.maxSize 4000 in
set_option maxRecDepth 20000 in
theorem eqc_31 : EqC Try.prog 31 E_palinode_api_Hit true 4 := ⟨by
 rintro d hd x0 y0 R w _ _ ⟨us, rfl, hu, hu1⟩ ⟨vs, rfl, hv, hv1⟩ W
 obtain ⟨d, rfl, hd'⟩ := d_succ hd
 have h1 := eqF_nil (P := Try.prog) d us vs W
 have h0 := eqF_cons (P := Try.prog) (fd := ({ name := "Spans", type := 29, offset := 0, embedded := false, tag := "", pkgPath := "", byteOffset := 0 } : Field)) (f := E_10_api_Span) (ag := true) (x := x0) (y := y0) hu hu1 hv hv1 (by decide) ShpC.h (eqC_arr (t := 29) (e := 28) (f := E_palinode_api_Span) UndC.h ShpC.h (by kernel_rfl) eqc_28 (fun _ => rfl)) (show 3 ≤ d by omega) (part_midE (pre := []) (mid := ((List.map E_palinode_api_Span x0.l).flatten)) (post := []) sq_ sl_ sl_ (part_all sl_)) (part_midE (pre := []) (mid := ((List.map E_palinode_api_Span y0.l).flatten)) (post := []) sq_ sl_ sl_ (part_all sl_)) h1
 have hf : (Try.prog.fieldsOf 31).toList = [({ name := "Spans", type := 29, offset := 0, embedded := false, tag := "", pkgPath := "", byteOffset := 0 } : Field)] := by kernel_rfl
 rw [← hf] at h0
 refine ((run_equalIn_struct W d 31 us vs (by kernel_rfl) (by kernel_rfl)).trans h0).trans ?_
 congr 1; rw [Bool.eq_iff_iff]; simp only [Bool.and_true, Bool.and_eq_true, decide_eq_true_eq, Prod.mk.injEq]⟩
abbrev E_palinode_palinoderef11_Task (x : Int × Int × Int × Int) : List Sd := [.v (.int .i64 x.1), .v (.int .i64 x.2.1), .v (.int .i64 x.2.2.1), .v (.int .i64 x.2.2.2)]
instance : EncLen E_palinode_palinoderef11_Task 4 := ⟨fun _ => sl_⟩
/-- palinoderef08.One -/
def palinoderef08_One_R (c1 : UInt8) (r : (Arr 4 (UInt64))) : Prop :=
 (64 : Int) ≠ 0 ∧ ∃ c3 : UInt8, (c3.toNat : Int) = IntKind.u8.wrap (((c1.toNat : Int)).tdiv 64) ∧ (64 : Int) ≠ 0 ∧ ∃ c5 : UInt8, (c5.toNat : Int) = (((c1.toNat : Int)).tmod 64) ∧ (0 : Int) ≤ (c5.toNat : Int) ∧ ∃ c7 : UInt64, (c7.toNat : Int) = IntKind.u64.wrap ((1 : Int) * 2 ^ (min ((c5.toNat : Int) : Int).toNat IntKind.u64.bits)) ∧ (0 ≤ ((c3.toNat : Int) : Int) ∧ ((c3.toNat : Int) : Int) < 4) ∧ ∃ y9 : UInt64, ((Arr.rep 4 (0 : UInt64))).l[((c3.toNat : Int) : Int).toNat]? = some y9 ∧ r = (Arr.set ((Arr.rep 4 (0 : UInt64))) ((c3.toNat : Int) : Int).toNat c7)
def palinoderef08_One_ev (fuel : Nat) (c1 : UInt8) : Option ((Arr 4 (UInt64))) :=
 (if (64 : Int) ≠ 0 then (exB (IntKind.u8.wrap (((c1.toNat : Int)).tdiv 64)) fun c3 => (if (64 : Int) ≠ 0 then (exB ((((c1.toNat : Int)).tmod 64)) fun c5 => (if (0 : Int) ≤ (c5.toNat : Int) then (exL (IntKind.u64.wrap ((1 : Int) * 2 ^ (min ((c5.toNat : Int) : Int).toNat IntKind.u64.bits))) fun c7 => (if (0 ≤ ((c3.toNat : Int) : Int) ∧ ((c3.toNat : Int) : Int) < 4) then ((((Arr.rep 4 (0 : UInt64))).l[((c3.toNat : Int) : Int).toNat]?).bind fun y9 => some (Arr.set ((Arr.rep 4 (0 : UInt64))) ((c3.toNat : Int) : Int).toNat c7)) else none)) else none)) else none)) else none)
theorem palinoderef08_One_ok {fuel : Nat} {c1 : UInt8} {r : (Arr 4 (UInt64))} (h : palinoderef08_One_ev fuel c1 = some r) : palinoderef08_One_R c1 r := by
 unfold palinoderef08_One_ev at h
 unfold palinoderef08_One_R
 obtain ⟨g1, h⟩ := if_ok h
 refine ⟨g1, ?_⟩
 obtain ⟨q2, g2, h⟩ := exB_ok h
 refine ⟨q2, g2, ?_⟩
 obtain ⟨g3, h⟩ := if_ok h
 refine ⟨g3, ?_⟩
 obtain ⟨q4, g4, h⟩ := exB_ok h
 refine ⟨q4, g4, ?_⟩
 obtain ⟨g5, h⟩ := if_ok h
 refine ⟨g5, ?_⟩
 obtain ⟨q6, g6, h⟩ := exL_ok h
 refine ⟨q6, g6, ?_⟩
 obtain ⟨g7, h⟩ := if_ok h
 refine ⟨g7, ?_⟩
 obtain ⟨q8, g8, h⟩ := bind_ok h
 refine ⟨q8, g8, ?_⟩
 exact (Option.some.inj h).symm
set_option maxHeartbeats 4000000 in
theorem palinoderef08_One_con (c1 : UInt8) (r : (Arr 4 (UInt64))) (h : palinoderef08_One_R c1 r) : Con Try.prog 15 [.v (.int .u8 ((c1.toNat : Int)))] [] [] (Ret (.agg ((List.map ew r.l).flatten))) := by
 refine xenter Try.func15 rfl rfl fun g hg => ?_
 simp only [Try.ntmps15, slots]
 refine sr_ ?_
 refine xalloc InfC.h rfl rfl fun b2 => ?_
 refine xreb 0 ((List.map ew ((Arr.rep 4 (0 : UInt64))).l).flatten) rfl rfl ?_
 refine nt_ ?_
 refine sr_ ?_
 refine xalloc InfC.h rfl rfl fun b3 => ?_
 refine xreb 0 ((List.map ew ((Arr.rep 4 (0 : UInt64))).l).flatten) rfl rfl ?_
 refine nt_ ?_
 refine sr_ ?_
 refine mv_ ?_
 obtain ⟨h2, h⟩ := h
 obtain ⟨c3, h2r, h⟩ := h
 refine vp_ (pv_quoW h2 h2r rfl rfl rfl) ?_
 refine mv_ ?_
 obtain ⟨h4, h⟩ := h
 obtain ⟨c5, h4r, h⟩ := h
 refine vp_ (pv_remW h4 h4r rfl rfl rfl) ?_
 obtain ⟨h6, h⟩ := h
 obtain ⟨c7, h6r, h⟩ := h
 refine vp_ (pv_shlW h6 h6r rfl rfl) ?_
 obtain ⟨h8, h⟩ := h
 obtain ⟨y9, h8b, h⟩ := h
 refine vp_ (pv_indexAddrBA h8 UndC.h ShpC.h rfl rfl) ?_
 refine xstoreA (f := ew) (a := (Arr.rep 4 (0 : UInt64))) (k := 1) (off := 0) (i := ((c3.toNat : Int) : Int).toNat) 0 [] [] c7 h8b sq_ so_ (by decide) ShpC.h rfl rfl rfl rfl sl_ rfl rfl ?_
 refine xreb 0 ((List.map ew ((Arr.set ((Arr.rep 4 (0 : UInt64))) ((c3.toNat : Int) : Int).toNat c7)).l).flatten) rfl sq_ ?_
 refine nt_ ?_
 refine sr_ ?_
 refine v_ (qv_loadP 0 [] ((List.map ew ((Arr.set ((Arr.rep 4 (0 : UInt64))) ((c3.toNat : Int) : Int).toNat c7)).l).flatten) [] sq_ sl_ sl_ (part_all (seg_lenE (by rfl))) ShpC.h rfl rfl) ?_
 refine xstoreQ 1 [] ((List.map ew ((Arr.rep 4 (0 : UInt64))).l).flatten) [] ((List.map ew ((Arr.set ((Arr.rep 4 (0 : UInt64))) ((c3.toNat : Int) : Int).toNat c7)).l).flatten) ShpC.h rfl rfl rfl rfl rfl ?_
 refine nt_ ?_
 refine xretc ?_
 replace h := h.symm
 subst h
 exact xretL (rs := [.cell 2 51]) (ss := [.agg ((List.map ew ((Arr.set ((Arr.rep 4 (0 : UInt64))) ((c3.toNat : Int) : Int).toNat c7)).l).flatten)]) hg rfl (by refine RetL.cell 1 ShpC.h rfl rfl (part_midE (pre := []) (mid := ((List.map ew ((Arr.set ((Arr.rep 4 (0 : UInt64))) ((c3.toNat : Int) : Int).toNat c7)).l).flatten)) (post := []) sq_ sl_ sl_ (part_all (seg_lenE (by rfl)))) (len_midE (pre := []) (mid := ((List.map ew ((Arr.set ((Arr.rep 4 (0 : UInt64))) ((c3.toNat : Int) : Int).toNat c7)).l).flatten)) (post := []) sq_ sl_ sl_) wk_ ?_; exact RetL.nil) (SubM.of (.nil _) (.nil _)) ⟨rfl, rfl, rfl⟩
/-- (*find.walk).all -/
def find_walk_all_R (o1 : ((List (Int × Int × Int × Int × Int × Int × (Arr 4 (UInt64)))) × Int) × (List UInt8) × Int × Int) (r : Unit) : Prop :=
 r = ()
def find_walk_all_ev (fuel : Nat) (o1 : ((List (Int × Int × Int × Int × Int × Int × (Arr 4 (UInt64)))) × Int) × (List UInt8) × Int × Int) : Option (Unit) :=
 some ()
theorem find_walk_all_ok {fuel : Nat} {o1 : ((List (Int × Int × Int × Int × Int × Int × (Arr 4 (UInt64)))) × Int) × (List UInt8) × Int × Int} {r : Unit} (h : find_walk_all_ev fuel o1 = some r) : find_walk_all_R o1 r := by
 unfold find_walk_all_ev at h
 unfold find_walk_all_R
 exact (Option.some.inj h).symm
set_option maxHeartbeats 4000000 in
theorem find_walk_all_con (o1 : ((List (Int × Int × Int × Int × Int × Int × (Arr 4 (UInt64)))) × Int) × (List UInt8) × Int × Int) (bx0 : Nat) (r : Unit) (h : find_walk_all_R o1 r) : Con Try.prog 22 [.v (.pointer (some ⟨bx0, 0, none⟩))] [⟨bx0, 60, [.sl 10 none (List.map E_palinode_api_Node o1.1.1), .v (.int .i64 o1.1.2), .sl 1 none (List.map eb o1.2.1), .v (.int .i64 o1.2.2.1), .v (.int .i64 o1.2.2.2)]⟩] [] (fun rr bx tk => ∃ b1 : Nat, rr = .v (.func (.func 32) #[] #[.pointer (some ⟨b1, 0, none⟩)]) ∧ bx = [⟨b1, 58, [.v (.pointer (some ⟨bx0, 0, none⟩))]⟩, ⟨bx0, 60, [.sl 10 none (List.map E_palinode_api_Node o1.1.1), .v (.int .i64 o1.1.2), .sl 1 none (List.map eb o1.2.1), .v (.int .i64 o1.2.2.1), .v (.int .i64 o1.2.2.2)]⟩] ∧ tk = []) := by
 refine xenter Try.func22 rfl rfl fun g hg => ?_
 simp only [Try.ntmps22, slots]
 refine sr_ ?_
 refine xbox rfl rfl rfl rfl fun b1 => ?_
 refine as_ ?_
 refine nt_ ?_
 refine sr_ ?_
 refine vp_ (pv_makeFuncC rfl) ?_
 refine as_ ?_
 refine nt_ ?_
 refine xretc ?_
 replace h := h.symm
 subst h
 exact xret1 hg rfl rfl (.refl _) (SubM.of (.keep rfl rfl (.refl _) (.keep rfl rfl (.refl _) (.nil _))) (.nil _)) ⟨b1, rfl, rfl, rfl⟩
/-- find.All -/
def find_All_y1_R (o10001 : List ((Arr 10 (Int × Int)))) (x10003 : (Arr 10 (Int × Int))) (r : (List ((Arr 10 (Int × Int))))) : Prop :=
 Room (o10001.length + ([x10003]).length) 160 ∧ r = (o10001 ++ [x10003])
def find_All_y1_Y (yx0 : Nat) (L : Lp) : Prop := ∀ (o10001 : List ((Arr 10 (Int × Int)))) (x10003 : (Arr 10 (Int × Int))) (ia10002 : Option (Nat × Nat)) (r : (List ((Arr 10 (Int × Int))))), find_All_y1_R o10001 x10003 r → YCon Try.prog L [.agg ((List.map E_palinode_api_Span x10003.l).flatten)] [⟨yx0, 39, [.sl 20 (some ia10002) (List.map E_palinode_api_Hit o10001)]⟩] [⟨ia10002, 31, 20, o10001.length⟩] (fun j bx tk => ∃ j1 : Option (Nat × Nat), j = jmp .ret true ∧ bx = [⟨yx0, 39, [.sl 20 (some j1) (List.map E_palinode_api_Hit r)]⟩] ∧ tk = [⟨j1, 31, 20, r.length⟩])
def find_All_y1_ev (fuel : Nat) (o10001 : List ((Arr 10 (Int × Int)))) (x10003 : (Arr 10 (Int × Int))) : Option ((List ((Arr 10 (Int × Int))))) :=
 (if Room (o10001.length + ([x10003]).length) 160 then some (o10001 ++ [x10003]) else none)
theorem find_All_y1_ok {fuel : Nat} {o10001 : List ((Arr 10 (Int × Int)))} {x10003 : (Arr 10 (Int × Int))} {r : (List ((Arr 10 (Int × Int))))} (h : find_All_y1_ev fuel o10001 x10003 = some r) : find_All_y1_R o10001 x10003 r := by
 unfold find_All_y1_ev at h
 unfold find_All_y1_R
 obtain ⟨g9, h⟩ := if_ok h
 refine ⟨g9, ?_⟩
 exact (Option.some.inj h).symm
/-- tree.plain -/
def tree_plain_j1 (nv1 : Int × Int × Int × Int × Int × Int × (Arr 4 (UInt64))) (f19 : Int) (f20 : Int) (f21 : Int) (f22 : Int) (f23 : Int) (f24 : Arr 4 (UInt64)) (r : (Int × Int × Int × Int × Int × Int × (Arr 4 (UInt64)))) : Prop :=
 r = (nv1.1, f19, f20, f21, f22, f23, f24)
def tree_plain_j2 (nv1 : Int × Int × Int × Int × Int × Int × (Arr 4 (UInt64))) (x30 : Bool) (r : (Int × Int × Int × Int × Int × Int × (Arr 4 (UInt64)))) : Prop :=
 ((x30 = true → tree_plain_j1 nv1 nv1.2.1 nv1.2.2.1 0 0 0 (Arr.rep 4 (0 : UInt64)) r) ∧ (¬ (x30 = true) → ((nv1.1 = 4 → tree_plain_j1 nv1 nv1.2.1 0 nv1.2.2.2.1 nv1.2.2.2.2.1 0 (Arr.rep 4 (0 : UInt64)) r) ∧ (¬ (nv1.1 = 4) → ((nv1.1 = 5 → tree_plain_j1 nv1 nv1.2.1 0 0 0 nv1.2.2.2.2.2.1 (Arr.rep 4 (0 : UInt64)) r) ∧ (¬ (nv1.1 = 5) → ((nv1.1 = 6 → tree_plain_j1 nv1 0 0 0 0 nv1.2.2.2.2.2.1 (Arr.rep 4 (0 : UInt64)) r) ∧ (¬ (nv1.1 = 6) → tree_plain_j1 nv1 0 0 0 0 0 (Arr.rep 4 (0 : UInt64)) r))))))))
def tree_plain_R (nv1 : Int × Int × Int × Int × Int × Int × (Arr 4 (UInt64))) (r : (Int × Int × Int × Int × Int × Int × (Arr 4 (UInt64)))) : Prop :=
 ((nv1.1 = 1 → tree_plain_j1 nv1 0 0 0 0 0 nv1.2.2.2.2.2.2 r) ∧ (¬ (nv1.1 = 1) → ((nv1.1 = 2 → tree_plain_j2 nv1 (decide (nv1.1 = 2)) r) ∧ (¬ (nv1.1 = 2) → tree_plain_j2 nv1 (decide (nv1.1 = 3)) r))))
def tree_plain_j1_ev (fuel : Nat) (nv1 : Int × Int × Int × Int × Int × Int × (Arr 4 (UInt64))) (f19 : Int) (f20 : Int) (f21 : Int) (f22 : Int) (f23 : Int) (f24 : Arr 4 (UInt64)) : Option ((Int × Int × Int × Int × Int × Int × (Arr 4 (UInt64)))) :=
 some (nv1.1, f19, f20, f21, f22, f23, f24)
theorem tree_plain_j1_ok {fuel : Nat} {nv1 : Int × Int × Int × Int × Int × Int × (Arr 4 (UInt64))} {f19 : Int} {f20 : Int} {f21 : Int} {f22 : Int} {f23 : Int} {f24 : Arr 4 (UInt64)} {r : (Int × Int × Int × Int × Int × Int × (Arr 4 (UInt64)))} (h : tree_plain_j1_ev fuel nv1 f19 f20 f21 f22 f23 f24 = some r) : tree_plain_j1 nv1 f19 f20 f21 f22 f23 f24 r := by
 unfold tree_plain_j1_ev at h
 unfold tree_plain_j1
 exact (Option.some.inj h).symm
def tree_plain_j2_ev (fuel : Nat) (nv1 : Int × Int × Int × Int × Int × Int × (Arr 4 (UInt64))) (x30 : Bool) : Option ((Int × Int × Int × Int × Int × Int × (Arr 4 (UInt64)))) :=
 (if x30 = true then tree_plain_j1_ev fuel nv1 nv1.2.1 nv1.2.2.1 0 0 0 (Arr.rep 4 (0 : UInt64)) else (if nv1.1 = 4 then tree_plain_j1_ev fuel nv1 nv1.2.1 0 nv1.2.2.2.1 nv1.2.2.2.2.1 0 (Arr.rep 4 (0 : UInt64)) else (if nv1.1 = 5 then tree_plain_j1_ev fuel nv1 nv1.2.1 0 0 0 nv1.2.2.2.2.2.1 (Arr.rep 4 (0 : UInt64)) else (if nv1.1 = 6 then tree_plain_j1_ev fuel nv1 0 0 0 0 nv1.2.2.2.2.2.1 (Arr.rep 4 (0 : UInt64)) else tree_plain_j1_ev fuel nv1 0 0 0 0 0 (Arr.rep 4 (0 : UInt64))))))
theorem tree_plain_j2_ok {fuel : Nat} {nv1 : Int × Int × Int × Int × Int × Int × (Arr 4 (UInt64))} {x30 : Bool} {r : (Int × Int × Int × Int × Int × Int × (Arr 4 (UInt64)))} (h : tree_plain_j2_ev fuel nv1 x30 = some r) : tree_plain_j2 nv1 x30 r := by
 unfold tree_plain_j2_ev at h
 unfold tree_plain_j2
 refine ⟨fun g10 => ?_, fun g10 => ?_⟩
 ·rw [if_pos g10] at h
  exact tree_plain_j1_ok h
 ·rw [if_neg g10] at h
  refine ⟨fun g11 => ?_, fun g11 => ?_⟩
  ·rw [if_pos g11] at h
   exact tree_plain_j1_ok h
  ·rw [if_neg g11] at h
   refine ⟨fun g12 => ?_, fun g12 => ?_⟩
   ·rw [if_pos g12] at h
    exact tree_plain_j1_ok h
   ·rw [if_neg g12] at h
    refine ⟨fun g13 => ?_, fun g13 => ?_⟩
    ·rw [if_pos g13] at h
     exact tree_plain_j1_ok h
    ·rw [if_neg g13] at h
     exact tree_plain_j1_ok h
def tree_plain_ev (fuel : Nat) (nv1 : Int × Int × Int × Int × Int × Int × (Arr 4 (UInt64))) : Option ((Int × Int × Int × Int × Int × Int × (Arr 4 (UInt64)))) :=
 (if nv1.1 = 1 then tree_plain_j1_ev fuel nv1 0 0 0 0 0 nv1.2.2.2.2.2.2 else (if nv1.1 = 2 then tree_plain_j2_ev fuel nv1 (decide (nv1.1 = 2)) else tree_plain_j2_ev fuel nv1 (decide (nv1.1 = 3))))
theorem tree_plain_ok {fuel : Nat} {nv1 : Int × Int × Int × Int × Int × Int × (Arr 4 (UInt64))} {r : (Int × Int × Int × Int × Int × Int × (Arr 4 (UInt64)))} (h : tree_plain_ev fuel nv1 = some r) : tree_plain_R nv1 r := by
 unfold tree_plain_ev at h
 unfold tree_plain_R
 refine ⟨fun g14 => ?_, fun g14 => ?_⟩
 ·rw [if_pos g14] at h
  exact tree_plain_j1_ok h
 ·rw [if_neg g14] at h
  refine ⟨fun g15 => ?_, fun g15 => ?_⟩
  ·rw [if_pos g15] at h
   exact tree_plain_j2_ok h
  ·rw [if_neg g15] at h
   exact tree_plain_j2_ok h
set_option maxHeartbeats 4000000 in
theorem tree_plain_con (nv1 : Int × Int × Int × Int × Int × Int × (Arr 4 (UInt64))) (r : (Int × Int × Int × Int × Int × Int × (Arr 4 (UInt64)))) (h : tree_plain_R nv1 r) : Con Try.prog 38 [.agg ([.v (.int .i64 nv1.1), .v (.int .i64 nv1.2.1), .v (.int .i64 nv1.2.2.1), .v (.int .i64 nv1.2.2.2.1), .v (.int .i64 nv1.2.2.2.2.1), .v (.int .i64 nv1.2.2.2.2.2.1)] ++ (List.map ew nv1.2.2.2.2.2.2.l).flatten)] [] [] (Ret (.agg ([.v (.int .i64 r.1), .v (.int .i64 r.2.1), .v (.int .i64 r.2.2.1), .v (.int .i64 r.2.2.2.1), .v (.int .i64 r.2.2.2.2.1), .v (.int .i64 r.2.2.2.2.2.1)] ++ (List.map ew r.2.2.2.2.2.2.l).flatten))) := by
 refine xenter Try.func38 rfl rfl fun g hg => ?_
 simp only [Try.ntmps38, slots]
 refine sr_ ?_
 refine xbox rfl rfl rfl rfl fun b1 => ?_
 refine xalloc InfC.h rfl rfl fun b2 => ?_
 refine xreb 0 ([.v (.int .i64 0), .v (.int .i64 0), .v (.int .i64 0), .v (.int .i64 0), .v (.int .i64 0), .v (.int .i64 0)] ++ (List.map ew ((Arr.rep 4 (0 : UInt64))).l).flatten) rfl rfl ?_
 refine nt_ ?_
 refine sr_ ?_
 refine vp_ (qv_fieldAddrB FldC.h rfl) ?_
 refine v_ (qv_loadB 1 ShpC.h rfl rfl rfl rfl) ?_
 refine vp_ (pv_buildC (cs := ([.v (.int .i64 nv1.1), .v (.int .i64 0), .v (.int .i64 0), .v (.int .i64 0), .v (.int .i64 0), .v (.int .i64 0)] ++ (List.map ew ((Arr.rep 4 (0 : UInt64))).l).flatten)) StrC.h rfl (by refine fill_step [] [.v (.int .i64 0)] ([.v (.int .i64 0), .v (.int .i64 0), .v (.int .i64 0), .v (.int .i64 0), .v (.int .i64 0)] ++ (List.map ew ((Arr.rep 4 (0 : UInt64))).l).flatten) sq_ sl_ sl_ sl_ rfl rfl ?_; exact congrArg some sq_)) ?_
 refine xalloc InfC.h rfl rfl fun b3 => ?_
 refine xreb 0 ([.v (.int .i64 0), .v (.int .i64 0), .v (.int .i64 0), .v (.int .i64 0), .v (.int .i64 0), .v (.int .i64 0)] ++ (List.map ew ((Arr.rep 4 (0 : UInt64))).l).flatten) rfl rfl ?_
 refine xstoreQ 0 [] ([.v (.int .i64 0), .v (.int .i64 0), .v (.int .i64 0), .v (.int .i64 0), .v (.int .i64 0), .v (.int .i64 0)] ++ (List.map ew ((Arr.rep 4 (0 : UInt64))).l).flatten) [] ([.v (.int .i64 nv1.1), .v (.int .i64 0), .v (.int .i64 0), .v (.int .i64 0), .v (.int .i64 0), .v (.int .i64 0)] ++ (List.map ew ((Arr.rep 4 (0 : UInt64))).l).flatten) ShpC.h rfl rfl rfl rfl rfl ?_
 refine nt_ ?_
 refine xseqM (fun σ => ∃ (f19 : Int), ∃ (f20 : Int), ∃ (f21 : Int), ∃ (f22 : Int), ∃ (f23 : Int), ∃ (f24 : Arr 4 (UInt64)), tree_plain_j1 nv1 f19 f20 f21 f22 f23 f24 r ∧ σ = ⟨[(2, .v (.pointer (some ⟨b2, 0, none⟩))), (3, .v (.pointer (some ⟨b3, 0, none⟩)))], [⟨b3, 54, ([.v (.int .i64 nv1.1), .v (.int .i64 f19), .v (.int .i64 f20), .v (.int .i64 f21), .v (.int .i64 f22), .v (.int .i64 f23)] ++ (List.map ew f24.l).flatten)⟩, ⟨b2, 54, ([.v (.int .i64 0), .v (.int .i64 0), .v (.int .i64 0), .v (.int .i64 0), .v (.int .i64 0), .v (.int .i64 0)] ++ (List.map ew ((Arr.rep 4 (0 : UInt64))).l).flatten)⟩], []⟩) ?_ ?_
 ·refine xseq ?_
  refine xregion ?_
  refine vp_ (qv_fieldAddrB FldC.h rfl) ?_
  refine v_ (qv_loadB 2 ShpC.h rfl rfl rfl rfl) ?_
  refine nt_ ?_
  refine xblock ?_
  refine sr_ ?_
  refine vp_ (pv_bin2 rfl rfl rfl) ?_
  refine as_ ?_
  refine nt_ ?_
  by_cases hp26 : nv1.1 = 1
  ·replace h := h.1 hp26
   refine xcondT' (decide_eq_true hp26) rfl ?_
   refine xregion ?_
   refine vp_ (qv_fieldAddrB FldC.h rfl) ?_
   refine v_ (qv_loadP 2 [.v (.int .i64 nv1.1), .v (.int .i64 nv1.2.1), .v (.int .i64 nv1.2.2.1), .v (.int .i64 nv1.2.2.2.1), .v (.int .i64 nv1.2.2.2.2.1), .v (.int .i64 nv1.2.2.2.2.2.1)] ((List.map ew nv1.2.2.2.2.2.2.l).flatten) [] sq_ sl_ sl_ (part_all (seg_lenE (by rfl))) ShpC.h rfl rfl) ?_
   refine vp_ (qv_fieldAddrB FldC.h rfl) ?_
   refine xstoreQ 0 [.v (.int .i64 nv1.1), .v (.int .i64 0), .v (.int .i64 0), .v (.int .i64 0), .v (.int .i64 0), .v (.int .i64 0)] ((List.map ew ((Arr.rep 4 (0 : UInt64))).l).flatten) [] ([.v (.int .i64 nv1.1), .v (.int .i64 0), .v (.int .i64 0), .v (.int .i64 0), .v (.int .i64 0), .v (.int .i64 0)] ++ (List.map ew nv1.2.2.2.2.2.2.l).flatten) ShpC.h rfl rfl rfl rfl rfl ?_
   refine xnil ?_
   refine xin_normal ?_
   exact xmeet ⟨0, 0, 0, 0, 0, nv1.2.2.2.2.2.2, h, rfl⟩ ⟨lk_, (SubM.of (.keep rfl rfl (.refl _) (.keep rfl rfl (.refl _) (.nil _))) (.nil _))⟩
  ·replace h := h.2 hp26
   refine xcondF' (decide_eq_false hp26) rfl ?_
   refine xseqM (fun σ => ∃ (x30 : Bool), tree_plain_j2 nv1 x30 r ∧ σ = ⟨[(1, .v (.pointer (some ⟨b1, 0, none⟩))), (2, .v (.pointer (some ⟨b2, 0, none⟩))), (3, .v (.pointer (some ⟨b3, 0, none⟩))), (8, .v (.int .i64 nv1.1)), (14, .v (.bool x30))], [⟨b3, 54, ([.v (.int .i64 nv1.1), .v (.int .i64 0), .v (.int .i64 0), .v (.int .i64 0), .v (.int .i64 0), .v (.int .i64 0)] ++ (List.map ew ((Arr.rep 4 (0 : UInt64))).l).flatten)⟩, ⟨b2, 54, ([.v (.int .i64 0), .v (.int .i64 0), .v (.int .i64 0), .v (.int .i64 0), .v (.int .i64 0), .v (.int .i64 0)] ++ (List.map ew ((Arr.rep 4 (0 : UInt64))).l).flatten)⟩, ⟨b1, 54, ([.v (.int .i64 nv1.1), .v (.int .i64 nv1.2.1), .v (.int .i64 nv1.2.2.1), .v (.int .i64 nv1.2.2.2.1), .v (.int .i64 nv1.2.2.2.2.1), .v (.int .i64 nv1.2.2.2.2.2.1)] ++ (List.map ew nv1.2.2.2.2.2.2.l).flatten)⟩], []⟩) ?_ ?_
   ·refine xseq ?_
    refine xregion ?_
    refine vp_ (pv_bin2 rfl rfl rfl) ?_
    refine as_ ?_
    refine nt_ ?_
    by_cases hp32 : nv1.1 = 2
    ·replace h := h.1 hp32
     refine xcondT' (decide_eq_true hp32) rfl ?_
     refine xskipc ?_
     exact xmeet ⟨(decide (nv1.1 = 2)), h, rfl⟩ ⟨lk_, (SubM.of (.keep rfl rfl (.refl _) (.keep rfl rfl (.refl _) (.keep rfl rfl (.refl _) (.nil _)))) (.nil _))⟩
    ·replace h := h.2 hp32
     refine xcondF' (decide_eq_false hp32) rfl ?_
     refine xregion ?_
     refine vp_ (pv_bin2 rfl rfl rfl) ?_
     refine as_ ?_
     refine xnil ?_
     exact xmeet ⟨(decide (nv1.1 = 3)), h, rfl⟩ ⟨lk_, (SubM.of (.keep rfl rfl (.refl _) (.keep rfl rfl (.refl _) (.keep rfl rfl (.refl _) (.nil _)))) (.nil _))⟩
   ·clear h
    rintro _ ⟨x30, h, rfl⟩
    by_cases hp34 : x30 = true
    ·replace h := h.1 hp34
     refine xcondT' hp34 rfl ?_
     refine xregionD (m := 8) (by kernel_rfl) rfl ?_
     refine pl_ 0 rfl (qv_fieldAddrB FldC.h rfl) ?_
     refine pl_ 2 rfl (qv_fieldAddrB FldC.h rfl) ?_
     refine xpvalE 1 [3] rfl (qv_loadB 2 ShpC.h rfl rfl rfl rfl) rfl rfl (by kernel_rfl) (by kernel_rfl) (by kernel_rfl) (fun _ _ _ _ h => h) ?_
     refine pl_ 4 rfl (qv_fieldAddrB FldC.h rfl) ?_
     refine xfl0 [⟨3, 20, .v (.int .i64 nv1.2.2.1)⟩] 3 ?_
     refine xflstep 5 (by kernel_rfl) rfl (.cons rfl rfl rfl (fun _ => rfl) (fun _ => qv_loadB 2 ShpC.h rfl rfl rfl rfl) .nil) fun D l td hR => ?_
     refine wstore 0 ShpC.h rfl rfl rfl rfl rfl rfl rfl ?_
     refine xflgo0 hR ?_
     refine xflend (l' := #[true, true, true, true, true, true, false, false]) (by kernel_rfl) (.cons rfl rfl rfl (fun _ => rfl) (fun _ => qv_loadB 2 ShpC.h rfl rfl rfl rfl) .nil) (by kernel_rfl) rfl (by kernel_rfl) (by kernel_rfl) ?_
     simp only [List.nil_append, List.cons_append, List.map_cons, List.map_nil]
     refine pl_ 6 rfl (qv_fieldAddrB FldC.h rfl) ?_
     refine xpstep (i := 7) (by kernel_rfl) rfl ?_
     refine wstore 0 ShpC.h rfl rfl rfl rfl rfl rfl rfl ?_
     refine xpdone (by kernel_rfl) ?_
     refine xin_normal ?_
     exact xmeet ⟨nv1.2.1, nv1.2.2.1, 0, 0, 0, (Arr.rep 4 (0 : UInt64)), h, rfl⟩ ⟨lk_, (SubM.of (.keep rfl rfl (.refl _) (.keep rfl rfl (.refl _) (.nil _))) (.nil _))⟩
    ·replace h := h.2 hp34
     refine xcondF' (b_f hp34) rfl ?_
     refine sr_ ?_
     refine vp_ (pv_bin2 rfl rfl rfl) ?_
     refine as_ ?_
     refine nt_ ?_
     by_cases hp36 : nv1.1 = 4
     ·replace h := h.1 hp36
      refine xcondT' (decide_eq_true hp36) rfl ?_
      refine xregionD (m := 12) (by kernel_rfl) rfl ?_
      refine xpcut 1 #[true, true, true, true, true, true, true, true, true, true, true, false] (fun σ => σ = ⟨[(2, .v (.pointer (some ⟨b2, 0, none⟩))), (3, .v (.pointer (some ⟨b3, 0, none⟩))), (30, .v (.int .i64 nv1.2.2.2.2.1)), (33, .v (.pointer (some ⟨b3, 4, none⟩)))], [⟨b3, 54, ([.v (.int .i64 nv1.1), .v (.int .i64 nv1.2.1), .v (.int .i64 0), .v (.int .i64 nv1.2.2.2.1), .v (.int .i64 0), .v (.int .i64 0)] ++ (List.map ew ((Arr.rep 4 (0 : UInt64))).l).flatten)⟩, ⟨b2, 54, ([.v (.int .i64 0), .v (.int .i64 0), .v (.int .i64 0), .v (.int .i64 0), .v (.int .i64 0), .v (.int .i64 0)] ++ (List.map ew ((Arr.rep 4 (0 : UInt64))).l).flatten)⟩], []⟩) ?_ (fun key37 => ?_)
      ·rintro _ rfl
       refine xpstep (i := 11) (by kernel_rfl) rfl ?_
       refine wstore 0 ShpC.h rfl rfl rfl rfl rfl rfl rfl ?_
       refine xpdone (by kernel_rfl) ?_
       refine xin_normal ?_
       exact xmeet ⟨nv1.2.1, 0, nv1.2.2.2.1, nv1.2.2.2.2.1, 0, (Arr.rep 4 (0 : UInt64)), h, rfl⟩ ⟨lk_, (SubM.of (.keep rfl rfl (.refl _) (.keep rfl rfl (.refl _) (.nil _))) (.nil _))⟩
      refine pl_ 0 rfl (qv_fieldAddrB FldC.h rfl) ?_
      refine pl_ 2 rfl (qv_fieldAddrB FldC.h rfl) ?_
      refine pl_ 4 rfl (qv_fieldAddrB FldC.h rfl) ?_
      refine xpvalE 1 [3, 5] rfl (qv_loadB 2 ShpC.h rfl rfl rfl rfl) rfl rfl (by kernel_rfl) (by kernel_rfl) (by kernel_rfl) (fun _ _ _ _ h => h) ?_
      refine pl_ 6 rfl (qv_fieldAddrB FldC.h rfl) ?_
      refine xpstepN (is := [3, 5, 7]) (by kernel_rfl) (by simp) ?_
      intro i hi; simp only [List.mem_cons, List.not_mem_nil, or_false] at hi; rcases hi with rfl | rfl | rfl
      ·refine ⟨_, rfl, ?_⟩
       refine wv_ (qv_loadB 2 ShpC.h rfl rfl rfl rfl) ?_
       refine xfl0 [⟨5, 30, .v (.int .i64 nv1.2.2.2.2.1)⟩] 5 ?_
       refine xflstep 7 (by kernel_rfl) rfl (.cons rfl rfl rfl (fun _ => rfl) (fun _ => qv_loadB 2 ShpC.h rfl rfl rfl rfl) .nil) fun D l td hR => ?_
       refine wstore 0 ShpC.h rfl rfl rfl rfl rfl rfl rfl ?_
       refine xflgo0 hR ?_
       refine xflval 8 (by kernel_rfl) rfl (fun _ => qv_fieldAddrB FldC.h rfl) (fun _ => rfl) rfl (by kernel_rfl) (fun _ _ _ _ h => h) ?_
       refine xflstep 9 (by kernel_rfl) rfl (.cons rfl rfl rfl (fun _ => rfl) (fun _ => qv_loadB 2 ShpC.h rfl rfl rfl rfl) .nil) fun D l td hR => ?_
       refine wstore 0 ShpC.h rfl rfl rfl rfl rfl rfl rfl ?_
       refine xflgo0 hR ?_
       refine xflend (l' := #[true, true, true, true, true, true, true, true, true, true, false, false]) (by kernel_rfl) (.cons rfl rfl rfl (fun _ => rfl) (fun _ => qv_loadB 2 ShpC.h rfl rfl rfl rfl) .nil) (by kernel_rfl) rfl (by kernel_rfl) (by kernel_rfl) ?_
       simp only [List.nil_append, List.cons_append, List.map_cons, List.map_nil]
       refine pl_ 10 rfl (qv_fieldAddrB FldC.h rfl) ?_
       exact xpuse key37 rfl ⟨lk_, (SubM.of (.keep rfl rfl (.refl _) (.keep rfl rfl (.refl _) (.nil _))) (.nil _))⟩ rfl (by kernel_rfl)
      ·refine ⟨_, rfl, ?_⟩
       refine wv_ (qv_loadB 2 ShpC.h rfl rfl rfl rfl) ?_
       refine xfl0 [⟨3, 28, .v (.int .i64 nv1.2.2.2.1)⟩] 5 ?_
       refine xflstep 7 (by kernel_rfl) rfl (.cons rfl rfl rfl (fun _ => rfl) (fun _ => qv_loadB 2 ShpC.h rfl rfl rfl rfl) .nil) fun D l td hR => ?_
       refine wstore 0 ShpC.h rfl rfl rfl rfl rfl rfl rfl ?_
       refine xflgo0 hR ?_
       refine xflend (l' := #[true, true, true, true, true, true, true, true, false, false, false, false]) (by kernel_rfl) (.cons rfl rfl rfl (fun _ => rfl) (fun _ => qv_loadB 2 ShpC.h rfl rfl rfl rfl) .nil) (by kernel_rfl) rfl (by kernel_rfl) (by kernel_rfl) ?_
       simp only [List.nil_append, List.cons_append, List.map_cons, List.map_nil]
       refine pl_ 8 rfl (qv_fieldAddrB FldC.h rfl) ?_
       refine xpstep (i := 9) (by kernel_rfl) rfl ?_
       refine wstore 0 ShpC.h rfl rfl rfl rfl rfl rfl rfl ?_
       refine pl_ 10 rfl (qv_fieldAddrB FldC.h rfl) ?_
       exact xpuse key37 rfl ⟨lk_, (SubM.of (.keep rfl rfl (.refl _) (.keep rfl rfl (.refl _) (.nil _))) (.nil _))⟩ rfl (by kernel_rfl)
      ·refine ⟨_, rfl, ?_⟩
       refine wstore 0 ShpC.h rfl rfl rfl rfl rfl rfl rfl ?_
       refine xpvalE 3 [5] rfl (qv_loadB 2 ShpC.h rfl rfl rfl rfl) rfl rfl (by kernel_rfl) (by kernel_rfl) (by kernel_rfl) (fun _ _ _ _ h => h) ?_
       refine pl_ 8 rfl (qv_fieldAddrB FldC.h rfl) ?_
       refine xfl0 [⟨5, 30, .v (.int .i64 nv1.2.2.2.2.1)⟩] 3 ?_
       refine xflstep 9 (by kernel_rfl) rfl (.cons rfl rfl rfl (fun _ => rfl) (fun _ => qv_loadB 2 ShpC.h rfl rfl rfl rfl) .nil) fun D l td hR => ?_
       refine wstore 0 ShpC.h rfl rfl rfl rfl rfl rfl rfl ?_
       refine xflgo0 hR ?_
       refine xflend (l' := #[true, true, true, true, true, true, true, true, true, true, false, false]) (by kernel_rfl) (.cons rfl rfl rfl (fun _ => rfl) (fun _ => qv_loadB 2 ShpC.h rfl rfl rfl rfl) .nil) (by kernel_rfl) rfl (by kernel_rfl) (by kernel_rfl) ?_
       simp only [List.nil_append, List.cons_append, List.map_cons, List.map_nil]
       refine pl_ 10 rfl (qv_fieldAddrB FldC.h rfl) ?_
       exact xpuse key37 rfl ⟨lk_, (SubM.of (.keep rfl rfl (.refl _) (.keep rfl rfl (.refl _) (.nil _))) (.nil _))⟩ rfl (by kernel_rfl)
     ·replace h := h.2 hp36
      refine xcondF' (decide_eq_false hp36) rfl ?_
      refine sr_ ?_
      refine vp_ (pv_bin2 rfl rfl rfl) ?_
      refine as_ ?_
      refine nt_ ?_
      by_cases hp39 : nv1.1 = 5
      ·replace h := h.1 hp39
       refine xcondT' (decide_eq_true hp39) rfl ?_
       refine xregionD (m := 8) (by kernel_rfl) rfl ?_
       refine pl_ 0 rfl (qv_fieldAddrB FldC.h rfl) ?_
       refine pl_ 2 rfl (qv_fieldAddrB FldC.h rfl) ?_
       refine xpvalE 1 [3] rfl (qv_loadB 2 ShpC.h rfl rfl rfl rfl) rfl rfl (by kernel_rfl) (by kernel_rfl) (by kernel_rfl) (fun _ _ _ _ h => h) ?_
       refine pl_ 4 rfl (qv_fieldAddrB FldC.h rfl) ?_
       refine xfl0 [⟨3, 39, .v (.int .i64 nv1.2.2.2.2.2.1)⟩] 3 ?_
       refine xflstep 5 (by kernel_rfl) rfl (.cons rfl rfl rfl (fun _ => rfl) (fun _ => qv_loadB 2 ShpC.h rfl rfl rfl rfl) .nil) fun D l td hR => ?_
       refine wstore 0 ShpC.h rfl rfl rfl rfl rfl rfl rfl ?_
       refine xflgo0 hR ?_
       refine xflend (l' := #[true, true, true, true, true, true, false, false]) (by kernel_rfl) (.cons rfl rfl rfl (fun _ => rfl) (fun _ => qv_loadB 2 ShpC.h rfl rfl rfl rfl) .nil) (by kernel_rfl) rfl (by kernel_rfl) (by kernel_rfl) ?_
       simp only [List.nil_append, List.cons_append, List.map_cons, List.map_nil]
       refine pl_ 6 rfl (qv_fieldAddrB FldC.h rfl) ?_
       refine xpstep (i := 7) (by kernel_rfl) rfl ?_
       refine wstore 0 ShpC.h rfl rfl rfl rfl rfl rfl rfl ?_
       refine xpdone (by kernel_rfl) ?_
       refine xin_normal ?_
       exact xmeet ⟨nv1.2.1, 0, 0, 0, nv1.2.2.2.2.2.1, (Arr.rep 4 (0 : UInt64)), h, rfl⟩ ⟨lk_, (SubM.of (.keep rfl rfl (.refl _) (.keep rfl rfl (.refl _) (.nil _))) (.nil _))⟩
      ·replace h := h.2 hp39
       refine xcondF' (decide_eq_false hp39) rfl ?_
       refine sr_ ?_
       refine vp_ (pv_bin2 rfl rfl rfl) ?_
       refine as_ ?_
       refine nt_ ?_
       by_cases hp41 : nv1.1 = 6
       ·replace h := h.1 hp41
        refine xcondT' (decide_eq_true hp41) rfl ?_
        refine xregion ?_
        refine vp_ (qv_fieldAddrB FldC.h rfl) ?_
        refine v_ (qv_loadB 2 ShpC.h rfl rfl rfl rfl) ?_
        refine vp_ (qv_fieldAddrB FldC.h rfl) ?_
        refine xstore 0 ShpC.h rfl rfl rfl rfl rfl rfl rfl ?_
        refine xnil ?_
        refine xin_normal ?_
        exact xmeet ⟨0, 0, 0, 0, nv1.2.2.2.2.2.1, (Arr.rep 4 (0 : UInt64)), h, rfl⟩ ⟨lk_, (SubM.of (.keep rfl rfl (.refl _) (.keep rfl rfl (.refl _) (.nil _))) (.nil _))⟩
       ·replace h := h.2 hp41
        refine xcondF' (decide_eq_false hp41) rfl ?_
        refine xskipc ?_
        refine xin_normal ?_
        exact xmeet ⟨0, 0, 0, 0, 0, (Arr.rep 4 (0 : UInt64)), h, rfl⟩ ⟨lk_, (SubM.of (.keep rfl rfl (.refl _) (.keep rfl rfl (.refl _) (.nil _))) (.nil _))⟩
 ·clear h
  rintro _ ⟨f19, f20, f21, f22, f23, f24, h, rfl⟩
  refine sr_ ?_
  refine v_ (qv_loadP 0 [] ([.v (.int .i64 nv1.1), .v (.int .i64 f19), .v (.int .i64 f20), .v (.int .i64 f21), .v (.int .i64 f22), .v (.int .i64 f23)] ++ (List.map ew f24.l).flatten) [] sq_ sl_ sl_ (part_all sl_) ShpC.h rfl rfl) ?_
  refine xstoreQ 1 [] ([.v (.int .i64 0), .v (.int .i64 0), .v (.int .i64 0), .v (.int .i64 0), .v (.int .i64 0), .v (.int .i64 0)] ++ (List.map ew ((Arr.rep 4 (0 : UInt64))).l).flatten) [] ([.v (.int .i64 nv1.1), .v (.int .i64 f19), .v (.int .i64 f20), .v (.int .i64 f21), .v (.int .i64 f22), .v (.int .i64 f23)] ++ (List.map ew f24.l).flatten) ShpC.h rfl rfl rfl rfl rfl ?_
  refine nt_ ?_
  refine xretc ?_
  replace h := h.symm
  subst h
  exact xretL (rs := [.cell 2 54]) (ss := [.agg ([.v (.int .i64 nv1.1), .v (.int .i64 f19), .v (.int .i64 f20), .v (.int .i64 f21), .v (.int .i64 f22), .v (.int .i64 f23)] ++ (List.map ew f24.l).flatten)]) hg rfl (by refine RetL.cell 1 ShpC.h rfl rfl (part_midE (pre := []) (mid := ([.v (.int .i64 nv1.1), .v (.int .i64 f19), .v (.int .i64 f20), .v (.int .i64 f21), .v (.int .i64 f22), .v (.int .i64 f23)] ++ (List.map ew f24.l).flatten)) (post := []) sq_ sl_ sl_ (part_all sl_)) (len_midE (pre := []) (mid := ([.v (.int .i64 nv1.1), .v (.int .i64 f19), .v (.int .i64 f20), .v (.int .i64 f21), .v (.int .i64 f22), .v (.int .i64 f23)] ++ (List.map ew f24.l).flatten)) (post := []) sq_ sl_ sl_) wk_ ?_; exact RetL.nil) (SubM.of (.nil _) (.nil _)) ⟨rfl, rfl, rfl⟩
/-- tree.parts -/
def tree_parts_j2 (nv1 : Int × Int × Int × Int × Int × Int × (Arr 4 (UInt64))) (x29 : Bool) (r : (List Int)) : Prop :=
 ((x29 = true → r = [nv1.2.1]) ∧ (¬ (x29 = true) → r = ([] : List Int)))
def tree_parts_j1 (nv1 : Int × Int × Int × Int × Int × Int × (Arr 4 (UInt64))) (x21 : Bool) (r : (List Int)) : Prop :=
 ((x21 = true → r = [nv1.2.1, nv1.2.2.1]) ∧ (¬ (x21 = true) → ((nv1.1 = 4 → tree_parts_j2 nv1 (decide (nv1.1 = 4)) r) ∧ (¬ (nv1.1 = 4) → tree_parts_j2 nv1 (decide (nv1.1 = 5)) r))))
def tree_parts_R (nv1 : Int × Int × Int × Int × Int × Int × (Arr 4 (UInt64))) (r : (List Int)) : Prop :=
 ((nv1.1 = 2 → tree_parts_j1 nv1 (decide (nv1.1 = 2)) r) ∧ (¬ (nv1.1 = 2) → tree_parts_j1 nv1 (decide (nv1.1 = 3)) r))
def tree_parts_j2_ev (fuel : Nat) (nv1 : Int × Int × Int × Int × Int × Int × (Arr 4 (UInt64))) (x29 : Bool) : Option ((List Int)) :=
 (if x29 = true then some ([nv1.2.1]) else some ([] : List Int))
theorem tree_parts_j2_ok {fuel : Nat} {nv1 : Int × Int × Int × Int × Int × Int × (Arr 4 (UInt64))} {x29 : Bool} {r : (List Int)} (h : tree_parts_j2_ev fuel nv1 x29 = some r) : tree_parts_j2 nv1 x29 r := by
 unfold tree_parts_j2_ev at h
 unfold tree_parts_j2
 refine ⟨fun g16 => ?_, fun g16 => ?_⟩
 ·rw [if_pos g16] at h
  exact (Option.some.inj h).symm
 ·rw [if_neg g16] at h
  exact (Option.some.inj h).symm
def tree_parts_j1_ev (fuel : Nat) (nv1 : Int × Int × Int × Int × Int × Int × (Arr 4 (UInt64))) (x21 : Bool) : Option ((List Int)) :=
 (if x21 = true then some ([nv1.2.1, nv1.2.2.1]) else (if nv1.1 = 4 then tree_parts_j2_ev fuel nv1 (decide (nv1.1 = 4)) else tree_parts_j2_ev fuel nv1 (decide (nv1.1 = 5))))
theorem tree_parts_j1_ok {fuel : Nat} {nv1 : Int × Int × Int × Int × Int × Int × (Arr 4 (UInt64))} {x21 : Bool} {r : (List Int)} (h : tree_parts_j1_ev fuel nv1 x21 = some r) : tree_parts_j1 nv1 x21 r := by
 unfold tree_parts_j1_ev at h
 unfold tree_parts_j1
 refine ⟨fun g17 => ?_, fun g17 => ?_⟩
 ·rw [if_pos g17] at h
  exact (Option.some.inj h).symm
 ·rw [if_neg g17] at h
  refine ⟨fun g18 => ?_, fun g18 => ?_⟩
  ·rw [if_pos g18] at h
   exact tree_parts_j2_ok h
  ·rw [if_neg g18] at h
   exact tree_parts_j2_ok h
def tree_parts_ev (fuel : Nat) (nv1 : Int × Int × Int × Int × Int × Int × (Arr 4 (UInt64))) : Option ((List Int)) :=
 (if nv1.1 = 2 then tree_parts_j1_ev fuel nv1 (decide (nv1.1 = 2)) else tree_parts_j1_ev fuel nv1 (decide (nv1.1 = 3)))
theorem tree_parts_ok {fuel : Nat} {nv1 : Int × Int × Int × Int × Int × Int × (Arr 4 (UInt64))} {r : (List Int)} (h : tree_parts_ev fuel nv1 = some r) : tree_parts_R nv1 r := by
 unfold tree_parts_ev at h
 unfold tree_parts_R
 refine ⟨fun g19 => ?_, fun g19 => ?_⟩
 ·rw [if_pos g19] at h
  exact tree_parts_j1_ok h
 ·rw [if_neg g19] at h
  exact tree_parts_j1_ok h
set_option maxHeartbeats 4000000 in
theorem tree_parts_con (nv1 : Int × Int × Int × Int × Int × Int × (Arr 4 (UInt64))) (r : (List Int)) (h : tree_parts_R nv1 r) : Con Try.prog 27 [.agg ([.v (.int .i64 nv1.1), .v (.int .i64 nv1.2.1), .v (.int .i64 nv1.2.2.1), .v (.int .i64 nv1.2.2.2.1), .v (.int .i64 nv1.2.2.2.2.1), .v (.int .i64 nv1.2.2.2.2.2.1)] ++ (List.map ew nv1.2.2.2.2.2.2.l).flatten)] [] [] (RetM 1 3 ei r) := by
 refine xenter Try.func27 rfl rfl fun g hg => ?_
 simp only [Try.ntmps27, slots]
 refine sr_ ?_
 refine xbox rfl rfl rfl rfl fun b1 => ?_
 refine as_ ?_
 refine nt_ ?_
 refine xseq ?_
 refine sr_ ?_
 refine vp_ (qv_fieldAddrB FldC.h rfl) ?_
 refine v_ (qv_loadB 0 ShpC.h rfl rfl rfl rfl) ?_
 refine nt_ ?_
 refine xblock ?_
 refine xseqM (fun σ => ∃ (x21 : Bool), tree_parts_j1 nv1 x21 r ∧ σ = ⟨[(1, .v (.pointer (some ⟨b1, 0, none⟩))), (4, .v (.int .i64 nv1.1)), (5, .v (.bool x21))], [⟨b1, 54, ([.v (.int .i64 nv1.1), .v (.int .i64 nv1.2.1), .v (.int .i64 nv1.2.2.1), .v (.int .i64 nv1.2.2.2.1), .v (.int .i64 nv1.2.2.2.2.1), .v (.int .i64 nv1.2.2.2.2.2.1)] ++ (List.map ew nv1.2.2.2.2.2.2.l).flatten)⟩], []⟩) ?_ ?_
 ·refine xseq ?_
  refine xregion ?_
  refine vp_ (pv_bin2 rfl rfl rfl) ?_
  refine as_ ?_
  refine nt_ ?_
  by_cases hp23 : nv1.1 = 2
  ·replace h := h.1 hp23
   refine xcondT' (decide_eq_true hp23) rfl ?_
   refine xskipc ?_
   exact xmeet ⟨(decide (nv1.1 = 2)), h, rfl⟩ ⟨lk_, (SubM.of (.keep rfl rfl (.refl _) (.nil _)) (.nil _))⟩
  ·replace h := h.2 hp23
   refine xcondF' (decide_eq_false hp23) rfl ?_
   refine xregion ?_
   refine vp_ (pv_bin2 rfl rfl rfl) ?_
   refine as_ ?_
   refine xnil ?_
   exact xmeet ⟨(decide (nv1.1 = 3)), h, rfl⟩ ⟨lk_, (SubM.of (.keep rfl rfl (.refl _) (.nil _)) (.nil _))⟩
 ·clear h
  rintro _ ⟨x21, h, rfl⟩
  by_cases hp25 : x21 = true
  ·replace h := h.1 hp25
   refine xcondT' hp25 rfl ?_
   refine sr_ ?_
   refine vp_ (qv_fieldAddrB FldC.h rfl) ?_
   refine v_ (qv_loadB 0 ShpC.h rfl rfl rfl rfl) ?_
   refine vp_ (qv_fieldAddrB FldC.h rfl) ?_
   refine v_ (qv_loadB 0 ShpC.h rfl rfl rfl rfl) ?_
   refine xbuildSliceM (f := ei) [nv1.2.1, nv1.2.2.1] UndC.h InfC.h rfl rfl wr_ rfl rfl rfl rfl fun s12 => ?_
   refine as_ ?_
   refine nt_ ?_
   refine xretc ?_
   refine xin_ret ?_
   refine xthen_ret ?_
   replace h := h.symm
   subst h
   exact xret1 hg rfl rfl (.refl _) (SubM.of (.nil _) (.keep rfl (.nil _))) ⟨(some (s12, 2)), rfl, rfl, rfl⟩
  ·replace h := h.2 hp25
   refine xcondF' (b_f hp25) rfl ?_
   refine xseqM (fun σ => ∃ (x29 : Bool), tree_parts_j2 nv1 x29 r ∧ σ = ⟨[(1, .v (.pointer (some ⟨b1, 0, none⟩))), (13, .v (.bool x29))], [⟨b1, 54, ([.v (.int .i64 nv1.1), .v (.int .i64 nv1.2.1), .v (.int .i64 nv1.2.2.1), .v (.int .i64 nv1.2.2.2.1), .v (.int .i64 nv1.2.2.2.2.1), .v (.int .i64 nv1.2.2.2.2.2.1)] ++ (List.map ew nv1.2.2.2.2.2.2.l).flatten)⟩], []⟩) ?_ ?_
   ·refine xseq ?_
    refine xregion ?_
    refine vp_ (pv_bin2 rfl rfl rfl) ?_
    refine as_ ?_
    refine nt_ ?_
    by_cases hp31 : nv1.1 = 4
    ·replace h := h.1 hp31
     refine xcondT' (decide_eq_true hp31) rfl ?_
     refine xskipc ?_
     exact xmeet ⟨(decide (nv1.1 = 4)), h, rfl⟩ ⟨lk_, (SubM.of (.keep rfl rfl (.refl _) (.nil _)) (.nil _))⟩
    ·replace h := h.2 hp31
     refine xcondF' (decide_eq_false hp31) rfl ?_
     refine xregion ?_
     refine vp_ (pv_bin2 rfl rfl rfl) ?_
     refine as_ ?_
     refine xnil ?_
     exact xmeet ⟨(decide (nv1.1 = 5)), h, rfl⟩ ⟨lk_, (SubM.of (.keep rfl rfl (.refl _) (.nil _)) (.nil _))⟩
   ·clear h
    rintro _ ⟨x29, h, rfl⟩
    by_cases hp33 : x29 = true
    ·replace h := h.1 hp33
     refine xcondT' hp33 rfl ?_
     refine sr_ ?_
     refine vp_ (qv_fieldAddrB FldC.h rfl) ?_
     refine v_ (qv_loadB 0 ShpC.h rfl rfl rfl rfl) ?_
     refine xbuildSliceM (f := ei) [nv1.2.1] UndC.h InfC.h rfl rfl wr_ rfl rfl rfl rfl fun s18 => ?_
     refine as_ ?_
     refine nt_ ?_
     refine xretc ?_
     refine xin_ret ?_
     refine xthen_ret ?_
     replace h := h.symm
     subst h
     exact xret1 hg rfl rfl (.refl _) (SubM.of (.nil _) (.keep rfl (.nil _))) ⟨(some (s18, 1)), rfl, rfl, rfl⟩
    ·replace h := h.2 hp33
     refine xcondF' (b_f hp33) rfl ?_
     refine xskipc ?_
     refine xin_normal ?_
     refine xthen ?_
     refine sr_ ?_
     refine as_ ?_
     refine nt_ ?_
     refine xretc ?_
     replace h := h.symm
     subst h
     exact xret1 hg rfl rfl (.nil_own _) sm_ ⟨none, rfl, rfl, rfl⟩
/-- tree.isNode$1 -/
def tree_isNode_c1_R (o1 : Int) (k2 : Int) (r : Bool) : Prop :=
 ((k2 < 0 → r = true) ∧ (¬ (k2 < 0) → r = (decide (o1 ≤ k2))))
def tree_isNode_c1_ev (fuel : Nat) (o1 : Int) (k2 : Int) : Option (Bool) :=
 (if k2 < 0 then some true else some (decide (o1 ≤ k2)))
theorem tree_isNode_c1_ok {fuel : Nat} {o1 : Int} {k2 : Int} {r : Bool} (h : tree_isNode_c1_ev fuel o1 k2 = some r) : tree_isNode_c1_R o1 k2 r := by
 unfold tree_isNode_c1_ev at h
 unfold tree_isNode_c1_R
 refine ⟨fun g20 => ?_, fun g20 => ?_⟩
 ·rw [if_pos g20] at h
  exact (Option.some.inj h).symm
 ·rw [if_neg g20] at h
  exact (Option.some.inj h).symm
set_option maxHeartbeats 4000000 in
theorem tree_isNode_c1_con (o1 : Int) (k2 : Int) (bx0 : Nat) (r : Bool) (h : tree_isNode_c1_R o1 k2 r) : Con Try.prog 40 [.v (.int .i64 k2), .v (.pointer (some ⟨bx0, 0, none⟩))] [⟨bx0, 3, [.v (.int .i64 o1)]⟩] [] (fun rr bx tk => rr = .v (.bool r) ∧ bx = [⟨bx0, 3, [.v (.int .i64 o1)]⟩] ∧ tk = []) := by
 refine xenter Try.func40 rfl rfl fun g hg => ?_
 simp only [Try.ntmps40, slots]
 refine sr_ ?_
 refine as_ ?_
 refine nt_ ?_
 refine sr_ ?_
 refine mv_ ?_
 refine vp_ (pv_bin2 rfl rfl rfl) ?_
 refine mv_ ?_
 by_cases hp7 : k2 < 0
 ·replace h := h.1 hp7
  refine xsetB 6 (decide_eq_true hp7) rfl ?_
  refine sk_ ?_
  refine sk_ ?_
  refine sk_ ?_
  refine pk_ ?_
  refine as_ ?_
  refine nt_ ?_
  refine xretc ?_
  replace h := h.symm
  subst h
  exact xret1 hg rfl rfl (.refl _) (SubM.of (.keep rfl rfl (.refl _) (.nil _)) (.nil _)) ⟨rfl, rfl, rfl⟩
 ·replace h := h.2 hp7
  refine xsetB 6 (decide_eq_false hp7) rfl ?_
  refine mv_ ?_
  refine v_ (qv_loadB 0 ShpC.h rfl rfl rfl rfl) ?_
  refine vp_ (pv_bin2 rfl rfl rfl) ?_
  refine pk_ ?_
  refine as_ ?_
  refine nt_ ?_
  refine xretc ?_
  replace h := h.symm
  subst h
  exact xret1 hg rfl rfl (.refl _) (SubM.of (.keep rfl rfl (.refl _) (.nil _)) (.nil _)) ⟨rfl, rfl, rfl⟩
/-- slices.IndexFunc [ []int,int] -/
def slices_IndexFunc_l1 (sv2 : List Int) (o1 : Int) (ag1 : (Int) → Prop) (x62 : Int) (r : Int) : Prop :=
 ((x62 < (sv2.length : Int) → 0 ≤ (x62 : Int) ∧ ∃ y85 : Int, sv2[(x62 : Int).toNat]? = some y85 ∧ ∃ y88 : Bool, tree_isNode_c1_R o1 y85 y88 ∧ ((y88 = true → r = x62) ∧ (¬ (y88 = true) → InR (x62 + 1) ∧ ag1 (x62 + 1)))) ∧ (¬ (x62 < (sv2.length : Int)) → r = (-1)))
def slices_IndexFunc_R (o1 : Int) (sv2 : List Int) (r : Int) : Prop :=
 LoopR (fun ag1 s => slices_IndexFunc_l1 sv2 o1 ag1 s r) 0
def slices_IndexFunc_l1_ev (fuel : Nat) (sv2 : List Int) (o1 : Int) (ag1e : (Int) → Option (Int)) (x62 : Int) : Option (Int) :=
 (if x62 < (sv2.length : Int) then (if 0 ≤ (x62 : Int) then ((sv2[(x62 : Int).toNat]?).bind fun y85 => ((tree_isNode_c1_ev fuel o1 y85).bind fun y88 => (if y88 = true then some x62 else (if InR (x62 + 1) then ag1e (x62 + 1) else none)))) else none) else some (-1))
theorem slices_IndexFunc_l1_ok {fuel : Nat} {sv2 : List Int} {o1 : Int} {ag1e : (Int) → Option (Int)} {ag1 : (Int) → Prop} {x62 : Int} {r : Int} (hagag1 : ∀ s, ag1e s = some r → ag1 s) (h : slices_IndexFunc_l1_ev fuel sv2 o1 ag1e x62 = some r) : slices_IndexFunc_l1 sv2 o1 ag1 x62 r := by
 unfold slices_IndexFunc_l1_ev at h
 unfold slices_IndexFunc_l1
 refine ⟨fun g21 => ?_, fun g21 => ?_⟩
 ·rw [if_pos g21] at h
  obtain ⟨g22, h⟩ := if_ok h
  refine ⟨g22, ?_⟩
  obtain ⟨q23, g23, h⟩ := bind_ok h
  refine ⟨q23, g23, ?_⟩
  obtain ⟨q24, g24, h⟩ := bind_ok h
  refine ⟨q24, tree_isNode_c1_ok g24, ?_⟩
  refine ⟨fun g25 => ?_, fun g25 => ?_⟩
  ·rw [if_pos g25] at h
   exact (Option.some.inj h).symm
  ·rw [if_neg g25] at h
   obtain ⟨g26, h⟩ := if_ok h
   refine ⟨g26, ?_⟩
   exact hagag1 _ h
 ·rw [if_neg g21] at h
  exact (Option.some.inj h).symm
def slices_IndexFunc_ev (fuel : Nat) (o1 : Int) (sv2 : List Int) : Option (Int) :=
 (loopE (fun ag1e s => slices_IndexFunc_l1_ev fuel sv2 o1 ag1e s) fuel 0)
theorem slices_IndexFunc_ok {fuel : Nat} {o1 : Int} {sv2 : List Int} {r : Int} (h : slices_IndexFunc_ev fuel o1 sv2 = some r) : slices_IndexFunc_R o1 sv2 r := by
 unfold slices_IndexFunc_ev at h
 unfold slices_IndexFunc_R
 refine loopE_ok ?_ h
 intro ae ag s hag h
 exact slices_IndexFunc_l1_ok hag h
set_option maxHeartbeats 4000000 in
theorem slices_IndexFunc_con (o1 : Int) (sv2 : List Int) (bx0 : Nat) (r : Int) (h : slices_IndexFunc_R o1 sv2 r) : Con Try.prog 47 [.sl 1 none (List.map ei sv2), .v (.func (.func 40) #[] #[.pointer (some ⟨bx0, 0, none⟩)])] [⟨bx0, 3, [.v (.int .i64 o1)]⟩] [] (fun rr bx tk => rr = .v (.int .i64 r) ∧ bx = [⟨bx0, 3, [.v (.int .i64 o1)]⟩] ∧ tk = []) := by
 refine xenter Try.func47 rfl rfl fun g hg => ?_
 simp only [Try.ntmps47, slots]
 refine sr_ ?_
 refine as_ ?_
 refine nt_ ?_
 refine xseq ?_
 refine sr_ ?_
 refine mv_ ?_
 refine vp_ (pv_lenM UndC.h rfl) ?_
 refine mv_ ?_
 refine nt_ ?_
 refine xblock ?_
 obtain ⟨Inv, ⟨m0, hI⟩, hS⟩ := h
 refine xloop (fun σ m => ∃ (x62 : Int), Inv x62 m ∧ σ = ⟨[(0, .sl 1 none (List.map ei sv2)), (1, .v (.func (.func 40) #[] #[.pointer (some ⟨bx0, 0, none⟩)])), (7, .v (.int .i64 ((sv2.length : Int)))), (8, .v (.int .i64 x62))], [⟨bx0, 3, [.v (.int .i64 o1)]⟩], []⟩) ⟨0, hI, rfl⟩ ⟨lk_, (SubM.of (.keep rfl rfl (.refl _) (.nil _)) (.nil _))⟩ ?_
 rintro _ m ⟨x62, hI, rfl⟩
 obtain ⟨ag1, hag1, h⟩ : ∃ ag, (∀ s', ag s' → ∃ m', m' < m ∧ Inv s' m') ∧ slices_IndexFunc_l1 sv2 o1 ag x62 r := ⟨_, fun _ h => h, hS x62 _ hI⟩
 clear hS hI
 refine sr_ ?_
 refine vp_ (pv_bin2 rfl rfl rfl) ?_
 refine nt_ ?_
 refine xseq ?_
 by_cases hp79 : x62 < (sv2.length : Int)
 ·replace h := h.1 hp79
  refine xcondT' (decide_eq_true hp79) rfl ?_
  refine xskipc ?_
  refine xthen ?_
  refine xseq ?_
  refine xblock ?_
  refine sr_ ?_
  refine mv_ ?_
  refine as_ ?_
  refine nt_ ?_
  refine sr_ ?_
  refine mv_ ?_
  refine mv_ ?_
  refine mv_ ?_
  obtain ⟨h86a, h⟩ := h
  obtain ⟨y85, h86b, h⟩ := h
  refine vp_ (pv_indexAddrM h86a h86b UndC.h ShpC.h rfl rfl) ?_
  refine v_ (qv_load ShpC.h rfl rfl rfl) ?_
  obtain ⟨y88, h87, h⟩ := h
  refine xcallV (sa := [.v (.int .i64 y85)]) (Fb := []) (Ft := []) (tree_isNode_c1_con o1 y85 bx0 _ h87) Try.func40 (by kernel_rfl) rfl rfl (.cons rfl (.refl _) .nil) rfl (by exact sm_) rfl rfl ?_
  rintro _ _ _ ⟨rfl, rfl, rfl⟩
  simp only [List.nil_append, List.cons_append]
  refine nt_ ?_
  by_cases hp89 : y88 = true
  ·replace h := h.1 hp89
   refine xcondT' hp89 rfl ?_
   refine sr_ ?_
   refine mv_ ?_
   refine as_ ?_
   refine nt_ ?_
   refine xretc ?_
   refine xin_ret ?_
   refine xthen_ret ?_
   refine xthen_ret ?_
   refine xin_ret ?_
   refine xthen_ret ?_
   replace h := h.symm
   subst h
   exact xret1 hg rfl rfl (.refl _) (SubM.of (.keep rfl rfl (.refl _) (.nil _)) (.nil _)) ⟨rfl, rfl, rfl⟩
  ·replace h := h.2 hp89
   refine xcondF' (b_f hp89) rfl ?_
   refine xskipc ?_
   refine xin_normal ?_
   refine xthen ?_
   refine xregion ?_
   obtain ⟨h90, h⟩ := h
   refine vp_ (pv_addI h90 rfl rfl) ?_
   refine mv_ ?_
   refine xnil ?_
   obtain ⟨m', hm, hI⟩ := hag1 _ h
   exact xagain ⟨(x62 + 1), hI, rfl⟩ hm ⟨lk_, (SubM.of (.keep rfl rfl (.refl _) (.nil _)) (.nil _))⟩
 ·replace h := h.2 hp79
  refine xcondF' (decide_eq_false hp79) rfl ?_
  refine xexit ?_
  refine xthen_exit ?_
  refine xthen_exit ?_
  refine xin_same rfl ?_
  refine xthen ?_
  refine sr_ ?_
  refine as_ ?_
  refine nt_ ?_
  refine xretc ?_
  replace h := h.symm
  subst h
  exact xret1 hg rfl rfl (.refl _) (SubM.of (.keep rfl rfl (.refl _) (.nil _)) (.nil _)) ⟨rfl, rfl, rfl⟩
/-- slices.ContainsFunc [ []int,int] -/
def slices_ContainsFunc_R (o1 : Int) (sv2 : List Int) (r : Bool) : Prop :=
 ∃ y4 : Int, slices_IndexFunc_R o1 sv2 y4 ∧ r = (decide (0 ≤ y4))
def slices_ContainsFunc_ev (fuel : Nat) (o1 : Int) (sv2 : List Int) : Option (Bool) :=
 ((slices_IndexFunc_ev fuel o1 sv2).bind fun y4 => some (decide (0 ≤ y4)))
theorem slices_ContainsFunc_ok {fuel : Nat} {o1 : Int} {sv2 : List Int} {r : Bool} (h : slices_ContainsFunc_ev fuel o1 sv2 = some r) : slices_ContainsFunc_R o1 sv2 r := by
 unfold slices_ContainsFunc_ev at h
 unfold slices_ContainsFunc_R
 obtain ⟨q27, g27, h⟩ := bind_ok h
 refine ⟨q27, slices_IndexFunc_ok g27, ?_⟩
 exact (Option.some.inj h).symm
set_option maxHeartbeats 4000000 in
theorem slices_ContainsFunc_con (o1 : Int) (sv2 : List Int) (bx0 : Nat) (r : Bool) (h : slices_ContainsFunc_R o1 sv2 r) : Con Try.prog 39 [.sl 1 none (List.map ei sv2), .v (.func (.func 40) #[] #[.pointer (some ⟨bx0, 0, none⟩)])] [⟨bx0, 3, [.v (.int .i64 o1)]⟩] [] (fun rr bx tk => rr = .v (.bool r) ∧ bx = [⟨bx0, 3, [.v (.int .i64 o1)]⟩] ∧ tk = []) := by
 refine xenter Try.func39 rfl rfl fun g hg => ?_
 simp only [Try.ntmps39, slots]
 refine sr_ ?_
 refine as_ ?_
 refine nt_ ?_
 refine sr_ ?_
 refine mv_ ?_
 refine mv_ ?_
 obtain ⟨y4, h3, h⟩ := h
 refine xcallF (Fb := []) (Ft := []) (slices_IndexFunc_con o1 sv2 bx0 _ h3) Try.func47 (by kernel_rfl) rfl (.cons rfl (.refl _) (.cons rfl (.refl _) .nil)) (by exact sm_) rfl rfl ?_
 rintro _ _ _ ⟨rfl, rfl, rfl⟩
 simp only [List.nil_append, List.cons_append]
 refine vp_ (pv_bin2 rfl rfl rfl) ?_
 refine as_ ?_
 refine nt_ ?_
 refine xretc ?_
 replace h := h.symm
 subst h
 exact xret1 hg rfl rfl (.refl _) (SubM.of (.keep rfl rfl (.refl _) (.nil _)) (.nil _)) ⟨rfl, rfl, rfl⟩
/-- tree.isTimes -/
def tree_isTimes_j1 (x12 : Bool) (r : Bool) : Prop :=
 r = x12
def tree_isTimes_R (lo1 : Int) (hi2 : Int) (r : Bool) : Prop :=
 tree_isTimes_j1 ((decide (0 ≤ lo1)) && ((decide (lo1 ≤ 255)) && ((decide (hi2 = (-1))) || ((decide (lo1 ≤ hi2)) && (decide (hi2 ≤ 255)))))) r
def tree_isTimes_j1_ev (fuel : Nat) (x12 : Bool) : Option (Bool) :=
 some x12
theorem tree_isTimes_j1_ok {fuel : Nat} {x12 : Bool} {r : Bool} (h : tree_isTimes_j1_ev fuel x12 = some r) : tree_isTimes_j1 x12 r := by
 unfold tree_isTimes_j1_ev at h
 unfold tree_isTimes_j1
 exact (Option.some.inj h).symm
def tree_isTimes_ev (fuel : Nat) (lo1 : Int) (hi2 : Int) : Option (Bool) :=
 tree_isTimes_j1_ev fuel ((decide (0 ≤ lo1)) && ((decide (lo1 ≤ 255)) && ((decide (hi2 = (-1))) || ((decide (lo1 ≤ hi2)) && (decide (hi2 ≤ 255))))))
theorem tree_isTimes_ok {fuel : Nat} {lo1 : Int} {hi2 : Int} {r : Bool} (h : tree_isTimes_ev fuel lo1 hi2 = some r) : tree_isTimes_R lo1 hi2 r := by
 unfold tree_isTimes_ev at h
 unfold tree_isTimes_R
 exact tree_isTimes_j1_ok h
set_option maxHeartbeats 4000000 in
theorem tree_isTimes_con (lo1 : Int) (hi2 : Int) (r : Bool) (h : tree_isTimes_R lo1 hi2 r) : Con Try.prog 41 [.v (.int .i64 lo1), .v (.int .i64 hi2)] [] [] (Ret (.v (.bool r))) := by
 refine xenter Try.func41 rfl rfl fun g hg => ?_
 simp only [Try.ntmps41, slots]
 unfold tree_isTimes_R at h
 refine sr_ ?_
 refine as_ ?_
 refine nt_ ?_
 refine xseqM (fun σ => ∃ (x12 : Bool), tree_isTimes_j1 x12 r ∧ σ = ⟨[(4, .v (.bool x12))], [], []⟩) ?_ ?_
 ·refine xregion ?_
  refine mv_ ?_
  refine vp_ (pv_bin2 rfl rfl rfl) ?_
  refine mv_ ?_
  by_cases hp14 : 0 ≤ lo1
  ·rw [and_tt (show (decide (0 ≤ lo1)) = true from (decide_eq_true hp14))] at h
   refine xsetB 7 (decide_eq_true hp14) rfl ?_
   refine mv_ ?_
   refine vp_ (pv_bin2 rfl rfl rfl) ?_
   refine pk_ ?_
   refine mv_ ?_
   by_cases hp16 : lo1 ≤ 255
   ·rw [and_tt (show (decide (lo1 ≤ 255)) = true from (decide_eq_true hp16))] at h
    refine xsetB 11 (decide_eq_true hp16) rfl ?_
    refine mv_ ?_
    refine vp_ (pv_bin2 rfl rfl rfl) ?_
    refine mv_ ?_
    by_cases hp18 : hi2 = (-1)
    ·rw [or_tt (show (decide (hi2 = (-1))) = true from (decide_eq_true hp18))] at h
     refine xsetB 14 (decide_eq_true hp18) rfl ?_
     refine sk_ ?_
     refine sk_ ?_
     refine sk_ ?_
     refine sk_ ?_
     refine sk_ ?_
     refine sk_ ?_
     refine sk_ ?_
     refine pk_ ?_
     refine pk_ ?_
     refine as_ ?_
     refine xnil ?_
     exact xmeet ⟨true, h, rfl⟩ ⟨(.cons rfl (.refl _) (.nil _)), (SubM.of (.nil _) (.nil _))⟩
    ·rw [or_ff (show (decide (hi2 = (-1))) = false from (decide_eq_false hp18))] at h
     refine xsetB 14 (decide_eq_false hp18) rfl ?_
     refine mv_ ?_
     refine mv_ ?_
     refine vp_ (pv_bin2 rfl rfl rfl) ?_
     refine mv_ ?_
     by_cases hp20 : lo1 ≤ hi2
     ·rw [and_tt (show (decide (lo1 ≤ hi2)) = true from (decide_eq_true hp20))] at h
      refine xsetB 18 (decide_eq_true hp20) rfl ?_
      refine mv_ ?_
      refine vp_ (pv_bin2 rfl rfl rfl) ?_
      refine pk_ ?_
      refine pk_ ?_
      refine pk_ ?_
      refine as_ ?_
      refine xnil ?_
      exact xmeet ⟨(decide (hi2 ≤ 255)), h, rfl⟩ ⟨(.cons rfl (.refl _) (.nil _)), (SubM.of (.nil _) (.nil _))⟩
     ·rw [and_ff (show (decide (lo1 ≤ hi2)) = false from (decide_eq_false hp20))] at h
      refine xsetB 18 (decide_eq_false hp20) rfl ?_
      refine sk_ ?_
      refine sk_ ?_
      refine pk_ ?_
      refine pk_ ?_
      refine pk_ ?_
      refine as_ ?_
      refine xnil ?_
      exact xmeet ⟨false, h, rfl⟩ ⟨(.cons rfl (.refl _) (.nil _)), (SubM.of (.nil _) (.nil _))⟩
   ·rw [and_ff (show (decide (lo1 ≤ 255)) = false from (decide_eq_false hp16))] at h
    refine xsetB 11 (decide_eq_false hp16) rfl ?_
    refine sk_ ?_
    refine sk_ ?_
    refine sk_ ?_
    refine sk_ ?_
    refine sk_ ?_
    refine sk_ ?_
    refine sk_ ?_
    refine sk_ ?_
    refine sk_ ?_
    refine sk_ ?_
    refine sk_ ?_
    refine pk_ ?_
    refine as_ ?_
    refine xnil ?_
    exact xmeet ⟨false, h, rfl⟩ ⟨(.cons rfl (.refl _) (.nil _)), (SubM.of (.nil _) (.nil _))⟩
  ·rw [and_ff (show (decide (0 ≤ lo1)) = false from (decide_eq_false hp14))] at h
   refine xsetB 7 (decide_eq_false hp14) rfl ?_
   refine sk_ ?_
   refine sk_ ?_
   refine pk_ ?_
   refine mv_ ?_
   refine sk_ ?_
   refine sk_ ?_
   refine sk_ ?_
   refine sk_ ?_
   refine sk_ ?_
   refine sk_ ?_
   refine sk_ ?_
   refine sk_ ?_
   refine sk_ ?_
   refine sk_ ?_
   refine sk_ ?_
   refine pk_ ?_
   refine as_ ?_
   refine xnil ?_
   exact xmeet ⟨false, h, rfl⟩ ⟨(.cons rfl (.refl _) (.nil _)), (SubM.of (.nil _) (.nil _))⟩
 ·clear h
  rintro _ ⟨x12, h, rfl⟩
  refine xretc ?_
  replace h := h.symm
  subst h
  exact xret1 hg rfl rfl (.refl _) (SubM.of (.nil _) (.nil _)) ⟨rfl, rfl, rfl⟩
/-- tree.isNode -/
def tree_isNode_j3 (nv1 : Int × Int × Int × Int × Int × Int × (Arr 4 (UInt64))) (groups3 : Int) (x85 : Bool) (r : Bool) : Prop :=
 ((x85 = true → ((1 ≤ nv1.2.2.2.2.2.1 → r = (decide (nv1.2.2.2.2.2.1 ≤ groups3))) ∧ (¬ (1 ≤ nv1.2.2.2.2.2.1) → r = false))) ∧ (¬ (x85 = true) → r = true))
def tree_isNode_j2 (nv1 : Int × Int × Int × Int × Int × Int × (Arr 4 (UInt64))) (groups3 : Int) (x76 : Bool) (r : Bool) : Prop :=
 ((x76 = true → r = false) ∧ (¬ (x76 = true) → tree_isNode_j3 nv1 groups3 ((decide (nv1.1 = 5)) || (decide (nv1.1 = 6))) r))
def tree_isNode_j1 (nv1 : Int × Int × Int × Int × Int × Int × (Arr 4 (UInt64))) (atv2 : Int) (groups3 : Int) (x57 : Bool) (r : Bool) : Prop :=
 ((x57 = true → r = false) ∧ (¬ (x57 = true) → ∃ y67 : (List Int), tree_parts_R nv1 y67 ∧ ∃ y70 : Bool, slices_ContainsFunc_R atv2 y67 y70 ∧ ((y70 = true → r = false) ∧ (¬ (y70 = true) → ((nv1.1 = 4 → ∃ y80 : Bool, tree_isTimes_R nv1.2.2.2.1 nv1.2.2.2.2.1 y80 ∧ tree_isNode_j2 nv1 groups3 (!y80) r) ∧ (¬ (nv1.1 = 4) → tree_isNode_j2 nv1 groups3 false r))))))
def tree_isNode_R (nv1 : Int × Int × Int × Int × Int × Int × (Arr 4 (UInt64))) (atv2 : Int) (groups3 : Int) (r : Bool) : Prop :=
 ((nv1.1 < 0 → tree_isNode_j1 nv1 atv2 groups3 true r) ∧ (¬ (nv1.1 < 0) → ((8 < nv1.1 → tree_isNode_j1 nv1 atv2 groups3 true r) ∧ (¬ (8 < nv1.1) → ∃ y63 : (Int × Int × Int × Int × Int × Int × (Arr 4 (UInt64))), tree_plain_R nv1 y63 ∧ tree_isNode_j1 nv1 atv2 groups3 (!(decide ((nv1 : Int × Int × Int × Int × Int × Int × (Arr 4 (UInt64))) = y63))) r))))
def tree_isNode_j3_ev (fuel : Nat) (nv1 : Int × Int × Int × Int × Int × Int × (Arr 4 (UInt64))) (groups3 : Int) (x85 : Bool) : Option (Bool) :=
 (if x85 = true then (if 1 ≤ nv1.2.2.2.2.2.1 then some (decide (nv1.2.2.2.2.2.1 ≤ groups3)) else some false) else some true)
theorem tree_isNode_j3_ok {fuel : Nat} {nv1 : Int × Int × Int × Int × Int × Int × (Arr 4 (UInt64))} {groups3 : Int} {x85 : Bool} {r : Bool} (h : tree_isNode_j3_ev fuel nv1 groups3 x85 = some r) : tree_isNode_j3 nv1 groups3 x85 r := by
 unfold tree_isNode_j3_ev at h
 unfold tree_isNode_j3
 refine ⟨fun g28 => ?_, fun g28 => ?_⟩
 ·rw [if_pos g28] at h
  refine ⟨fun g29 => ?_, fun g29 => ?_⟩
  ·rw [if_pos g29] at h
   exact (Option.some.inj h).symm
  ·rw [if_neg g29] at h
   exact (Option.some.inj h).symm
 ·rw [if_neg g28] at h
  exact (Option.some.inj h).symm
def tree_isNode_j2_ev (fuel : Nat) (nv1 : Int × Int × Int × Int × Int × Int × (Arr 4 (UInt64))) (groups3 : Int) (x76 : Bool) : Option (Bool) :=
 (if x76 = true then some false else tree_isNode_j3_ev fuel nv1 groups3 ((decide (nv1.1 = 5)) || (decide (nv1.1 = 6))))
theorem tree_isNode_j2_ok {fuel : Nat} {nv1 : Int × Int × Int × Int × Int × Int × (Arr 4 (UInt64))} {groups3 : Int} {x76 : Bool} {r : Bool} (h : tree_isNode_j2_ev fuel nv1 groups3 x76 = some r) : tree_isNode_j2 nv1 groups3 x76 r := by
 unfold tree_isNode_j2_ev at h
 unfold tree_isNode_j2
 refine ⟨fun g30 => ?_, fun g30 => ?_⟩
 ·rw [if_pos g30] at h
  exact (Option.some.inj h).symm
 ·rw [if_neg g30] at h
  exact tree_isNode_j3_ok h
def tree_isNode_j1_ev (fuel : Nat) (nv1 : Int × Int × Int × Int × Int × Int × (Arr 4 (UInt64))) (atv2 : Int) (groups3 : Int) (x57 : Bool) : Option (Bool) :=
 (if x57 = true then some false else ((tree_parts_ev fuel nv1).bind fun y67 => ((slices_ContainsFunc_ev fuel atv2 y67).bind fun y70 => (if y70 = true then some false else (if nv1.1 = 4 then ((tree_isTimes_ev fuel nv1.2.2.2.1 nv1.2.2.2.2.1).bind fun y80 => tree_isNode_j2_ev fuel nv1 groups3 (!y80)) else tree_isNode_j2_ev fuel nv1 groups3 false)))))
theorem tree_isNode_j1_ok {fuel : Nat} {nv1 : Int × Int × Int × Int × Int × Int × (Arr 4 (UInt64))} {atv2 : Int} {groups3 : Int} {x57 : Bool} {r : Bool} (h : tree_isNode_j1_ev fuel nv1 atv2 groups3 x57 = some r) : tree_isNode_j1 nv1 atv2 groups3 x57 r := by
 unfold tree_isNode_j1_ev at h
 unfold tree_isNode_j1
 refine ⟨fun g31 => ?_, fun g31 => ?_⟩
 ·rw [if_pos g31] at h
  exact (Option.some.inj h).symm
 ·rw [if_neg g31] at h
  obtain ⟨q32, g32, h⟩ := bind_ok h
  refine ⟨q32, tree_parts_ok g32, ?_⟩
  obtain ⟨q33, g33, h⟩ := bind_ok h
  refine ⟨q33, slices_ContainsFunc_ok g33, ?_⟩
  refine ⟨fun g34 => ?_, fun g34 => ?_⟩
  ·rw [if_pos g34] at h
   exact (Option.some.inj h).symm
  ·rw [if_neg g34] at h
   refine ⟨fun g35 => ?_, fun g35 => ?_⟩
   ·rw [if_pos g35] at h
    obtain ⟨q36, g36, h⟩ := bind_ok h
    refine ⟨q36, tree_isTimes_ok g36, ?_⟩
    exact tree_isNode_j2_ok h
   ·rw [if_neg g35] at h
    exact tree_isNode_j2_ok h
def tree_isNode_ev (fuel : Nat) (nv1 : Int × Int × Int × Int × Int × Int × (Arr 4 (UInt64))) (atv2 : Int) (groups3 : Int) : Option (Bool) :=
 (if nv1.1 < 0 then tree_isNode_j1_ev fuel nv1 atv2 groups3 true else (if 8 < nv1.1 then tree_isNode_j1_ev fuel nv1 atv2 groups3 true else ((tree_plain_ev fuel nv1).bind fun y63 => tree_isNode_j1_ev fuel nv1 atv2 groups3 (!(decide ((nv1 : Int × Int × Int × Int × Int × Int × (Arr 4 (UInt64))) = y63))))))
theorem tree_isNode_ok {fuel : Nat} {nv1 : Int × Int × Int × Int × Int × Int × (Arr 4 (UInt64))} {atv2 : Int} {groups3 : Int} {r : Bool} (h : tree_isNode_ev fuel nv1 atv2 groups3 = some r) : tree_isNode_R nv1 atv2 groups3 r := by
 unfold tree_isNode_ev at h
 unfold tree_isNode_R
 refine ⟨fun g37 => ?_, fun g37 => ?_⟩
 ·rw [if_pos g37] at h
  exact tree_isNode_j1_ok h
 ·rw [if_neg g37] at h
  refine ⟨fun g38 => ?_, fun g38 => ?_⟩
  ·rw [if_pos g38] at h
   exact tree_isNode_j1_ok h
  ·rw [if_neg g38] at h
   obtain ⟨q39, g39, h⟩ := bind_ok h
   refine ⟨q39, tree_plain_ok g39, ?_⟩
   exact tree_isNode_j1_ok h
set_option maxHeartbeats 4000000 in
theorem tree_isNode_con (nv1 : Int × Int × Int × Int × Int × Int × (Arr 4 (UInt64))) (atv2 : Int) (groups3 : Int) (r : Bool) (h : tree_isNode_R nv1 atv2 groups3 r) : Con Try.prog 26 [.agg ([.v (.int .i64 nv1.1), .v (.int .i64 nv1.2.1), .v (.int .i64 nv1.2.2.1), .v (.int .i64 nv1.2.2.2.1), .v (.int .i64 nv1.2.2.2.2.1), .v (.int .i64 nv1.2.2.2.2.2.1)] ++ (List.map ew nv1.2.2.2.2.2.2.l).flatten), .v (.int .i64 atv2), .v (.int .i64 groups3)] [] [] (Ret (.v (.bool r))) := by
 refine xenter Try.func26 rfl rfl fun g hg => ?_
 simp only [Try.ntmps26, slots]
 refine sr_ ?_
 refine xbox rfl rfl rfl rfl fun b3 => ?_
 refine xbox rfl rfl rfl rfl fun b4 => ?_
 refine as_ ?_
 refine nt_ ?_
 refine xseq ?_
 refine xblock ?_
 refine xseqM (fun σ => ∃ (x57 : Bool), tree_isNode_j1 nv1 atv2 groups3 x57 r ∧ σ = ⟨[(2, .v (.int .i64 groups3)), (3, .v (.pointer (some ⟨b3, 0, none⟩))), (4, .v (.pointer (some ⟨b4, 0, none⟩))), (7, .v (.bool x57))], [⟨b4, 3, [.v (.int .i64 atv2)]⟩, ⟨b3, 54, ([.v (.int .i64 nv1.1), .v (.int .i64 nv1.2.1), .v (.int .i64 nv1.2.2.1), .v (.int .i64 nv1.2.2.2.1), .v (.int .i64 nv1.2.2.2.2.1), .v (.int .i64 nv1.2.2.2.2.2.1)] ++ (List.map ew nv1.2.2.2.2.2.2.l).flatten)⟩], []⟩) ?_ ?_
 ·refine xregionD (m := 15) (by kernel_rfl) rfl ?_
  refine pl_ 0 rfl (qv_fieldAddrB FldC.h rfl) ?_
  refine xpvalE 1 [] rfl (qv_loadB 1 ShpC.h rfl rfl rfl rfl) rfl rfl (by kernel_rfl) (by kernel_rfl) (by kernel_rfl) (fun _ _ _ _ h => h) ?_
  refine pl_ 2 rfl (pv_bin2 rfl rfl rfl) ?_
  refine pl_ 3 rfl (pv_move rfl) ?_
  by_cases hp59 : nv1.1 < 0
  ·replace h := h.1 hp59
   refine psetB 11 (decide_eq_true hp59) rfl ?_
   refine xpskip 4 rfl rfl rfl (by kernel_rfl) (by kernel_rfl) (by kernel_rfl) (fun _ _ _ _ h => h) ?_
   refine xpskip 5 rfl rfl rfl (by kernel_rfl) (by kernel_rfl) (by kernel_rfl) (fun _ _ _ _ h => h) ?_
   refine xpskip 6 rfl rfl rfl (by kernel_rfl) (by kernel_rfl) (by kernel_rfl) (fun _ _ _ _ h => h) ?_
   refine pl_ 7 rfl (pv_pick rfl rfl) ?_
   refine pl_ 8 rfl (pv_move rfl) ?_
   refine xpskip 9 rfl rfl rfl (by kernel_rfl) (by kernel_rfl) (by kernel_rfl) (fun _ _ _ _ h => h) ?_
   refine xpskip 10 rfl rfl rfl (by kernel_rfl) (by kernel_rfl) (by kernel_rfl) (fun _ _ _ _ h => h) ?_
   refine xpskip 11 rfl rfl rfl (by kernel_rfl) (by kernel_rfl) (by kernel_rfl) (fun _ _ _ _ h => h) ?_
   refine xpskip 12 rfl rfl rfl (by kernel_rfl) (by kernel_rfl) (by kernel_rfl) (fun _ _ _ _ h => h) ?_
   refine pl_ 13 rfl (pv_pick rfl rfl) ?_
   refine pl_ 14 rfl (pv_assign rfl) ?_
   refine xpdone (by kernel_rfl) ?_
   exact xmeet ⟨true, h, rfl⟩ ⟨lk_, (SubM.of (.keep rfl rfl (.refl _) (.keep rfl rfl (.refl _) (.nil _))) (.nil _))⟩
  ·replace h := h.2 hp59
   refine psetB 11 (decide_eq_false hp59) rfl ?_
   refine pl_ 4 rfl (qv_fieldAddrB FldC.h rfl) ?_
   refine xpvalE 5 [] rfl (qv_loadB 1 ShpC.h rfl rfl rfl rfl) rfl rfl (by kernel_rfl) (by kernel_rfl) (by kernel_rfl) (fun _ _ _ _ h => h) ?_
   refine pl_ 6 rfl (pv_bin2 rfl rfl rfl) ?_
   refine pl_ 7 rfl (pv_pick rfl rfl) ?_
   refine pl_ 8 rfl (pv_move rfl) ?_
   by_cases hp61 : 8 < nv1.1
   ·replace h := h.1 hp61
    refine psetB 16 (decide_eq_true hp61) rfl ?_
    refine xpskip 9 rfl rfl rfl (by kernel_rfl) (by kernel_rfl) (by kernel_rfl) (fun _ _ _ _ h => h) ?_
    refine xpskip 10 rfl rfl rfl (by kernel_rfl) (by kernel_rfl) (by kernel_rfl) (fun _ _ _ _ h => h) ?_
    refine xpskip 11 rfl rfl rfl (by kernel_rfl) (by kernel_rfl) (by kernel_rfl) (fun _ _ _ _ h => h) ?_
    refine xpskip 12 rfl rfl rfl (by kernel_rfl) (by kernel_rfl) (by kernel_rfl) (fun _ _ _ _ h => h) ?_
    refine pl_ 13 rfl (pv_pick rfl rfl) ?_
    refine pl_ 14 rfl (pv_assign rfl) ?_
    refine xpdone (by kernel_rfl) ?_
    exact xmeet ⟨true, h, rfl⟩ ⟨lk_, (SubM.of (.keep rfl rfl (.refl _) (.keep rfl rfl (.refl _) (.nil _))) (.nil _))⟩
   ·replace h := h.2 hp61
    refine psetB 16 (decide_eq_false hp61) rfl ?_
    obtain ⟨y63, h62, h⟩ := h
    refine xpvalE 10 [9] rfl (qv_loadP 1 [] ([.v (.int .i64 nv1.1), .v (.int .i64 nv1.2.1), .v (.int .i64 nv1.2.2.1), .v (.int .i64 nv1.2.2.2.1), .v (.int .i64 nv1.2.2.2.2.1), .v (.int .i64 nv1.2.2.2.2.2.1)] ++ (List.map ew nv1.2.2.2.2.2.2.l).flatten) [] sq_ sl_ sl_ (part_all sl_) ShpC.h rfl rfl) rfl rfl (by kernel_rfl) (by kernel_rfl) (by kernel_rfl) (fun _ _ _ _ h => h) ?_
    refine xfl0 [⟨9, 17, .agg ([.v (.int .i64 nv1.1), .v (.int .i64 nv1.2.1), .v (.int .i64 nv1.2.2.1), .v (.int .i64 nv1.2.2.2.1), .v (.int .i64 nv1.2.2.2.2.1), .v (.int .i64 nv1.2.2.2.2.2.1)] ++ (List.map ew nv1.2.2.2.2.2.2.l).flatten)⟩] 4 ?_
    refine xflstep 11 (by kernel_rfl) rfl (.cons rfl rfl rfl (fun _ => rfl) (fun _ => qv_loadP 1 [] ([.v (.int .i64 nv1.1), .v (.int .i64 nv1.2.1), .v (.int .i64 nv1.2.2.1), .v (.int .i64 nv1.2.2.2.1), .v (.int .i64 nv1.2.2.2.2.1), .v (.int .i64 nv1.2.2.2.2.2.1)] ++ (List.map ew nv1.2.2.2.2.2.2.l).flatten) [] sq_ sl_ sl_ (part_all sl_) ShpC.h rfl rfl) .nil) fun D l td hR => ?_
    refine wcall0 (tree_plain_con nv1 _ h62) Try.func38 (by kernel_rfl) rfl (.cons rfl (.refl _) .nil) rfl rfl ?_
    refine xflgo1 hR ?_
    refine xflend (l' := #[true, true, true, true, true, true, true, true, true, true, true, true, false, false, false]) (by kernel_rfl) (.cons rfl rfl rfl (fun _ => rfl) (fun _ => qv_loadP 1 [] ([.v (.int .i64 nv1.1), .v (.int .i64 nv1.2.1), .v (.int .i64 nv1.2.2.1), .v (.int .i64 nv1.2.2.2.1), .v (.int .i64 nv1.2.2.2.2.1), .v (.int .i64 nv1.2.2.2.2.2.1)] ++ (List.map ew nv1.2.2.2.2.2.2.l).flatten) [] sq_ sl_ sl_ (part_all sl_) ShpC.h rfl rfl) .nil) (by kernel_rfl) rfl (by kernel_rfl) (by kernel_rfl) ?_
    simp only [List.nil_append, List.cons_append, List.map_cons, List.map_nil]
    refine pl_ 12 rfl (pv_neAgg (f := E_palinode_api_Node) (a := nv1) (b := y63) eqc_54 (by decide) (by kernel_rfl) ev_ ev_) ?_
    refine pl_ 13 rfl (pv_pick rfl rfl) ?_
    refine pl_ 14 rfl (pv_assign rfl) ?_
    refine xpdone (by kernel_rfl) ?_
    exact xmeet ⟨(!(decide ((nv1 : Int × Int × Int × Int × Int × Int × (Arr 4 (UInt64))) = y63))), h, rfl⟩ ⟨lk_, (SubM.of (.keep rfl rfl (.refl _) (.keep rfl rfl (.refl _) (.nil _))) (.nil _))⟩
 ·clear h
  rintro _ ⟨x57, h, rfl⟩
  by_cases hp65 : x57 = true
  ·replace h := h.1 hp65
   refine xcondT' hp65 rfl ?_
   refine sr_ ?_
   refine as_ ?_
   refine nt_ ?_
   refine xretc ?_
   refine xin_ret ?_
   refine xthen_ret ?_
   replace h := h.symm
   subst h
   exact xret1 hg rfl rfl (.refl _) (SubM.of (.nil _) (.nil _)) ⟨rfl, rfl, rfl⟩
  ·replace h := h.2 hp65
   refine xcondF' (b_f hp65) rfl ?_
   refine sr_ ?_
   refine v_ (qv_loadP 1 [] ([.v (.int .i64 nv1.1), .v (.int .i64 nv1.2.1), .v (.int .i64 nv1.2.2.1), .v (.int .i64 nv1.2.2.2.1), .v (.int .i64 nv1.2.2.2.2.1), .v (.int .i64 nv1.2.2.2.2.2.1)] ++ (List.map ew nv1.2.2.2.2.2.2.l).flatten) [] sq_ sl_ sl_ (part_all sl_) ShpC.h rfl rfl) ?_
   obtain ⟨y67, h66, h⟩ := h
   refine xcallM (tree_parts_con nv1 _ h66) Try.func27 (by kernel_rfl) rfl (.cons rfl (.refl _) .nil) rfl rfl fun i68 => ?_
   refine vp_ (pv_makeFuncC rfl) ?_
   obtain ⟨y70, h69, h⟩ := h
   refine xcallF (Fb := [⟨b3, 54, ([.v (.int .i64 nv1.1), .v (.int .i64 nv1.2.1), .v (.int .i64 nv1.2.2.1), .v (.int .i64 nv1.2.2.2.1), .v (.int .i64 nv1.2.2.2.2.1), .v (.int .i64 nv1.2.2.2.2.2.1)] ++ (List.map ew nv1.2.2.2.2.2.2.l).flatten)⟩]) (Ft := [⟨i68, 3, 1, y67.length⟩]) (slices_ContainsFunc_con atv2 y67 b4 _ h69) Try.func39 (by kernel_rfl) rfl (.cons rfl (.tok _ _ _) (.cons rfl (.refl _) .nil)) (by exact sm_) rfl rfl ?_
   rintro _ _ _ ⟨rfl, rfl, rfl⟩
   simp only [List.nil_append, List.cons_append]
   refine as_ ?_
   refine nt_ ?_
   by_cases hp71 : y70 = true
   ·replace h := h.1 hp71
    refine xcondT' hp71 rfl ?_
    refine sr_ ?_
    refine as_ ?_
    refine nt_ ?_
    refine xretc ?_
    refine xin_ret ?_
    refine xthen_ret ?_
    replace h := h.symm
    subst h
    exact xret1 hg rfl rfl (.refl _) (SubM.of (.nil _) (.nil _)) ⟨rfl, rfl, rfl⟩
   ·replace h := h.2 hp71
    refine xcondF' (b_f hp71) rfl ?_
    refine xseqM (fun σ => ∃ (x76 : Bool), tree_isNode_j2 nv1 groups3 x76 r ∧ σ = ⟨[(2, .v (.int .i64 groups3)), (3, .v (.pointer (some ⟨b3, 0, none⟩))), (27, .v (.bool x76))], [⟨b3, 54, ([.v (.int .i64 nv1.1), .v (.int .i64 nv1.2.1), .v (.int .i64 nv1.2.2.1), .v (.int .i64 nv1.2.2.2.1), .v (.int .i64 nv1.2.2.2.2.1), .v (.int .i64 nv1.2.2.2.2.2.1)] ++ (List.map ew nv1.2.2.2.2.2.2.l).flatten)⟩], []⟩) ?_ ?_
    ·refine xregion ?_
     refine vp_ (qv_fieldAddrB FldC.h rfl) ?_
     refine v_ (qv_loadB 1 ShpC.h rfl rfl rfl rfl) ?_
     refine vp_ (pv_bin2 rfl rfl rfl) ?_
     refine mv_ ?_
     by_cases hp78 : nv1.1 = 4
     ·replace h := h.1 hp78
      refine xsetB 31 (decide_eq_true hp78) rfl ?_
      refine vp_ (qv_fieldAddrB FldC.h rfl) ?_
      refine v_ (qv_loadB 1 ShpC.h rfl rfl rfl rfl) ?_
      refine vp_ (qv_fieldAddrB FldC.h rfl) ?_
      refine v_ (qv_loadB 1 ShpC.h rfl rfl rfl rfl) ?_
      obtain ⟨y80, h79, h⟩ := h
      refine xcall0 (tree_isTimes_con nv1.2.2.2.1 nv1.2.2.2.2.1 _ h79) Try.func41 (by kernel_rfl) rfl (.cons rfl (.refl _) (.cons rfl (.refl _) .nil)) rfl rfl ?_
      refine vp_ (pv_not rfl) ?_
      refine pk_ ?_
      refine as_ ?_
      refine xnil ?_
      exact xmeet ⟨(!y80), h, rfl⟩ ⟨lk_, (SubM.of (.drop (.keep rfl rfl (.refl _) (.nil _))) (.nil _))⟩
     ·replace h := h.2 hp78
      refine xsetB 31 (decide_eq_false hp78) rfl ?_
      refine sk_ ?_
      refine sk_ ?_
      refine sk_ ?_
      refine sk_ ?_
      refine sk_ ?_
      refine sk_ ?_
      refine pk_ ?_
      refine as_ ?_
      refine xnil ?_
      exact xmeet ⟨false, h, rfl⟩ ⟨lk_, (SubM.of (.drop (.keep rfl rfl (.refl _) (.nil _))) (.nil _))⟩
    ·clear h
     rintro _ ⟨x76, h, rfl⟩
     by_cases hp81 : x76 = true
     ·replace h := h.1 hp81
      refine xcondT' hp81 rfl ?_
      refine sr_ ?_
      refine as_ ?_
      refine nt_ ?_
      refine xretc ?_
      refine xin_ret ?_
      refine xthen_ret ?_
      replace h := h.symm
      subst h
      exact xret1 hg rfl rfl (.refl _) (SubM.of (.nil _) (.nil _)) ⟨rfl, rfl, rfl⟩
     ·replace h := h.2 hp81
      refine xcondF' (b_f hp81) rfl ?_
      refine xseqM (fun σ => ∃ (x85 : Bool), tree_isNode_j3 nv1 groups3 x85 r ∧ σ = ⟨[(2, .v (.int .i64 groups3)), (3, .v (.pointer (some ⟨b3, 0, none⟩))), (39, .v (.bool x85))], [⟨b3, 54, ([.v (.int .i64 nv1.1), .v (.int .i64 nv1.2.1), .v (.int .i64 nv1.2.2.1), .v (.int .i64 nv1.2.2.2.1), .v (.int .i64 nv1.2.2.2.2.1), .v (.int .i64 nv1.2.2.2.2.2.1)] ++ (List.map ew nv1.2.2.2.2.2.2.l).flatten)⟩], []⟩) ?_ ?_
      ·refine xregion ?_
       refine vp_ (qv_fieldAddrB FldC.h rfl) ?_
       refine v_ (qv_loadB 0 ShpC.h rfl rfl rfl rfl) ?_
       refine vp_ (pv_bin2 rfl rfl rfl) ?_
       refine mv_ ?_
       by_cases hp87 : nv1.1 = 5
       ·rw [or_tt (show (decide (nv1.1 = 5)) = true from (decide_eq_true hp87))] at h
        refine xsetB 43 (decide_eq_true hp87) rfl ?_
        refine sk_ ?_
        refine sk_ ?_
        refine sk_ ?_
        refine pk_ ?_
        refine as_ ?_
        refine xnil ?_
        exact xmeet ⟨true, h, rfl⟩ ⟨lk_, (SubM.of (.keep rfl rfl (.refl _) (.nil _)) (.nil _))⟩
       ·rw [or_ff (show (decide (nv1.1 = 5)) = false from (decide_eq_false hp87))] at h
        refine xsetB 43 (decide_eq_false hp87) rfl ?_
        refine vp_ (qv_fieldAddrB FldC.h rfl) ?_
        refine v_ (qv_loadB 0 ShpC.h rfl rfl rfl rfl) ?_
        refine vp_ (pv_bin2 rfl rfl rfl) ?_
        refine pk_ ?_
        refine as_ ?_
        refine xnil ?_
        exact xmeet ⟨(decide (nv1.1 = 6)), h, rfl⟩ ⟨lk_, (SubM.of (.keep rfl rfl (.refl _) (.nil _)) (.nil _))⟩
      ·clear h
       rintro _ ⟨x85, h, rfl⟩
       by_cases hp89 : x85 = true
       ·replace h := h.1 hp89
        refine xcondT' hp89 rfl ?_
        refine sr_ ?_
        refine vp_ (qv_fieldAddrB FldC.h rfl) ?_
        refine v_ (qv_loadB 0 ShpC.h rfl rfl rfl rfl) ?_
        refine vp_ (pv_bin2 rfl rfl rfl) ?_
        refine mv_ ?_
        by_cases hp94 : 1 ≤ nv1.2.2.2.2.2.1
        ·replace h := h.1 hp94
         refine xsetB 51 (decide_eq_true hp94) rfl ?_
         refine vp_ (qv_fieldAddrB FldC.h rfl) ?_
         refine v_ (qv_loadB 0 ShpC.h rfl rfl rfl rfl) ?_
         refine mv_ ?_
         refine vp_ (pv_bin2 rfl rfl rfl) ?_
         refine pk_ ?_
         refine as_ ?_
         refine nt_ ?_
         refine xretc ?_
         refine xin_ret ?_
         refine xthen_ret ?_
         replace h := h.symm
         subst h
         exact xret1 hg rfl rfl (.refl _) (SubM.of (.nil _) (.nil _)) ⟨rfl, rfl, rfl⟩
        ·replace h := h.2 hp94
         refine xsetB 51 (decide_eq_false hp94) rfl ?_
         refine sk_ ?_
         refine sk_ ?_
         refine sk_ ?_
         refine sk_ ?_
         refine pk_ ?_
         refine as_ ?_
         refine nt_ ?_
         refine xretc ?_
         refine xin_ret ?_
         refine xthen_ret ?_
         replace h := h.symm
         subst h
         exact xret1 hg rfl rfl (.refl _) (SubM.of (.nil _) (.nil _)) ⟨rfl, rfl, rfl⟩
       ·replace h := h.2 hp89
        refine xcondF' (b_f hp89) rfl ?_
        refine xskipc ?_
        refine xin_normal ?_
        refine xthen ?_
        refine sr_ ?_
        refine as_ ?_
        refine nt_ ?_
        refine xretc ?_
        replace h := h.symm
        subst h
        exact xret1 hg rfl rfl (.refl _) (SubM.of (.nil _) (.nil _)) ⟨rfl, rfl, rfl⟩
end Go.Proofs.Ytncnfohhjbadgaa
