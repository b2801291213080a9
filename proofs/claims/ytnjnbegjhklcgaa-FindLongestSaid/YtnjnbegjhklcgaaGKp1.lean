
/- What functions' texts ask for, and the walks that show it (printed by a program). -/
import Derived.Test.YtnjnbegjhklcgaaFl
namespace Go.Proofs.Ytnjnbegjhklcgaa
abbrev E_palinode_api_Set (x : Arr 4 (UInt64)) : List Sd := ((List.map ew x.l).flatten)
instance : EncLen E_palinode_api_Set 4 := ⟨fun _ => sl_⟩
abbrev E_palinode_api_Node (x : Int × Int × Int × Int × Int × Int × (Arr 4 (UInt64))) : List Sd := ([.v (.int .i64 x.1), .v (.int .i64 x.2.1), .v (.int .i64 x.2.2.1), .v (.int .i64 x.2.2.2.1), .v (.int .i64 x.2.2.2.2.1), .v (.int .i64 x.2.2.2.2.2.1)] ++ (List.map ew x.2.2.2.2.2.2.l).flatten)
instance : EncLen E_palinode_api_Node 10 := ⟨fun _ => sl_⟩
abbrev E_palinode_api_Span (x : Int × Int) : List Sd := [.v (.int .i64 x.1), .v (.int .i64 x.2)]
instance : EncLen E_palinode_api_Span 2 := ⟨fun _ => sl_⟩
abbrev E_palinode_api_Hit (x : (Arr 10 (Int × Int))) : List Sd := ((List.map E_palinode_api_Span x.l).flatten)
instance : EncLen E_palinode_api_Hit 20 := ⟨fun _ => sl_⟩
set_option synthInstance.maxSize 4000 in
instance : DecidableEq (Int × Int × Int × Int × Int × Int × (Arr 4 (UInt64))) := inferInstance
set_option synthInstance.maxSize 4000 in
set_option maxRecDepth 20000 in
theorem eqc_45 : EqC Try.prog 45 E_palinode_api_Node true 3 := ⟨by
 rintro d hd ⟨x0, x1, x2, x3, x4, x5, x6⟩ ⟨y0, y1, y2, y3, y4, y5, y6⟩ R w _ _ ⟨us, rfl, hu, hu1⟩ ⟨vs, rfl, hv, hv1⟩ W
 obtain ⟨d, rfl, hd'⟩ := d_succ hd
 have h7 := eqF_nil (P := Try.prog) d us vs W
 have h6 := eqF_cons (P := Try.prog) (fd := ({ name := "Set", type := 43, offset := 6, embedded := false, tag := "", pkgPath := "", byteOffset := 48 } : Field)) (f := E_palinode_api_Set) (ag := true) (x := x6) (y := y6) hu hu1 hv hv1 (by decide) ShpC.h (eqC_arr (t := 43) (e := 41) (f := ew) UndC.h ShpC.h (by kernel_rfl) inferInstance (fun _ => rfl)) (show 2 ≤ d by omega) (part_midE (pre := [.v (.int .i64 x0), .v (.int .i64 x1), .v (.int .i64 x2), .v (.int .i64 x3), .v (.int .i64 x4), .v (.int .i64 x5)]) (mid := ((List.map ew x6.l).flatten)) (post := []) sq_ sl_ sl_ (part_all sl_)) (part_midE (pre := [.v (.int .i64 y0), .v (.int .i64 y1), .v (.int .i64 y2), .v (.int .i64 y3), .v (.int .i64 y4), .v (.int .i64 y5)]) (mid := ((List.map ew y6.l).flatten)) (post := []) sq_ sl_ sl_ (part_all sl_)) h7
 have h5 := eqF_cons (P := Try.prog) (fd := ({ name := "Group", type := 3, offset := 5, embedded := false, tag := "", pkgPath := "", byteOffset := 40 } : Field)) (f := ei) (ag := false) (x := x5) (y := y5) hu hu1 hv hv1 (by decide) ShpC.h inferInstance (show 1 ≤ d by omega) (part_midE (pre := [.v (.int .i64 x0), .v (.int .i64 x1), .v (.int .i64 x2), .v (.int .i64 x3), .v (.int .i64 x4)]) (mid := [.v (.int .i64 x5)]) (post := ((List.map ew x6.l).flatten)) sq_ sl_ sl_ rfl) (part_midE (pre := [.v (.int .i64 y0), .v (.int .i64 y1), .v (.int .i64 y2), .v (.int .i64 y3), .v (.int .i64 y4)]) (mid := [.v (.int .i64 y5)]) (post := ((List.map ew y6.l).flatten)) sq_ sl_ sl_ rfl) h6
 have h4 := eqF_cons (P := Try.prog) (fd := ({ name := "Hi", type := 3, offset := 4, embedded := false, tag := "", pkgPath := "", byteOffset := 32 } : Field)) (f := ei) (ag := false) (x := x4) (y := y4) hu hu1 hv hv1 (by decide) ShpC.h inferInstance (show 1 ≤ d by omega) (part_midE (pre := [.v (.int .i64 x0), .v (.int .i64 x1), .v (.int .i64 x2), .v (.int .i64 x3)]) (mid := [.v (.int .i64 x4)]) (post := ([.v (.int .i64 x5)] ++ (List.map ew x6.l).flatten)) sq_ sl_ sl_ rfl) (part_midE (pre := [.v (.int .i64 y0), .v (.int .i64 y1), .v (.int .i64 y2), .v (.int .i64 y3)]) (mid := [.v (.int .i64 y4)]) (post := ([.v (.int .i64 y5)] ++ (List.map ew y6.l).flatten)) sq_ sl_ sl_ rfl) h5
 have h3 := eqF_cons (P := Try.prog) (fd := ({ name := "Lo", type := 3, offset := 3, embedded := false, tag := "", pkgPath := "", byteOffset := 24 } : Field)) (f := ei) (ag := false) (x := x3) (y := y3) hu hu1 hv hv1 (by decide) ShpC.h inferInstance (show 1 ≤ d by omega) (part_midE (pre := [.v (.int .i64 x0), .v (.int .i64 x1), .v (.int .i64 x2)]) (mid := [.v (.int .i64 x3)]) (post := ([.v (.int .i64 x4), .v (.int .i64 x5)] ++ (List.map ew x6.l).flatten)) sq_ sl_ sl_ rfl) (part_midE (pre := [.v (.int .i64 y0), .v (.int .i64 y1), .v (.int .i64 y2)]) (mid := [.v (.int .i64 y3)]) (post := ([.v (.int .i64 y4), .v (.int .i64 y5)] ++ (List.map ew y6.l).flatten)) sq_ sl_ sl_ rfl) h4
 have h2 := eqF_cons (P := Try.prog) (fd := ({ name := "B", type := 3, offset := 2, embedded := false, tag := "", pkgPath := "", byteOffset := 16 } : Field)) (f := ei) (ag := false) (x := x2) (y := y2) hu hu1 hv hv1 (by decide) ShpC.h inferInstance (show 1 ≤ d by omega) (part_midE (pre := [.v (.int .i64 x0), .v (.int .i64 x1)]) (mid := [.v (.int .i64 x2)]) (post := ([.v (.int .i64 x3), .v (.int .i64 x4), .v (.int .i64 x5)] ++ (List.map ew x6.l).flatten)) sq_ sl_ sl_ rfl) (part_midE (pre := [.v (.int .i64 y0), .v (.int .i64 y1)]) (mid := [.v (.int .i64 y2)]) (post := ([.v (.int .i64 y3), .v (.int .i64 y4), .v (.int .i64 y5)] ++ (List.map ew y6.l).flatten)) sq_ sl_ sl_ rfl) h3
 have h1 := eqF_cons (P := Try.prog) (fd := ({ name := "A", type := 3, offset := 1, embedded := false, tag := "", pkgPath := "", byteOffset := 8 } : Field)) (f := ei) (ag := false) (x := x1) (y := y1) hu hu1 hv hv1 (by decide) ShpC.h inferInstance (show 1 ≤ d by omega) (part_midE (pre := [.v (.int .i64 x0)]) (mid := [.v (.int .i64 x1)]) (post := ([.v (.int .i64 x2), .v (.int .i64 x3), .v (.int .i64 x4), .v (.int .i64 x5)] ++ (List.map ew x6.l).flatten)) sq_ sl_ sl_ rfl) (part_midE (pre := [.v (.int .i64 y0)]) (mid := [.v (.int .i64 y1)]) (post := ([.v (.int .i64 y2), .v (.int .i64 y3), .v (.int .i64 y4), .v (.int .i64 y5)] ++ (List.map ew y6.l).flatten)) sq_ sl_ sl_ rfl) h2
 have h0 := eqF_cons (P := Try.prog) (fd := ({ name := "Kind", type := 3, offset := 0, embedded := false, tag := "", pkgPath := "", byteOffset := 0 } : Field)) (f := ei) (ag := false) (x := x0) (y := y0) hu hu1 hv hv1 (by decide) ShpC.h inferInstance (show 1 ≤ d by omega) (part_midE (pre := []) (mid := [.v (.int .i64 x0)]) (post := ([.v (.int .i64 x1), .v (.int .i64 x2), .v (.int .i64 x3), .v (.int .i64 x4), .v (.int .i64 x5)] ++ (List.map ew x6.l).flatten)) sq_ sl_ sl_ rfl) (part_midE (pre := []) (mid := [.v (.int .i64 y0)]) (post := ([.v (.int .i64 y1), .v (.int .i64 y2), .v (.int .i64 y3), .v (.int .i64 y4), .v (.int .i64 y5)] ++ (List.map ew y6.l).flatten)) sq_ sl_ sl_ rfl) h1
 have hf : (Try.prog.fieldsOf 45).toList = [({ name := "Kind", type := 3, offset := 0, embedded := false, tag := "", pkgPath := "", byteOffset := 0 } : Field), ({ name := "A", type := 3, offset := 1, embedded := false, tag := "", pkgPath := "", byteOffset := 8 } : Field), ({ name := "B", type := 3, offset := 2, embedded := false, tag := "", pkgPath := "", byteOffset := 16 } : Field), ({ name := "Lo", type := 3, offset := 3, embedded := false, tag := "", pkgPath := "", byteOffset := 24 } : Field), ({ name := "Hi", type := 3, offset := 4, embedded := false, tag := "", pkgPath := "", byteOffset := 32 } : Field), ({ name := "Group", type := 3, offset := 5, embedded := false, tag := "", pkgPath := "", byteOffset := 40 } : Field), ({ name := "Set", type := 43, offset := 6, embedded := false, tag := "", pkgPath := "", byteOffset := 48 } : Field)] := by kernel_rfl
 rw [← hf] at h0
 refine ((run_equalIn_struct W d 45 us vs (by kernel_rfl) (by kernel_rfl)).trans h0).trans ?_
 congr 1; rw [Bool.eq_iff_iff]; simp only [Bool.and_true, Bool.and_eq_true, decide_eq_true_eq, Prod.mk.injEq]⟩
def PC_palinode_match_cell : List (Int × Int × Int × Int) → List Sd
 | [] => []
 | x :: r => [.v (.int .i64 x.1), .v (.int .i64 x.2.1), .v (.int .i64 x.2.2.1), .v (.int .i64 x.2.2.2), .pt (List.isEmpty r) (PC_palinode_match_cell r)]
abbrev E_palinode_match_way (x : Int × (Arr 10 (Int × Int)) × (List (Int × Int × Int × Int))) : List Sd := ([.v (.int .i64 x.1)] ++ ((List.map E_palinode_api_Span x.2.1.l).flatten ++ [.pt (List.isEmpty x.2.2) (PC_palinode_match_cell x.2.2)]))
instance : EncLen E_palinode_match_way 22 := ⟨fun _ => sl_⟩
set_option synthInstance.maxSize 4000 in
instance : DecidableEq (Int × Int) := inferInstance
set_option synthInstance.maxSize 4000 in
set_option maxRecDepth 20000 in
theorem eqc_33 : EqC Try.prog 33 E_palinode_api_Span true 2 := ⟨by
 rintro d hd ⟨x0, x1⟩ ⟨y0, y1⟩ R w _ _ ⟨us, rfl, hu, hu1⟩ ⟨vs, rfl, hv, hv1⟩ W
 obtain ⟨d, rfl, hd'⟩ := d_succ hd
 have h2 := eqF_nil (P := Try.prog) d us vs W
 have h1 := eqF_cons (P := Try.prog) (fd := ({ name := "To", type := 3, offset := 1, embedded := false, tag := "", pkgPath := "", byteOffset := 8 } : Field)) (f := ei) (ag := false) (x := x1) (y := y1) hu hu1 hv hv1 (by decide) ShpC.h inferInstance (show 1 ≤ d by omega) (part_midE (pre := [.v (.int .i64 x0)]) (mid := [.v (.int .i64 x1)]) (post := []) sq_ sl_ sl_ rfl) (part_midE (pre := [.v (.int .i64 y0)]) (mid := [.v (.int .i64 y1)]) (post := []) sq_ sl_ sl_ rfl) h2
 have h0 := eqF_cons (P := Try.prog) (fd := ({ name := "From", type := 3, offset := 0, embedded := false, tag := "", pkgPath := "", byteOffset := 0 } : Field)) (f := ei) (ag := false) (x := x0) (y := y0) hu hu1 hv hv1 (by decide) ShpC.h inferInstance (show 1 ≤ d by omega) (part_midE (pre := []) (mid := [.v (.int .i64 x0)]) (post := [.v (.int .i64 x1)]) sq_ sl_ sl_ rfl) (part_midE (pre := []) (mid := [.v (.int .i64 y0)]) (post := [.v (.int .i64 y1)]) sq_ sl_ sl_ rfl) h1
 have hf : (Try.prog.fieldsOf 33).toList = [({ name := "From", type := 3, offset := 0, embedded := false, tag := "", pkgPath := "", byteOffset := 0 } : Field), ({ name := "To", type := 3, offset := 1, embedded := false, tag := "", pkgPath := "", byteOffset := 8 } : Field)] := by kernel_rfl
 rw [← hf] at h0
 refine ((run_equalIn_struct W d 33 us vs (by kernel_rfl) (by kernel_rfl)).trans h0).trans ?_
 congr 1; rw [Bool.eq_iff_iff]; simp only [Bool.and_true, Bool.and_eq_true, decide_eq_true_eq, Prod.mk.injEq]⟩
abbrev E_palinode_palinoderef11_Point (x : Int × (Arr 10 (Int × Int))) : List Sd := ([.v (.int .i64 x.1)] ++ (List.map E_palinode_api_Span x.2.l).flatten)
instance : EncLen E_palinode_palinoderef11_Point 21 := ⟨fun _ => sl_⟩
abbrev E_10_api_Span (x : Arr 10 (Int × Int)) : List Sd := ((List.map E_palinode_api_Span x.l).flatten)
instance : EncLen E_10_api_Span 20 := ⟨fun _ => sl_⟩
set_option synthInstance.maxSize 4000 in
instance : DecidableEq (Int × (Arr 10 (Int × Int))) := inferInstance
set_option synthInstance.maxSize 4000 in
set_option maxRecDepth 20000 in
theorem eqc_58 : EqC Try.prog 58 E_palinode_palinoderef11_Point true 4 := ⟨by
 rintro d hd ⟨x0, x1⟩ ⟨y0, y1⟩ R w _ _ ⟨us, rfl, hu, hu1⟩ ⟨vs, rfl, hv, hv1⟩ W
 obtain ⟨d, rfl, hd'⟩ := d_succ hd
 have h2 := eqF_nil (P := Try.prog) d us vs W
 have h1 := eqF_cons (P := Try.prog) (fd := ({ name := "Spans", type := 34, offset := 1, embedded := false, tag := "", pkgPath := "", byteOffset := 8 } : Field)) (f := E_10_api_Span) (ag := true) (x := x1) (y := y1) hu hu1 hv hv1 (by decide) ShpC.h (eqC_arr (t := 34) (e := 33) (f := E_palinode_api_Span) UndC.h ShpC.h (by kernel_rfl) eqc_33 (fun _ => rfl)) (show 3 ≤ d by omega) (part_midE (pre := [.v (.int .i64 x0)]) (mid := ((List.map E_palinode_api_Span x1.l).flatten)) (post := []) sq_ sl_ sl_ (part_all sl_)) (part_midE (pre := [.v (.int .i64 y0)]) (mid := ((List.map E_palinode_api_Span y1.l).flatten)) (post := []) sq_ sl_ sl_ (part_all sl_)) h2
 have h0 := eqF_cons (P := Try.prog) (fd := ({ name := "At", type := 3, offset := 0, embedded := false, tag := "", pkgPath := "", byteOffset := 0 } : Field)) (f := ei) (ag := false) (x := x0) (y := y0) hu hu1 hv hv1 (by decide) ShpC.h inferInstance (show 1 ≤ d by omega) (part_midE (pre := []) (mid := [.v (.int .i64 x0)]) (post := ((List.map E_palinode_api_Span x1.l).flatten)) sq_ sl_ sl_ rfl) (part_midE (pre := []) (mid := [.v (.int .i64 y0)]) (post := ((List.map E_palinode_api_Span y1.l).flatten)) sq_ sl_ sl_ rfl) h1
 have hf : (Try.prog.fieldsOf 58).toList = [({ name := "At", type := 3, offset := 0, embedded := false, tag := "", pkgPath := "", byteOffset := 0 } : Field), ({ name := "Spans", type := 34, offset := 1, embedded := false, tag := "", pkgPath := "", byteOffset := 8 } : Field)] := by kernel_rfl
 rw [← hf] at h0
 refine ((run_equalIn_struct W d 58 us vs (by kernel_rfl) (by kernel_rfl)).trans h0).trans ?_
 congr 1; rw [Bool.eq_iff_iff]; simp only [Bool.and_true, Bool.and_eq_true, decide_eq_true_eq, Prod.mk.injEq]⟩
set_option synthInstance.maxSize 4000 in
instance : DecidableEq ((Arr 10 (Int × Int))) := inferInstance
set_option synthInstance.maxSize 4000 in
set_option maxRecDepth 20000 in
theorem eqc_36 : EqC Try.prog 36 E_palinode_api_Hit true 4 := ⟨by
 rintro d hd x0 y0 R w _ _ ⟨us, rfl, hu, hu1⟩ ⟨vs, rfl, hv, hv1⟩ W
 obtain ⟨d, rfl, hd'⟩ := d_succ hd
 have h1 := eqF_nil (P := Try.prog) d us vs W
 have h0 := eqF_cons (P := Try.prog) (fd := ({ name := "Spans", type := 34, offset := 0, embedded := false, tag := "", pkgPath := "", byteOffset := 0 } : Field)) (f := E_10_api_Span) (ag := true) (x := x0) (y := y0) hu hu1 hv hv1 (by decide) ShpC.h (eqC_arr (t := 34) (e := 33) (f := E_palinode_api_Span) UndC.h ShpC.h (by kernel_rfl) eqc_33 (fun _ => rfl)) (show 3 ≤ d by omega) (part_midE (pre := []) (mid := ((List.map E_palinode_api_Span x0.l).flatten)) (post := []) sq_ sl_ sl_ (part_all sl_)) (part_midE (pre := []) (mid := ((List.map E_palinode_api_Span y0.l).flatten)) (post := []) sq_ sl_ sl_ (part_all sl_)) h1
 have hf : (Try.prog.fieldsOf 36).toList = [({ name := "Spans", type := 34, offset := 0, embedded := false, tag := "", pkgPath := "", byteOffset := 0 } : Field)] := by kernel_rfl
 rw [← hf] at h0
 refine ((run_equalIn_struct W d 36 us vs (by kernel_rfl) (by kernel_rfl)).trans h0).trans ?_
 congr 1; rw [Bool.eq_iff_iff]; simp only [Bool.and_true, Bool.and_eq_true, decide_eq_true_eq, Prod.mk.injEq]⟩
/-- palinoderef06.may -/
def palinoderef06_may_j6 (x354 : Bool) (r : Bool) : Prop :=
 r = x354
def palinoderef06_may_j5 (x1 : Int × Int × Int × Int × Int × Int × (Arr 4 (UInt64))) (x304 : Bool) (r : Bool) : Prop :=
 ((x304 = true → r = false) ∧ (¬ (x304 = true) → ((¬ (x1.1 = 4) → ((x1.2.2.2.1 = 0 → r = (decide (x1.2.2.2.2.1 = 0))) ∧ (¬ (x1.2.2.2.1 = 0) → r = false))) ∧ (¬ (¬ (x1.1 = 4)) → palinoderef06_may_j6 ((decide (0 ≤ x1.2.2.2.1)) && ((decide (x1.2.2.2.1 ≤ 255)) && ((decide (x1.2.2.2.2.1 = (-1))) || ((decide (x1.2.2.2.1 ≤ x1.2.2.2.2.1)) && (decide (x1.2.2.2.2.1 ≤ 255)))))) r))))
def palinoderef06_may_j4 (x1 : Int × Int × Int × Int × Int × Int × (Arr 4 (UInt64))) (x21 : Bool) (x3 : Int) (x180 : Bool) (r : Bool) : Prop :=
 ((x180 = true → r = false) ∧ (¬ (x180 = true) → palinoderef06_may_j5 x1 (bif x21 then ((decide (x1.2.2.2.2.2.1 < 1)) || ((decide (x3 < x1.2.2.2.2.2.1)) || (bif (!x21) then ((!(decide (x1.2.2.2.2.2.1 = 0))) || ((!(decide (x1.1 = 1))) && (!(decide ((x1.2.2.2.2.2.2 : Arr 4 (UInt64)) = (Arr.rep 4 (0 : UInt64))))))) else ((!(decide (x1.1 = 1))) && (!(decide ((x1.2.2.2.2.2.2 : Arr 4 (UInt64)) = (Arr.rep 4 (0 : UInt64))))))))) else (bif (!x21) then ((!(decide (x1.2.2.2.2.2.1 = 0))) || ((!(decide (x1.1 = 1))) && (!(decide ((x1.2.2.2.2.2.2 : Arr 4 (UInt64)) = (Arr.rep 4 (0 : UInt64))))))) else ((!(decide (x1.1 = 1))) && (!(decide ((x1.2.2.2.2.2.2 : Arr 4 (UInt64)) = (Arr.rep 4 (0 : UInt64)))))))) r))
def palinoderef06_may_j3 (x1 : Int × Int × Int × Int × Int × Int × (Arr 4 (UInt64))) (x3 : Int) (x7 : Bool) (x2 : Int) (x14 : Bool) (x21 : Bool) (r : Bool) : Prop :=
 palinoderef06_may_j4 x1 x21 x3 ((decide (x1.1 < 0)) || ((decide (8 < x1.1)) || (bif x7 then ((decide (x1.2.1 < 0)) || ((decide (x2 ≤ x1.2.1)) || (bif (!x7) then ((!(decide (x1.2.1 = 0))) || (bif x14 then ((decide (x1.2.2.1 < 0)) || ((decide (x2 ≤ x1.2.2.1)) || ((!x14) && (!(decide (x1.2.2.1 = 0)))))) else ((!x14) && (!(decide (x1.2.2.1 = 0)))))) else (bif x14 then ((decide (x1.2.2.1 < 0)) || ((decide (x2 ≤ x1.2.2.1)) || ((!x14) && (!(decide (x1.2.2.1 = 0)))))) else ((!x14) && (!(decide (x1.2.2.1 = 0)))))))) else (bif (!x7) then ((!(decide (x1.2.1 = 0))) || (bif x14 then ((decide (x1.2.2.1 < 0)) || ((decide (x2 ≤ x1.2.2.1)) || ((!x14) && (!(decide (x1.2.2.1 = 0)))))) else ((!x14) && (!(decide (x1.2.2.1 = 0)))))) else (bif x14 then ((decide (x1.2.2.1 < 0)) || ((decide (x2 ≤ x1.2.2.1)) || ((!x14) && (!(decide (x1.2.2.1 = 0)))))) else ((!x14) && (!(decide (x1.2.2.1 = 0))))))))) r
def palinoderef06_may_j2 (x1 : Int × Int × Int × Int × Int × Int × (Arr 4 (UInt64))) (x3 : Int) (x7 : Bool) (x2 : Int) (x14 : Bool) (r : Bool) : Prop :=
 palinoderef06_may_j3 x1 x3 x7 x2 x14 ((decide (x1.1 = 5)) || (decide (x1.1 = 6))) r
def palinoderef06_may_j1 (x1 : Int × Int × Int × Int × Int × Int × (Arr 4 (UInt64))) (x3 : Int) (x2 : Int) (x7 : Bool) (r : Bool) : Prop :=
 palinoderef06_may_j2 x1 x3 x7 x2 ((decide (x1.1 = 2)) || (decide (x1.1 = 3))) r
def palinoderef06_may_R (x1 : Int × Int × Int × Int × Int × Int × (Arr 4 (UInt64))) (x2 : Int) (x3 : Int) (r : Bool) : Prop :=
 palinoderef06_may_j1 x1 x3 x2 ((decide (2 ≤ x1.1)) && (decide (x1.1 ≤ 5))) r
set_option maxHeartbeats 4000000 in
theorem palinoderef06_may_con (x1 : Int × Int × Int × Int × Int × Int × (Arr 4 (UInt64))) (x2 : Int) (x3 : Int) (r : Bool) (h : palinoderef06_may_R x1 x2 x3 r) : Con Try.prog 8 [.agg ([.v (.int .i64 x1.1), .v (.int .i64 x1.2.1), .v (.int .i64 x1.2.2.1), .v (.int .i64 x1.2.2.2.1), .v (.int .i64 x1.2.2.2.2.1), .v (.int .i64 x1.2.2.2.2.2.1)] ++ (List.map ew x1.2.2.2.2.2.2.l).flatten), .v (.int .i64 x2), .v (.int .i64 x3)] [] [] (Ret (.v (.bool r))) := by
 refine xenter Try.func8 rfl rfl fun g hg => ?_
 simp only [Try.ntmps8, slots]
 unfold palinoderef06_may_R at h
 refine sr_ ?_
 refine xbox rfl rfl rfl rfl fun b3 => ?_
 refine as_ ?_
 refine nt_ ?_
 refine xseqM (fun σ => ∃ (x7 : Bool), palinoderef06_may_j1 x1 x3 x2 x7 r ∧ σ = ⟨[(1, .v (.int .i64 x2)), (2, .v (.int .i64 x3)), (3, .v (.pointer (some ⟨b3, 0, none⟩))), (7, .v (.bool x7))], [⟨b3, 45, ([.v (.int .i64 x1.1), .v (.int .i64 x1.2.1), .v (.int .i64 x1.2.2.1), .v (.int .i64 x1.2.2.2.1), .v (.int .i64 x1.2.2.2.2.1), .v (.int .i64 x1.2.2.2.2.2.1)] ++ (List.map ew x1.2.2.2.2.2.2.l).flatten)⟩], []⟩) ?_ ?_
 ·refine xregion ?_
  refine vp_ (qv_fieldAddrB FldC.h rfl) ?_
  refine v_ (qv_loadB 0 ShpC.h rfl rfl rfl rfl) ?_
  refine vp_ (pv_bin2 rfl rfl rfl) ?_
  refine mv_ ?_
  by_cases hp9 : 2 ≤ x1.1
  ·rw [and_tt (show (decide (2 ≤ x1.1)) = true from (decide_eq_true hp9))] at h
   refine xsetB 13 (decide_eq_true hp9) rfl ?_
   refine vp_ (qv_fieldAddrB FldC.h rfl) ?_
   refine v_ (qv_loadB 0 ShpC.h rfl rfl rfl rfl) ?_
   refine vp_ (pv_bin2 rfl rfl rfl) ?_
   refine pk_ ?_
   refine as_ ?_
   refine xnil ?_
   exact xmeet ⟨(decide (x1.1 ≤ 5)), h, rfl⟩ ⟨lk_, (SubM.of (.keep rfl rfl (.refl _) (.nil _)) (.nil _))⟩
  ·rw [and_ff (show (decide (2 ≤ x1.1)) = false from (decide_eq_false hp9))] at h
   refine xsetB 13 (decide_eq_false hp9) rfl ?_
   refine sk_ ?_
   refine sk_ ?_
   refine sk_ ?_
   refine pk_ ?_
   refine as_ ?_
   refine xnil ?_
   exact xmeet ⟨false, h, rfl⟩ ⟨lk_, (SubM.of (.keep rfl rfl (.refl _) (.nil _)) (.nil _))⟩
 ·clear h
  rintro _ ⟨x7, h, rfl⟩
  unfold palinoderef06_may_j1 at h
  refine xseqM (fun σ => ∃ (x14 : Bool), palinoderef06_may_j2 x1 x3 x7 x2 x14 r ∧ σ = ⟨[(1, .v (.int .i64 x2)), (2, .v (.int .i64 x3)), (3, .v (.pointer (some ⟨b3, 0, none⟩))), (7, .v (.bool x7)), (8, .v (.bool x14))], [⟨b3, 45, ([.v (.int .i64 x1.1), .v (.int .i64 x1.2.1), .v (.int .i64 x1.2.2.1), .v (.int .i64 x1.2.2.2.1), .v (.int .i64 x1.2.2.2.2.1), .v (.int .i64 x1.2.2.2.2.2.1)] ++ (List.map ew x1.2.2.2.2.2.2.l).flatten)⟩], []⟩) ?_ ?_
  ·refine xregion ?_
   refine vp_ (qv_fieldAddrB FldC.h rfl) ?_
   refine v_ (qv_loadB 0 ShpC.h rfl rfl rfl rfl) ?_
   refine vp_ (pv_bin2 rfl rfl rfl) ?_
   refine mv_ ?_
   by_cases hp16 : x1.1 = 2
   ·rw [or_tt (show (decide (x1.1 = 2)) = true from (decide_eq_true hp16))] at h
    refine xsetB 21 (decide_eq_true hp16) rfl ?_
    refine sk_ ?_
    refine sk_ ?_
    refine sk_ ?_
    refine pk_ ?_
    refine as_ ?_
    refine xnil ?_
    exact xmeet ⟨true, h, rfl⟩ ⟨lk_, (SubM.of (.keep rfl rfl (.refl _) (.nil _)) (.nil _))⟩
   ·rw [or_ff (show (decide (x1.1 = 2)) = false from (decide_eq_false hp16))] at h
    refine xsetB 21 (decide_eq_false hp16) rfl ?_
    refine vp_ (qv_fieldAddrB FldC.h rfl) ?_
    refine v_ (qv_loadB 0 ShpC.h rfl rfl rfl rfl) ?_
    refine vp_ (pv_bin2 rfl rfl rfl) ?_
    refine pk_ ?_
    refine as_ ?_
    refine xnil ?_
    exact xmeet ⟨(decide (x1.1 = 3)), h, rfl⟩ ⟨lk_, (SubM.of (.keep rfl rfl (.refl _) (.nil _)) (.nil _))⟩
  ·clear h
   rintro _ ⟨x14, h, rfl⟩
   unfold palinoderef06_may_j2 at h
   refine xseqM (fun σ => ∃ (x21 : Bool), palinoderef06_may_j3 x1 x3 x7 x2 x14 x21 r ∧ σ = ⟨[(1, .v (.int .i64 x2)), (2, .v (.int .i64 x3)), (3, .v (.pointer (some ⟨b3, 0, none⟩))), (7, .v (.bool x7)), (8, .v (.bool x14)), (9, .v (.bool x21))], [⟨b3, 45, ([.v (.int .i64 x1.1), .v (.int .i64 x1.2.1), .v (.int .i64 x1.2.2.1), .v (.int .i64 x1.2.2.2.1), .v (.int .i64 x1.2.2.2.2.1), .v (.int .i64 x1.2.2.2.2.2.1)] ++ (List.map ew x1.2.2.2.2.2.2.l).flatten)⟩], []⟩) ?_ ?_
   ·refine xregion ?_
    refine vp_ (qv_fieldAddrB FldC.h rfl) ?_
    refine v_ (qv_loadB 0 ShpC.h rfl rfl rfl rfl) ?_
    refine vp_ (pv_bin2 rfl rfl rfl) ?_
    refine mv_ ?_
    by_cases hp23 : x1.1 = 5
    ·rw [or_tt (show (decide (x1.1 = 5)) = true from (decide_eq_true hp23))] at h
     refine xsetB 29 (decide_eq_true hp23) rfl ?_
     refine sk_ ?_
     refine sk_ ?_
     refine sk_ ?_
     refine pk_ ?_
     refine as_ ?_
     refine xnil ?_
     exact xmeet ⟨true, h, rfl⟩ ⟨lk_, (SubM.of (.keep rfl rfl (.refl _) (.nil _)) (.nil _))⟩
    ·rw [or_ff (show (decide (x1.1 = 5)) = false from (decide_eq_false hp23))] at h
     refine xsetB 29 (decide_eq_false hp23) rfl ?_
     refine vp_ (qv_fieldAddrB FldC.h rfl) ?_
     refine v_ (qv_loadB 0 ShpC.h rfl rfl rfl rfl) ?_
     refine vp_ (pv_bin2 rfl rfl rfl) ?_
     refine pk_ ?_
     refine as_ ?_
     refine xnil ?_
     exact xmeet ⟨(decide (x1.1 = 6)), h, rfl⟩ ⟨lk_, (SubM.of (.keep rfl rfl (.refl _) (.nil _)) (.nil _))⟩
   ·clear h
    rintro _ ⟨x21, h, rfl⟩
    unfold palinoderef06_may_j3 at h
    refine xseq ?_
    refine xseqM (fun σ => ∃ (x180 : Bool), palinoderef06_may_j4 x1 x21 x3 x180 r ∧ σ = ⟨[(2, .v (.int .i64 x3)), (3, .v (.pointer (some ⟨b3, 0, none⟩))), (9, .v (.bool x21)), (87, .v (.bool x180))], [⟨b3, 45, ([.v (.int .i64 x1.1), .v (.int .i64 x1.2.1), .v (.int .i64 x1.2.2.1), .v (.int .i64 x1.2.2.2.1), .v (.int .i64 x1.2.2.2.2.1), .v (.int .i64 x1.2.2.2.2.2.1)] ++ (List.map ew x1.2.2.2.2.2.2.l).flatten)⟩], []⟩) ?_ ?_
    ·refine xregion ?_
     refine vp_ (qv_fieldAddrB FldC.h rfl) ?_
     refine v_ (qv_loadB 0 ShpC.h rfl rfl rfl rfl) ?_
     refine vp_ (pv_bin2 rfl rfl rfl) ?_
     refine mv_ ?_
     by_cases hp182 : x1.1 < 0
     ·rw [or_tt (show (decide (x1.1 < 0)) = true from (decide_eq_true hp182))] at h
      refine xsetB 37 (decide_eq_true hp182) rfl ?_
      refine sk_ ?_
      refine sk_ ?_
      refine sk_ ?_
      refine pk_ ?_
      refine mv_ ?_
      refine sk_ ?_
      refine sk_ ?_
      refine sk_ ?_
      refine sk_ ?_
      refine sk_ ?_
      refine sk_ ?_
      refine sk_ ?_
      refine sk_ ?_
      refine sk_ ?_
      refine sk_ ?_
      refine sk_ ?_
      refine sk_ ?_
      refine pk_ ?_
      refine mv_ ?_
      refine sk_ ?_
      refine sk_ ?_
      refine sk_ ?_
      refine sk_ ?_
      refine sk_ ?_
      refine sk_ ?_
      refine sk_ ?_
      refine pk_ ?_
      refine mv_ ?_
      refine sk_ ?_
      refine sk_ ?_
      refine sk_ ?_
      refine sk_ ?_
      refine sk_ ?_
      refine sk_ ?_
      refine sk_ ?_
      refine sk_ ?_
      refine sk_ ?_
      refine sk_ ?_
      refine sk_ ?_
      refine sk_ ?_
      refine pk_ ?_
      refine mv_ ?_
      refine sk_ ?_
      refine sk_ ?_
      refine sk_ ?_
      refine sk_ ?_
      refine sk_ ?_
      refine sk_ ?_
      refine sk_ ?_
      refine pk_ ?_
      refine xnil ?_
      exact xmeet ⟨true, h, rfl⟩ ⟨lk_, (SubM.of (.keep rfl rfl (.refl _) (.nil _)) (.nil _))⟩
     ·rw [or_ff (show (decide (x1.1 < 0)) = false from (decide_eq_false hp182))] at h
      refine xsetB 37 (decide_eq_false hp182) rfl ?_
      refine vp_ (qv_fieldAddrB FldC.h rfl) ?_
      refine v_ (qv_loadB 0 ShpC.h rfl rfl rfl rfl) ?_
      refine vp_ (pv_bin2 rfl rfl rfl) ?_
      refine pk_ ?_
      refine mv_ ?_
      by_cases hp184 : 8 < x1.1
      ·rw [or_tt (show (decide (8 < x1.1)) = true from (decide_eq_true hp184))] at h
       refine xsetB 42 (decide_eq_true hp184) rfl ?_
       refine sk_ ?_
       refine sk_ ?_
       refine sk_ ?_
       refine sk_ ?_
       refine sk_ ?_
       refine sk_ ?_
       refine sk_ ?_
       refine sk_ ?_
       refine sk_ ?_
       refine sk_ ?_
       refine sk_ ?_
       refine sk_ ?_
       refine pk_ ?_
       refine mv_ ?_
       refine sk_ ?_
       refine sk_ ?_
       refine sk_ ?_
       refine sk_ ?_
       refine sk_ ?_
       refine sk_ ?_
       refine sk_ ?_
       refine pk_ ?_
       refine mv_ ?_
       refine sk_ ?_
       refine sk_ ?_
       refine sk_ ?_
       refine sk_ ?_
       refine sk_ ?_
       refine sk_ ?_
       refine sk_ ?_
       refine sk_ ?_
       refine sk_ ?_
       refine sk_ ?_
       refine sk_ ?_
       refine sk_ ?_
       refine pk_ ?_
       refine mv_ ?_
       refine sk_ ?_
       refine sk_ ?_
       refine sk_ ?_
       refine sk_ ?_
       refine sk_ ?_
       refine sk_ ?_
       refine sk_ ?_
       refine pk_ ?_
       refine xnil ?_
       exact xmeet ⟨true, h, rfl⟩ ⟨lk_, (SubM.of (.keep rfl rfl (.refl _) (.nil _)) (.nil _))⟩
      ·rw [or_ff (show (decide (8 < x1.1)) = false from (decide_eq_false hp184))] at h
       refine xsetB 42 (decide_eq_false hp184) rfl ?_
       refine mv_ ?_
       refine mv_ ?_
       by_cases hp185 : x7 = true
       ·rw [cond_tt (show x7 = true from hp185)] at h
        refine xsetB 44 hp185 rfl ?_
        refine vp_ (qv_fieldAddrB FldC.h rfl) ?_
        refine v_ (qv_loadB 0 ShpC.h rfl rfl rfl rfl) ?_
        refine vp_ (pv_bin2 rfl rfl rfl) ?_
        refine mv_ ?_
        by_cases hp187 : x1.2.1 < 0
        ·rw [or_tt (show (decide (x1.2.1 < 0)) = true from (decide_eq_true hp187))] at h
         refine xsetB 48 (decide_eq_true hp187) rfl ?_
         refine sk_ ?_
         refine sk_ ?_
         refine sk_ ?_
         refine sk_ ?_
         refine pk_ ?_
         refine pk_ ?_
         refine pk_ ?_
         refine mv_ ?_
         refine sk_ ?_
         refine sk_ ?_
         refine sk_ ?_
         refine sk_ ?_
         refine sk_ ?_
         refine sk_ ?_
         refine sk_ ?_
         refine pk_ ?_
         refine mv_ ?_
         refine sk_ ?_
         refine sk_ ?_
         refine sk_ ?_
         refine sk_ ?_
         refine sk_ ?_
         refine sk_ ?_
         refine sk_ ?_
         refine sk_ ?_
         refine sk_ ?_
         refine sk_ ?_
         refine sk_ ?_
         refine sk_ ?_
         refine pk_ ?_
         refine mv_ ?_
         refine sk_ ?_
         refine sk_ ?_
         refine sk_ ?_
         refine sk_ ?_
         refine sk_ ?_
         refine sk_ ?_
         refine sk_ ?_
         refine pk_ ?_
         refine xnil ?_
         exact xmeet ⟨true, h, rfl⟩ ⟨lk_, (SubM.of (.keep rfl rfl (.refl _) (.nil _)) (.nil _))⟩
        ·rw [or_ff (show (decide (x1.2.1 < 0)) = false from (decide_eq_false hp187))] at h
         refine xsetB 48 (decide_eq_false hp187) rfl ?_
         refine vp_ (qv_fieldAddrB FldC.h rfl) ?_
         refine v_ (qv_loadB 0 ShpC.h rfl rfl rfl rfl) ?_
         refine mv_ ?_
         refine vp_ (pv_bin2 rfl rfl rfl) ?_
         refine pk_ ?_
         refine pk_ ?_
         refine pk_ ?_
         refine mv_ ?_
         by_cases hp189 : x2 ≤ x1.2.1
         ·rw [or_tt (show (decide (x2 ≤ x1.2.1)) = true from (decide_eq_true hp189))] at h
          refine xsetB 56 (decide_eq_true hp189) rfl ?_
          refine sk_ ?_
          refine sk_ ?_
          refine sk_ ?_
          refine sk_ ?_
          refine sk_ ?_
          refine sk_ ?_
          refine sk_ ?_
          refine pk_ ?_
          refine mv_ ?_
          refine sk_ ?_
          refine sk_ ?_
          refine sk_ ?_
          refine sk_ ?_
          refine sk_ ?_
          refine sk_ ?_
          refine sk_ ?_
          refine sk_ ?_
          refine sk_ ?_
          refine sk_ ?_
          refine sk_ ?_
          refine sk_ ?_
          refine pk_ ?_
          refine mv_ ?_
          refine sk_ ?_
          refine sk_ ?_
          refine sk_ ?_
          refine sk_ ?_
          refine sk_ ?_
          refine sk_ ?_
          refine sk_ ?_
          refine pk_ ?_
          refine xnil ?_
          exact xmeet ⟨true, h, rfl⟩ ⟨lk_, (SubM.of (.keep rfl rfl (.refl _) (.nil _)) (.nil _))⟩
         ·rw [or_ff (show (decide (x2 ≤ x1.2.1)) = false from (decide_eq_false hp189))] at h
          refine xsetB 56 (decide_eq_false hp189) rfl ?_
          refine mv_ ?_
          refine vp_ (pv_not rfl) ?_
          refine mv_ ?_
          by_cases hp190 : ¬ (x7 = true)
          ·rw [cond_tt (show (!x7) = true from (not_t (b_f hp190)))] at h
           refine xsetB 59 (not_t (b_f hp190)) rfl ?_
           refine vp_ (qv_fieldAddrB FldC.h rfl) ?_
           refine v_ (qv_loadB 0 ShpC.h rfl rfl rfl rfl) ?_
           refine vp_ (pv_bin2 rfl rfl rfl) ?_
           refine pk_ ?_
           refine pk_ ?_
           refine mv_ ?_
           by_cases hp192 : ¬ (x1.2.1 = 0)
           ·rw [or_tt (show (!(decide (x1.2.1 = 0))) = true from (not_t (decide_eq_false hp192)))] at h
            refine xsetB 65 (not_t (decide_eq_false hp192)) rfl ?_
            refine sk_ ?_
            refine sk_ ?_
            refine sk_ ?_
            refine sk_ ?_
            refine sk_ ?_
            refine sk_ ?_
            refine sk_ ?_
            refine sk_ ?_
            refine sk_ ?_
            refine sk_ ?_
            refine sk_ ?_
            refine sk_ ?_
            refine pk_ ?_
            refine mv_ ?_
            refine sk_ ?_
            refine sk_ ?_
            refine sk_ ?_
            refine sk_ ?_
            refine sk_ ?_
            refine sk_ ?_
            refine sk_ ?_
            refine pk_ ?_
            refine xnil ?_
            exact xmeet ⟨true, h, rfl⟩ ⟨lk_, (SubM.of (.keep rfl rfl (.refl _) (.nil _)) (.nil _))⟩
           ·rw [or_ff (show (!(decide (x1.2.1 = 0))) = false from (not_f (decide_eq_true (Decidable.of_not_not hp192))))] at h
            refine xsetB 65 (not_f (decide_eq_true (Decidable.of_not_not hp192))) rfl ?_
            refine mv_ ?_
            refine mv_ ?_
            by_cases hp193 : x14 = true
            ·rw [cond_tt (show x14 = true from hp193)] at h
             refine xsetB 67 hp193 rfl ?_
             refine vp_ (qv_fieldAddrB FldC.h rfl) ?_
             refine v_ (qv_loadB 0 ShpC.h rfl rfl rfl rfl) ?_
             refine vp_ (pv_bin2 rfl rfl rfl) ?_
             refine mv_ ?_
             by_cases hp195 : x1.2.2.1 < 0
             ·rw [or_tt (show (decide (x1.2.2.1 < 0)) = true from (decide_eq_true hp195))] at h
              refine xsetB 71 (decide_eq_true hp195) rfl ?_
              refine sk_ ?_
              refine sk_ ?_
              refine sk_ ?_
              refine sk_ ?_
              refine pk_ ?_
              refine pk_ ?_
              refine pk_ ?_
              refine mv_ ?_
              refine sk_ ?_
              refine sk_ ?_
              refine sk_ ?_
              refine sk_ ?_
              refine sk_ ?_
              refine sk_ ?_
              refine sk_ ?_
              refine pk_ ?_
              refine xnil ?_
              exact xmeet ⟨true, h, rfl⟩ ⟨lk_, (SubM.of (.keep rfl rfl (.refl _) (.nil _)) (.nil _))⟩
             ·rw [or_ff (show (decide (x1.2.2.1 < 0)) = false from (decide_eq_false hp195))] at h
              refine xsetB 71 (decide_eq_false hp195) rfl ?_
              refine vp_ (qv_fieldAddrB FldC.h rfl) ?_
              refine v_ (qv_loadB 0 ShpC.h rfl rfl rfl rfl) ?_
              refine mv_ ?_
              refine vp_ (pv_bin2 rfl rfl rfl) ?_
              refine pk_ ?_
              refine pk_ ?_
              refine pk_ ?_
              refine mv_ ?_
              by_cases hp197 : x2 ≤ x1.2.2.1
              ·rw [or_tt (show (decide (x2 ≤ x1.2.2.1)) = true from (decide_eq_true hp197))] at h
               refine xsetB 79 (decide_eq_true hp197) rfl ?_
               refine sk_ ?_
               refine sk_ ?_
               refine sk_ ?_
               refine sk_ ?_
               refine sk_ ?_
               refine sk_ ?_
               refine sk_ ?_
               refine pk_ ?_
               refine xnil ?_
               exact xmeet ⟨true, h, rfl⟩ ⟨lk_, (SubM.of (.keep rfl rfl (.refl _) (.nil _)) (.nil _))⟩
              ·rw [or_ff (show (decide (x2 ≤ x1.2.2.1)) = false from (decide_eq_false hp197))] at h
               refine xsetB 79 (decide_eq_false hp197) rfl ?_
               refine mv_ ?_
               refine vp_ (pv_not rfl) ?_
               refine mv_ ?_
               by_cases hp198 : ¬ (x14 = true)
               ·rw [and_tt (show (!x14) = true from (not_t (b_f hp198)))] at h
                refine xsetB 82 (not_t (b_f hp198)) rfl ?_
                refine vp_ (qv_fieldAddrB FldC.h rfl) ?_
                refine v_ (qv_loadB 0 ShpC.h rfl rfl rfl rfl) ?_
                refine vp_ (pv_bin2 rfl rfl rfl) ?_
                refine pk_ ?_
                refine pk_ ?_
                refine xnil ?_
                exact xmeet ⟨(!(decide (x1.2.2.1 = 0))), h, rfl⟩ ⟨lk_, (SubM.of (.keep rfl rfl (.refl _) (.nil _)) (.nil _))⟩
               ·rw [and_ff (show (!x14) = false from (not_f (Decidable.of_not_not hp198)))] at h
                refine xsetB 82 (not_f (Decidable.of_not_not hp198)) rfl ?_
                refine sk_ ?_
                refine sk_ ?_
                refine sk_ ?_
                refine pk_ ?_
                refine pk_ ?_
                refine xnil ?_
                exact xmeet ⟨false, h, rfl⟩ ⟨lk_, (SubM.of (.keep rfl rfl (.refl _) (.nil _)) (.nil _))⟩
            ·rw [cond_ff (show x14 = false from (b_f hp193))] at h
             refine xsetB 67 (b_f hp193) rfl ?_
             refine sk_ ?_
             refine sk_ ?_
             refine sk_ ?_
             refine sk_ ?_
             refine sk_ ?_
             refine sk_ ?_
             refine sk_ ?_
             refine sk_ ?_
             refine sk_ ?_
             refine pk_ ?_
             refine pk_ ?_
             refine mv_ ?_
             refine mv_ ?_
             refine vp_ (pv_not rfl) ?_
             refine mv_ ?_
             by_cases hp200 : ¬ (x14 = true)
             ·rw [and_tt (show (!x14) = true from (not_t (b_f hp200)))] at h
              refine xsetB 82 (not_t (b_f hp200)) rfl ?_
              refine vp_ (qv_fieldAddrB FldC.h rfl) ?_
              refine v_ (qv_loadB 0 ShpC.h rfl rfl rfl rfl) ?_
              refine vp_ (pv_bin2 rfl rfl rfl) ?_
              refine pk_ ?_
              refine pk_ ?_
              refine xnil ?_
              exact xmeet ⟨(!(decide (x1.2.2.1 = 0))), h, rfl⟩ ⟨lk_, (SubM.of (.keep rfl rfl (.refl _) (.nil _)) (.nil _))⟩
             ·rw [and_ff (show (!x14) = false from (not_f (Decidable.of_not_not hp200)))] at h
              refine xsetB 82 (not_f (Decidable.of_not_not hp200)) rfl ?_
              refine sk_ ?_
              refine sk_ ?_
              refine sk_ ?_
              refine pk_ ?_
              refine pk_ ?_
              refine xnil ?_
              exact xmeet ⟨false, h, rfl⟩ ⟨lk_, (SubM.of (.keep rfl rfl (.refl _) (.nil _)) (.nil _))⟩
          ·rw [cond_ff (show (!x7) = false from (not_f (Decidable.of_not_not hp190)))] at h
           refine xsetB 59 (not_f (Decidable.of_not_not hp190)) rfl ?_
           refine sk_ ?_
           refine sk_ ?_
           refine sk_ ?_
           refine pk_ ?_
           refine pk_ ?_
           refine mv_ ?_
           refine mv_ ?_
           refine mv_ ?_
           by_cases hp202 : x14 = true
           ·rw [cond_tt (show x14 = true from hp202)] at h
            refine xsetB 67 hp202 rfl ?_
            refine vp_ (qv_fieldAddrB FldC.h rfl) ?_
            refine v_ (qv_loadB 0 ShpC.h rfl rfl rfl rfl) ?_
            refine vp_ (pv_bin2 rfl rfl rfl) ?_
            refine mv_ ?_
            by_cases hp204 : x1.2.2.1 < 0
            ·rw [or_tt (show (decide (x1.2.2.1 < 0)) = true from (decide_eq_true hp204))] at h
             refine xsetB 71 (decide_eq_true hp204) rfl ?_
             refine sk_ ?_
             refine sk_ ?_
             refine sk_ ?_
             refine sk_ ?_
             refine pk_ ?_
             refine pk_ ?_
             refine pk_ ?_
             refine mv_ ?_
             refine sk_ ?_
             refine sk_ ?_
             refine sk_ ?_
             refine sk_ ?_
             refine sk_ ?_
             refine sk_ ?_
             refine sk_ ?_
             refine pk_ ?_
             refine xnil ?_
             exact xmeet ⟨true, h, rfl⟩ ⟨lk_, (SubM.of (.keep rfl rfl (.refl _) (.nil _)) (.nil _))⟩
            ·rw [or_ff (show (decide (x1.2.2.1 < 0)) = false from (decide_eq_false hp204))] at h
             refine xsetB 71 (decide_eq_false hp204) rfl ?_
             refine vp_ (qv_fieldAddrB FldC.h rfl) ?_
             refine v_ (qv_loadB 0 ShpC.h rfl rfl rfl rfl) ?_
             refine mv_ ?_
             refine vp_ (pv_bin2 rfl rfl rfl) ?_
             refine pk_ ?_
             refine pk_ ?_
             refine pk_ ?_
             refine mv_ ?_
             by_cases hp206 : x2 ≤ x1.2.2.1
             ·rw [or_tt (show (decide (x2 ≤ x1.2.2.1)) = true from (decide_eq_true hp206))] at h
              refine xsetB 79 (decide_eq_true hp206) rfl ?_
              refine sk_ ?_
              refine sk_ ?_
              refine sk_ ?_
              refine sk_ ?_
              refine sk_ ?_
              refine sk_ ?_
              refine sk_ ?_
              refine pk_ ?_
              refine xnil ?_
              exact xmeet ⟨true, h, rfl⟩ ⟨lk_, (SubM.of (.keep rfl rfl (.refl _) (.nil _)) (.nil _))⟩
             ·rw [or_ff (show (decide (x2 ≤ x1.2.2.1)) = false from (decide_eq_false hp206))] at h
              refine xsetB 79 (decide_eq_false hp206) rfl ?_
              refine mv_ ?_
              refine vp_ (pv_not rfl) ?_
              refine mv_ ?_
              by_cases hp207 : ¬ (x14 = true)
              ·rw [and_tt (show (!x14) = true from (not_t (b_f hp207)))] at h
               refine xsetB 82 (not_t (b_f hp207)) rfl ?_
               refine vp_ (qv_fieldAddrB FldC.h rfl) ?_
               refine v_ (qv_loadB 0 ShpC.h rfl rfl rfl rfl) ?_
               refine vp_ (pv_bin2 rfl rfl rfl) ?_
               refine pk_ ?_
               refine pk_ ?_
               refine xnil ?_
               exact xmeet ⟨(!(decide (x1.2.2.1 = 0))), h, rfl⟩ ⟨lk_, (SubM.of (.keep rfl rfl (.refl _) (.nil _)) (.nil _))⟩
              ·rw [and_ff (show (!x14) = false from (not_f (Decidable.of_not_not hp207)))] at h
               refine xsetB 82 (not_f (Decidable.of_not_not hp207)) rfl ?_
               refine sk_ ?_
               refine sk_ ?_
               refine sk_ ?_
               refine pk_ ?_
               refine pk_ ?_
               refine xnil ?_
               exact xmeet ⟨false, h, rfl⟩ ⟨lk_, (SubM.of (.keep rfl rfl (.refl _) (.nil _)) (.nil _))⟩
           ·rw [cond_ff (show x14 = false from (b_f hp202))] at h
            refine xsetB 67 (b_f hp202) rfl ?_
            refine sk_ ?_
            refine sk_ ?_
            refine sk_ ?_
            refine sk_ ?_
            refine sk_ ?_
            refine sk_ ?_
            refine sk_ ?_
            refine sk_ ?_
            refine sk_ ?_
            refine pk_ ?_
            refine pk_ ?_
            refine mv_ ?_
            refine mv_ ?_
            refine vp_ (pv_not rfl) ?_
            refine mv_ ?_
            by_cases hp209 : ¬ (x14 = true)
            ·rw [and_tt (show (!x14) = true from (not_t (b_f hp209)))] at h
             refine xsetB 82 (not_t (b_f hp209)) rfl ?_
             refine vp_ (qv_fieldAddrB FldC.h rfl) ?_
             refine v_ (qv_loadB 0 ShpC.h rfl rfl rfl rfl) ?_
             refine vp_ (pv_bin2 rfl rfl rfl) ?_
             refine pk_ ?_
             refine pk_ ?_
             refine xnil ?_
             exact xmeet ⟨(!(decide (x1.2.2.1 = 0))), h, rfl⟩ ⟨lk_, (SubM.of (.keep rfl rfl (.refl _) (.nil _)) (.nil _))⟩
            ·rw [and_ff (show (!x14) = false from (not_f (Decidable.of_not_not hp209)))] at h
             refine xsetB 82 (not_f (Decidable.of_not_not hp209)) rfl ?_
             refine sk_ ?_
             refine sk_ ?_
             refine sk_ ?_
             refine pk_ ?_
             refine pk_ ?_
             refine xnil ?_
             exact xmeet ⟨false, h, rfl⟩ ⟨lk_, (SubM.of (.keep rfl rfl (.refl _) (.nil _)) (.nil _))⟩
       ·rw [cond_ff (show x7 = false from (b_f hp185))] at h
        refine xsetB 44 (b_f hp185) rfl ?_
        refine sk_ ?_
        refine sk_ ?_
        refine sk_ ?_
        refine sk_ ?_
        refine sk_ ?_
        refine sk_ ?_
        refine sk_ ?_
        refine sk_ ?_
        refine sk_ ?_
        refine pk_ ?_
        refine pk_ ?_
        refine mv_ ?_
        refine mv_ ?_
        refine vp_ (pv_not rfl) ?_
        refine mv_ ?_
        by_cases hp211 : ¬ (x7 = true)
        ·rw [cond_tt (show (!x7) = true from (not_t (b_f hp211)))] at h
         refine xsetB 59 (not_t (b_f hp211)) rfl ?_
         refine vp_ (qv_fieldAddrB FldC.h rfl) ?_
         refine v_ (qv_loadB 0 ShpC.h rfl rfl rfl rfl) ?_
         refine vp_ (pv_bin2 rfl rfl rfl) ?_
         refine pk_ ?_
         refine pk_ ?_
         refine mv_ ?_
         by_cases hp213 : ¬ (x1.2.1 = 0)
         ·rw [or_tt (show (!(decide (x1.2.1 = 0))) = true from (not_t (decide_eq_false hp213)))] at h
          refine xsetB 65 (not_t (decide_eq_false hp213)) rfl ?_
          refine sk_ ?_
          refine sk_ ?_
          refine sk_ ?_
          refine sk_ ?_
          refine sk_ ?_
          refine sk_ ?_
          refine sk_ ?_
          refine sk_ ?_
          refine sk_ ?_
          refine sk_ ?_
          refine sk_ ?_
          refine sk_ ?_
          refine pk_ ?_
          refine mv_ ?_
          refine sk_ ?_
          refine sk_ ?_
          refine sk_ ?_
          refine sk_ ?_
          refine sk_ ?_
          refine sk_ ?_
          refine sk_ ?_
          refine pk_ ?_
          refine xnil ?_
          exact xmeet ⟨true, h, rfl⟩ ⟨lk_, (SubM.of (.keep rfl rfl (.refl _) (.nil _)) (.nil _))⟩
         ·rw [or_ff (show (!(decide (x1.2.1 = 0))) = false from (not_f (decide_eq_true (Decidable.of_not_not hp213))))] at h
          refine xsetB 65 (not_f (decide_eq_true (Decidable.of_not_not hp213))) rfl ?_
          refine mv_ ?_
          refine mv_ ?_
          by_cases hp214 : x14 = true
          ·rw [cond_tt (show x14 = true from hp214)] at h
           refine xsetB 67 hp214 rfl ?_
           refine vp_ (qv_fieldAddrB FldC.h rfl) ?_
           refine v_ (qv_loadB 0 ShpC.h rfl rfl rfl rfl) ?_
           refine vp_ (pv_bin2 rfl rfl rfl) ?_
           refine mv_ ?_
           by_cases hp216 : x1.2.2.1 < 0
           ·rw [or_tt (show (decide (x1.2.2.1 < 0)) = true from (decide_eq_true hp216))] at h
            refine xsetB 71 (decide_eq_true hp216) rfl ?_
            refine sk_ ?_
            refine sk_ ?_
            refine sk_ ?_
            refine sk_ ?_
            refine pk_ ?_
            refine pk_ ?_
            refine pk_ ?_
            refine mv_ ?_
            refine sk_ ?_
            refine sk_ ?_
            refine sk_ ?_
            refine sk_ ?_
            refine sk_ ?_
            refine sk_ ?_
            refine sk_ ?_
            refine pk_ ?_
            refine xnil ?_
            exact xmeet ⟨true, h, rfl⟩ ⟨lk_, (SubM.of (.keep rfl rfl (.refl _) (.nil _)) (.nil _))⟩
           ·rw [or_ff (show (decide (x1.2.2.1 < 0)) = false from (decide_eq_false hp216))] at h
            refine xsetB 71 (decide_eq_false hp216) rfl ?_
            refine vp_ (qv_fieldAddrB FldC.h rfl) ?_
            refine v_ (qv_loadB 0 ShpC.h rfl rfl rfl rfl) ?_
            refine mv_ ?_
            refine vp_ (pv_bin2 rfl rfl rfl) ?_
            refine pk_ ?_
            refine pk_ ?_
            refine pk_ ?_
            refine mv_ ?_
            by_cases hp218 : x2 ≤ x1.2.2.1
            ·rw [or_tt (show (decide (x2 ≤ x1.2.2.1)) = true from (decide_eq_true hp218))] at h
             refine xsetB 79 (decide_eq_true hp218) rfl ?_
             refine sk_ ?_
             refine sk_ ?_
             refine sk_ ?_
             refine sk_ ?_
             refine sk_ ?_
             refine sk_ ?_
             refine sk_ ?_
             refine pk_ ?_
             refine xnil ?_
             exact xmeet ⟨true, h, rfl⟩ ⟨lk_, (SubM.of (.keep rfl rfl (.refl _) (.nil _)) (.nil _))⟩
            ·rw [or_ff (show (decide (x2 ≤ x1.2.2.1)) = false from (decide_eq_false hp218))] at h
             refine xsetB 79 (decide_eq_false hp218) rfl ?_
             refine mv_ ?_
             refine vp_ (pv_not rfl) ?_
             refine mv_ ?_
             by_cases hp219 : ¬ (x14 = true)
             ·rw [and_tt (show (!x14) = true from (not_t (b_f hp219)))] at h
              refine xsetB 82 (not_t (b_f hp219)) rfl ?_
              refine vp_ (qv_fieldAddrB FldC.h rfl) ?_
              refine v_ (qv_loadB 0 ShpC.h rfl rfl rfl rfl) ?_
              refine vp_ (pv_bin2 rfl rfl rfl) ?_
              refine pk_ ?_
              refine pk_ ?_
              refine xnil ?_
              exact xmeet ⟨(!(decide (x1.2.2.1 = 0))), h, rfl⟩ ⟨lk_, (SubM.of (.keep rfl rfl (.refl _) (.nil _)) (.nil _))⟩
             ·rw [and_ff (show (!x14) = false from (not_f (Decidable.of_not_not hp219)))] at h
              refine xsetB 82 (not_f (Decidable.of_not_not hp219)) rfl ?_
              refine sk_ ?_
              refine sk_ ?_
              refine sk_ ?_
              refine pk_ ?_
              refine pk_ ?_
              refine xnil ?_
              exact xmeet ⟨false, h, rfl⟩ ⟨lk_, (SubM.of (.keep rfl rfl (.refl _) (.nil _)) (.nil _))⟩
          ·rw [cond_ff (show x14 = false from (b_f hp214))] at h
           refine xsetB 67 (b_f hp214) rfl ?_
           refine sk_ ?_
           refine sk_ ?_
           refine sk_ ?_
           refine sk_ ?_
           refine sk_ ?_
           refine sk_ ?_
           refine sk_ ?_
           refine sk_ ?_
           refine sk_ ?_
           refine pk_ ?_
           refine pk_ ?_
           refine mv_ ?_
           refine mv_ ?_
           refine vp_ (pv_not rfl) ?_
           refine mv_ ?_
           by_cases hp221 : ¬ (x14 = true)
           ·rw [and_tt (show (!x14) = true from (not_t (b_f hp221)))] at h
            refine xsetB 82 (not_t (b_f hp221)) rfl ?_
            refine vp_ (qv_fieldAddrB FldC.h rfl) ?_
            refine v_ (qv_loadB 0 ShpC.h rfl rfl rfl rfl) ?_
            refine vp_ (pv_bin2 rfl rfl rfl) ?_
            refine pk_ ?_
            refine pk_ ?_
            refine xnil ?_
            exact xmeet ⟨(!(decide (x1.2.2.1 = 0))), h, rfl⟩ ⟨lk_, (SubM.of (.keep rfl rfl (.refl _) (.nil _)) (.nil _))⟩
           ·rw [and_ff (show (!x14) = false from (not_f (Decidable.of_not_not hp221)))] at h
            refine xsetB 82 (not_f (Decidable.of_not_not hp221)) rfl ?_
            refine sk_ ?_
            refine sk_ ?_
            refine sk_ ?_
            refine pk_ ?_
            refine pk_ ?_
            refine xnil ?_
            exact xmeet ⟨false, h, rfl⟩ ⟨lk_, (SubM.of (.keep rfl rfl (.refl _) (.nil _)) (.nil _))⟩
        ·rw [cond_ff (show (!x7) = false from (not_f (Decidable.of_not_not hp211)))] at h
         refine xsetB 59 (not_f (Decidable.of_not_not hp211)) rfl ?_
         refine sk_ ?_
         refine sk_ ?_
         refine sk_ ?_
         refine pk_ ?_
         refine pk_ ?_
         refine mv_ ?_
         refine mv_ ?_
         refine mv_ ?_
         by_cases hp223 : x14 = true
         ·rw [cond_tt (show x14 = true from hp223)] at h
          refine xsetB 67 hp223 rfl ?_
          refine vp_ (qv_fieldAddrB FldC.h rfl) ?_
          refine v_ (qv_loadB 0 ShpC.h rfl rfl rfl rfl) ?_
          refine vp_ (pv_bin2 rfl rfl rfl) ?_
          refine mv_ ?_
          by_cases hp225 : x1.2.2.1 < 0
          ·rw [or_tt (show (decide (x1.2.2.1 < 0)) = true from (decide_eq_true hp225))] at h
           refine xsetB 71 (decide_eq_true hp225) rfl ?_
           refine sk_ ?_
           refine sk_ ?_
           refine sk_ ?_
           refine sk_ ?_
           refine pk_ ?_
           refine pk_ ?_
           refine pk_ ?_
           refine mv_ ?_
           refine sk_ ?_
           refine sk_ ?_
           refine sk_ ?_
           refine sk_ ?_
           refine sk_ ?_
           refine sk_ ?_
           refine sk_ ?_
           refine pk_ ?_
           refine xnil ?_
           exact xmeet ⟨true, h, rfl⟩ ⟨lk_, (SubM.of (.keep rfl rfl (.refl _) (.nil _)) (.nil _))⟩
          ·rw [or_ff (show (decide (x1.2.2.1 < 0)) = false from (decide_eq_false hp225))] at h
           refine xsetB 71 (decide_eq_false hp225) rfl ?_
           refine vp_ (qv_fieldAddrB FldC.h rfl) ?_
           refine v_ (qv_loadB 0 ShpC.h rfl rfl rfl rfl) ?_
           refine mv_ ?_
           refine vp_ (pv_bin2 rfl rfl rfl) ?_
           refine pk_ ?_
           refine pk_ ?_
           refine pk_ ?_
           refine mv_ ?_
           by_cases hp227 : x2 ≤ x1.2.2.1
           ·rw [or_tt (show (decide (x2 ≤ x1.2.2.1)) = true from (decide_eq_true hp227))] at h
            refine xsetB 79 (decide_eq_true hp227) rfl ?_
            refine sk_ ?_
            refine sk_ ?_
            refine sk_ ?_
            refine sk_ ?_
            refine sk_ ?_
            refine sk_ ?_
            refine sk_ ?_
            refine pk_ ?_
            refine xnil ?_
            exact xmeet ⟨true, h, rfl⟩ ⟨lk_, (SubM.of (.keep rfl rfl (.refl _) (.nil _)) (.nil _))⟩
           ·rw [or_ff (show (decide (x2 ≤ x1.2.2.1)) = false from (decide_eq_false hp227))] at h
            refine xsetB 79 (decide_eq_false hp227) rfl ?_
            refine mv_ ?_
            refine vp_ (pv_not rfl) ?_
            refine mv_ ?_
            by_cases hp228 : ¬ (x14 = true)
            ·rw [and_tt (show (!x14) = true from (not_t (b_f hp228)))] at h
             refine xsetB 82 (not_t (b_f hp228)) rfl ?_
             refine vp_ (qv_fieldAddrB FldC.h rfl) ?_
             refine v_ (qv_loadB 0 ShpC.h rfl rfl rfl rfl) ?_
             refine vp_ (pv_bin2 rfl rfl rfl) ?_
             refine pk_ ?_
             refine pk_ ?_
             refine xnil ?_
             exact xmeet ⟨(!(decide (x1.2.2.1 = 0))), h, rfl⟩ ⟨lk_, (SubM.of (.keep rfl rfl (.refl _) (.nil _)) (.nil _))⟩
            ·rw [and_ff (show (!x14) = false from (not_f (Decidable.of_not_not hp228)))] at h
             refine xsetB 82 (not_f (Decidable.of_not_not hp228)) rfl ?_
             refine sk_ ?_
             refine sk_ ?_
             refine sk_ ?_
             refine pk_ ?_
             refine pk_ ?_
             refine xnil ?_
             exact xmeet ⟨false, h, rfl⟩ ⟨lk_, (SubM.of (.keep rfl rfl (.refl _) (.nil _)) (.nil _))⟩
         ·rw [cond_ff (show x14 = false from (b_f hp223))] at h
          refine xsetB 67 (b_f hp223) rfl ?_
          refine sk_ ?_
          refine sk_ ?_
          refine sk_ ?_
          refine sk_ ?_
          refine sk_ ?_
          refine sk_ ?_
          refine sk_ ?_
          refine sk_ ?_
          refine sk_ ?_
          refine pk_ ?_
          refine pk_ ?_
          refine mv_ ?_
          refine mv_ ?_
          refine vp_ (pv_not rfl) ?_
          refine mv_ ?_
          by_cases hp230 : ¬ (x14 = true)
          ·rw [and_tt (show (!x14) = true from (not_t (b_f hp230)))] at h
           refine xsetB 82 (not_t (b_f hp230)) rfl ?_
           refine vp_ (qv_fieldAddrB FldC.h rfl) ?_
           refine v_ (qv_loadB 0 ShpC.h rfl rfl rfl rfl) ?_
           refine vp_ (pv_bin2 rfl rfl rfl) ?_
           refine pk_ ?_
           refine pk_ ?_
           refine xnil ?_
           exact xmeet ⟨(!(decide (x1.2.2.1 = 0))), h, rfl⟩ ⟨lk_, (SubM.of (.keep rfl rfl (.refl _) (.nil _)) (.nil _))⟩
          ·rw [and_ff (show (!x14) = false from (not_f (Decidable.of_not_not hp230)))] at h
           refine xsetB 82 (not_f (Decidable.of_not_not hp230)) rfl ?_
           refine sk_ ?_
           refine sk_ ?_
           refine sk_ ?_
           refine pk_ ?_
           refine pk_ ?_
           refine xnil ?_
           exact xmeet ⟨false, h, rfl⟩ ⟨lk_, (SubM.of (.keep rfl rfl (.refl _) (.nil _)) (.nil _))⟩
    ·clear h
     rintro _ ⟨x180, h, rfl⟩
     by_cases hp232 : x180 = true
     ·replace h := h.1 hp232
      refine xcondT' hp232 rfl ?_
      refine sr_ ?_
      refine as_ ?_
      refine nt_ ?_
      refine xretc ?_
      refine xthen_ret ?_
      replace h := h.symm
      subst h
      exact xret1 hg rfl rfl (.refl _) (SubM.of (.nil _) (.nil _)) ⟨rfl, rfl, rfl⟩
     ·replace h := h.2 hp232
      refine xcondF' (b_f hp232) rfl ?_
      refine xskipc ?_
      refine xthen ?_
      refine xseq ?_
      refine xseqM (fun σ => ∃ (x304 : Bool), palinoderef06_may_j5 x1 x304 r ∧ σ = ⟨[(3, .v (.pointer (some ⟨b3, 0, none⟩))), (119, .v (.bool x304))], [⟨b3, 45, ([.v (.int .i64 x1.1), .v (.int .i64 x1.2.1), .v (.int .i64 x1.2.2.1), .v (.int .i64 x1.2.2.2.1), .v (.int .i64 x1.2.2.2.2.1), .v (.int .i64 x1.2.2.2.2.2.1)] ++ (List.map ew x1.2.2.2.2.2.2.l).flatten)⟩], []⟩) ?_ ?_
      ·refine xregion ?_
       refine mv_ ?_
       refine mv_ ?_
       by_cases hp305 : x21 = true
       ·rw [cond_tt (show x21 = true from hp305)] at h
        refine xsetB 89 hp305 rfl ?_
        refine vp_ (qv_fieldAddrB FldC.h rfl) ?_
        refine v_ (qv_loadB 0 ShpC.h rfl rfl rfl rfl) ?_
        refine vp_ (pv_bin2 rfl rfl rfl) ?_
        refine mv_ ?_
        by_cases hp307 : x1.2.2.2.2.2.1 < 1
        ·rw [or_tt (show (decide (x1.2.2.2.2.2.1 < 1)) = true from (decide_eq_true hp307))] at h
         refine xsetB 93 (decide_eq_true hp307) rfl ?_
         refine sk_ ?_
         refine sk_ ?_
         refine sk_ ?_
         refine sk_ ?_
         refine pk_ ?_
         refine pk_ ?_
         refine mv_ ?_
         refine sk_ ?_
         refine sk_ ?_
         refine sk_ ?_
         refine sk_ ?_
         refine sk_ ?_
         refine sk_ ?_
         refine sk_ ?_
         refine pk_ ?_
         refine mv_ ?_
         refine sk_ ?_
         refine sk_ ?_
         refine sk_ ?_
         refine sk_ ?_
         refine sk_ ?_
         refine sk_ ?_
         refine sk_ ?_
         refine sk_ ?_
         refine sk_ ?_
         refine pk_ ?_
         refine xnil ?_
         exact xmeet ⟨true, h, rfl⟩ ⟨lk_, (SubM.of (.keep rfl rfl (.refl _) (.nil _)) (.nil _))⟩
        ·rw [or_ff (show (decide (x1.2.2.2.2.2.1 < 1)) = false from (decide_eq_false hp307))] at h
         refine xsetB 93 (decide_eq_false hp307) rfl ?_
         refine vp_ (qv_fieldAddrB FldC.h rfl) ?_
         refine v_ (qv_loadB 0 ShpC.h rfl rfl rfl rfl) ?_
         refine mv_ ?_
         refine vp_ (pv_bin2 rfl rfl rfl) ?_
         refine pk_ ?_
         refine pk_ ?_
         refine mv_ ?_
         by_cases hp309 : x3 < x1.2.2.2.2.2.1
         ·rw [or_tt (show (decide (x3 < x1.2.2.2.2.2.1)) = true from (decide_eq_true hp309))] at h
          refine xsetB 100 (decide_eq_true hp309) rfl ?_
          refine sk_ ?_
          refine sk_ ?_
          refine sk_ ?_
          refine sk_ ?_
          refine sk_ ?_
          refine sk_ ?_
          refine sk_ ?_
          refine pk_ ?_
          refine mv_ ?_
          refine sk_ ?_
          refine sk_ ?_
          refine sk_ ?_
          refine sk_ ?_
          refine sk_ ?_
          refine sk_ ?_
          refine sk_ ?_
          refine sk_ ?_
          refine sk_ ?_
          refine pk_ ?_
          refine xnil ?_
          exact xmeet ⟨true, h, rfl⟩ ⟨lk_, (SubM.of (.keep rfl rfl (.refl _) (.nil _)) (.nil _))⟩
         ·rw [or_ff (show (decide (x3 < x1.2.2.2.2.2.1)) = false from (decide_eq_false hp309))] at h
          refine xsetB 100 (decide_eq_false hp309) rfl ?_
          refine mv_ ?_
          refine vp_ (pv_not rfl) ?_
          refine mv_ ?_
          by_cases hp310 : ¬ (x21 = true)
          ·rw [cond_tt (show (!x21) = true from (not_t (b_f hp310)))] at h
           refine xsetB 103 (not_t (b_f hp310)) rfl ?_
           refine vp_ (qv_fieldAddrB FldC.h rfl) ?_
           refine v_ (qv_loadB 0 ShpC.h rfl rfl rfl rfl) ?_
           refine vp_ (pv_bin2 rfl rfl rfl) ?_
           refine pk_ ?_
           refine pk_ ?_
           refine mv_ ?_
           by_cases hp312 : ¬ (x1.2.2.2.2.2.1 = 0)
           ·rw [or_tt (show (!(decide (x1.2.2.2.2.2.1 = 0))) = true from (not_t (decide_eq_false hp312)))] at h
            refine xsetB 109 (not_t (decide_eq_false hp312)) rfl ?_
            refine sk_ ?_
            refine sk_ ?_
            refine sk_ ?_
            refine sk_ ?_
            refine sk_ ?_
            refine sk_ ?_
            refine sk_ ?_
            refine sk_ ?_
            refine sk_ ?_
            refine pk_ ?_
            refine xnil ?_
            exact xmeet ⟨true, h, rfl⟩ ⟨lk_, (SubM.of (.keep rfl rfl (.refl _) (.nil _)) (.nil _))⟩
           ·rw [or_ff (show (!(decide (x1.2.2.2.2.2.1 = 0))) = false from (not_f (decide_eq_true (Decidable.of_not_not hp312))))] at h
            refine xsetB 109 (not_f (decide_eq_true (Decidable.of_not_not hp312))) rfl ?_
            refine vp_ (qv_fieldAddrB FldC.h rfl) ?_
            refine v_ (qv_loadB 0 ShpC.h rfl rfl rfl rfl) ?_
            refine vp_ (pv_bin2 rfl rfl rfl) ?_
            refine mv_ ?_
            by_cases hp314 : ¬ (x1.1 = 1)
            ·rw [and_tt (show (!(decide (x1.1 = 1))) = true from (not_t (decide_eq_false hp314)))] at h
             refine xsetB 113 (not_t (decide_eq_false hp314)) rfl ?_
             refine vp_ (qv_fieldAddrB FldC.h rfl) ?_
             refine v_ (qv_loadP 0 [.v (.int .i64 x1.1), .v (.int .i64 x1.2.1), .v (.int .i64 x1.2.2.1), .v (.int .i64 x1.2.2.2.1), .v (.int .i64 x1.2.2.2.2.1), .v (.int .i64 x1.2.2.2.2.2.1)] ((List.map ew x1.2.2.2.2.2.2.l).flatten) [] sq_ sl_ sl_ (part_all (seg_lenE (by rfl))) ShpC.h rfl rfl) ?_
             refine vp_ (pv_buildAC (cs := ((List.map ew ((Arr.rep 4 (0 : UInt64))).l).flatten)) UndC.h ShpC.h InfC.h rfl (by rfl)) ?_
             refine vp_ (pv_neAgg (f := E_palinode_api_Set) (a := x1.2.2.2.2.2.2) (b := (Arr.rep 4 (0 : UInt64))) (eqC_arr (t := 43) (e := 41) (f := ew) UndC.h ShpC.h (by kernel_rfl) inferInstance (fun _ => rfl)) (by decide) (by kernel_rfl) ev_ ev_) ?_
             refine pk_ ?_
             refine pk_ ?_
             refine xnil ?_
             exact xmeet ⟨(!(decide ((x1.2.2.2.2.2.2 : Arr 4 (UInt64)) = (Arr.rep 4 (0 : UInt64))))), h, rfl⟩ ⟨lk_, (SubM.of (.keep rfl rfl (.refl _) (.nil _)) (.nil _))⟩
            ·rw [and_ff (show (!(decide (x1.1 = 1))) = false from (not_f (decide_eq_true (Decidable.of_not_not hp314))))] at h
             refine xsetB 113 (not_f (decide_eq_true (Decidable.of_not_not hp314))) rfl ?_
             refine sk_ ?_
             refine sk_ ?_
             refine sk_ ?_
             refine sk_ ?_
             refine pk_ ?_
             refine pk_ ?_
             refine xnil ?_
             exact xmeet ⟨false, h, rfl⟩ ⟨lk_, (SubM.of (.keep rfl rfl (.refl _) (.nil _)) (.nil _))⟩
          ·rw [cond_ff (show (!x21) = false from (not_f (Decidable.of_not_not hp310)))] at h
           refine xsetB 103 (not_f (Decidable.of_not_not hp310)) rfl ?_
           refine sk_ ?_
           refine sk_ ?_
           refine sk_ ?_
           refine pk_ ?_
           refine pk_ ?_
           refine mv_ ?_
           refine vp_ (qv_fieldAddrB FldC.h rfl) ?_
           refine v_ (qv_loadB 0 ShpC.h rfl rfl rfl rfl) ?_
           refine vp_ (pv_bin2 rfl rfl rfl) ?_
           refine mv_ ?_
           by_cases hp317 : ¬ (x1.1 = 1)
           ·rw [and_tt (show (!(decide (x1.1 = 1))) = true from (not_t (decide_eq_false hp317)))] at h
            refine xsetB 113 (not_t (decide_eq_false hp317)) rfl ?_
            refine vp_ (qv_fieldAddrB FldC.h rfl) ?_
            refine v_ (qv_loadP 0 [.v (.int .i64 x1.1), .v (.int .i64 x1.2.1), .v (.int .i64 x1.2.2.1), .v (.int .i64 x1.2.2.2.1), .v (.int .i64 x1.2.2.2.2.1), .v (.int .i64 x1.2.2.2.2.2.1)] ((List.map ew x1.2.2.2.2.2.2.l).flatten) [] sq_ sl_ sl_ (part_all (seg_lenE (by rfl))) ShpC.h rfl rfl) ?_
            refine vp_ (pv_buildAC (cs := ((List.map ew ((Arr.rep 4 (0 : UInt64))).l).flatten)) UndC.h ShpC.h InfC.h rfl (by rfl)) ?_
            refine vp_ (pv_neAgg (f := E_palinode_api_Set) (a := x1.2.2.2.2.2.2) (b := (Arr.rep 4 (0 : UInt64))) (eqC_arr (t := 43) (e := 41) (f := ew) UndC.h ShpC.h (by kernel_rfl) inferInstance (fun _ => rfl)) (by decide) (by kernel_rfl) ev_ ev_) ?_
            refine pk_ ?_
            refine pk_ ?_
            refine xnil ?_
            exact xmeet ⟨(!(decide ((x1.2.2.2.2.2.2 : Arr 4 (UInt64)) = (Arr.rep 4 (0 : UInt64))))), h, rfl⟩ ⟨lk_, (SubM.of (.keep rfl rfl (.refl _) (.nil _)) (.nil _))⟩
           ·rw [and_ff (show (!(decide (x1.1 = 1))) = false from (not_f (decide_eq_true (Decidable.of_not_not hp317))))] at h
            refine xsetB 113 (not_f (decide_eq_true (Decidable.of_not_not hp317))) rfl ?_
            refine sk_ ?_
            refine sk_ ?_
            refine sk_ ?_
            refine sk_ ?_
            refine pk_ ?_
            refine pk_ ?_
            refine xnil ?_
            exact xmeet ⟨false, h, rfl⟩ ⟨lk_, (SubM.of (.keep rfl rfl (.refl _) (.nil _)) (.nil _))⟩
       ·rw [cond_ff (show x21 = false from (b_f hp305))] at h
        refine xsetB 89 (b_f hp305) rfl ?_
        refine sk_ ?_
        refine sk_ ?_
        refine sk_ ?_
        refine sk_ ?_
        refine sk_ ?_
        refine sk_ ?_
        refine sk_ ?_
        refine sk_ ?_
        refine sk_ ?_
        refine pk_ ?_
        refine mv_ ?_
        refine mv_ ?_
        refine vp_ (pv_not rfl) ?_
        refine mv_ ?_
        by_cases hp319 : ¬ (x21 = true)
        ·rw [cond_tt (show (!x21) = true from (not_t (b_f hp319)))] at h
         refine xsetB 103 (not_t (b_f hp319)) rfl ?_
         refine vp_ (qv_fieldAddrB FldC.h rfl) ?_
         refine v_ (qv_loadB 0 ShpC.h rfl rfl rfl rfl) ?_
         refine vp_ (pv_bin2 rfl rfl rfl) ?_
         refine pk_ ?_
         refine pk_ ?_
         refine mv_ ?_
         by_cases hp321 : ¬ (x1.2.2.2.2.2.1 = 0)
         ·rw [or_tt (show (!(decide (x1.2.2.2.2.2.1 = 0))) = true from (not_t (decide_eq_false hp321)))] at h
          refine xsetB 109 (not_t (decide_eq_false hp321)) rfl ?_
          refine sk_ ?_
          refine sk_ ?_
          refine sk_ ?_
          refine sk_ ?_
          refine sk_ ?_
          refine sk_ ?_
          refine sk_ ?_
          refine sk_ ?_
          refine sk_ ?_
          refine pk_ ?_
          refine xnil ?_
          exact xmeet ⟨true, h, rfl⟩ ⟨lk_, (SubM.of (.keep rfl rfl (.refl _) (.nil _)) (.nil _))⟩
         ·rw [or_ff (show (!(decide (x1.2.2.2.2.2.1 = 0))) = false from (not_f (decide_eq_true (Decidable.of_not_not hp321))))] at h
          refine xsetB 109 (not_f (decide_eq_true (Decidable.of_not_not hp321))) rfl ?_
          refine vp_ (qv_fieldAddrB FldC.h rfl) ?_
          refine v_ (qv_loadB 0 ShpC.h rfl rfl rfl rfl) ?_
          refine vp_ (pv_bin2 rfl rfl rfl) ?_
          refine mv_ ?_
          by_cases hp323 : ¬ (x1.1 = 1)
          ·rw [and_tt (show (!(decide (x1.1 = 1))) = true from (not_t (decide_eq_false hp323)))] at h
           refine xsetB 113 (not_t (decide_eq_false hp323)) rfl ?_
           refine vp_ (qv_fieldAddrB FldC.h rfl) ?_
           refine v_ (qv_loadP 0 [.v (.int .i64 x1.1), .v (.int .i64 x1.2.1), .v (.int .i64 x1.2.2.1), .v (.int .i64 x1.2.2.2.1), .v (.int .i64 x1.2.2.2.2.1), .v (.int .i64 x1.2.2.2.2.2.1)] ((List.map ew x1.2.2.2.2.2.2.l).flatten) [] sq_ sl_ sl_ (part_all (seg_lenE (by rfl))) ShpC.h rfl rfl) ?_
           refine vp_ (pv_buildAC (cs := ((List.map ew ((Arr.rep 4 (0 : UInt64))).l).flatten)) UndC.h ShpC.h InfC.h rfl (by rfl)) ?_
           refine vp_ (pv_neAgg (f := E_palinode_api_Set) (a := x1.2.2.2.2.2.2) (b := (Arr.rep 4 (0 : UInt64))) (eqC_arr (t := 43) (e := 41) (f := ew) UndC.h ShpC.h (by kernel_rfl) inferInstance (fun _ => rfl)) (by decide) (by kernel_rfl) ev_ ev_) ?_
           refine pk_ ?_
           refine pk_ ?_
           refine xnil ?_
           exact xmeet ⟨(!(decide ((x1.2.2.2.2.2.2 : Arr 4 (UInt64)) = (Arr.rep 4 (0 : UInt64))))), h, rfl⟩ ⟨lk_, (SubM.of (.keep rfl rfl (.refl _) (.nil _)) (.nil _))⟩
          ·rw [and_ff (show (!(decide (x1.1 = 1))) = false from (not_f (decide_eq_true (Decidable.of_not_not hp323))))] at h
           refine xsetB 113 (not_f (decide_eq_true (Decidable.of_not_not hp323))) rfl ?_
           refine sk_ ?_
           refine sk_ ?_
           refine sk_ ?_
           refine sk_ ?_
           refine pk_ ?_
           refine pk_ ?_
           refine xnil ?_
           exact xmeet ⟨false, h, rfl⟩ ⟨lk_, (SubM.of (.keep rfl rfl (.refl _) (.nil _)) (.nil _))⟩
        ·rw [cond_ff (show (!x21) = false from (not_f (Decidable.of_not_not hp319)))] at h
         refine xsetB 103 (not_f (Decidable.of_not_not hp319)) rfl ?_
         refine sk_ ?_
         refine sk_ ?_
         refine sk_ ?_
         refine pk_ ?_
         refine pk_ ?_
         refine mv_ ?_
         refine vp_ (qv_fieldAddrB FldC.h rfl) ?_
         refine v_ (qv_loadB 0 ShpC.h rfl rfl rfl rfl) ?_
         refine vp_ (pv_bin2 rfl rfl rfl) ?_
         refine mv_ ?_
         by_cases hp326 : ¬ (x1.1 = 1)
         ·rw [and_tt (show (!(decide (x1.1 = 1))) = true from (not_t (decide_eq_false hp326)))] at h
          refine xsetB 113 (not_t (decide_eq_false hp326)) rfl ?_
          refine vp_ (qv_fieldAddrB FldC.h rfl) ?_
          refine v_ (qv_loadP 0 [.v (.int .i64 x1.1), .v (.int .i64 x1.2.1), .v (.int .i64 x1.2.2.1), .v (.int .i64 x1.2.2.2.1), .v (.int .i64 x1.2.2.2.2.1), .v (.int .i64 x1.2.2.2.2.2.1)] ((List.map ew x1.2.2.2.2.2.2.l).flatten) [] sq_ sl_ sl_ (part_all (seg_lenE (by rfl))) ShpC.h rfl rfl) ?_
          refine vp_ (pv_buildAC (cs := ((List.map ew ((Arr.rep 4 (0 : UInt64))).l).flatten)) UndC.h ShpC.h InfC.h rfl (by rfl)) ?_
          refine vp_ (pv_neAgg (f := E_palinode_api_Set) (a := x1.2.2.2.2.2.2) (b := (Arr.rep 4 (0 : UInt64))) (eqC_arr (t := 43) (e := 41) (f := ew) UndC.h ShpC.h (by kernel_rfl) inferInstance (fun _ => rfl)) (by decide) (by kernel_rfl) ev_ ev_) ?_
          refine pk_ ?_
          refine pk_ ?_
          refine xnil ?_
          exact xmeet ⟨(!(decide ((x1.2.2.2.2.2.2 : Arr 4 (UInt64)) = (Arr.rep 4 (0 : UInt64))))), h, rfl⟩ ⟨lk_, (SubM.of (.keep rfl rfl (.refl _) (.nil _)) (.nil _))⟩
         ·rw [and_ff (show (!(decide (x1.1 = 1))) = false from (not_f (decide_eq_true (Decidable.of_not_not hp326))))] at h
          refine xsetB 113 (not_f (decide_eq_true (Decidable.of_not_not hp326))) rfl ?_
          refine sk_ ?_
          refine sk_ ?_
          refine sk_ ?_
          refine sk_ ?_
          refine pk_ ?_
          refine pk_ ?_
          refine xnil ?_
          exact xmeet ⟨false, h, rfl⟩ ⟨lk_, (SubM.of (.keep rfl rfl (.refl _) (.nil _)) (.nil _))⟩
      ·clear h
       rintro _ ⟨x304, h, rfl⟩
       by_cases hp328 : x304 = true
       ·replace h := h.1 hp328
        refine xcondT' hp328 rfl ?_
        refine sr_ ?_
        refine as_ ?_
        refine nt_ ?_
        refine xretc ?_
        refine xthen_ret ?_
        replace h := h.symm
        subst h
        exact xret1 hg rfl rfl (.refl _) (SubM.of (.nil _) (.nil _)) ⟨rfl, rfl, rfl⟩
       ·replace h := h.2 hp328
        refine xcondF' (b_f hp328) rfl ?_
        refine xskipc ?_
        refine xthen ?_
        refine xseq ?_
        refine sr_ ?_
        refine vp_ (qv_fieldAddrB FldC.h rfl) ?_
        refine v_ (qv_loadB 0 ShpC.h rfl rfl rfl rfl) ?_
        refine vp_ (pv_bin2 rfl rfl rfl) ?_
        refine nt_ ?_
        by_cases hp338 : ¬ (x1.1 = 4)
        ·replace h := h.1 hp338
         refine xcondT' (not_t (decide_eq_false hp338)) rfl ?_
         refine sr_ ?_
         refine vp_ (qv_fieldAddrB FldC.h rfl) ?_
         refine v_ (qv_loadB 0 ShpC.h rfl rfl rfl rfl) ?_
         refine vp_ (pv_bin2 rfl rfl rfl) ?_
         refine mv_ ?_
         by_cases hp343 : x1.2.2.2.1 = 0
         ·replace h := h.1 hp343
          refine xsetB 126 (decide_eq_true hp343) rfl ?_
          refine vp_ (qv_fieldAddrB FldC.h rfl) ?_
          refine v_ (qv_loadB 0 ShpC.h rfl rfl rfl rfl) ?_
          refine vp_ (pv_bin2 rfl rfl rfl) ?_
          refine pk_ ?_
          refine as_ ?_
          refine nt_ ?_
          refine xretc ?_
          refine xthen_ret ?_
          replace h := h.symm
          subst h
          exact xret1 hg rfl rfl (.refl _) (SubM.of (.nil _) (.nil _)) ⟨rfl, rfl, rfl⟩
         ·replace h := h.2 hp343
          refine xsetB 126 (decide_eq_false hp343) rfl ?_
          refine sk_ ?_
          refine sk_ ?_
          refine sk_ ?_
          refine pk_ ?_
          refine as_ ?_
          refine nt_ ?_
          refine xretc ?_
          refine xthen_ret ?_
          replace h := h.symm
          subst h
          exact xret1 hg rfl rfl (.refl _) (SubM.of (.nil _) (.nil _)) ⟨rfl, rfl, rfl⟩
        ·replace h := h.2 hp338
         refine xcondF' (not_f (decide_eq_true (Decidable.of_not_not hp338))) rfl ?_
         refine xskipc ?_
         refine xthen ?_
         refine xseqM (fun σ => ∃ (x354 : Bool), palinoderef06_may_j6 x354 r ∧ σ = ⟨[(6, .v (.bool x354))], [], []⟩) ?_ ?_
         ·refine xregion ?_
          refine vp_ (qv_fieldAddrB FldC.h rfl) ?_
          refine v_ (qv_loadB 0 ShpC.h rfl rfl rfl rfl) ?_
          refine vp_ (pv_bin2 rfl rfl rfl) ?_
          refine mv_ ?_
          by_cases hp356 : 0 ≤ x1.2.2.2.1
          ·rw [and_tt (show (decide (0 ≤ x1.2.2.2.1)) = true from (decide_eq_true hp356))] at h
           refine xsetB 134 (decide_eq_true hp356) rfl ?_
           refine vp_ (qv_fieldAddrB FldC.h rfl) ?_
           refine v_ (qv_loadB 0 ShpC.h rfl rfl rfl rfl) ?_
           refine vp_ (pv_bin2 rfl rfl rfl) ?_
           refine pk_ ?_
           refine mv_ ?_
           by_cases hp358 : x1.2.2.2.1 ≤ 255
           ·rw [and_tt (show (decide (x1.2.2.2.1 ≤ 255)) = true from (decide_eq_true hp358))] at h
            refine xsetB 139 (decide_eq_true hp358) rfl ?_
            refine vp_ (qv_fieldAddrB FldC.h rfl) ?_
            refine v_ (qv_loadB 0 ShpC.h rfl rfl rfl rfl) ?_
            refine vp_ (pv_bin2 rfl rfl rfl) ?_
            refine mv_ ?_
            by_cases hp360 : x1.2.2.2.2.1 = (-1)
            ·rw [or_tt (show (decide (x1.2.2.2.2.1 = (-1))) = true from (decide_eq_true hp360))] at h
             refine xsetB 143 (decide_eq_true hp360) rfl ?_
             refine sk_ ?_
             refine sk_ ?_
             refine sk_ ?_
             refine sk_ ?_
             refine sk_ ?_
             refine sk_ ?_
             refine sk_ ?_
             refine sk_ ?_
             refine sk_ ?_
             refine sk_ ?_
             refine pk_ ?_
             refine pk_ ?_
             refine as_ ?_
             refine xnil ?_
             exact xmeet ⟨true, h, rfl⟩ ⟨(.cons rfl (.refl _) (.nil _)), (SubM.of (.nil _) (.nil _))⟩
            ·rw [or_ff (show (decide (x1.2.2.2.2.1 = (-1))) = false from (decide_eq_false hp360))] at h
             refine xsetB 143 (decide_eq_false hp360) rfl ?_
             refine vp_ (qv_fieldAddrB FldC.h rfl) ?_
             refine v_ (qv_loadB 0 ShpC.h rfl rfl rfl rfl) ?_
             refine vp_ (qv_fieldAddrB FldC.h rfl) ?_
             refine v_ (qv_loadB 0 ShpC.h rfl rfl rfl rfl) ?_
             refine vp_ (pv_bin2 rfl rfl rfl) ?_
             refine mv_ ?_
             by_cases hp362 : x1.2.2.2.1 ≤ x1.2.2.2.2.1
             ·rw [and_tt (show (decide (x1.2.2.2.1 ≤ x1.2.2.2.2.1)) = true from (decide_eq_true hp362))] at h
              refine xsetB 149 (decide_eq_true hp362) rfl ?_
              refine vp_ (qv_fieldAddrB FldC.h rfl) ?_
              refine v_ (qv_loadB 0 ShpC.h rfl rfl rfl rfl) ?_
              refine vp_ (pv_bin2 rfl rfl rfl) ?_
              refine pk_ ?_
              refine pk_ ?_
              refine pk_ ?_
              refine as_ ?_
              refine xnil ?_
              exact xmeet ⟨(decide (x1.2.2.2.2.1 ≤ 255)), h, rfl⟩ ⟨(.cons rfl (.refl _) (.nil _)), (SubM.of (.nil _) (.nil _))⟩
             ·rw [and_ff (show (decide (x1.2.2.2.1 ≤ x1.2.2.2.2.1)) = false from (decide_eq_false hp362))] at h
              refine xsetB 149 (decide_eq_false hp362) rfl ?_
              refine sk_ ?_
              refine sk_ ?_
              refine sk_ ?_
              refine pk_ ?_
              refine pk_ ?_
              refine pk_ ?_
              refine as_ ?_
              refine xnil ?_
              exact xmeet ⟨false, h, rfl⟩ ⟨(.cons rfl (.refl _) (.nil _)), (SubM.of (.nil _) (.nil _))⟩
           ·rw [and_ff (show (decide (x1.2.2.2.1 ≤ 255)) = false from (decide_eq_false hp358))] at h
            refine xsetB 139 (decide_eq_false hp358) rfl ?_
            refine sk_ ?_
            refine sk_ ?_
            refine sk_ ?_
            refine sk_ ?_
            refine sk_ ?_
            refine sk_ ?_
            refine sk_ ?_
            refine sk_ ?_
            refine sk_ ?_
            refine sk_ ?_
            refine sk_ ?_
            refine sk_ ?_
            refine sk_ ?_
            refine sk_ ?_
            refine sk_ ?_
            refine pk_ ?_
            refine as_ ?_
            refine xnil ?_
            exact xmeet ⟨false, h, rfl⟩ ⟨(.cons rfl (.refl _) (.nil _)), (SubM.of (.nil _) (.nil _))⟩
          ·rw [and_ff (show (decide (0 ≤ x1.2.2.2.1)) = false from (decide_eq_false hp356))] at h
           refine xsetB 134 (decide_eq_false hp356) rfl ?_
           refine sk_ ?_
           refine sk_ ?_
           refine sk_ ?_
           refine pk_ ?_
           refine mv_ ?_
           refine sk_ ?_
           refine sk_ ?_
           refine sk_ ?_
           refine sk_ ?_
           refine sk_ ?_
           refine sk_ ?_
           refine sk_ ?_
           refine sk_ ?_
           refine sk_ ?_
           refine sk_ ?_
           refine sk_ ?_
           refine sk_ ?_
           refine sk_ ?_
           refine sk_ ?_
           refine sk_ ?_
           refine pk_ ?_
           refine as_ ?_
           refine xnil ?_
           exact xmeet ⟨false, h, rfl⟩ ⟨(.cons rfl (.refl _) (.nil _)), (SubM.of (.nil _) (.nil _))⟩
         ·clear h
          rintro _ ⟨x354, h, rfl⟩
          refine xretc ?_
          replace h := h.symm
          subst h
          exact xret1 hg rfl rfl (.refl _) (SubM.of (.nil _) (.nil _)) ⟨rfl, rfl, rfl⟩
end Go.Proofs.Ytnjnbegjhklcgaa
