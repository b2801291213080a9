/- What functions' texts ask for, and the walks that show it (printed by a program). -/
import Derived.Test.YtfcdelokijnkoaaEv
namespace Go.Proofs.Ytfcdelokijnkoaa
abbrev E_palinode_api_Node (x : Int × Int × Int × Int × Int × Int × (Arr 4 (UInt64))) : List Sd := ([.v (.int .i64 x.1), .v (.int .i64 x.2.1), .v (.int .i64 x.2.2.1), .v (.int .i64 x.2.2.2.1), .v (.int .i64 x.2.2.2.2.1), .v (.int .i64 x.2.2.2.2.2.1)] ++ (List.map ew x.2.2.2.2.2.2.l).flatten)
instance : EncLen E_palinode_api_Node 10 := ⟨fun _ => (by first | rfl | exact seg_lenE (by rfl) | exact len_app rfl (seg_lenE (by rfl)) (by rfl) | exact len_app (seg_lenE (by rfl)) rfl (by rfl) | exact len_app rfl (len_app (seg_lenE (by rfl)) rfl (by rfl)) (by rfl) | (simp only [seg_len, cellsS, List.length_append, List.length_cons, List.length_nil]; done) | (simp only [seg_len, cellsS, List.length_append, List.length_cons, List.length_nil]; rfl))⟩
abbrev E_palinode_api_Set (x : Arr 4 (UInt64)) : List Sd := ((List.map ew x.l).flatten)
instance : EncLen E_palinode_api_Set 4 := ⟨fun _ => (by first | rfl | exact seg_lenE (by rfl) | exact len_app rfl (seg_lenE (by rfl)) (by rfl) | exact len_app (seg_lenE (by rfl)) rfl (by rfl) | exact len_app rfl (len_app (seg_lenE (by rfl)) rfl (by rfl)) (by rfl) | (simp only [seg_len, cellsS, List.length_append, List.length_cons, List.length_nil]; done) | (simp only [seg_len, cellsS, List.length_append, List.length_cons, List.length_nil]; rfl))⟩
set_option synthInstance.maxSize 4000 in
instance : DecidableEq (Int × Int × Int × Int × Int × Int × (Arr 4 (UInt64))) := inferInstance
set_option synthInstance.maxSize 4000 in
theorem eqc_42 : EqC Try.prog 42 E_palinode_api_Node true 3 := ⟨by
  rintro d hd ⟨x0, x1, x2, x3, x4, x5, x6⟩ ⟨y0, y1, y2, y3, y4, y5, y6⟩ R w _ _ ⟨us, rfl, hu, hu1⟩ ⟨vs, rfl, hv, hv1⟩ W
  obtain ⟨d, rfl, hd'⟩ := d_succ hd
  have h7 := eqF_nil (P := Try.prog) d us vs W
  have h6 := eqF_cons (P := Try.prog) (fd := ({ name := "Set", type := 33, offset := 6, embedded := false, tag := "", pkgPath := "", byteOffset := 48 } : Field)) (f := E_palinode_api_Set) (ag := true) (x := x6) (y := y6) hu hu1 hv hv1 (by decide) ShpC.h (eqC_arr (t := 33) (e := 31) (f := ew) UndC.h ShpC.h (by kernel_rfl) inferInstance (fun _ => rfl)) (show 2 ≤ d by omega) (part_midE (pre := [.v (.int .i64 x0), .v (.int .i64 x1), .v (.int .i64 x2), .v (.int .i64 x3), .v (.int .i64 x4), .v (.int .i64 x5)]) (mid := ((List.map ew x6.l).flatten)) (post := []) (by first | rfl | exact (List.append_nil _).symm | exact List.append_nil _ | exact List.append_assoc _ _ _ | exact (List.append_assoc _ _ _).symm | exact congrArg _ (List.append_nil _).symm | exact congrArg _ (List.append_nil _) | (simp; done) | (simp [cellsS]; done)) (by first | rfl | exact seg_lenE (by rfl) | exact len_app rfl (seg_lenE (by rfl)) (by rfl) | exact len_app (seg_lenE (by rfl)) rfl (by rfl) | exact len_app rfl (len_app (seg_lenE (by rfl)) rfl (by rfl)) (by rfl) | (simp only [seg_len, cellsS, List.length_append, List.length_cons, List.length_nil]; done) | (simp only [seg_len, cellsS, List.length_append, List.length_cons, List.length_nil]; rfl)) (by first | rfl | exact seg_lenE (by rfl) | exact len_app rfl (seg_lenE (by rfl)) (by rfl) | exact len_app (seg_lenE (by rfl)) rfl (by rfl) | exact len_app rfl (len_app (seg_lenE (by rfl)) rfl (by rfl)) (by rfl) | (simp only [seg_len, cellsS, List.length_append, List.length_cons, List.length_nil]; done) | (simp only [seg_len, cellsS, List.length_append, List.length_cons, List.length_nil]; rfl)) (part_all (by first | rfl | exact seg_lenE (by rfl) | exact len_app rfl (seg_lenE (by rfl)) (by rfl) | exact len_app (seg_lenE (by rfl)) rfl (by rfl) | exact len_app rfl (len_app (seg_lenE (by rfl)) rfl (by rfl)) (by rfl) | (simp only [seg_len, cellsS, List.length_append, List.length_cons, List.length_nil]; done) | (simp only [seg_len, cellsS, List.length_append, List.length_cons, List.length_nil]; rfl)))) (part_midE (pre := [.v (.int .i64 y0), .v (.int .i64 y1), .v (.int .i64 y2), .v (.int .i64 y3), .v (.int .i64 y4), .v (.int .i64 y5)]) (mid := ((List.map ew y6.l).flatten)) (post := []) (by first | rfl | exact (List.append_nil _).symm | exact List.append_nil _ | exact List.append_assoc _ _ _ | exact (List.append_assoc _ _ _).symm | exact congrArg _ (List.append_nil _).symm | exact congrArg _ (List.append_nil _) | (simp; done) | (simp [cellsS]; done)) (by first | rfl | exact seg_lenE (by rfl) | exact len_app rfl (seg_lenE (by rfl)) (by rfl) | exact len_app (seg_lenE (by rfl)) rfl (by rfl) | exact len_app rfl (len_app (seg_lenE (by rfl)) rfl (by rfl)) (by rfl) | (simp only [seg_len, cellsS, List.length_append, List.length_cons, List.length_nil]; done) | (simp only [seg_len, cellsS, List.length_append, List.length_cons, List.length_nil]; rfl)) (by first | rfl | exact seg_lenE (by rfl) | exact len_app rfl (seg_lenE (by rfl)) (by rfl) | exact len_app (seg_lenE (by rfl)) rfl (by rfl) | exact len_app rfl (len_app (seg_lenE (by rfl)) rfl (by rfl)) (by rfl) | (simp only [seg_len, cellsS, List.length_append, List.length_cons, List.length_nil]; done) | (simp only [seg_len, cellsS, List.length_append, List.length_cons, List.length_nil]; rfl)) (part_all (by first | rfl | exact seg_lenE (by rfl) | exact len_app rfl (seg_lenE (by rfl)) (by rfl) | exact len_app (seg_lenE (by rfl)) rfl (by rfl) | exact len_app rfl (len_app (seg_lenE (by rfl)) rfl (by rfl)) (by rfl) | (simp only [seg_len, cellsS, List.length_append, List.length_cons, List.length_nil]; done) | (simp only [seg_len, cellsS, List.length_append, List.length_cons, List.length_nil]; rfl)))) h7
  have h5 := eqF_cons (P := Try.prog) (fd := ({ name := "Group", type := 3, offset := 5, embedded := false, tag := "", pkgPath := "", byteOffset := 40 } : Field)) (f := ei) (ag := false) (x := x5) (y := y5) hu hu1 hv hv1 (by decide) ShpC.h inferInstance (show 1 ≤ d by omega) (part_midE (pre := [.v (.int .i64 x0), .v (.int .i64 x1), .v (.int .i64 x2), .v (.int .i64 x3), .v (.int .i64 x4)]) (mid := [.v (.int .i64 x5)]) (post := ((List.map ew x6.l).flatten)) (by first | rfl | exact (List.append_nil _).symm | exact List.append_nil _ | exact List.append_assoc _ _ _ | exact (List.append_assoc _ _ _).symm | exact congrArg _ (List.append_nil _).symm | exact congrArg _ (List.append_nil _) | (simp; done) | (simp [cellsS]; done)) (by first | rfl | exact seg_lenE (by rfl) | exact len_app rfl (seg_lenE (by rfl)) (by rfl) | exact len_app (seg_lenE (by rfl)) rfl (by rfl) | exact len_app rfl (len_app (seg_lenE (by rfl)) rfl (by rfl)) (by rfl) | (simp only [seg_len, cellsS, List.length_append, List.length_cons, List.length_nil]; done) | (simp only [seg_len, cellsS, List.length_append, List.length_cons, List.length_nil]; rfl)) (by first | rfl | exact seg_lenE (by rfl) | exact len_app rfl (seg_lenE (by rfl)) (by rfl) | exact len_app (seg_lenE (by rfl)) rfl (by rfl) | exact len_app rfl (len_app (seg_lenE (by rfl)) rfl (by rfl)) (by rfl) | (simp only [seg_len, cellsS, List.length_append, List.length_cons, List.length_nil]; done) | (simp only [seg_len, cellsS, List.length_append, List.length_cons, List.length_nil]; rfl)) rfl) (part_midE (pre := [.v (.int .i64 y0), .v (.int .i64 y1), .v (.int .i64 y2), .v (.int .i64 y3), .v (.int .i64 y4)]) (mid := [.v (.int .i64 y5)]) (post := ((List.map ew y6.l).flatten)) (by first | rfl | exact (List.append_nil _).symm | exact List.append_nil _ | exact List.append_assoc _ _ _ | exact (List.append_assoc _ _ _).symm | exact congrArg _ (List.append_nil _).symm | exact congrArg _ (List.append_nil _) | (simp; done) | (simp [cellsS]; done)) (by first | rfl | exact seg_lenE (by rfl) | exact len_app rfl (seg_lenE (by rfl)) (by rfl) | exact len_app (seg_lenE (by rfl)) rfl (by rfl) | exact len_app rfl (len_app (seg_lenE (by rfl)) rfl (by rfl)) (by rfl) | (simp only [seg_len, cellsS, List.length_append, List.length_cons, List.length_nil]; done) | (simp only [seg_len, cellsS, List.length_append, List.length_cons, List.length_nil]; rfl)) (by first | rfl | exact seg_lenE (by rfl) | exact len_app rfl (seg_lenE (by rfl)) (by rfl) | exact len_app (seg_lenE (by rfl)) rfl (by rfl) | exact len_app rfl (len_app (seg_lenE (by rfl)) rfl (by rfl)) (by rfl) | (simp only [seg_len, cellsS, List.length_append, List.length_cons, List.length_nil]; done) | (simp only [seg_len, cellsS, List.length_append, List.length_cons, List.length_nil]; rfl)) rfl) h6
  have h4 := eqF_cons (P := Try.prog) (fd := ({ name := "Hi", type := 3, offset := 4, embedded := false, tag := "", pkgPath := "", byteOffset := 32 } : Field)) (f := ei) (ag := false) (x := x4) (y := y4) hu hu1 hv hv1 (by decide) ShpC.h inferInstance (show 1 ≤ d by omega) (part_midE (pre := [.v (.int .i64 x0), .v (.int .i64 x1), .v (.int .i64 x2), .v (.int .i64 x3)]) (mid := [.v (.int .i64 x4)]) (post := ([.v (.int .i64 x5)] ++ (List.map ew x6.l).flatten)) (by first | rfl | exact (List.append_nil _).symm | exact List.append_nil _ | exact List.append_assoc _ _ _ | exact (List.append_assoc _ _ _).symm | exact congrArg _ (List.append_nil _).symm | exact congrArg _ (List.append_nil _) | (simp; done) | (simp [cellsS]; done)) (by first | rfl | exact seg_lenE (by rfl) | exact len_app rfl (seg_lenE (by rfl)) (by rfl) | exact len_app (seg_lenE (by rfl)) rfl (by rfl) | exact len_app rfl (len_app (seg_lenE (by rfl)) rfl (by rfl)) (by rfl) | (simp only [seg_len, cellsS, List.length_append, List.length_cons, List.length_nil]; done) | (simp only [seg_len, cellsS, List.length_append, List.length_cons, List.length_nil]; rfl)) (by first | rfl | exact seg_lenE (by rfl) | exact len_app rfl (seg_lenE (by rfl)) (by rfl) | exact len_app (seg_lenE (by rfl)) rfl (by rfl) | exact len_app rfl (len_app (seg_lenE (by rfl)) rfl (by rfl)) (by rfl) | (simp only [seg_len, cellsS, List.length_append, List.length_cons, List.length_nil]; done) | (simp only [seg_len, cellsS, List.length_append, List.length_cons, List.length_nil]; rfl)) rfl) (part_midE (pre := [.v (.int .i64 y0), .v (.int .i64 y1), .v (.int .i64 y2), .v (.int .i64 y3)]) (mid := [.v (.int .i64 y4)]) (post := ([.v (.int .i64 y5)] ++ (List.map ew y6.l).flatten)) (by first | rfl | exact (List.append_nil _).symm | exact List.append_nil _ | exact List.append_assoc _ _ _ | exact (List.append_assoc _ _ _).symm | exact congrArg _ (List.append_nil _).symm | exact congrArg _ (List.append_nil _) | (simp; done) | (simp [cellsS]; done)) (by first | rfl | exact seg_lenE (by rfl) | exact len_app rfl (seg_lenE (by rfl)) (by rfl) | exact len_app (seg_lenE (by rfl)) rfl (by rfl) | exact len_app rfl (len_app (seg_lenE (by rfl)) rfl (by rfl)) (by rfl) | (simp only [seg_len, cellsS, List.length_append, List.length_cons, List.length_nil]; done) | (simp only [seg_len, cellsS, List.length_append, List.length_cons, List.length_nil]; rfl)) (by first | rfl | exact seg_lenE (by rfl) | exact len_app rfl (seg_lenE (by rfl)) (by rfl) | exact len_app (seg_lenE (by rfl)) rfl (by rfl) | exact len_app rfl (len_app (seg_lenE (by rfl)) rfl (by rfl)) (by rfl) | (simp only [seg_len, cellsS, List.length_append, List.length_cons, List.length_nil]; done) | (simp only [seg_len, cellsS, List.length_append, List.length_cons, List.length_nil]; rfl)) rfl) h5
  have h3 := eqF_cons (P := Try.prog) (fd := ({ name := "Lo", type := 3, offset := 3, embedded := false, tag := "", pkgPath := "", byteOffset := 24 } : Field)) (f := ei) (ag := false) (x := x3) (y := y3) hu hu1 hv hv1 (by decide) ShpC.h inferInstance (show 1 ≤ d by omega) (part_midE (pre := [.v (.int .i64 x0), .v (.int .i64 x1), .v (.int .i64 x2)]) (mid := [.v (.int .i64 x3)]) (post := ([.v (.int .i64 x4), .v (.int .i64 x5)] ++ (List.map ew x6.l).flatten)) (by first | rfl | exact (List.append_nil _).symm | exact List.append_nil _ | exact List.append_assoc _ _ _ | exact (List.append_assoc _ _ _).symm | exact congrArg _ (List.append_nil _).symm | exact congrArg _ (List.append_nil _) | (simp; done) | (simp [cellsS]; done)) (by first | rfl | exact seg_lenE (by rfl) | exact len_app rfl (seg_lenE (by rfl)) (by rfl) | exact len_app (seg_lenE (by rfl)) rfl (by rfl) | exact len_app rfl (len_app (seg_lenE (by rfl)) rfl (by rfl)) (by rfl) | (simp only [seg_len, cellsS, List.length_append, List.length_cons, List.length_nil]; done) | (simp only [seg_len, cellsS, List.length_append, List.length_cons, List.length_nil]; rfl)) (by first | rfl | exact seg_lenE (by rfl) | exact len_app rfl (seg_lenE (by rfl)) (by rfl) | exact len_app (seg_lenE (by rfl)) rfl (by rfl) | exact len_app rfl (len_app (seg_lenE (by rfl)) rfl (by rfl)) (by rfl) | (simp only [seg_len, cellsS, List.length_append, List.length_cons, List.length_nil]; done) | (simp only [seg_len, cellsS, List.length_append, List.length_cons, List.length_nil]; rfl)) rfl) (part_midE (pre := [.v (.int .i64 y0), .v (.int .i64 y1), .v (.int .i64 y2)]) (mid := [.v (.int .i64 y3)]) (post := ([.v (.int .i64 y4), .v (.int .i64 y5)] ++ (List.map ew y6.l).flatten)) (by first | rfl | exact (List.append_nil _).symm | exact List.append_nil _ | exact List.append_assoc _ _ _ | exact (List.append_assoc _ _ _).symm | exact congrArg _ (List.append_nil _).symm | exact congrArg _ (List.append_nil _) | (simp; done) | (simp [cellsS]; done)) (by first | rfl | exact seg_lenE (by rfl) | exact len_app rfl (seg_lenE (by rfl)) (by rfl) | exact len_app (seg_lenE (by rfl)) rfl (by rfl) | exact len_app rfl (len_app (seg_lenE (by rfl)) rfl (by rfl)) (by rfl) | (simp only [seg_len, cellsS, List.length_append, List.length_cons, List.length_nil]; done) | (simp only [seg_len, cellsS, List.length_append, List.length_cons, List.length_nil]; rfl)) (by first | rfl | exact seg_lenE (by rfl) | exact len_app rfl (seg_lenE (by rfl)) (by rfl) | exact len_app (seg_lenE (by rfl)) rfl (by rfl) | exact len_app rfl (len_app (seg_lenE (by rfl)) rfl (by rfl)) (by rfl) | (simp only [seg_len, cellsS, List.length_append, List.length_cons, List.length_nil]; done) | (simp only [seg_len, cellsS, List.length_append, List.length_cons, List.length_nil]; rfl)) rfl) h4
  have h2 := eqF_cons (P := Try.prog) (fd := ({ name := "B", type := 3, offset := 2, embedded := false, tag := "", pkgPath := "", byteOffset := 16 } : Field)) (f := ei) (ag := false) (x := x2) (y := y2) hu hu1 hv hv1 (by decide) ShpC.h inferInstance (show 1 ≤ d by omega) (part_midE (pre := [.v (.int .i64 x0), .v (.int .i64 x1)]) (mid := [.v (.int .i64 x2)]) (post := ([.v (.int .i64 x3), .v (.int .i64 x4), .v (.int .i64 x5)] ++ (List.map ew x6.l).flatten)) (by first | rfl | exact (List.append_nil _).symm | exact List.append_nil _ | exact List.append_assoc _ _ _ | exact (List.append_assoc _ _ _).symm | exact congrArg _ (List.append_nil _).symm | exact congrArg _ (List.append_nil _) | (simp; done) | (simp [cellsS]; done)) (by first | rfl | exact seg_lenE (by rfl) | exact len_app rfl (seg_lenE (by rfl)) (by rfl) | exact len_app (seg_lenE (by rfl)) rfl (by rfl) | exact len_app rfl (len_app (seg_lenE (by rfl)) rfl (by rfl)) (by rfl) | (simp only [seg_len, cellsS, List.length_append, List.length_cons, List.length_nil]; done) | (simp only [seg_len, cellsS, List.length_append, List.length_cons, List.length_nil]; rfl)) (by first | rfl | exact seg_lenE (by rfl) | exact len_app rfl (seg_lenE (by rfl)) (by rfl) | exact len_app (seg_lenE (by rfl)) rfl (by rfl) | exact len_app rfl (len_app (seg_lenE (by rfl)) rfl (by rfl)) (by rfl) | (simp only [seg_len, cellsS, List.length_append, List.length_cons, List.length_nil]; done) | (simp only [seg_len, cellsS, List.length_append, List.length_cons, List.length_nil]; rfl)) rfl) (part_midE (pre := [.v (.int .i64 y0), .v (.int .i64 y1)]) (mid := [.v (.int .i64 y2)]) (post := ([.v (.int .i64 y3), .v (.int .i64 y4), .v (.int .i64 y5)] ++ (List.map ew y6.l).flatten)) (by first | rfl | exact (List.append_nil _).symm | exact List.append_nil _ | exact List.append_assoc _ _ _ | exact (List.append_assoc _ _ _).symm | exact congrArg _ (List.append_nil _).symm | exact congrArg _ (List.append_nil _) | (simp; done) | (simp [cellsS]; done)) (by first | rfl | exact seg_lenE (by rfl) | exact len_app rfl (seg_lenE (by rfl)) (by rfl) | exact len_app (seg_lenE (by rfl)) rfl (by rfl) | exact len_app rfl (len_app (seg_lenE (by rfl)) rfl (by rfl)) (by rfl) | (simp only [seg_len, cellsS, List.length_append, List.length_cons, List.length_nil]; done) | (simp only [seg_len, cellsS, List.length_append, List.length_cons, List.length_nil]; rfl)) (by first | rfl | exact seg_lenE (by rfl) | exact len_app rfl (seg_lenE (by rfl)) (by rfl) | exact len_app (seg_lenE (by rfl)) rfl (by rfl) | exact len_app rfl (len_app (seg_lenE (by rfl)) rfl (by rfl)) (by rfl) | (simp only [seg_len, cellsS, List.length_append, List.length_cons, List.length_nil]; done) | (simp only [seg_len, cellsS, List.length_append, List.length_cons, List.length_nil]; rfl)) rfl) h3
  have h1 := eqF_cons (P := Try.prog) (fd := ({ name := "A", type := 3, offset := 1, embedded := false, tag := "", pkgPath := "", byteOffset := 8 } : Field)) (f := ei) (ag := false) (x := x1) (y := y1) hu hu1 hv hv1 (by decide) ShpC.h inferInstance (show 1 ≤ d by omega) (part_midE (pre := [.v (.int .i64 x0)]) (mid := [.v (.int .i64 x1)]) (post := ([.v (.int .i64 x2), .v (.int .i64 x3), .v (.int .i64 x4), .v (.int .i64 x5)] ++ (List.map ew x6.l).flatten)) (by first | rfl | exact (List.append_nil _).symm | exact List.append_nil _ | exact List.append_assoc _ _ _ | exact (List.append_assoc _ _ _).symm | exact congrArg _ (List.append_nil _).symm | exact congrArg _ (List.append_nil _) | (simp; done) | (simp [cellsS]; done)) (by first | rfl | exact seg_lenE (by rfl) | exact len_app rfl (seg_lenE (by rfl)) (by rfl) | exact len_app (seg_lenE (by rfl)) rfl (by rfl) | exact len_app rfl (len_app (seg_lenE (by rfl)) rfl (by rfl)) (by rfl) | (simp only [seg_len, cellsS, List.length_append, List.length_cons, List.length_nil]; done) | (simp only [seg_len, cellsS, List.length_append, List.length_cons, List.length_nil]; rfl)) (by first | rfl | exact seg_lenE (by rfl) | exact len_app rfl (seg_lenE (by rfl)) (by rfl) | exact len_app (seg_lenE (by rfl)) rfl (by rfl) | exact len_app rfl (len_app (seg_lenE (by rfl)) rfl (by rfl)) (by rfl) | (simp only [seg_len, cellsS, List.length_append, List.length_cons, List.length_nil]; done) | (simp only [seg_len, cellsS, List.length_append, List.length_cons, List.length_nil]; rfl)) rfl) (part_midE (pre := [.v (.int .i64 y0)]) (mid := [.v (.int .i64 y1)]) (post := ([.v (.int .i64 y2), .v (.int .i64 y3), .v (.int .i64 y4), .v (.int .i64 y5)] ++ (List.map ew y6.l).flatten)) (by first | rfl | exact (List.append_nil _).symm | exact List.append_nil _ | exact List.append_assoc _ _ _ | exact (List.append_assoc _ _ _).symm | exact congrArg _ (List.append_nil _).symm | exact congrArg _ (List.append_nil _) | (simp; done) | (simp [cellsS]; done)) (by first | rfl | exact seg_lenE (by rfl) | exact len_app rfl (seg_lenE (by rfl)) (by rfl) | exact len_app (seg_lenE (by rfl)) rfl (by rfl) | exact len_app rfl (len_app (seg_lenE (by rfl)) rfl (by rfl)) (by rfl) | (simp only [seg_len, cellsS, List.length_append, List.length_cons, List.length_nil]; done) | (simp only [seg_len, cellsS, List.length_append, List.length_cons, List.length_nil]; rfl)) (by first | rfl | exact seg_lenE (by rfl) | exact len_app rfl (seg_lenE (by rfl)) (by rfl) | exact len_app (seg_lenE (by rfl)) rfl (by rfl) | exact len_app rfl (len_app (seg_lenE (by rfl)) rfl (by rfl)) (by rfl) | (simp only [seg_len, cellsS, List.length_append, List.length_cons, List.length_nil]; done) | (simp only [seg_len, cellsS, List.length_append, List.length_cons, List.length_nil]; rfl)) rfl) h2
  have h0 := eqF_cons (P := Try.prog) (fd := ({ name := "Kind", type := 3, offset := 0, embedded := false, tag := "", pkgPath := "", byteOffset := 0 } : Field)) (f := ei) (ag := false) (x := x0) (y := y0) hu hu1 hv hv1 (by decide) ShpC.h inferInstance (show 1 ≤ d by omega) (part_midE (pre := []) (mid := [.v (.int .i64 x0)]) (post := ([.v (.int .i64 x1), .v (.int .i64 x2), .v (.int .i64 x3), .v (.int .i64 x4), .v (.int .i64 x5)] ++ (List.map ew x6.l).flatten)) (by first | rfl | exact (List.append_nil _).symm | exact List.append_nil _ | exact List.append_assoc _ _ _ | exact (List.append_assoc _ _ _).symm | exact congrArg _ (List.append_nil _).symm | exact congrArg _ (List.append_nil _) | (simp; done) | (simp [cellsS]; done)) (by first | rfl | exact seg_lenE (by rfl) | exact len_app rfl (seg_lenE (by rfl)) (by rfl) | exact len_app (seg_lenE (by rfl)) rfl (by rfl) | exact len_app rfl (len_app (seg_lenE (by rfl)) rfl (by rfl)) (by rfl) | (simp only [seg_len, cellsS, List.length_append, List.length_cons, List.length_nil]; done) | (simp only [seg_len, cellsS, List.length_append, List.length_cons, List.length_nil]; rfl)) (by first | rfl | exact seg_lenE (by rfl) | exact len_app rfl (seg_lenE (by rfl)) (by rfl) | exact len_app (seg_lenE (by rfl)) rfl (by rfl) | exact len_app rfl (len_app (seg_lenE (by rfl)) rfl (by rfl)) (by rfl) | (simp only [seg_len, cellsS, List.length_append, List.length_cons, List.length_nil]; done) | (simp only [seg_len, cellsS, List.length_append, List.length_cons, List.length_nil]; rfl)) rfl) (part_midE (pre := []) (mid := [.v (.int .i64 y0)]) (post := ([.v (.int .i64 y1), .v (.int .i64 y2), .v (.int .i64 y3), .v (.int .i64 y4), .v (.int .i64 y5)] ++ (List.map ew y6.l).flatten)) (by first | rfl | exact (List.append_nil _).symm | exact List.append_nil _ | exact List.append_assoc _ _ _ | exact (List.append_assoc _ _ _).symm | exact congrArg _ (List.append_nil _).symm | exact congrArg _ (List.append_nil _) | (simp; done) | (simp [cellsS]; done)) (by first | rfl | exact seg_lenE (by rfl) | exact len_app rfl (seg_lenE (by rfl)) (by rfl) | exact len_app (seg_lenE (by rfl)) rfl (by rfl) | exact len_app rfl (len_app (seg_lenE (by rfl)) rfl (by rfl)) (by rfl) | (simp only [seg_len, cellsS, List.length_append, List.length_cons, List.length_nil]; done) | (simp only [seg_len, cellsS, List.length_append, List.length_cons, List.length_nil]; rfl)) (by first | rfl | exact seg_lenE (by rfl) | exact len_app rfl (seg_lenE (by rfl)) (by rfl) | exact len_app (seg_lenE (by rfl)) rfl (by rfl) | exact len_app rfl (len_app (seg_lenE (by rfl)) rfl (by rfl)) (by rfl) | (simp only [seg_len, cellsS, List.length_append, List.length_cons, List.length_nil]; done) | (simp only [seg_len, cellsS, List.length_append, List.length_cons, List.length_nil]; rfl)) rfl) h1
  have hf : (Try.prog.fieldsOf 42).toList = [({ name := "Kind", type := 3, offset := 0, embedded := false, tag := "", pkgPath := "", byteOffset := 0 } : Field), ({ name := "A", type := 3, offset := 1, embedded := false, tag := "", pkgPath := "", byteOffset := 8 } : Field), ({ name := "B", type := 3, offset := 2, embedded := false, tag := "", pkgPath := "", byteOffset := 16 } : Field), ({ name := "Lo", type := 3, offset := 3, embedded := false, tag := "", pkgPath := "", byteOffset := 24 } : Field), ({ name := "Hi", type := 3, offset := 4, embedded := false, tag := "", pkgPath := "", byteOffset := 32 } : Field), ({ name := "Group", type := 3, offset := 5, embedded := false, tag := "", pkgPath := "", byteOffset := 40 } : Field), ({ name := "Set", type := 33, offset := 6, embedded := false, tag := "", pkgPath := "", byteOffset := 48 } : Field)] := by kernel_rfl
  rw [← hf] at h0
  refine ((run_equalIn_struct W d 42 us vs (by kernel_rfl) (by kernel_rfl)).trans h0).trans ?_
  congr 1; rw [Bool.eq_iff_iff]; simp only [Bool.and_true, Bool.and_eq_true, decide_eq_true_eq, Prod.mk.injEq]⟩
/-- tree.plain -/
def tree_plain_j1 (nv1 : Int × Int × Int × Int × Int × Int × (Arr 4 (UInt64))) (f24 : Int) (f25 : Int) (f26 : Int) (f27 : Int) (f28 : Int) (f29 : Arr 4 (UInt64)) (r : (Int × Int × Int × Int × Int × Int × (Arr 4 (UInt64)))) : Prop :=
  r = (nv1.1, f24, f25, f26, f27, f28, f29)
def tree_plain_j2 (nv1 : Int × Int × Int × Int × Int × Int × (Arr 4 (UInt64))) (x35 : Bool) (r : (Int × Int × Int × Int × Int × Int × (Arr 4 (UInt64)))) : Prop :=
  ((x35 = true → tree_plain_j1 nv1 nv1.2.1 nv1.2.2.1 0 0 0 (Arr.rep 4 (0 : UInt64)) r) ∧ (¬ (x35 = true) → ((nv1.1 = 4 → tree_plain_j1 nv1 nv1.2.1 0 nv1.2.2.2.1 nv1.2.2.2.2.1 0 (Arr.rep 4 (0 : UInt64)) r) ∧ (¬ (nv1.1 = 4) → ((nv1.1 = 5 → tree_plain_j1 nv1 nv1.2.1 0 0 0 nv1.2.2.2.2.2.1 (Arr.rep 4 (0 : UInt64)) r) ∧ (¬ (nv1.1 = 5) → ((nv1.1 = 6 → tree_plain_j1 nv1 0 0 0 0 nv1.2.2.2.2.2.1 (Arr.rep 4 (0 : UInt64)) r) ∧ (¬ (nv1.1 = 6) → tree_plain_j1 nv1 0 0 0 0 0 (Arr.rep 4 (0 : UInt64)) r))))))))
def tree_plain_R (nv1 : Int × Int × Int × Int × Int × Int × (Arr 4 (UInt64))) (r : (Int × Int × Int × Int × Int × Int × (Arr 4 (UInt64)))) : Prop :=
  ((nv1.1 = 1 → tree_plain_j1 nv1 0 0 0 0 0 nv1.2.2.2.2.2.2 r) ∧ (¬ (nv1.1 = 1) → ((nv1.1 = 2 → tree_plain_j2 nv1 (decide (nv1.1 = 2)) r) ∧ (¬ (nv1.1 = 2) → tree_plain_j2 nv1 (decide (nv1.1 = 3)) r))))
def tree_plain_j1_ev (fuel : Nat) (nv1 : Int × Int × Int × Int × Int × Int × (Arr 4 (UInt64))) (f24 : Int) (f25 : Int) (f26 : Int) (f27 : Int) (f28 : Int) (f29 : Arr 4 (UInt64)) : Option ((Int × Int × Int × Int × Int × Int × (Arr 4 (UInt64)))) :=
  some (nv1.1, f24, f25, f26, f27, f28, f29)
theorem tree_plain_j1_ok {fuel : Nat} {nv1 : Int × Int × Int × Int × Int × Int × (Arr 4 (UInt64))} {f24 : Int} {f25 : Int} {f26 : Int} {f27 : Int} {f28 : Int} {f29 : Arr 4 (UInt64)} {r : (Int × Int × Int × Int × Int × Int × (Arr 4 (UInt64)))} (h : tree_plain_j1_ev fuel nv1 f24 f25 f26 f27 f28 f29 = some r) : tree_plain_j1 nv1 f24 f25 f26 f27 f28 f29 r := by
  unfold tree_plain_j1_ev at h
  unfold tree_plain_j1
  exact (Option.some.inj h).symm
def tree_plain_j2_ev (fuel : Nat) (nv1 : Int × Int × Int × Int × Int × Int × (Arr 4 (UInt64))) (x35 : Bool) : Option ((Int × Int × Int × Int × Int × Int × (Arr 4 (UInt64)))) :=
  (if x35 = true then tree_plain_j1_ev fuel nv1 nv1.2.1 nv1.2.2.1 0 0 0 (Arr.rep 4 (0 : UInt64)) else (if nv1.1 = 4 then tree_plain_j1_ev fuel nv1 nv1.2.1 0 nv1.2.2.2.1 nv1.2.2.2.2.1 0 (Arr.rep 4 (0 : UInt64)) else (if nv1.1 = 5 then tree_plain_j1_ev fuel nv1 nv1.2.1 0 0 0 nv1.2.2.2.2.2.1 (Arr.rep 4 (0 : UInt64)) else (if nv1.1 = 6 then tree_plain_j1_ev fuel nv1 0 0 0 0 nv1.2.2.2.2.2.1 (Arr.rep 4 (0 : UInt64)) else tree_plain_j1_ev fuel nv1 0 0 0 0 0 (Arr.rep 4 (0 : UInt64))))))
theorem tree_plain_j2_ok {fuel : Nat} {nv1 : Int × Int × Int × Int × Int × Int × (Arr 4 (UInt64))} {x35 : Bool} {r : (Int × Int × Int × Int × Int × Int × (Arr 4 (UInt64)))} (h : tree_plain_j2_ev fuel nv1 x35 = some r) : tree_plain_j2 nv1 x35 r := by
  unfold tree_plain_j2_ev at h
  unfold tree_plain_j2
  refine ⟨fun g1 => ?_, fun g1 => ?_⟩
  · rw [if_pos g1] at h
    exact tree_plain_j1_ok h
  · rw [if_neg g1] at h
    refine ⟨fun g2 => ?_, fun g2 => ?_⟩
    · rw [if_pos g2] at h
      exact tree_plain_j1_ok h
    · rw [if_neg g2] at h
      refine ⟨fun g3 => ?_, fun g3 => ?_⟩
      · rw [if_pos g3] at h
        exact tree_plain_j1_ok h
      · rw [if_neg g3] at h
        refine ⟨fun g4 => ?_, fun g4 => ?_⟩
        · rw [if_pos g4] at h
          exact tree_plain_j1_ok h
        · rw [if_neg g4] at h
          exact tree_plain_j1_ok h
def tree_plain_ev (fuel : Nat) (nv1 : Int × Int × Int × Int × Int × Int × (Arr 4 (UInt64))) : Option ((Int × Int × Int × Int × Int × Int × (Arr 4 (UInt64)))) :=
  (if nv1.1 = 1 then tree_plain_j1_ev fuel nv1 0 0 0 0 0 nv1.2.2.2.2.2.2 else (if nv1.1 = 2 then tree_plain_j2_ev fuel nv1 (decide (nv1.1 = 2)) else tree_plain_j2_ev fuel nv1 (decide (nv1.1 = 3))))
theorem tree_plain_ok {fuel : Nat} {nv1 : Int × Int × Int × Int × Int × Int × (Arr 4 (UInt64))} {r : (Int × Int × Int × Int × Int × Int × (Arr 4 (UInt64)))} (h : tree_plain_ev fuel nv1 = some r) : tree_plain_R nv1 r := by
  unfold tree_plain_ev at h
  unfold tree_plain_R
  refine ⟨fun g5 => ?_, fun g5 => ?_⟩
  · rw [if_pos g5] at h
    exact tree_plain_j1_ok h
  · rw [if_neg g5] at h
    refine ⟨fun g6 => ?_, fun g6 => ?_⟩
    · rw [if_pos g6] at h
      exact tree_plain_j2_ok h
    · rw [if_neg g6] at h
      exact tree_plain_j2_ok h
set_option maxHeartbeats 4000000 in
theorem tree_plain_con (nv1 : Int × Int × Int × Int × Int × Int × (Arr 4 (UInt64))) (r : (Int × Int × Int × Int × Int × Int × (Arr 4 (UInt64)))) (h : tree_plain_R nv1 r) : Con Try.prog 23 [.agg ([.v (.int .i64 nv1.1), .v (.int .i64 nv1.2.1), .v (.int .i64 nv1.2.2.1), .v (.int .i64 nv1.2.2.2.1), .v (.int .i64 nv1.2.2.2.2.1), .v (.int .i64 nv1.2.2.2.2.2.1)] ++ (List.map ew nv1.2.2.2.2.2.2.l).flatten)] [] [] (Ret (.agg ([.v (.int .i64 r.1), .v (.int .i64 r.2.1), .v (.int .i64 r.2.2.1), .v (.int .i64 r.2.2.2.1), .v (.int .i64 r.2.2.2.2.1), .v (.int .i64 r.2.2.2.2.2.1)] ++ (List.map ew r.2.2.2.2.2.2.l).flatten))) := by
  refine xenter Try.func23 rfl rfl fun g hg => ?_
  simp only [Try.ntmps23, slots]
  refine xseq ?_
  refine xregion ?_
  refine xbox rfl rfl rfl rfl fun b1 => ?_
  refine xalloc InfC.h rfl rfl fun b2 => ?_
  refine xreb 0 ([.v (.int .i64 0), .v (.int .i64 0), .v (.int .i64 0), .v (.int .i64 0), .v (.int .i64 0), .v (.int .i64 0)] ++ (List.map ew ((Arr.rep 4 (0 : UInt64))).l).flatten) rfl rfl ?_
  refine xnil ?_
  refine xthen ?_
  refine xseq ?_
  refine xregion ?_
  refine xvalP (qv_fieldAddrB FldC.h rfl) rfl rfl ?_
  refine xval (qv_loadB 1 ShpC.h rfl rfl rfl rfl) rfl rfl ?_
  refine xvalP (pv_buildC (cs := ([.v (.int .i64 nv1.1), .v (.int .i64 0), .v (.int .i64 0), .v (.int .i64 0), .v (.int .i64 0), .v (.int .i64 0)] ++ (List.map ew ((Arr.rep 4 (0 : UInt64))).l).flatten)) StrC.h rfl (by refine fill_step [] [.v (.int .i64 0)] ([.v (.int .i64 0), .v (.int .i64 0), .v (.int .i64 0), .v (.int .i64 0), .v (.int .i64 0)] ++ (List.map ew ((Arr.rep 4 (0 : UInt64))).l).flatten) (by first | rfl | exact (List.append_nil _).symm | exact List.append_nil _ | exact List.append_assoc _ _ _ | exact (List.append_assoc _ _ _).symm | exact congrArg _ (List.append_nil _).symm | exact congrArg _ (List.append_nil _) | (simp; done) | (simp [cellsS]; done)) (by first | rfl | exact seg_lenE (by rfl) | exact len_app rfl (seg_lenE (by rfl)) (by rfl) | exact len_app (seg_lenE (by rfl)) rfl (by rfl) | exact len_app rfl (len_app (seg_lenE (by rfl)) rfl (by rfl)) (by rfl) | (simp only [seg_len, cellsS, List.length_append, List.length_cons, List.length_nil]; done) | (simp only [seg_len, cellsS, List.length_append, List.length_cons, List.length_nil]; rfl)) (by first | rfl | exact seg_lenE (by rfl) | exact len_app rfl (seg_lenE (by rfl)) (by rfl) | exact len_app (seg_lenE (by rfl)) rfl (by rfl) | exact len_app rfl (len_app (seg_lenE (by rfl)) rfl (by rfl)) (by rfl) | (simp only [seg_len, cellsS, List.length_append, List.length_cons, List.length_nil]; done) | (simp only [seg_len, cellsS, List.length_append, List.length_cons, List.length_nil]; rfl)) (by first | rfl | exact seg_lenE (by rfl) | exact len_app rfl (seg_lenE (by rfl)) (by rfl) | exact len_app (seg_lenE (by rfl)) rfl (by rfl) | exact len_app rfl (len_app (seg_lenE (by rfl)) rfl (by rfl)) (by rfl) | (simp only [seg_len, cellsS, List.length_append, List.length_cons, List.length_nil]; done) | (simp only [seg_len, cellsS, List.length_append, List.length_cons, List.length_nil]; rfl)) rfl rfl ?_; exact congrArg some (by first | rfl | exact (List.append_nil _).symm | exact List.append_nil _ | exact List.append_assoc _ _ _ | exact (List.append_assoc _ _ _).symm | exact congrArg _ (List.append_nil _).symm | exact congrArg _ (List.append_nil _) | (simp; done) | (simp [cellsS]; done)))) rfl rfl ?_
  refine xalloc InfC.h rfl rfl fun b3 => ?_
  refine xreb 0 ([.v (.int .i64 0), .v (.int .i64 0), .v (.int .i64 0), .v (.int .i64 0), .v (.int .i64 0), .v (.int .i64 0)] ++ (List.map ew ((Arr.rep 4 (0 : UInt64))).l).flatten) rfl rfl ?_
  refine xstoreP 0 [] ([.v (.int .i64 0), .v (.int .i64 0), .v (.int .i64 0), .v (.int .i64 0), .v (.int .i64 0), .v (.int .i64 0)] ++ (List.map ew ((Arr.rep 4 (0 : UInt64))).l).flatten) [] (by first | rfl | exact (List.append_nil _).symm | exact List.append_nil _ | exact List.append_assoc _ _ _ | exact (List.append_assoc _ _ _).symm | exact congrArg _ (List.append_nil _).symm | exact congrArg _ (List.append_nil _) | (simp; done) | (simp [cellsS]; done)) (by first | rfl | exact seg_lenE (by rfl) | exact len_app rfl (seg_lenE (by rfl)) (by rfl) | exact len_app (seg_lenE (by rfl)) rfl (by rfl) | exact len_app rfl (len_app (seg_lenE (by rfl)) rfl (by rfl)) (by rfl) | (simp only [seg_len, cellsS, List.length_append, List.length_cons, List.length_nil]; done) | (simp only [seg_len, cellsS, List.length_append, List.length_cons, List.length_nil]; rfl)) (by first | rfl | exact seg_lenE (by rfl) | exact len_app rfl (seg_lenE (by rfl)) (by rfl) | exact len_app (seg_lenE (by rfl)) rfl (by rfl) | exact len_app rfl (len_app (seg_lenE (by rfl)) rfl (by rfl)) (by rfl) | (simp only [seg_len, cellsS, List.length_append, List.length_cons, List.length_nil]; done) | (simp only [seg_len, cellsS, List.length_append, List.length_cons, List.length_nil]; rfl)) ShpC.h rfl rfl rfl rfl (by first | rfl | exact seg_lenE (by rfl) | exact len_app rfl (seg_lenE (by rfl)) (by rfl) | exact len_app (seg_lenE (by rfl)) rfl (by rfl) | exact len_app rfl (len_app (seg_lenE (by rfl)) rfl (by rfl)) (by rfl) | (simp only [seg_len, cellsS, List.length_append, List.length_cons, List.length_nil]; done) | (simp only [seg_len, cellsS, List.length_append, List.length_cons, List.length_nil]; rfl)) rfl ?_
  refine xreb 0 ([.v (.int .i64 nv1.1), .v (.int .i64 0), .v (.int .i64 0), .v (.int .i64 0), .v (.int .i64 0), .v (.int .i64 0)] ++ (List.map ew ((Arr.rep 4 (0 : UInt64))).l).flatten) rfl (by first | rfl | exact (List.append_nil _).symm | exact List.append_nil _ | exact List.append_assoc _ _ _ | exact (List.append_assoc _ _ _).symm | exact congrArg _ (List.append_nil _).symm | exact congrArg _ (List.append_nil _) | (simp; done) | (simp [cellsS]; done)) ?_
  refine xnil ?_
  refine xthen ?_
  refine xseqM (fun σ => ∃ (f24 : Int), ∃ (f25 : Int), ∃ (f26 : Int), ∃ (f27 : Int), ∃ (f28 : Int), ∃ (f29 : Arr 4 (UInt64)), tree_plain_j1 nv1 f24 f25 f26 f27 f28 f29 r ∧ σ = ⟨[(2, .v (.pointer (some ⟨b2, 0, none⟩))), (3, .v (.pointer (some ⟨b3, 0, none⟩)))], [⟨b3, 42, ([.v (.int .i64 nv1.1), .v (.int .i64 f24), .v (.int .i64 f25), .v (.int .i64 f26), .v (.int .i64 f27), .v (.int .i64 f28)] ++ (List.map ew f29.l).flatten)⟩, ⟨b2, 42, ([.v (.int .i64 0), .v (.int .i64 0), .v (.int .i64 0), .v (.int .i64 0), .v (.int .i64 0), .v (.int .i64 0)] ++ (List.map ew ((Arr.rep 4 (0 : UInt64))).l).flatten)⟩], []⟩) ?_ ?_
  · refine xseq ?_
    refine xregion ?_
    refine xvalP (qv_fieldAddrB FldC.h rfl) rfl rfl ?_
    refine xval (qv_loadB 2 ShpC.h rfl rfl rfl rfl) rfl rfl ?_
    refine xnil ?_
    refine xthen ?_
    refine xblock ?_
    refine xseq ?_
    refine xregion ?_
    refine xvalP (pv_bin2 rfl rfl rfl) rfl rfl ?_
    refine xvalP (pv_assign rfl) rfl rfl ?_
    refine xnil ?_
    refine xthen ?_
    by_cases hp31 : nv1.1 = 1
    · replace h := h.1 hp31
      refine xcondT' (decide_eq_true hp31) rfl ?_
      refine xregion ?_
      refine xvalP (qv_fieldAddrB FldC.h rfl) rfl rfl ?_
      refine xval (qv_loadP 2 [.v (.int .i64 nv1.1), .v (.int .i64 nv1.2.1), .v (.int .i64 nv1.2.2.1), .v (.int .i64 nv1.2.2.2.1), .v (.int .i64 nv1.2.2.2.2.1), .v (.int .i64 nv1.2.2.2.2.2.1)] ((List.map ew nv1.2.2.2.2.2.2.l).flatten) [] (by first | rfl | exact (List.append_nil _).symm | exact List.append_nil _ | exact List.append_assoc _ _ _ | exact (List.append_assoc _ _ _).symm | exact congrArg _ (List.append_nil _).symm | exact congrArg _ (List.append_nil _) | (simp; done) | (simp [cellsS]; done)) (by first | rfl | exact seg_lenE (by rfl) | exact len_app rfl (seg_lenE (by rfl)) (by rfl) | exact len_app (seg_lenE (by rfl)) rfl (by rfl) | exact len_app rfl (len_app (seg_lenE (by rfl)) rfl (by rfl)) (by rfl) | (simp only [seg_len, cellsS, List.length_append, List.length_cons, List.length_nil]; done) | (simp only [seg_len, cellsS, List.length_append, List.length_cons, List.length_nil]; rfl)) (by first | rfl | exact seg_lenE (by rfl) | exact len_app rfl (seg_lenE (by rfl)) (by rfl) | exact len_app (seg_lenE (by rfl)) rfl (by rfl) | exact len_app rfl (len_app (seg_lenE (by rfl)) rfl (by rfl)) (by rfl) | (simp only [seg_len, cellsS, List.length_append, List.length_cons, List.length_nil]; done) | (simp only [seg_len, cellsS, List.length_append, List.length_cons, List.length_nil]; rfl)) (part_all (seg_lenE (by rfl))) ShpC.h rfl rfl) rfl rfl ?_
      refine xvalP (qv_fieldAddrB FldC.h rfl) rfl rfl ?_
      refine xstoreP 0 [.v (.int .i64 nv1.1), .v (.int .i64 0), .v (.int .i64 0), .v (.int .i64 0), .v (.int .i64 0), .v (.int .i64 0)] ((List.map ew ((Arr.rep 4 (0 : UInt64))).l).flatten) [] (by first | rfl | exact (List.append_nil _).symm | exact List.append_nil _ | exact List.append_assoc _ _ _ | exact (List.append_assoc _ _ _).symm | exact congrArg _ (List.append_nil _).symm | exact congrArg _ (List.append_nil _) | (simp; done) | (simp [cellsS]; done)) (by first | rfl | exact seg_lenE (by rfl) | exact len_app rfl (seg_lenE (by rfl)) (by rfl) | exact len_app (seg_lenE (by rfl)) rfl (by rfl) | exact len_app rfl (len_app (seg_lenE (by rfl)) rfl (by rfl)) (by rfl) | (simp only [seg_len, cellsS, List.length_append, List.length_cons, List.length_nil]; done) | (simp only [seg_len, cellsS, List.length_append, List.length_cons, List.length_nil]; rfl)) (by first | rfl | exact seg_lenE (by rfl) | exact len_app rfl (seg_lenE (by rfl)) (by rfl) | exact len_app (seg_lenE (by rfl)) rfl (by rfl) | exact len_app rfl (len_app (seg_lenE (by rfl)) rfl (by rfl)) (by rfl) | (simp only [seg_len, cellsS, List.length_append, List.length_cons, List.length_nil]; done) | (simp only [seg_len, cellsS, List.length_append, List.length_cons, List.length_nil]; rfl)) ShpC.h rfl rfl rfl rfl (by first | rfl | exact seg_lenE (by rfl) | exact len_app rfl (seg_lenE (by rfl)) (by rfl) | exact len_app (seg_lenE (by rfl)) rfl (by rfl) | exact len_app rfl (len_app (seg_lenE (by rfl)) rfl (by rfl)) (by rfl) | (simp only [seg_len, cellsS, List.length_append, List.length_cons, List.length_nil]; done) | (simp only [seg_len, cellsS, List.length_append, List.length_cons, List.length_nil]; rfl)) rfl ?_
      refine xreb 0 ([.v (.int .i64 nv1.1), .v (.int .i64 0), .v (.int .i64 0), .v (.int .i64 0), .v (.int .i64 0), .v (.int .i64 0)] ++ (List.map ew nv1.2.2.2.2.2.2.l).flatten) rfl (by first | rfl | exact (List.append_nil _).symm | exact List.append_nil _ | exact List.append_assoc _ _ _ | exact (List.append_assoc _ _ _).symm | exact congrArg _ (List.append_nil _).symm | exact congrArg _ (List.append_nil _) | (simp; done) | (simp [cellsS]; done)) ?_
      refine xnil ?_
      refine xin_normal ?_
      exact xmeet ⟨0, 0, 0, 0, 0, nv1.2.2.2.2.2.2, h, rfl⟩ ⟨(.cons rfl (.refl _) (.cons rfl (.refl _) (.nil _))), (SubM.of (.keep rfl rfl (.refl _) (.keep rfl rfl (.refl _) (.nil _))) (.nil _))⟩
    · replace h := h.2 hp31
      refine xcondF' (decide_eq_false hp31) rfl ?_
      refine xseqM (fun σ => ∃ (x35 : Bool), tree_plain_j2 nv1 x35 r ∧ σ = ⟨[(1, .v (.pointer (some ⟨b1, 0, none⟩))), (2, .v (.pointer (some ⟨b2, 0, none⟩))), (3, .v (.pointer (some ⟨b3, 0, none⟩))), (8, .v (.int .i64 nv1.1)), (14, .v (.bool x35))], [⟨b3, 42, ([.v (.int .i64 nv1.1), .v (.int .i64 0), .v (.int .i64 0), .v (.int .i64 0), .v (.int .i64 0), .v (.int .i64 0)] ++ (List.map ew ((Arr.rep 4 (0 : UInt64))).l).flatten)⟩, ⟨b2, 42, ([.v (.int .i64 0), .v (.int .i64 0), .v (.int .i64 0), .v (.int .i64 0), .v (.int .i64 0), .v (.int .i64 0)] ++ (List.map ew ((Arr.rep 4 (0 : UInt64))).l).flatten)⟩, ⟨b1, 42, ([.v (.int .i64 nv1.1), .v (.int .i64 nv1.2.1), .v (.int .i64 nv1.2.2.1), .v (.int .i64 nv1.2.2.2.1), .v (.int .i64 nv1.2.2.2.2.1), .v (.int .i64 nv1.2.2.2.2.2.1)] ++ (List.map ew nv1.2.2.2.2.2.2.l).flatten)⟩], []⟩) ?_ ?_
      · refine xseq ?_
        refine xregion ?_
        refine xvalP (pv_bin2 rfl rfl rfl) rfl rfl ?_
        refine xvalP (pv_assign rfl) rfl rfl ?_
        refine xnil ?_
        refine xthen ?_
        by_cases hp37 : nv1.1 = 2
        · replace h := h.1 hp37
          refine xcondT' (decide_eq_true hp37) rfl ?_
          refine xskipc ?_
          exact xmeet ⟨(decide (nv1.1 = 2)), h, rfl⟩ ⟨(.cons rfl (.refl _) (.cons rfl (.refl _) (.cons rfl (.refl _) (.cons rfl (.refl _) (.cons rfl (.refl _) (.nil _)))))), (SubM.of (.keep rfl rfl (.refl _) (.keep rfl rfl (.refl _) (.keep rfl rfl (.refl _) (.nil _)))) (.nil _))⟩
        · replace h := h.2 hp37
          refine xcondF' (decide_eq_false hp37) rfl ?_
          refine xregion ?_
          refine xvalP (pv_bin2 rfl rfl rfl) rfl rfl ?_
          refine xvalP (pv_assign rfl) rfl rfl ?_
          refine xnil ?_
          exact xmeet ⟨(decide (nv1.1 = 3)), h, rfl⟩ ⟨(.cons rfl (.refl _) (.cons rfl (.refl _) (.cons rfl (.refl _) (.cons rfl (.refl _) (.cons rfl (.refl _) (.nil _)))))), (SubM.of (.keep rfl rfl (.refl _) (.keep rfl rfl (.refl _) (.keep rfl rfl (.refl _) (.nil _)))) (.nil _))⟩
      · clear h
        rintro _ ⟨x35, h, rfl⟩
        by_cases hp39 : x35 = true
        · replace h := h.1 hp39
          refine xcondT' hp39 rfl ?_
          refine xregionD (m := 8) (by kernel_rfl) rfl ?_
          refine xpcut 1 #[true, true, true, true, true, true, true, false] (fun σ => σ = ⟨[(2, .v (.pointer (some ⟨b2, 0, none⟩))), (3, .v (.pointer (some ⟨b3, 0, none⟩))), (20, .v (.int .i64 nv1.2.2.1)), (22, .v (.pointer (some ⟨b3, 2, none⟩)))], [⟨b3, 42, ([.v (.int .i64 nv1.1), .v (.int .i64 nv1.2.1), .v (.int .i64 0), .v (.int .i64 0), .v (.int .i64 0), .v (.int .i64 0)] ++ (List.map ew ((Arr.rep 4 (0 : UInt64))).l).flatten)⟩, ⟨b2, 42, ([.v (.int .i64 0), .v (.int .i64 0), .v (.int .i64 0), .v (.int .i64 0), .v (.int .i64 0), .v (.int .i64 0)] ++ (List.map ew ((Arr.rep 4 (0 : UInt64))).l).flatten)⟩], []⟩) ?_ (fun key40 => ?_)
          · rintro _ rfl
            refine xpstep (i := 7) (by kernel_rfl) rfl ?_
            refine wstore 0 ShpC.h rfl rfl rfl rfl rfl rfl rfl ?_
            refine xpdone (by kernel_rfl) ?_
            refine xin_normal ?_
            exact xmeet ⟨nv1.2.1, nv1.2.2.1, 0, 0, 0, (Arr.rep 4 (0 : UInt64)), h, rfl⟩ ⟨(.cons rfl (.refl _) (.cons rfl (.refl _) (.nil _))), (SubM.of (.keep rfl rfl (.refl _) (.keep rfl rfl (.refl _) (.nil _))) (.nil _))⟩
          refine xpval 0 rfl (qv_fieldAddrB FldC.h rfl) rfl rfl (by kernel_rfl) (by kernel_rfl) (by kernel_rfl) (fun _ _ _ _ h => h) ?_
          refine xpval 2 rfl (qv_fieldAddrB FldC.h rfl) rfl rfl (by kernel_rfl) (by kernel_rfl) (by kernel_rfl) (fun _ _ _ _ h => h) ?_
          refine xpvalE 1 [3] rfl (qv_loadB 2 ShpC.h rfl rfl rfl rfl) rfl rfl (by kernel_rfl) (by kernel_rfl) (by kernel_rfl) (fun _ _ _ _ h => h) ?_
          refine xpval 4 rfl (qv_fieldAddrB FldC.h rfl) rfl rfl (by kernel_rfl) (by kernel_rfl) (by kernel_rfl) (fun _ _ _ _ h => h) ?_
          refine xpstepN (is := [3, 5]) (by kernel_rfl) (by simp) ?_
          intro i hi; simp only [List.mem_cons, List.not_mem_nil, or_false] at hi; rcases hi with rfl | rfl
          · refine ⟨_, rfl, ?_⟩
            refine wval (qv_loadB 2 ShpC.h rfl rfl rfl rfl) rfl rfl ?_
            refine xpstep (i := 5) (by kernel_rfl) rfl ?_
            refine wstore 0 ShpC.h rfl rfl rfl rfl rfl rfl rfl ?_
            refine xpval 6 rfl (qv_fieldAddrB FldC.h rfl) rfl rfl (by kernel_rfl) (by kernel_rfl) (by kernel_rfl) (fun _ _ _ _ h => h) ?_
            exact xpuse key40 rfl ⟨(.cons rfl (.refl _) (.cons rfl (.refl _) (.cons rfl (.refl _) (.cons rfl (.refl _) (.nil _))))), (SubM.of (.keep rfl rfl (.refl _) (.keep rfl rfl (.refl _) (.nil _))) (.nil _))⟩ rfl (by kernel_rfl)
          · refine ⟨_, rfl, ?_⟩
            refine wstore 0 ShpC.h rfl rfl rfl rfl rfl rfl rfl ?_
            refine xpvalE 3 [] rfl (qv_loadB 2 ShpC.h rfl rfl rfl rfl) rfl rfl (by kernel_rfl) (by kernel_rfl) (by kernel_rfl) (fun _ _ _ _ h => h) ?_
            refine xpval 6 rfl (qv_fieldAddrB FldC.h rfl) rfl rfl (by kernel_rfl) (by kernel_rfl) (by kernel_rfl) (fun _ _ _ _ h => h) ?_
            exact xpuse key40 rfl ⟨(.cons rfl (.refl _) (.cons rfl (.refl _) (.cons rfl (.refl _) (.cons rfl (.refl _) (.nil _))))), (SubM.of (.keep rfl rfl (.refl _) (.keep rfl rfl (.refl _) (.nil _))) (.nil _))⟩ rfl (by kernel_rfl)
        · replace h := h.2 hp39
          refine xcondF' (b_f hp39) rfl ?_
          refine xseq ?_
          refine xregion ?_
          refine xvalP (pv_bin2 rfl rfl rfl) rfl rfl ?_
          refine xvalP (pv_assign rfl) rfl rfl ?_
          refine xnil ?_
          refine xthen ?_
          by_cases hp42 : nv1.1 = 4
          · replace h := h.1 hp42
            refine xcondT' (decide_eq_true hp42) rfl ?_
            refine xregionD (m := 12) (by kernel_rfl) rfl ?_
            refine xpcut 1 #[true, true, true, true, true, true, true, true, true, true, true, false] (fun σ => σ = ⟨[(2, .v (.pointer (some ⟨b2, 0, none⟩))), (3, .v (.pointer (some ⟨b3, 0, none⟩))), (30, .v (.int .i64 nv1.2.2.2.2.1)), (33, .v (.pointer (some ⟨b3, 4, none⟩)))], [⟨b3, 42, ([.v (.int .i64 nv1.1), .v (.int .i64 nv1.2.1), .v (.int .i64 0), .v (.int .i64 nv1.2.2.2.1), .v (.int .i64 0), .v (.int .i64 0)] ++ (List.map ew ((Arr.rep 4 (0 : UInt64))).l).flatten)⟩, ⟨b2, 42, ([.v (.int .i64 0), .v (.int .i64 0), .v (.int .i64 0), .v (.int .i64 0), .v (.int .i64 0), .v (.int .i64 0)] ++ (List.map ew ((Arr.rep 4 (0 : UInt64))).l).flatten)⟩], []⟩) ?_ (fun key43 => ?_)
            · rintro _ rfl
              refine xpstep (i := 11) (by kernel_rfl) rfl ?_
              refine wstore 0 ShpC.h rfl rfl rfl rfl rfl rfl rfl ?_
              refine xpdone (by kernel_rfl) ?_
              refine xin_normal ?_
              exact xmeet ⟨nv1.2.1, 0, nv1.2.2.2.1, nv1.2.2.2.2.1, 0, (Arr.rep 4 (0 : UInt64)), h, rfl⟩ ⟨(.cons rfl (.refl _) (.cons rfl (.refl _) (.nil _))), (SubM.of (.keep rfl rfl (.refl _) (.keep rfl rfl (.refl _) (.nil _))) (.nil _))⟩
            refine xpcut 3 #[true, true, true, true, true, true, true, true, true, false, false, false] (fun σ => σ = ⟨[(2, .v (.pointer (some ⟨b2, 0, none⟩))), (3, .v (.pointer (some ⟨b3, 0, none⟩))), (28, .v (.int .i64 nv1.2.2.2.1)), (30, .v (.int .i64 nv1.2.2.2.2.1)), (32, .v (.pointer (some ⟨b3, 3, none⟩)))], [⟨b3, 42, ([.v (.int .i64 nv1.1), .v (.int .i64 nv1.2.1), .v (.int .i64 0), .v (.int .i64 0), .v (.int .i64 0), .v (.int .i64 0)] ++ (List.map ew ((Arr.rep 4 (0 : UInt64))).l).flatten)⟩, ⟨b2, 42, ([.v (.int .i64 0), .v (.int .i64 0), .v (.int .i64 0), .v (.int .i64 0), .v (.int .i64 0), .v (.int .i64 0)] ++ (List.map ew ((Arr.rep 4 (0 : UInt64))).l).flatten)⟩], []⟩) ?_ (fun key44 => ?_)
            · rintro _ rfl
              refine xpstep (i := 9) (by kernel_rfl) rfl ?_
              refine wstore 0 ShpC.h rfl rfl rfl rfl rfl rfl rfl ?_
              refine xpval 10 rfl (qv_fieldAddrB FldC.h rfl) rfl rfl (by kernel_rfl) (by kernel_rfl) (by kernel_rfl) (fun _ _ _ _ h => h) ?_
              exact xpuse key43 rfl ⟨(.cons rfl (.refl _) (.cons rfl (.refl _) (.cons rfl (.refl _) (.cons rfl (.refl _) (.nil _))))), (SubM.of (.keep rfl rfl (.refl _) (.keep rfl rfl (.refl _) (.nil _))) (.nil _))⟩ rfl (by kernel_rfl)
            refine xpcut 4 #[true, true, true, true, true, false, true, true, true, false, false, false] (fun σ => σ = ⟨[(2, .v (.pointer (some ⟨b2, 0, none⟩))), (3, .v (.pointer (some ⟨b3, 0, none⟩))), (28, .v (.int .i64 nv1.2.2.2.1)), (29, .v (.pointer (some ⟨b1, 4, none⟩))), (32, .v (.pointer (some ⟨b3, 3, none⟩)))], [⟨b3, 42, ([.v (.int .i64 nv1.1), .v (.int .i64 nv1.2.1), .v (.int .i64 0), .v (.int .i64 0), .v (.int .i64 0), .v (.int .i64 0)] ++ (List.map ew ((Arr.rep 4 (0 : UInt64))).l).flatten)⟩, ⟨b2, 42, ([.v (.int .i64 0), .v (.int .i64 0), .v (.int .i64 0), .v (.int .i64 0), .v (.int .i64 0), .v (.int .i64 0)] ++ (List.map ew ((Arr.rep 4 (0 : UInt64))).l).flatten)⟩, ⟨b1, 42, ([.v (.int .i64 nv1.1), .v (.int .i64 nv1.2.1), .v (.int .i64 nv1.2.2.1), .v (.int .i64 nv1.2.2.2.1), .v (.int .i64 nv1.2.2.2.2.1), .v (.int .i64 nv1.2.2.2.2.2.1)] ++ (List.map ew nv1.2.2.2.2.2.2.l).flatten)⟩], []⟩) ?_ (fun key45 => ?_)
            · rintro _ rfl
              refine xpstepN (is := [5, 9]) (by kernel_rfl) (by simp) ?_
              intro i hi; simp only [List.mem_cons, List.not_mem_nil, or_false] at hi; rcases hi with rfl | rfl
              · refine ⟨_, rfl, ?_⟩
                refine wval (qv_loadB 2 ShpC.h rfl rfl rfl rfl) rfl rfl ?_
                exact xpuse key44 rfl ⟨(.cons rfl (.refl _) (.cons rfl (.refl _) (.cons rfl (.refl _) (.cons rfl (.refl _) (.cons rfl (.refl _) (.nil _)))))), (SubM.of (.keep rfl rfl (.refl _) (.keep rfl rfl (.refl _) (.nil _))) (.nil _))⟩ rfl (by kernel_rfl)
              · refine ⟨_, rfl, ?_⟩
                refine wstore 0 ShpC.h rfl rfl rfl rfl rfl rfl rfl ?_
                refine xpvalE 5 [] rfl (qv_loadB 2 ShpC.h rfl rfl rfl rfl) rfl rfl (by kernel_rfl) (by kernel_rfl) (by kernel_rfl) (fun _ _ _ _ h => h) ?_
                refine xpval 10 rfl (qv_fieldAddrB FldC.h rfl) rfl rfl (by kernel_rfl) (by kernel_rfl) (by kernel_rfl) (fun _ _ _ _ h => h) ?_
                exact xpuse key43 rfl ⟨(.cons rfl (.refl _) (.cons rfl (.refl _) (.cons rfl (.refl _) (.cons rfl (.refl _) (.nil _))))), (SubM.of (.keep rfl rfl (.refl _) (.keep rfl rfl (.refl _) (.nil _))) (.nil _))⟩ rfl (by kernel_rfl)
            refine xpcut 5 #[true, true, true, true, true, true, true, false, false, false, false, false] (fun σ => σ = ⟨[(2, .v (.pointer (some ⟨b2, 0, none⟩))), (3, .v (.pointer (some ⟨b3, 0, none⟩))), (26, .v (.int .i64 nv1.2.1)), (28, .v (.int .i64 nv1.2.2.2.1)), (30, .v (.int .i64 nv1.2.2.2.2.1)), (31, .v (.pointer (some ⟨b3, 1, none⟩)))], [⟨b3, 42, ([.v (.int .i64 nv1.1), .v (.int .i64 0), .v (.int .i64 0), .v (.int .i64 0), .v (.int .i64 0), .v (.int .i64 0)] ++ (List.map ew ((Arr.rep 4 (0 : UInt64))).l).flatten)⟩, ⟨b2, 42, ([.v (.int .i64 0), .v (.int .i64 0), .v (.int .i64 0), .v (.int .i64 0), .v (.int .i64 0), .v (.int .i64 0)] ++ (List.map ew ((Arr.rep 4 (0 : UInt64))).l).flatten)⟩], []⟩) ?_ (fun key46 => ?_)
            · rintro _ rfl
              refine xpstep (i := 7) (by kernel_rfl) rfl ?_
              refine wstore 0 ShpC.h rfl rfl rfl rfl rfl rfl rfl ?_
              refine xpval 8 rfl (qv_fieldAddrB FldC.h rfl) rfl rfl (by kernel_rfl) (by kernel_rfl) (by kernel_rfl) (fun _ _ _ _ h => h) ?_
              exact xpuse key44 rfl ⟨(.cons rfl (.refl _) (.cons rfl (.refl _) (.cons rfl (.refl _) (.cons rfl (.refl _) (.cons rfl (.refl _) (.nil _)))))), (SubM.of (.keep rfl rfl (.refl _) (.keep rfl rfl (.refl _) (.nil _))) (.nil _))⟩ rfl (by kernel_rfl)
            refine xpval 0 rfl (qv_fieldAddrB FldC.h rfl) rfl rfl (by kernel_rfl) (by kernel_rfl) (by kernel_rfl) (fun _ _ _ _ h => h) ?_
            refine xpval 2 rfl (qv_fieldAddrB FldC.h rfl) rfl rfl (by kernel_rfl) (by kernel_rfl) (by kernel_rfl) (fun _ _ _ _ h => h) ?_
            refine xpval 4 rfl (qv_fieldAddrB FldC.h rfl) rfl rfl (by kernel_rfl) (by kernel_rfl) (by kernel_rfl) (fun _ _ _ _ h => h) ?_
            refine xpvalE 1 [3, 5] rfl (qv_loadB 2 ShpC.h rfl rfl rfl rfl) rfl rfl (by kernel_rfl) (by kernel_rfl) (by kernel_rfl) (fun _ _ _ _ h => h) ?_
            refine xpval 6 rfl (qv_fieldAddrB FldC.h rfl) rfl rfl (by kernel_rfl) (by kernel_rfl) (by kernel_rfl) (fun _ _ _ _ h => h) ?_
            refine xpstepN (is := [3, 5, 7]) (by kernel_rfl) (by simp) ?_
            intro i hi; simp only [List.mem_cons, List.not_mem_nil, or_false] at hi; rcases hi with rfl | rfl | rfl
            · refine ⟨_, rfl, ?_⟩
              refine wval (qv_loadB 2 ShpC.h rfl rfl rfl rfl) rfl rfl ?_
              refine xpstepN (is := [5, 7]) (by kernel_rfl) (by simp) ?_
              intro i hi; simp only [List.mem_cons, List.not_mem_nil, or_false] at hi; rcases hi with rfl | rfl
              · refine ⟨_, rfl, ?_⟩
                refine wval (qv_loadB 2 ShpC.h rfl rfl rfl rfl) rfl rfl ?_
                exact xpuse key46 rfl ⟨(.cons rfl (.refl _) (.cons rfl (.refl _) (.cons rfl (.refl _) (.cons rfl (.refl _) (.cons rfl (.refl _) (.cons rfl (.refl _) (.nil _))))))), (SubM.of (.keep rfl rfl (.refl _) (.keep rfl rfl (.refl _) (.nil _))) (.nil _))⟩ rfl (by kernel_rfl)
              · refine ⟨_, rfl, ?_⟩
                refine wstore 0 ShpC.h rfl rfl rfl rfl rfl rfl rfl ?_
                refine xpval 8 rfl (qv_fieldAddrB FldC.h rfl) rfl rfl (by kernel_rfl) (by kernel_rfl) (by kernel_rfl) (fun _ _ _ _ h => h) ?_
                exact xpuse key45 rfl ⟨(.cons rfl (.refl _) (.cons rfl (.refl _) (.cons rfl (.refl _) (.cons rfl (.refl _) (.cons rfl (.refl _) (.nil _)))))), (SubM.of (.keep rfl rfl (.refl _) (.keep rfl rfl (.refl _) (.keep rfl rfl (.refl _) (.nil _)))) (.nil _))⟩ rfl (by kernel_rfl)
            · refine ⟨_, rfl, ?_⟩
              refine wval (qv_loadB 2 ShpC.h rfl rfl rfl rfl) rfl rfl ?_
              refine xpstepN (is := [3, 7]) (by kernel_rfl) (by simp) ?_
              intro i hi; simp only [List.mem_cons, List.not_mem_nil, or_false] at hi; rcases hi with rfl | rfl
              · refine ⟨_, rfl, ?_⟩
                refine wval (qv_loadB 2 ShpC.h rfl rfl rfl rfl) rfl rfl ?_
                exact xpuse key46 rfl ⟨(.cons rfl (.refl _) (.cons rfl (.refl _) (.cons rfl (.refl _) (.cons rfl (.refl _) (.cons rfl (.refl _) (.cons rfl (.refl _) (.nil _))))))), (SubM.of (.keep rfl rfl (.refl _) (.keep rfl rfl (.refl _) (.nil _))) (.nil _))⟩ rfl (by kernel_rfl)
              · refine ⟨_, rfl, ?_⟩
                refine wstore 0 ShpC.h rfl rfl rfl rfl rfl rfl rfl ?_
                refine xpvalE 3 [] rfl (qv_loadB 2 ShpC.h rfl rfl rfl rfl) rfl rfl (by kernel_rfl) (by kernel_rfl) (by kernel_rfl) (fun _ _ _ _ h => h) ?_
                refine xpval 8 rfl (qv_fieldAddrB FldC.h rfl) rfl rfl (by kernel_rfl) (by kernel_rfl) (by kernel_rfl) (fun _ _ _ _ h => h) ?_
                exact xpuse key44 rfl ⟨(.cons rfl (.refl _) (.cons rfl (.refl _) (.cons rfl (.refl _) (.cons rfl (.refl _) (.cons rfl (.refl _) (.nil _)))))), (SubM.of (.keep rfl rfl (.refl _) (.keep rfl rfl (.refl _) (.nil _))) (.nil _))⟩ rfl (by kernel_rfl)
            · refine ⟨_, rfl, ?_⟩
              refine wstore 0 ShpC.h rfl rfl rfl rfl rfl rfl rfl ?_
              refine xpvalE 3 [5] rfl (qv_loadB 2 ShpC.h rfl rfl rfl rfl) rfl rfl (by kernel_rfl) (by kernel_rfl) (by kernel_rfl) (fun _ _ _ _ h => h) ?_
              refine xpval 8 rfl (qv_fieldAddrB FldC.h rfl) rfl rfl (by kernel_rfl) (by kernel_rfl) (by kernel_rfl) (fun _ _ _ _ h => h) ?_
              exact xpuse key45 rfl ⟨(.cons rfl (.refl _) (.cons rfl (.refl _) (.cons rfl (.refl _) (.cons rfl (.refl _) (.cons rfl (.refl _) (.nil _)))))), (SubM.of (.keep rfl rfl (.refl _) (.keep rfl rfl (.refl _) (.keep rfl rfl (.refl _) (.nil _)))) (.nil _))⟩ rfl (by kernel_rfl)
          · replace h := h.2 hp42
            refine xcondF' (decide_eq_false hp42) rfl ?_
            refine xseq ?_
            refine xregion ?_
            refine xvalP (pv_bin2 rfl rfl rfl) rfl rfl ?_
            refine xvalP (pv_assign rfl) rfl rfl ?_
            refine xnil ?_
            refine xthen ?_
            by_cases hp48 : nv1.1 = 5
            · replace h := h.1 hp48
              refine xcondT' (decide_eq_true hp48) rfl ?_
              refine xregionD (m := 8) (by kernel_rfl) rfl ?_
              refine xpcut 1 #[true, true, true, true, true, true, true, false] (fun σ => σ = ⟨[(2, .v (.pointer (some ⟨b2, 0, none⟩))), (3, .v (.pointer (some ⟨b3, 0, none⟩))), (39, .v (.int .i64 nv1.2.2.2.2.2.1)), (41, .v (.pointer (some ⟨b3, 5, none⟩)))], [⟨b3, 42, ([.v (.int .i64 nv1.1), .v (.int .i64 nv1.2.1), .v (.int .i64 0), .v (.int .i64 0), .v (.int .i64 0), .v (.int .i64 0)] ++ (List.map ew ((Arr.rep 4 (0 : UInt64))).l).flatten)⟩, ⟨b2, 42, ([.v (.int .i64 0), .v (.int .i64 0), .v (.int .i64 0), .v (.int .i64 0), .v (.int .i64 0), .v (.int .i64 0)] ++ (List.map ew ((Arr.rep 4 (0 : UInt64))).l).flatten)⟩], []⟩) ?_ (fun key49 => ?_)
              · rintro _ rfl
                refine xpstep (i := 7) (by kernel_rfl) rfl ?_
                refine wstore 0 ShpC.h rfl rfl rfl rfl rfl rfl rfl ?_
                refine xpdone (by kernel_rfl) ?_
                refine xin_normal ?_
                exact xmeet ⟨nv1.2.1, 0, 0, 0, nv1.2.2.2.2.2.1, (Arr.rep 4 (0 : UInt64)), h, rfl⟩ ⟨(.cons rfl (.refl _) (.cons rfl (.refl _) (.nil _))), (SubM.of (.keep rfl rfl (.refl _) (.keep rfl rfl (.refl _) (.nil _))) (.nil _))⟩
              refine xpval 0 rfl (qv_fieldAddrB FldC.h rfl) rfl rfl (by kernel_rfl) (by kernel_rfl) (by kernel_rfl) (fun _ _ _ _ h => h) ?_
              refine xpval 2 rfl (qv_fieldAddrB FldC.h rfl) rfl rfl (by kernel_rfl) (by kernel_rfl) (by kernel_rfl) (fun _ _ _ _ h => h) ?_
              refine xpvalE 1 [3] rfl (qv_loadB 2 ShpC.h rfl rfl rfl rfl) rfl rfl (by kernel_rfl) (by kernel_rfl) (by kernel_rfl) (fun _ _ _ _ h => h) ?_
              refine xpval 4 rfl (qv_fieldAddrB FldC.h rfl) rfl rfl (by kernel_rfl) (by kernel_rfl) (by kernel_rfl) (fun _ _ _ _ h => h) ?_
              refine xpstepN (is := [3, 5]) (by kernel_rfl) (by simp) ?_
              intro i hi; simp only [List.mem_cons, List.not_mem_nil, or_false] at hi; rcases hi with rfl | rfl
              · refine ⟨_, rfl, ?_⟩
                refine wval (qv_loadB 2 ShpC.h rfl rfl rfl rfl) rfl rfl ?_
                refine xpstep (i := 5) (by kernel_rfl) rfl ?_
                refine wstore 0 ShpC.h rfl rfl rfl rfl rfl rfl rfl ?_
                refine xpval 6 rfl (qv_fieldAddrB FldC.h rfl) rfl rfl (by kernel_rfl) (by kernel_rfl) (by kernel_rfl) (fun _ _ _ _ h => h) ?_
                exact xpuse key49 rfl ⟨(.cons rfl (.refl _) (.cons rfl (.refl _) (.cons rfl (.refl _) (.cons rfl (.refl _) (.nil _))))), (SubM.of (.keep rfl rfl (.refl _) (.keep rfl rfl (.refl _) (.nil _))) (.nil _))⟩ rfl (by kernel_rfl)
              · refine ⟨_, rfl, ?_⟩
                refine wstore 0 ShpC.h rfl rfl rfl rfl rfl rfl rfl ?_
                refine xpvalE 3 [] rfl (qv_loadB 2 ShpC.h rfl rfl rfl rfl) rfl rfl (by kernel_rfl) (by kernel_rfl) (by kernel_rfl) (fun _ _ _ _ h => h) ?_
                refine xpval 6 rfl (qv_fieldAddrB FldC.h rfl) rfl rfl (by kernel_rfl) (by kernel_rfl) (by kernel_rfl) (fun _ _ _ _ h => h) ?_
                exact xpuse key49 rfl ⟨(.cons rfl (.refl _) (.cons rfl (.refl _) (.cons rfl (.refl _) (.cons rfl (.refl _) (.nil _))))), (SubM.of (.keep rfl rfl (.refl _) (.keep rfl rfl (.refl _) (.nil _))) (.nil _))⟩ rfl (by kernel_rfl)
            · replace h := h.2 hp48
              refine xcondF' (decide_eq_false hp48) rfl ?_
              refine xseq ?_
              refine xregion ?_
              refine xvalP (pv_bin2 rfl rfl rfl) rfl rfl ?_
              refine xvalP (pv_assign rfl) rfl rfl ?_
              refine xnil ?_
              refine xthen ?_
              by_cases hp51 : nv1.1 = 6
              · replace h := h.1 hp51
                refine xcondT' (decide_eq_true hp51) rfl ?_
                refine xregion ?_
                refine xvalP (qv_fieldAddrB FldC.h rfl) rfl rfl ?_
                refine xval (qv_loadB 2 ShpC.h rfl rfl rfl rfl) rfl rfl ?_
                refine xvalP (qv_fieldAddrB FldC.h rfl) rfl rfl ?_
                refine xstore 0 ShpC.h rfl rfl rfl rfl rfl rfl rfl ?_
                refine xnil ?_
                refine xin_normal ?_
                exact xmeet ⟨0, 0, 0, 0, nv1.2.2.2.2.2.1, (Arr.rep 4 (0 : UInt64)), h, rfl⟩ ⟨(.cons rfl (.refl _) (.cons rfl (.refl _) (.nil _))), (SubM.of (.keep rfl rfl (.refl _) (.keep rfl rfl (.refl _) (.nil _))) (.nil _))⟩
              · replace h := h.2 hp51
                refine xcondF' (decide_eq_false hp51) rfl ?_
                refine xskipc ?_
                refine xin_normal ?_
                exact xmeet ⟨0, 0, 0, 0, 0, (Arr.rep 4 (0 : UInt64)), h, rfl⟩ ⟨(.cons rfl (.refl _) (.cons rfl (.refl _) (.nil _))), (SubM.of (.keep rfl rfl (.refl _) (.keep rfl rfl (.refl _) (.nil _))) (.nil _))⟩
  · clear h
    rintro _ ⟨f24, f25, f26, f27, f28, f29, h, rfl⟩
    refine xseq ?_
    refine xregion ?_
    refine xval (qv_loadP 0 [] ([.v (.int .i64 nv1.1), .v (.int .i64 f24), .v (.int .i64 f25), .v (.int .i64 f26), .v (.int .i64 f27), .v (.int .i64 f28)] ++ (List.map ew f29.l).flatten) [] (by first | rfl | exact (List.append_nil _).symm | exact List.append_nil _ | exact List.append_assoc _ _ _ | exact (List.append_assoc _ _ _).symm | exact congrArg _ (List.append_nil _).symm | exact congrArg _ (List.append_nil _) | (simp; done) | (simp [cellsS]; done)) (by first | rfl | exact seg_lenE (by rfl) | exact len_app rfl (seg_lenE (by rfl)) (by rfl) | exact len_app (seg_lenE (by rfl)) rfl (by rfl) | exact len_app rfl (len_app (seg_lenE (by rfl)) rfl (by rfl)) (by rfl) | (simp only [seg_len, cellsS, List.length_append, List.length_cons, List.length_nil]; done) | (simp only [seg_len, cellsS, List.length_append, List.length_cons, List.length_nil]; rfl)) (by first | rfl | exact seg_lenE (by rfl) | exact len_app rfl (seg_lenE (by rfl)) (by rfl) | exact len_app (seg_lenE (by rfl)) rfl (by rfl) | exact len_app rfl (len_app (seg_lenE (by rfl)) rfl (by rfl)) (by rfl) | (simp only [seg_len, cellsS, List.length_append, List.length_cons, List.length_nil]; done) | (simp only [seg_len, cellsS, List.length_append, List.length_cons, List.length_nil]; rfl)) (part_all (by first | rfl | exact seg_lenE (by rfl) | exact len_app rfl (seg_lenE (by rfl)) (by rfl) | exact len_app (seg_lenE (by rfl)) rfl (by rfl) | exact len_app rfl (len_app (seg_lenE (by rfl)) rfl (by rfl)) (by rfl) | (simp only [seg_len, cellsS, List.length_append, List.length_cons, List.length_nil]; done) | (simp only [seg_len, cellsS, List.length_append, List.length_cons, List.length_nil]; rfl))) ShpC.h rfl rfl) rfl rfl ?_
    refine xstoreP 1 [] ([.v (.int .i64 0), .v (.int .i64 0), .v (.int .i64 0), .v (.int .i64 0), .v (.int .i64 0), .v (.int .i64 0)] ++ (List.map ew ((Arr.rep 4 (0 : UInt64))).l).flatten) [] (by first | rfl | exact (List.append_nil _).symm | exact List.append_nil _ | exact List.append_assoc _ _ _ | exact (List.append_assoc _ _ _).symm | exact congrArg _ (List.append_nil _).symm | exact congrArg _ (List.append_nil _) | (simp; done) | (simp [cellsS]; done)) (by first | rfl | exact seg_lenE (by rfl) | exact len_app rfl (seg_lenE (by rfl)) (by rfl) | exact len_app (seg_lenE (by rfl)) rfl (by rfl) | exact len_app rfl (len_app (seg_lenE (by rfl)) rfl (by rfl)) (by rfl) | (simp only [seg_len, cellsS, List.length_append, List.length_cons, List.length_nil]; done) | (simp only [seg_len, cellsS, List.length_append, List.length_cons, List.length_nil]; rfl)) (by first | rfl | exact seg_lenE (by rfl) | exact len_app rfl (seg_lenE (by rfl)) (by rfl) | exact len_app (seg_lenE (by rfl)) rfl (by rfl) | exact len_app rfl (len_app (seg_lenE (by rfl)) rfl (by rfl)) (by rfl) | (simp only [seg_len, cellsS, List.length_append, List.length_cons, List.length_nil]; done) | (simp only [seg_len, cellsS, List.length_append, List.length_cons, List.length_nil]; rfl)) ShpC.h rfl rfl rfl rfl (by first | rfl | exact seg_lenE (by rfl) | exact len_app rfl (seg_lenE (by rfl)) (by rfl) | exact len_app (seg_lenE (by rfl)) rfl (by rfl) | exact len_app rfl (len_app (seg_lenE (by rfl)) rfl (by rfl)) (by rfl) | (simp only [seg_len, cellsS, List.length_append, List.length_cons, List.length_nil]; done) | (simp only [seg_len, cellsS, List.length_append, List.length_cons, List.length_nil]; rfl)) rfl ?_
    refine xreb 1 ([.v (.int .i64 nv1.1), .v (.int .i64 f24), .v (.int .i64 f25), .v (.int .i64 f26), .v (.int .i64 f27), .v (.int .i64 f28)] ++ (List.map ew f29.l).flatten) rfl (by first | rfl | exact (List.append_nil _).symm | exact List.append_nil _ | exact List.append_assoc _ _ _ | exact (List.append_assoc _ _ _).symm | exact congrArg _ (List.append_nil _).symm | exact congrArg _ (List.append_nil _) | (simp; done) | (simp [cellsS]; done)) ?_
    refine xnil ?_
    refine xthen ?_
    refine xretc ?_
    replace h := h.symm
    subst h
    exact xretL (rs := [.cell 2 42]) (ss := [.agg ([.v (.int .i64 nv1.1), .v (.int .i64 f24), .v (.int .i64 f25), .v (.int .i64 f26), .v (.int .i64 f27), .v (.int .i64 f28)] ++ (List.map ew f29.l).flatten)]) hg rfl (by refine RetL.cell 1 ShpC.h rfl rfl (part_midE (pre := []) (mid := ([.v (.int .i64 nv1.1), .v (.int .i64 f24), .v (.int .i64 f25), .v (.int .i64 f26), .v (.int .i64 f27), .v (.int .i64 f28)] ++ (List.map ew f29.l).flatten)) (post := []) (by first | rfl | exact (List.append_nil _).symm | exact List.append_nil _ | exact List.append_assoc _ _ _ | exact (List.append_assoc _ _ _).symm | exact congrArg _ (List.append_nil _).symm | exact congrArg _ (List.append_nil _) | (simp; done) | (simp [cellsS]; done)) (by first | rfl | exact seg_lenE (by rfl) | exact len_app rfl (seg_lenE (by rfl)) (by rfl) | exact len_app (seg_lenE (by rfl)) rfl (by rfl) | exact len_app rfl (len_app (seg_lenE (by rfl)) rfl (by rfl)) (by rfl) | (simp only [seg_len, cellsS, List.length_append, List.length_cons, List.length_nil]; done) | (simp only [seg_len, cellsS, List.length_append, List.length_cons, List.length_nil]; rfl)) (by first | rfl | exact seg_lenE (by rfl) | exact len_app rfl (seg_lenE (by rfl)) (by rfl) | exact len_app (seg_lenE (by rfl)) rfl (by rfl) | exact len_app rfl (len_app (seg_lenE (by rfl)) rfl (by rfl)) (by rfl) | (simp only [seg_len, cellsS, List.length_append, List.length_cons, List.length_nil]; done) | (simp only [seg_len, cellsS, List.length_append, List.length_cons, List.length_nil]; rfl)) (part_all (by first | rfl | exact seg_lenE (by rfl) | exact len_app rfl (seg_lenE (by rfl)) (by rfl) | exact len_app (seg_lenE (by rfl)) rfl (by rfl) | exact len_app rfl (len_app (seg_lenE (by rfl)) rfl (by rfl)) (by rfl) | (simp only [seg_len, cellsS, List.length_append, List.length_cons, List.length_nil]; done) | (simp only [seg_len, cellsS, List.length_append, List.length_cons, List.length_nil]; rfl)))) (len_midE (pre := []) (mid := ([.v (.int .i64 nv1.1), .v (.int .i64 f24), .v (.int .i64 f25), .v (.int .i64 f26), .v (.int .i64 f27), .v (.int .i64 f28)] ++ (List.map ew f29.l).flatten)) (post := []) (by first | rfl | exact (List.append_nil _).symm | exact List.append_nil _ | exact List.append_assoc _ _ _ | exact (List.append_assoc _ _ _).symm | exact congrArg _ (List.append_nil _).symm | exact congrArg _ (List.append_nil _) | (simp; done) | (simp [cellsS]; done)) (by first | rfl | exact seg_lenE (by rfl) | exact len_app rfl (seg_lenE (by rfl)) (by rfl) | exact len_app (seg_lenE (by rfl)) rfl (by rfl) | exact len_app rfl (len_app (seg_lenE (by rfl)) rfl (by rfl)) (by rfl) | (simp only [seg_len, cellsS, List.length_append, List.length_cons, List.length_nil]; done) | (simp only [seg_len, cellsS, List.length_append, List.length_cons, List.length_nil]; rfl)) (by first | rfl | exact seg_lenE (by rfl) | exact len_app rfl (seg_lenE (by rfl)) (by rfl) | exact len_app (seg_lenE (by rfl)) rfl (by rfl) | exact len_app rfl (len_app (seg_lenE (by rfl)) rfl (by rfl)) (by rfl) | (simp only [seg_len, cellsS, List.length_append, List.length_cons, List.length_nil]; done) | (simp only [seg_len, cellsS, List.length_append, List.length_cons, List.length_nil]; rfl))) (by first | with_reducible exact Wk.refl _ | exact Wk.nil_own _ | exact Wk.nil_pl _ | with_reducible exact Wk.tok _ _ _ | exact Wk.tok _ _ _ | exact .eq rfl) ?_; exact RetL.nil) (SubM.of (.nil _) (.nil _)) ⟨rfl, rfl, rfl⟩
/-- tree.parts -/
def tree_parts_j2 (nv1 : Int × Int × Int × Int × Int × Int × (Arr 4 (UInt64))) (x29 : Bool) (r : (List Int)) : Prop :=
  ((x29 = true → r = [nv1.2.1]) ∧ (¬ (x29 = true) → r = ([] : List Int)))
def tree_parts_j1 (nv1 : Int × Int × Int × Int × Int × Int × (Arr 4 (UInt64))) (x21 : Bool) (r : (List Int)) : Prop :=
  ((x21 = true → r = [nv1.2.1, nv1.2.2.1]) ∧ (¬ (x21 = true) → ((nv1.1 = 4 → tree_parts_j2 nv1 (decide (nv1.1 = 4)) r) ∧ (¬ (nv1.1 = 4) → tree_parts_j2 nv1 (decide (nv1.1 = 5)) r))))
def tree_parts_R (nv1 : Int × Int × Int × Int × Int × Int × (Arr 4 (UInt64))) (r : (List Int)) : Prop :=
  ((nv1.1 = 2 → tree_parts_j1 nv1 (decide (nv1.1 = 2)) r) ∧ (¬ (nv1.1 = 2) → tree_parts_j1 nv1 (decide (nv1.1 = 3)) r))
def tree_parts_j2_ev (fuel : Nat) (nv1 : Int × Int × Int × Int × Int × Int × (Arr 4 (UInt64))) (x29 : Bool) : Option ((List Int)) :=
  (if x29 = true then some ([nv1.2.1]) else some ([] : List Int))
theorem tree_parts_j2_ok {fuel : Nat} {nv1 : Int × Int × Int × Int × Int × Int × (Arr 4 (UInt64))} {x29 : Bool} {r : (List Int)} (h : tree_parts_j2_ev fuel nv1 x29 = some r) : tree_parts_j2 nv1 x29 r := by
  unfold tree_parts_j2_ev at h
  unfold tree_parts_j2
  refine ⟨fun g7 => ?_, fun g7 => ?_⟩
  · rw [if_pos g7] at h
    exact (Option.some.inj h).symm
  · rw [if_neg g7] at h
    exact (Option.some.inj h).symm
def tree_parts_j1_ev (fuel : Nat) (nv1 : Int × Int × Int × Int × Int × Int × (Arr 4 (UInt64))) (x21 : Bool) : Option ((List Int)) :=
  (if x21 = true then some ([nv1.2.1, nv1.2.2.1]) else (if nv1.1 = 4 then tree_parts_j2_ev fuel nv1 (decide (nv1.1 = 4)) else tree_parts_j2_ev fuel nv1 (decide (nv1.1 = 5))))
theorem tree_parts_j1_ok {fuel : Nat} {nv1 : Int × Int × Int × Int × Int × Int × (Arr 4 (UInt64))} {x21 : Bool} {r : (List Int)} (h : tree_parts_j1_ev fuel nv1 x21 = some r) : tree_parts_j1 nv1 x21 r := by
  unfold tree_parts_j1_ev at h
  unfold tree_parts_j1
  refine ⟨fun g8 => ?_, fun g8 => ?_⟩
  · rw [if_pos g8] at h
    exact (Option.some.inj h).symm
  · rw [if_neg g8] at h
    refine ⟨fun g9 => ?_, fun g9 => ?_⟩
    · rw [if_pos g9] at h
      exact tree_parts_j2_ok h
    · rw [if_neg g9] at h
      exact tree_parts_j2_ok h
def tree_parts_ev (fuel : Nat) (nv1 : Int × Int × Int × Int × Int × Int × (Arr 4 (UInt64))) : Option ((List Int)) :=
  (if nv1.1 = 2 then tree_parts_j1_ev fuel nv1 (decide (nv1.1 = 2)) else tree_parts_j1_ev fuel nv1 (decide (nv1.1 = 3)))
theorem tree_parts_ok {fuel : Nat} {nv1 : Int × Int × Int × Int × Int × Int × (Arr 4 (UInt64))} {r : (List Int)} (h : tree_parts_ev fuel nv1 = some r) : tree_parts_R nv1 r := by
  unfold tree_parts_ev at h
  unfold tree_parts_R
  refine ⟨fun g10 => ?_, fun g10 => ?_⟩
  · rw [if_pos g10] at h
    exact tree_parts_j1_ok h
  · rw [if_neg g10] at h
    exact tree_parts_j1_ok h
set_option maxHeartbeats 4000000 in
theorem tree_parts_con (nv1 : Int × Int × Int × Int × Int × Int × (Arr 4 (UInt64))) (r : (List Int)) (h : tree_parts_R nv1 r) : Con Try.prog 22 [.agg ([.v (.int .i64 nv1.1), .v (.int .i64 nv1.2.1), .v (.int .i64 nv1.2.2.1), .v (.int .i64 nv1.2.2.2.1), .v (.int .i64 nv1.2.2.2.2.1), .v (.int .i64 nv1.2.2.2.2.2.1)] ++ (List.map ew nv1.2.2.2.2.2.2.l).flatten)] [] [] (RetM 1 3 ei r) := by
  refine xenter Try.func22 rfl rfl fun g hg => ?_
  simp only [Try.ntmps22, slots]
  refine xseq ?_
  refine xregion ?_
  refine xbox rfl rfl rfl rfl fun b1 => ?_
  refine xvalP (pv_assign rfl) rfl rfl ?_
  refine xnil ?_
  refine xthen ?_
  refine xseq ?_
  refine xseq ?_
  refine xregion ?_
  refine xvalP (qv_fieldAddrB FldC.h rfl) rfl rfl ?_
  refine xval (qv_loadB 0 ShpC.h rfl rfl rfl rfl) rfl rfl ?_
  refine xnil ?_
  refine xthen ?_
  refine xblock ?_
  refine xseqM (fun σ => ∃ (x21 : Bool), tree_parts_j1 nv1 x21 r ∧ σ = ⟨[(1, .v (.pointer (some ⟨b1, 0, none⟩))), (4, .v (.int .i64 nv1.1)), (5, .v (.bool x21))], [⟨b1, 42, ([.v (.int .i64 nv1.1), .v (.int .i64 nv1.2.1), .v (.int .i64 nv1.2.2.1), .v (.int .i64 nv1.2.2.2.1), .v (.int .i64 nv1.2.2.2.2.1), .v (.int .i64 nv1.2.2.2.2.2.1)] ++ (List.map ew nv1.2.2.2.2.2.2.l).flatten)⟩], []⟩) ?_ ?_
  · refine xseq ?_
    refine xregion ?_
    refine xvalP (pv_bin2 rfl rfl rfl) rfl rfl ?_
    refine xvalP (pv_assign rfl) rfl rfl ?_
    refine xnil ?_
    refine xthen ?_
    by_cases hp23 : nv1.1 = 2
    · replace h := h.1 hp23
      refine xcondT' (decide_eq_true hp23) rfl ?_
      refine xskipc ?_
      exact xmeet ⟨(decide (nv1.1 = 2)), h, rfl⟩ ⟨(.cons rfl (.refl _) (.cons rfl (.refl _) (.cons rfl (.refl _) (.nil _)))), (SubM.of (.keep rfl rfl (.refl _) (.nil _)) (.nil _))⟩
    · replace h := h.2 hp23
      refine xcondF' (decide_eq_false hp23) rfl ?_
      refine xregion ?_
      refine xvalP (pv_bin2 rfl rfl rfl) rfl rfl ?_
      refine xvalP (pv_assign rfl) rfl rfl ?_
      refine xnil ?_
      exact xmeet ⟨(decide (nv1.1 = 3)), h, rfl⟩ ⟨(.cons rfl (.refl _) (.cons rfl (.refl _) (.cons rfl (.refl _) (.nil _)))), (SubM.of (.keep rfl rfl (.refl _) (.nil _)) (.nil _))⟩
  · clear h
    rintro _ ⟨x21, h, rfl⟩
    by_cases hp25 : x21 = true
    · replace h := h.1 hp25
      refine xcondT' hp25 rfl ?_
      refine xseq ?_
      refine xregion ?_
      refine xvalP (qv_fieldAddrB FldC.h rfl) rfl rfl ?_
      refine xval (qv_loadB 0 ShpC.h rfl rfl rfl rfl) rfl rfl ?_
      refine xvalP (qv_fieldAddrB FldC.h rfl) rfl rfl ?_
      refine xval (qv_loadB 0 ShpC.h rfl rfl rfl rfl) rfl rfl ?_
      refine xbuildSliceM (f := ei) [nv1.2.1, nv1.2.2.1] UndC.h InfC.h rfl rfl (by first | exact wkR_of rfl | (repeat (first | exact WkR.nil | refine WkR.cons (by (repeat (first | exact WkL.nil | refine WkL.cons (by first | with_reducible exact Wk.refl _ | exact Wk.nil_own _ | exact Wk.nil_pl _ | with_reducible exact Wk.tok _ _ _ | exact Wk.tok _ _ _ | exact Wk.eq (by first | rfl | (simp []; done) | (simp []; omega))) ?_))) ?_))) rfl rfl rfl rfl fun s12 => ?_
      refine xvalP (pv_assign rfl) rfl rfl ?_
      refine xnil ?_
      refine xthen ?_
      refine xretc ?_
      refine xin_ret ?_
      refine xthen_ret ?_
      replace h := h.symm
      subst h
      exact xret1 hg rfl rfl (.refl _) (SubM.of (.nil _) (.keep rfl (.nil _))) ⟨(some (s12, 2)), rfl, rfl, rfl⟩
    · replace h := h.2 hp25
      refine xcondF' (b_f hp25) rfl ?_
      refine xseqM (fun σ => ∃ (x29 : Bool), tree_parts_j2 nv1 x29 r ∧ σ = ⟨[(1, .v (.pointer (some ⟨b1, 0, none⟩))), (13, .v (.bool x29))], [⟨b1, 42, ([.v (.int .i64 nv1.1), .v (.int .i64 nv1.2.1), .v (.int .i64 nv1.2.2.1), .v (.int .i64 nv1.2.2.2.1), .v (.int .i64 nv1.2.2.2.2.1), .v (.int .i64 nv1.2.2.2.2.2.1)] ++ (List.map ew nv1.2.2.2.2.2.2.l).flatten)⟩], []⟩) ?_ ?_
      · refine xseq ?_
        refine xregion ?_
        refine xvalP (pv_bin2 rfl rfl rfl) rfl rfl ?_
        refine xvalP (pv_assign rfl) rfl rfl ?_
        refine xnil ?_
        refine xthen ?_
        by_cases hp31 : nv1.1 = 4
        · replace h := h.1 hp31
          refine xcondT' (decide_eq_true hp31) rfl ?_
          refine xskipc ?_
          exact xmeet ⟨(decide (nv1.1 = 4)), h, rfl⟩ ⟨(.cons rfl (.refl _) (.cons rfl (.refl _) (.nil _))), (SubM.of (.keep rfl rfl (.refl _) (.nil _)) (.nil _))⟩
        · replace h := h.2 hp31
          refine xcondF' (decide_eq_false hp31) rfl ?_
          refine xregion ?_
          refine xvalP (pv_bin2 rfl rfl rfl) rfl rfl ?_
          refine xvalP (pv_assign rfl) rfl rfl ?_
          refine xnil ?_
          exact xmeet ⟨(decide (nv1.1 = 5)), h, rfl⟩ ⟨(.cons rfl (.refl _) (.cons rfl (.refl _) (.nil _))), (SubM.of (.keep rfl rfl (.refl _) (.nil _)) (.nil _))⟩
      · clear h
        rintro _ ⟨x29, h, rfl⟩
        by_cases hp33 : x29 = true
        · replace h := h.1 hp33
          refine xcondT' hp33 rfl ?_
          refine xseq ?_
          refine xregion ?_
          refine xvalP (qv_fieldAddrB FldC.h rfl) rfl rfl ?_
          refine xval (qv_loadB 0 ShpC.h rfl rfl rfl rfl) rfl rfl ?_
          refine xbuildSliceM (f := ei) [nv1.2.1] UndC.h InfC.h rfl rfl (by first | exact wkR_of rfl | (repeat (first | exact WkR.nil | refine WkR.cons (by (repeat (first | exact WkL.nil | refine WkL.cons (by first | with_reducible exact Wk.refl _ | exact Wk.nil_own _ | exact Wk.nil_pl _ | with_reducible exact Wk.tok _ _ _ | exact Wk.tok _ _ _ | exact Wk.eq (by first | rfl | (simp []; done) | (simp []; omega))) ?_))) ?_))) rfl rfl rfl rfl fun s18 => ?_
          refine xvalP (pv_assign rfl) rfl rfl ?_
          refine xnil ?_
          refine xthen ?_
          refine xretc ?_
          refine xin_ret ?_
          refine xthen_ret ?_
          replace h := h.symm
          subst h
          exact xret1 hg rfl rfl (.refl _) (SubM.of (.nil _) (.keep rfl (.nil _))) ⟨(some (s18, 1)), rfl, rfl, rfl⟩
        · replace h := h.2 hp33
          refine xcondF' (b_f hp33) rfl ?_
          refine xskipc ?_
          refine xin_normal ?_
          refine xthen ?_
          refine xseq ?_
          refine xregion ?_
          refine xvalP (pv_assign rfl) rfl rfl ?_
          refine xnil ?_
          refine xthen ?_
          refine xretc ?_
          replace h := h.symm
          subst h
          exact xret1 hg rfl rfl (.nil_own _) (SubM.of (by repeat (first | with_reducible exact SubB.refl _ | exact SubB.nil _ | refine SubB.keep rfl rfl (by first | with_reducible exact WkL.refl _ | ((repeat (first | exact WkL.nil | refine WkL.cons (by first | with_reducible exact Wk.refl _ | exact Wk.nil_own _ | exact Wk.nil_pl _ | with_reducible exact Wk.tok _ _ _ | exact Wk.tok _ _ _ | exact Wk.eq (by first | rfl | (simp []; done) | (simp []; omega))) ?_)); done) | exact WkL.refl _) ?_ | refine SubB.drop ?_)) (by repeat (first | exact SubT.nil _ | refine SubT.add ?_ | (refine SubT.keep ?_ ?_; focus (first | with_reducible rfl | (simp []; done))) | refine SubT.drop ?_))) ⟨none, rfl, rfl, rfl⟩
/-- tree.isNode$1 -/
def tree_isNode_c1_R (o1 : Int) (k2 : Int) (r : Bool) : Prop :=
  ((k2 < 0 → r = true) ∧ (¬ (k2 < 0) → r = (decide (o1 ≤ k2))))
def tree_isNode_c1_ev (fuel : Nat) (o1 : Int) (k2 : Int) : Option (Bool) :=
  (if k2 < 0 then some true else some (decide (o1 ≤ k2)))
theorem tree_isNode_c1_ok {fuel : Nat} {o1 : Int} {k2 : Int} {r : Bool} (h : tree_isNode_c1_ev fuel o1 k2 = some r) : tree_isNode_c1_R o1 k2 r := by
  unfold tree_isNode_c1_ev at h
  unfold tree_isNode_c1_R
  refine ⟨fun g11 => ?_, fun g11 => ?_⟩
  · rw [if_pos g11] at h
    exact (Option.some.inj h).symm
  · rw [if_neg g11] at h
    exact (Option.some.inj h).symm
set_option maxHeartbeats 4000000 in
theorem tree_isNode_c1_con (o1 : Int) (k2 : Int) (bx0 : Nat) (r : Bool) (h : tree_isNode_c1_R o1 k2 r) : Con Try.prog 25 [.v (.int .i64 k2), .v (.pointer (some ⟨bx0, 0, none⟩))] [⟨bx0, 3, [.v (.int .i64 o1)]⟩] [] (fun rr bx tk => rr = .v (.bool r) ∧ bx = [⟨bx0, 3, [.v (.int .i64 o1)]⟩] ∧ tk = []) := by
  refine xenter Try.func25 rfl rfl fun g hg => ?_
  simp only [Try.ntmps25, slots]
  refine xseq ?_
  refine xregion ?_
  refine xvalP (pv_assign rfl) rfl rfl ?_
  refine xnil ?_
  refine xthen ?_
  refine xseq ?_
  refine xregion ?_
  refine xvalP (pv_move rfl) rfl rfl ?_
  refine xvalP (pv_bin2 rfl rfl rfl) rfl rfl ?_
  refine xvalP (pv_move rfl) rfl rfl ?_
  by_cases hp7 : k2 < 0
  · replace h := h.1 hp7
    refine xsetB 6 (decide_eq_true hp7) rfl ?_
    refine xskip rfl rfl ?_
    refine xskip rfl rfl ?_
    refine xskip rfl rfl ?_
    refine xvalP (pv_pick rfl rfl) rfl rfl ?_
    refine xvalP (pv_assign rfl) rfl rfl ?_
    refine xnil ?_
    refine xthen ?_
    refine xretc ?_
    replace h := h.symm
    subst h
    exact xret1 hg rfl rfl (.refl _) (SubM.of (.keep rfl rfl (.refl _) (.nil _)) (.nil _)) ⟨rfl, rfl, rfl⟩
  · replace h := h.2 hp7
    refine xsetB 6 (decide_eq_false hp7) rfl ?_
    refine xvalP (pv_move rfl) rfl rfl ?_
    refine xval (qv_loadB 0 ShpC.h rfl rfl rfl rfl) rfl rfl ?_
    refine xvalP (pv_bin2 rfl rfl rfl) rfl rfl ?_
    refine xvalP (pv_pick rfl rfl) rfl rfl ?_
    refine xvalP (pv_assign rfl) rfl rfl ?_
    refine xnil ?_
    refine xthen ?_
    refine xretc ?_
    replace h := h.symm
    subst h
    exact xret1 hg rfl rfl (.refl _) (SubM.of (.keep rfl rfl (.refl _) (.nil _)) (.nil _)) ⟨rfl, rfl, rfl⟩
/-- slices.IndexFunc [ []int,int] -/
def slices_IndexFunc_l1 (sv2 : List Int) (o1 : Int) (ag1 : (Int) → Prop) (x62 : Int) (r : Int) : Prop :=
  ((x62 < (sv2.length : Int) → 0 ≤ (x62 : Int) ∧ ∃ y85 : Int, sv2[(x62 : Int).toNat]? = some y85 ∧ ∃ y88 : Bool, tree_isNode_c1_R o1 y85 y88 ∧ ((y88 = true → r = x62) ∧ (¬ (y88 = true) → InR (x62 + 1) ∧ ag1 (x62 + 1)))) ∧ (¬ (x62 < (sv2.length : Int)) → r = (-1)))
def slices_IndexFunc_R (o1 : Int) (sv2 : List Int) (r : Int) : Prop :=
  LoopR (fun ag1 s => slices_IndexFunc_l1 sv2 o1 ag1 s r) 0
def slices_IndexFunc_l1_ev (fuel : Nat) (sv2 : List Int) (o1 : Int) (ag1e : (Int) → Option (Int)) (x62 : Int) : Option (Int) :=
  (if x62 < (sv2.length : Int) then (if 0 ≤ (x62 : Int) then ((sv2[(x62 : Int).toNat]?).bind fun y85 => ((tree_isNode_c1_ev fuel o1 y85).bind fun y88 => (if y88 = true then some x62 else (if InR (x62 + 1) then ag1e (x62 + 1) else none)))) else none) else some (-1))
theorem slices_IndexFunc_l1_ok {fuel : Nat} {sv2 : List Int} {o1 : Int} {ag1e : (Int) → Option (Int)} {ag1 : (Int) → Prop} {x62 : Int} {r : Int} (hagag1 : ∀ s, ag1e s = some r → ag1 s) (h : slices_IndexFunc_l1_ev fuel sv2 o1 ag1e x62 = some r) : slices_IndexFunc_l1 sv2 o1 ag1 x62 r := by
  unfold slices_IndexFunc_l1_ev at h
  unfold slices_IndexFunc_l1
  refine ⟨fun g12 => ?_, fun g12 => ?_⟩
  · rw [if_pos g12] at h
    obtain ⟨g13, h⟩ := if_ok h
    refine ⟨g13, ?_⟩
    obtain ⟨q14, g14, h⟩ := bind_ok h
    refine ⟨q14, g14, ?_⟩
    obtain ⟨q15, g15, h⟩ := bind_ok h
    refine ⟨q15, tree_isNode_c1_ok g15, ?_⟩
    refine ⟨fun g16 => ?_, fun g16 => ?_⟩
    · rw [if_pos g16] at h
      exact (Option.some.inj h).symm
    · rw [if_neg g16] at h
      obtain ⟨g17, h⟩ := if_ok h
      refine ⟨g17, ?_⟩
      exact hagag1 _ h
  · rw [if_neg g12] at h
    exact (Option.some.inj h).symm
def slices_IndexFunc_ev (fuel : Nat) (o1 : Int) (sv2 : List Int) : Option (Int) :=
  (loopE (fun ag1e s => slices_IndexFunc_l1_ev fuel sv2 o1 ag1e s) fuel 0)
theorem slices_IndexFunc_ok {fuel : Nat} {o1 : Int} {sv2 : List Int} {r : Int} (h : slices_IndexFunc_ev fuel o1 sv2 = some r) : slices_IndexFunc_R o1 sv2 r := by
  unfold slices_IndexFunc_ev at h
  unfold slices_IndexFunc_R
  refine loopE_ok ?_ h
  intro ae ag s hag h
  exact slices_IndexFunc_l1_ok hag h
set_option maxHeartbeats 4000000 in
theorem slices_IndexFunc_con (o1 : Int) (sv2 : List Int) (bx0 : Nat) (r : Int) (h : slices_IndexFunc_R o1 sv2 r) : Con Try.prog 27 [.sl 1 none (List.map ei sv2), .v (.func (.func 25) #[] #[.pointer (some ⟨bx0, 0, none⟩)])] [⟨bx0, 3, [.v (.int .i64 o1)]⟩] [] (fun rr bx tk => rr = .v (.int .i64 r) ∧ bx = [⟨bx0, 3, [.v (.int .i64 o1)]⟩] ∧ tk = []) := by
  refine xenter Try.func27 rfl rfl fun g hg => ?_
  simp only [Try.ntmps27, slots]
  refine xseq ?_
  refine xregion ?_
  refine xvalP (pv_assign rfl) rfl rfl ?_
  refine xnil ?_
  refine xthen ?_
  refine xseq ?_
  refine xseq ?_
  refine xregion ?_
  refine xvalP (pv_move rfl) rfl rfl ?_
  refine xvalP (pv_lenM UndC.h rfl) rfl rfl ?_
  refine xvalP (pv_move rfl) rfl rfl ?_
  refine xnil ?_
  refine xthen ?_
  refine xblock ?_
  obtain ⟨Inv, ⟨m0, hI⟩, hS⟩ := h
  refine xloop (fun σ m => ∃ (x62 : Int), Inv x62 m ∧ σ = ⟨[(0, .sl 1 none (List.map ei sv2)), (1, .v (.func (.func 25) #[] #[.pointer (some ⟨bx0, 0, none⟩)])), (7, .v (.int .i64 ((sv2.length : Int)))), (8, .v (.int .i64 x62))], [⟨bx0, 3, [.v (.int .i64 o1)]⟩], []⟩) ⟨0, hI, rfl⟩ ⟨(.cons rfl (.refl _) (.cons rfl (.refl _) (.cons rfl (.refl _) (.cons rfl (.refl _) (.nil _))))), (SubM.of (.keep rfl rfl (.refl _) (.nil _)) (.nil _))⟩ ?_
  rintro _ m ⟨x62, hI, rfl⟩
  obtain ⟨ag1, hag1, h⟩ : ∃ ag, (∀ s', ag s' → ∃ m', m' < m ∧ Inv s' m') ∧ slices_IndexFunc_l1 sv2 o1 ag x62 r := ⟨_, fun _ h => h, hS x62 _ hI⟩
  clear hS hI
  refine xseq ?_
  refine xregion ?_
  refine xvalP (pv_bin2 rfl rfl rfl) rfl rfl ?_
  refine xnil ?_
  refine xthen ?_
  refine xseq ?_
  by_cases hp79 : x62 < (sv2.length : Int)
  · replace h := h.1 hp79
    refine xcondT' (decide_eq_true hp79) rfl ?_
    refine xskipc ?_
    refine xthen ?_
    refine xseq ?_
    refine xblock ?_
    refine xseq ?_
    refine xregion ?_
    refine xvalP (pv_move rfl) rfl rfl ?_
    refine xvalP (pv_assign rfl) rfl rfl ?_
    refine xnil ?_
    refine xthen ?_
    refine xseq ?_
    refine xregion ?_
    refine xvalP (pv_move rfl) rfl rfl ?_
    refine xvalP (pv_move rfl) rfl rfl ?_
    refine xvalP (pv_move rfl) rfl rfl ?_
    obtain ⟨h86a, h⟩ := h
    obtain ⟨y85, h86b, h⟩ := h
    refine xvalP (pv_indexAddrM h86a h86b UndC.h ShpC.h rfl rfl) rfl rfl ?_
    refine xval (qv_load ShpC.h rfl rfl rfl) rfl rfl ?_
    obtain ⟨y88, h87, h⟩ := h
    refine xcallV (sa := [.v (.int .i64 y85)]) (Fb := []) (Ft := []) (tree_isNode_c1_con o1 y85 bx0 _ h87) Try.func25 (by kernel_rfl) rfl rfl (.cons rfl (.refl _) .nil) rfl (by exact (SubM.of (by repeat (first | with_reducible exact SubB.refl _ | exact SubB.nil _ | refine SubB.keep rfl rfl (by first | with_reducible exact WkL.refl _ | ((repeat (first | exact WkL.nil | refine WkL.cons (by first | with_reducible exact Wk.refl _ | exact Wk.nil_own _ | exact Wk.nil_pl _ | with_reducible exact Wk.tok _ _ _ | exact Wk.tok _ _ _ | exact Wk.eq (by first | rfl | (simp []; done) | (simp []; omega))) ?_)); done) | exact WkL.refl _) ?_ | refine SubB.drop ?_)) (by repeat (first | exact SubT.nil _ | refine SubT.add ?_ | (refine SubT.keep ?_ ?_; focus (first | with_reducible rfl | (simp []; done))) | refine SubT.drop ?_)))) rfl rfl ?_
    rintro _ _ _ ⟨rfl, rfl, rfl⟩
    simp only [List.nil_append, List.cons_append]
    refine xnil ?_
    refine xthen ?_
    by_cases hp89 : y88 = true
    · replace h := h.1 hp89
      refine xcondT' hp89 rfl ?_
      refine xseq ?_
      refine xregion ?_
      refine xvalP (pv_move rfl) rfl rfl ?_
      refine xvalP (pv_assign rfl) rfl rfl ?_
      refine xnil ?_
      refine xthen ?_
      refine xretc ?_
      refine xin_ret ?_
      refine xthen_ret ?_
      refine xthen_ret ?_
      refine xin_ret ?_
      refine xthen_ret ?_
      replace h := h.symm
      subst h
      exact xret1 hg rfl rfl (.refl _) (SubM.of (.keep rfl rfl (.refl _) (.nil _)) (.nil _)) ⟨rfl, rfl, rfl⟩
    · replace h := h.2 hp89
      refine xcondF' (b_f hp89) rfl ?_
      refine xskipc ?_
      refine xin_normal ?_
      refine xthen ?_
      refine xregion ?_
      obtain ⟨h90, h⟩ := h
      refine xvalP (pv_addI h90 rfl rfl) rfl rfl ?_
      refine xvalP (pv_move rfl) rfl rfl ?_
      refine xnil ?_
      obtain ⟨m', hm, hI⟩ := hag1 _ h
      exact xagain ⟨(x62 + 1), hI, rfl⟩ hm ⟨(.cons rfl (.refl _) (.cons rfl (.refl _) (.cons rfl (.refl _) (.cons rfl (.refl _) (.nil _))))), (SubM.of (.keep rfl rfl (.refl _) (.nil _)) (.nil _))⟩
  · replace h := h.2 hp79
    refine xcondF' (decide_eq_false hp79) rfl ?_
    refine xexit ?_
    refine xthen_exit ?_
    refine xthen_exit ?_
    refine xin_same rfl ?_
    refine xthen ?_
    refine xseq ?_
    refine xregion ?_
    refine xvalP (pv_assign rfl) rfl rfl ?_
    refine xnil ?_
    refine xthen ?_
    refine xretc ?_
    replace h := h.symm
    subst h
    exact xret1 hg rfl rfl (.refl _) (SubM.of (.keep rfl rfl (.refl _) (.nil _)) (.nil _)) ⟨rfl, rfl, rfl⟩
/-- slices.ContainsFunc [ []int,int] -/
def slices_ContainsFunc_R (o1 : Int) (sv2 : List Int) (r : Bool) : Prop :=
  ∃ y4 : Int, slices_IndexFunc_R o1 sv2 y4 ∧ r = (decide (0 ≤ y4))
def slices_ContainsFunc_ev (fuel : Nat) (o1 : Int) (sv2 : List Int) : Option (Bool) :=
  ((slices_IndexFunc_ev fuel o1 sv2).bind fun y4 => some (decide (0 ≤ y4)))
theorem slices_ContainsFunc_ok {fuel : Nat} {o1 : Int} {sv2 : List Int} {r : Bool} (h : slices_ContainsFunc_ev fuel o1 sv2 = some r) : slices_ContainsFunc_R o1 sv2 r := by
  unfold slices_ContainsFunc_ev at h
  unfold slices_ContainsFunc_R
  obtain ⟨q18, g18, h⟩ := bind_ok h
  refine ⟨q18, slices_IndexFunc_ok g18, ?_⟩
  exact (Option.some.inj h).symm
set_option maxHeartbeats 4000000 in
theorem slices_ContainsFunc_con (o1 : Int) (sv2 : List Int) (bx0 : Nat) (r : Bool) (h : slices_ContainsFunc_R o1 sv2 r) : Con Try.prog 24 [.sl 1 none (List.map ei sv2), .v (.func (.func 25) #[] #[.pointer (some ⟨bx0, 0, none⟩)])] [⟨bx0, 3, [.v (.int .i64 o1)]⟩] [] (fun rr bx tk => rr = .v (.bool r) ∧ bx = [⟨bx0, 3, [.v (.int .i64 o1)]⟩] ∧ tk = []) := by
  refine xenter Try.func24 rfl rfl fun g hg => ?_
  simp only [Try.ntmps24, slots]
  refine xseq ?_
  refine xregion ?_
  refine xvalP (pv_assign rfl) rfl rfl ?_
  refine xnil ?_
  refine xthen ?_
  refine xseq ?_
  refine xregion ?_
  refine xvalP (pv_move rfl) rfl rfl ?_
  refine xvalP (pv_move rfl) rfl rfl ?_
  obtain ⟨y4, h3, h⟩ := h
  refine xcallF (Fb := []) (Ft := []) (slices_IndexFunc_con o1 sv2 bx0 _ h3) Try.func27 (by kernel_rfl) rfl (.cons rfl (.refl _) (.cons rfl (.refl _) .nil)) (by exact (SubM.of (by repeat (first | with_reducible exact SubB.refl _ | exact SubB.nil _ | refine SubB.keep rfl rfl (by first | with_reducible exact WkL.refl _ | ((repeat (first | exact WkL.nil | refine WkL.cons (by first | with_reducible exact Wk.refl _ | exact Wk.nil_own _ | exact Wk.nil_pl _ | with_reducible exact Wk.tok _ _ _ | exact Wk.tok _ _ _ | exact Wk.eq (by first | rfl | (simp []; done) | (simp []; omega))) ?_)); done) | exact WkL.refl _) ?_ | refine SubB.drop ?_)) (by repeat (first | exact SubT.nil _ | refine SubT.add ?_ | (refine SubT.keep ?_ ?_; focus (first | with_reducible rfl | (simp []; done))) | refine SubT.drop ?_)))) rfl rfl ?_
  rintro _ _ _ ⟨rfl, rfl, rfl⟩
  simp only [List.nil_append, List.cons_append]
  refine xvalP (pv_bin2 rfl rfl rfl) rfl rfl ?_
  refine xvalP (pv_assign rfl) rfl rfl ?_
  refine xnil ?_
  refine xthen ?_
  refine xretc ?_
  replace h := h.symm
  subst h
  exact xret1 hg rfl rfl (.refl _) (SubM.of (.keep rfl rfl (.refl _) (.nil _)) (.nil _)) ⟨rfl, rfl, rfl⟩
/-- tree.isTimes -/
def tree_isTimes_j1 (x12 : Bool) (r : Bool) : Prop :=
  r = x12
def tree_isTimes_R (lo1 : Int) (hi2 : Int) (r : Bool) : Prop :=
  tree_isTimes_j1 ((decide (0 ≤ lo1)) && ((decide (lo1 ≤ 255)) && ((decide (hi2 = (-1))) || ((decide (lo1 ≤ hi2)) && (decide (hi2 ≤ 255)))))) r
def tree_isTimes_j1_ev (fuel : Nat) (x12 : Bool) : Option (Bool) :=
  some x12
theorem tree_isTimes_j1_ok {fuel : Nat} {x12 : Bool} {r : Bool} (h : tree_isTimes_j1_ev fuel x12 = some r) : tree_isTimes_j1 x12 r := by
  unfold tree_isTimes_j1_ev at h
  unfold tree_isTimes_j1
  exact (Option.some.inj h).symm
def tree_isTimes_ev (fuel : Nat) (lo1 : Int) (hi2 : Int) : Option (Bool) :=
  tree_isTimes_j1_ev fuel ((decide (0 ≤ lo1)) && ((decide (lo1 ≤ 255)) && ((decide (hi2 = (-1))) || ((decide (lo1 ≤ hi2)) && (decide (hi2 ≤ 255))))))
theorem tree_isTimes_ok {fuel : Nat} {lo1 : Int} {hi2 : Int} {r : Bool} (h : tree_isTimes_ev fuel lo1 hi2 = some r) : tree_isTimes_R lo1 hi2 r := by
  unfold tree_isTimes_ev at h
  unfold tree_isTimes_R
  exact tree_isTimes_j1_ok h
set_option maxHeartbeats 4000000 in
theorem tree_isTimes_con (lo1 : Int) (hi2 : Int) (r : Bool) (h : tree_isTimes_R lo1 hi2 r) : Con Try.prog 26 [.v (.int .i64 lo1), .v (.int .i64 hi2)] [] [] (Ret (.v (.bool r))) := by
  refine xenter Try.func26 rfl rfl fun g hg => ?_
  simp only [Try.ntmps26, slots]
  unfold tree_isTimes_R at h
  refine xseq ?_
  refine xregion ?_
  refine xvalP (pv_assign rfl) rfl rfl ?_
  refine xnil ?_
  refine xthen ?_
  refine xseqM (fun σ => ∃ (x12 : Bool), tree_isTimes_j1 x12 r ∧ σ = ⟨[(4, .v (.bool x12))], [], []⟩) ?_ ?_
  · refine xregion ?_
    refine xvalP (pv_move rfl) rfl rfl ?_
    refine xvalP (pv_bin2 rfl rfl rfl) rfl rfl ?_
    refine xvalP (pv_move rfl) rfl rfl ?_
    by_cases hp14 : 0 ≤ lo1
    · rw [show (decide (0 ≤ lo1)) = true from (decide_eq_true hp14), Bool.true_and] at h
      refine xsetB 7 (decide_eq_true hp14) rfl ?_
      refine xvalP (pv_move rfl) rfl rfl ?_
      refine xvalP (pv_bin2 rfl rfl rfl) rfl rfl ?_
      refine xvalP (pv_pick rfl rfl) rfl rfl ?_
      refine xvalP (pv_move rfl) rfl rfl ?_
      by_cases hp16 : lo1 ≤ 255
      · rw [show (decide (lo1 ≤ 255)) = true from (decide_eq_true hp16), Bool.true_and] at h
        refine xsetB 11 (decide_eq_true hp16) rfl ?_
        refine xvalP (pv_move rfl) rfl rfl ?_
        refine xvalP (pv_bin2 rfl rfl rfl) rfl rfl ?_
        refine xvalP (pv_move rfl) rfl rfl ?_
        by_cases hp18 : hi2 = (-1)
        · rw [show (decide (hi2 = (-1))) = true from (decide_eq_true hp18), Bool.true_or] at h
          refine xsetB 14 (decide_eq_true hp18) rfl ?_
          refine xskip rfl rfl ?_
          refine xskip rfl rfl ?_
          refine xskip rfl rfl ?_
          refine xskip rfl rfl ?_
          refine xskip rfl rfl ?_
          refine xskip rfl rfl ?_
          refine xskip rfl rfl ?_
          refine xvalP (pv_pick rfl rfl) rfl rfl ?_
          refine xvalP (pv_pick rfl rfl) rfl rfl ?_
          refine xvalP (pv_assign rfl) rfl rfl ?_
          refine xnil ?_
          exact xmeet ⟨true, h, rfl⟩ ⟨(.cons rfl (.refl _) (.nil _)), (SubM.of (.nil _) (.nil _))⟩
        · rw [show (decide (hi2 = (-1))) = false from (decide_eq_false hp18), Bool.false_or] at h
          refine xsetB 14 (decide_eq_false hp18) rfl ?_
          refine xvalP (pv_move rfl) rfl rfl ?_
          refine xvalP (pv_move rfl) rfl rfl ?_
          refine xvalP (pv_bin2 rfl rfl rfl) rfl rfl ?_
          refine xvalP (pv_move rfl) rfl rfl ?_
          by_cases hp20 : lo1 ≤ hi2
          · rw [show (decide (lo1 ≤ hi2)) = true from (decide_eq_true hp20), Bool.true_and] at h
            refine xsetB 18 (decide_eq_true hp20) rfl ?_
            refine xvalP (pv_move rfl) rfl rfl ?_
            refine xvalP (pv_bin2 rfl rfl rfl) rfl rfl ?_
            refine xvalP (pv_pick rfl rfl) rfl rfl ?_
            refine xvalP (pv_pick rfl rfl) rfl rfl ?_
            refine xvalP (pv_pick rfl rfl) rfl rfl ?_
            refine xvalP (pv_assign rfl) rfl rfl ?_
            refine xnil ?_
            exact xmeet ⟨(decide (hi2 ≤ 255)), h, rfl⟩ ⟨(.cons rfl (.refl _) (.nil _)), (SubM.of (.nil _) (.nil _))⟩
          · rw [show (decide (lo1 ≤ hi2)) = false from (decide_eq_false hp20), Bool.false_and] at h
            refine xsetB 18 (decide_eq_false hp20) rfl ?_
            refine xskip rfl rfl ?_
            refine xskip rfl rfl ?_
            refine xvalP (pv_pick rfl rfl) rfl rfl ?_
            refine xvalP (pv_pick rfl rfl) rfl rfl ?_
            refine xvalP (pv_pick rfl rfl) rfl rfl ?_
            refine xvalP (pv_assign rfl) rfl rfl ?_
            refine xnil ?_
            exact xmeet ⟨false, h, rfl⟩ ⟨(.cons rfl (.refl _) (.nil _)), (SubM.of (.nil _) (.nil _))⟩
      · rw [show (decide (lo1 ≤ 255)) = false from (decide_eq_false hp16), Bool.false_and] at h
        refine xsetB 11 (decide_eq_false hp16) rfl ?_
        refine xskip rfl rfl ?_
        refine xskip rfl rfl ?_
        refine xskip rfl rfl ?_
        refine xskip rfl rfl ?_
        refine xskip rfl rfl ?_
        refine xskip rfl rfl ?_
        refine xskip rfl rfl ?_
        refine xskip rfl rfl ?_
        refine xskip rfl rfl ?_
        refine xskip rfl rfl ?_
        refine xskip rfl rfl ?_
        refine xvalP (pv_pick rfl rfl) rfl rfl ?_
        refine xvalP (pv_assign rfl) rfl rfl ?_
        refine xnil ?_
        exact xmeet ⟨false, h, rfl⟩ ⟨(.cons rfl (.refl _) (.nil _)), (SubM.of (.nil _) (.nil _))⟩
    · rw [show (decide (0 ≤ lo1)) = false from (decide_eq_false hp14), Bool.false_and] at h
      refine xsetB 7 (decide_eq_false hp14) rfl ?_
      refine xskip rfl rfl ?_
      refine xskip rfl rfl ?_
      refine xvalP (pv_pick rfl rfl) rfl rfl ?_
      refine xvalP (pv_move rfl) rfl rfl ?_
      refine xskip rfl rfl ?_
      refine xskip rfl rfl ?_
      refine xskip rfl rfl ?_
      refine xskip rfl rfl ?_
      refine xskip rfl rfl ?_
      refine xskip rfl rfl ?_
      refine xskip rfl rfl ?_
      refine xskip rfl rfl ?_
      refine xskip rfl rfl ?_
      refine xskip rfl rfl ?_
      refine xskip rfl rfl ?_
      refine xvalP (pv_pick rfl rfl) rfl rfl ?_
      refine xvalP (pv_assign rfl) rfl rfl ?_
      refine xnil ?_
      exact xmeet ⟨false, h, rfl⟩ ⟨(.cons rfl (.refl _) (.nil _)), (SubM.of (.nil _) (.nil _))⟩
  · clear h
    rintro _ ⟨x12, h, rfl⟩
    refine xretc ?_
    replace h := h.symm
    subst h
    exact xret1 hg rfl rfl (.refl _) (SubM.of (.nil _) (.nil _)) ⟨rfl, rfl, rfl⟩
/-- tree.isNode -/
def tree_isNode_j3 (nv1 : Int × Int × Int × Int × Int × Int × (Arr 4 (UInt64))) (groups3 : Int) (x89 : Bool) (r : Bool) : Prop :=
  ((x89 = true → ((1 ≤ nv1.2.2.2.2.2.1 → r = (decide (nv1.2.2.2.2.2.1 ≤ groups3))) ∧ (¬ (1 ≤ nv1.2.2.2.2.2.1) → r = false))) ∧ (¬ (x89 = true) → r = true))
def tree_isNode_j2 (nv1 : Int × Int × Int × Int × Int × Int × (Arr 4 (UInt64))) (groups3 : Int) (x80 : Bool) (r : Bool) : Prop :=
  ((x80 = true → r = false) ∧ (¬ (x80 = true) → tree_isNode_j3 nv1 groups3 ((decide (nv1.1 = 5)) || (decide (nv1.1 = 6))) r))
def tree_isNode_j1 (nv1 : Int × Int × Int × Int × Int × Int × (Arr 4 (UInt64))) (atv2 : Int) (groups3 : Int) (x60 : Bool) (r : Bool) : Prop :=
  ((x60 = true → r = false) ∧ (¬ (x60 = true) → ∃ y71 : (List Int), tree_parts_R nv1 y71 ∧ ∃ y74 : Bool, slices_ContainsFunc_R atv2 y71 y74 ∧ ((y74 = true → r = false) ∧ (¬ (y74 = true) → ((nv1.1 = 4 → ∃ y84 : Bool, tree_isTimes_R nv1.2.2.2.1 nv1.2.2.2.2.1 y84 ∧ tree_isNode_j2 nv1 groups3 (!y84) r) ∧ (¬ (nv1.1 = 4) → tree_isNode_j2 nv1 groups3 false r))))))
def tree_isNode_R (nv1 : Int × Int × Int × Int × Int × Int × (Arr 4 (UInt64))) (atv2 : Int) (groups3 : Int) (r : Bool) : Prop :=
  ((nv1.1 < 0 → tree_isNode_j1 nv1 atv2 groups3 true r) ∧ (¬ (nv1.1 < 0) → ((8 < nv1.1 → tree_isNode_j1 nv1 atv2 groups3 true r) ∧ (¬ (8 < nv1.1) → ∃ y66 : (Int × Int × Int × Int × Int × Int × (Arr 4 (UInt64))), tree_plain_R nv1 y66 ∧ tree_isNode_j1 nv1 atv2 groups3 (!(decide ((nv1 : Int × Int × Int × Int × Int × Int × (Arr 4 (UInt64))) = y66))) r))))
def tree_isNode_j3_ev (fuel : Nat) (nv1 : Int × Int × Int × Int × Int × Int × (Arr 4 (UInt64))) (groups3 : Int) (x89 : Bool) : Option (Bool) :=
  (if x89 = true then (if 1 ≤ nv1.2.2.2.2.2.1 then some (decide (nv1.2.2.2.2.2.1 ≤ groups3)) else some false) else some true)
theorem tree_isNode_j3_ok {fuel : Nat} {nv1 : Int × Int × Int × Int × Int × Int × (Arr 4 (UInt64))} {groups3 : Int} {x89 : Bool} {r : Bool} (h : tree_isNode_j3_ev fuel nv1 groups3 x89 = some r) : tree_isNode_j3 nv1 groups3 x89 r := by
  unfold tree_isNode_j3_ev at h
  unfold tree_isNode_j3
  refine ⟨fun g19 => ?_, fun g19 => ?_⟩
  · rw [if_pos g19] at h
    refine ⟨fun g20 => ?_, fun g20 => ?_⟩
    · rw [if_pos g20] at h
      exact (Option.some.inj h).symm
    · rw [if_neg g20] at h
      exact (Option.some.inj h).symm
  · rw [if_neg g19] at h
    exact (Option.some.inj h).symm
def tree_isNode_j2_ev (fuel : Nat) (nv1 : Int × Int × Int × Int × Int × Int × (Arr 4 (UInt64))) (groups3 : Int) (x80 : Bool) : Option (Bool) :=
  (if x80 = true then some false else tree_isNode_j3_ev fuel nv1 groups3 ((decide (nv1.1 = 5)) || (decide (nv1.1 = 6))))
theorem tree_isNode_j2_ok {fuel : Nat} {nv1 : Int × Int × Int × Int × Int × Int × (Arr 4 (UInt64))} {groups3 : Int} {x80 : Bool} {r : Bool} (h : tree_isNode_j2_ev fuel nv1 groups3 x80 = some r) : tree_isNode_j2 nv1 groups3 x80 r := by
  unfold tree_isNode_j2_ev at h
  unfold tree_isNode_j2
  refine ⟨fun g21 => ?_, fun g21 => ?_⟩
  · rw [if_pos g21] at h
    exact (Option.some.inj h).symm
  · rw [if_neg g21] at h
    exact tree_isNode_j3_ok h
def tree_isNode_j1_ev (fuel : Nat) (nv1 : Int × Int × Int × Int × Int × Int × (Arr 4 (UInt64))) (atv2 : Int) (groups3 : Int) (x60 : Bool) : Option (Bool) :=
  (if x60 = true then some false else ((tree_parts_ev fuel nv1).bind fun y71 => ((slices_ContainsFunc_ev fuel atv2 y71).bind fun y74 => (if y74 = true then some false else (if nv1.1 = 4 then ((tree_isTimes_ev fuel nv1.2.2.2.1 nv1.2.2.2.2.1).bind fun y84 => tree_isNode_j2_ev fuel nv1 groups3 (!y84)) else tree_isNode_j2_ev fuel nv1 groups3 false)))))
theorem tree_isNode_j1_ok {fuel : Nat} {nv1 : Int × Int × Int × Int × Int × Int × (Arr 4 (UInt64))} {atv2 : Int} {groups3 : Int} {x60 : Bool} {r : Bool} (h : tree_isNode_j1_ev fuel nv1 atv2 groups3 x60 = some r) : tree_isNode_j1 nv1 atv2 groups3 x60 r := by
  unfold tree_isNode_j1_ev at h
  unfold tree_isNode_j1
  refine ⟨fun g22 => ?_, fun g22 => ?_⟩
  · rw [if_pos g22] at h
    exact (Option.some.inj h).symm
  · rw [if_neg g22] at h
    obtain ⟨q23, g23, h⟩ := bind_ok h
    refine ⟨q23, tree_parts_ok g23, ?_⟩
    obtain ⟨q24, g24, h⟩ := bind_ok h
    refine ⟨q24, slices_ContainsFunc_ok g24, ?_⟩
    refine ⟨fun g25 => ?_, fun g25 => ?_⟩
    · rw [if_pos g25] at h
      exact (Option.some.inj h).symm
    · rw [if_neg g25] at h
      refine ⟨fun g26 => ?_, fun g26 => ?_⟩
      · rw [if_pos g26] at h
        obtain ⟨q27, g27, h⟩ := bind_ok h
        refine ⟨q27, tree_isTimes_ok g27, ?_⟩
        exact tree_isNode_j2_ok h
      · rw [if_neg g26] at h
        exact tree_isNode_j2_ok h
def tree_isNode_ev (fuel : Nat) (nv1 : Int × Int × Int × Int × Int × Int × (Arr 4 (UInt64))) (atv2 : Int) (groups3 : Int) : Option (Bool) :=
  (if nv1.1 < 0 then tree_isNode_j1_ev fuel nv1 atv2 groups3 true else (if 8 < nv1.1 then tree_isNode_j1_ev fuel nv1 atv2 groups3 true else ((tree_plain_ev fuel nv1).bind fun y66 => tree_isNode_j1_ev fuel nv1 atv2 groups3 (!(decide ((nv1 : Int × Int × Int × Int × Int × Int × (Arr 4 (UInt64))) = y66))))))
theorem tree_isNode_ok {fuel : Nat} {nv1 : Int × Int × Int × Int × Int × Int × (Arr 4 (UInt64))} {atv2 : Int} {groups3 : Int} {r : Bool} (h : tree_isNode_ev fuel nv1 atv2 groups3 = some r) : tree_isNode_R nv1 atv2 groups3 r := by
  unfold tree_isNode_ev at h
  unfold tree_isNode_R
  refine ⟨fun g28 => ?_, fun g28 => ?_⟩
  · rw [if_pos g28] at h
    exact tree_isNode_j1_ok h
  · rw [if_neg g28] at h
    refine ⟨fun g29 => ?_, fun g29 => ?_⟩
    · rw [if_pos g29] at h
      exact tree_isNode_j1_ok h
    · rw [if_neg g29] at h
      obtain ⟨q30, g30, h⟩ := bind_ok h
      refine ⟨q30, tree_plain_ok g30, ?_⟩
      exact tree_isNode_j1_ok h
set_option maxHeartbeats 4000000 in
theorem tree_isNode_con (nv1 : Int × Int × Int × Int × Int × Int × (Arr 4 (UInt64))) (atv2 : Int) (groups3 : Int) (r : Bool) (h : tree_isNode_R nv1 atv2 groups3 r) : Con Try.prog 21 [.agg ([.v (.int .i64 nv1.1), .v (.int .i64 nv1.2.1), .v (.int .i64 nv1.2.2.1), .v (.int .i64 nv1.2.2.2.1), .v (.int .i64 nv1.2.2.2.2.1), .v (.int .i64 nv1.2.2.2.2.2.1)] ++ (List.map ew nv1.2.2.2.2.2.2.l).flatten), .v (.int .i64 atv2), .v (.int .i64 groups3)] [] [] (Ret (.v (.bool r))) := by
  refine xenter Try.func21 rfl rfl fun g hg => ?_
  simp only [Try.ntmps21, slots]
  refine xseq ?_
  refine xregion ?_
  refine xbox rfl rfl rfl rfl fun b3 => ?_
  refine xbox rfl rfl rfl rfl fun b4 => ?_
  refine xvalP (pv_assign rfl) rfl rfl ?_
  refine xnil ?_
  refine xthen ?_
  refine xseq ?_
  refine xblock ?_
  refine xseqM (fun σ => ∃ (x60 : Bool), tree_isNode_j1 nv1 atv2 groups3 x60 r ∧ σ = ⟨[(2, .v (.int .i64 groups3)), (3, .v (.pointer (some ⟨b3, 0, none⟩))), (4, .v (.pointer (some ⟨b4, 0, none⟩))), (7, .v (.bool x60))], [⟨b4, 3, [.v (.int .i64 atv2)]⟩, ⟨b3, 42, ([.v (.int .i64 nv1.1), .v (.int .i64 nv1.2.1), .v (.int .i64 nv1.2.2.1), .v (.int .i64 nv1.2.2.2.1), .v (.int .i64 nv1.2.2.2.2.1), .v (.int .i64 nv1.2.2.2.2.2.1)] ++ (List.map ew nv1.2.2.2.2.2.2.l).flatten)⟩], []⟩) ?_ ?_
  · refine xregionD (m := 15) (by kernel_rfl) rfl ?_
    refine xpval 0 rfl (qv_fieldAddrB FldC.h rfl) rfl rfl (by kernel_rfl) (by kernel_rfl) (by kernel_rfl) (fun _ _ _ _ h => h) ?_
    refine xpvalE 1 [] rfl (qv_loadB 1 ShpC.h rfl rfl rfl rfl) rfl rfl (by kernel_rfl) (by kernel_rfl) (by kernel_rfl) (fun _ _ _ _ h => h) ?_
    refine xpval 2 rfl (pv_bin2 rfl rfl rfl) rfl rfl (by kernel_rfl) (by kernel_rfl) (by kernel_rfl) (fun _ _ _ _ h => h) ?_
    refine xpval 3 rfl (pv_move rfl) rfl rfl (by kernel_rfl) (by kernel_rfl) (by kernel_rfl) (fun _ _ _ _ h => h) ?_
    by_cases hp62 : nv1.1 < 0
    · replace h := h.1 hp62
      refine psetB 11 (decide_eq_true hp62) rfl ?_
      refine xpskip 4 rfl rfl rfl (by kernel_rfl) (by kernel_rfl) (by kernel_rfl) (fun _ _ _ _ h => h) ?_
      refine xpskip 5 rfl rfl rfl (by kernel_rfl) (by kernel_rfl) (by kernel_rfl) (fun _ _ _ _ h => h) ?_
      refine xpskip 6 rfl rfl rfl (by kernel_rfl) (by kernel_rfl) (by kernel_rfl) (fun _ _ _ _ h => h) ?_
      refine xpval 7 rfl (pv_pick rfl rfl) rfl rfl (by kernel_rfl) (by kernel_rfl) (by kernel_rfl) (fun _ _ _ _ h => h) ?_
      refine xpval 8 rfl (pv_move rfl) rfl rfl (by kernel_rfl) (by kernel_rfl) (by kernel_rfl) (fun _ _ _ _ h => h) ?_
      refine xpskip 9 rfl rfl rfl (by kernel_rfl) (by kernel_rfl) (by kernel_rfl) (fun _ _ _ _ h => h) ?_
      refine xpskip 10 rfl rfl rfl (by kernel_rfl) (by kernel_rfl) (by kernel_rfl) (fun _ _ _ _ h => h) ?_
      refine xpskip 11 rfl rfl rfl (by kernel_rfl) (by kernel_rfl) (by kernel_rfl) (fun _ _ _ _ h => h) ?_
      refine xpskip 12 rfl rfl rfl (by kernel_rfl) (by kernel_rfl) (by kernel_rfl) (fun _ _ _ _ h => h) ?_
      refine xpval 13 rfl (pv_pick rfl rfl) rfl rfl (by kernel_rfl) (by kernel_rfl) (by kernel_rfl) (fun _ _ _ _ h => h) ?_
      refine xpval 14 rfl (pv_assign rfl) rfl rfl (by kernel_rfl) (by kernel_rfl) (by kernel_rfl) (fun _ _ _ _ h => h) ?_
      refine xpdone (by kernel_rfl) ?_
      exact xmeet ⟨true, h, rfl⟩ ⟨(.cons rfl (.refl _) (.cons rfl (.refl _) (.cons rfl (.refl _) (.cons rfl (.refl _) (.nil _))))), (SubM.of (.keep rfl rfl (.refl _) (.keep rfl rfl (.refl _) (.nil _))) (.nil _))⟩
    · replace h := h.2 hp62
      refine psetB 11 (decide_eq_false hp62) rfl ?_
      refine xpval 4 rfl (qv_fieldAddrB FldC.h rfl) rfl rfl (by kernel_rfl) (by kernel_rfl) (by kernel_rfl) (fun _ _ _ _ h => h) ?_
      refine xpvalE 5 [] rfl (qv_loadB 1 ShpC.h rfl rfl rfl rfl) rfl rfl (by kernel_rfl) (by kernel_rfl) (by kernel_rfl) (fun _ _ _ _ h => h) ?_
      refine xpval 6 rfl (pv_bin2 rfl rfl rfl) rfl rfl (by kernel_rfl) (by kernel_rfl) (by kernel_rfl) (fun _ _ _ _ h => h) ?_
      refine xpval 7 rfl (pv_pick rfl rfl) rfl rfl (by kernel_rfl) (by kernel_rfl) (by kernel_rfl) (fun _ _ _ _ h => h) ?_
      refine xpval 8 rfl (pv_move rfl) rfl rfl (by kernel_rfl) (by kernel_rfl) (by kernel_rfl) (fun _ _ _ _ h => h) ?_
      by_cases hp64 : 8 < nv1.1
      · replace h := h.1 hp64
        refine psetB 16 (decide_eq_true hp64) rfl ?_
        refine xpskip 9 rfl rfl rfl (by kernel_rfl) (by kernel_rfl) (by kernel_rfl) (fun _ _ _ _ h => h) ?_
        refine xpskip 10 rfl rfl rfl (by kernel_rfl) (by kernel_rfl) (by kernel_rfl) (fun _ _ _ _ h => h) ?_
        refine xpskip 11 rfl rfl rfl (by kernel_rfl) (by kernel_rfl) (by kernel_rfl) (fun _ _ _ _ h => h) ?_
        refine xpskip 12 rfl rfl rfl (by kernel_rfl) (by kernel_rfl) (by kernel_rfl) (fun _ _ _ _ h => h) ?_
        refine xpval 13 rfl (pv_pick rfl rfl) rfl rfl (by kernel_rfl) (by kernel_rfl) (by kernel_rfl) (fun _ _ _ _ h => h) ?_
        refine xpval 14 rfl (pv_assign rfl) rfl rfl (by kernel_rfl) (by kernel_rfl) (by kernel_rfl) (fun _ _ _ _ h => h) ?_
        refine xpdone (by kernel_rfl) ?_
        exact xmeet ⟨true, h, rfl⟩ ⟨(.cons rfl (.refl _) (.cons rfl (.refl _) (.cons rfl (.refl _) (.cons rfl (.refl _) (.nil _))))), (SubM.of (.keep rfl rfl (.refl _) (.keep rfl rfl (.refl _) (.nil _))) (.nil _))⟩
      · replace h := h.2 hp64
        refine psetB 16 (decide_eq_false hp64) rfl ?_
        obtain ⟨y66, h65, h⟩ := h
        refine xpcut 0 #[true, true, true, true, true, true, true, true, true, true, true, true, true, true, true] (fun σ => σ = ⟨[(2, .v (.int .i64 groups3)), (3, .v (.pointer (some ⟨b3, 0, none⟩))), (4, .v (.pointer (some ⟨b4, 0, none⟩))), (7, .v (.bool (!(decide ((nv1 : Int × Int × Int × Int × Int × Int × (Arr 4 (UInt64))) = y66)))))], [⟨b4, 3, [.v (.int .i64 atv2)]⟩, ⟨b3, 42, ([.v (.int .i64 nv1.1), .v (.int .i64 nv1.2.1), .v (.int .i64 nv1.2.2.1), .v (.int .i64 nv1.2.2.2.1), .v (.int .i64 nv1.2.2.2.2.1), .v (.int .i64 nv1.2.2.2.2.2.1)] ++ (List.map ew nv1.2.2.2.2.2.2.l).flatten)⟩], []⟩) ?_ (fun key68 => ?_)
        · rintro _ rfl
          refine xpdone (by kernel_rfl) ?_
          exact xmeet ⟨(!(decide ((nv1 : Int × Int × Int × Int × Int × Int × (Arr 4 (UInt64))) = y66))), h, rfl⟩ ⟨(.cons rfl (.refl _) (.cons rfl (.refl _) (.cons rfl (.refl _) (.cons rfl (.refl _) (.nil _))))), (SubM.of (.keep rfl rfl (.refl _) (.keep rfl rfl (.refl _) (.nil _))) (.nil _))⟩
        refine xpvalE 10 [9] rfl (qv_loadP 1 [] ([.v (.int .i64 nv1.1), .v (.int .i64 nv1.2.1), .v (.int .i64 nv1.2.2.1), .v (.int .i64 nv1.2.2.2.1), .v (.int .i64 nv1.2.2.2.2.1), .v (.int .i64 nv1.2.2.2.2.2.1)] ++ (List.map ew nv1.2.2.2.2.2.2.l).flatten) [] (by first | rfl | exact (List.append_nil _).symm | exact List.append_nil _ | exact List.append_assoc _ _ _ | exact (List.append_assoc _ _ _).symm | exact congrArg _ (List.append_nil _).symm | exact congrArg _ (List.append_nil _) | (simp; done) | (simp [cellsS]; done)) (by first | rfl | exact seg_lenE (by rfl) | exact len_app rfl (seg_lenE (by rfl)) (by rfl) | exact len_app (seg_lenE (by rfl)) rfl (by rfl) | exact len_app rfl (len_app (seg_lenE (by rfl)) rfl (by rfl)) (by rfl) | (simp only [seg_len, cellsS, List.length_append, List.length_cons, List.length_nil]; done) | (simp only [seg_len, cellsS, List.length_append, List.length_cons, List.length_nil]; rfl)) (by first | rfl | exact seg_lenE (by rfl) | exact len_app rfl (seg_lenE (by rfl)) (by rfl) | exact len_app (seg_lenE (by rfl)) rfl (by rfl) | exact len_app rfl (len_app (seg_lenE (by rfl)) rfl (by rfl)) (by rfl) | (simp only [seg_len, cellsS, List.length_append, List.length_cons, List.length_nil]; done) | (simp only [seg_len, cellsS, List.length_append, List.length_cons, List.length_nil]; rfl)) (part_all (by first | rfl | exact seg_lenE (by rfl) | exact len_app rfl (seg_lenE (by rfl)) (by rfl) | exact len_app (seg_lenE (by rfl)) rfl (by rfl) | exact len_app rfl (len_app (seg_lenE (by rfl)) rfl (by rfl)) (by rfl) | (simp only [seg_len, cellsS, List.length_append, List.length_cons, List.length_nil]; done) | (simp only [seg_len, cellsS, List.length_append, List.length_cons, List.length_nil]; rfl))) ShpC.h rfl rfl) rfl rfl (by kernel_rfl) (by kernel_rfl) (by kernel_rfl) (fun _ _ _ _ h => h) ?_
        refine xpstepN (is := [9, 11]) (by kernel_rfl) (by simp) ?_
        intro i hi; simp only [List.mem_cons, List.not_mem_nil, or_false] at hi; rcases hi with rfl | rfl
        · refine ⟨_, rfl, ?_⟩
          refine wval (qv_loadP 1 [] ([.v (.int .i64 nv1.1), .v (.int .i64 nv1.2.1), .v (.int .i64 nv1.2.2.1), .v (.int .i64 nv1.2.2.2.1), .v (.int .i64 nv1.2.2.2.2.1), .v (.int .i64 nv1.2.2.2.2.2.1)] ++ (List.map ew nv1.2.2.2.2.2.2.l).flatten) [] (by first | rfl | exact (List.append_nil _).symm | exact List.append_nil _ | exact List.append_assoc _ _ _ | exact (List.append_assoc _ _ _).symm | exact congrArg _ (List.append_nil _).symm | exact congrArg _ (List.append_nil _) | (simp; done) | (simp [cellsS]; done)) (by first | rfl | exact seg_lenE (by rfl) | exact len_app rfl (seg_lenE (by rfl)) (by rfl) | exact len_app (seg_lenE (by rfl)) rfl (by rfl) | exact len_app rfl (len_app (seg_lenE (by rfl)) rfl (by rfl)) (by rfl) | (simp only [seg_len, cellsS, List.length_append, List.length_cons, List.length_nil]; done) | (simp only [seg_len, cellsS, List.length_append, List.length_cons, List.length_nil]; rfl)) (by first | rfl | exact seg_lenE (by rfl) | exact len_app rfl (seg_lenE (by rfl)) (by rfl) | exact len_app (seg_lenE (by rfl)) rfl (by rfl) | exact len_app rfl (len_app (seg_lenE (by rfl)) rfl (by rfl)) (by rfl) | (simp only [seg_len, cellsS, List.length_append, List.length_cons, List.length_nil]; done) | (simp only [seg_len, cellsS, List.length_append, List.length_cons, List.length_nil]; rfl)) (part_all (by first | rfl | exact seg_lenE (by rfl) | exact len_app rfl (seg_lenE (by rfl)) (by rfl) | exact len_app (seg_lenE (by rfl)) rfl (by rfl) | exact len_app rfl (len_app (seg_lenE (by rfl)) rfl (by rfl)) (by rfl) | (simp only [seg_len, cellsS, List.length_append, List.length_cons, List.length_nil]; done) | (simp only [seg_len, cellsS, List.length_append, List.length_cons, List.length_nil]; rfl))) ShpC.h rfl rfl) rfl rfl ?_
          refine xpstep (i := 11) (by kernel_rfl) rfl ?_
          refine wcall0 (tree_plain_con nv1 _ h65) Try.func23 (by kernel_rfl) rfl (.cons rfl (.refl _) .nil) rfl rfl ?_
          refine xpval 12 rfl (pv_neAgg (f := E_palinode_api_Node) (a := nv1) (b := y66) eqc_42 (by decide) (by kernel_rfl) (by first | rfl | exact congrArg (fun q => some (Sd.agg q)) (by first | rfl | exact (List.append_nil _).symm | exact List.append_nil _ | exact List.append_assoc _ _ _ | exact (List.append_assoc _ _ _).symm | exact congrArg _ (List.append_nil _).symm | exact congrArg _ (List.append_nil _) | (simp; done) | (simp [cellsS]; done))) (by first | rfl | exact congrArg (fun q => some (Sd.agg q)) (by first | rfl | exact (List.append_nil _).symm | exact List.append_nil _ | exact List.append_assoc _ _ _ | exact (List.append_assoc _ _ _).symm | exact congrArg _ (List.append_nil _).symm | exact congrArg _ (List.append_nil _) | (simp; done) | (simp [cellsS]; done)))) rfl rfl (by kernel_rfl) (by kernel_rfl) (by kernel_rfl) (fun _ _ _ _ h => h) ?_
          refine xpval 13 rfl (pv_pick rfl rfl) rfl rfl (by kernel_rfl) (by kernel_rfl) (by kernel_rfl) (fun _ _ _ _ h => h) ?_
          refine xpval 14 rfl (pv_assign rfl) rfl rfl (by kernel_rfl) (by kernel_rfl) (by kernel_rfl) (fun _ _ _ _ h => h) ?_
          exact xpuse key68 rfl ⟨(.cons rfl (.refl _) (.cons rfl (.refl _) (.cons rfl (.refl _) (.cons rfl (.refl _) (.nil _))))), (SubM.of (.keep rfl rfl (.refl _) (.keep rfl rfl (.refl _) (.nil _))) (.nil _))⟩ rfl (by kernel_rfl)
        · refine ⟨_, rfl, ?_⟩
          refine wcall0 (tree_plain_con nv1 _ h65) Try.func23 (by kernel_rfl) rfl (.cons rfl (.refl _) .nil) rfl rfl ?_
          refine xpvalE 9 [] rfl (qv_loadP 1 [] ([.v (.int .i64 nv1.1), .v (.int .i64 nv1.2.1), .v (.int .i64 nv1.2.2.1), .v (.int .i64 nv1.2.2.2.1), .v (.int .i64 nv1.2.2.2.2.1), .v (.int .i64 nv1.2.2.2.2.2.1)] ++ (List.map ew nv1.2.2.2.2.2.2.l).flatten) [] (by first | rfl | exact (List.append_nil _).symm | exact List.append_nil _ | exact List.append_assoc _ _ _ | exact (List.append_assoc _ _ _).symm | exact congrArg _ (List.append_nil _).symm | exact congrArg _ (List.append_nil _) | (simp; done) | (simp [cellsS]; done)) (by first | rfl | exact seg_lenE (by rfl) | exact len_app rfl (seg_lenE (by rfl)) (by rfl) | exact len_app (seg_lenE (by rfl)) rfl (by rfl) | exact len_app rfl (len_app (seg_lenE (by rfl)) rfl (by rfl)) (by rfl) | (simp only [seg_len, cellsS, List.length_append, List.length_cons, List.length_nil]; done) | (simp only [seg_len, cellsS, List.length_append, List.length_cons, List.length_nil]; rfl)) (by first | rfl | exact seg_lenE (by rfl) | exact len_app rfl (seg_lenE (by rfl)) (by rfl) | exact len_app (seg_lenE (by rfl)) rfl (by rfl) | exact len_app rfl (len_app (seg_lenE (by rfl)) rfl (by rfl)) (by rfl) | (simp only [seg_len, cellsS, List.length_append, List.length_cons, List.length_nil]; done) | (simp only [seg_len, cellsS, List.length_append, List.length_cons, List.length_nil]; rfl)) (part_all (by first | rfl | exact seg_lenE (by rfl) | exact len_app rfl (seg_lenE (by rfl)) (by rfl) | exact len_app (seg_lenE (by rfl)) rfl (by rfl) | exact len_app rfl (len_app (seg_lenE (by rfl)) rfl (by rfl)) (by rfl) | (simp only [seg_len, cellsS, List.length_append, List.length_cons, List.length_nil]; done) | (simp only [seg_len, cellsS, List.length_append, List.length_cons, List.length_nil]; rfl))) ShpC.h rfl rfl) rfl rfl (by kernel_rfl) (by kernel_rfl) (by kernel_rfl) (fun _ _ _ _ h => h) ?_
          refine xpval 12 rfl (pv_neAgg (f := E_palinode_api_Node) (a := nv1) (b := y66) eqc_42 (by decide) (by kernel_rfl) (by first | rfl | exact congrArg (fun q => some (Sd.agg q)) (by first | rfl | exact (List.append_nil _).symm | exact List.append_nil _ | exact List.append_assoc _ _ _ | exact (List.append_assoc _ _ _).symm | exact congrArg _ (List.append_nil _).symm | exact congrArg _ (List.append_nil _) | (simp; done) | (simp [cellsS]; done))) (by first | rfl | exact congrArg (fun q => some (Sd.agg q)) (by first | rfl | exact (List.append_nil _).symm | exact List.append_nil _ | exact List.append_assoc _ _ _ | exact (List.append_assoc _ _ _).symm | exact congrArg _ (List.append_nil _).symm | exact congrArg _ (List.append_nil _) | (simp; done) | (simp [cellsS]; done)))) rfl rfl (by kernel_rfl) (by kernel_rfl) (by kernel_rfl) (fun _ _ _ _ h => h) ?_
          refine xpval 13 rfl (pv_pick rfl rfl) rfl rfl (by kernel_rfl) (by kernel_rfl) (by kernel_rfl) (fun _ _ _ _ h => h) ?_
          refine xpval 14 rfl (pv_assign rfl) rfl rfl (by kernel_rfl) (by kernel_rfl) (by kernel_rfl) (fun _ _ _ _ h => h) ?_
          exact xpuse key68 rfl ⟨(.cons rfl (.refl _) (.cons rfl (.refl _) (.cons rfl (.refl _) (.cons rfl (.refl _) (.nil _))))), (SubM.of (.keep rfl rfl (.refl _) (.keep rfl rfl (.refl _) (.nil _))) (.nil _))⟩ rfl (by kernel_rfl)
  · clear h
    rintro _ ⟨x60, h, rfl⟩
    by_cases hp69 : x60 = true
    · replace h := h.1 hp69
      refine xcondT' hp69 rfl ?_
      refine xseq ?_
      refine xregion ?_
      refine xvalP (pv_assign rfl) rfl rfl ?_
      refine xnil ?_
      refine xthen ?_
      refine xretc ?_
      refine xin_ret ?_
      refine xthen_ret ?_
      replace h := h.symm
      subst h
      exact xret1 hg rfl rfl (.refl _) (SubM.of (.nil _) (.nil _)) ⟨rfl, rfl, rfl⟩
    · replace h := h.2 hp69
      refine xcondF' (b_f hp69) rfl ?_
      refine xseq ?_
      refine xregion ?_
      refine xval (qv_loadP 1 [] ([.v (.int .i64 nv1.1), .v (.int .i64 nv1.2.1), .v (.int .i64 nv1.2.2.1), .v (.int .i64 nv1.2.2.2.1), .v (.int .i64 nv1.2.2.2.2.1), .v (.int .i64 nv1.2.2.2.2.2.1)] ++ (List.map ew nv1.2.2.2.2.2.2.l).flatten) [] (by first | rfl | exact (List.append_nil _).symm | exact List.append_nil _ | exact List.append_assoc _ _ _ | exact (List.append_assoc _ _ _).symm | exact congrArg _ (List.append_nil _).symm | exact congrArg _ (List.append_nil _) | (simp; done) | (simp [cellsS]; done)) (by first | rfl | exact seg_lenE (by rfl) | exact len_app rfl (seg_lenE (by rfl)) (by rfl) | exact len_app (seg_lenE (by rfl)) rfl (by rfl) | exact len_app rfl (len_app (seg_lenE (by rfl)) rfl (by rfl)) (by rfl) | (simp only [seg_len, cellsS, List.length_append, List.length_cons, List.length_nil]; done) | (simp only [seg_len, cellsS, List.length_append, List.length_cons, List.length_nil]; rfl)) (by first | rfl | exact seg_lenE (by rfl) | exact len_app rfl (seg_lenE (by rfl)) (by rfl) | exact len_app (seg_lenE (by rfl)) rfl (by rfl) | exact len_app rfl (len_app (seg_lenE (by rfl)) rfl (by rfl)) (by rfl) | (simp only [seg_len, cellsS, List.length_append, List.length_cons, List.length_nil]; done) | (simp only [seg_len, cellsS, List.length_append, List.length_cons, List.length_nil]; rfl)) (part_all (by first | rfl | exact seg_lenE (by rfl) | exact len_app rfl (seg_lenE (by rfl)) (by rfl) | exact len_app (seg_lenE (by rfl)) rfl (by rfl) | exact len_app rfl (len_app (seg_lenE (by rfl)) rfl (by rfl)) (by rfl) | (simp only [seg_len, cellsS, List.length_append, List.length_cons, List.length_nil]; done) | (simp only [seg_len, cellsS, List.length_append, List.length_cons, List.length_nil]; rfl))) ShpC.h rfl rfl) rfl rfl ?_
      obtain ⟨y71, h70, h⟩ := h
      refine xcallM (tree_parts_con nv1 _ h70) Try.func22 (by kernel_rfl) rfl (.cons rfl (.refl _) .nil) rfl rfl fun i72 => ?_
      refine xvalP (pv_makeFuncC rfl) rfl rfl ?_
      obtain ⟨y74, h73, h⟩ := h
      refine xcallF (Fb := [⟨b3, 42, ([.v (.int .i64 nv1.1), .v (.int .i64 nv1.2.1), .v (.int .i64 nv1.2.2.1), .v (.int .i64 nv1.2.2.2.1), .v (.int .i64 nv1.2.2.2.2.1), .v (.int .i64 nv1.2.2.2.2.2.1)] ++ (List.map ew nv1.2.2.2.2.2.2.l).flatten)⟩]) (Ft := [⟨i72, 3, 1, y71.length⟩]) (slices_ContainsFunc_con atv2 y71 b4 _ h73) Try.func24 (by kernel_rfl) rfl (.cons rfl (.tok _ _ _) (.cons rfl (.refl _) .nil)) (by exact (SubM.of (by repeat (first | with_reducible exact SubB.refl _ | exact SubB.nil _ | refine SubB.keep rfl rfl (by first | with_reducible exact WkL.refl _ | ((repeat (first | exact WkL.nil | refine WkL.cons (by first | with_reducible exact Wk.refl _ | exact Wk.nil_own _ | exact Wk.nil_pl _ | with_reducible exact Wk.tok _ _ _ | exact Wk.tok _ _ _ | exact Wk.eq (by first | rfl | (simp []; done) | (simp []; omega))) ?_)); done) | exact WkL.refl _) ?_ | refine SubB.drop ?_)) (by repeat (first | exact SubT.nil _ | refine SubT.add ?_ | (refine SubT.keep ?_ ?_; focus (first | with_reducible rfl | (simp []; done))) | refine SubT.drop ?_)))) rfl rfl ?_
      rintro _ _ _ ⟨rfl, rfl, rfl⟩
      simp only [List.nil_append, List.cons_append]
      refine xvalP (pv_assign rfl) rfl rfl ?_
      refine xnil ?_
      refine xthen ?_
      by_cases hp75 : y74 = true
      · replace h := h.1 hp75
        refine xcondT' hp75 rfl ?_
        refine xseq ?_
        refine xregion ?_
        refine xvalP (pv_assign rfl) rfl rfl ?_
        refine xnil ?_
        refine xthen ?_
        refine xretc ?_
        refine xin_ret ?_
        refine xthen_ret ?_
        replace h := h.symm
        subst h
        exact xret1 hg rfl rfl (.refl _) (SubM.of (.nil _) (.nil _)) ⟨rfl, rfl, rfl⟩
      · replace h := h.2 hp75
        refine xcondF' (b_f hp75) rfl ?_
        refine xseqM (fun σ => ∃ (x80 : Bool), tree_isNode_j2 nv1 groups3 x80 r ∧ σ = ⟨[(2, .v (.int .i64 groups3)), (3, .v (.pointer (some ⟨b3, 0, none⟩))), (27, .v (.bool x80))], [⟨b3, 42, ([.v (.int .i64 nv1.1), .v (.int .i64 nv1.2.1), .v (.int .i64 nv1.2.2.1), .v (.int .i64 nv1.2.2.2.1), .v (.int .i64 nv1.2.2.2.2.1), .v (.int .i64 nv1.2.2.2.2.2.1)] ++ (List.map ew nv1.2.2.2.2.2.2.l).flatten)⟩], []⟩) ?_ ?_
        · refine xregion ?_
          refine xvalP (qv_fieldAddrB FldC.h rfl) rfl rfl ?_
          refine xval (qv_loadB 1 ShpC.h rfl rfl rfl rfl) rfl rfl ?_
          refine xvalP (pv_bin2 rfl rfl rfl) rfl rfl ?_
          refine xvalP (pv_move rfl) rfl rfl ?_
          by_cases hp82 : nv1.1 = 4
          · replace h := h.1 hp82
            refine xsetB 31 (decide_eq_true hp82) rfl ?_
            refine xvalP (qv_fieldAddrB FldC.h rfl) rfl rfl ?_
            refine xval (qv_loadB 1 ShpC.h rfl rfl rfl rfl) rfl rfl ?_
            refine xvalP (qv_fieldAddrB FldC.h rfl) rfl rfl ?_
            refine xval (qv_loadB 1 ShpC.h rfl rfl rfl rfl) rfl rfl ?_
            obtain ⟨y84, h83, h⟩ := h
            refine xcall0 (tree_isTimes_con nv1.2.2.2.1 nv1.2.2.2.2.1 _ h83) Try.func26 (by kernel_rfl) rfl (.cons rfl (.refl _) (.cons rfl (.refl _) .nil)) rfl rfl ?_
            refine xvalP (pv_not rfl) rfl rfl ?_
            refine xvalP (pv_pick rfl rfl) rfl rfl ?_
            refine xvalP (pv_assign rfl) rfl rfl ?_
            refine xnil ?_
            exact xmeet ⟨(!y84), h, rfl⟩ ⟨(.cons rfl (.refl _) (.cons rfl (.refl _) (.cons rfl (.refl _) (.nil _)))), (SubM.of (.drop (.keep rfl rfl (.refl _) (.nil _))) (.nil _))⟩
          · replace h := h.2 hp82
            refine xsetB 31 (decide_eq_false hp82) rfl ?_
            refine xskip rfl rfl ?_
            refine xskip rfl rfl ?_
            refine xskip rfl rfl ?_
            refine xskip rfl rfl ?_
            refine xskip rfl rfl ?_
            refine xskip rfl rfl ?_
            refine xvalP (pv_pick rfl rfl) rfl rfl ?_
            refine xvalP (pv_assign rfl) rfl rfl ?_
            refine xnil ?_
            exact xmeet ⟨false, h, rfl⟩ ⟨(.cons rfl (.refl _) (.cons rfl (.refl _) (.cons rfl (.refl _) (.nil _)))), (SubM.of (.drop (.keep rfl rfl (.refl _) (.nil _))) (.nil _))⟩
        · clear h
          rintro _ ⟨x80, h, rfl⟩
          by_cases hp85 : x80 = true
          · replace h := h.1 hp85
            refine xcondT' hp85 rfl ?_
            refine xseq ?_
            refine xregion ?_
            refine xvalP (pv_assign rfl) rfl rfl ?_
            refine xnil ?_
            refine xthen ?_
            refine xretc ?_
            refine xin_ret ?_
            refine xthen_ret ?_
            replace h := h.symm
            subst h
            exact xret1 hg rfl rfl (.refl _) (SubM.of (.nil _) (.nil _)) ⟨rfl, rfl, rfl⟩
          · replace h := h.2 hp85
            refine xcondF' (b_f hp85) rfl ?_
            refine xseqM (fun σ => ∃ (x89 : Bool), tree_isNode_j3 nv1 groups3 x89 r ∧ σ = ⟨[(2, .v (.int .i64 groups3)), (3, .v (.pointer (some ⟨b3, 0, none⟩))), (39, .v (.bool x89))], [⟨b3, 42, ([.v (.int .i64 nv1.1), .v (.int .i64 nv1.2.1), .v (.int .i64 nv1.2.2.1), .v (.int .i64 nv1.2.2.2.1), .v (.int .i64 nv1.2.2.2.2.1), .v (.int .i64 nv1.2.2.2.2.2.1)] ++ (List.map ew nv1.2.2.2.2.2.2.l).flatten)⟩], []⟩) ?_ ?_
            · refine xregion ?_
              refine xvalP (qv_fieldAddrB FldC.h rfl) rfl rfl ?_
              refine xval (qv_loadB 0 ShpC.h rfl rfl rfl rfl) rfl rfl ?_
              refine xvalP (pv_bin2 rfl rfl rfl) rfl rfl ?_
              refine xvalP (pv_move rfl) rfl rfl ?_
              by_cases hp91 : nv1.1 = 5
              · rw [show (decide (nv1.1 = 5)) = true from (decide_eq_true hp91), Bool.true_or] at h
                refine xsetB 43 (decide_eq_true hp91) rfl ?_
                refine xskip rfl rfl ?_
                refine xskip rfl rfl ?_
                refine xskip rfl rfl ?_
                refine xvalP (pv_pick rfl rfl) rfl rfl ?_
                refine xvalP (pv_assign rfl) rfl rfl ?_
                refine xnil ?_
                exact xmeet ⟨true, h, rfl⟩ ⟨(.cons rfl (.refl _) (.cons rfl (.refl _) (.cons rfl (.refl _) (.nil _)))), (SubM.of (.keep rfl rfl (.refl _) (.nil _)) (.nil _))⟩
              · rw [show (decide (nv1.1 = 5)) = false from (decide_eq_false hp91), Bool.false_or] at h
                refine xsetB 43 (decide_eq_false hp91) rfl ?_
                refine xvalP (qv_fieldAddrB FldC.h rfl) rfl rfl ?_
                refine xval (qv_loadB 0 ShpC.h rfl rfl rfl rfl) rfl rfl ?_
                refine xvalP (pv_bin2 rfl rfl rfl) rfl rfl ?_
                refine xvalP (pv_pick rfl rfl) rfl rfl ?_
                refine xvalP (pv_assign rfl) rfl rfl ?_
                refine xnil ?_
                exact xmeet ⟨(decide (nv1.1 = 6)), h, rfl⟩ ⟨(.cons rfl (.refl _) (.cons rfl (.refl _) (.cons rfl (.refl _) (.nil _)))), (SubM.of (.keep rfl rfl (.refl _) (.nil _)) (.nil _))⟩
            · clear h
              rintro _ ⟨x89, h, rfl⟩
              by_cases hp93 : x89 = true
              · replace h := h.1 hp93
                refine xcondT' hp93 rfl ?_
                refine xseq ?_
                refine xregion ?_
                refine xvalP (qv_fieldAddrB FldC.h rfl) rfl rfl ?_
                refine xval (qv_loadB 0 ShpC.h rfl rfl rfl rfl) rfl rfl ?_
                refine xvalP (pv_bin2 rfl rfl rfl) rfl rfl ?_
                refine xvalP (pv_move rfl) rfl rfl ?_
                by_cases hp98 : 1 ≤ nv1.2.2.2.2.2.1
                · replace h := h.1 hp98
                  refine xsetB 51 (decide_eq_true hp98) rfl ?_
                  refine xvalP (qv_fieldAddrB FldC.h rfl) rfl rfl ?_
                  refine xval (qv_loadB 0 ShpC.h rfl rfl rfl rfl) rfl rfl ?_
                  refine xvalP (pv_move rfl) rfl rfl ?_
                  refine xvalP (pv_bin2 rfl rfl rfl) rfl rfl ?_
                  refine xvalP (pv_pick rfl rfl) rfl rfl ?_
                  refine xvalP (pv_assign rfl) rfl rfl ?_
                  refine xnil ?_
                  refine xthen ?_
                  refine xretc ?_
                  refine xin_ret ?_
                  refine xthen_ret ?_
                  replace h := h.symm
                  subst h
                  exact xret1 hg rfl rfl (.refl _) (SubM.of (.nil _) (.nil _)) ⟨rfl, rfl, rfl⟩
                · replace h := h.2 hp98
                  refine xsetB 51 (decide_eq_false hp98) rfl ?_
                  refine xskip rfl rfl ?_
                  refine xskip rfl rfl ?_
                  refine xskip rfl rfl ?_
                  refine xskip rfl rfl ?_
                  refine xvalP (pv_pick rfl rfl) rfl rfl ?_
                  refine xvalP (pv_assign rfl) rfl rfl ?_
                  refine xnil ?_
                  refine xthen ?_
                  refine xretc ?_
                  refine xin_ret ?_
                  refine xthen_ret ?_
                  replace h := h.symm
                  subst h
                  exact xret1 hg rfl rfl (.refl _) (SubM.of (.nil _) (.nil _)) ⟨rfl, rfl, rfl⟩
              · replace h := h.2 hp93
                refine xcondF' (b_f hp93) rfl ?_
                refine xskipc ?_
                refine xin_normal ?_
                refine xthen ?_
                refine xseq ?_
                refine xregion ?_
                refine xvalP (pv_assign rfl) rfl rfl ?_
                refine xnil ?_
                refine xthen ?_
                refine xretc ?_
                replace h := h.symm
                subst h
                exact xret1 hg rfl rfl (.refl _) (SubM.of (.nil _) (.nil _)) ⟨rfl, rfl, rfl⟩
/-- (*tree.Builder).put -/
def tree_Builder_put_R (o1 : (List (Int × Int × Int × Int × Int × Int × (Arr 4 (UInt64)))) × Int) (nv3 : Int × Int × Int × Int × Int × Int × (Arr 4 (UInt64))) (r : Int × ((List (Int × Int × Int × Int × Int × Int × (Arr 4 (UInt64)))) × Int)) : Prop :=
  ((1000 ≤ (o1.1.length : Int) → r = ((-1), (o1.1, o1.2))) ∧ (¬ (1000 ≤ (o1.1.length : Int)) → ∃ y28 : Bool, tree_isNode_R nv3 (o1.1.length : Int) o1.2 y28 ∧ ((¬ (y28 = true) → r = ((-1), (o1.1, o1.2))) ∧ (¬ (¬ (y28 = true)) → Room (o1.1.length + ([nv3]).length) 80 ∧ InR ((((o1.1 ++ [nv3])).length : Int) - 1) ∧ r = (((((o1.1 ++ [nv3])).length : Int) - 1), ((o1.1 ++ [nv3]), o1.2))))))
def tree_Builder_put_ev (fuel : Nat) (o1 : (List (Int × Int × Int × Int × Int × Int × (Arr 4 (UInt64)))) × Int) (nv3 : Int × Int × Int × Int × Int × Int × (Arr 4 (UInt64))) : Option (Int × ((List (Int × Int × Int × Int × Int × Int × (Arr 4 (UInt64)))) × Int)) :=
  (if 1000 ≤ (o1.1.length : Int) then some ((-1), (o1.1, o1.2)) else ((tree_isNode_ev fuel nv3 (o1.1.length : Int) o1.2).bind fun y28 => (if ¬ (y28 = true) then some ((-1), (o1.1, o1.2)) else (if Room (o1.1.length + ([nv3]).length) 80 then (if InR ((((o1.1 ++ [nv3])).length : Int) - 1) then some (((((o1.1 ++ [nv3])).length : Int) - 1), ((o1.1 ++ [nv3]), o1.2)) else none) else none))))
theorem tree_Builder_put_ok {fuel : Nat} {o1 : (List (Int × Int × Int × Int × Int × Int × (Arr 4 (UInt64)))) × Int} {nv3 : Int × Int × Int × Int × Int × Int × (Arr 4 (UInt64))} {r : Int × ((List (Int × Int × Int × Int × Int × Int × (Arr 4 (UInt64)))) × Int)} (h : tree_Builder_put_ev fuel o1 nv3 = some r) : tree_Builder_put_R o1 nv3 r := by
  unfold tree_Builder_put_ev at h
  unfold tree_Builder_put_R
  refine ⟨fun g31 => ?_, fun g31 => ?_⟩
  · rw [if_pos g31] at h
    exact (Option.some.inj h).symm
  · rw [if_neg g31] at h
    obtain ⟨q32, g32, h⟩ := bind_ok h
    refine ⟨q32, tree_isNode_ok g32, ?_⟩
    refine ⟨fun g33 => ?_, fun g33 => ?_⟩
    · rw [if_pos g33] at h
      exact (Option.some.inj h).symm
    · rw [if_neg g33] at h
      obtain ⟨g34, h⟩ := if_ok h
      refine ⟨g34, ?_⟩
      obtain ⟨g35, h⟩ := if_ok h
      refine ⟨g35, ?_⟩
      exact (Option.some.inj h).symm
set_option maxHeartbeats 4000000 in
theorem tree_Builder_put_con (o1 : (List (Int × Int × Int × Int × Int × Int × (Arr 4 (UInt64)))) × Int) (nv3 : Int × Int × Int × Int × Int × Int × (Arr 4 (UInt64))) (bx0 : Nat) (ia2 : Option (Nat × Nat)) (r : Int × ((List (Int × Int × Int × Int × Int × Int × (Arr 4 (UInt64)))) × Int)) (h : tree_Builder_put_R o1 nv3 r) : Con Try.prog 18 [.v (.pointer (some ⟨bx0, 0, none⟩)), .agg ([.v (.int .i64 nv3.1), .v (.int .i64 nv3.2.1), .v (.int .i64 nv3.2.2.1), .v (.int .i64 nv3.2.2.2.1), .v (.int .i64 nv3.2.2.2.2.1), .v (.int .i64 nv3.2.2.2.2.2.1)] ++ (List.map ew nv3.2.2.2.2.2.2.l).flatten)] [⟨bx0, 28, [.sl 10 (some ia2) (List.map E_palinode_api_Node o1.1), .v (.int .i64 o1.2)]⟩] [⟨ia2, 42, 10, o1.1.length⟩] (fun rr bx tk => ∃ j1, rr = .v (.int .i64 r.1) ∧ bx = [⟨bx0, 28, [.sl 10 (some j1) (List.map E_palinode_api_Node r.2.1), .v (.int .i64 r.2.2)]⟩] ∧ tk = [⟨j1, 42, 10, r.2.1.length⟩]) := by
  refine xenter Try.func18 rfl rfl fun g hg => ?_
  simp only [Try.ntmps18, slots]
  refine xseq ?_
  refine xregion ?_
  refine xbox rfl rfl rfl rfl fun b3 => ?_
  refine xvalP (pv_assign rfl) rfl rfl ?_
  refine xnil ?_
  refine xthen ?_
  refine xseq ?_
  refine xseq ?_
  refine xregionD (m := 20) (by kernel_rfl) rfl ?_
  refine xpval 0 rfl (pv_move rfl) rfl rfl (by kernel_rfl) (by kernel_rfl) (by kernel_rfl) (fun _ _ _ _ h => h) ?_
  refine xpval 1 rfl (pv_nilCheck rfl) rfl rfl (by kernel_rfl) (by kernel_rfl) (by kernel_rfl) (fun _ _ _ _ h => h) ?_
  refine xpval 2 rfl (qv_fieldAddrB FldC.h rfl) rfl rfl (by kernel_rfl) (by kernel_rfl) (by kernel_rfl) (fun _ _ _ _ h => h) ?_
  refine xpvalE 3 [] rfl (qv_loadB 1 ShpC.h rfl rfl rfl rfl) rfl rfl (by kernel_rfl) (by kernel_rfl) (by kernel_rfl) (fun _ _ _ _ h => h) ?_
  refine xpval 4 rfl (pv_lenM UndC.h rfl) rfl rfl (by kernel_rfl) (by kernel_rfl) (by kernel_rfl) (fun _ _ _ _ h => h) ?_
  refine xpval 5 rfl (pv_bin2 rfl rfl rfl) rfl rfl (by kernel_rfl) (by kernel_rfl) (by kernel_rfl) (fun _ _ _ _ h => h) ?_
  refine xpval 6 rfl (pv_move rfl) rfl rfl (by kernel_rfl) (by kernel_rfl) (by kernel_rfl) (fun _ _ _ _ h => h) ?_
  by_cases hp25 : 1000 ≤ (o1.1.length : Int)
  · replace h := h.1 hp25
    refine psetB 11 (decide_eq_true hp25) rfl ?_
    refine xpskip 7 rfl rfl rfl (by kernel_rfl) (by kernel_rfl) (by kernel_rfl) (fun _ _ _ _ h => h) ?_
    refine xpskip 8 rfl rfl rfl (by kernel_rfl) (by kernel_rfl) (by kernel_rfl) (fun _ _ _ _ h => h) ?_
    refine xpskip 9 rfl rfl rfl (by kernel_rfl) (by kernel_rfl) (by kernel_rfl) (fun _ _ _ _ h => h) ?_
    refine xpskip 10 rfl rfl rfl (by kernel_rfl) (by kernel_rfl) (by kernel_rfl) (fun _ _ _ _ h => h) ?_
    refine xpskip 11 rfl rfl rfl (by kernel_rfl) (by kernel_rfl) (by kernel_rfl) (fun _ _ _ _ h => h) ?_
    refine xpskip 12 rfl rfl rfl (by kernel_rfl) (by kernel_rfl) (by kernel_rfl) (fun _ _ _ _ h => h) ?_
    refine xpskip 13 rfl rfl rfl (by kernel_rfl) (by kernel_rfl) (by kernel_rfl) (fun _ _ _ _ h => h) ?_
    refine xpskip 14 rfl rfl rfl (by kernel_rfl) (by kernel_rfl) (by kernel_rfl) (fun _ _ _ _ h => h) ?_
    refine xpskip 15 rfl rfl rfl (by kernel_rfl) (by kernel_rfl) (by kernel_rfl) (fun _ _ _ _ h => h) ?_
    refine xpskip 16 rfl rfl rfl (by kernel_rfl) (by kernel_rfl) (by kernel_rfl) (fun _ _ _ _ h => h) ?_
    refine xpskip 17 rfl rfl rfl (by kernel_rfl) (by kernel_rfl) (by kernel_rfl) (fun _ _ _ _ h => h) ?_
    refine xpskip 18 rfl rfl rfl (by kernel_rfl) (by kernel_rfl) (by kernel_rfl) (fun _ _ _ _ h => h) ?_
    refine xpval 19 rfl (pv_pick rfl rfl) rfl rfl (by kernel_rfl) (by kernel_rfl) (by kernel_rfl) (fun _ _ _ _ h => h) ?_
    refine xpdone (by kernel_rfl) ?_
    refine xthen ?_
    refine xcondT rfl ?_
    refine xseq ?_
    refine xregion ?_
    refine xvalP (pv_assign rfl) rfl rfl ?_
    refine xnil ?_
    refine xthen ?_
    refine xretc ?_
    refine xthen_ret ?_
    replace h := h.symm
    subst h
    exact xret1 hg rfl rfl (.refl _) (SubM.of (.drop (.keep rfl rfl (.refl _) (.nil _))) (.keep rfl (.nil _))) ⟨ia2, rfl, rfl, rfl⟩
  · replace h := h.2 hp25
    refine psetB 11 (decide_eq_false hp25) rfl ?_
    obtain ⟨y28, h27, h⟩ := h
    refine xpval 8 rfl (pv_move rfl) rfl rfl (by kernel_rfl) (by kernel_rfl) (by kernel_rfl) (fun _ _ _ _ h => h) ?_
    refine xpval 9 rfl (pv_nilCheck rfl) rfl rfl (by kernel_rfl) (by kernel_rfl) (by kernel_rfl) (fun _ _ _ _ h => h) ?_
    refine xpval 10 rfl (qv_fieldAddrB FldC.h rfl) rfl rfl (by kernel_rfl) (by kernel_rfl) (by kernel_rfl) (fun _ _ _ _ h => h) ?_
    refine xpval 13 rfl (pv_move rfl) rfl rfl (by kernel_rfl) (by kernel_rfl) (by kernel_rfl) (fun _ _ _ _ h => h) ?_
    refine xpval 14 rfl (pv_nilCheck rfl) rfl rfl (by kernel_rfl) (by kernel_rfl) (by kernel_rfl) (fun _ _ _ _ h => h) ?_
    refine xpval 15 rfl (qv_fieldAddrB FldC.h rfl) rfl rfl (by kernel_rfl) (by kernel_rfl) (by kernel_rfl) (fun _ _ _ _ h => h) ?_
    refine xpvalE 7 [11, 12, 16] rfl (qv_loadP 0 [] ([.v (.int .i64 nv3.1), .v (.int .i64 nv3.2.1), .v (.int .i64 nv3.2.2.1), .v (.int .i64 nv3.2.2.2.1), .v (.int .i64 nv3.2.2.2.2.1), .v (.int .i64 nv3.2.2.2.2.2.1)] ++ (List.map ew nv3.2.2.2.2.2.2.l).flatten) [] (by first | rfl | exact (List.append_nil _).symm | exact List.append_nil _ | exact List.append_assoc _ _ _ | exact (List.append_assoc _ _ _).symm | exact congrArg _ (List.append_nil _).symm | exact congrArg _ (List.append_nil _) | (simp; done) | (simp [cellsS]; done)) (by first | rfl | exact seg_lenE (by rfl) | exact len_app rfl (seg_lenE (by rfl)) (by rfl) | exact len_app (seg_lenE (by rfl)) rfl (by rfl) | exact len_app rfl (len_app (seg_lenE (by rfl)) rfl (by rfl)) (by rfl) | (simp only [seg_len, cellsS, List.length_append, List.length_cons, List.length_nil]; done) | (simp only [seg_len, cellsS, List.length_append, List.length_cons, List.length_nil]; rfl)) (by first | rfl | exact seg_lenE (by rfl) | exact len_app rfl (seg_lenE (by rfl)) (by rfl) | exact len_app (seg_lenE (by rfl)) rfl (by rfl) | exact len_app rfl (len_app (seg_lenE (by rfl)) rfl (by rfl)) (by rfl) | (simp only [seg_len, cellsS, List.length_append, List.length_cons, List.length_nil]; done) | (simp only [seg_len, cellsS, List.length_append, List.length_cons, List.length_nil]; rfl)) (part_all (by first | rfl | exact seg_lenE (by rfl) | exact len_app rfl (seg_lenE (by rfl)) (by rfl) | exact len_app (seg_lenE (by rfl)) rfl (by rfl) | exact len_app rfl (len_app (seg_lenE (by rfl)) rfl (by rfl)) (by rfl) | (simp only [seg_len, cellsS, List.length_append, List.length_cons, List.length_nil]; done) | (simp only [seg_len, cellsS, List.length_append, List.length_cons, List.length_nil]; rfl))) ShpC.h rfl rfl) rfl rfl (by kernel_rfl) (by kernel_rfl) (by kernel_rfl) (fun _ _ _ _ h => h) ?_
    refine xpvalE 11 [16] rfl (qv_loadB 1 ShpC.h rfl rfl rfl rfl) rfl rfl (by kernel_rfl) (by kernel_rfl) (by kernel_rfl) (fun _ _ _ _ h => h) ?_
    refine xpval 12 rfl (pv_lenM UndC.h rfl) rfl rfl (by kernel_rfl) (by kernel_rfl) (by kernel_rfl) (fun _ _ _ _ h => h) ?_
    refine xpvalE 16 [] rfl (qv_loadB 1 ShpC.h rfl rfl rfl rfl) rfl rfl (by kernel_rfl) (by kernel_rfl) (by kernel_rfl) (fun _ _ _ _ h => h) ?_
    refine xpstep (i := 17) (by kernel_rfl) rfl ?_
    refine wcall0 (tree_isNode_con nv3 (o1.1.length : Int) o1.2 _ h27) Try.func21 (by kernel_rfl) rfl (.cons rfl (.refl _) (.cons rfl (.refl _) (.cons rfl (.refl _) .nil))) rfl rfl ?_
    refine xpval 18 rfl (pv_not rfl) rfl rfl (by kernel_rfl) (by kernel_rfl) (by kernel_rfl) (fun _ _ _ _ h => h) ?_
    refine xpval 19 rfl (pv_pick rfl rfl) rfl rfl (by kernel_rfl) (by kernel_rfl) (by kernel_rfl) (fun _ _ _ _ h => h) ?_
    refine xpdone (by kernel_rfl) ?_
    refine xthen ?_
    by_cases hp29 : ¬ (y28 = true)
    · replace h := h.1 hp29
      refine xcondT' (not_t (b_f hp29)) rfl ?_
      refine xseq ?_
      refine xregion ?_
      refine xvalP (pv_assign rfl) rfl rfl ?_
      refine xnil ?_
      refine xthen ?_
      refine xretc ?_
      refine xthen_ret ?_
      replace h := h.symm
      subst h
      exact xret1 hg rfl rfl (.refl _) (SubM.of (.drop (.keep rfl rfl (.refl _) (.nil _))) (.keep rfl (.nil _))) ⟨ia2, rfl, rfl, rfl⟩
    · replace h := h.2 hp29
      refine xcondF' (not_f (Decidable.of_not_not hp29)) rfl ?_
      refine xskipc ?_
      refine xthen ?_
      refine xseq ?_
      refine xregionD (m := 11) (by kernel_rfl) rfl ?_
      obtain ⟨h32, h⟩ := h
      refine xpval 0 rfl (pv_move rfl) rfl rfl (by kernel_rfl) (by kernel_rfl) (by kernel_rfl) (fun _ _ _ _ h => h) ?_
      refine xpval 1 rfl (pv_move rfl) rfl rfl (by kernel_rfl) (by kernel_rfl) (by kernel_rfl) (fun _ _ _ _ h => h) ?_
      refine xpval 2 rfl (pv_nilCheck rfl) rfl rfl (by kernel_rfl) (by kernel_rfl) (by kernel_rfl) (fun _ _ _ _ h => h) ?_
      refine xpval 3 rfl (qv_fieldAddrB FldC.h rfl) rfl rfl (by kernel_rfl) (by kernel_rfl) (by kernel_rfl) (fun _ _ _ _ h => h) ?_
      refine xpvalE 4 [5, 6] rfl (qv_loadB 1 ShpC.h rfl rfl rfl rfl) rfl rfl (by kernel_rfl) (by kernel_rfl) (by kernel_rfl) (fun _ _ _ _ h => h) ?_
      refine xpvalE 5 [] rfl (qv_loadP 0 [] ([.v (.int .i64 nv3.1), .v (.int .i64 nv3.2.1), .v (.int .i64 nv3.2.2.1), .v (.int .i64 nv3.2.2.2.1), .v (.int .i64 nv3.2.2.2.2.1), .v (.int .i64 nv3.2.2.2.2.2.1)] ++ (List.map ew nv3.2.2.2.2.2.2.l).flatten) [] (by first | rfl | exact (List.append_nil _).symm | exact List.append_nil _ | exact List.append_assoc _ _ _ | exact (List.append_assoc _ _ _).symm | exact congrArg _ (List.append_nil _).symm | exact congrArg _ (List.append_nil _) | (simp; done) | (simp [cellsS]; done)) (by first | rfl | exact seg_lenE (by rfl) | exact len_app rfl (seg_lenE (by rfl)) (by rfl) | exact len_app (seg_lenE (by rfl)) rfl (by rfl) | exact len_app rfl (len_app (seg_lenE (by rfl)) rfl (by rfl)) (by rfl) | (simp only [seg_len, cellsS, List.length_append, List.length_cons, List.length_nil]; done) | (simp only [seg_len, cellsS, List.length_append, List.length_cons, List.length_nil]; rfl)) (by first | rfl | exact seg_lenE (by rfl) | exact len_app rfl (seg_lenE (by rfl)) (by rfl) | exact len_app (seg_lenE (by rfl)) rfl (by rfl) | exact len_app rfl (len_app (seg_lenE (by rfl)) rfl (by rfl)) (by rfl) | (simp only [seg_len, cellsS, List.length_append, List.length_cons, List.length_nil]; done) | (simp only [seg_len, cellsS, List.length_append, List.length_cons, List.length_nil]; rfl)) (part_all (by first | rfl | exact seg_lenE (by rfl) | exact len_app rfl (seg_lenE (by rfl)) (by rfl) | exact len_app (seg_lenE (by rfl)) rfl (by rfl) | exact len_app rfl (len_app (seg_lenE (by rfl)) rfl (by rfl)) (by rfl) | (simp only [seg_len, cellsS, List.length_append, List.length_cons, List.length_nil]; done) | (simp only [seg_len, cellsS, List.length_append, List.length_cons, List.length_nil]; rfl))) ShpC.h rfl rfl) rfl rfl (by kernel_rfl) (by kernel_rfl) (by kernel_rfl) (fun _ _ _ _ h => h) ?_
      refine xpstep (i := 6) (by kernel_rfl) rfl ?_
      refine wbuildSliceME (f := E_palinode_api_Node) [nv3] UndC.h InfC.h rfl (.cons rfl (beq_of (by first | rfl | exact seg_lenE (by rfl) | exact len_app rfl (seg_lenE (by rfl)) (by rfl) | exact len_app (seg_lenE (by rfl)) rfl (by rfl) | exact len_app rfl (len_app (seg_lenE (by rfl)) rfl (by rfl)) (by rfl) | (simp only [seg_len, cellsS, List.length_append, List.length_cons, List.length_nil]; done) | (simp only [seg_len, cellsS, List.length_append, List.length_cons, List.length_nil]; rfl))) rfl rfl .nil) (by first | exact wkR_of rfl | (repeat (first | exact WkR.nil | refine WkR.cons (by (repeat (first | exact WkL.nil | refine WkL.cons (by first | with_reducible exact Wk.refl _ | exact Wk.nil_own _ | exact Wk.nil_pl _ | with_reducible exact Wk.tok _ _ _ | exact Wk.tok _ _ _ | exact Wk.eq (by first | rfl | (simp []; done) | (simp []; omega))) ?_))) ?_))) rfl rfl rfl rfl fun s31 => ?_
      refine xpstep (i := 7) (by kernel_rfl) rfl ?_
      refine wappendM (l := o1.1) (l2 := [nv3]) 1 h32 UndC.h InfC.h rfl rfl rfl (.refl _) rfl rfl rfl fun i33 => ?_
      refine xpval 8 rfl (pv_nilCheck rfl) rfl rfl (by kernel_rfl) (by kernel_rfl) (by kernel_rfl) (fun _ _ _ _ h => h) ?_
      refine xpval 9 rfl (qv_fieldAddrB FldC.h rfl) rfl rfl (by kernel_rfl) (by kernel_rfl) (by kernel_rfl) (fun _ _ _ _ h => h) ?_
      refine xpstep (i := 10) (by kernel_rfl) rfl ?_
      refine wstore 1 ShpC.h rfl rfl rfl rfl rfl rfl rfl ?_
      refine xpdone (by kernel_rfl) ?_
      refine xthen ?_
      refine xseq ?_
      refine xregion ?_
      refine xvalP (pv_move rfl) rfl rfl ?_
      refine xvalP (pv_nilCheck rfl) rfl rfl ?_
      refine xvalP (qv_fieldAddrB FldC.h rfl) rfl rfl ?_
      refine xval (qv_loadB 1 ShpC.h rfl rfl rfl rfl) rfl rfl ?_
      refine xvalP (pv_lenM UndC.h rfl) rfl rfl ?_
      obtain ⟨h35, h⟩ := h
      refine xvalP (pv_subI h35 rfl rfl) rfl rfl ?_
      refine xvalP (pv_assign rfl) rfl rfl ?_
      refine xnil ?_
      refine xthen ?_
      refine xretc ?_
      replace h := h.symm
      subst h
      exact xret1 hg rfl rfl (.refl _) (SubM.of (.drop (.keep rfl rfl (.refl _) (.nil _))) (.drop (.keep rfl (.nil _)))) ⟨i33, rfl, rfl, rfl⟩
/-- (*tree.Builder).Set -/
def tree_Builder_Set_R (o1 : (List (Int × Int × Int × Int × Int × Int × (Arr 4 (UInt64)))) × Int) (sv3 : Arr 4 (UInt64)) (r : Int × ((List (Int × Int × Int × Int × Int × Int × (Arr 4 (UInt64)))) × Int)) : Prop :=
  ∃ y5 : Int × ((List (Int × Int × Int × Int × Int × Int × (Arr 4 (UInt64)))) × Int), tree_Builder_put_R (o1.1, o1.2) (1, 0, 0, 0, 0, 0, sv3) y5 ∧ r = (y5.1, (y5.2.1, y5.2.2))
def tree_Builder_Set_ev (fuel : Nat) (o1 : (List (Int × Int × Int × Int × Int × Int × (Arr 4 (UInt64)))) × Int) (sv3 : Arr 4 (UInt64)) : Option (Int × ((List (Int × Int × Int × Int × Int × Int × (Arr 4 (UInt64)))) × Int)) :=
  ((tree_Builder_put_ev fuel (o1.1, o1.2) (1, 0, 0, 0, 0, 0, sv3)).bind fun y5 => some (y5.1, (y5.2.1, y5.2.2)))
theorem tree_Builder_Set_ok {fuel : Nat} {o1 : (List (Int × Int × Int × Int × Int × Int × (Arr 4 (UInt64)))) × Int} {sv3 : Arr 4 (UInt64)} {r : Int × ((List (Int × Int × Int × Int × Int × Int × (Arr 4 (UInt64)))) × Int)} (h : tree_Builder_Set_ev fuel o1 sv3 = some r) : tree_Builder_Set_R o1 sv3 r := by
  unfold tree_Builder_Set_ev at h
  unfold tree_Builder_Set_R
  obtain ⟨q36, g36, h⟩ := bind_ok h
  refine ⟨q36, tree_Builder_put_ok g36, ?_⟩
  exact (Option.some.inj h).symm
set_option maxHeartbeats 4000000 in
theorem tree_Builder_Set_con (o1 : (List (Int × Int × Int × Int × Int × Int × (Arr 4 (UInt64)))) × Int) (sv3 : Arr 4 (UInt64)) (bx0 : Nat) (ia2 : Option (Nat × Nat)) (r : Int × ((List (Int × Int × Int × Int × Int × Int × (Arr 4 (UInt64)))) × Int)) (h : tree_Builder_Set_R o1 sv3 r) : Con Try.prog 10 [.v (.pointer (some ⟨bx0, 0, none⟩)), .agg ((List.map ew sv3.l).flatten)] [⟨bx0, 28, [.sl 10 (some ia2) (List.map E_palinode_api_Node o1.1), .v (.int .i64 o1.2)]⟩] [⟨ia2, 42, 10, o1.1.length⟩] (fun rr bx tk => ∃ j1, rr = .v (.int .i64 r.1) ∧ bx = [⟨bx0, 28, [.sl 10 (some j1) (List.map E_palinode_api_Node r.2.1), .v (.int .i64 r.2.2)]⟩] ∧ tk = [⟨j1, 42, 10, r.2.1.length⟩]) := by
  refine xenter Try.func10 rfl rfl fun g hg => ?_
  simp only [Try.ntmps10, slots]
  refine xseq ?_
  refine xregion ?_
  refine xbox rfl rfl rfl rfl fun b3 => ?_
  refine xvalP (pv_assign rfl) rfl rfl ?_
  refine xnil ?_
  refine xthen ?_
  refine xseq ?_
  refine xregion ?_
  refine xvalP (pv_move rfl) rfl rfl ?_
  refine xval (qv_loadP 0 [] ((List.map ew sv3.l).flatten) [] (by first | rfl | exact (List.append_nil _).symm | exact List.append_nil _ | exact List.append_assoc _ _ _ | exact (List.append_assoc _ _ _).symm | exact congrArg _ (List.append_nil _).symm | exact congrArg _ (List.append_nil _) | (simp; done) | (simp [cellsS]; done)) (by first | rfl | exact seg_lenE (by rfl) | exact len_app rfl (seg_lenE (by rfl)) (by rfl) | exact len_app (seg_lenE (by rfl)) rfl (by rfl) | exact len_app rfl (len_app (seg_lenE (by rfl)) rfl (by rfl)) (by rfl) | (simp only [seg_len, cellsS, List.length_append, List.length_cons, List.length_nil]; done) | (simp only [seg_len, cellsS, List.length_append, List.length_cons, List.length_nil]; rfl)) (by first | rfl | exact seg_lenE (by rfl) | exact len_app rfl (seg_lenE (by rfl)) (by rfl) | exact len_app (seg_lenE (by rfl)) rfl (by rfl) | exact len_app rfl (len_app (seg_lenE (by rfl)) rfl (by rfl)) (by rfl) | (simp only [seg_len, cellsS, List.length_append, List.length_cons, List.length_nil]; done) | (simp only [seg_len, cellsS, List.length_append, List.length_cons, List.length_nil]; rfl)) (part_all (seg_lenE (by rfl))) ShpC.h rfl rfl) rfl rfl ?_
  refine xvalP (pv_buildC (cs := ([.v (.int .i64 1), .v (.int .i64 0), .v (.int .i64 0), .v (.int .i64 0), .v (.int .i64 0), .v (.int .i64 0)] ++ (List.map ew sv3.l).flatten)) StrC.h rfl (by refine fill_step [] [.v (.int .i64 0)] ([.v (.int .i64 0), .v (.int .i64 0), .v (.int .i64 0), .v (.int .i64 0), .v (.int .i64 0)] ++ (List.map ew ((Arr.rep 4 (0 : UInt64))).l).flatten) (by first | rfl | exact (List.append_nil _).symm | exact List.append_nil _ | exact List.append_assoc _ _ _ | exact (List.append_assoc _ _ _).symm | exact congrArg _ (List.append_nil _).symm | exact congrArg _ (List.append_nil _) | (simp; done) | (simp [cellsS]; done)) (by first | rfl | exact seg_lenE (by rfl) | exact len_app rfl (seg_lenE (by rfl)) (by rfl) | exact len_app (seg_lenE (by rfl)) rfl (by rfl) | exact len_app rfl (len_app (seg_lenE (by rfl)) rfl (by rfl)) (by rfl) | (simp only [seg_len, cellsS, List.length_append, List.length_cons, List.length_nil]; done) | (simp only [seg_len, cellsS, List.length_append, List.length_cons, List.length_nil]; rfl)) (by first | rfl | exact seg_lenE (by rfl) | exact len_app rfl (seg_lenE (by rfl)) (by rfl) | exact len_app (seg_lenE (by rfl)) rfl (by rfl) | exact len_app rfl (len_app (seg_lenE (by rfl)) rfl (by rfl)) (by rfl) | (simp only [seg_len, cellsS, List.length_append, List.length_cons, List.length_nil]; done) | (simp only [seg_len, cellsS, List.length_append, List.length_cons, List.length_nil]; rfl)) (by first | rfl | exact seg_lenE (by rfl) | exact len_app rfl (seg_lenE (by rfl)) (by rfl) | exact len_app (seg_lenE (by rfl)) rfl (by rfl) | exact len_app rfl (len_app (seg_lenE (by rfl)) rfl (by rfl)) (by rfl) | (simp only [seg_len, cellsS, List.length_append, List.length_cons, List.length_nil]; done) | (simp only [seg_len, cellsS, List.length_append, List.length_cons, List.length_nil]; rfl)) rfl rfl ?_; refine fill_step [.v (.int .i64 1), .v (.int .i64 0), .v (.int .i64 0), .v (.int .i64 0), .v (.int .i64 0), .v (.int .i64 0)] ((List.map ew ((Arr.rep 4 (0 : UInt64))).l).flatten) [] (by first | rfl | exact (List.append_nil _).symm | exact List.append_nil _ | exact List.append_assoc _ _ _ | exact (List.append_assoc _ _ _).symm | exact congrArg _ (List.append_nil _).symm | exact congrArg _ (List.append_nil _) | (simp; done) | (simp [cellsS]; done)) (by first | rfl | exact seg_lenE (by rfl) | exact len_app rfl (seg_lenE (by rfl)) (by rfl) | exact len_app (seg_lenE (by rfl)) rfl (by rfl) | exact len_app rfl (len_app (seg_lenE (by rfl)) rfl (by rfl)) (by rfl) | (simp only [seg_len, cellsS, List.length_append, List.length_cons, List.length_nil]; done) | (simp only [seg_len, cellsS, List.length_append, List.length_cons, List.length_nil]; rfl)) (by first | rfl | exact seg_lenE (by rfl) | exact len_app rfl (seg_lenE (by rfl)) (by rfl) | exact len_app (seg_lenE (by rfl)) rfl (by rfl) | exact len_app rfl (len_app (seg_lenE (by rfl)) rfl (by rfl)) (by rfl) | (simp only [seg_len, cellsS, List.length_append, List.length_cons, List.length_nil]; done) | (simp only [seg_len, cellsS, List.length_append, List.length_cons, List.length_nil]; rfl)) (by first | rfl | exact seg_lenE (by rfl) | exact len_app rfl (seg_lenE (by rfl)) (by rfl) | exact len_app (seg_lenE (by rfl)) rfl (by rfl) | exact len_app rfl (len_app (seg_lenE (by rfl)) rfl (by rfl)) (by rfl) | (simp only [seg_len, cellsS, List.length_append, List.length_cons, List.length_nil]; done) | (simp only [seg_len, cellsS, List.length_append, List.length_cons, List.length_nil]; rfl)) rfl rfl ?_; exact congrArg some (by first | rfl | exact (List.append_nil _).symm | exact List.append_nil _ | exact List.append_assoc _ _ _ | exact (List.append_assoc _ _ _).symm | exact congrArg _ (List.append_nil _).symm | exact congrArg _ (List.append_nil _) | (simp; done) | (simp [cellsS]; done)))) rfl rfl ?_
  obtain ⟨y5, h4, h⟩ := h
  refine xcallF (Fb := [⟨b3, 33, ((List.map ew sv3.l).flatten)⟩]) (Ft := []) (tree_Builder_put_con (o1.1, o1.2) (1, 0, 0, 0, 0, 0, sv3) bx0 ia2 _ h4) Try.func18 (by kernel_rfl) rfl (.cons rfl (.refl _) (.cons rfl (.refl _) .nil)) (by refine SubM.trans (SubM.mvB 1 rfl) ?_; (simp only [List.eraseIdx]); exact (SubM.of (by repeat (first | with_reducible exact SubB.refl _ | exact SubB.nil _ | refine SubB.keep rfl rfl (by first | with_reducible exact WkL.refl _ | ((repeat (first | exact WkL.nil | refine WkL.cons (by first | with_reducible exact Wk.refl _ | exact Wk.nil_own _ | exact Wk.nil_pl _ | with_reducible exact Wk.tok _ _ _ | exact Wk.tok _ _ _ | exact Wk.eq (by first | rfl | (simp []; done) | (simp []; omega))) ?_)); done) | exact WkL.refl _) ?_ | refine SubB.drop ?_)) (by repeat (first | exact SubT.nil _ | refine SubT.add ?_ | (refine SubT.keep ?_ ?_; focus (first | with_reducible rfl | (simp []; done))) | refine SubT.drop ?_)))) rfl rfl ?_
  rintro _ _ _ ⟨i6, rfl, rfl, rfl⟩
  simp only [List.nil_append, List.cons_append]
  refine xvalP (pv_assign rfl) rfl rfl ?_
  refine xnil ?_
  refine xthen ?_
  refine xretc ?_
  replace h := h.symm
  subst h
  exact xret1 hg rfl rfl (.refl _) (SubM.of (.keep rfl rfl (.refl _) (.nil _)) (.keep rfl (.nil _))) ⟨i6, rfl, rfl, rfl⟩
/-- (*tree.Builder).Empty -/
def tree_Builder_Empty_R (o1 : (List (Int × Int × Int × Int × Int × Int × (Arr 4 (UInt64)))) × Int) (r : Int × ((List (Int × Int × Int × Int × Int × Int × (Arr 4 (UInt64)))) × Int)) : Prop :=
  ∃ y4 : Int × ((List (Int × Int × Int × Int × Int × Int × (Arr 4 (UInt64)))) × Int), tree_Builder_put_R (o1.1, o1.2) (0, 0, 0, 0, 0, 0, (Arr.rep 4 (0 : UInt64))) y4 ∧ r = (y4.1, (y4.2.1, y4.2.2))
def tree_Builder_Empty_ev (fuel : Nat) (o1 : (List (Int × Int × Int × Int × Int × Int × (Arr 4 (UInt64)))) × Int) : Option (Int × ((List (Int × Int × Int × Int × Int × Int × (Arr 4 (UInt64)))) × Int)) :=
  ((tree_Builder_put_ev fuel (o1.1, o1.2) (0, 0, 0, 0, 0, 0, (Arr.rep 4 (0 : UInt64)))).bind fun y4 => some (y4.1, (y4.2.1, y4.2.2)))
theorem tree_Builder_Empty_ok {fuel : Nat} {o1 : (List (Int × Int × Int × Int × Int × Int × (Arr 4 (UInt64)))) × Int} {r : Int × ((List (Int × Int × Int × Int × Int × Int × (Arr 4 (UInt64)))) × Int)} (h : tree_Builder_Empty_ev fuel o1 = some r) : tree_Builder_Empty_R o1 r := by
  unfold tree_Builder_Empty_ev at h
  unfold tree_Builder_Empty_R
  obtain ⟨q37, g37, h⟩ := bind_ok h
  refine ⟨q37, tree_Builder_put_ok g37, ?_⟩
  exact (Option.some.inj h).symm
set_option maxHeartbeats 4000000 in
theorem tree_Builder_Empty_con (o1 : (List (Int × Int × Int × Int × Int × Int × (Arr 4 (UInt64)))) × Int) (bx0 : Nat) (ia2 : Option (Nat × Nat)) (r : Int × ((List (Int × Int × Int × Int × Int × Int × (Arr 4 (UInt64)))) × Int)) (h : tree_Builder_Empty_R o1 r) : Con Try.prog 12 [.v (.pointer (some ⟨bx0, 0, none⟩))] [⟨bx0, 28, [.sl 10 (some ia2) (List.map E_palinode_api_Node o1.1), .v (.int .i64 o1.2)]⟩] [⟨ia2, 42, 10, o1.1.length⟩] (fun rr bx tk => ∃ j1, rr = .v (.int .i64 r.1) ∧ bx = [⟨bx0, 28, [.sl 10 (some j1) (List.map E_palinode_api_Node r.2.1), .v (.int .i64 r.2.2)]⟩] ∧ tk = [⟨j1, 42, 10, r.2.1.length⟩]) := by
  refine xenter Try.func12 rfl rfl fun g hg => ?_
  simp only [Try.ntmps12, slots]
  refine xseq ?_
  refine xregion ?_
  refine xvalP (pv_assign rfl) rfl rfl ?_
  refine xnil ?_
  refine xthen ?_
  refine xseq ?_
  refine xregion ?_
  refine xvalP (pv_move rfl) rfl rfl ?_
  refine xvalP (pv_buildC (cs := ([.v (.int .i64 0), .v (.int .i64 0), .v (.int .i64 0), .v (.int .i64 0), .v (.int .i64 0), .v (.int .i64 0)] ++ (List.map ew ((Arr.rep 4 (0 : UInt64))).l).flatten)) StrC.h rfl (by refine fill_step [] [.v (.int .i64 0)] ([.v (.int .i64 0), .v (.int .i64 0), .v (.int .i64 0), .v (.int .i64 0), .v (.int .i64 0)] ++ (List.map ew ((Arr.rep 4 (0 : UInt64))).l).flatten) (by first | rfl | exact (List.append_nil _).symm | exact List.append_nil _ | exact List.append_assoc _ _ _ | exact (List.append_assoc _ _ _).symm | exact congrArg _ (List.append_nil _).symm | exact congrArg _ (List.append_nil _) | (simp; done) | (simp [cellsS]; done)) (by first | rfl | exact seg_lenE (by rfl) | exact len_app rfl (seg_lenE (by rfl)) (by rfl) | exact len_app (seg_lenE (by rfl)) rfl (by rfl) | exact len_app rfl (len_app (seg_lenE (by rfl)) rfl (by rfl)) (by rfl) | (simp only [seg_len, cellsS, List.length_append, List.length_cons, List.length_nil]; done) | (simp only [seg_len, cellsS, List.length_append, List.length_cons, List.length_nil]; rfl)) (by first | rfl | exact seg_lenE (by rfl) | exact len_app rfl (seg_lenE (by rfl)) (by rfl) | exact len_app (seg_lenE (by rfl)) rfl (by rfl) | exact len_app rfl (len_app (seg_lenE (by rfl)) rfl (by rfl)) (by rfl) | (simp only [seg_len, cellsS, List.length_append, List.length_cons, List.length_nil]; done) | (simp only [seg_len, cellsS, List.length_append, List.length_cons, List.length_nil]; rfl)) (by first | rfl | exact seg_lenE (by rfl) | exact len_app rfl (seg_lenE (by rfl)) (by rfl) | exact len_app (seg_lenE (by rfl)) rfl (by rfl) | exact len_app rfl (len_app (seg_lenE (by rfl)) rfl (by rfl)) (by rfl) | (simp only [seg_len, cellsS, List.length_append, List.length_cons, List.length_nil]; done) | (simp only [seg_len, cellsS, List.length_append, List.length_cons, List.length_nil]; rfl)) rfl rfl ?_; exact congrArg some (by first | rfl | exact (List.append_nil _).symm | exact List.append_nil _ | exact List.append_assoc _ _ _ | exact (List.append_assoc _ _ _).symm | exact congrArg _ (List.append_nil _).symm | exact congrArg _ (List.append_nil _) | (simp; done) | (simp [cellsS]; done)))) rfl rfl ?_
  obtain ⟨y4, h3, h⟩ := h
  refine xcallF (Fb := []) (Ft := []) (tree_Builder_put_con (o1.1, o1.2) (0, 0, 0, 0, 0, 0, (Arr.rep 4 (0 : UInt64))) bx0 ia2 _ h3) Try.func18 (by kernel_rfl) rfl (.cons rfl (.refl _) (.cons rfl (.refl _) .nil)) (by exact (SubM.of (by repeat (first | with_reducible exact SubB.refl _ | exact SubB.nil _ | refine SubB.keep rfl rfl (by first | with_reducible exact WkL.refl _ | ((repeat (first | exact WkL.nil | refine WkL.cons (by first | with_reducible exact Wk.refl _ | exact Wk.nil_own _ | exact Wk.nil_pl _ | with_reducible exact Wk.tok _ _ _ | exact Wk.tok _ _ _ | exact Wk.eq (by first | rfl | (simp []; done) | (simp []; omega))) ?_)); done) | exact WkL.refl _) ?_ | refine SubB.drop ?_)) (by repeat (first | exact SubT.nil _ | refine SubT.add ?_ | (refine SubT.keep ?_ ?_; focus (first | with_reducible rfl | (simp []; done))) | refine SubT.drop ?_)))) rfl rfl ?_
  rintro _ _ _ ⟨i5, rfl, rfl, rfl⟩
  simp only [List.nil_append, List.cons_append]
  refine xvalP (pv_assign rfl) rfl rfl ?_
  refine xnil ?_
  refine xthen ?_
  refine xretc ?_
  replace h := h.symm
  subst h
  exact xret1 hg rfl rfl (.refl _) (SubM.of (.keep rfl rfl (.refl _) (.nil _)) (.keep rfl (.nil _))) ⟨i5, rfl, rfl, rfl⟩
/-- (*tree.Builder).fold -/
def tree_Builder_fold_l1 (l4 : List Int) (kind3 : Int) (ag1 : (Int × Int × (List (Int × Int × Int × Int × Int × Int × (Arr 4 (UInt64)))) × Int) → Prop) (atv138 : Int) (x139 : Int) (f140 : List (Int × Int × Int × Int × Int × Int × (Arr 4 (UInt64)))) (f142 : Int) (r : Int × ((List (Int × Int × Int × Int × Int × Int × (Arr 4 (UInt64)))) × Int)) : Prop :=
  ((x139 < (((l4.drop (1 : Int).toNat)).length : Int) → 0 ≤ (x139 : Int) ∧ ∃ y177 : Int, ((l4.drop (1 : Int).toNat))[(x139 : Int).toNat]? = some y177 ∧ ((atv138 = (-1) → r = (atv138, (f140, f142))) ∧ (¬ (atv138 = (-1)) → ∃ y184 : Int × ((List (Int × Int × Int × Int × Int × Int × (Arr 4 (UInt64)))) × Int), tree_Builder_put_R (f140, f142) (kind3, atv138, y177, 0, 0, 0, (Arr.rep 4 (0 : UInt64))) y184 ∧ InR (x139 + 1) ∧ ag1 (y184.1, (x139 + 1), y184.2.1, y184.2.2)))) ∧ (¬ (x139 < (((l4.drop (1 : Int).toNat)).length : Int)) → r = (atv138, (f140, f142))))
def tree_Builder_fold_R (o1 : (List (Int × Int × Int × Int × Int × Int × (Arr 4 (UInt64)))) × Int) (kind3 : Int) (l4 : List Int) (r : Int × ((List (Int × Int × Int × Int × Int × Int × (Arr 4 (UInt64)))) × Int)) : Prop :=
  0 ≤ (0 : Int) ∧ ∃ y30 : Int, l4[(0 : Int).toNat]? = some y30 ∧ ((y30 < 0 → r = ((-1), (o1.1, o1.2))) ∧ (¬ (y30 < 0) → 0 ≤ (0 : Int) ∧ ∃ y34 : Int, l4[(0 : Int).toNat]? = some y34 ∧ (((o1.1.length : Int) ≤ y34 → r = ((-1), (o1.1, o1.2))) ∧ (¬ ((o1.1.length : Int) ≤ y34) → 0 ≤ (0 : Int) ∧ ∃ y39 : Int, l4[(0 : Int).toNat]? = some y39 ∧ (0 ≤ (1 : Int) ∧ (1 : Int) ≤ (l4.length : Int)) ∧ LoopR (fun ag1 s => tree_Builder_fold_l1 l4 kind3 ag1 s.1 s.2.1 s.2.2.1 s.2.2.2 r) (y39, 0, o1.1, o1.2)))))
def tree_Builder_fold_l1_ev (fuel : Nat) (l4 : List Int) (kind3 : Int) (ag1e : (Int × Int × (List (Int × Int × Int × Int × Int × Int × (Arr 4 (UInt64)))) × Int) → Option (Int × ((List (Int × Int × Int × Int × Int × Int × (Arr 4 (UInt64)))) × Int))) (atv138 : Int) (x139 : Int) (f140 : List (Int × Int × Int × Int × Int × Int × (Arr 4 (UInt64)))) (f142 : Int) : Option (Int × ((List (Int × Int × Int × Int × Int × Int × (Arr 4 (UInt64)))) × Int)) :=
  (if x139 < (((l4.drop (1 : Int).toNat)).length : Int) then (if 0 ≤ (x139 : Int) then ((((l4.drop (1 : Int).toNat))[(x139 : Int).toNat]?).bind fun y177 => (if atv138 = (-1) then some (atv138, (f140, f142)) else ((tree_Builder_put_ev fuel (f140, f142) (kind3, atv138, y177, 0, 0, 0, (Arr.rep 4 (0 : UInt64)))).bind fun y184 => (if InR (x139 + 1) then ag1e (y184.1, (x139 + 1), y184.2.1, y184.2.2) else none)))) else none) else some (atv138, (f140, f142)))
theorem tree_Builder_fold_l1_ok {fuel : Nat} {l4 : List Int} {kind3 : Int} {ag1e : (Int × Int × (List (Int × Int × Int × Int × Int × Int × (Arr 4 (UInt64)))) × Int) → Option (Int × ((List (Int × Int × Int × Int × Int × Int × (Arr 4 (UInt64)))) × Int))} {ag1 : (Int × Int × (List (Int × Int × Int × Int × Int × Int × (Arr 4 (UInt64)))) × Int) → Prop} {atv138 : Int} {x139 : Int} {f140 : List (Int × Int × Int × Int × Int × Int × (Arr 4 (UInt64)))} {f142 : Int} {r : Int × ((List (Int × Int × Int × Int × Int × Int × (Arr 4 (UInt64)))) × Int)} (hagag1 : ∀ s, ag1e s = some r → ag1 s) (h : tree_Builder_fold_l1_ev fuel l4 kind3 ag1e atv138 x139 f140 f142 = some r) : tree_Builder_fold_l1 l4 kind3 ag1 atv138 x139 f140 f142 r := by
  unfold tree_Builder_fold_l1_ev at h
  unfold tree_Builder_fold_l1
  refine ⟨fun g38 => ?_, fun g38 => ?_⟩
  · rw [if_pos g38] at h
    obtain ⟨g39, h⟩ := if_ok h
    refine ⟨g39, ?_⟩
    obtain ⟨q40, g40, h⟩ := bind_ok h
    refine ⟨q40, g40, ?_⟩
    refine ⟨fun g41 => ?_, fun g41 => ?_⟩
    · rw [if_pos g41] at h
      exact (Option.some.inj h).symm
    · rw [if_neg g41] at h
      obtain ⟨q42, g42, h⟩ := bind_ok h
      refine ⟨q42, tree_Builder_put_ok g42, ?_⟩
      obtain ⟨g43, h⟩ := if_ok h
      refine ⟨g43, ?_⟩
      exact hagag1 _ h
  · rw [if_neg g38] at h
    exact (Option.some.inj h).symm
def tree_Builder_fold_ev (fuel : Nat) (o1 : (List (Int × Int × Int × Int × Int × Int × (Arr 4 (UInt64)))) × Int) (kind3 : Int) (l4 : List Int) : Option (Int × ((List (Int × Int × Int × Int × Int × Int × (Arr 4 (UInt64)))) × Int)) :=
  (if 0 ≤ (0 : Int) then ((l4[(0 : Int).toNat]?).bind fun y30 => (if y30 < 0 then some ((-1), (o1.1, o1.2)) else (if 0 ≤ (0 : Int) then ((l4[(0 : Int).toNat]?).bind fun y34 => (if (o1.1.length : Int) ≤ y34 then some ((-1), (o1.1, o1.2)) else (if 0 ≤ (0 : Int) then ((l4[(0 : Int).toNat]?).bind fun y39 => (if (0 ≤ (1 : Int) ∧ (1 : Int) ≤ (l4.length : Int)) then (loopE (fun ag1e s => tree_Builder_fold_l1_ev fuel l4 kind3 ag1e s.1 s.2.1 s.2.2.1 s.2.2.2) fuel (y39, 0, o1.1, o1.2)) else none)) else none))) else none))) else none)
theorem tree_Builder_fold_ok {fuel : Nat} {o1 : (List (Int × Int × Int × Int × Int × Int × (Arr 4 (UInt64)))) × Int} {kind3 : Int} {l4 : List Int} {r : Int × ((List (Int × Int × Int × Int × Int × Int × (Arr 4 (UInt64)))) × Int)} (h : tree_Builder_fold_ev fuel o1 kind3 l4 = some r) : tree_Builder_fold_R o1 kind3 l4 r := by
  unfold tree_Builder_fold_ev at h
  unfold tree_Builder_fold_R
  obtain ⟨g44, h⟩ := if_ok h
  refine ⟨g44, ?_⟩
  obtain ⟨q45, g45, h⟩ := bind_ok h
  refine ⟨q45, g45, ?_⟩
  refine ⟨fun g46 => ?_, fun g46 => ?_⟩
  · rw [if_pos g46] at h
    exact (Option.some.inj h).symm
  · rw [if_neg g46] at h
    obtain ⟨g47, h⟩ := if_ok h
    refine ⟨g47, ?_⟩
    obtain ⟨q48, g48, h⟩ := bind_ok h
    refine ⟨q48, g48, ?_⟩
    refine ⟨fun g49 => ?_, fun g49 => ?_⟩
    · rw [if_pos g49] at h
      exact (Option.some.inj h).symm
    · rw [if_neg g49] at h
      obtain ⟨g50, h⟩ := if_ok h
      refine ⟨g50, ?_⟩
      obtain ⟨q51, g51, h⟩ := bind_ok h
      refine ⟨q51, g51, ?_⟩
      obtain ⟨g52, h⟩ := if_ok h
      refine ⟨g52, ?_⟩
      refine loopE_ok ?_ h
      intro ae ag s hag h
      exact tree_Builder_fold_l1_ok hag h
set_option maxHeartbeats 4000000 in
theorem tree_Builder_fold_con (o1 : (List (Int × Int × Int × Int × Int × Int × (Arr 4 (UInt64)))) × Int) (kind3 : Int) (l4 : List Int) (bx0 : Nat) (ia2 : Option (Nat × Nat)) (r : Int × ((List (Int × Int × Int × Int × Int × Int × (Arr 4 (UInt64)))) × Int)) (h : tree_Builder_fold_R o1 kind3 l4 r) : Con Try.prog 19 [.v (.pointer (some ⟨bx0, 0, none⟩)), .v (.int .i64 kind3), .sl 1 none (List.map ei l4)] [⟨bx0, 28, [.sl 10 (some ia2) (List.map E_palinode_api_Node o1.1), .v (.int .i64 o1.2)]⟩] [⟨ia2, 42, 10, o1.1.length⟩] (fun rr bx tk => ∃ j1, rr = .v (.int .i64 r.1) ∧ bx = [⟨bx0, 28, [.sl 10 (some j1) (List.map E_palinode_api_Node r.2.1), .v (.int .i64 r.2.2)]⟩] ∧ tk = [⟨j1, 42, 10, r.2.1.length⟩]) := by
  refine xenter Try.func19 rfl rfl fun g hg => ?_
  simp only [Try.ntmps19, slots]
  refine xseq ?_
  refine xregion ?_
  refine xvalP (pv_assign rfl) rfl rfl ?_
  refine xnil ?_
  refine xthen ?_
  refine xseq ?_
  refine xseq ?_
  refine xregionD (m := 15) (by kernel_rfl) rfl ?_
  obtain ⟨h31a, h⟩ := h
  obtain ⟨y30, h31b, h⟩ := h
  refine xpval 0 rfl (pv_move rfl) rfl rfl (by kernel_rfl) (by kernel_rfl) (by kernel_rfl) (fun _ _ _ _ h => h) ?_
  refine xpval 1 rfl (pv_indexAddrM h31a h31b UndC.h ShpC.h rfl rfl) rfl rfl (by kernel_rfl) (by kernel_rfl) (by kernel_rfl) (fun _ _ _ _ h => h) ?_
  refine xpvalE 2 [] rfl (qv_load ShpC.h rfl rfl rfl) rfl rfl (by kernel_rfl) (by kernel_rfl) (by kernel_rfl) (fun _ _ _ _ h => h) ?_
  refine xpval 3 rfl (pv_bin2 rfl rfl rfl) rfl rfl (by kernel_rfl) (by kernel_rfl) (by kernel_rfl) (fun _ _ _ _ h => h) ?_
  refine xpval 4 rfl (pv_move rfl) rfl rfl (by kernel_rfl) (by kernel_rfl) (by kernel_rfl) (fun _ _ _ _ h => h) ?_
  by_cases hp33 : y30 < 0
  · replace h := h.1 hp33
    refine psetB 14 (decide_eq_true hp33) rfl ?_
    refine xpskip 5 rfl rfl rfl (by kernel_rfl) (by kernel_rfl) (by kernel_rfl) (fun _ _ _ _ h => h) ?_
    refine xpskip 6 rfl rfl rfl (by kernel_rfl) (by kernel_rfl) (by kernel_rfl) (fun _ _ _ _ h => h) ?_
    refine xpskip 7 rfl rfl rfl (by kernel_rfl) (by kernel_rfl) (by kernel_rfl) (fun _ _ _ _ h => h) ?_
    refine xpskip 8 rfl rfl rfl (by kernel_rfl) (by kernel_rfl) (by kernel_rfl) (fun _ _ _ _ h => h) ?_
    refine xpskip 9 rfl rfl rfl (by kernel_rfl) (by kernel_rfl) (by kernel_rfl) (fun _ _ _ _ h => h) ?_
    refine xpskip 10 rfl rfl rfl (by kernel_rfl) (by kernel_rfl) (by kernel_rfl) (fun _ _ _ _ h => h) ?_
    refine xpskip 11 rfl rfl rfl (by kernel_rfl) (by kernel_rfl) (by kernel_rfl) (fun _ _ _ _ h => h) ?_
    refine xpskip 12 rfl rfl rfl (by kernel_rfl) (by kernel_rfl) (by kernel_rfl) (fun _ _ _ _ h => h) ?_
    refine xpskip 13 rfl rfl rfl (by kernel_rfl) (by kernel_rfl) (by kernel_rfl) (fun _ _ _ _ h => h) ?_
    refine xpval 14 rfl (pv_pick rfl rfl) rfl rfl (by kernel_rfl) (by kernel_rfl) (by kernel_rfl) (fun _ _ _ _ h => h) ?_
    refine xpdone (by kernel_rfl) ?_
    refine xthen ?_
    refine xcondT rfl ?_
    refine xseq ?_
    refine xregion ?_
    refine xvalP (pv_assign rfl) rfl rfl ?_
    refine xnil ?_
    refine xthen ?_
    refine xretc ?_
    refine xthen_ret ?_
    replace h := h.symm
    subst h
    exact xret1 hg rfl rfl (.refl _) (SubM.of (.keep rfl rfl (.refl _) (.nil _)) (.keep rfl (.nil _))) ⟨ia2, rfl, rfl, rfl⟩
  · replace h := h.2 hp33
    refine psetB 14 (decide_eq_false hp33) rfl ?_
    obtain ⟨h35a, h⟩ := h
    obtain ⟨y34, h35b, h⟩ := h
    refine xpval 5 rfl (pv_move rfl) rfl rfl (by kernel_rfl) (by kernel_rfl) (by kernel_rfl) (fun _ _ _ _ h => h) ?_
    refine xpval 6 rfl (pv_indexAddrM h35a h35b UndC.h ShpC.h rfl rfl) rfl rfl (by kernel_rfl) (by kernel_rfl) (by kernel_rfl) (fun _ _ _ _ h => h) ?_
    refine xpval 8 rfl (pv_move rfl) rfl rfl (by kernel_rfl) (by kernel_rfl) (by kernel_rfl) (fun _ _ _ _ h => h) ?_
    refine xpval 9 rfl (pv_nilCheck rfl) rfl rfl (by kernel_rfl) (by kernel_rfl) (by kernel_rfl) (fun _ _ _ _ h => h) ?_
    refine xpval 10 rfl (qv_fieldAddrB FldC.h rfl) rfl rfl (by kernel_rfl) (by kernel_rfl) (by kernel_rfl) (fun _ _ _ _ h => h) ?_
    refine xpvalE 7 [11, 12] rfl (qv_load ShpC.h rfl rfl rfl) rfl rfl (by kernel_rfl) (by kernel_rfl) (by kernel_rfl) (fun _ _ _ _ h => h) ?_
    refine xpvalE 11 [] rfl (qv_loadB 0 ShpC.h rfl rfl rfl rfl) rfl rfl (by kernel_rfl) (by kernel_rfl) (by kernel_rfl) (fun _ _ _ _ h => h) ?_
    refine xpval 12 rfl (pv_lenM UndC.h rfl) rfl rfl (by kernel_rfl) (by kernel_rfl) (by kernel_rfl) (fun _ _ _ _ h => h) ?_
    refine xpval 13 rfl (pv_bin2 rfl rfl rfl) rfl rfl (by kernel_rfl) (by kernel_rfl) (by kernel_rfl) (fun _ _ _ _ h => h) ?_
    refine xpval 14 rfl (pv_pick rfl rfl) rfl rfl (by kernel_rfl) (by kernel_rfl) (by kernel_rfl) (fun _ _ _ _ h => h) ?_
    refine xpdone (by kernel_rfl) ?_
    refine xthen ?_
    by_cases hp38 : (o1.1.length : Int) ≤ y34
    · replace h := h.1 hp38
      refine xcondT' (decide_eq_true hp38) rfl ?_
      refine xseq ?_
      refine xregion ?_
      refine xvalP (pv_assign rfl) rfl rfl ?_
      refine xnil ?_
      refine xthen ?_
      refine xretc ?_
      refine xthen_ret ?_
      replace h := h.symm
      subst h
      exact xret1 hg rfl rfl (.refl _) (SubM.of (.keep rfl rfl (.refl _) (.nil _)) (.keep rfl (.nil _))) ⟨ia2, rfl, rfl, rfl⟩
    · replace h := h.2 hp38
      refine xcondF' (decide_eq_false hp38) rfl ?_
      refine xskipc ?_
      refine xthen ?_
      refine xseq ?_
      refine xregion ?_
      refine xvalP (pv_move rfl) rfl rfl ?_
      obtain ⟨h40a, h⟩ := h
      obtain ⟨y39, h40b, h⟩ := h
      refine xvalP (pv_indexAddrM h40a h40b UndC.h ShpC.h rfl rfl) rfl rfl ?_
      refine xval (qv_load ShpC.h rfl rfl rfl) rfl rfl ?_
      refine xvalP (pv_assign rfl) rfl rfl ?_
      refine xnil ?_
      refine xthen ?_
      refine xseq ?_
      refine xseq ?_
      refine xregion ?_
      refine xvalP (pv_move rfl) rfl rfl ?_
      obtain ⟨h114, h⟩ := h
      refine xvalP (pv_sliceLo h114 UndC.h ShpC.h rfl rfl) rfl rfl ?_
      refine xvalP (pv_lenM UndC.h rfl) rfl rfl ?_
      refine xvalP (pv_move rfl) rfl rfl ?_
      refine xnil ?_
      refine xthen ?_
      refine xblock ?_
      obtain ⟨Inv, ⟨m0, hI⟩, hS⟩ := h
      refine xloop (fun σ m => ∃ (atv138 : Int), ∃ (x139 : Int), ∃ (f140 : List (Int × Int × Int × Int × Int × Int × (Arr 4 (UInt64)))), ∃ (f142 : Int), ∃ (i141 : Option (Nat × Nat)), Inv (atv138, x139, f140, f142) m ∧ σ = ⟨[(0, .v (.pointer (some ⟨bx0, 0, none⟩))), (1, .v (.int .i64 kind3)), (7, .v (.int .i64 atv138)), (29, .sl 1 none (List.map ei ((l4.drop (1 : Int).toNat)))), (30, .v (.int .i64 ((((l4.drop (1 : Int).toNat)).length : Int)))), (31, .v (.int .i64 x139))], [⟨bx0, 28, [.sl 10 (some i141) (List.map E_palinode_api_Node f140), .v (.int .i64 f142)]⟩], [⟨i141, 42, 10, f140.length⟩]⟩) ⟨y39, 0, o1.1, o1.2, ia2, hI, rfl⟩ ⟨(.cons rfl (.refl _) (.cons rfl (.refl _) (.cons rfl (.refl _) (.cons rfl (.refl _) (.cons rfl (.refl _) (.cons rfl (.refl _) (.nil _))))))), (SubM.of (.keep rfl rfl (.refl _) (.nil _)) (.keep rfl (.nil _)))⟩ ?_
      rintro _ m ⟨atv138, x139, f140, f142, i141, hI, rfl⟩
      obtain ⟨ag1, hag1, h⟩ : ∃ ag, (∀ s', ag s' → ∃ m', m' < m ∧ Inv s' m') ∧ tree_Builder_fold_l1 l4 kind3 ag atv138 x139 f140 f142 r := ⟨_, fun _ h => h, hS (atv138, x139, f140, f142) _ hI⟩
      clear hS hI
      refine xseq ?_
      refine xregion ?_
      refine xvalP (pv_bin2 rfl rfl rfl) rfl rfl ?_
      refine xnil ?_
      refine xthen ?_
      refine xseq ?_
      by_cases hp167 : x139 < (((l4.drop (1 : Int).toNat)).length : Int)
      · replace h := h.1 hp167
        refine xcondT' (decide_eq_true hp167) rfl ?_
        refine xskipc ?_
        refine xthen ?_
        refine xseq ?_
        refine xblock ?_
        refine xseq ?_
        refine xregion ?_
        obtain ⟨h178a, h⟩ := h
        obtain ⟨y177, h178b, h⟩ := h
        refine xvalP (pv_indexAddrM h178a h178b UndC.h ShpC.h rfl rfl) rfl rfl ?_
        refine xval (qv_load ShpC.h rfl rfl rfl) rfl rfl ?_
        refine xvalP (pv_assign rfl) rfl rfl ?_
        refine xnil ?_
        refine xthen ?_
        refine xseq ?_
        refine xseq ?_
        refine xregion ?_
        refine xvalP (pv_move rfl) rfl rfl ?_
        refine xvalP (pv_bin2 rfl rfl rfl) rfl rfl ?_
        refine xnil ?_
        refine xthen ?_
        by_cases hp182 : atv138 = (-1)
        · replace h := h.1 hp182
          refine xcondT' (decide_eq_true hp182) rfl ?_
          refine xexit ?_
          refine xthen_exit ?_
          refine xin_other rfl ?_
          refine xthen_exit ?_
          refine xthen_exit ?_
          refine xin_same rfl ?_
          refine xthen ?_
          refine xseq ?_
          refine xregion ?_
          refine xvalP (pv_move rfl) rfl rfl ?_
          refine xvalP (pv_assign rfl) rfl rfl ?_
          refine xnil ?_
          refine xthen ?_
          refine xretc ?_
          replace h := h.symm
          subst h
          exact xret1 hg rfl rfl (.refl _) (SubM.of (.keep rfl rfl (.refl _) (.nil _)) (.keep rfl (.nil _))) ⟨i141, rfl, rfl, rfl⟩
        · replace h := h.2 hp182
          refine xcondF' (decide_eq_false hp182) rfl ?_
          refine xskipc ?_
          refine xthen ?_
          refine xregion ?_
          refine xvalP (pv_move rfl) rfl rfl ?_
          refine xvalP (pv_move rfl) rfl rfl ?_
          refine xvalP (pv_move rfl) rfl rfl ?_
          refine xvalP (pv_move rfl) rfl rfl ?_
          refine xvalP (pv_buildC (cs := ([.v (.int .i64 kind3), .v (.int .i64 atv138), .v (.int .i64 y177), .v (.int .i64 0), .v (.int .i64 0), .v (.int .i64 0)] ++ (List.map ew ((Arr.rep 4 (0 : UInt64))).l).flatten)) StrC.h rfl (by refine fill_step [] [.v (.int .i64 0)] ([.v (.int .i64 0), .v (.int .i64 0), .v (.int .i64 0), .v (.int .i64 0), .v (.int .i64 0)] ++ (List.map ew ((Arr.rep 4 (0 : UInt64))).l).flatten) (by first | rfl | exact (List.append_nil _).symm | exact List.append_nil _ | exact List.append_assoc _ _ _ | exact (List.append_assoc _ _ _).symm | exact congrArg _ (List.append_nil _).symm | exact congrArg _ (List.append_nil _) | (simp; done) | (simp [cellsS]; done)) (by first | rfl | exact seg_lenE (by rfl) | exact len_app rfl (seg_lenE (by rfl)) (by rfl) | exact len_app (seg_lenE (by rfl)) rfl (by rfl) | exact len_app rfl (len_app (seg_lenE (by rfl)) rfl (by rfl)) (by rfl) | (simp only [seg_len, cellsS, List.length_append, List.length_cons, List.length_nil]; done) | (simp only [seg_len, cellsS, List.length_append, List.length_cons, List.length_nil]; rfl)) (by first | rfl | exact seg_lenE (by rfl) | exact len_app rfl (seg_lenE (by rfl)) (by rfl) | exact len_app (seg_lenE (by rfl)) rfl (by rfl) | exact len_app rfl (len_app (seg_lenE (by rfl)) rfl (by rfl)) (by rfl) | (simp only [seg_len, cellsS, List.length_append, List.length_cons, List.length_nil]; done) | (simp only [seg_len, cellsS, List.length_append, List.length_cons, List.length_nil]; rfl)) (by first | rfl | exact seg_lenE (by rfl) | exact len_app rfl (seg_lenE (by rfl)) (by rfl) | exact len_app (seg_lenE (by rfl)) rfl (by rfl) | exact len_app rfl (len_app (seg_lenE (by rfl)) rfl (by rfl)) (by rfl) | (simp only [seg_len, cellsS, List.length_append, List.length_cons, List.length_nil]; done) | (simp only [seg_len, cellsS, List.length_append, List.length_cons, List.length_nil]; rfl)) rfl rfl ?_; refine fill_step [.v (.int .i64 kind3)] [.v (.int .i64 0)] ([.v (.int .i64 0), .v (.int .i64 0), .v (.int .i64 0), .v (.int .i64 0)] ++ (List.map ew ((Arr.rep 4 (0 : UInt64))).l).flatten) (by first | rfl | exact (List.append_nil _).symm | exact List.append_nil _ | exact List.append_assoc _ _ _ | exact (List.append_assoc _ _ _).symm | exact congrArg _ (List.append_nil _).symm | exact congrArg _ (List.append_nil _) | (simp; done) | (simp [cellsS]; done)) (by first | rfl | exact seg_lenE (by rfl) | exact len_app rfl (seg_lenE (by rfl)) (by rfl) | exact len_app (seg_lenE (by rfl)) rfl (by rfl) | exact len_app rfl (len_app (seg_lenE (by rfl)) rfl (by rfl)) (by rfl) | (simp only [seg_len, cellsS, List.length_append, List.length_cons, List.length_nil]; done) | (simp only [seg_len, cellsS, List.length_append, List.length_cons, List.length_nil]; rfl)) (by first | rfl | exact seg_lenE (by rfl) | exact len_app rfl (seg_lenE (by rfl)) (by rfl) | exact len_app (seg_lenE (by rfl)) rfl (by rfl) | exact len_app rfl (len_app (seg_lenE (by rfl)) rfl (by rfl)) (by rfl) | (simp only [seg_len, cellsS, List.length_append, List.length_cons, List.length_nil]; done) | (simp only [seg_len, cellsS, List.length_append, List.length_cons, List.length_nil]; rfl)) (by first | rfl | exact seg_lenE (by rfl) | exact len_app rfl (seg_lenE (by rfl)) (by rfl) | exact len_app (seg_lenE (by rfl)) rfl (by rfl) | exact len_app rfl (len_app (seg_lenE (by rfl)) rfl (by rfl)) (by rfl) | (simp only [seg_len, cellsS, List.length_append, List.length_cons, List.length_nil]; done) | (simp only [seg_len, cellsS, List.length_append, List.length_cons, List.length_nil]; rfl)) rfl rfl ?_; refine fill_step [.v (.int .i64 kind3), .v (.int .i64 atv138)] [.v (.int .i64 0)] ([.v (.int .i64 0), .v (.int .i64 0), .v (.int .i64 0)] ++ (List.map ew ((Arr.rep 4 (0 : UInt64))).l).flatten) (by first | rfl | exact (List.append_nil _).symm | exact List.append_nil _ | exact List.append_assoc _ _ _ | exact (List.append_assoc _ _ _).symm | exact congrArg _ (List.append_nil _).symm | exact congrArg _ (List.append_nil _) | (simp; done) | (simp [cellsS]; done)) (by first | rfl | exact seg_lenE (by rfl) | exact len_app rfl (seg_lenE (by rfl)) (by rfl) | exact len_app (seg_lenE (by rfl)) rfl (by rfl) | exact len_app rfl (len_app (seg_lenE (by rfl)) rfl (by rfl)) (by rfl) | (simp only [seg_len, cellsS, List.length_append, List.length_cons, List.length_nil]; done) | (simp only [seg_len, cellsS, List.length_append, List.length_cons, List.length_nil]; rfl)) (by first | rfl | exact seg_lenE (by rfl) | exact len_app rfl (seg_lenE (by rfl)) (by rfl) | exact len_app (seg_lenE (by rfl)) rfl (by rfl) | exact len_app rfl (len_app (seg_lenE (by rfl)) rfl (by rfl)) (by rfl) | (simp only [seg_len, cellsS, List.length_append, List.length_cons, List.length_nil]; done) | (simp only [seg_len, cellsS, List.length_append, List.length_cons, List.length_nil]; rfl)) (by first | rfl | exact seg_lenE (by rfl) | exact len_app rfl (seg_lenE (by rfl)) (by rfl) | exact len_app (seg_lenE (by rfl)) rfl (by rfl) | exact len_app rfl (len_app (seg_lenE (by rfl)) rfl (by rfl)) (by rfl) | (simp only [seg_len, cellsS, List.length_append, List.length_cons, List.length_nil]; done) | (simp only [seg_len, cellsS, List.length_append, List.length_cons, List.length_nil]; rfl)) rfl rfl ?_; exact congrArg some (by first | rfl | exact (List.append_nil _).symm | exact List.append_nil _ | exact List.append_assoc _ _ _ | exact (List.append_assoc _ _ _).symm | exact congrArg _ (List.append_nil _).symm | exact congrArg _ (List.append_nil _) | (simp; done) | (simp [cellsS]; done)))) rfl rfl ?_
          obtain ⟨y184, h183, h⟩ := h
          refine xcallF (Fb := []) (Ft := []) (tree_Builder_put_con (f140, f142) (kind3, atv138, y177, 0, 0, 0, (Arr.rep 4 (0 : UInt64))) bx0 i141 _ h183) Try.func18 (by kernel_rfl) rfl (.cons rfl (.refl _) (.cons rfl (.refl _) .nil)) (by exact (SubM.of (by repeat (first | with_reducible exact SubB.refl _ | exact SubB.nil _ | refine SubB.keep rfl rfl (by first | with_reducible exact WkL.refl _ | ((repeat (first | exact WkL.nil | refine WkL.cons (by first | with_reducible exact Wk.refl _ | exact Wk.nil_own _ | exact Wk.nil_pl _ | with_reducible exact Wk.tok _ _ _ | exact Wk.tok _ _ _ | exact Wk.eq (by first | rfl | (simp []; done) | (simp []; omega))) ?_)); done) | exact WkL.refl _) ?_ | refine SubB.drop ?_)) (by repeat (first | exact SubT.nil _ | refine SubT.add ?_ | (refine SubT.keep ?_ ?_; focus (first | with_reducible rfl | (simp []; done))) | refine SubT.drop ?_)))) rfl rfl ?_
          rintro _ _ _ ⟨i185, rfl, rfl, rfl⟩
          simp only [List.nil_append, List.cons_append]
          refine xvalP (pv_assign rfl) rfl rfl ?_
          refine xnil ?_
          refine xin_normal ?_
          refine xthen ?_
          refine xregion ?_
          obtain ⟨h186, h⟩ := h
          refine xvalP (pv_addI h186 rfl rfl) rfl rfl ?_
          refine xvalP (pv_move rfl) rfl rfl ?_
          refine xnil ?_
          obtain ⟨m', hm, hI⟩ := hag1 _ h
          exact xagain ⟨y184.1, (x139 + 1), y184.2.1, y184.2.2, i185, hI, rfl⟩ hm ⟨(.cons rfl (.refl _) (.cons rfl (.refl _) (.cons rfl (.refl _) (.cons rfl (.refl _) (.cons rfl (.refl _) (.cons rfl (.refl _) (.nil _))))))), (SubM.of (.keep rfl rfl (.refl _) (.nil _)) (.keep rfl (.nil _)))⟩
      · replace h := h.2 hp167
        refine xcondF' (decide_eq_false hp167) rfl ?_
        refine xexit ?_
        refine xthen_exit ?_
        refine xthen_exit ?_
        refine xin_same rfl ?_
        refine xthen ?_
        refine xseq ?_
        refine xregion ?_
        refine xvalP (pv_move rfl) rfl rfl ?_
        refine xvalP (pv_assign rfl) rfl rfl ?_
        refine xnil ?_
        refine xthen ?_
        refine xretc ?_
        replace h := h.symm
        subst h
        exact xret1 hg rfl rfl (.refl _) (SubM.of (.keep rfl rfl (.refl _) (.nil _)) (.keep rfl (.nil _))) ⟨i141, rfl, rfl, rfl⟩
/-- (*tree.Builder).Cat -/
def tree_Builder_Cat_R (o1 : (List (Int × Int × Int × Int × Int × Int × (Arr 4 (UInt64)))) × Int) (l3 : List Int) (r : Int × ((List (Int × Int × Int × Int × Int × Int × (Arr 4 (UInt64)))) × Int)) : Prop :=
  (((l3.length : Int) = 0 → ∃ y14 : Int × ((List (Int × Int × Int × Int × Int × Int × (Arr 4 (UInt64)))) × Int), tree_Builder_Empty_R (o1.1, o1.2) y14 ∧ r = (y14.1, (y14.2.1, y14.2.2))) ∧ (¬ ((l3.length : Int) = 0) → ∃ y17 : Int × ((List (Int × Int × Int × Int × Int × Int × (Arr 4 (UInt64)))) × Int), tree_Builder_fold_R (o1.1, o1.2) 2 l3 y17 ∧ r = (y17.1, (y17.2.1, y17.2.2))))
def tree_Builder_Cat_ev (fuel : Nat) (o1 : (List (Int × Int × Int × Int × Int × Int × (Arr 4 (UInt64)))) × Int) (l3 : List Int) : Option (Int × ((List (Int × Int × Int × Int × Int × Int × (Arr 4 (UInt64)))) × Int)) :=
  (if (l3.length : Int) = 0 then ((tree_Builder_Empty_ev fuel (o1.1, o1.2)).bind fun y14 => some (y14.1, (y14.2.1, y14.2.2))) else ((tree_Builder_fold_ev fuel (o1.1, o1.2) 2 l3).bind fun y17 => some (y17.1, (y17.2.1, y17.2.2))))
theorem tree_Builder_Cat_ok {fuel : Nat} {o1 : (List (Int × Int × Int × Int × Int × Int × (Arr 4 (UInt64)))) × Int} {l3 : List Int} {r : Int × ((List (Int × Int × Int × Int × Int × Int × (Arr 4 (UInt64)))) × Int)} (h : tree_Builder_Cat_ev fuel o1 l3 = some r) : tree_Builder_Cat_R o1 l3 r := by
  unfold tree_Builder_Cat_ev at h
  unfold tree_Builder_Cat_R
  refine ⟨fun g53 => ?_, fun g53 => ?_⟩
  · rw [if_pos g53] at h
    obtain ⟨q54, g54, h⟩ := bind_ok h
    refine ⟨q54, tree_Builder_Empty_ok g54, ?_⟩
    exact (Option.some.inj h).symm
  · rw [if_neg g53] at h
    obtain ⟨q55, g55, h⟩ := bind_ok h
    refine ⟨q55, tree_Builder_fold_ok g55, ?_⟩
    exact (Option.some.inj h).symm
set_option maxHeartbeats 4000000 in
theorem tree_Builder_Cat_con (o1 : (List (Int × Int × Int × Int × Int × Int × (Arr 4 (UInt64)))) × Int) (l3 : List Int) (bx0 : Nat) (ia2 : Option (Nat × Nat)) (r : Int × ((List (Int × Int × Int × Int × Int × Int × (Arr 4 (UInt64)))) × Int)) (h : tree_Builder_Cat_R o1 l3 r) : Con Try.prog 11 [.v (.pointer (some ⟨bx0, 0, none⟩)), .sl 1 none (List.map ei l3)] [⟨bx0, 28, [.sl 10 (some ia2) (List.map E_palinode_api_Node o1.1), .v (.int .i64 o1.2)]⟩] [⟨ia2, 42, 10, o1.1.length⟩] (fun rr bx tk => ∃ j1, rr = .v (.int .i64 r.1) ∧ bx = [⟨bx0, 28, [.sl 10 (some j1) (List.map E_palinode_api_Node r.2.1), .v (.int .i64 r.2.2)]⟩] ∧ tk = [⟨j1, 42, 10, r.2.1.length⟩]) := by
  refine xenter Try.func11 rfl rfl fun g hg => ?_
  simp only [Try.ntmps11, slots]
  refine xseq ?_
  refine xregion ?_
  refine xvalP (pv_assign rfl) rfl rfl ?_
  refine xnil ?_
  refine xthen ?_
  refine xseq ?_
  refine xseq ?_
  refine xregion ?_
  refine xvalP (pv_move rfl) rfl rfl ?_
  refine xvalP (pv_lenM UndC.h rfl) rfl rfl ?_
  refine xvalP (pv_bin2 rfl rfl rfl) rfl rfl ?_
  refine xnil ?_
  refine xthen ?_
  by_cases hp12 : (l3.length : Int) = 0
  · replace h := h.1 hp12
    refine xcondT' (decide_eq_true hp12) rfl ?_
    refine xseq ?_
    refine xregion ?_
    refine xvalP (pv_move rfl) rfl rfl ?_
    obtain ⟨y14, h13, h⟩ := h
    refine xcallF (Fb := []) (Ft := []) (tree_Builder_Empty_con (o1.1, o1.2) bx0 ia2 _ h13) Try.func12 (by kernel_rfl) rfl (.cons rfl (.refl _) .nil) (by exact (SubM.of (by repeat (first | with_reducible exact SubB.refl _ | exact SubB.nil _ | refine SubB.keep rfl rfl (by first | with_reducible exact WkL.refl _ | ((repeat (first | exact WkL.nil | refine WkL.cons (by first | with_reducible exact Wk.refl _ | exact Wk.nil_own _ | exact Wk.nil_pl _ | with_reducible exact Wk.tok _ _ _ | exact Wk.tok _ _ _ | exact Wk.eq (by first | rfl | (simp []; done) | (simp []; omega))) ?_)); done) | exact WkL.refl _) ?_ | refine SubB.drop ?_)) (by repeat (first | exact SubT.nil _ | refine SubT.add ?_ | (refine SubT.keep ?_ ?_; focus (first | with_reducible rfl | (simp []; done))) | refine SubT.drop ?_)))) rfl rfl ?_
    rintro _ _ _ ⟨i15, rfl, rfl, rfl⟩
    simp only [List.nil_append, List.cons_append]
    refine xvalP (pv_assign rfl) rfl rfl ?_
    refine xnil ?_
    refine xthen ?_
    refine xretc ?_
    refine xthen_ret ?_
    replace h := h.symm
    subst h
    exact xret1 hg rfl rfl (.refl _) (SubM.of (.keep rfl rfl (.refl _) (.nil _)) (.keep rfl (.nil _))) ⟨i15, rfl, rfl, rfl⟩
  · replace h := h.2 hp12
    refine xcondF' (decide_eq_false hp12) rfl ?_
    refine xskipc ?_
    refine xthen ?_
    refine xseq ?_
    refine xregion ?_
    refine xvalP (pv_move rfl) rfl rfl ?_
    refine xvalP (pv_move rfl) rfl rfl ?_
    obtain ⟨y17, h16, h⟩ := h
    refine xcallF (Fb := []) (Ft := []) (tree_Builder_fold_con (o1.1, o1.2) 2 l3 bx0 ia2 _ h16) Try.func19 (by kernel_rfl) rfl (.cons rfl (.refl _) (.cons rfl (.refl _) (.cons rfl (.refl _) .nil))) (by exact (SubM.of (by repeat (first | with_reducible exact SubB.refl _ | exact SubB.nil _ | refine SubB.keep rfl rfl (by first | with_reducible exact WkL.refl _ | ((repeat (first | exact WkL.nil | refine WkL.cons (by first | with_reducible exact Wk.refl _ | exact Wk.nil_own _ | exact Wk.nil_pl _ | with_reducible exact Wk.tok _ _ _ | exact Wk.tok _ _ _ | exact Wk.eq (by first | rfl | (simp []; done) | (simp []; omega))) ?_)); done) | exact WkL.refl _) ?_ | refine SubB.drop ?_)) (by repeat (first | exact SubT.nil _ | refine SubT.add ?_ | (refine SubT.keep ?_ ?_; focus (first | with_reducible rfl | (simp []; done))) | refine SubT.drop ?_)))) rfl rfl ?_
    rintro _ _ _ ⟨i18, rfl, rfl, rfl⟩
    simp only [List.nil_append, List.cons_append]
    refine xvalP (pv_assign rfl) rfl rfl ?_
    refine xnil ?_
    refine xthen ?_
    refine xretc ?_
    replace h := h.symm
    subst h
    exact xret1 hg rfl rfl (.refl _) (SubM.of (.keep rfl rfl (.refl _) (.nil _)) (.keep rfl (.nil _))) ⟨i18, rfl, rfl, rfl⟩
/-- slices.Clone [ []api.Node,api.Node] -/
def slices_Clone_R (sv1 : List (Int × Int × Int × Int × Int × Int × (Arr 4 (UInt64)))) (r : (List (Int × Int × Int × Int × Int × Int × (Arr 4 (UInt64))))) : Prop :=
  ∀ bv6 : Bool, (sv1 ≠ [] → bv6 = false) → ((bv6 = true → r = ([] : List (Int × Int × Int × Int × Int × Int × (Arr 4 (UInt64))))) ∧ (¬ (bv6 = true) → Room ((([] : List (Int × Int × Int × Int × Int × Int × (Arr 4 (UInt64))))).length + sv1.length) 80 ∧ r = (([] : List (Int × Int × Int × Int × Int × Int × (Arr 4 (UInt64)))) ++ sv1)))
def slices_Clone_ev (fuel : Nat) (sv1 : List (Int × Int × Int × Int × Int × Int × (Arr 4 (UInt64)))) : Option ((List (Int × Int × Int × Int × Int × Int × (Arr 4 (UInt64))))) :=
  (bothE (decide (sv1 ≠ [])) fun bv6 => (if bv6 = true then some ([] : List (Int × Int × Int × Int × Int × Int × (Arr 4 (UInt64)))) else (if Room ((([] : List (Int × Int × Int × Int × Int × Int × (Arr 4 (UInt64))))).length + sv1.length) 80 then some (([] : List (Int × Int × Int × Int × Int × Int × (Arr 4 (UInt64)))) ++ sv1) else none)))
theorem slices_Clone_ok {fuel : Nat} {sv1 : List (Int × Int × Int × Int × Int × Int × (Arr 4 (UInt64)))} {r : (List (Int × Int × Int × Int × Int × Int × (Arr 4 (UInt64))))} (h : slices_Clone_ev fuel sv1 = some r) : slices_Clone_R sv1 r := by
  unfold slices_Clone_ev at h
  unfold slices_Clone_R
  intro q56 g56
  replace h := bothE_ok h q56 (fun e => g56 (of_decide_eq_true e))
  refine ⟨fun g57 => ?_, fun g57 => ?_⟩
  · rw [if_pos g57] at h
    exact (Option.some.inj h).symm
  · rw [if_neg g57] at h
    obtain ⟨g58, h⟩ := if_ok h
    refine ⟨g58, ?_⟩
    exact (Option.some.inj h).symm
set_option maxHeartbeats 4000000 in
theorem slices_Clone_con (sv1 : List (Int × Int × Int × Int × Int × Int × (Arr 4 (UInt64)))) (r : (List (Int × Int × Int × Int × Int × Int × (Arr 4 (UInt64))))) (h : slices_Clone_R sv1 r) : Con Try.prog 20 [.sl 10 none (List.map E_palinode_api_Node sv1)] [] [] (RetM 10 42 E_palinode_api_Node r) := by
  refine xenter Try.func20 rfl rfl fun g hg => ?_
  simp only [Try.ntmps20, slots]
  refine xseq ?_
  refine xregion ?_
  refine xvalP (pv_assign rfl) rfl rfl ?_
  refine xnil ?_
  refine xthen ?_
  refine xseq ?_
  refine xseq ?_
  refine xregion ?_
  refine xvalP (pv_move rfl) rfl rfl ?_
  refine xexact 3 rfl fun A5 c5 hA5 => ?_
  refine xvalP (pv_eqNilV UndC.h rfl rfl) rfl rfl ?_
  obtain ⟨bv6, hb5⟩ : ∃ b : Bool, A5.isNone = b := ⟨_, rfl⟩
  replace h := h bv6 (fun q => hb5 ▸ hA5 q)
  refine xsetB 4 (b' := bv6) (by rw [hb5]) rfl ?_
  refine xnil ?_
  refine xthen ?_
  by_cases hp7 : bv6 = true
  · replace h := h.1 hp7
    refine xcondT' hp7 rfl ?_
    refine xseq ?_
    refine xregion ?_
    refine xvalP (pv_assign rfl) rfl rfl ?_
    refine xnil ?_
    refine xthen ?_
    refine xretc ?_
    refine xthen_ret ?_
    replace h := h.symm
    subst h
    exact xret1 hg rfl rfl (.nil_own _) (SubM.of (by repeat (first | with_reducible exact SubB.refl _ | exact SubB.nil _ | refine SubB.keep rfl rfl (by first | with_reducible exact WkL.refl _ | ((repeat (first | exact WkL.nil | refine WkL.cons (by first | with_reducible exact Wk.refl _ | exact Wk.nil_own _ | exact Wk.nil_pl _ | with_reducible exact Wk.tok _ _ _ | exact Wk.tok _ _ _ | exact Wk.eq (by first | rfl | (simp []; done) | (simp []; omega))) ?_)); done) | exact WkL.refl _) ?_ | refine SubB.drop ?_)) (by repeat (first | exact SubT.nil _ | refine SubT.add ?_ | (refine SubT.keep ?_ ?_; focus (first | with_reducible rfl | (simp []; done))) | refine SubT.drop ?_))) ⟨none, rfl, rfl, rfl⟩
  · replace h := h.2 hp7
    refine xcondF' (b_f hp7) rfl ?_
    refine xskipc ?_
    refine xthen ?_
    refine xseq ?_
    refine xregion ?_
    refine xbuildSliceME (f := E_palinode_api_Node) ([] : List (Int × Int × Int × Int × Int × Int × (Arr 4 (UInt64)))) UndC.h InfC.h rfl .nil (by first | exact wkR_of rfl | (repeat (first | exact WkR.nil | refine WkR.cons (by (repeat (first | exact WkL.nil | refine WkL.cons (by first | with_reducible exact Wk.refl _ | exact Wk.nil_own _ | exact Wk.nil_pl _ | with_reducible exact Wk.tok _ _ _ | exact Wk.tok _ _ _ | exact Wk.eq (by first | rfl | (simp []; done) | (simp []; omega))) ?_))) ?_))) rfl rfl rfl rfl fun s5 => ?_
    refine xvalP (pv_move rfl) rfl rfl ?_
    obtain ⟨h8, h⟩ := h
    refine xappendM (l := ([] : List (Int × Int × Int × Int × Int × Int × (Arr 4 (UInt64))))) (l2 := sv1) 0 h8 UndC.h InfC.h rfl rfl rfl (.refl _) rfl rfl rfl fun i9 => ?_
    refine xvalP (pv_assign rfl) rfl rfl ?_
    refine xnil ?_
    refine xthen ?_
    refine xretc ?_
    replace h := h.symm
    subst h
    exact xret1 hg rfl rfl (.refl _) (SubM.of (.nil _) (.keep rfl (.nil _))) ⟨i9, rfl, rfl, rfl⟩
/-- tree.Right -/
def tree_Right_l3 (y1213 : (List Int)) (y1162 : Int × Int × Int × Int × Int × Int × (Arr 4 (UInt64))) (f856 : Arr 10 (Int)) (x854 : Int) (ag2 : (Int × (List Int) × (Arr 10 (Int))) → Prop) (ag3 : (Int × (List Int)) → Prop) (x1228 : Int) (l1229 : List Int) (r : Bool) : Prop :=
  ((x1228 < (y1213.length : Int) → 0 ≤ (x1228 : Int) ∧ ∃ y1245 : Int, y1213[(x1228 : Int).toNat]? = some y1245 ∧ 0 ≤ (y1245 : Int) ∧ ∃ y1247 : Int, l1229[(y1245 : Int).toNat]? = some y1247 ∧ InR (y1247 + 1) ∧ 0 ≤ (y1245 : Int) ∧ ∃ y1250 : Int, l1229[(y1245 : Int).toNat]? = some y1250 ∧ InR (x1228 + 1) ∧ ag3 ((x1228 + 1), (l1229.set (y1245 : Int).toNat (y1247 + 1)))) ∧ (¬ (x1228 < (y1213.length : Int)) → ((y1162.1 = 5 → (0 ≤ (y1162.2.2.2.2.2.1 : Int) ∧ (y1162.2.2.2.2.2.1 : Int) < 10) ∧ ∃ y1257 : Int, f856.l[(y1162.2.2.2.2.2.1 : Int).toNat]? = some y1257 ∧ InR (y1257 + 1) ∧ (0 ≤ (y1162.2.2.2.2.2.1 : Int) ∧ (y1162.2.2.2.2.2.1 : Int) < 10) ∧ ∃ y1260 : Int, f856.l[(y1162.2.2.2.2.2.1 : Int).toNat]? = some y1260 ∧ InR (x854 + 1) ∧ ag2 ((x854 + 1), l1229, (Arr.set f856 (y1162.2.2.2.2.2.1 : Int).toNat ((y1257 + 1))))) ∧ (¬ (y1162.1 = 5) → InR (x854 + 1) ∧ ag2 ((x854 + 1), l1229, f856)))))
def tree_Right_l5 (x1 : (List (Int × Int × Int × Int × Int × Int × (Arr 4 (UInt64)))) × Int) (f856 : Arr 10 (Int)) (ag5 : (Int) → Prop) (x1398 : Int) (r : Bool) : Prop :=
  ((x1398 < ((((x1.2 + 1) : Int).toNat - (1 : Int).toNat : Nat) : Int) → (0 ≤ (x1398 : Int) ∧ (x1398 : Int) < ((((x1.2 + 1) : Int).toNat - (1 : Int).toNat : Nat) : Int)) ∧ ∃ y1418 : Int, f856.l[((((1 : Int).toNat + (x1398 : Int).toNat : Nat) : Int) : Int).toNat]? = some y1418 ∧ ((¬ (y1418 = 1) → r = false) ∧ (¬ (¬ (y1418 = 1)) → InR (x1398 + 1) ∧ ag5 (x1398 + 1)))) ∧ (¬ (x1398 < ((((x1.2 + 1) : Int).toNat - (1 : Int).toNat : Nat) : Int)) → r = true))
def tree_Right_l4 (l855 : List Int) (x1 : (List (Int × Int × Int × Int × Int × Int × (Arr 4 (UInt64)))) × Int) (f856 : Arr 10 (Int)) (ag4 : (Int) → Prop) (x1318 : Int) (r : Bool) : Prop :=
  ((x1318 < (((l855.take (((x1.1.length : Int) - 1) : Int).toNat).length : Nat) : Int) → 0 ≤ (x1318 : Int) ∧ ∃ y1338 : Int, ((l855.take (((x1.1.length : Int) - 1) : Int).toNat))[(x1318 : Int).toNat]? = some y1338 ∧ ((¬ (y1338 = 1) → r = false) ∧ (¬ (¬ (y1338 = 1)) → InR (x1318 + 1) ∧ ag4 (x1318 + 1)))) ∧ (¬ (x1318 < (((l855.take (((x1.1.length : Int) - 1) : Int).toNat).length : Nat) : Int)) → InR (x1.2 + 1) ∧ (0 : Int) ≤ 1 ∧ (0 : Int) ≤ (x1.2 + 1) ∧ ((1 : Int).toNat ≤ ((x1.2 + 1) : Int).toNat ∧ ((x1.2 + 1) : Int).toNat ≤ 10 ∧ (1 : Int).toNat < 10) ∧ LoopR (fun ag5 s => tree_Right_l5 x1 f856 ag5 s r) 0))
def tree_Right_l2 (x1 : (List (Int × Int × Int × Int × Int × Int × (Arr 4 (UInt64)))) × Int) (ag2 : (Int × (List Int) × (Arr 10 (Int))) → Prop) (x854 : Int) (l855 : List Int) (f856 : Arr 10 (Int)) (r : Bool) : Prop :=
  ((x854 < (x1.1.length : Int) → 0 ≤ (x854 : Int) ∧ ∃ y1162 : Int × Int × Int × Int × Int × Int × (Arr 4 (UInt64)), x1.1[(x854 : Int).toNat]? = some y1162 ∧ ∃ y1168 : Bool, tree_isNode_R y1162 x854 x1.2 y1168 ∧ ((¬ (y1168 = true) → r = false) ∧ (¬ (¬ (y1168 = true)) → ∃ y1213 : (List Int), tree_parts_R y1162 y1213 ∧ LoopR (fun ag3 s => tree_Right_l3 y1213 y1162 f856 x854 ag2 ag3 s.1 s.2 r) (0, l855)))) ∧ (¬ (x854 < (x1.1.length : Int)) → InR ((x1.1.length : Int) - 1) ∧ (0 ≤ (((x1.1.length : Int) - 1) : Int) ∧ (((x1.1.length : Int) - 1) : Int) ≤ ((l855.length : Nat) : Int)) ∧ LoopR (fun ag4 s => tree_Right_l4 l855 x1 f856 ag4 s r) 0))
def tree_Right_j1 (x1 : (List (Int × Int × Int × Int × Int × Int × (Arr 4 (UInt64)))) × Int) (x26 : Bool) (r : Bool) : Prop :=
  ((x26 = true → r = false) ∧ (¬ (x26 = true) → MakeOk ((x1.1.length : Int)) ((x1.1.length : Int)) 8 ∧ LoopR (fun ag2 s => tree_Right_l2 x1 ag2 s.1 s.2.1 s.2.2 r) (0, (List.replicate ((x1.1.length : Int) : Int).toNat 0), (Arr.rep 10 0))))
def tree_Right_R (x1 : (List (Int × Int × Int × Int × Int × Int × (Arr 4 (UInt64)))) × Int) (r : Bool) : Prop :=
  tree_Right_j1 x1 ((decide ((x1.1.length : Int) < 1)) || ((decide (1000 < (x1.1.length : Int))) || ((decide (x1.2 < 0)) || (decide (9 < x1.2))))) r
def tree_Right_l3_ev (fuel : Nat) (y1213 : (List Int)) (y1162 : Int × Int × Int × Int × Int × Int × (Arr 4 (UInt64))) (f856 : Arr 10 (Int)) (x854 : Int) (ag2e : (Int × (List Int) × (Arr 10 (Int))) → Option (Bool)) (ag3e : (Int × (List Int)) → Option (Bool)) (x1228 : Int) (l1229 : List Int) : Option (Bool) :=
  (if x1228 < (y1213.length : Int) then (if 0 ≤ (x1228 : Int) then ((y1213[(x1228 : Int).toNat]?).bind fun y1245 => (if 0 ≤ (y1245 : Int) then ((l1229[(y1245 : Int).toNat]?).bind fun y1247 => (if InR (y1247 + 1) then (if 0 ≤ (y1245 : Int) then ((l1229[(y1245 : Int).toNat]?).bind fun y1250 => (if InR (x1228 + 1) then ag3e ((x1228 + 1), (l1229.set (y1245 : Int).toNat (y1247 + 1))) else none)) else none) else none)) else none)) else none) else (if y1162.1 = 5 then (if (0 ≤ (y1162.2.2.2.2.2.1 : Int) ∧ (y1162.2.2.2.2.2.1 : Int) < 10) then ((f856.l[(y1162.2.2.2.2.2.1 : Int).toNat]?).bind fun y1257 => (if InR (y1257 + 1) then (if (0 ≤ (y1162.2.2.2.2.2.1 : Int) ∧ (y1162.2.2.2.2.2.1 : Int) < 10) then ((f856.l[(y1162.2.2.2.2.2.1 : Int).toNat]?).bind fun y1260 => (if InR (x854 + 1) then ag2e ((x854 + 1), l1229, (Arr.set f856 (y1162.2.2.2.2.2.1 : Int).toNat ((y1257 + 1)))) else none)) else none) else none)) else none) else (if InR (x854 + 1) then ag2e ((x854 + 1), l1229, f856) else none)))
theorem tree_Right_l3_ok {fuel : Nat} {y1213 : (List Int)} {y1162 : Int × Int × Int × Int × Int × Int × (Arr 4 (UInt64))} {f856 : Arr 10 (Int)} {x854 : Int} {ag2 : (Int × (List Int) × (Arr 10 (Int))) → Prop} {ag2e : (Int × (List Int) × (Arr 10 (Int))) → Option (Bool)} {ag3e : (Int × (List Int)) → Option (Bool)} {ag3 : (Int × (List Int)) → Prop} {x1228 : Int} {l1229 : List Int} {r : Bool} (hagag2 : ∀ s, ag2e s = some r → ag2 s) (hagag3 : ∀ s, ag3e s = some r → ag3 s) (h : tree_Right_l3_ev fuel y1213 y1162 f856 x854 ag2e ag3e x1228 l1229 = some r) : tree_Right_l3 y1213 y1162 f856 x854 ag2 ag3 x1228 l1229 r := by
  unfold tree_Right_l3_ev at h
  unfold tree_Right_l3
  refine ⟨fun g59 => ?_, fun g59 => ?_⟩
  · rw [if_pos g59] at h
    obtain ⟨g60, h⟩ := if_ok h
    refine ⟨g60, ?_⟩
    obtain ⟨q61, g61, h⟩ := bind_ok h
    refine ⟨q61, g61, ?_⟩
    obtain ⟨g62, h⟩ := if_ok h
    refine ⟨g62, ?_⟩
    obtain ⟨q63, g63, h⟩ := bind_ok h
    refine ⟨q63, g63, ?_⟩
    obtain ⟨g64, h⟩ := if_ok h
    refine ⟨g64, ?_⟩
    obtain ⟨g65, h⟩ := if_ok h
    refine ⟨g65, ?_⟩
    obtain ⟨q66, g66, h⟩ := bind_ok h
    refine ⟨q66, g66, ?_⟩
    obtain ⟨g67, h⟩ := if_ok h
    refine ⟨g67, ?_⟩
    exact hagag3 _ h
  · rw [if_neg g59] at h
    refine ⟨fun g68 => ?_, fun g68 => ?_⟩
    · rw [if_pos g68] at h
      obtain ⟨g69, h⟩ := if_ok h
      refine ⟨g69, ?_⟩
      obtain ⟨q70, g70, h⟩ := bind_ok h
      refine ⟨q70, g70, ?_⟩
      obtain ⟨g71, h⟩ := if_ok h
      refine ⟨g71, ?_⟩
      obtain ⟨g72, h⟩ := if_ok h
      refine ⟨g72, ?_⟩
      obtain ⟨q73, g73, h⟩ := bind_ok h
      refine ⟨q73, g73, ?_⟩
      obtain ⟨g74, h⟩ := if_ok h
      refine ⟨g74, ?_⟩
      exact hagag2 _ h
    · rw [if_neg g68] at h
      obtain ⟨g75, h⟩ := if_ok h
      refine ⟨g75, ?_⟩
      exact hagag2 _ h
def tree_Right_l5_ev (fuel : Nat) (x1 : (List (Int × Int × Int × Int × Int × Int × (Arr 4 (UInt64)))) × Int) (f856 : Arr 10 (Int)) (ag5e : (Int) → Option (Bool)) (x1398 : Int) : Option (Bool) :=
  (if x1398 < ((((x1.2 + 1) : Int).toNat - (1 : Int).toNat : Nat) : Int) then (if (0 ≤ (x1398 : Int) ∧ (x1398 : Int) < ((((x1.2 + 1) : Int).toNat - (1 : Int).toNat : Nat) : Int)) then ((f856.l[((((1 : Int).toNat + (x1398 : Int).toNat : Nat) : Int) : Int).toNat]?).bind fun y1418 => (if ¬ (y1418 = 1) then some false else (if InR (x1398 + 1) then ag5e (x1398 + 1) else none))) else none) else some true)
theorem tree_Right_l5_ok {fuel : Nat} {x1 : (List (Int × Int × Int × Int × Int × Int × (Arr 4 (UInt64)))) × Int} {f856 : Arr 10 (Int)} {ag5e : (Int) → Option (Bool)} {ag5 : (Int) → Prop} {x1398 : Int} {r : Bool} (hagag5 : ∀ s, ag5e s = some r → ag5 s) (h : tree_Right_l5_ev fuel x1 f856 ag5e x1398 = some r) : tree_Right_l5 x1 f856 ag5 x1398 r := by
  unfold tree_Right_l5_ev at h
  unfold tree_Right_l5
  refine ⟨fun g76 => ?_, fun g76 => ?_⟩
  · rw [if_pos g76] at h
    obtain ⟨g77, h⟩ := if_ok h
    refine ⟨g77, ?_⟩
    obtain ⟨q78, g78, h⟩ := bind_ok h
    refine ⟨q78, g78, ?_⟩
    refine ⟨fun g79 => ?_, fun g79 => ?_⟩
    · rw [if_pos g79] at h
      exact (Option.some.inj h).symm
    · rw [if_neg g79] at h
      obtain ⟨g80, h⟩ := if_ok h
      refine ⟨g80, ?_⟩
      exact hagag5 _ h
  · rw [if_neg g76] at h
    exact (Option.some.inj h).symm
def tree_Right_l4_ev (fuel : Nat) (l855 : List Int) (x1 : (List (Int × Int × Int × Int × Int × Int × (Arr 4 (UInt64)))) × Int) (f856 : Arr 10 (Int)) (ag4e : (Int) → Option (Bool)) (x1318 : Int) : Option (Bool) :=
  (if x1318 < (((l855.take (((x1.1.length : Int) - 1) : Int).toNat).length : Nat) : Int) then (if 0 ≤ (x1318 : Int) then ((((l855.take (((x1.1.length : Int) - 1) : Int).toNat))[(x1318 : Int).toNat]?).bind fun y1338 => (if ¬ (y1338 = 1) then some false else (if InR (x1318 + 1) then ag4e (x1318 + 1) else none))) else none) else (if InR (x1.2 + 1) then (if (0 : Int) ≤ 1 then (if (0 : Int) ≤ (x1.2 + 1) then (if ((1 : Int).toNat ≤ ((x1.2 + 1) : Int).toNat ∧ ((x1.2 + 1) : Int).toNat ≤ 10 ∧ (1 : Int).toNat < 10) then (loopE (fun ag5e s => tree_Right_l5_ev fuel x1 f856 ag5e s) fuel 0) else none) else none) else none) else none))
theorem tree_Right_l4_ok {fuel : Nat} {l855 : List Int} {x1 : (List (Int × Int × Int × Int × Int × Int × (Arr 4 (UInt64)))) × Int} {f856 : Arr 10 (Int)} {ag4e : (Int) → Option (Bool)} {ag4 : (Int) → Prop} {x1318 : Int} {r : Bool} (hagag4 : ∀ s, ag4e s = some r → ag4 s) (h : tree_Right_l4_ev fuel l855 x1 f856 ag4e x1318 = some r) : tree_Right_l4 l855 x1 f856 ag4 x1318 r := by
  unfold tree_Right_l4_ev at h
  unfold tree_Right_l4
  refine ⟨fun g81 => ?_, fun g81 => ?_⟩
  · rw [if_pos g81] at h
    obtain ⟨g82, h⟩ := if_ok h
    refine ⟨g82, ?_⟩
    obtain ⟨q83, g83, h⟩ := bind_ok h
    refine ⟨q83, g83, ?_⟩
    refine ⟨fun g84 => ?_, fun g84 => ?_⟩
    · rw [if_pos g84] at h
      exact (Option.some.inj h).symm
    · rw [if_neg g84] at h
      obtain ⟨g85, h⟩ := if_ok h
      refine ⟨g85, ?_⟩
      exact hagag4 _ h
  · rw [if_neg g81] at h
    obtain ⟨g86, h⟩ := if_ok h
    refine ⟨g86, ?_⟩
    obtain ⟨g87, h⟩ := if_ok h
    refine ⟨g87, ?_⟩
    obtain ⟨g88, h⟩ := if_ok h
    refine ⟨g88, ?_⟩
    obtain ⟨g89, h⟩ := if_ok h
    refine ⟨g89, ?_⟩
    refine loopE_ok ?_ h
    intro ae ag s hag h
    exact tree_Right_l5_ok hag h
def tree_Right_l2_ev (fuel : Nat) (x1 : (List (Int × Int × Int × Int × Int × Int × (Arr 4 (UInt64)))) × Int) (ag2e : (Int × (List Int) × (Arr 10 (Int))) → Option (Bool)) (x854 : Int) (l855 : List Int) (f856 : Arr 10 (Int)) : Option (Bool) :=
  (if x854 < (x1.1.length : Int) then (if 0 ≤ (x854 : Int) then ((x1.1[(x854 : Int).toNat]?).bind fun y1162 => ((tree_isNode_ev fuel y1162 x854 x1.2).bind fun y1168 => (if ¬ (y1168 = true) then some false else ((tree_parts_ev fuel y1162).bind fun y1213 => (loopE (fun ag3e s => tree_Right_l3_ev fuel y1213 y1162 f856 x854 ag2e ag3e s.1 s.2) fuel (0, l855)))))) else none) else (if InR ((x1.1.length : Int) - 1) then (if (0 ≤ (((x1.1.length : Int) - 1) : Int) ∧ (((x1.1.length : Int) - 1) : Int) ≤ ((l855.length : Nat) : Int)) then (loopE (fun ag4e s => tree_Right_l4_ev fuel l855 x1 f856 ag4e s) fuel 0) else none) else none))
theorem tree_Right_l2_ok {fuel : Nat} {x1 : (List (Int × Int × Int × Int × Int × Int × (Arr 4 (UInt64)))) × Int} {ag2e : (Int × (List Int) × (Arr 10 (Int))) → Option (Bool)} {ag2 : (Int × (List Int) × (Arr 10 (Int))) → Prop} {x854 : Int} {l855 : List Int} {f856 : Arr 10 (Int)} {r : Bool} (hagag2 : ∀ s, ag2e s = some r → ag2 s) (h : tree_Right_l2_ev fuel x1 ag2e x854 l855 f856 = some r) : tree_Right_l2 x1 ag2 x854 l855 f856 r := by
  unfold tree_Right_l2_ev at h
  unfold tree_Right_l2
  refine ⟨fun g90 => ?_, fun g90 => ?_⟩
  · rw [if_pos g90] at h
    obtain ⟨g91, h⟩ := if_ok h
    refine ⟨g91, ?_⟩
    obtain ⟨q92, g92, h⟩ := bind_ok h
    refine ⟨q92, g92, ?_⟩
    obtain ⟨q93, g93, h⟩ := bind_ok h
    refine ⟨q93, tree_isNode_ok g93, ?_⟩
    refine ⟨fun g94 => ?_, fun g94 => ?_⟩
    · rw [if_pos g94] at h
      exact (Option.some.inj h).symm
    · rw [if_neg g94] at h
      obtain ⟨q95, g95, h⟩ := bind_ok h
      refine ⟨q95, tree_parts_ok g95, ?_⟩
      refine loopE_ok ?_ h
      intro ae ag s hag h
      exact tree_Right_l3_ok hagag2 hag h
  · rw [if_neg g90] at h
    obtain ⟨g96, h⟩ := if_ok h
    refine ⟨g96, ?_⟩
    obtain ⟨g97, h⟩ := if_ok h
    refine ⟨g97, ?_⟩
    refine loopE_ok ?_ h
    intro ae ag s hag h
    exact tree_Right_l4_ok hag h
def tree_Right_j1_ev (fuel : Nat) (x1 : (List (Int × Int × Int × Int × Int × Int × (Arr 4 (UInt64)))) × Int) (x26 : Bool) : Option (Bool) :=
  (if x26 = true then some false else (if MakeOk ((x1.1.length : Int)) ((x1.1.length : Int)) 8 then (loopE (fun ag2e s => tree_Right_l2_ev fuel x1 ag2e s.1 s.2.1 s.2.2) fuel (0, (List.replicate ((x1.1.length : Int) : Int).toNat 0), (Arr.rep 10 0))) else none))
theorem tree_Right_j1_ok {fuel : Nat} {x1 : (List (Int × Int × Int × Int × Int × Int × (Arr 4 (UInt64)))) × Int} {x26 : Bool} {r : Bool} (h : tree_Right_j1_ev fuel x1 x26 = some r) : tree_Right_j1 x1 x26 r := by
  unfold tree_Right_j1_ev at h
  unfold tree_Right_j1
  refine ⟨fun g98 => ?_, fun g98 => ?_⟩
  · rw [if_pos g98] at h
    exact (Option.some.inj h).symm
  · rw [if_neg g98] at h
    obtain ⟨g99, h⟩ := if_ok h
    refine ⟨g99, ?_⟩
    refine loopE_ok ?_ h
    intro ae ag s hag h
    exact tree_Right_l2_ok hag h
def tree_Right_ev (fuel : Nat) (x1 : (List (Int × Int × Int × Int × Int × Int × (Arr 4 (UInt64)))) × Int) : Option (Bool) :=
  tree_Right_j1_ev fuel x1 ((decide ((x1.1.length : Int) < 1)) || ((decide (1000 < (x1.1.length : Int))) || ((decide (x1.2 < 0)) || (decide (9 < x1.2)))))
theorem tree_Right_ok {fuel : Nat} {x1 : (List (Int × Int × Int × Int × Int × Int × (Arr 4 (UInt64)))) × Int} {r : Bool} (h : tree_Right_ev fuel x1 = some r) : tree_Right_R x1 r := by
  unfold tree_Right_ev at h
  unfold tree_Right_R
  exact tree_Right_j1_ok h
set_option maxRecDepth 100000 in
set_option maxHeartbeats 4000000 in
theorem tree_Right_con (x1 : (List (Int × Int × Int × Int × Int × Int × (Arr 4 (UInt64)))) × Int) (r : Bool) (h : tree_Right_R x1 r) : Con Try.prog 16 [.agg [.sl 10 none (List.map E_palinode_api_Node x1.1), .v (.int .i64 x1.2)]] [] [] (Ret (.v (.bool r))) := by
  refine xenter Try.func16 rfl rfl fun g hg => ?_
  simp only [Try.ntmps16, slots]
  unfold tree_Right_R at h
  refine xseq ?_
  refine xregion ?_
  refine xbox rfl rfl rfl rfl fun b1 => ?_
  refine xvalP (pv_assign rfl) rfl rfl ?_
  refine xnil ?_
  refine xthen ?_
  refine xseq ?_
  refine xregion ?_
  refine xvalP (qv_fieldAddrB FldC.h rfl) rfl rfl ?_
  refine xval (qv_loadB 0 ShpC.h rfl rfl rfl rfl) rfl rfl ?_
  refine xvalP (pv_lenM UndC.h rfl) rfl rfl ?_
  refine xvalP (pv_assign rfl) rfl rfl ?_
  refine xnil ?_
  refine xthen ?_
  refine xseq ?_
  refine xseqM (fun σ => ∃ (x26 : Bool), tree_Right_j1 x1 x26 r ∧ σ = ⟨[(1, .v (.pointer (some ⟨b1, 0, none⟩))), (3, .v (.int .i64 ((x1.1.length : Int)))), (32, .v (.bool x26))], [⟨b1, 24, [.sl 10 none (List.map E_palinode_api_Node x1.1), .v (.int .i64 x1.2)]⟩], []⟩) ?_ ?_
  · refine xregion ?_
    refine xvalP (pv_move rfl) rfl rfl ?_
    refine xvalP (pv_bin2 rfl rfl rfl) rfl rfl ?_
    refine xvalP (pv_move rfl) rfl rfl ?_
    by_cases hp28 : (x1.1.length : Int) < 1
    · rw [show (decide ((x1.1.length : Int) < 1)) = true from (decide_eq_true hp28), Bool.true_or] at h
      refine xsetB 19 (decide_eq_true hp28) rfl ?_
      refine xskip rfl rfl ?_
      refine xskip rfl rfl ?_
      refine xvalP (pv_pick rfl rfl) rfl rfl ?_
      refine xvalP (pv_move rfl) rfl rfl ?_
      refine xskip rfl rfl ?_
      refine xskip rfl rfl ?_
      refine xskip rfl rfl ?_
      refine xvalP (pv_pick rfl rfl) rfl rfl ?_
      refine xvalP (pv_move rfl) rfl rfl ?_
      refine xskip rfl rfl ?_
      refine xskip rfl rfl ?_
      refine xskip rfl rfl ?_
      refine xvalP (pv_pick rfl rfl) rfl rfl ?_
      refine xnil ?_
      exact xmeet ⟨true, h, rfl⟩ ⟨(.cons rfl (.refl _) (.cons rfl (.refl _) (.cons rfl (.refl _) (.nil _)))), (SubM.of (.keep rfl rfl (.refl _) (.nil _)) (.nil _))⟩
    · rw [show (decide ((x1.1.length : Int) < 1)) = false from (decide_eq_false hp28), Bool.false_or] at h
      refine xsetB 19 (decide_eq_false hp28) rfl ?_
      refine xvalP (pv_move rfl) rfl rfl ?_
      refine xvalP (pv_bin2 rfl rfl rfl) rfl rfl ?_
      refine xvalP (pv_pick rfl rfl) rfl rfl ?_
      refine xvalP (pv_move rfl) rfl rfl ?_
      by_cases hp30 : 1000 < (x1.1.length : Int)
      · rw [show (decide (1000 < (x1.1.length : Int))) = true from (decide_eq_true hp30), Bool.true_or] at h
        refine xsetB 23 (decide_eq_true hp30) rfl ?_
        refine xskip rfl rfl ?_
        refine xskip rfl rfl ?_
        refine xskip rfl rfl ?_
        refine xvalP (pv_pick rfl rfl) rfl rfl ?_
        refine xvalP (pv_move rfl) rfl rfl ?_
        refine xskip rfl rfl ?_
        refine xskip rfl rfl ?_
        refine xskip rfl rfl ?_
        refine xvalP (pv_pick rfl rfl) rfl rfl ?_
        refine xnil ?_
        exact xmeet ⟨true, h, rfl⟩ ⟨(.cons rfl (.refl _) (.cons rfl (.refl _) (.cons rfl (.refl _) (.nil _)))), (SubM.of (.keep rfl rfl (.refl _) (.nil _)) (.nil _))⟩
      · rw [show (decide (1000 < (x1.1.length : Int))) = false from (decide_eq_false hp30), Bool.false_or] at h
        refine xsetB 23 (decide_eq_false hp30) rfl ?_
        refine xvalP (qv_fieldAddrB FldC.h rfl) rfl rfl ?_
        refine xval (qv_loadB 0 ShpC.h rfl rfl rfl rfl) rfl rfl ?_
        refine xvalP (pv_bin2 rfl rfl rfl) rfl rfl ?_
        refine xvalP (pv_pick rfl rfl) rfl rfl ?_
        refine xvalP (pv_move rfl) rfl rfl ?_
        by_cases hp32 : x1.2 < 0
        · rw [show (decide (x1.2 < 0)) = true from (decide_eq_true hp32), Bool.true_or] at h
          refine xsetB 28 (decide_eq_true hp32) rfl ?_
          refine xskip rfl rfl ?_
          refine xskip rfl rfl ?_
          refine xskip rfl rfl ?_
          refine xvalP (pv_pick rfl rfl) rfl rfl ?_
          refine xnil ?_
          exact xmeet ⟨true, h, rfl⟩ ⟨(.cons rfl (.refl _) (.cons rfl (.refl _) (.cons rfl (.refl _) (.nil _)))), (SubM.of (.keep rfl rfl (.refl _) (.nil _)) (.nil _))⟩
        · rw [show (decide (x1.2 < 0)) = false from (decide_eq_false hp32), Bool.false_or] at h
          refine xsetB 28 (decide_eq_false hp32) rfl ?_
          refine xvalP (qv_fieldAddrB FldC.h rfl) rfl rfl ?_
          refine xval (qv_loadB 0 ShpC.h rfl rfl rfl rfl) rfl rfl ?_
          refine xvalP (pv_bin2 rfl rfl rfl) rfl rfl ?_
          refine xvalP (pv_pick rfl rfl) rfl rfl ?_
          refine xnil ?_
          exact xmeet ⟨(decide (9 < x1.2)), h, rfl⟩ ⟨(.cons rfl (.refl _) (.cons rfl (.refl _) (.cons rfl (.refl _) (.nil _)))), (SubM.of (.keep rfl rfl (.refl _) (.nil _)) (.nil _))⟩
  · clear h
    rintro _ ⟨x26, h, rfl⟩
    by_cases hp34 : x26 = true
    · replace h := h.1 hp34
      refine xcondT' hp34 rfl ?_
      refine xseq ?_
      refine xregion ?_
      refine xvalP (pv_assign rfl) rfl rfl ?_
      refine xnil ?_
      refine xthen ?_
      refine xretc ?_
      refine xthen_ret ?_
      replace h := h.symm
      subst h
      exact xret1 hg rfl rfl (.refl _) (SubM.of (.nil _) (.nil _)) ⟨rfl, rfl, rfl⟩
    · replace h := h.2 hp34
      refine xcondF' (b_f hp34) rfl ?_
      refine xskipc ?_
      refine xthen ?_
      refine xseq ?_
      refine xregion ?_
      refine xvalP (pv_move rfl) rfl rfl ?_
      obtain ⟨h35, h⟩ := h
      refine xmakeRb (f := ei) 0 h35 UndC.h InfC.h (.refl _) rfl rfl rfl rfl fun i36 => ?_
      refine xvalP (pv_assign rfl) rfl rfl ?_
      refine xnil ?_
      refine xthen ?_
      refine xseq ?_
      refine xregion ?_
      refine xalloc InfC.h rfl rfl fun b5 => ?_
      refine xreb 0 ((List.map ei ((Arr.rep 10 0)).l).flatten) rfl rfl ?_
      refine xnil ?_
      refine xthen ?_
      refine xseq ?_
      refine xseq ?_
      refine xregion ?_
      refine xvalP (qv_fieldAddrB FldC.h rfl) rfl rfl ?_
      refine xval (qv_loadB 2 ShpC.h rfl rfl rfl rfl) rfl rfl ?_
      refine xvalP (pv_lenM UndC.h rfl) rfl rfl ?_
      refine xvalP (pv_move rfl) rfl rfl ?_
      refine xnil ?_
      refine xthen ?_
      refine xblock ?_
      obtain ⟨Inv, ⟨m0, hI⟩, hS⟩ := h
      refine xloop (fun σ m => ∃ (x854 : Int), ∃ (l855 : List Int), ∃ (f856 : Arr 10 (Int)), Inv (x854, l855, f856) m ∧ σ = ⟨[(1, .v (.pointer (some ⟨b1, 0, none⟩))), (3, .v (.int .i64 ((x1.1.length : Int)))), (4, .rb i36 l855.length), (5, .v (.pointer (some ⟨b5, 0, none⟩))), (36, .sl 10 none (List.map E_palinode_api_Node x1.1)), (37, .v (.int .i64 ((x1.1.length : Int)))), (38, .v (.int .i64 x854))], [⟨b5, 48, ((List.map ei f856.l).flatten)⟩, rbx i36 3 1 (List.map ei l855), ⟨b1, 24, [.sl 10 none (List.map E_palinode_api_Node x1.1), .v (.int .i64 x1.2)]⟩], []⟩) ⟨0, (List.replicate ((x1.1.length : Int) : Int).toNat 0), (Arr.rep 10 0), hI, rfl⟩ ⟨(.cons rfl (.refl _) (.cons rfl (.refl _) (.cons rfl (.eq (by first | rfl | simp)) (.cons rfl (.refl _) (.cons rfl (.refl _) (.cons rfl (.refl _) (.cons rfl (.refl _) (.nil _)))))))), by exact (SubM.of (.keep rfl rfl (.refl _) (.keep rfl rfl (.refl _) (.keep rfl rfl (.refl _) (.nil _)))) (.nil _))⟩ ?_
      rintro _ m ⟨x854, l855, f856, hI, rfl⟩
      obtain ⟨ag2, hag2, h⟩ : ∃ ag, (∀ s', ag s' → ∃ m', m' < m ∧ Inv s' m') ∧ tree_Right_l2 x1 ag x854 l855 f856 r := ⟨_, fun _ h => h, hS (x854, l855, f856) _ hI⟩
      clear hS hI
      refine xseq ?_
      refine xregion ?_
      refine xvalP (pv_bin2 rfl rfl rfl) rfl rfl ?_
      refine xnil ?_
      refine xthen ?_
      refine xseq ?_
      by_cases hp1062 : x854 < (x1.1.length : Int)
      · replace h := h.1 hp1062
        refine xcondT' (decide_eq_true hp1062) rfl ?_
        refine xskipc ?_
        refine xthen ?_
        refine xseq ?_
        refine xblock ?_
        refine xseq ?_
        refine xregion ?_
        refine xvalP (pv_move rfl) rfl rfl ?_
        obtain ⟨h1163a, h⟩ := h
        obtain ⟨y1162, h1163b, h⟩ := h
        refine xvalP (pv_indexAddrM h1163a h1163b UndC.h ShpC.h rfl rfl) rfl rfl ?_
        refine xval (qv_loadEP ([.v (.int .i64 y1162.1), .v (.int .i64 y1162.2.1), .v (.int .i64 y1162.2.2.1), .v (.int .i64 y1162.2.2.2.1), .v (.int .i64 y1162.2.2.2.2.1), .v (.int .i64 y1162.2.2.2.2.2.1)] ++ (List.map ew y1162.2.2.2.2.2.2.l).flatten) [] (by first | rfl | exact (List.append_nil _).symm | exact List.append_nil _ | exact List.append_assoc _ _ _ | exact (List.append_assoc _ _ _).symm | exact congrArg _ (List.append_nil _).symm | exact congrArg _ (List.append_nil _) | (simp; done) | (simp [cellsS]; done)) (by first | rfl | exact seg_lenE (by rfl) | exact len_app rfl (seg_lenE (by rfl)) (by rfl) | exact len_app (seg_lenE (by rfl)) rfl (by rfl) | exact len_app rfl (len_app (seg_lenE (by rfl)) rfl (by rfl)) (by rfl) | (simp only [seg_len, cellsS, List.length_append, List.length_cons, List.length_nil]; done) | (simp only [seg_len, cellsS, List.length_append, List.length_cons, List.length_nil]; rfl)) (part_all (by first | rfl | exact seg_lenE (by rfl) | exact len_app rfl (seg_lenE (by rfl)) (by rfl) | exact len_app (seg_lenE (by rfl)) rfl (by rfl) | exact len_app rfl (len_app (seg_lenE (by rfl)) rfl (by rfl)) (by rfl) | (simp only [seg_len, cellsS, List.length_append, List.length_cons, List.length_nil]; done) | (simp only [seg_len, cellsS, List.length_append, List.length_cons, List.length_nil]; rfl))) ShpC.h rfl) rfl rfl ?_
        refine xalloc InfC.h rfl rfl fun b7 => ?_
        refine xreb 0 ([.v (.int .i64 0), .v (.int .i64 0), .v (.int .i64 0), .v (.int .i64 0), .v (.int .i64 0), .v (.int .i64 0)] ++ (List.map ew ((Arr.rep 4 (0 : UInt64))).l).flatten) rfl rfl ?_
        refine xvalP (pv_assign rfl) rfl rfl ?_
        refine xstoreP 0 [] ([.v (.int .i64 0), .v (.int .i64 0), .v (.int .i64 0), .v (.int .i64 0), .v (.int .i64 0), .v (.int .i64 0)] ++ (List.map ew ((Arr.rep 4 (0 : UInt64))).l).flatten) [] (by first | rfl | exact (List.append_nil _).symm | exact List.append_nil _ | exact List.append_assoc _ _ _ | exact (List.append_assoc _ _ _).symm | exact congrArg _ (List.append_nil _).symm | exact congrArg _ (List.append_nil _) | (simp; done) | (simp [cellsS]; done)) (by first | rfl | exact seg_lenE (by rfl) | exact len_app rfl (seg_lenE (by rfl)) (by rfl) | exact len_app (seg_lenE (by rfl)) rfl (by rfl) | exact len_app rfl (len_app (seg_lenE (by rfl)) rfl (by rfl)) (by rfl) | (simp only [seg_len, cellsS, List.length_append, List.length_cons, List.length_nil]; done) | (simp only [seg_len, cellsS, List.length_append, List.length_cons, List.length_nil]; rfl)) (by first | rfl | exact seg_lenE (by rfl) | exact len_app rfl (seg_lenE (by rfl)) (by rfl) | exact len_app (seg_lenE (by rfl)) rfl (by rfl) | exact len_app rfl (len_app (seg_lenE (by rfl)) rfl (by rfl)) (by rfl) | (simp only [seg_len, cellsS, List.length_append, List.length_cons, List.length_nil]; done) | (simp only [seg_len, cellsS, List.length_append, List.length_cons, List.length_nil]; rfl)) ShpC.h rfl rfl rfl rfl (by first | rfl | exact seg_lenE (by rfl) | exact len_app rfl (seg_lenE (by rfl)) (by rfl) | exact len_app (seg_lenE (by rfl)) rfl (by rfl) | exact len_app rfl (len_app (seg_lenE (by rfl)) rfl (by rfl)) (by rfl) | (simp only [seg_len, cellsS, List.length_append, List.length_cons, List.length_nil]; done) | (simp only [seg_len, cellsS, List.length_append, List.length_cons, List.length_nil]; rfl)) rfl ?_
        refine xreb 0 ([.v (.int .i64 y1162.1), .v (.int .i64 y1162.2.1), .v (.int .i64 y1162.2.2.1), .v (.int .i64 y1162.2.2.2.1), .v (.int .i64 y1162.2.2.2.2.1), .v (.int .i64 y1162.2.2.2.2.2.1)] ++ (List.map ew y1162.2.2.2.2.2.2.l).flatten) rfl (by first | rfl | exact (List.append_nil _).symm | exact List.append_nil _ | exact List.append_assoc _ _ _ | exact (List.append_assoc _ _ _).symm | exact congrArg _ (List.append_nil _).symm | exact congrArg _ (List.append_nil _) | (simp; done) | (simp [cellsS]; done)) ?_
        refine xnil ?_
        refine xthen ?_
        refine xseq ?_
        refine xseq ?_
        refine xregion ?_
        refine xval (qv_loadP 0 [] ([.v (.int .i64 y1162.1), .v (.int .i64 y1162.2.1), .v (.int .i64 y1162.2.2.1), .v (.int .i64 y1162.2.2.2.1), .v (.int .i64 y1162.2.2.2.2.1), .v (.int .i64 y1162.2.2.2.2.2.1)] ++ (List.map ew y1162.2.2.2.2.2.2.l).flatten) [] (by first | rfl | exact (List.append_nil _).symm | exact List.append_nil _ | exact List.append_assoc _ _ _ | exact (List.append_assoc _ _ _).symm | exact congrArg _ (List.append_nil _).symm | exact congrArg _ (List.append_nil _) | (simp; done) | (simp [cellsS]; done)) (by first | rfl | exact seg_lenE (by rfl) | exact len_app rfl (seg_lenE (by rfl)) (by rfl) | exact len_app (seg_lenE (by rfl)) rfl (by rfl) | exact len_app rfl (len_app (seg_lenE (by rfl)) rfl (by rfl)) (by rfl) | (simp only [seg_len, cellsS, List.length_append, List.length_cons, List.length_nil]; done) | (simp only [seg_len, cellsS, List.length_append, List.length_cons, List.length_nil]; rfl)) (by first | rfl | exact seg_lenE (by rfl) | exact len_app rfl (seg_lenE (by rfl)) (by rfl) | exact len_app (seg_lenE (by rfl)) rfl (by rfl) | exact len_app rfl (len_app (seg_lenE (by rfl)) rfl (by rfl)) (by rfl) | (simp only [seg_len, cellsS, List.length_append, List.length_cons, List.length_nil]; done) | (simp only [seg_len, cellsS, List.length_append, List.length_cons, List.length_nil]; rfl)) (part_all (by first | rfl | exact seg_lenE (by rfl) | exact len_app rfl (seg_lenE (by rfl)) (by rfl) | exact len_app (seg_lenE (by rfl)) rfl (by rfl) | exact len_app rfl (len_app (seg_lenE (by rfl)) rfl (by rfl)) (by rfl) | (simp only [seg_len, cellsS, List.length_append, List.length_cons, List.length_nil]; done) | (simp only [seg_len, cellsS, List.length_append, List.length_cons, List.length_nil]; rfl))) ShpC.h rfl rfl) rfl rfl ?_
        refine xvalP (pv_move rfl) rfl rfl ?_
        refine xvalP (qv_fieldAddrB FldC.h rfl) rfl rfl ?_
        refine xval (qv_loadB 3 ShpC.h rfl rfl rfl rfl) rfl rfl ?_
        obtain ⟨y1168, h1167, h⟩ := h
        refine xcall0 (tree_isNode_con y1162 x854 x1.2 _ h1167) Try.func21 (by kernel_rfl) rfl (.cons rfl (.refl _) (.cons rfl (.refl _) (.cons rfl (.refl _) .nil))) rfl rfl ?_
        refine xvalP (pv_not rfl) rfl rfl ?_
        refine xnil ?_
        refine xthen ?_
        by_cases hp1169 : ¬ (y1168 = true)
        · replace h := h.1 hp1169
          refine xcondT' (not_t (b_f hp1169)) rfl ?_
          refine xseq ?_
          refine xregion ?_
          refine xvalP (pv_assign rfl) rfl rfl ?_
          refine xnil ?_
          refine xthen ?_
          refine xretc ?_
          refine xthen_ret ?_
          refine xin_ret ?_
          refine xthen_ret ?_
          refine xthen_ret ?_
          refine xin_ret ?_
          refine xthen_ret ?_
          replace h := h.symm
          subst h
          exact xret1 hg rfl rfl (.refl _) (SubM.of (.nil _) (.nil _)) ⟨rfl, rfl, rfl⟩
        · replace h := h.2 hp1169
          refine xcondF' (not_f (Decidable.of_not_not hp1169)) rfl ?_
          refine xskipc ?_
          refine xthen ?_
          refine xseq ?_
          refine xseq ?_
          refine xregion ?_
          refine xval (qv_loadP 0 [] ([.v (.int .i64 y1162.1), .v (.int .i64 y1162.2.1), .v (.int .i64 y1162.2.2.1), .v (.int .i64 y1162.2.2.2.1), .v (.int .i64 y1162.2.2.2.2.1), .v (.int .i64 y1162.2.2.2.2.2.1)] ++ (List.map ew y1162.2.2.2.2.2.2.l).flatten) [] (by first | rfl | exact (List.append_nil _).symm | exact List.append_nil _ | exact List.append_assoc _ _ _ | exact (List.append_assoc _ _ _).symm | exact congrArg _ (List.append_nil _).symm | exact congrArg _ (List.append_nil _) | (simp; done) | (simp [cellsS]; done)) (by first | rfl | exact seg_lenE (by rfl) | exact len_app rfl (seg_lenE (by rfl)) (by rfl) | exact len_app (seg_lenE (by rfl)) rfl (by rfl) | exact len_app rfl (len_app (seg_lenE (by rfl)) rfl (by rfl)) (by rfl) | (simp only [seg_len, cellsS, List.length_append, List.length_cons, List.length_nil]; done) | (simp only [seg_len, cellsS, List.length_append, List.length_cons, List.length_nil]; rfl)) (by first | rfl | exact seg_lenE (by rfl) | exact len_app rfl (seg_lenE (by rfl)) (by rfl) | exact len_app (seg_lenE (by rfl)) rfl (by rfl) | exact len_app rfl (len_app (seg_lenE (by rfl)) rfl (by rfl)) (by rfl) | (simp only [seg_len, cellsS, List.length_append, List.length_cons, List.length_nil]; done) | (simp only [seg_len, cellsS, List.length_append, List.length_cons, List.length_nil]; rfl)) (part_all (by first | rfl | exact seg_lenE (by rfl) | exact len_app rfl (seg_lenE (by rfl)) (by rfl) | exact len_app (seg_lenE (by rfl)) rfl (by rfl) | exact len_app rfl (len_app (seg_lenE (by rfl)) rfl (by rfl)) (by rfl) | (simp only [seg_len, cellsS, List.length_append, List.length_cons, List.length_nil]; done) | (simp only [seg_len, cellsS, List.length_append, List.length_cons, List.length_nil]; rfl))) ShpC.h rfl rfl) rfl rfl ?_
          obtain ⟨y1213, h1212, h⟩ := h
          refine xcallM (tree_parts_con y1162 _ h1212) Try.func22 (by kernel_rfl) rfl (.cons rfl (.refl _) .nil) rfl rfl fun i1214 => ?_
          refine xvalP (pv_lenM UndC.h rfl) rfl rfl ?_
          refine xvalP (pv_move rfl) rfl rfl ?_
          refine xnil ?_
          refine xthen ?_
          refine xblock ?_
          obtain ⟨Inv, ⟨m0, hI⟩, hS⟩ := h
          refine xloop (fun σ m => ∃ (x1228 : Int), ∃ (l1229 : List Int), Inv (x1228, l1229) m ∧ σ = ⟨[(1, .v (.pointer (some ⟨b1, 0, none⟩))), (3, .v (.int .i64 ((x1.1.length : Int)))), (4, .rb i36 l1229.length), (5, .v (.pointer (some ⟨b5, 0, none⟩))), (7, .v (.pointer (some ⟨b7, 0, none⟩))), (36, .sl 10 none (List.map E_palinode_api_Node x1.1)), (37, .v (.int .i64 ((x1.1.length : Int)))), (38, .v (.int .i64 x854)), (50, .sl 1 (some i1214) (List.map ei y1213)), (51, .v (.int .i64 ((y1213.length : Int)))), (52, .v (.int .i64 x1228))], [⟨b7, 42, ([.v (.int .i64 y1162.1), .v (.int .i64 y1162.2.1), .v (.int .i64 y1162.2.2.1), .v (.int .i64 y1162.2.2.2.1), .v (.int .i64 y1162.2.2.2.2.1), .v (.int .i64 y1162.2.2.2.2.2.1)] ++ (List.map ew y1162.2.2.2.2.2.2.l).flatten)⟩, ⟨b5, 48, ((List.map ei f856.l).flatten)⟩, rbx i36 3 1 (List.map ei l1229), ⟨b1, 24, [.sl 10 none (List.map E_palinode_api_Node x1.1), .v (.int .i64 x1.2)]⟩], [⟨i1214, 3, 1, y1213.length⟩]⟩) ⟨0, l855, hI, rfl⟩ ⟨(.cons rfl (.refl _) (.cons rfl (.refl _) (.cons rfl (.eq (by first | rfl | simp)) (.cons rfl (.refl _) (.cons rfl (.refl _) (.cons rfl (.refl _) (.cons rfl (.refl _) (.cons rfl (.refl _) (.cons rfl (.refl _) (.cons rfl (.refl _) (.cons rfl (.refl _) (.nil _)))))))))))), by exact (SubM.of (.keep rfl rfl (.refl _) (.keep rfl rfl (.refl _) (.keep rfl rfl (.refl _) (.keep rfl rfl (.refl _) (.nil _))))) (.keep rfl (.nil _)))⟩ ?_
          rintro _ m ⟨x1228, l1229, hI, rfl⟩
          obtain ⟨ag3, hag3, h⟩ : ∃ ag, (∀ s', ag s' → ∃ m', m' < m ∧ Inv s' m') ∧ tree_Right_l3 y1213 y1162 f856 x854 ag2 ag x1228 l1229 r := ⟨_, fun _ h => h, hS (x1228, l1229) _ hI⟩
          clear hS hI
          refine xseq ?_
          refine xregion ?_
          refine xvalP (pv_bin2 rfl rfl rfl) rfl rfl ?_
          refine xnil ?_
          refine xthen ?_
          refine xseq ?_
          by_cases hp1244 : x1228 < (y1213.length : Int)
          · replace h := h.1 hp1244
            refine xcondT' (decide_eq_true hp1244) rfl ?_
            refine xskipc ?_
            refine xthen ?_
            refine xseq ?_
            refine xblock ?_
            refine xseq ?_
            refine xregion ?_
            obtain ⟨h1246a, h⟩ := h
            obtain ⟨y1245, h1246b, h⟩ := h
            refine xvalP (pv_indexAddrM h1246a h1246b UndC.h ShpC.h rfl rfl) rfl rfl ?_
            refine xval (qv_load ShpC.h rfl rfl rfl) rfl rfl ?_
            refine xvalP (pv_assign rfl) rfl rfl ?_
            refine xnil ?_
            refine xthen ?_
            refine xregion ?_
            refine xvalP (pv_move rfl) rfl rfl ?_
            refine xvalP (pv_move rfl) rfl rfl ?_
            obtain ⟨h1248a, h⟩ := h
            obtain ⟨y1247, h1248b, h⟩ := h
            refine xvalP (pv_indexAddrRbM rfl h1248a h1248b UndC.h ShpC.h rfl rfl) rfl rfl ?_
            refine xval (qv_loadRb (f := ei) (k := 1) (off := 0) (i := (y1245 : Int).toNat) 2 h1248b rfl (by decide) rfl ShpC.h rfl rfl) rfl rfl ?_
            obtain ⟨h1249, h⟩ := h
            refine xvalP (pv_addI h1249 rfl rfl) rfl rfl ?_
            obtain ⟨h1251a, h⟩ := h
            obtain ⟨y1250, h1251b, h⟩ := h
            refine xvalP (pv_indexAddrRbM rfl h1251a h1251b UndC.h ShpC.h rfl rfl) rfl rfl ?_
            refine xstoreRb (f := ei) (k := 1) (off := 0) (i := (y1245 : Int).toNat) 2 (y1247 + 1) h1251b rfl (by decide) ShpC.h rfl rfl rfl rfl (by first | rfl | exact seg_lenE (by rfl) | exact len_app rfl (seg_lenE (by rfl)) (by rfl) | exact len_app (seg_lenE (by rfl)) rfl (by rfl) | exact len_app rfl (len_app (seg_lenE (by rfl)) rfl (by rfl)) (by rfl) | (simp only [seg_len, cellsS, List.length_append, List.length_cons, List.length_nil]; done) | (simp only [seg_len, cellsS, List.length_append, List.length_cons, List.length_nil]; rfl)) (.refl _) rfl ?_
            refine xnil ?_
            refine xin_normal ?_
            refine xthen ?_
            refine xregion ?_
            obtain ⟨h1253, h⟩ := h
            refine xvalP (pv_addI h1253 rfl rfl) rfl rfl ?_
            refine xvalP (pv_move rfl) rfl rfl ?_
            refine xnil ?_
            obtain ⟨m', hm, hI⟩ := hag3 _ h
            exact xagain ⟨(x1228 + 1), (l1229.set (y1245 : Int).toNat (y1247 + 1)), hI, rfl⟩ hm ⟨(.cons rfl (.refl _) (.cons rfl (.refl _) (.cons rfl (.eq (by first | rfl | simp)) (.cons rfl (.refl _) (.cons rfl (.refl _) (.cons rfl (.refl _) (.cons rfl (.refl _) (.cons rfl (.refl _) (.cons rfl (.refl _) (.cons rfl (.refl _) (.cons rfl (.refl _) (.nil _)))))))))))), by exact (SubM.of (.keep rfl rfl (.refl _) (.keep rfl rfl (.refl _) (.keep rfl rfl (.refl _) (.keep rfl rfl (.refl _) (.nil _))))) (.keep rfl (.nil _)))⟩
          · replace h := h.2 hp1244
            refine xcondF' (decide_eq_false hp1244) rfl ?_
            refine xexit ?_
            refine xthen_exit ?_
            refine xthen_exit ?_
            refine xin_same rfl ?_
            refine xthen ?_
            refine xseq ?_
            refine xregion ?_
            refine xvalP (qv_fieldAddrB FldC.h rfl) rfl rfl ?_
            refine xval (qv_loadB 0 ShpC.h rfl rfl rfl rfl) rfl rfl ?_
            refine xvalP (pv_bin2 rfl rfl rfl) rfl rfl ?_
            refine xnil ?_
            refine xthen ?_
            by_cases hp1255 : y1162.1 = 5
            · replace h := h.1 hp1255
              refine xcondT' (decide_eq_true hp1255) rfl ?_
              refine xregion ?_
              refine xvalP (qv_fieldAddrB FldC.h rfl) rfl rfl ?_
              refine xval (qv_loadB 0 ShpC.h rfl rfl rfl rfl) rfl rfl ?_
              obtain ⟨h1256, h⟩ := h
              obtain ⟨y1257, h1256b, h⟩ := h
              refine xvalP (pv_indexAddrBA h1256 UndC.h ShpC.h rfl rfl) rfl rfl ?_
              refine xval (qv_loadA (f := ei) (a := f856) (k := 1) (off := 0) (i := (y1162.2.2.2.2.2.1 : Int).toNat) 1 [] [] h1256b (by first | rfl | exact (List.append_nil _).symm | exact List.append_nil _ | exact List.append_assoc _ _ _ | exact (List.append_assoc _ _ _).symm | exact congrArg _ (List.append_nil _).symm | exact congrArg _ (List.append_nil _) | (simp; done) | (simp [cellsS]; done)) (by first | rfl | omega | (simp only [List.length_cons, List.length_nil]; omega) | (simp only [seg_len, List.length_append, List.length_cons, List.length_nil]; omega)) (by decide) rfl ShpC.h rfl rfl) rfl rfl ?_
              obtain ⟨h1258, h⟩ := h
              refine xvalP (pv_addI h1258 rfl rfl) rfl rfl ?_
              obtain ⟨h1259, h⟩ := h
              obtain ⟨y1260, h1259b, h⟩ := h
              refine xvalP (pv_indexAddrBA h1259 UndC.h ShpC.h rfl rfl) rfl rfl ?_
              refine xstoreA (f := ei) (a := f856) (k := 1) (off := 0) (i := (y1162.2.2.2.2.2.1 : Int).toNat) 1 [] [] (y1257 + 1) h1259b (by first | rfl | exact (List.append_nil _).symm | exact List.append_nil _ | exact List.append_assoc _ _ _ | exact (List.append_assoc _ _ _).symm | exact congrArg _ (List.append_nil _).symm | exact congrArg _ (List.append_nil _) | (simp; done) | (simp [cellsS]; done)) (by first | rfl | omega | (simp only [List.length_cons, List.length_nil]; omega) | (simp only [seg_len, List.length_append, List.length_cons, List.length_nil]; omega)) (by decide) ShpC.h rfl rfl rfl rfl (by first | rfl | exact seg_lenE (by rfl) | exact len_app rfl (seg_lenE (by rfl)) (by rfl) | exact len_app (seg_lenE (by rfl)) rfl (by rfl) | exact len_app rfl (len_app (seg_lenE (by rfl)) rfl (by rfl)) (by rfl) | (simp only [seg_len, cellsS, List.length_append, List.length_cons, List.length_nil]; done) | (simp only [seg_len, cellsS, List.length_append, List.length_cons, List.length_nil]; rfl)) rfl rfl ?_
              refine xreb 1 ((List.map ei ((Arr.set f856 (y1162.2.2.2.2.2.1 : Int).toNat ((y1257 + 1)))).l).flatten) rfl (by first | rfl | exact (List.append_nil _).symm | exact List.append_nil _ | exact List.append_assoc _ _ _ | exact (List.append_assoc _ _ _).symm | exact congrArg _ (List.append_nil _).symm | exact congrArg _ (List.append_nil _) | (simp; done) | (simp [cellsS]; done)) ?_
              refine xnil ?_
              refine xin_normal ?_
              refine xthen ?_
              refine xregion ?_
              obtain ⟨h1261, h⟩ := h
              refine xvalP (pv_addI h1261 rfl rfl) rfl rfl ?_
              refine xvalP (pv_move rfl) rfl rfl ?_
              refine xnil ?_
              obtain ⟨m', hm, hI⟩ := hag2 _ h
              exact xagain ⟨(x854 + 1), l1229, (Arr.set f856 (y1162.2.2.2.2.2.1 : Int).toNat ((y1257 + 1))), hI, rfl⟩ hm ⟨(.cons rfl (.refl _) (.cons rfl (.refl _) (.cons rfl (.eq (by first | rfl | simp)) (.cons rfl (.refl _) (.cons rfl (.refl _) (.cons rfl (.refl _) (.cons rfl (.refl _) (.nil _)))))))), by exact (SubM.of (.drop (.keep rfl rfl (.refl _) (.keep rfl rfl (.refl _) (.keep rfl rfl (.refl _) (.nil _))))) (.nil _))⟩
            · replace h := h.2 hp1255
              refine xcondF' (decide_eq_false hp1255) rfl ?_
              refine xskipc ?_
              refine xin_normal ?_
              refine xthen ?_
              refine xregion ?_
              obtain ⟨h1262, h⟩ := h
              refine xvalP (pv_addI h1262 rfl rfl) rfl rfl ?_
              refine xvalP (pv_move rfl) rfl rfl ?_
              refine xnil ?_
              obtain ⟨m', hm, hI⟩ := hag2 _ h
              exact xagain ⟨(x854 + 1), l1229, f856, hI, rfl⟩ hm ⟨(.cons rfl (.refl _) (.cons rfl (.refl _) (.cons rfl (.eq (by first | rfl | simp)) (.cons rfl (.refl _) (.cons rfl (.refl _) (.cons rfl (.refl _) (.cons rfl (.refl _) (.nil _)))))))), by exact (SubM.of (.drop (.keep rfl rfl (.refl _) (.keep rfl rfl (.refl _) (.keep rfl rfl (.refl _) (.nil _))))) (.nil _))⟩
      · replace h := h.2 hp1062
        refine xcondF' (decide_eq_false hp1062) rfl ?_
        refine xexit ?_
        refine xthen_exit ?_
        refine xthen_exit ?_
        refine xin_same rfl ?_
        refine xthen ?_
        refine xseq ?_
        refine xseq ?_
        refine xregion ?_
        refine xvalP (pv_move rfl) rfl rfl ?_
        refine xvalP (pv_move rfl) rfl rfl ?_
        obtain ⟨h1303, h⟩ := h
        refine xvalP (pv_subI h1303 rfl rfl) rfl rfl ?_
        obtain ⟨h1304, h⟩ := h
        refine xvalP (pv_sliceRbHi h1304 UndC.h ShpC.h rfl rfl) rfl rfl ?_
        refine xtakeRb (f := ei) (l := l855) 1 73 76 (((x1.1.length : Int) - 1) : Int).toNat rfl (by have := h1304; simp at this ⊢; omega) rfl rfl rfl ?_
        refine xvalP (pv_lenRb UndC.h rfl) rfl rfl ?_
        refine xvalP (pv_move rfl) rfl rfl ?_
        refine xnil ?_
        refine xthen ?_
        refine xblock ?_
        obtain ⟨Inv, ⟨m0, hI⟩, hS⟩ := h
        refine xloop (fun σ m => ∃ (x1318 : Int), Inv x1318 m ∧ σ = ⟨[(1, .v (.pointer (some ⟨b1, 0, none⟩))), (5, .v (.pointer (some ⟨b5, 0, none⟩))), (76, .rb i36 ((l855.take (((x1.1.length : Int) - 1) : Int).toNat).length)), (77, .v (.int .i64 ((((l855.take (((x1.1.length : Int) - 1) : Int).toNat).length : Nat) : Int)))), (78, .v (.int .i64 x1318))], [⟨b5, 48, ((List.map ei f856.l).flatten)⟩, rbx i36 3 1 (List.map ei ((l855.take (((x1.1.length : Int) - 1) : Int).toNat))), ⟨b1, 24, [.sl 10 none (List.map E_palinode_api_Node x1.1), .v (.int .i64 x1.2)]⟩], []⟩) ⟨0, hI, rfl⟩ ⟨(.cons rfl (.refl _) (.cons rfl (.refl _) (.cons rfl (.eq (by first | rfl | simp)) (.cons rfl (.refl _) (.cons rfl (.refl _) (.nil _)))))), by exact (SubM.of (.keep rfl rfl (.refl _) (.keep rfl rfl (.refl _) (.keep rfl rfl (.refl _) (.nil _)))) (.nil _))⟩ ?_
        rintro _ m ⟨x1318, hI, rfl⟩
        obtain ⟨ag4, hag4, h⟩ : ∃ ag, (∀ s', ag s' → ∃ m', m' < m ∧ Inv s' m') ∧ tree_Right_l4 l855 x1 f856 ag x1318 r := ⟨_, fun _ h => h, hS x1318 _ hI⟩
        clear hS hI
        refine xseq ?_
        refine xregion ?_
        refine xvalP (pv_bin2 rfl rfl rfl) rfl rfl ?_
        refine xnil ?_
        refine xthen ?_
        refine xseq ?_
        by_cases hp1333 : x1318 < (((l855.take (((x1.1.length : Int) - 1) : Int).toNat).length : Nat) : Int)
        · replace h := h.1 hp1333
          refine xcondT' (decide_eq_true hp1333) rfl ?_
          refine xskipc ?_
          refine xthen ?_
          refine xseq ?_
          refine xblock ?_
          refine xseq ?_
          refine xregion ?_
          obtain ⟨h1339a, h⟩ := h
          obtain ⟨y1338, h1339b, h⟩ := h
          refine xvalP (pv_indexAddrRbM (by simp) h1339a h1339b UndC.h ShpC.h rfl rfl) rfl rfl ?_
          refine xval (qv_loadRb (f := ei) (k := 1) (off := 0) (i := (x1318 : Int).toNat) 1 h1339b rfl (by decide) rfl ShpC.h rfl rfl) rfl rfl ?_
          refine xvalP (pv_assign rfl) rfl rfl ?_
          refine xnil ?_
          refine xthen ?_
          refine xseq ?_
          refine xregion ?_
          refine xvalP (pv_move rfl) rfl rfl ?_
          refine xvalP (pv_bin2 rfl rfl rfl) rfl rfl ?_
          refine xnil ?_
          refine xthen ?_
          by_cases hp1341 : ¬ (y1338 = 1)
          · replace h := h.1 hp1341
            refine xcondT' (not_t (decide_eq_false hp1341)) rfl ?_
            refine xseq ?_
            refine xregion ?_
            refine xvalP (pv_assign rfl) rfl rfl ?_
            refine xnil ?_
            refine xthen ?_
            refine xretc ?_
            refine xin_ret ?_
            refine xthen_ret ?_
            refine xthen_ret ?_
            refine xin_ret ?_
            refine xthen_ret ?_
            replace h := h.symm
            subst h
            exact xret1 hg rfl rfl (.refl _) (SubM.of (.nil _) (.nil _)) ⟨rfl, rfl, rfl⟩
          · replace h := h.2 hp1341
            refine xcondF' (not_f (decide_eq_true (Decidable.of_not_not hp1341))) rfl ?_
            refine xskipc ?_
            refine xin_normal ?_
            refine xthen ?_
            refine xregion ?_
            obtain ⟨h1342, h⟩ := h
            refine xvalP (pv_addI h1342 rfl rfl) rfl rfl ?_
            refine xvalP (pv_move rfl) rfl rfl ?_
            refine xnil ?_
            obtain ⟨m', hm, hI⟩ := hag4 _ h
            exact xagain ⟨(x1318 + 1), hI, rfl⟩ hm ⟨(.cons rfl (.refl _) (.cons rfl (.refl _) (.cons rfl (.eq (by first | rfl | simp)) (.cons rfl (.refl _) (.cons rfl (.refl _) (.nil _)))))), by exact (SubM.of (.keep rfl rfl (.refl _) (.keep rfl rfl (.refl _) (.keep rfl rfl (.refl _) (.nil _)))) (.nil _))⟩
        · replace h := h.2 hp1333
          refine xcondF' (decide_eq_false hp1333) rfl ?_
          refine xexit ?_
          refine xthen_exit ?_
          refine xthen_exit ?_
          refine xin_same rfl ?_
          refine xthen ?_
          refine xseq ?_
          refine xseq ?_
          refine xregion ?_
          refine xvalP (qv_fieldAddrB FldC.h rfl) rfl rfl ?_
          refine xval (qv_loadB 2 ShpC.h rfl rfl rfl rfl) rfl rfl ?_
          obtain ⟨h1383, h⟩ := h
          refine xvalP (pv_addI h1383 rfl rfl) rfl rfl ?_
          obtain ⟨h1384a, h⟩ := h
          obtain ⟨h1384b, h⟩ := h
          obtain ⟨h1384, h⟩ := h
          refine xvalP (pv_sliceArr h1384 UndC.h ShpC.h rfl (Bd.int_ h1384a rfl) (Bd.int_ h1384b rfl)) rfl rfl ?_
          refine xvalP (pv_lenVN UndC.h rfl) rfl rfl ?_
          refine xvalP (pv_move rfl) rfl rfl ?_
          refine xnil ?_
          refine xthen ?_
          refine xblock ?_
          obtain ⟨Inv, ⟨m0, hI⟩, hS⟩ := h
          refine xloop (fun σ m => ∃ (x1398 : Int), Inv x1398 m ∧ σ = ⟨[(88, .v (.slice (some ⟨b5, 0 + (1 : Int).toNat * 1, none⟩) (((x1.2 + 1) : Int).toNat - (1 : Int).toNat) (10 - (1 : Int).toNat))), (89, .v (.int .i64 (((((x1.2 + 1) : Int).toNat - (1 : Int).toNat : Nat) : Int)))), (90, .v (.int .i64 x1398))], [⟨b5, 48, ((List.map ei f856.l).flatten)⟩], []⟩) ⟨0, hI, rfl⟩ ⟨(.cons rfl (.refl _) (.cons rfl (.refl _) (.cons rfl (.refl _) (.nil _)))), (SubM.of (.keep rfl rfl (.refl _) (.nil _)) (.nil _))⟩ ?_
          rintro _ m ⟨x1398, hI, rfl⟩
          obtain ⟨ag5, hag5, h⟩ : ∃ ag, (∀ s', ag s' → ∃ m', m' < m ∧ Inv s' m') ∧ tree_Right_l5 x1 f856 ag x1398 r := ⟨_, fun _ h => h, hS x1398 _ hI⟩
          clear hS hI
          refine xseq ?_
          refine xregion ?_
          refine xvalP (pv_bin2 rfl rfl rfl) rfl rfl ?_
          refine xnil ?_
          refine xthen ?_
          refine xseq ?_
          by_cases hp1413 : x1398 < ((((x1.2 + 1) : Int).toNat - (1 : Int).toNat : Nat) : Int)
          · replace h := h.1 hp1413
            refine xcondT' (decide_eq_true hp1413) rfl ?_
            refine xskipc ?_
            refine xthen ?_
            refine xseq ?_
            refine xblock ?_
            refine xseq ?_
            refine xregion ?_
            obtain ⟨h1419, h⟩ := h
            obtain ⟨y1418, h1419b, h⟩ := h
            refine xvalP (pv_indexAddrVN h1419 UndC.h ShpC.h rfl rfl) rfl rfl ?_
            refine xval (qv_loadA (f := ei) (a := f856) (k := 1) (off := 0) (i := ((((1 : Int).toNat + (x1398 : Int).toNat : Nat) : Int) : Int).toNat) 0 [] [] h1419b (by first | rfl | exact (List.append_nil _).symm | exact List.append_nil _ | exact List.append_assoc _ _ _ | exact (List.append_assoc _ _ _).symm | exact congrArg _ (List.append_nil _).symm | exact congrArg _ (List.append_nil _) | (simp; done) | (simp [cellsS]; done)) (by first | rfl | omega | (simp only [List.length_cons, List.length_nil]; omega) | (simp only [seg_len, List.length_append, List.length_cons, List.length_nil]; omega)) (by decide) rfl ShpC.h rfl rfl) rfl rfl ?_
            refine xvalP (pv_assign rfl) rfl rfl ?_
            refine xnil ?_
            refine xthen ?_
            refine xseq ?_
            refine xregion ?_
            refine xvalP (pv_move rfl) rfl rfl ?_
            refine xvalP (pv_bin2 rfl rfl rfl) rfl rfl ?_
            refine xnil ?_
            refine xthen ?_
            by_cases hp1421 : ¬ (y1418 = 1)
            · replace h := h.1 hp1421
              refine xcondT' (not_t (decide_eq_false hp1421)) rfl ?_
              refine xseq ?_
              refine xregion ?_
              refine xvalP (pv_assign rfl) rfl rfl ?_
              refine xnil ?_
              refine xthen ?_
              refine xretc ?_
              refine xin_ret ?_
              refine xthen_ret ?_
              refine xthen_ret ?_
              refine xin_ret ?_
              refine xthen_ret ?_
              replace h := h.symm
              subst h
              exact xret1 hg rfl rfl (.refl _) (SubM.of (.nil _) (.nil _)) ⟨rfl, rfl, rfl⟩
            · replace h := h.2 hp1421
              refine xcondF' (not_f (decide_eq_true (Decidable.of_not_not hp1421))) rfl ?_
              refine xskipc ?_
              refine xin_normal ?_
              refine xthen ?_
              refine xregion ?_
              obtain ⟨h1422, h⟩ := h
              refine xvalP (pv_addI h1422 rfl rfl) rfl rfl ?_
              refine xvalP (pv_move rfl) rfl rfl ?_
              refine xnil ?_
              obtain ⟨m', hm, hI⟩ := hag5 _ h
              exact xagain ⟨(x1398 + 1), hI, rfl⟩ hm ⟨(.cons rfl (.refl _) (.cons rfl (.refl _) (.cons rfl (.refl _) (.nil _)))), (SubM.of (.keep rfl rfl (.refl _) (.nil _)) (.nil _))⟩
          · replace h := h.2 hp1413
            refine xcondF' (decide_eq_false hp1413) rfl ?_
            refine xexit ?_
            refine xthen_exit ?_
            refine xthen_exit ?_
            refine xin_same rfl ?_
            refine xthen ?_
            refine xseq ?_
            refine xregion ?_
            refine xvalP (pv_assign rfl) rfl rfl ?_
            refine xnil ?_
            refine xthen ?_
            refine xretc ?_
            replace h := h.symm
            subst h
            exact xret1 hg rfl rfl (.refl _) (SubM.of (.nil _) (.nil _)) ⟨rfl, rfl, rfl⟩
/-- (*tree.Builder).Re -/
def tree_Builder_Re_j1 (root3 : Int) (o1 : (List (Int × Int × Int × Int × Int × Int × (Arr 4 (UInt64)))) × Int) (x18 : Bool) (r : ((List (Int × Int × Int × Int × Int × Int × (Arr 4 (UInt64)))) × Int) × Bool) : Prop :=
  ((x18 = true → r = ((([] : List (Int × Int × Int × Int × Int × Int × (Arr 4 (UInt64)))), 0), false)) ∧ (¬ (x18 = true) → InR (root3 + 1) ∧ (0 ≤ ((root3 + 1) : Int) ∧ ((root3 + 1) : Int) ≤ (o1.1.length : Int)) ∧ ∃ y37 : (List (Int × Int × Int × Int × Int × Int × (Arr 4 (UInt64)))), slices_Clone_R (o1.1.take ((root3 + 1) : Int).toNat) y37 ∧ ∃ y45 : Bool, tree_Right_R (y37, o1.2) y45 ∧ ((¬ (y45 = true) → r = ((([] : List (Int × Int × Int × Int × Int × Int × (Arr 4 (UInt64)))), 0), false)) ∧ (¬ (¬ (y45 = true)) → r = ((y37, o1.2), true)))))
def tree_Builder_Re_R (o1 : (List (Int × Int × Int × Int × Int × Int × (Arr 4 (UInt64)))) × Int) (root3 : Int) (r : ((List (Int × Int × Int × Int × Int × Int × (Arr 4 (UInt64)))) × Int) × Bool) : Prop :=
  tree_Builder_Re_j1 root3 o1 ((decide (root3 < 0)) || (decide ((o1.1.length : Int) ≤ root3))) r
def tree_Builder_Re_j1_ev (fuel : Nat) (root3 : Int) (o1 : (List (Int × Int × Int × Int × Int × Int × (Arr 4 (UInt64)))) × Int) (x18 : Bool) : Option (((List (Int × Int × Int × Int × Int × Int × (Arr 4 (UInt64)))) × Int) × Bool) :=
  (if x18 = true then some ((([] : List (Int × Int × Int × Int × Int × Int × (Arr 4 (UInt64)))), 0), false) else (if InR (root3 + 1) then (if (0 ≤ ((root3 + 1) : Int) ∧ ((root3 + 1) : Int) ≤ (o1.1.length : Int)) then ((slices_Clone_ev fuel (o1.1.take ((root3 + 1) : Int).toNat)).bind fun y37 => ((tree_Right_ev fuel (y37, o1.2)).bind fun y45 => (if ¬ (y45 = true) then some ((([] : List (Int × Int × Int × Int × Int × Int × (Arr 4 (UInt64)))), 0), false) else some ((y37, o1.2), true)))) else none) else none))
theorem tree_Builder_Re_j1_ok {fuel : Nat} {root3 : Int} {o1 : (List (Int × Int × Int × Int × Int × Int × (Arr 4 (UInt64)))) × Int} {x18 : Bool} {r : ((List (Int × Int × Int × Int × Int × Int × (Arr 4 (UInt64)))) × Int) × Bool} (h : tree_Builder_Re_j1_ev fuel root3 o1 x18 = some r) : tree_Builder_Re_j1 root3 o1 x18 r := by
  unfold tree_Builder_Re_j1_ev at h
  unfold tree_Builder_Re_j1
  refine ⟨fun g100 => ?_, fun g100 => ?_⟩
  · rw [if_pos g100] at h
    exact (Option.some.inj h).symm
  · rw [if_neg g100] at h
    obtain ⟨g101, h⟩ := if_ok h
    refine ⟨g101, ?_⟩
    obtain ⟨g102, h⟩ := if_ok h
    refine ⟨g102, ?_⟩
    obtain ⟨q103, g103, h⟩ := bind_ok h
    refine ⟨q103, slices_Clone_ok g103, ?_⟩
    obtain ⟨q104, g104, h⟩ := bind_ok h
    refine ⟨q104, tree_Right_ok g104, ?_⟩
    refine ⟨fun g105 => ?_, fun g105 => ?_⟩
    · rw [if_pos g105] at h
      exact (Option.some.inj h).symm
    · rw [if_neg g105] at h
      exact (Option.some.inj h).symm
def tree_Builder_Re_ev (fuel : Nat) (o1 : (List (Int × Int × Int × Int × Int × Int × (Arr 4 (UInt64)))) × Int) (root3 : Int) : Option (((List (Int × Int × Int × Int × Int × Int × (Arr 4 (UInt64)))) × Int) × Bool) :=
  tree_Builder_Re_j1_ev fuel root3 o1 ((decide (root3 < 0)) || (decide ((o1.1.length : Int) ≤ root3)))
theorem tree_Builder_Re_ok {fuel : Nat} {o1 : (List (Int × Int × Int × Int × Int × Int × (Arr 4 (UInt64)))) × Int} {root3 : Int} {r : ((List (Int × Int × Int × Int × Int × Int × (Arr 4 (UInt64)))) × Int) × Bool} (h : tree_Builder_Re_ev fuel o1 root3 = some r) : tree_Builder_Re_R o1 root3 r := by
  unfold tree_Builder_Re_ev at h
  unfold tree_Builder_Re_R
  exact tree_Builder_Re_j1_ok h
set_option maxHeartbeats 4000000 in
theorem tree_Builder_Re_con (o1 : (List (Int × Int × Int × Int × Int × Int × (Arr 4 (UInt64)))) × Int) (root3 : Int) (bx0 : Nat) (ia2 : Option (Nat × Nat)) (r : ((List (Int × Int × Int × Int × Int × Int × (Arr 4 (UInt64)))) × Int) × Bool) (h : tree_Builder_Re_R o1 root3 r) : Con Try.prog 13 [.v (.pointer (some ⟨bx0, 0, none⟩)), .v (.int .i64 root3)] [⟨bx0, 28, [.sl 10 (some ia2) (List.map E_palinode_api_Node o1.1), .v (.int .i64 o1.2)]⟩] [⟨ia2, 42, 10, o1.1.length⟩] (fun rr bx tk => rr = .tup [.agg [.sl 10 none (List.map E_palinode_api_Node r.1.1), .v (.int .i64 r.1.2)], .v (.bool r.2)] ∧ bx = [⟨bx0, 28, [.sl 10 (some ia2) (List.map E_palinode_api_Node o1.1), .v (.int .i64 o1.2)]⟩] ∧ tk = [⟨ia2, 42, 10, o1.1.length⟩]) := by
  refine xenter Try.func13 rfl rfl fun g hg => ?_
  simp only [Try.ntmps13, slots]
  unfold tree_Builder_Re_R at h
  refine xseq ?_
  refine xregion ?_
  refine xalloc InfC.h rfl rfl fun b4 => ?_
  refine xvalP (pv_assign rfl) rfl rfl ?_
  refine xnil ?_
  refine xthen ?_
  refine xseq ?_
  refine xseqM (fun σ => ∃ (x18 : Bool), tree_Builder_Re_j1 root3 o1 x18 r ∧ σ = ⟨[(0, .v (.pointer (some ⟨bx0, 0, none⟩))), (1, .v (.int .i64 root3)), (4, .v (.pointer (some ⟨b4, 0, none⟩))), (17, .v (.bool x18))], [⟨b4, 24, [.v (.slice none 0 0), .v (.int .i64 0)]⟩, ⟨bx0, 28, [.sl 10 (some ia2) (List.map E_palinode_api_Node o1.1), .v (.int .i64 o1.2)]⟩], [⟨ia2, 42, 10, o1.1.length⟩]⟩) ?_ ?_
  · refine xregion ?_
    refine xvalP (pv_move rfl) rfl rfl ?_
    refine xvalP (pv_bin2 rfl rfl rfl) rfl rfl ?_
    refine xvalP (pv_move rfl) rfl rfl ?_
    by_cases hp20 : root3 < 0
    · rw [show (decide (root3 < 0)) = true from (decide_eq_true hp20), Bool.true_or] at h
      refine xsetB 9 (decide_eq_true hp20) rfl ?_
      refine xskip rfl rfl ?_
      refine xskip rfl rfl ?_
      refine xskip rfl rfl ?_
      refine xskip rfl rfl ?_
      refine xskip rfl rfl ?_
      refine xskip rfl rfl ?_
      refine xskip rfl rfl ?_
      refine xvalP (pv_pick rfl rfl) rfl rfl ?_
      refine xnil ?_
      exact xmeet ⟨true, h, rfl⟩ ⟨(.cons rfl (.refl _) (.cons rfl (.refl _) (.cons rfl (.refl _) (.cons rfl (.refl _) (.nil _))))), (SubM.of (.keep rfl rfl (.refl _) (.keep rfl rfl (.refl _) (.nil _))) (.keep rfl (.nil _)))⟩
    · rw [show (decide (root3 < 0)) = false from (decide_eq_false hp20), Bool.false_or] at h
      refine xsetB 9 (decide_eq_false hp20) rfl ?_
      refine xvalP (pv_move rfl) rfl rfl ?_
      refine xvalP (pv_move rfl) rfl rfl ?_
      refine xvalP (pv_nilCheck rfl) rfl rfl ?_
      refine xvalP (qv_fieldAddrB FldC.h rfl) rfl rfl ?_
      refine xval (qv_loadB 1 ShpC.h rfl rfl rfl rfl) rfl rfl ?_
      refine xvalP (pv_lenM UndC.h rfl) rfl rfl ?_
      refine xvalP (pv_bin2 rfl rfl rfl) rfl rfl ?_
      refine xvalP (pv_pick rfl rfl) rfl rfl ?_
      refine xnil ?_
      exact xmeet ⟨(decide ((o1.1.length : Int) ≤ root3)), h, rfl⟩ ⟨(.cons rfl (.refl _) (.cons rfl (.refl _) (.cons rfl (.refl _) (.cons rfl (.refl _) (.nil _))))), (SubM.of (.keep rfl rfl (.refl _) (.keep rfl rfl (.refl _) (.nil _))) (.keep rfl (.nil _)))⟩
  · clear h
    rintro _ ⟨x18, h, rfl⟩
    by_cases hp23 : x18 = true
    · replace h := h.1 hp23
      refine xcondT' hp23 rfl ?_
      refine xseq ?_
      refine xregion ?_
      refine xvalP (pv_buildC StrC.h rfl rfl) rfl rfl ?_
      refine xstore 0 ShpC.h rfl rfl rfl rfl rfl rfl rfl ?_
      refine xvalP (pv_assign rfl) rfl rfl ?_
      refine xnil ?_
      refine xthen ?_
      refine xretc ?_
      refine xthen_ret ?_
      replace h := h.symm
      subst h
      exact xretL (rs := [.cell 4 24, .tmp 5]) (ss := [.agg [.sl 10 none (List.map E_palinode_api_Node (([] : List (Int × Int × Int × Int × Int × Int × (Arr 4 (UInt64)))))), .v (.int .i64 0)], .v (.bool false)]) hg rfl (by refine RetL.cell 0 ShpC.h rfl rfl rfl (Nat.le_of_ble_eq_true rfl) (.agg (.cons (.nil_pl _) (.cons (.refl _) .nil))) ?_; refine RetL.tmp rfl (.refl _) ?_; exact RetL.nil) (SubM.of (.drop (.keep rfl rfl (.refl _) (.nil _))) (.keep rfl (.nil _))) ⟨rfl, rfl, rfl⟩
    · replace h := h.2 hp23
      refine xcondF' (b_f hp23) rfl ?_
      refine xskipc ?_
      refine xthen ?_
      refine xseq ?_
      refine xregionD (m := 15) (by kernel_rfl) rfl ?_
      obtain ⟨h34, h⟩ := h
      obtain ⟨h35, h⟩ := h
      obtain ⟨y37, h36, h⟩ := h
      refine xpcut 1 #[true, true, true, true, true, true, true, true, true, true, true, true, true, true, false] (fun σ => ∃ (b6 : Nat), ∃ (i39 : Option (Nat × Nat)), σ = ⟨[(4, .v (.pointer (some ⟨b4, 0, none⟩))), (6, .v (.pointer (some ⟨b6, 0, none⟩))), (31, .agg [.sl 10 (some i39) (List.map E_palinode_api_Node y37), .v (.int .i64 o1.2)])], [⟨b6, 24, [.v (.slice none 0 0), .v (.int .i64 0)]⟩, ⟨b4, 24, [.v (.slice none 0 0), .v (.int .i64 0)]⟩, ⟨bx0, 28, [.sl 10 (some ia2) (List.map E_palinode_api_Node o1.1), .v (.int .i64 o1.2)]⟩], [⟨i39, 42, 10, y37.length⟩, ⟨ia2, 42, 10, o1.1.length⟩]⟩) ?_ (fun key40 => ?_)
      · rintro _ ⟨b6, i39, rfl⟩
        refine xpstep (i := 14) (by kernel_rfl) rfl ?_
        refine wstore 0 ShpC.h rfl rfl rfl rfl rfl rfl rfl ?_
        refine xpdone (by kernel_rfl) ?_
        refine xthen ?_
        refine xseq ?_
        refine xseq ?_
        refine xregion ?_
        refine xval (qv_loadB 0 ShpC.h rfl rfl rfl rfl) rfl rfl ?_
        obtain ⟨y45, h44, h⟩ := h
        refine xcall0 (tree_Right_con (y37, o1.2) _ h44) Try.func16 (by kernel_rfl) rfl (.cons rfl (.agg (.cons (.tok _ _ _) (.cons (.refl _) .nil))) .nil) rfl rfl ?_
        refine xvalP (pv_not rfl) rfl rfl ?_
        refine xnil ?_
        refine xthen ?_
        by_cases hp46 : ¬ (y45 = true)
        · replace h := h.1 hp46
          refine xcondT' (not_t (b_f hp46)) rfl ?_
          refine xseq ?_
          refine xregion ?_
          refine xvalP (pv_buildC StrC.h rfl rfl) rfl rfl ?_
          refine xstore 1 ShpC.h rfl rfl rfl rfl rfl rfl rfl ?_
          refine xvalP (pv_assign rfl) rfl rfl ?_
          refine xnil ?_
          refine xthen ?_
          refine xretc ?_
          refine xthen_ret ?_
          replace h := h.symm
          subst h
          exact xretL (rs := [.cell 4 24, .tmp 5]) (ss := [.agg [.sl 10 none (List.map E_palinode_api_Node (([] : List (Int × Int × Int × Int × Int × Int × (Arr 4 (UInt64)))))), .v (.int .i64 0)], .v (.bool false)]) hg rfl (by refine RetL.cell 1 ShpC.h rfl rfl rfl (Nat.le_of_ble_eq_true rfl) (.agg (.cons (.nil_pl _) (.cons (.refl _) .nil))) ?_; refine RetL.tmp rfl (.refl _) ?_; exact RetL.nil) (SubM.of (.drop (.drop (.keep rfl rfl (.refl _) (.nil _)))) (.drop (.keep rfl (.nil _)))) ⟨rfl, rfl, rfl⟩
        · replace h := h.2 hp46
          refine xcondF' (not_f (Decidable.of_not_not hp46)) rfl ?_
          refine xskipc ?_
          refine xthen ?_
          refine xseq ?_
          refine xregion ?_
          refine xval (qv_loadB 0 ShpC.h rfl rfl rfl rfl) rfl rfl ?_
          refine xstore 1 ShpC.h rfl rfl rfl rfl rfl rfl rfl ?_
          refine xvalP (pv_assign rfl) rfl rfl ?_
          refine xnil ?_
          refine xthen ?_
          refine xretc ?_
          replace h := h.symm
          subst h
          exact xretL (rs := [.cell 4 24, .tmp 5]) (ss := [.agg [.sl 10 none (List.map E_palinode_api_Node y37), .v (.int .i64 o1.2)], .v (.bool true)]) hg rfl (by refine RetL.cell 1 ShpC.h rfl rfl rfl (Nat.le_of_ble_eq_true rfl) (.agg (.cons (.tok _ _ _) (.cons (.refl _) .nil))) ?_; refine RetL.tmp rfl (.refl _) ?_; exact RetL.nil) (SubM.of (.drop (.drop (.keep rfl rfl (.refl _) (.nil _)))) (.drop (.keep rfl (.nil _)))) ⟨rfl, rfl, rfl⟩
      refine xpcut 2 #[true, true, true, true, true, true, true, true, true, true, true, true, true, false, false] (fun σ => ∃ (i47 : Option (Nat × Nat)), σ = ⟨[(4, .v (.pointer (some ⟨b4, 0, none⟩))), (31, .agg [.sl 10 (some i47) (List.map E_palinode_api_Node y37), .v (.int .i64 o1.2)])], [⟨b4, 24, [.v (.slice none 0 0), .v (.int .i64 0)]⟩, ⟨bx0, 28, [.sl 10 (some ia2) (List.map E_palinode_api_Node o1.1), .v (.int .i64 o1.2)]⟩], [⟨i47, 42, 10, y37.length⟩, ⟨ia2, 42, 10, o1.1.length⟩]⟩) ?_ (fun key48 => ?_)
      · rintro _ ⟨i47, rfl⟩
        refine xpstep (i := 13) (by kernel_rfl) rfl ?_
        refine walloc InfC.h rfl rfl fun b6 => ?_
        exact xpuse key40 ⟨b6, i47, rfl⟩ ⟨(.cons rfl (.refl _) (.cons rfl (.refl _) (.cons rfl (.refl _) (.nil _)))), (SubM.of (.keep rfl rfl (.refl _) (.keep rfl rfl (.refl _) (.keep rfl rfl (.refl _) (.nil _)))) (.keep rfl (.keep rfl (.nil _))))⟩ rfl (by kernel_rfl)
      refine xpcut 3 #[true, true, true, true, true, true, true, false, true, true, true, true, false, true, false] (fun σ => ∃ (b6 : Nat), σ = ⟨[(4, .v (.pointer (some ⟨b4, 0, none⟩))), (6, .v (.pointer (some ⟨b6, 0, none⟩))), (25, .sl 10 none (List.map E_palinode_api_Node ((o1.1.take ((root3 + 1) : Int).toNat)))), (30, .v (.int .i64 o1.2))], [⟨b6, 24, [.v (.slice none 0 0), .v (.int .i64 0)]⟩, ⟨b4, 24, [.v (.slice none 0 0), .v (.int .i64 0)]⟩, ⟨bx0, 28, [.sl 10 (some ia2) (List.map E_palinode_api_Node o1.1), .v (.int .i64 o1.2)]⟩], [⟨ia2, 42, 10, o1.1.length⟩]⟩) ?_ (fun key49 => ?_)
      · rintro _ ⟨b6, rfl⟩
        refine xpstep (i := 7) (by kernel_rfl) rfl ?_
        refine wcallM (slices_Clone_con (o1.1.take ((root3 + 1) : Int).toNat) _ h36) Try.func20 (by kernel_rfl) rfl (.cons rfl (.refl _) .nil) rfl rfl fun i38 => ?_
        refine xpval 12 rfl (pv_buildC StrC.h rfl rfl) rfl rfl (by kernel_rfl) (by kernel_rfl) (by kernel_rfl) (fun _ _ _ _ h => h) ?_
        exact xpuse key40 ⟨b6, i38, rfl⟩ ⟨(.cons rfl (.refl _) (.cons rfl (.refl _) (.cons rfl (.refl _) (.nil _)))), (SubM.of (.keep rfl rfl (.refl _) (.keep rfl rfl (.refl _) (.keep rfl rfl (.refl _) (.nil _)))) (.keep rfl (.keep rfl (.nil _))))⟩ rfl (by kernel_rfl)
      refine xpval 0 rfl (pv_move rfl) rfl rfl (by kernel_rfl) (by kernel_rfl) (by kernel_rfl) (fun _ _ _ _ h => h) ?_
      refine xpval 1 rfl (pv_nilCheck rfl) rfl rfl (by kernel_rfl) (by kernel_rfl) (by kernel_rfl) (fun _ _ _ _ h => h) ?_
      refine xpval 2 rfl (qv_fieldAddrB FldC.h rfl) rfl rfl (by kernel_rfl) (by kernel_rfl) (by kernel_rfl) (fun _ _ _ _ h => h) ?_
      refine xpval 4 rfl (pv_move rfl) rfl rfl (by kernel_rfl) (by kernel_rfl) (by kernel_rfl) (fun _ _ _ _ h => h) ?_
      refine xpval 5 rfl (pv_addI h34 rfl rfl) rfl rfl (by kernel_rfl) (by kernel_rfl) (by kernel_rfl) (fun _ _ _ _ h => h) ?_
      refine xpval 8 rfl (pv_move rfl) rfl rfl (by kernel_rfl) (by kernel_rfl) (by kernel_rfl) (fun _ _ _ _ h => h) ?_
      refine xpval 9 rfl (pv_nilCheck rfl) rfl rfl (by kernel_rfl) (by kernel_rfl) (by kernel_rfl) (fun _ _ _ _ h => h) ?_
      refine xpval 10 rfl (qv_fieldAddrB FldC.h rfl) rfl rfl (by kernel_rfl) (by kernel_rfl) (by kernel_rfl) (fun _ _ _ _ h => h) ?_
      refine xpvalE 3 [11, 13] rfl (qv_loadB 1 ShpC.h rfl rfl rfl rfl) rfl rfl (by kernel_rfl) (by kernel_rfl) (by kernel_rfl) (fun _ _ _ _ h => h) ?_
      refine xpval 6 rfl (pv_sliceHi h35 UndC.h ShpC.h rfl rfl) rfl rfl (by kernel_rfl) (by kernel_rfl) (by kernel_rfl) (fun _ _ _ _ h => h) ?_
      refine xpstepN (is := [7, 11, 13]) (by kernel_rfl) (by simp) ?_
      intro i hi; simp only [List.mem_cons, List.not_mem_nil, or_false] at hi; rcases hi with rfl | rfl | rfl
      · refine ⟨_, rfl, ?_⟩
        refine wcallM (slices_Clone_con (o1.1.take ((root3 + 1) : Int).toNat) _ h36) Try.func20 (by kernel_rfl) rfl (.cons rfl (.refl _) .nil) rfl rfl fun i38 => ?_
        refine xpvalE 11 [13] rfl (qv_loadB 1 ShpC.h rfl rfl rfl rfl) rfl rfl (by kernel_rfl) (by kernel_rfl) (by kernel_rfl) (fun _ _ _ _ h => h) ?_
        refine xpval 12 rfl (pv_buildC StrC.h rfl rfl) rfl rfl (by kernel_rfl) (by kernel_rfl) (by kernel_rfl) (fun _ _ _ _ h => h) ?_
        exact xpuse key48 ⟨i38, rfl⟩ ⟨(.cons rfl (.refl _) (.cons rfl (.refl _) (.nil _))), (SubM.of (.keep rfl rfl (.refl _) (.keep rfl rfl (.refl _) (.nil _))) (.keep rfl (.keep rfl (.nil _))))⟩ rfl (by kernel_rfl)
      · refine ⟨_, rfl, ?_⟩
        refine wval (qv_loadB 1 ShpC.h rfl rfl rfl rfl) rfl rfl ?_
        refine xpstepN (is := [7, 13]) (by kernel_rfl) (by simp) ?_
        intro i hi; simp only [List.mem_cons, List.not_mem_nil, or_false] at hi; rcases hi with rfl | rfl
        · refine ⟨_, rfl, ?_⟩
          refine wcallM (slices_Clone_con (o1.1.take ((root3 + 1) : Int).toNat) _ h36) Try.func20 (by kernel_rfl) rfl (.cons rfl (.refl _) .nil) rfl rfl fun i38 => ?_
          refine xpval 12 rfl (pv_buildC StrC.h rfl rfl) rfl rfl (by kernel_rfl) (by kernel_rfl) (by kernel_rfl) (fun _ _ _ _ h => h) ?_
          exact xpuse key48 ⟨i38, rfl⟩ ⟨(.cons rfl (.refl _) (.cons rfl (.refl _) (.nil _))), (SubM.of (.keep rfl rfl (.refl _) (.keep rfl rfl (.refl _) (.nil _))) (.keep rfl (.keep rfl (.nil _))))⟩ rfl (by kernel_rfl)
        · refine ⟨_, rfl, ?_⟩
          refine walloc InfC.h rfl rfl fun b6 => ?_
          exact xpuse key49 ⟨b6, rfl⟩ ⟨(.cons rfl (.refl _) (.cons rfl (.refl _) (.cons rfl (.refl _) (.cons rfl (.refl _) (.nil _))))), (SubM.of (.keep rfl rfl (.refl _) (.keep rfl rfl (.refl _) (.keep rfl rfl (.refl _) (.nil _)))) (.keep rfl (.nil _)))⟩ rfl (by kernel_rfl)
      · refine ⟨_, rfl, ?_⟩
        refine walloc InfC.h rfl rfl fun b6 => ?_
        refine xpstepN (is := [7, 11]) (by kernel_rfl) (by simp) ?_
        intro i hi; simp only [List.mem_cons, List.not_mem_nil, or_false] at hi; rcases hi with rfl | rfl
        · refine ⟨_, rfl, ?_⟩
          refine wcallM (slices_Clone_con (o1.1.take ((root3 + 1) : Int).toNat) _ h36) Try.func20 (by kernel_rfl) rfl (.cons rfl (.refl _) .nil) rfl rfl fun i38 => ?_
          refine xpvalE 11 [] rfl (qv_loadB 2 ShpC.h rfl rfl rfl rfl) rfl rfl (by kernel_rfl) (by kernel_rfl) (by kernel_rfl) (fun _ _ _ _ h => h) ?_
          refine xpval 12 rfl (pv_buildC StrC.h rfl rfl) rfl rfl (by kernel_rfl) (by kernel_rfl) (by kernel_rfl) (fun _ _ _ _ h => h) ?_
          exact xpuse key40 ⟨b6, i38, rfl⟩ ⟨(.cons rfl (.refl _) (.cons rfl (.refl _) (.cons rfl (.refl _) (.nil _)))), (SubM.of (.keep rfl rfl (.refl _) (.keep rfl rfl (.refl _) (.keep rfl rfl (.refl _) (.nil _)))) (.keep rfl (.keep rfl (.nil _))))⟩ rfl (by kernel_rfl)
        · refine ⟨_, rfl, ?_⟩
          refine wval (qv_loadB 2 ShpC.h rfl rfl rfl rfl) rfl rfl ?_
          exact xpuse key49 ⟨b6, rfl⟩ ⟨(.cons rfl (.refl _) (.cons rfl (.refl _) (.cons rfl (.refl _) (.cons rfl (.refl _) (.nil _))))), (SubM.of (.keep rfl rfl (.refl _) (.keep rfl rfl (.refl _) (.keep rfl rfl (.refl _) (.nil _)))) (.keep rfl (.nil _)))⟩ rfl (by kernel_rfl)
end Go.Proofs.Ytfcdelokijnkoaa
