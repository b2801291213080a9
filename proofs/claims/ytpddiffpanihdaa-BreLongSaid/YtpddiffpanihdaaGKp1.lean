
/- What functions' texts ask for, and the walks that show it (printed by a program). -/
import Derived.Test.YtpddiffpanihdaaFl
import Derived.Test.YtpddiffpanihdaaIdx
namespace Go.Proofs.Ytpddiffpanihdaa
abbrev E_palinode_api_Node (x : Int × Int × Int × Int × Int × Int × (Arr 4 (UInt64))) : List Sd := ([.v (.int .i64 x.1), .v (.int .i64 x.2.1), .v (.int .i64 x.2.2.1), .v (.int .i64 x.2.2.2.1), .v (.int .i64 x.2.2.2.2.1), .v (.int .i64 x.2.2.2.2.2.1)] ++ (List.map ew x.2.2.2.2.2.2.l).flatten)
instance : EncLen E_palinode_api_Node 10 := ⟨fun _ => sl_⟩
abbrev E_palinode_api_Set (x : Arr 4 (UInt64)) : List Sd := ((List.map ew x.l).flatten)
instance : EncLen E_palinode_api_Set 4 := ⟨fun _ => sl_⟩
set_option synthInstance.maxSize 4000 in
instance : DecidableEq (Int × Int × Int × Int × Int × Int × (Arr 4 (UInt64))) := inferInstance
set_option synthInstance.maxSize 4000 in
set_option maxRecDepth 20000 in
theorem eqc_42 : EqC Try.prog 42 E_palinode_api_Node true 3 := ⟨by
 rintro d hd ⟨x0, x1, x2, x3, x4, x5, x6⟩ ⟨y0, y1, y2, y3, y4, y5, y6⟩ R w _ _ ⟨us, rfl, hu, hu1⟩ ⟨vs, rfl, hv, hv1⟩ W
 obtain ⟨d, rfl, hd'⟩ := d_succ hd
 have h7 := eqF_nil (P := Try.prog) d us vs W
 have h6 := eqF_cons (P := Try.prog) (fd := ({ name := "Set", type := 40, offset := 6, embedded := false, tag := "", pkgPath := "", byteOffset := 48 } : Field)) (f := E_palinode_api_Set) (ag := true) (x := x6) (y := y6) hu hu1 hv hv1 (by decide) ShpC.h (eqC_arr (t := 40) (e := 38) (f := ew) UndC.h ShpC.h (by kernel_rfl) inferInstance (fun _ => rfl)) (show 2 ≤ d by omega) (part_midE (pre := [.v (.int .i64 x0), .v (.int .i64 x1), .v (.int .i64 x2), .v (.int .i64 x3), .v (.int .i64 x4), .v (.int .i64 x5)]) (mid := ((List.map ew x6.l).flatten)) (post := []) sq_ sl_ sl_ (part_all sl_)) (part_midE (pre := [.v (.int .i64 y0), .v (.int .i64 y1), .v (.int .i64 y2), .v (.int .i64 y3), .v (.int .i64 y4), .v (.int .i64 y5)]) (mid := ((List.map ew y6.l).flatten)) (post := []) sq_ sl_ sl_ (part_all sl_)) h7
 have h5 := eqF_cons (P := Try.prog) (fd := ({ name := "Group", type := 3, offset := 5, embedded := false, tag := "", pkgPath := "", byteOffset := 40 } : Field)) (f := ei) (ag := false) (x := x5) (y := y5) hu hu1 hv hv1 (by decide) ShpC.h inferInstance (show 1 ≤ d by omega) (part_midE (pre := [.v (.int .i64 x0), .v (.int .i64 x1), .v (.int .i64 x2), .v (.int .i64 x3), .v (.int .i64 x4)]) (mid := [.v (.int .i64 x5)]) (post := ((List.map ew x6.l).flatten)) sq_ sl_ sl_ rfl) (part_midE (pre := [.v (.int .i64 y0), .v (.int .i64 y1), .v (.int .i64 y2), .v (.int .i64 y3), .v (.int .i64 y4)]) (mid := [.v (.int .i64 y5)]) (post := ((List.map ew y6.l).flatten)) sq_ sl_ sl_ rfl) h6
 have h4 := eqF_cons (P := Try.prog) (fd := ({ name := "Hi", type := 3, offset := 4, embedded := false, tag := "", pkgPath := "", byteOffset := 32 } : Field)) (f := ei) (ag := false) (x := x4) (y := y4) hu hu1 hv hv1 (by decide) ShpC.h inferInstance (show 1 ≤ d by omega) (part_midE (pre := [.v (.int .i64 x0), .v (.int .i64 x1), .v (.int .i64 x2), .v (.int .i64 x3)]) (mid := [.v (.int .i64 x4)]) (post := ([.v (.int .i64 x5)] ++ (List.map ew x6.l).flatten)) sq_ sl_ sl_ rfl) (part_midE (pre := [.v (.int .i64 y0), .v (.int .i64 y1), .v (.int .i64 y2), .v (.int .i64 y3)]) (mid := [.v (.int .i64 y4)]) (post := ([.v (.int .i64 y5)] ++ (List.map ew y6.l).flatten)) sq_ sl_ sl_ rfl) h5
 have h3 := eqF_cons (P := Try.prog) (fd := ({ name := "Lo", type := 3, offset := 3, embedded := false, tag := "", pkgPath := "", byteOffset := 24 } : Field)) (f := ei) (ag := false) (x := x3) (y := y3) hu hu1 hv hv1 (by decide) ShpC.h inferInstance (show 1 ≤ d by omega) (part_midE (pre := [.v (.int .i64 x0), .v (.int .i64 x1), .v (.int .i64 x2)]) (mid := [.v (.int .i64 x3)]) (post := ([.v (.int .i64 x4), .v (.int .i64 x5)] ++ (List.map ew x6.l).flatten)) sq_ sl_ sl_ rfl) (part_midE (pre := [.v (.int .i64 y0), .v (.int .i64 y1), .v (.int .i64 y2)]) (mid := [.v (.int .i64 y3)]) (post := ([.v (.int .i64 y4), .v (.int .i64 y5)] ++ (List.map ew y6.l).flatten)) sq_ sl_ sl_ rfl) h4
 have h2 := eqF_cons (P := Try.prog) (fd := ({ name := "B", type := 3, offset := 2, embedded := false, tag := "", pkgPath := "", byteOffset := 16 } : Field)) (f := ei) (ag := false) (x := x2) (y := y2) hu hu1 hv hv1 (by decide) ShpC.h inferInstance (show 1 ≤ d by omega) (part_midE (pre := [.v (.int .i64 x0), .v (.int .i64 x1)]) (mid := [.v (.int .i64 x2)]) (post := ([.v (.int .i64 x3), .v (.int .i64 x4), .v (.int .i64 x5)] ++ (List.map ew x6.l).flatten)) sq_ sl_ sl_ rfl) (part_midE (pre := [.v (.int .i64 y0), .v (.int .i64 y1)]) (mid := [.v (.int .i64 y2)]) (post := ([.v (.int .i64 y3), .v (.int .i64 y4), .v (.int .i64 y5)] ++ (List.map ew y6.l).flatten)) sq_ sl_ sl_ rfl) h3
 have h1 := eqF_cons (P := Try.prog) (fd := ({ name := "A", type := 3, offset := 1, embedded := false, tag := "", pkgPath := "", byteOffset := 8 } : Field)) (f := ei) (ag := false) (x := x1) (y := y1) hu hu1 hv hv1 (by decide) ShpC.h inferInstance (show 1 ≤ d by omega) (part_midE (pre := [.v (.int .i64 x0)]) (mid := [.v (.int .i64 x1)]) (post := ([.v (.int .i64 x2), .v (.int .i64 x3), .v (.int .i64 x4), .v (.int .i64 x5)] ++ (List.map ew x6.l).flatten)) sq_ sl_ sl_ rfl) (part_midE (pre := [.v (.int .i64 y0)]) (mid := [.v (.int .i64 y1)]) (post := ([.v (.int .i64 y2), .v (.int .i64 y3), .v (.int .i64 y4), .v (.int .i64 y5)] ++ (List.map ew y6.l).flatten)) sq_ sl_ sl_ rfl) h2
 have h0 := eqF_cons (P := Try.prog) (fd := ({ name := "Kind", type := 3, offset := 0, embedded := false, tag := "", pkgPath := "", byteOffset := 0 } : Field)) (f := ei) (ag := false) (x := x0) (y := y0) hu hu1 hv hv1 (by decide) ShpC.h inferInstance (show 1 ≤ d by omega) (part_midE (pre := []) (mid := [.v (.int .i64 x0)]) (post := ([.v (.int .i64 x1), .v (.int .i64 x2), .v (.int .i64 x3), .v (.int .i64 x4), .v (.int .i64 x5)] ++ (List.map ew x6.l).flatten)) sq_ sl_ sl_ rfl) (part_midE (pre := []) (mid := [.v (.int .i64 y0)]) (post := ([.v (.int .i64 y1), .v (.int .i64 y2), .v (.int .i64 y3), .v (.int .i64 y4), .v (.int .i64 y5)] ++ (List.map ew y6.l).flatten)) sq_ sl_ sl_ rfl) h1
 have hf : (Try.prog.fieldsOf 42).toList = [({ name := "Kind", type := 3, offset := 0, embedded := false, tag := "", pkgPath := "", byteOffset := 0 } : Field), ({ name := "A", type := 3, offset := 1, embedded := false, tag := "", pkgPath := "", byteOffset := 8 } : Field), ({ name := "B", type := 3, offset := 2, embedded := false, tag := "", pkgPath := "", byteOffset := 16 } : Field), ({ name := "Lo", type := 3, offset := 3, embedded := false, tag := "", pkgPath := "", byteOffset := 24 } : Field), ({ name := "Hi", type := 3, offset := 4, embedded := false, tag := "", pkgPath := "", byteOffset := 32 } : Field), ({ name := "Group", type := 3, offset := 5, embedded := false, tag := "", pkgPath := "", byteOffset := 40 } : Field), ({ name := "Set", type := 40, offset := 6, embedded := false, tag := "", pkgPath := "", byteOffset := 48 } : Field)] := by kernel_rfl
 rw [← hf] at h0
 refine ((run_equalIn_struct W d 42 us vs (by kernel_rfl) (by kernel_rfl)).trans h0).trans ?_
 congr 1; rw [Bool.eq_iff_iff]; simp only [Bool.and_true, Bool.and_eq_true, decide_eq_true_eq, Prod.mk.injEq]⟩
def PC_palinode_bre_wrong : List (Int × Int) → List Sd
 | [] => []
 | x :: _ => [.v (.int .i64 x.1), .v (.int .i64 x.2)]
/-- (*bre.parser).has -/
def bre_parser_has_R (o1 : ((List (Int × Int × Int × Int × Int × Int × (Arr 4 (UInt64)))) × Int) × (List UInt8) × Int × (Arr 10 (Bool))) (sv3 : ByteArray) (r : Bool) : Prop :=
 InR ((o1.2.1.length : Int) - o1.2.2.1) ∧ (((sv3.size : Int) ≤ ((o1.2.1.length : Int) - o1.2.2.1) → InR (o1.2.2.1 + (sv3.size : Int)) ∧ (0 ≤ (o1.2.2.1 : Int) ∧ (o1.2.2.1 : Int) ≤ ((o1.2.2.1 + (sv3.size : Int)) : Int) ∧ ((o1.2.2.1 + (sv3.size : Int)) : Int) ≤ (o1.2.1.length : Int)) ∧ r = (((⟨(((o1.2.1.take ((o1.2.2.1 + (sv3.size : Int)) : Int).toNat).drop (o1.2.2.1 : Int).toNat)).toArray⟩ : ByteArray)).toList == sv3.toList)) ∧ (¬ ((sv3.size : Int) ≤ ((o1.2.1.length : Int) - o1.2.2.1)) → r = false))
def bre_parser_has_ev (fuel : Nat) (o1 : ((List (Int × Int × Int × Int × Int × Int × (Arr 4 (UInt64)))) × Int) × (List UInt8) × Int × (Arr 10 (Bool))) (sv3 : ByteArray) : Option (Bool) :=
 (if InR ((o1.2.1.length : Int) - o1.2.2.1) then (if (sv3.size : Int) ≤ ((o1.2.1.length : Int) - o1.2.2.1) then (if InR (o1.2.2.1 + (sv3.size : Int)) then (if (0 ≤ (o1.2.2.1 : Int) ∧ (o1.2.2.1 : Int) ≤ ((o1.2.2.1 + (sv3.size : Int)) : Int) ∧ ((o1.2.2.1 + (sv3.size : Int)) : Int) ≤ (o1.2.1.length : Int)) then some (((⟨(((o1.2.1.take ((o1.2.2.1 + (sv3.size : Int)) : Int).toNat).drop (o1.2.2.1 : Int).toNat)).toArray⟩ : ByteArray)).toList == sv3.toList) else none) else none) else some false) else none)
theorem bre_parser_has_ok {fuel : Nat} {o1 : ((List (Int × Int × Int × Int × Int × Int × (Arr 4 (UInt64)))) × Int) × (List UInt8) × Int × (Arr 10 (Bool))} {sv3 : ByteArray} {r : Bool} (h : bre_parser_has_ev fuel o1 sv3 = some r) : bre_parser_has_R o1 sv3 r := by
 unfold bre_parser_has_ev at h
 unfold bre_parser_has_R
 obtain ⟨g1, h⟩ := if_ok h
 refine ⟨g1, ?_⟩
 refine ⟨fun g2 => ?_, fun g2 => ?_⟩
 ·rw [if_pos g2] at h
  obtain ⟨g3, h⟩ := if_ok h
  refine ⟨g3, ?_⟩
  obtain ⟨g4, h⟩ := if_ok h
  refine ⟨g4, ?_⟩
  exact (Option.some.inj h).symm
 ·rw [if_neg g2] at h
  exact (Option.some.inj h).symm
set_option maxHeartbeats 4000000 in
theorem bre_parser_has_con (o1 : ((List (Int × Int × Int × Int × Int × Int × (Arr 4 (UInt64)))) × Int) × (List UInt8) × Int × (Arr 10 (Bool))) (sv3 : ByteArray) (bx0 : Nat) (ia2 : Option (Nat × Nat)) (r : Bool) (h : bre_parser_has_R o1 sv3 r) : Con Try.prog 20 [.v (.pointer (some ⟨bx0, 0, none⟩)), .v (.string sv3)] [⟨bx0, 50, ([.sl 10 (some ia2) (List.map E_palinode_api_Node o1.1.1), .v (.int .i64 o1.1.2), .sl 1 none (List.map eb o1.2.1), .v (.int .i64 o1.2.2.1)] ++ (List.map eB o1.2.2.2.l).flatten)⟩] [⟨ia2, 42, 10, o1.1.1.length⟩] (fun rr bx tk => rr = .v (.bool r) ∧ bx = [⟨bx0, 50, ([.sl 10 (some ia2) (List.map E_palinode_api_Node o1.1.1), .v (.int .i64 o1.1.2), .sl 1 none (List.map eb o1.2.1), .v (.int .i64 o1.2.2.1)] ++ (List.map eB o1.2.2.2.l).flatten)⟩] ∧ tk = [⟨ia2, 42, 10, o1.1.1.length⟩]) := by
 refine xenter Try.func20 rfl rfl fun g hg => ?_
 simp only [Try.ntmps20, slots]
 refine sr_ ?_
 refine as_ ?_
 refine nt_ ?_
 refine xseq ?_
 refine xregionD (m := 35) (by kernel_rfl) rfl ?_
 obtain ⟨h15, h⟩ := h
 refine pl_ 0 rfl (pv_move rfl) ?_
 refine pl_ 1 rfl (pv_nilCheck rfl) ?_
 refine pl_ 2 rfl (qv_fieldAddrB FldC.h rfl) ?_
 refine pl_ 5 rfl (pv_move rfl) ?_
 refine pl_ 6 rfl (pv_nilCheck rfl) ?_
 refine pl_ 7 rfl (qv_fieldAddrB FldC.h rfl) ?_
 refine pl_ 10 rfl (pv_move rfl) ?_
 refine pl_ 11 rfl (pv_lenS UndC.h rfl) ?_
 refine xpvalE 3 [8] rfl (qv_loadB 0 ShpC.h rfl rfl rfl rfl) rfl rfl (by kernel_rfl) (by kernel_rfl) (by kernel_rfl) (fun _ _ _ _ h => h) ?_
 refine pl_ 4 rfl (pv_lenM UndC.h rfl) ?_
 refine xpvalE 8 [] rfl (qv_loadB 0 ShpC.h rfl rfl rfl rfl) rfl rfl (by kernel_rfl) (by kernel_rfl) (by kernel_rfl) (fun _ _ _ _ h => h) ?_
 refine pl_ 9 rfl (pv_subI h15 rfl rfl) ?_
 refine pl_ 12 rfl (pv_bin2 rfl rfl rfl) ?_
 refine pl_ 13 rfl (pv_move rfl) ?_
 by_cases hp18 : (sv3.size : Int) ≤ ((o1.2.1.length : Int) - o1.2.2.1)
 ·replace h := h.1 hp18
  refine psetB 18 (decide_eq_true hp18) rfl ?_
  obtain ⟨h20, h⟩ := h
  obtain ⟨h21, h⟩ := h
  refine pl_ 14 rfl (pv_move rfl) ?_
  refine pl_ 15 rfl (pv_nilCheck rfl) ?_
  refine pl_ 16 rfl (qv_fieldAddrB FldC.h rfl) ?_
  refine pl_ 18 rfl (pv_move rfl) ?_
  refine pl_ 19 rfl (pv_nilCheck rfl) ?_
  refine pl_ 20 rfl (qv_fieldAddrB FldC.h rfl) ?_
  refine pl_ 22 rfl (pv_move rfl) ?_
  refine pl_ 23 rfl (pv_nilCheck rfl) ?_
  refine pl_ 24 rfl (qv_fieldAddrB FldC.h rfl) ?_
  refine pl_ 26 rfl (pv_move rfl) ?_
  refine pl_ 27 rfl (pv_lenS UndC.h rfl) ?_
  refine pl_ 31 rfl (pv_move rfl) ?_
  refine xpvalE 25 [17, 21] rfl (qv_loadB 0 ShpC.h rfl rfl rfl rfl) rfl rfl (by kernel_rfl) (by kernel_rfl) (by kernel_rfl) (fun _ _ _ _ h => h) ?_
  refine pl_ 28 rfl (pv_addI h20 rfl rfl) ?_
  refine xpvalE 17 [21] rfl (qv_loadB 0 ShpC.h rfl rfl rfl rfl) rfl rfl (by kernel_rfl) (by kernel_rfl) (by kernel_rfl) (fun _ _ _ _ h => h) ?_
  refine xpvalE 21 [] rfl (qv_loadB 0 ShpC.h rfl rfl rfl rfl) rfl rfl (by kernel_rfl) (by kernel_rfl) (by kernel_rfl) (fun _ _ _ _ h => h) ?_
  refine pl_ 29 rfl (pv_sliceLH h21 UndC.h ShpC.h rfl rfl rfl) ?_
  refine xpstep (i := 30) (by kernel_rfl) rfl ?_
  refine wv_ (pv_str (bs := ((o1.2.1.take ((o1.2.2.1 + (sv3.size : Int)) : Int).toNat).drop (o1.2.2.1 : Int).toNat)) UndC.h UndC.h UndC.h rfl rfl rfl (fun _ h => by injection h with h; exact h.symm)) ?_
  refine pl_ 32 rfl (pv_bin2 rfl rfl rfl) ?_
  refine pl_ 33 rfl (pv_pick rfl rfl) ?_
  refine pl_ 34 rfl (pv_assign rfl) ?_
  refine xpdone (by kernel_rfl) ?_
  refine xthen ?_
  refine xretc ?_
  replace h := h.symm
  subst h
  exact xret1 hg rfl rfl (.refl _) (SubM.of (.keep rfl rfl (.refl _) (.nil _)) (.keep rfl (.nil _))) ⟨rfl, rfl, rfl⟩
 ·replace h := h.2 hp18
  refine psetB 18 (decide_eq_false hp18) rfl ?_
  refine xpskip 14 rfl rfl rfl (by kernel_rfl) (by kernel_rfl) (by kernel_rfl) (fun _ _ _ _ h => h) ?_
  refine xpskip 15 rfl rfl rfl (by kernel_rfl) (by kernel_rfl) (by kernel_rfl) (fun _ _ _ _ h => h) ?_
  refine xpskip 16 rfl rfl rfl (by kernel_rfl) (by kernel_rfl) (by kernel_rfl) (fun _ _ _ _ h => h) ?_
  refine xpskip 17 rfl rfl rfl (by kernel_rfl) (by kernel_rfl) (by kernel_rfl) (fun _ _ _ _ h => h) ?_
  refine xpskip 18 rfl rfl rfl (by kernel_rfl) (by kernel_rfl) (by kernel_rfl) (fun _ _ _ _ h => h) ?_
  refine xpskip 19 rfl rfl rfl (by kernel_rfl) (by kernel_rfl) (by kernel_rfl) (fun _ _ _ _ h => h) ?_
  refine xpskip 20 rfl rfl rfl (by kernel_rfl) (by kernel_rfl) (by kernel_rfl) (fun _ _ _ _ h => h) ?_
  refine xpskip 21 rfl rfl rfl (by kernel_rfl) (by kernel_rfl) (by kernel_rfl) (fun _ _ _ _ h => h) ?_
  refine xpskip 22 rfl rfl rfl (by kernel_rfl) (by kernel_rfl) (by kernel_rfl) (fun _ _ _ _ h => h) ?_
  refine xpskip 23 rfl rfl rfl (by kernel_rfl) (by kernel_rfl) (by kernel_rfl) (fun _ _ _ _ h => h) ?_
  refine xpskip 24 rfl rfl rfl (by kernel_rfl) (by kernel_rfl) (by kernel_rfl) (fun _ _ _ _ h => h) ?_
  refine xpskip 25 rfl rfl rfl (by kernel_rfl) (by kernel_rfl) (by kernel_rfl) (fun _ _ _ _ h => h) ?_
  refine xpskip 26 rfl rfl rfl (by kernel_rfl) (by kernel_rfl) (by kernel_rfl) (fun _ _ _ _ h => h) ?_
  refine xpskip 27 rfl rfl rfl (by kernel_rfl) (by kernel_rfl) (by kernel_rfl) (fun _ _ _ _ h => h) ?_
  refine xpskip 28 rfl rfl rfl (by kernel_rfl) (by kernel_rfl) (by kernel_rfl) (fun _ _ _ _ h => h) ?_
  refine xpskip 29 rfl rfl rfl (by kernel_rfl) (by kernel_rfl) (by kernel_rfl) (fun _ _ _ _ h => h) ?_
  refine xpskip 30 rfl rfl rfl (by kernel_rfl) (by kernel_rfl) (by kernel_rfl) (fun _ _ _ _ h => h) ?_
  refine xpskip 31 rfl rfl rfl (by kernel_rfl) (by kernel_rfl) (by kernel_rfl) (fun _ _ _ _ h => h) ?_
  refine xpskip 32 rfl rfl rfl (by kernel_rfl) (by kernel_rfl) (by kernel_rfl) (fun _ _ _ _ h => h) ?_
  refine pl_ 33 rfl (pv_pick rfl rfl) ?_
  refine pl_ 34 rfl (pv_assign rfl) ?_
  refine xpdone (by kernel_rfl) ?_
  refine xthen ?_
  refine xretc ?_
  replace h := h.symm
  subst h
  exact xret1 hg rfl rfl (.refl _) (SubM.of (.keep rfl rfl (.refl _) (.nil _)) (.keep rfl (.nil _))) ⟨rfl, rfl, rfl⟩
/-- tree.plain -/
def tree_plain_j1 (nv1 : Int × Int × Int × Int × Int × Int × (Arr 4 (UInt64))) (f19 : Int) (f20 : Int) (f21 : Int) (f22 : Int) (f23 : Int) (f24 : Arr 4 (UInt64)) (r : (Int × Int × Int × Int × Int × Int × (Arr 4 (UInt64)))) : Prop :=
 r = (nv1.1, f19, f20, f21, f22, f23, f24)
def tree_plain_j2 (nv1 : Int × Int × Int × Int × Int × Int × (Arr 4 (UInt64))) (x30 : Bool) (r : (Int × Int × Int × Int × Int × Int × (Arr 4 (UInt64)))) : Prop :=
 ((x30 = true → tree_plain_j1 nv1 nv1.2.1 nv1.2.2.1 0 0 0 (Arr.rep 4 (0 : UInt64)) r) ∧ (¬ (x30 = true) → ((nv1.1 = 4 → tree_plain_j1 nv1 nv1.2.1 0 nv1.2.2.2.1 nv1.2.2.2.2.1 0 (Arr.rep 4 (0 : UInt64)) r) ∧ (¬ (nv1.1 = 4) → ((nv1.1 = 5 → tree_plain_j1 nv1 nv1.2.1 0 0 0 nv1.2.2.2.2.2.1 (Arr.rep 4 (0 : UInt64)) r) ∧ (¬ (nv1.1 = 5) → ((nv1.1 = 6 → tree_plain_j1 nv1 0 0 0 0 nv1.2.2.2.2.2.1 (Arr.rep 4 (0 : UInt64)) r) ∧ (¬ (nv1.1 = 6) → tree_plain_j1 nv1 0 0 0 0 0 (Arr.rep 4 (0 : UInt64)) r))))))))
def tree_plain_R (nv1 : Int × Int × Int × Int × Int × Int × (Arr 4 (UInt64))) (r : (Int × Int × Int × Int × Int × Int × (Arr 4 (UInt64)))) : Prop :=
 ((nv1.1 = 1 → tree_plain_j1 nv1 0 0 0 0 0 nv1.2.2.2.2.2.2 r) ∧ (¬ (nv1.1 = 1) → ((nv1.1 = 2 → tree_plain_j2 nv1 (decide (nv1.1 = 2)) r) ∧ (¬ (nv1.1 = 2) → tree_plain_j2 nv1 (decide (nv1.1 = 3)) r))))
def tree_plain_j1_ev (fuel : Nat) (nv1 : Int × Int × Int × Int × Int × Int × (Arr 4 (UInt64))) (f19 : Int) (f20 : Int) (f21 : Int) (f22 : Int) (f23 : Int) (f24 : Arr 4 (UInt64)) : Option ((Int × Int × Int × Int × Int × Int × (Arr 4 (UInt64)))) :=
 some (nv1.1, f19, f20, f21, f22, f23, f24)
theorem tree_plain_j1_ok {fuel : Nat} {nv1 : Int × Int × Int × Int × Int × Int × (Arr 4 (UInt64))} {f19 : Int} {f20 : Int} {f21 : Int} {f22 : Int} {f23 : Int} {f24 : Arr 4 (UInt64)} {r : (Int × Int × Int × Int × Int × Int × (Arr 4 (UInt64)))} (h : tree_plain_j1_ev fuel nv1 f19 f20 f21 f22 f23 f24 = some r) : tree_plain_j1 nv1 f19 f20 f21 f22 f23 f24 r := by
 unfold tree_plain_j1_ev at h
 unfold tree_plain_j1
 exact (Option.some.inj h).symm
def tree_plain_j2_ev (fuel : Nat) (nv1 : Int × Int × Int × Int × Int × Int × (Arr 4 (UInt64))) (x30 : Bool) : Option ((Int × Int × Int × Int × Int × Int × (Arr 4 (UInt64)))) :=
 (if x30 = true then tree_plain_j1_ev fuel nv1 nv1.2.1 nv1.2.2.1 0 0 0 (Arr.rep 4 (0 : UInt64)) else (if nv1.1 = 4 then tree_plain_j1_ev fuel nv1 nv1.2.1 0 nv1.2.2.2.1 nv1.2.2.2.2.1 0 (Arr.rep 4 (0 : UInt64)) else (if nv1.1 = 5 then tree_plain_j1_ev fuel nv1 nv1.2.1 0 0 0 nv1.2.2.2.2.2.1 (Arr.rep 4 (0 : UInt64)) else (if nv1.1 = 6 then tree_plain_j1_ev fuel nv1 0 0 0 0 nv1.2.2.2.2.2.1 (Arr.rep 4 (0 : UInt64)) else tree_plain_j1_ev fuel nv1 0 0 0 0 0 (Arr.rep 4 (0 : UInt64))))))
theorem tree_plain_j2_ok {fuel : Nat} {nv1 : Int × Int × Int × Int × Int × Int × (Arr 4 (UInt64))} {x30 : Bool} {r : (Int × Int × Int × Int × Int × Int × (Arr 4 (UInt64)))} (h : tree_plain_j2_ev fuel nv1 x30 = some r) : tree_plain_j2 nv1 x30 r := by
 unfold tree_plain_j2_ev at h
 unfold tree_plain_j2
 refine ⟨fun g5 => ?_, fun g5 => ?_⟩
 ·rw [if_pos g5] at h
  exact tree_plain_j1_ok h
 ·rw [if_neg g5] at h
  refine ⟨fun g6 => ?_, fun g6 => ?_⟩
  ·rw [if_pos g6] at h
   exact tree_plain_j1_ok h
  ·rw [if_neg g6] at h
   refine ⟨fun g7 => ?_, fun g7 => ?_⟩
   ·rw [if_pos g7] at h
    exact tree_plain_j1_ok h
   ·rw [if_neg g7] at h
    refine ⟨fun g8 => ?_, fun g8 => ?_⟩
    ·rw [if_pos g8] at h
     exact tree_plain_j1_ok h
    ·rw [if_neg g8] at h
     exact tree_plain_j1_ok h
def tree_plain_ev (fuel : Nat) (nv1 : Int × Int × Int × Int × Int × Int × (Arr 4 (UInt64))) : Option ((Int × Int × Int × Int × Int × Int × (Arr 4 (UInt64)))) :=
 (if nv1.1 = 1 then tree_plain_j1_ev fuel nv1 0 0 0 0 0 nv1.2.2.2.2.2.2 else (if nv1.1 = 2 then tree_plain_j2_ev fuel nv1 (decide (nv1.1 = 2)) else tree_plain_j2_ev fuel nv1 (decide (nv1.1 = 3))))
theorem tree_plain_ok {fuel : Nat} {nv1 : Int × Int × Int × Int × Int × Int × (Arr 4 (UInt64))} {r : (Int × Int × Int × Int × Int × Int × (Arr 4 (UInt64)))} (h : tree_plain_ev fuel nv1 = some r) : tree_plain_R nv1 r := by
 unfold tree_plain_ev at h
 unfold tree_plain_R
 refine ⟨fun g9 => ?_, fun g9 => ?_⟩
 ·rw [if_pos g9] at h
  exact tree_plain_j1_ok h
 ·rw [if_neg g9] at h
  refine ⟨fun g10 => ?_, fun g10 => ?_⟩
  ·rw [if_pos g10] at h
   exact tree_plain_j2_ok h
  ·rw [if_neg g10] at h
   exact tree_plain_j2_ok h
set_option maxHeartbeats 4000000 in
theorem tree_plain_con (nv1 : Int × Int × Int × Int × Int × Int × (Arr 4 (UInt64))) (r : (Int × Int × Int × Int × Int × Int × (Arr 4 (UInt64)))) (h : tree_plain_R nv1 r) : Con Try.prog 54 [.agg ([.v (.int .i64 nv1.1), .v (.int .i64 nv1.2.1), .v (.int .i64 nv1.2.2.1), .v (.int .i64 nv1.2.2.2.1), .v (.int .i64 nv1.2.2.2.2.1), .v (.int .i64 nv1.2.2.2.2.2.1)] ++ (List.map ew nv1.2.2.2.2.2.2.l).flatten)] [] [] (Ret (.agg ([.v (.int .i64 r.1), .v (.int .i64 r.2.1), .v (.int .i64 r.2.2.1), .v (.int .i64 r.2.2.2.1), .v (.int .i64 r.2.2.2.2.1), .v (.int .i64 r.2.2.2.2.2.1)] ++ (List.map ew r.2.2.2.2.2.2.l).flatten))) := by
 refine xenter Try.func54 rfl rfl fun g hg => ?_
 simp only [Try.ntmps54, slots]
 refine sr_ ?_
 refine xbox rfl rfl rfl rfl fun b1 => ?_
 refine xalloc InfC.h rfl rfl fun b2 => ?_
 refine xreb 0 ([.v (.int .i64 0), .v (.int .i64 0), .v (.int .i64 0), .v (.int .i64 0), .v (.int .i64 0), .v (.int .i64 0)] ++ (List.map ew ((Arr.rep 4 (0 : UInt64))).l).flatten) rfl rfl ?_
 refine nt_ ?_
 refine sr_ ?_
 refine vp_ (qv_fieldAddrB FldC.h rfl) ?_
 refine v_ (qv_loadB 1 ShpC.h rfl rfl rfl rfl) ?_
 refine vp_ (pv_buildC (cs := ([.v (.int .i64 nv1.1), .v (.int .i64 0), .v (.int .i64 0), .v (.int .i64 0), .v (.int .i64 0), .v (.int .i64 0)] ++ (List.map ew ((Arr.rep 4 (0 : UInt64))).l).flatten)) StrC.h rfl (by refine fill_step [] [.v (.int .i64 0)] ([.v (.int .i64 0), .v (.int .i64 0), .v (.int .i64 0), .v (.int .i64 0), .v (.int .i64 0)] ++ (List.map ew ((Arr.rep 4 (0 : UInt64))).l).flatten) sq_ sl_ sl_ sl_ rfl rfl ?_; exact congrArg some sq_)) ?_
 refine xalloc InfC.h rfl rfl fun b3 => ?_
 refine xreb 0 ([.v (.int .i64 0), .v (.int .i64 0), .v (.int .i64 0), .v (.int .i64 0), .v (.int .i64 0), .v (.int .i64 0)] ++ (List.map ew ((Arr.rep 4 (0 : UInt64))).l).flatten) rfl rfl ?_
 refine xstoreQ 0 [] ([.v (.int .i64 0), .v (.int .i64 0), .v (.int .i64 0), .v (.int .i64 0), .v (.int .i64 0), .v (.int .i64 0)] ++ (List.map ew ((Arr.rep 4 (0 : UInt64))).l).flatten) [] ([.v (.int .i64 nv1.1), .v (.int .i64 0), .v (.int .i64 0), .v (.int .i64 0), .v (.int .i64 0), .v (.int .i64 0)] ++ (List.map ew ((Arr.rep 4 (0 : UInt64))).l).flatten) ShpC.h rfl rfl rfl rfl rfl ?_
 refine nt_ ?_
 refine xseqM (fun σ => ∃ (f19 : Int), ∃ (f20 : Int), ∃ (f21 : Int), ∃ (f22 : Int), ∃ (f23 : Int), ∃ (f24 : Arr 4 (UInt64)), tree_plain_j1 nv1 f19 f20 f21 f22 f23 f24 r ∧ σ = ⟨[(2, .v (.pointer (some ⟨b2, 0, none⟩))), (3, .v (.pointer (some ⟨b3, 0, none⟩)))], [⟨b3, 42, ([.v (.int .i64 nv1.1), .v (.int .i64 f19), .v (.int .i64 f20), .v (.int .i64 f21), .v (.int .i64 f22), .v (.int .i64 f23)] ++ (List.map ew f24.l).flatten)⟩, ⟨b2, 42, ([.v (.int .i64 0), .v (.int .i64 0), .v (.int .i64 0), .v (.int .i64 0), .v (.int .i64 0), .v (.int .i64 0)] ++ (List.map ew ((Arr.rep 4 (0 : UInt64))).l).flatten)⟩], []⟩) ?_ ?_
 ·refine xseq ?_
  refine xregion ?_
  refine vp_ (qv_fieldAddrB FldC.h rfl) ?_
  refine v_ (qv_loadB 2 ShpC.h rfl rfl rfl rfl) ?_
  refine nt_ ?_
  refine xblock ?_
  refine sr_ ?_
  refine vp_ (pv_bin2 rfl rfl rfl) ?_
  refine as_ ?_
  refine nt_ ?_
  by_cases hp26 : nv1.1 = 1
  ·replace h := h.1 hp26
   refine xcondT' (decide_eq_true hp26) rfl ?_
   refine xregion ?_
   refine vp_ (qv_fieldAddrB FldC.h rfl) ?_
   refine v_ (qv_loadP 2 [.v (.int .i64 nv1.1), .v (.int .i64 nv1.2.1), .v (.int .i64 nv1.2.2.1), .v (.int .i64 nv1.2.2.2.1), .v (.int .i64 nv1.2.2.2.2.1), .v (.int .i64 nv1.2.2.2.2.2.1)] ((List.map ew nv1.2.2.2.2.2.2.l).flatten) [] sq_ sl_ sl_ (part_all (seg_lenE (by rfl))) ShpC.h rfl rfl) ?_
   refine vp_ (qv_fieldAddrB FldC.h rfl) ?_
   refine xstoreQ 0 [.v (.int .i64 nv1.1), .v (.int .i64 0), .v (.int .i64 0), .v (.int .i64 0), .v (.int .i64 0), .v (.int .i64 0)] ((List.map ew ((Arr.rep 4 (0 : UInt64))).l).flatten) [] ([.v (.int .i64 nv1.1), .v (.int .i64 0), .v (.int .i64 0), .v (.int .i64 0), .v (.int .i64 0), .v (.int .i64 0)] ++ (List.map ew nv1.2.2.2.2.2.2.l).flatten) ShpC.h rfl rfl rfl rfl rfl ?_
   refine xnil ?_
   refine xin_normal ?_
   exact xmeet ⟨0, 0, 0, 0, 0, nv1.2.2.2.2.2.2, h, rfl⟩ ⟨lk_, (SubM.of (.keep rfl rfl (.refl _) (.keep rfl rfl (.refl _) (.nil _))) (.nil _))⟩
  ·replace h := h.2 hp26
   refine xcondF' (decide_eq_false hp26) rfl ?_
   refine xseqM (fun σ => ∃ (x30 : Bool), tree_plain_j2 nv1 x30 r ∧ σ = ⟨[(1, .v (.pointer (some ⟨b1, 0, none⟩))), (2, .v (.pointer (some ⟨b2, 0, none⟩))), (3, .v (.pointer (some ⟨b3, 0, none⟩))), (8, .v (.int .i64 nv1.1)), (14, .v (.bool x30))], [⟨b3, 42, ([.v (.int .i64 nv1.1), .v (.int .i64 0), .v (.int .i64 0), .v (.int .i64 0), .v (.int .i64 0), .v (.int .i64 0)] ++ (List.map ew ((Arr.rep 4 (0 : UInt64))).l).flatten)⟩, ⟨b2, 42, ([.v (.int .i64 0), .v (.int .i64 0), .v (.int .i64 0), .v (.int .i64 0), .v (.int .i64 0), .v (.int .i64 0)] ++ (List.map ew ((Arr.rep 4 (0 : UInt64))).l).flatten)⟩, ⟨b1, 42, ([.v (.int .i64 nv1.1), .v (.int .i64 nv1.2.1), .v (.int .i64 nv1.2.2.1), .v (.int .i64 nv1.2.2.2.1), .v (.int .i64 nv1.2.2.2.2.1), .v (.int .i64 nv1.2.2.2.2.2.1)] ++ (List.map ew nv1.2.2.2.2.2.2.l).flatten)⟩], []⟩) ?_ ?_
   ·refine xseq ?_
    refine xregion ?_
    refine vp_ (pv_bin2 rfl rfl rfl) ?_
    refine as_ ?_
    refine nt_ ?_
    by_cases hp32 : nv1.1 = 2
    ·replace h := h.1 hp32
     refine xcondT' (decide_eq_true hp32) rfl ?_
     refine xskipc ?_
     exact xmeet ⟨(decide (nv1.1 = 2)), h, rfl⟩ ⟨lk_, (SubM.of (.keep rfl rfl (.refl _) (.keep rfl rfl (.refl _) (.keep rfl rfl (.refl _) (.nil _)))) (.nil _))⟩
    ·replace h := h.2 hp32
     refine xcondF' (decide_eq_false hp32) rfl ?_
     refine xregion ?_
     refine vp_ (pv_bin2 rfl rfl rfl) ?_
     refine as_ ?_
     refine xnil ?_
     exact xmeet ⟨(decide (nv1.1 = 3)), h, rfl⟩ ⟨lk_, (SubM.of (.keep rfl rfl (.refl _) (.keep rfl rfl (.refl _) (.keep rfl rfl (.refl _) (.nil _)))) (.nil _))⟩
   ·clear h
    rintro _ ⟨x30, h, rfl⟩
    by_cases hp34 : x30 = true
    ·replace h := h.1 hp34
     refine xcondT' hp34 rfl ?_
     refine xregionD (m := 8) (by kernel_rfl) rfl ?_
     refine pl_ 0 rfl (qv_fieldAddrB FldC.h rfl) ?_
     refine pl_ 2 rfl (qv_fieldAddrB FldC.h rfl) ?_
     refine xpvalE 1 [3] rfl (qv_loadB 2 ShpC.h rfl rfl rfl rfl) rfl rfl (by kernel_rfl) (by kernel_rfl) (by kernel_rfl) (fun _ _ _ _ h => h) ?_
     refine pl_ 4 rfl (qv_fieldAddrB FldC.h rfl) ?_
     refine xfl0 [⟨3, 20, .v (.int .i64 nv1.2.2.1)⟩] 3 ?_
     refine xflstep 5 (by kernel_rfl) rfl (.cons rfl rfl rfl (fun _ => rfl) (fun _ => qv_loadB 2 ShpC.h rfl rfl rfl rfl) .nil) fun D l td hR => ?_
     refine wstore 0 ShpC.h rfl rfl rfl rfl rfl rfl rfl ?_
     refine xflgo0 hR ?_
     refine xflend (l' := #[true, true, true, true, true, true, false, false]) (by kernel_rfl) (.cons rfl rfl rfl (fun _ => rfl) (fun _ => qv_loadB 2 ShpC.h rfl rfl rfl rfl) .nil) (by kernel_rfl) rfl (by kernel_rfl) (by kernel_rfl) ?_
     simp only [List.nil_append, List.cons_append, List.map_cons, List.map_nil]
     refine pl_ 6 rfl (qv_fieldAddrB FldC.h rfl) ?_
     refine xpstep (i := 7) (by kernel_rfl) rfl ?_
     refine wstore 0 ShpC.h rfl rfl rfl rfl rfl rfl rfl ?_
     refine xpdone (by kernel_rfl) ?_
     refine xin_normal ?_
     exact xmeet ⟨nv1.2.1, nv1.2.2.1, 0, 0, 0, (Arr.rep 4 (0 : UInt64)), h, rfl⟩ ⟨lk_, (SubM.of (.keep rfl rfl (.refl _) (.keep rfl rfl (.refl _) (.nil _))) (.nil _))⟩
    ·replace h := h.2 hp34
     refine xcondF' (b_f hp34) rfl ?_
     refine sr_ ?_
     refine vp_ (pv_bin2 rfl rfl rfl) ?_
     refine as_ ?_
     refine nt_ ?_
     by_cases hp36 : nv1.1 = 4
     ·replace h := h.1 hp36
      refine xcondT' (decide_eq_true hp36) rfl ?_
      refine xregionD (m := 12) (by kernel_rfl) rfl ?_
      refine xpcut 1 #[true, true, true, true, true, true, true, true, true, true, true, false] (fun σ => σ = ⟨[(2, .v (.pointer (some ⟨b2, 0, none⟩))), (3, .v (.pointer (some ⟨b3, 0, none⟩))), (30, .v (.int .i64 nv1.2.2.2.2.1)), (33, .v (.pointer (some ⟨b3, 4, none⟩)))], [⟨b3, 42, ([.v (.int .i64 nv1.1), .v (.int .i64 nv1.2.1), .v (.int .i64 0), .v (.int .i64 nv1.2.2.2.1), .v (.int .i64 0), .v (.int .i64 0)] ++ (List.map ew ((Arr.rep 4 (0 : UInt64))).l).flatten)⟩, ⟨b2, 42, ([.v (.int .i64 0), .v (.int .i64 0), .v (.int .i64 0), .v (.int .i64 0), .v (.int .i64 0), .v (.int .i64 0)] ++ (List.map ew ((Arr.rep 4 (0 : UInt64))).l).flatten)⟩], []⟩) ?_ (fun key37 => ?_)
      ·rintro _ rfl
       refine xpstep (i := 11) (by kernel_rfl) rfl ?_
       refine wstore 0 ShpC.h rfl rfl rfl rfl rfl rfl rfl ?_
       refine xpdone (by kernel_rfl) ?_
       refine xin_normal ?_
       exact xmeet ⟨nv1.2.1, 0, nv1.2.2.2.1, nv1.2.2.2.2.1, 0, (Arr.rep 4 (0 : UInt64)), h, rfl⟩ ⟨lk_, (SubM.of (.keep rfl rfl (.refl _) (.keep rfl rfl (.refl _) (.nil _))) (.nil _))⟩
      refine pl_ 0 rfl (qv_fieldAddrB FldC.h rfl) ?_
      refine pl_ 2 rfl (qv_fieldAddrB FldC.h rfl) ?_
      refine pl_ 4 rfl (qv_fieldAddrB FldC.h rfl) ?_
      refine xpvalE 1 [3, 5] rfl (qv_loadB 2 ShpC.h rfl rfl rfl rfl) rfl rfl (by kernel_rfl) (by kernel_rfl) (by kernel_rfl) (fun _ _ _ _ h => h) ?_
      refine pl_ 6 rfl (qv_fieldAddrB FldC.h rfl) ?_
      refine xpstepN (is := [3, 5, 7]) (by kernel_rfl) (by simp) ?_
      intro i hi; simp only [List.mem_cons, List.not_mem_nil, or_false] at hi; rcases hi with rfl | rfl | rfl
      ·refine ⟨_, rfl, ?_⟩
       refine wv_ (qv_loadB 2 ShpC.h rfl rfl rfl rfl) ?_
       refine xfl0 [⟨5, 30, .v (.int .i64 nv1.2.2.2.2.1)⟩] 5 ?_
       refine xflstep 7 (by kernel_rfl) rfl (.cons rfl rfl rfl (fun _ => rfl) (fun _ => qv_loadB 2 ShpC.h rfl rfl rfl rfl) .nil) fun D l td hR => ?_
       refine wstore 0 ShpC.h rfl rfl rfl rfl rfl rfl rfl ?_
       refine xflgo0 hR ?_
       refine xflval 8 (by kernel_rfl) rfl (fun _ => qv_fieldAddrB FldC.h rfl) (fun _ => rfl) rfl (by kernel_rfl) (fun _ _ _ _ h => h) ?_
       refine xflstep 9 (by kernel_rfl) rfl (.cons rfl rfl rfl (fun _ => rfl) (fun _ => qv_loadB 2 ShpC.h rfl rfl rfl rfl) .nil) fun D l td hR => ?_
       refine wstore 0 ShpC.h rfl rfl rfl rfl rfl rfl rfl ?_
       refine xflgo0 hR ?_
       refine xflend (l' := #[true, true, true, true, true, true, true, true, true, true, false, false]) (by kernel_rfl) (.cons rfl rfl rfl (fun _ => rfl) (fun _ => qv_loadB 2 ShpC.h rfl rfl rfl rfl) .nil) (by kernel_rfl) rfl (by kernel_rfl) (by kernel_rfl) ?_
       simp only [List.nil_append, List.cons_append, List.map_cons, List.map_nil]
       refine pl_ 10 rfl (qv_fieldAddrB FldC.h rfl) ?_
       exact xpuse key37 rfl ⟨lk_, (SubM.of (.keep rfl rfl (.refl _) (.keep rfl rfl (.refl _) (.nil _))) (.nil _))⟩ rfl (by kernel_rfl)
      ·refine ⟨_, rfl, ?_⟩
       refine wv_ (qv_loadB 2 ShpC.h rfl rfl rfl rfl) ?_
       refine xfl0 [⟨3, 28, .v (.int .i64 nv1.2.2.2.1)⟩] 5 ?_
       refine xflstep 7 (by kernel_rfl) rfl (.cons rfl rfl rfl (fun _ => rfl) (fun _ => qv_loadB 2 ShpC.h rfl rfl rfl rfl) .nil) fun D l td hR => ?_
       refine wstore 0 ShpC.h rfl rfl rfl rfl rfl rfl rfl ?_
       refine xflgo0 hR ?_
       refine xflend (l' := #[true, true, true, true, true, true, true, true, false, false, false, false]) (by kernel_rfl) (.cons rfl rfl rfl (fun _ => rfl) (fun _ => qv_loadB 2 ShpC.h rfl rfl rfl rfl) .nil) (by kernel_rfl) rfl (by kernel_rfl) (by kernel_rfl) ?_
       simp only [List.nil_append, List.cons_append, List.map_cons, List.map_nil]
       refine pl_ 8 rfl (qv_fieldAddrB FldC.h rfl) ?_
       refine xpstep (i := 9) (by kernel_rfl) rfl ?_
       refine wstore 0 ShpC.h rfl rfl rfl rfl rfl rfl rfl ?_
       refine pl_ 10 rfl (qv_fieldAddrB FldC.h rfl) ?_
       exact xpuse key37 rfl ⟨lk_, (SubM.of (.keep rfl rfl (.refl _) (.keep rfl rfl (.refl _) (.nil _))) (.nil _))⟩ rfl (by kernel_rfl)
      ·refine ⟨_, rfl, ?_⟩
       refine wstore 0 ShpC.h rfl rfl rfl rfl rfl rfl rfl ?_
       refine xpvalE 3 [5] rfl (qv_loadB 2 ShpC.h rfl rfl rfl rfl) rfl rfl (by kernel_rfl) (by kernel_rfl) (by kernel_rfl) (fun _ _ _ _ h => h) ?_
       refine pl_ 8 rfl (qv_fieldAddrB FldC.h rfl) ?_
       refine xfl0 [⟨5, 30, .v (.int .i64 nv1.2.2.2.2.1)⟩] 3 ?_
       refine xflstep 9 (by kernel_rfl) rfl (.cons rfl rfl rfl (fun _ => rfl) (fun _ => qv_loadB 2 ShpC.h rfl rfl rfl rfl) .nil) fun D l td hR => ?_
       refine wstore 0 ShpC.h rfl rfl rfl rfl rfl rfl rfl ?_
       refine xflgo0 hR ?_
       refine xflend (l' := #[true, true, true, true, true, true, true, true, true, true, false, false]) (by kernel_rfl) (.cons rfl rfl rfl (fun _ => rfl) (fun _ => qv_loadB 2 ShpC.h rfl rfl rfl rfl) .nil) (by kernel_rfl) rfl (by kernel_rfl) (by kernel_rfl) ?_
       simp only [List.nil_append, List.cons_append, List.map_cons, List.map_nil]
       refine pl_ 10 rfl (qv_fieldAddrB FldC.h rfl) ?_
       exact xpuse key37 rfl ⟨lk_, (SubM.of (.keep rfl rfl (.refl _) (.keep rfl rfl (.refl _) (.nil _))) (.nil _))⟩ rfl (by kernel_rfl)
     ·replace h := h.2 hp36
      refine xcondF' (decide_eq_false hp36) rfl ?_
      refine sr_ ?_
      refine vp_ (pv_bin2 rfl rfl rfl) ?_
      refine as_ ?_
      refine nt_ ?_
      by_cases hp39 : nv1.1 = 5
      ·replace h := h.1 hp39
       refine xcondT' (decide_eq_true hp39) rfl ?_
       refine xregionD (m := 8) (by kernel_rfl) rfl ?_
       refine pl_ 0 rfl (qv_fieldAddrB FldC.h rfl) ?_
       refine pl_ 2 rfl (qv_fieldAddrB FldC.h rfl) ?_
       refine xpvalE 1 [3] rfl (qv_loadB 2 ShpC.h rfl rfl rfl rfl) rfl rfl (by kernel_rfl) (by kernel_rfl) (by kernel_rfl) (fun _ _ _ _ h => h) ?_
       refine pl_ 4 rfl (qv_fieldAddrB FldC.h rfl) ?_
       refine xfl0 [⟨3, 39, .v (.int .i64 nv1.2.2.2.2.2.1)⟩] 3 ?_
       refine xflstep 5 (by kernel_rfl) rfl (.cons rfl rfl rfl (fun _ => rfl) (fun _ => qv_loadB 2 ShpC.h rfl rfl rfl rfl) .nil) fun D l td hR => ?_
       refine wstore 0 ShpC.h rfl rfl rfl rfl rfl rfl rfl ?_
       refine xflgo0 hR ?_
       refine xflend (l' := #[true, true, true, true, true, true, false, false]) (by kernel_rfl) (.cons rfl rfl rfl (fun _ => rfl) (fun _ => qv_loadB 2 ShpC.h rfl rfl rfl rfl) .nil) (by kernel_rfl) rfl (by kernel_rfl) (by kernel_rfl) ?_
       simp only [List.nil_append, List.cons_append, List.map_cons, List.map_nil]
       refine pl_ 6 rfl (qv_fieldAddrB FldC.h rfl) ?_
       refine xpstep (i := 7) (by kernel_rfl) rfl ?_
       refine wstore 0 ShpC.h rfl rfl rfl rfl rfl rfl rfl ?_
       refine xpdone (by kernel_rfl) ?_
       refine xin_normal ?_
       exact xmeet ⟨nv1.2.1, 0, 0, 0, nv1.2.2.2.2.2.1, (Arr.rep 4 (0 : UInt64)), h, rfl⟩ ⟨lk_, (SubM.of (.keep rfl rfl (.refl _) (.keep rfl rfl (.refl _) (.nil _))) (.nil _))⟩
      ·replace h := h.2 hp39
       refine xcondF' (decide_eq_false hp39) rfl ?_
       refine sr_ ?_
       refine vp_ (pv_bin2 rfl rfl rfl) ?_
       refine as_ ?_
       refine nt_ ?_
       by_cases hp41 : nv1.1 = 6
       ·replace h := h.1 hp41
        refine xcondT' (decide_eq_true hp41) rfl ?_
        refine xregion ?_
        refine vp_ (qv_fieldAddrB FldC.h rfl) ?_
        refine v_ (qv_loadB 2 ShpC.h rfl rfl rfl rfl) ?_
        refine vp_ (qv_fieldAddrB FldC.h rfl) ?_
        refine xstore 0 ShpC.h rfl rfl rfl rfl rfl rfl rfl ?_
        refine xnil ?_
        refine xin_normal ?_
        exact xmeet ⟨0, 0, 0, 0, nv1.2.2.2.2.2.1, (Arr.rep 4 (0 : UInt64)), h, rfl⟩ ⟨lk_, (SubM.of (.keep rfl rfl (.refl _) (.keep rfl rfl (.refl _) (.nil _))) (.nil _))⟩
       ·replace h := h.2 hp41
        refine xcondF' (decide_eq_false hp41) rfl ?_
        refine xskipc ?_
        refine xin_normal ?_
        exact xmeet ⟨0, 0, 0, 0, 0, (Arr.rep 4 (0 : UInt64)), h, rfl⟩ ⟨lk_, (SubM.of (.keep rfl rfl (.refl _) (.keep rfl rfl (.refl _) (.nil _))) (.nil _))⟩
 ·clear h
  rintro _ ⟨f19, f20, f21, f22, f23, f24, h, rfl⟩
  refine sr_ ?_
  refine v_ (qv_loadP 0 [] ([.v (.int .i64 nv1.1), .v (.int .i64 f19), .v (.int .i64 f20), .v (.int .i64 f21), .v (.int .i64 f22), .v (.int .i64 f23)] ++ (List.map ew f24.l).flatten) [] sq_ sl_ sl_ (part_all sl_) ShpC.h rfl rfl) ?_
  refine xstoreQ 1 [] ([.v (.int .i64 0), .v (.int .i64 0), .v (.int .i64 0), .v (.int .i64 0), .v (.int .i64 0), .v (.int .i64 0)] ++ (List.map ew ((Arr.rep 4 (0 : UInt64))).l).flatten) [] ([.v (.int .i64 nv1.1), .v (.int .i64 f19), .v (.int .i64 f20), .v (.int .i64 f21), .v (.int .i64 f22), .v (.int .i64 f23)] ++ (List.map ew f24.l).flatten) ShpC.h rfl rfl rfl rfl rfl ?_
  refine nt_ ?_
  refine xretc ?_
  replace h := h.symm
  subst h
  exact xretL (rs := [.cell 2 42]) (ss := [.agg ([.v (.int .i64 nv1.1), .v (.int .i64 f19), .v (.int .i64 f20), .v (.int .i64 f21), .v (.int .i64 f22), .v (.int .i64 f23)] ++ (List.map ew f24.l).flatten)]) hg rfl (by refine RetL.cell 1 ShpC.h rfl rfl (part_midE (pre := []) (mid := ([.v (.int .i64 nv1.1), .v (.int .i64 f19), .v (.int .i64 f20), .v (.int .i64 f21), .v (.int .i64 f22), .v (.int .i64 f23)] ++ (List.map ew f24.l).flatten)) (post := []) sq_ sl_ sl_ (part_all sl_)) (len_midE (pre := []) (mid := ([.v (.int .i64 nv1.1), .v (.int .i64 f19), .v (.int .i64 f20), .v (.int .i64 f21), .v (.int .i64 f22), .v (.int .i64 f23)] ++ (List.map ew f24.l).flatten)) (post := []) sq_ sl_ sl_) wk_ ?_; exact RetL.nil) (SubM.of (.nil _) (.nil _)) ⟨rfl, rfl, rfl⟩
/-- tree.parts -/
def tree_parts_j2 (nv1 : Int × Int × Int × Int × Int × Int × (Arr 4 (UInt64))) (x29 : Bool) (r : (List Int)) : Prop :=
 ((x29 = true → r = [nv1.2.1]) ∧ (¬ (x29 = true) → r = ([] : List Int)))
def tree_parts_j1 (nv1 : Int × Int × Int × Int × Int × Int × (Arr 4 (UInt64))) (x21 : Bool) (r : (List Int)) : Prop :=
 ((x21 = true → r = [nv1.2.1, nv1.2.2.1]) ∧ (¬ (x21 = true) → ((nv1.1 = 4 → tree_parts_j2 nv1 (decide (nv1.1 = 4)) r) ∧ (¬ (nv1.1 = 4) → tree_parts_j2 nv1 (decide (nv1.1 = 5)) r))))
def tree_parts_R (nv1 : Int × Int × Int × Int × Int × Int × (Arr 4 (UInt64))) (r : (List Int)) : Prop :=
 ((nv1.1 = 2 → tree_parts_j1 nv1 (decide (nv1.1 = 2)) r) ∧ (¬ (nv1.1 = 2) → tree_parts_j1 nv1 (decide (nv1.1 = 3)) r))
def tree_parts_j2_ev (fuel : Nat) (nv1 : Int × Int × Int × Int × Int × Int × (Arr 4 (UInt64))) (x29 : Bool) : Option ((List Int)) :=
 (if x29 = true then some ([nv1.2.1]) else some ([] : List Int))
theorem tree_parts_j2_ok {fuel : Nat} {nv1 : Int × Int × Int × Int × Int × Int × (Arr 4 (UInt64))} {x29 : Bool} {r : (List Int)} (h : tree_parts_j2_ev fuel nv1 x29 = some r) : tree_parts_j2 nv1 x29 r := by
 unfold tree_parts_j2_ev at h
 unfold tree_parts_j2
 refine ⟨fun g11 => ?_, fun g11 => ?_⟩
 ·rw [if_pos g11] at h
  exact (Option.some.inj h).symm
 ·rw [if_neg g11] at h
  exact (Option.some.inj h).symm
def tree_parts_j1_ev (fuel : Nat) (nv1 : Int × Int × Int × Int × Int × Int × (Arr 4 (UInt64))) (x21 : Bool) : Option ((List Int)) :=
 (if x21 = true then some ([nv1.2.1, nv1.2.2.1]) else (if nv1.1 = 4 then tree_parts_j2_ev fuel nv1 (decide (nv1.1 = 4)) else tree_parts_j2_ev fuel nv1 (decide (nv1.1 = 5))))
theorem tree_parts_j1_ok {fuel : Nat} {nv1 : Int × Int × Int × Int × Int × Int × (Arr 4 (UInt64))} {x21 : Bool} {r : (List Int)} (h : tree_parts_j1_ev fuel nv1 x21 = some r) : tree_parts_j1 nv1 x21 r := by
 unfold tree_parts_j1_ev at h
 unfold tree_parts_j1
 refine ⟨fun g12 => ?_, fun g12 => ?_⟩
 ·rw [if_pos g12] at h
  exact (Option.some.inj h).symm
 ·rw [if_neg g12] at h
  refine ⟨fun g13 => ?_, fun g13 => ?_⟩
  ·rw [if_pos g13] at h
   exact tree_parts_j2_ok h
  ·rw [if_neg g13] at h
   exact tree_parts_j2_ok h
def tree_parts_ev (fuel : Nat) (nv1 : Int × Int × Int × Int × Int × Int × (Arr 4 (UInt64))) : Option ((List Int)) :=
 (if nv1.1 = 2 then tree_parts_j1_ev fuel nv1 (decide (nv1.1 = 2)) else tree_parts_j1_ev fuel nv1 (decide (nv1.1 = 3)))
theorem tree_parts_ok {fuel : Nat} {nv1 : Int × Int × Int × Int × Int × Int × (Arr 4 (UInt64))} {r : (List Int)} (h : tree_parts_ev fuel nv1 = some r) : tree_parts_R nv1 r := by
 unfold tree_parts_ev at h
 unfold tree_parts_R
 refine ⟨fun g14 => ?_, fun g14 => ?_⟩
 ·rw [if_pos g14] at h
  exact tree_parts_j1_ok h
 ·rw [if_neg g14] at h
  exact tree_parts_j1_ok h
set_option maxHeartbeats 4000000 in
theorem tree_parts_con (nv1 : Int × Int × Int × Int × Int × Int × (Arr 4 (UInt64))) (r : (List Int)) (h : tree_parts_R nv1 r) : Con Try.prog 38 [.agg ([.v (.int .i64 nv1.1), .v (.int .i64 nv1.2.1), .v (.int .i64 nv1.2.2.1), .v (.int .i64 nv1.2.2.2.1), .v (.int .i64 nv1.2.2.2.2.1), .v (.int .i64 nv1.2.2.2.2.2.1)] ++ (List.map ew nv1.2.2.2.2.2.2.l).flatten)] [] [] (RetM 1 3 ei r) := by
 refine xenter Try.func38 rfl rfl fun g hg => ?_
 simp only [Try.ntmps38, slots]
 refine sr_ ?_
 refine xbox rfl rfl rfl rfl fun b1 => ?_
 refine as_ ?_
 refine nt_ ?_
 refine xseq ?_
 refine sr_ ?_
 refine vp_ (qv_fieldAddrB FldC.h rfl) ?_
 refine v_ (qv_loadB 0 ShpC.h rfl rfl rfl rfl) ?_
 refine nt_ ?_
 refine xblock ?_
 refine xseqM (fun σ => ∃ (x21 : Bool), tree_parts_j1 nv1 x21 r ∧ σ = ⟨[(1, .v (.pointer (some ⟨b1, 0, none⟩))), (4, .v (.int .i64 nv1.1)), (5, .v (.bool x21))], [⟨b1, 42, ([.v (.int .i64 nv1.1), .v (.int .i64 nv1.2.1), .v (.int .i64 nv1.2.2.1), .v (.int .i64 nv1.2.2.2.1), .v (.int .i64 nv1.2.2.2.2.1), .v (.int .i64 nv1.2.2.2.2.2.1)] ++ (List.map ew nv1.2.2.2.2.2.2.l).flatten)⟩], []⟩) ?_ ?_
 ·refine xseq ?_
  refine xregion ?_
  refine vp_ (pv_bin2 rfl rfl rfl) ?_
  refine as_ ?_
  refine nt_ ?_
  by_cases hp23 : nv1.1 = 2
  ·replace h := h.1 hp23
   refine xcondT' (decide_eq_true hp23) rfl ?_
   refine xskipc ?_
   exact xmeet ⟨(decide (nv1.1 = 2)), h, rfl⟩ ⟨lk_, (SubM.of (.keep rfl rfl (.refl _) (.nil _)) (.nil _))⟩
  ·replace h := h.2 hp23
   refine xcondF' (decide_eq_false hp23) rfl ?_
   refine xregion ?_
   refine vp_ (pv_bin2 rfl rfl rfl) ?_
   refine as_ ?_
   refine xnil ?_
   exact xmeet ⟨(decide (nv1.1 = 3)), h, rfl⟩ ⟨lk_, (SubM.of (.keep rfl rfl (.refl _) (.nil _)) (.nil _))⟩
 ·clear h
  rintro _ ⟨x21, h, rfl⟩
  by_cases hp25 : x21 = true
  ·replace h := h.1 hp25
   refine xcondT' hp25 rfl ?_
   refine sr_ ?_
   refine vp_ (qv_fieldAddrB FldC.h rfl) ?_
   refine v_ (qv_loadB 0 ShpC.h rfl rfl rfl rfl) ?_
   refine vp_ (qv_fieldAddrB FldC.h rfl) ?_
   refine v_ (qv_loadB 0 ShpC.h rfl rfl rfl rfl) ?_
   refine xbuildSliceM (f := ei) [nv1.2.1, nv1.2.2.1] UndC.h InfC.h rfl rfl wr_ rfl rfl rfl rfl fun s12 => ?_
   refine as_ ?_
   refine nt_ ?_
   refine xretc ?_
   refine xin_ret ?_
   refine xthen_ret ?_
   replace h := h.symm
   subst h
   exact xret1 hg rfl rfl (.refl _) (SubM.of (.nil _) (.keep rfl (.nil _))) ⟨(some (s12, 2)), rfl, rfl, rfl⟩
  ·replace h := h.2 hp25
   refine xcondF' (b_f hp25) rfl ?_
   refine xseqM (fun σ => ∃ (x29 : Bool), tree_parts_j2 nv1 x29 r ∧ σ = ⟨[(1, .v (.pointer (some ⟨b1, 0, none⟩))), (13, .v (.bool x29))], [⟨b1, 42, ([.v (.int .i64 nv1.1), .v (.int .i64 nv1.2.1), .v (.int .i64 nv1.2.2.1), .v (.int .i64 nv1.2.2.2.1), .v (.int .i64 nv1.2.2.2.2.1), .v (.int .i64 nv1.2.2.2.2.2.1)] ++ (List.map ew nv1.2.2.2.2.2.2.l).flatten)⟩], []⟩) ?_ ?_
   ·refine xseq ?_
    refine xregion ?_
    refine vp_ (pv_bin2 rfl rfl rfl) ?_
    refine as_ ?_
    refine nt_ ?_
    by_cases hp31 : nv1.1 = 4
    ·replace h := h.1 hp31
     refine xcondT' (decide_eq_true hp31) rfl ?_
     refine xskipc ?_
     exact xmeet ⟨(decide (nv1.1 = 4)), h, rfl⟩ ⟨lk_, (SubM.of (.keep rfl rfl (.refl _) (.nil _)) (.nil _))⟩
    ·replace h := h.2 hp31
     refine xcondF' (decide_eq_false hp31) rfl ?_
     refine xregion ?_
     refine vp_ (pv_bin2 rfl rfl rfl) ?_
     refine as_ ?_
     refine xnil ?_
     exact xmeet ⟨(decide (nv1.1 = 5)), h, rfl⟩ ⟨lk_, (SubM.of (.keep rfl rfl (.refl _) (.nil _)) (.nil _))⟩
   ·clear h
    rintro _ ⟨x29, h, rfl⟩
    by_cases hp33 : x29 = true
    ·replace h := h.1 hp33
     refine xcondT' hp33 rfl ?_
     refine sr_ ?_
     refine vp_ (qv_fieldAddrB FldC.h rfl) ?_
     refine v_ (qv_loadB 0 ShpC.h rfl rfl rfl rfl) ?_
     refine xbuildSliceM (f := ei) [nv1.2.1] UndC.h InfC.h rfl rfl wr_ rfl rfl rfl rfl fun s18 => ?_
     refine as_ ?_
     refine nt_ ?_
     refine xretc ?_
     refine xin_ret ?_
     refine xthen_ret ?_
     replace h := h.symm
     subst h
     exact xret1 hg rfl rfl (.refl _) (SubM.of (.nil _) (.keep rfl (.nil _))) ⟨(some (s18, 1)), rfl, rfl, rfl⟩
    ·replace h := h.2 hp33
     refine xcondF' (b_f hp33) rfl ?_
     refine xskipc ?_
     refine xin_normal ?_
     refine xthen ?_
     refine sr_ ?_
     refine as_ ?_
     refine nt_ ?_
     refine xretc ?_
     replace h := h.symm
     subst h
     exact xret1 hg rfl rfl (.nil_own _) sm_ ⟨none, rfl, rfl, rfl⟩
/-- tree.isNode$1 -/
def tree_isNode_c1_R (o1 : Int) (k2 : Int) (r : Bool) : Prop :=
 ((k2 < 0 → r = true) ∧ (¬ (k2 < 0) → r = (decide (o1 ≤ k2))))
def tree_isNode_c1_ev (fuel : Nat) (o1 : Int) (k2 : Int) : Option (Bool) :=
 (if k2 < 0 then some true else some (decide (o1 ≤ k2)))
theorem tree_isNode_c1_ok {fuel : Nat} {o1 : Int} {k2 : Int} {r : Bool} (h : tree_isNode_c1_ev fuel o1 k2 = some r) : tree_isNode_c1_R o1 k2 r := by
 unfold tree_isNode_c1_ev at h
 unfold tree_isNode_c1_R
 refine ⟨fun g15 => ?_, fun g15 => ?_⟩
 ·rw [if_pos g15] at h
  exact (Option.some.inj h).symm
 ·rw [if_neg g15] at h
  exact (Option.some.inj h).symm
set_option maxHeartbeats 4000000 in
theorem tree_isNode_c1_con (o1 : Int) (k2 : Int) (bx0 : Nat) (r : Bool) (h : tree_isNode_c1_R o1 k2 r) : Con Try.prog 56 [.v (.int .i64 k2), .v (.pointer (some ⟨bx0, 0, none⟩))] [⟨bx0, 3, [.v (.int .i64 o1)]⟩] [] (fun rr bx tk => rr = .v (.bool r) ∧ bx = [⟨bx0, 3, [.v (.int .i64 o1)]⟩] ∧ tk = []) := by
 refine xenter Try.func56 rfl rfl fun g hg => ?_
 simp only [Try.ntmps56, slots]
 refine sr_ ?_
 refine as_ ?_
 refine nt_ ?_
 refine sr_ ?_
 refine mv_ ?_
 refine vp_ (pv_bin2 rfl rfl rfl) ?_
 refine mv_ ?_
 by_cases hp7 : k2 < 0
 ·replace h := h.1 hp7
  refine xsetB 6 (decide_eq_true hp7) rfl ?_
  refine sk_ ?_
  refine sk_ ?_
  refine sk_ ?_
  refine pk_ ?_
  refine as_ ?_
  refine nt_ ?_
  refine xretc ?_
  replace h := h.symm
  subst h
  exact xret1 hg rfl rfl (.refl _) (SubM.of (.keep rfl rfl (.refl _) (.nil _)) (.nil _)) ⟨rfl, rfl, rfl⟩
 ·replace h := h.2 hp7
  refine xsetB 6 (decide_eq_false hp7) rfl ?_
  refine mv_ ?_
  refine v_ (qv_loadB 0 ShpC.h rfl rfl rfl rfl) ?_
  refine vp_ (pv_bin2 rfl rfl rfl) ?_
  refine pk_ ?_
  refine as_ ?_
  refine nt_ ?_
  refine xretc ?_
  replace h := h.symm
  subst h
  exact xret1 hg rfl rfl (.refl _) (SubM.of (.keep rfl rfl (.refl _) (.nil _)) (.nil _)) ⟨rfl, rfl, rfl⟩
/-- slices.IndexFunc [ []int,int] -/
def slices_IndexFunc_l1 (sv2 : List Int) (o1 : Int) (ag1 : (Int) → Prop) (x62 : Int) (r : Int) : Prop :=
 ((x62 < (sv2.length : Int) → 0 ≤ (x62 : Int) ∧ ∃ y85 : Int, sv2[(x62 : Int).toNat]? = some y85 ∧ ∃ y88 : Bool, tree_isNode_c1_R o1 y85 y88 ∧ ((y88 = true → r = x62) ∧ (¬ (y88 = true) → InR (x62 + 1) ∧ ag1 (x62 + 1)))) ∧ (¬ (x62 < (sv2.length : Int)) → r = (-1)))
def slices_IndexFunc_R (o1 : Int) (sv2 : List Int) (r : Int) : Prop :=
 LoopR (fun ag1 s => slices_IndexFunc_l1 sv2 o1 ag1 s r) 0
def slices_IndexFunc_l1_ev (fuel : Nat) (sv2 : List Int) (o1 : Int) (ag1e : (Int) → Option (Int)) (x62 : Int) : Option (Int) :=
 (if x62 < (sv2.length : Int) then (if 0 ≤ (x62 : Int) then ((sv2[(x62 : Int).toNat]?).bind fun y85 => ((tree_isNode_c1_ev fuel o1 y85).bind fun y88 => (if y88 = true then some x62 else (if InR (x62 + 1) then ag1e (x62 + 1) else none)))) else none) else some (-1))
theorem slices_IndexFunc_l1_ok {fuel : Nat} {sv2 : List Int} {o1 : Int} {ag1e : (Int) → Option (Int)} {ag1 : (Int) → Prop} {x62 : Int} {r : Int} (hagag1 : ∀ s, ag1e s = some r → ag1 s) (h : slices_IndexFunc_l1_ev fuel sv2 o1 ag1e x62 = some r) : slices_IndexFunc_l1 sv2 o1 ag1 x62 r := by
 unfold slices_IndexFunc_l1_ev at h
 unfold slices_IndexFunc_l1
 refine ⟨fun g16 => ?_, fun g16 => ?_⟩
 ·rw [if_pos g16] at h
  obtain ⟨g17, h⟩ := if_ok h
  refine ⟨g17, ?_⟩
  obtain ⟨q18, g18, h⟩ := bind_ok h
  refine ⟨q18, g18, ?_⟩
  obtain ⟨q19, g19, h⟩ := bind_ok h
  refine ⟨q19, tree_isNode_c1_ok g19, ?_⟩
  refine ⟨fun g20 => ?_, fun g20 => ?_⟩
  ·rw [if_pos g20] at h
   exact (Option.some.inj h).symm
  ·rw [if_neg g20] at h
   obtain ⟨g21, h⟩ := if_ok h
   refine ⟨g21, ?_⟩
   exact hagag1 _ h
 ·rw [if_neg g16] at h
  exact (Option.some.inj h).symm
def slices_IndexFunc_ev (fuel : Nat) (o1 : Int) (sv2 : List Int) : Option (Int) :=
 (loopE (fun ag1e s => slices_IndexFunc_l1_ev fuel sv2 o1 ag1e s) fuel 0)
theorem slices_IndexFunc_ok {fuel : Nat} {o1 : Int} {sv2 : List Int} {r : Int} (h : slices_IndexFunc_ev fuel o1 sv2 = some r) : slices_IndexFunc_R o1 sv2 r := by
 unfold slices_IndexFunc_ev at h
 unfold slices_IndexFunc_R
 refine loopE_ok ?_ h
 intro ae ag s hag h
 exact slices_IndexFunc_l1_ok hag h
set_option maxHeartbeats 4000000 in
theorem slices_IndexFunc_con (o1 : Int) (sv2 : List Int) (bx0 : Nat) (r : Int) (h : slices_IndexFunc_R o1 sv2 r) : Con Try.prog 68 [.sl 1 none (List.map ei sv2), .v (.func (.func 56) #[] #[.pointer (some ⟨bx0, 0, none⟩)])] [⟨bx0, 3, [.v (.int .i64 o1)]⟩] [] (fun rr bx tk => rr = .v (.int .i64 r) ∧ bx = [⟨bx0, 3, [.v (.int .i64 o1)]⟩] ∧ tk = []) := by
 refine xenter Try.func68 rfl rfl fun g hg => ?_
 simp only [Try.ntmps68, slots]
 refine sr_ ?_
 refine as_ ?_
 refine nt_ ?_
 refine xseq ?_
 refine sr_ ?_
 refine mv_ ?_
 refine vp_ (pv_lenM UndC.h rfl) ?_
 refine mv_ ?_
 refine nt_ ?_
 refine xblock ?_
 obtain ⟨Inv, ⟨m0, hI⟩, hS⟩ := h
 refine xloop (fun σ m => ∃ (x62 : Int), Inv x62 m ∧ σ = ⟨[(0, .sl 1 none (List.map ei sv2)), (1, .v (.func (.func 56) #[] #[.pointer (some ⟨bx0, 0, none⟩)])), (7, .v (.int .i64 ((sv2.length : Int)))), (8, .v (.int .i64 x62))], [⟨bx0, 3, [.v (.int .i64 o1)]⟩], []⟩) ⟨0, hI, rfl⟩ (by exact ⟨lk_, (SubM.of (.keep rfl rfl (.refl _) (.nil _)) (.nil _))⟩) ?_
 rintro _ m ⟨x62, hI, rfl⟩
 obtain ⟨ag1, hag1, h⟩ : ∃ ag, (∀ s', ag s' → ∃ m', m' < m ∧ Inv s' m') ∧ slices_IndexFunc_l1 sv2 o1 ag x62 r := ⟨_, fun _ h => h, hS x62 _ hI⟩
 clear hS hI
 refine sr_ ?_
 refine vp_ (pv_bin2 rfl rfl rfl) ?_
 refine nt_ ?_
 refine xseq ?_
 by_cases hp79 : x62 < (sv2.length : Int)
 ·replace h := h.1 hp79
  refine xcondT' (decide_eq_true hp79) rfl ?_
  refine xskipc ?_
  refine xthen ?_
  refine xseq ?_
  refine xblock ?_
  refine sr_ ?_
  refine mv_ ?_
  refine as_ ?_
  refine nt_ ?_
  refine sr_ ?_
  refine mv_ ?_
  refine mv_ ?_
  refine mv_ ?_
  obtain ⟨h86a, h⟩ := h
  obtain ⟨y85, h86b, h⟩ := h
  refine vp_ (pv_indexAddrM h86a h86b UndC.h ShpC.h rfl rfl) ?_
  refine v_ (qv_load ShpC.h rfl rfl rfl) ?_
  obtain ⟨y88, h87, h⟩ := h
  refine xcallV (sa := [.v (.int .i64 y85)]) (Fb := []) (Ft := []) (tree_isNode_c1_con o1 y85 bx0 _ h87) Try.func56 (by kernel_rfl) rfl rfl (.cons rfl (.refl _) .nil) rfl (by exact sm_) rfl rfl ?_
  rintro _ _ _ ⟨rfl, rfl, rfl⟩
  simp only [List.nil_append, List.cons_append]
  refine nt_ ?_
  by_cases hp89 : y88 = true
  ·replace h := h.1 hp89
   refine xcondT' hp89 rfl ?_
   refine sr_ ?_
   refine mv_ ?_
   refine as_ ?_
   refine nt_ ?_
   refine xretc ?_
   refine xin_ret ?_
   refine xthen_ret ?_
   refine xthen_ret ?_
   refine xin_ret ?_
   refine xthen_ret ?_
   replace h := h.symm
   subst h
   exact xret1 hg rfl rfl (.refl _) (SubM.of (.keep rfl rfl (.refl _) (.nil _)) (.nil _)) ⟨rfl, rfl, rfl⟩
  ·replace h := h.2 hp89
   refine xcondF' (b_f hp89) rfl ?_
   refine xskipc ?_
   refine xin_normal ?_
   refine xthen ?_
   refine xregion ?_
   obtain ⟨h90, h⟩ := h
   refine vp_ (pv_addI h90 rfl rfl) ?_
   refine mv_ ?_
   refine xnil ?_
   obtain ⟨m', hm, hI⟩ := hag1 _ h
   exact xagain ⟨(x62 + 1), hI, rfl⟩ hm ⟨lk_, (SubM.of (.keep rfl rfl (.refl _) (.nil _)) (.nil _))⟩
 ·replace h := h.2 hp79
  refine xcondF' (decide_eq_false hp79) rfl ?_
  refine xexit ?_
  refine xthen_exit ?_
  refine xthen_exit ?_
  refine xin_same rfl ?_
  refine xthen ?_
  refine sr_ ?_
  refine as_ ?_
  refine nt_ ?_
  refine xretc ?_
  replace h := h.symm
  subst h
  exact xret1 hg rfl rfl (.refl _) (SubM.of (.keep rfl rfl (.refl _) (.nil _)) (.nil _)) ⟨rfl, rfl, rfl⟩
/-- slices.ContainsFunc [ []int,int] -/
def slices_ContainsFunc_R (o1 : Int) (sv2 : List Int) (r : Bool) : Prop :=
 ∃ y4 : Int, slices_IndexFunc_R o1 sv2 y4 ∧ r = (decide (0 ≤ y4))
def slices_ContainsFunc_ev (fuel : Nat) (o1 : Int) (sv2 : List Int) : Option (Bool) :=
 ((slices_IndexFunc_ev fuel o1 sv2).bind fun y4 => some (decide (0 ≤ y4)))
theorem slices_ContainsFunc_ok {fuel : Nat} {o1 : Int} {sv2 : List Int} {r : Bool} (h : slices_ContainsFunc_ev fuel o1 sv2 = some r) : slices_ContainsFunc_R o1 sv2 r := by
 unfold slices_ContainsFunc_ev at h
 unfold slices_ContainsFunc_R
 obtain ⟨q22, g22, h⟩ := bind_ok h
 refine ⟨q22, slices_IndexFunc_ok g22, ?_⟩
 exact (Option.some.inj h).symm
set_option maxHeartbeats 4000000 in
theorem slices_ContainsFunc_con (o1 : Int) (sv2 : List Int) (bx0 : Nat) (r : Bool) (h : slices_ContainsFunc_R o1 sv2 r) : Con Try.prog 55 [.sl 1 none (List.map ei sv2), .v (.func (.func 56) #[] #[.pointer (some ⟨bx0, 0, none⟩)])] [⟨bx0, 3, [.v (.int .i64 o1)]⟩] [] (fun rr bx tk => rr = .v (.bool r) ∧ bx = [⟨bx0, 3, [.v (.int .i64 o1)]⟩] ∧ tk = []) := by
 refine xenter Try.func55 rfl rfl fun g hg => ?_
 simp only [Try.ntmps55, slots]
 refine sr_ ?_
 refine as_ ?_
 refine nt_ ?_
 refine sr_ ?_
 refine mv_ ?_
 refine mv_ ?_
 obtain ⟨y4, h3, h⟩ := h
 refine xcallF (Fb := []) (Ft := []) (slices_IndexFunc_con o1 sv2 bx0 _ h3) Try.func68 (by kernel_rfl) rfl (.cons rfl (.refl _) (.cons rfl (.refl _) .nil)) (by exact sm_) rfl rfl ?_
 rintro _ _ _ ⟨rfl, rfl, rfl⟩
 simp only [List.nil_append, List.cons_append]
 refine vp_ (pv_bin2 rfl rfl rfl) ?_
 refine as_ ?_
 refine nt_ ?_
 refine xretc ?_
 replace h := h.symm
 subst h
 exact xret1 hg rfl rfl (.refl _) (SubM.of (.keep rfl rfl (.refl _) (.nil _)) (.nil _)) ⟨rfl, rfl, rfl⟩
/-- tree.isTimes -/
def tree_isTimes_j1 (x12 : Bool) (r : Bool) : Prop :=
 r = x12
def tree_isTimes_R (lo1 : Int) (hi2 : Int) (r : Bool) : Prop :=
 tree_isTimes_j1 ((decide (0 ≤ lo1)) && ((decide (lo1 ≤ 255)) && ((decide (hi2 = (-1))) || ((decide (lo1 ≤ hi2)) && (decide (hi2 ≤ 255)))))) r
def tree_isTimes_j1_ev (fuel : Nat) (x12 : Bool) : Option (Bool) :=
 some x12
theorem tree_isTimes_j1_ok {fuel : Nat} {x12 : Bool} {r : Bool} (h : tree_isTimes_j1_ev fuel x12 = some r) : tree_isTimes_j1 x12 r := by
 unfold tree_isTimes_j1_ev at h
 unfold tree_isTimes_j1
 exact (Option.some.inj h).symm
def tree_isTimes_ev (fuel : Nat) (lo1 : Int) (hi2 : Int) : Option (Bool) :=
 tree_isTimes_j1_ev fuel ((decide (0 ≤ lo1)) && ((decide (lo1 ≤ 255)) && ((decide (hi2 = (-1))) || ((decide (lo1 ≤ hi2)) && (decide (hi2 ≤ 255))))))
theorem tree_isTimes_ok {fuel : Nat} {lo1 : Int} {hi2 : Int} {r : Bool} (h : tree_isTimes_ev fuel lo1 hi2 = some r) : tree_isTimes_R lo1 hi2 r := by
 unfold tree_isTimes_ev at h
 unfold tree_isTimes_R
 exact tree_isTimes_j1_ok h
set_option maxHeartbeats 4000000 in
theorem tree_isTimes_con (lo1 : Int) (hi2 : Int) (r : Bool) (h : tree_isTimes_R lo1 hi2 r) : Con Try.prog 57 [.v (.int .i64 lo1), .v (.int .i64 hi2)] [] [] (Ret (.v (.bool r))) := by
 refine xenter Try.func57 rfl rfl fun g hg => ?_
 simp only [Try.ntmps57, slots]
 unfold tree_isTimes_R at h
 refine sr_ ?_
 refine as_ ?_
 refine nt_ ?_
 refine xseqM (fun σ => ∃ (x12 : Bool), tree_isTimes_j1 x12 r ∧ σ = ⟨[(4, .v (.bool x12))], [], []⟩) ?_ ?_
 ·refine xregion ?_
  refine mv_ ?_
  refine vp_ (pv_bin2 rfl rfl rfl) ?_
  refine mv_ ?_
  by_cases hp14 : 0 ≤ lo1
  ·rw [and_tt (show (decide (0 ≤ lo1)) = true from (decide_eq_true hp14))] at h
   refine xsetB 7 (decide_eq_true hp14) rfl ?_
   refine mv_ ?_
   refine vp_ (pv_bin2 rfl rfl rfl) ?_
   refine pk_ ?_
   refine mv_ ?_
   by_cases hp16 : lo1 ≤ 255
   ·rw [and_tt (show (decide (lo1 ≤ 255)) = true from (decide_eq_true hp16))] at h
    refine xsetB 11 (decide_eq_true hp16) rfl ?_
    refine mv_ ?_
    refine vp_ (pv_bin2 rfl rfl rfl) ?_
    refine mv_ ?_
    by_cases hp18 : hi2 = (-1)
    ·rw [or_tt (show (decide (hi2 = (-1))) = true from (decide_eq_true hp18))] at h
     refine xsetB 14 (decide_eq_true hp18) rfl ?_
     refine sk_ ?_
     refine sk_ ?_
     refine sk_ ?_
     refine sk_ ?_
     refine sk_ ?_
     refine sk_ ?_
     refine sk_ ?_
     refine pk_ ?_
     refine pk_ ?_
     refine as_ ?_
     refine xnil ?_
     exact xmeet ⟨true, h, rfl⟩ ⟨(.cons rfl (.refl _) (.nil _)), (SubM.of (.nil _) (.nil _))⟩
    ·rw [or_ff (show (decide (hi2 = (-1))) = false from (decide_eq_false hp18))] at h
     refine xsetB 14 (decide_eq_false hp18) rfl ?_
     refine mv_ ?_
     refine mv_ ?_
     refine vp_ (pv_bin2 rfl rfl rfl) ?_
     refine mv_ ?_
     by_cases hp20 : lo1 ≤ hi2
     ·rw [and_tt (show (decide (lo1 ≤ hi2)) = true from (decide_eq_true hp20))] at h
      refine xsetB 18 (decide_eq_true hp20) rfl ?_
      refine mv_ ?_
      refine vp_ (pv_bin2 rfl rfl rfl) ?_
      refine pk_ ?_
      refine pk_ ?_
      refine pk_ ?_
      refine as_ ?_
      refine xnil ?_
      exact xmeet ⟨(decide (hi2 ≤ 255)), h, rfl⟩ ⟨(.cons rfl (.refl _) (.nil _)), (SubM.of (.nil _) (.nil _))⟩
     ·rw [and_ff (show (decide (lo1 ≤ hi2)) = false from (decide_eq_false hp20))] at h
      refine xsetB 18 (decide_eq_false hp20) rfl ?_
      refine sk_ ?_
      refine sk_ ?_
      refine pk_ ?_
      refine pk_ ?_
      refine pk_ ?_
      refine as_ ?_
      refine xnil ?_
      exact xmeet ⟨false, h, rfl⟩ ⟨(.cons rfl (.refl _) (.nil _)), (SubM.of (.nil _) (.nil _))⟩
   ·rw [and_ff (show (decide (lo1 ≤ 255)) = false from (decide_eq_false hp16))] at h
    refine xsetB 11 (decide_eq_false hp16) rfl ?_
    refine sk_ ?_
    refine sk_ ?_
    refine sk_ ?_
    refine sk_ ?_
    refine sk_ ?_
    refine sk_ ?_
    refine sk_ ?_
    refine sk_ ?_
    refine sk_ ?_
    refine sk_ ?_
    refine sk_ ?_
    refine pk_ ?_
    refine as_ ?_
    refine xnil ?_
    exact xmeet ⟨false, h, rfl⟩ ⟨(.cons rfl (.refl _) (.nil _)), (SubM.of (.nil _) (.nil _))⟩
  ·rw [and_ff (show (decide (0 ≤ lo1)) = false from (decide_eq_false hp14))] at h
   refine xsetB 7 (decide_eq_false hp14) rfl ?_
   refine sk_ ?_
   refine sk_ ?_
   refine pk_ ?_
   refine mv_ ?_
   refine sk_ ?_
   refine sk_ ?_
   refine sk_ ?_
   refine sk_ ?_
   refine sk_ ?_
   refine sk_ ?_
   refine sk_ ?_
   refine sk_ ?_
   refine sk_ ?_
   refine sk_ ?_
   refine sk_ ?_
   refine pk_ ?_
   refine as_ ?_
   refine xnil ?_
   exact xmeet ⟨false, h, rfl⟩ ⟨(.cons rfl (.refl _) (.nil _)), (SubM.of (.nil _) (.nil _))⟩
 ·clear h
  rintro _ ⟨x12, h, rfl⟩
  refine xretc ?_
  replace h := h.symm
  subst h
  exact xret1 hg rfl rfl (.refl _) (SubM.of (.nil _) (.nil _)) ⟨rfl, rfl, rfl⟩
/-- tree.isNode -/
def tree_isNode_j3 (nv1 : Int × Int × Int × Int × Int × Int × (Arr 4 (UInt64))) (groups3 : Int) (x85 : Bool) (r : Bool) : Prop :=
 ((x85 = true → ((1 ≤ nv1.2.2.2.2.2.1 → r = (decide (nv1.2.2.2.2.2.1 ≤ groups3))) ∧ (¬ (1 ≤ nv1.2.2.2.2.2.1) → r = false))) ∧ (¬ (x85 = true) → r = true))
def tree_isNode_j2 (nv1 : Int × Int × Int × Int × Int × Int × (Arr 4 (UInt64))) (groups3 : Int) (x76 : Bool) (r : Bool) : Prop :=
 ((x76 = true → r = false) ∧ (¬ (x76 = true) → tree_isNode_j3 nv1 groups3 ((decide (nv1.1 = 5)) || (decide (nv1.1 = 6))) r))
def tree_isNode_j1 (nv1 : Int × Int × Int × Int × Int × Int × (Arr 4 (UInt64))) (atv2 : Int) (groups3 : Int) (x57 : Bool) (r : Bool) : Prop :=
 ((x57 = true → r = false) ∧ (¬ (x57 = true) → ∃ y67 : (List Int), tree_parts_R nv1 y67 ∧ ∃ y70 : Bool, slices_ContainsFunc_R atv2 y67 y70 ∧ ((y70 = true → r = false) ∧ (¬ (y70 = true) → ((nv1.1 = 4 → ∃ y80 : Bool, tree_isTimes_R nv1.2.2.2.1 nv1.2.2.2.2.1 y80 ∧ tree_isNode_j2 nv1 groups3 (!y80) r) ∧ (¬ (nv1.1 = 4) → tree_isNode_j2 nv1 groups3 false r))))))
def tree_isNode_R (nv1 : Int × Int × Int × Int × Int × Int × (Arr 4 (UInt64))) (atv2 : Int) (groups3 : Int) (r : Bool) : Prop :=
 ((nv1.1 < 0 → tree_isNode_j1 nv1 atv2 groups3 true r) ∧ (¬ (nv1.1 < 0) → ((8 < nv1.1 → tree_isNode_j1 nv1 atv2 groups3 true r) ∧ (¬ (8 < nv1.1) → ∃ y63 : (Int × Int × Int × Int × Int × Int × (Arr 4 (UInt64))), tree_plain_R nv1 y63 ∧ tree_isNode_j1 nv1 atv2 groups3 (!(decide ((nv1 : Int × Int × Int × Int × Int × Int × (Arr 4 (UInt64))) = y63))) r))))
def tree_isNode_j3_ev (fuel : Nat) (nv1 : Int × Int × Int × Int × Int × Int × (Arr 4 (UInt64))) (groups3 : Int) (x85 : Bool) : Option (Bool) :=
 (if x85 = true then (if 1 ≤ nv1.2.2.2.2.2.1 then some (decide (nv1.2.2.2.2.2.1 ≤ groups3)) else some false) else some true)
theorem tree_isNode_j3_ok {fuel : Nat} {nv1 : Int × Int × Int × Int × Int × Int × (Arr 4 (UInt64))} {groups3 : Int} {x85 : Bool} {r : Bool} (h : tree_isNode_j3_ev fuel nv1 groups3 x85 = some r) : tree_isNode_j3 nv1 groups3 x85 r := by
 unfold tree_isNode_j3_ev at h
 unfold tree_isNode_j3
 refine ⟨fun g23 => ?_, fun g23 => ?_⟩
 ·rw [if_pos g23] at h
  refine ⟨fun g24 => ?_, fun g24 => ?_⟩
  ·rw [if_pos g24] at h
   exact (Option.some.inj h).symm
  ·rw [if_neg g24] at h
   exact (Option.some.inj h).symm
 ·rw [if_neg g23] at h
  exact (Option.some.inj h).symm
def tree_isNode_j2_ev (fuel : Nat) (nv1 : Int × Int × Int × Int × Int × Int × (Arr 4 (UInt64))) (groups3 : Int) (x76 : Bool) : Option (Bool) :=
 (if x76 = true then some false else tree_isNode_j3_ev fuel nv1 groups3 ((decide (nv1.1 = 5)) || (decide (nv1.1 = 6))))
theorem tree_isNode_j2_ok {fuel : Nat} {nv1 : Int × Int × Int × Int × Int × Int × (Arr 4 (UInt64))} {groups3 : Int} {x76 : Bool} {r : Bool} (h : tree_isNode_j2_ev fuel nv1 groups3 x76 = some r) : tree_isNode_j2 nv1 groups3 x76 r := by
 unfold tree_isNode_j2_ev at h
 unfold tree_isNode_j2
 refine ⟨fun g25 => ?_, fun g25 => ?_⟩
 ·rw [if_pos g25] at h
  exact (Option.some.inj h).symm
 ·rw [if_neg g25] at h
  exact tree_isNode_j3_ok h
def tree_isNode_j1_ev (fuel : Nat) (nv1 : Int × Int × Int × Int × Int × Int × (Arr 4 (UInt64))) (atv2 : Int) (groups3 : Int) (x57 : Bool) : Option (Bool) :=
 (if x57 = true then some false else ((tree_parts_ev fuel nv1).bind fun y67 => ((slices_ContainsFunc_ev fuel atv2 y67).bind fun y70 => (if y70 = true then some false else (if nv1.1 = 4 then ((tree_isTimes_ev fuel nv1.2.2.2.1 nv1.2.2.2.2.1).bind fun y80 => tree_isNode_j2_ev fuel nv1 groups3 (!y80)) else tree_isNode_j2_ev fuel nv1 groups3 false)))))
theorem tree_isNode_j1_ok {fuel : Nat} {nv1 : Int × Int × Int × Int × Int × Int × (Arr 4 (UInt64))} {atv2 : Int} {groups3 : Int} {x57 : Bool} {r : Bool} (h : tree_isNode_j1_ev fuel nv1 atv2 groups3 x57 = some r) : tree_isNode_j1 nv1 atv2 groups3 x57 r := by
 unfold tree_isNode_j1_ev at h
 unfold tree_isNode_j1
 refine ⟨fun g26 => ?_, fun g26 => ?_⟩
 ·rw [if_pos g26] at h
  exact (Option.some.inj h).symm
 ·rw [if_neg g26] at h
  obtain ⟨q27, g27, h⟩ := bind_ok h
  refine ⟨q27, tree_parts_ok g27, ?_⟩
  obtain ⟨q28, g28, h⟩ := bind_ok h
  refine ⟨q28, slices_ContainsFunc_ok g28, ?_⟩
  refine ⟨fun g29 => ?_, fun g29 => ?_⟩
  ·rw [if_pos g29] at h
   exact (Option.some.inj h).symm
  ·rw [if_neg g29] at h
   refine ⟨fun g30 => ?_, fun g30 => ?_⟩
   ·rw [if_pos g30] at h
    obtain ⟨q31, g31, h⟩ := bind_ok h
    refine ⟨q31, tree_isTimes_ok g31, ?_⟩
    exact tree_isNode_j2_ok h
   ·rw [if_neg g30] at h
    exact tree_isNode_j2_ok h
def tree_isNode_ev (fuel : Nat) (nv1 : Int × Int × Int × Int × Int × Int × (Arr 4 (UInt64))) (atv2 : Int) (groups3 : Int) : Option (Bool) :=
 (if nv1.1 < 0 then tree_isNode_j1_ev fuel nv1 atv2 groups3 true else (if 8 < nv1.1 then tree_isNode_j1_ev fuel nv1 atv2 groups3 true else ((tree_plain_ev fuel nv1).bind fun y63 => tree_isNode_j1_ev fuel nv1 atv2 groups3 (!(decide ((nv1 : Int × Int × Int × Int × Int × Int × (Arr 4 (UInt64))) = y63))))))
theorem tree_isNode_ok {fuel : Nat} {nv1 : Int × Int × Int × Int × Int × Int × (Arr 4 (UInt64))} {atv2 : Int} {groups3 : Int} {r : Bool} (h : tree_isNode_ev fuel nv1 atv2 groups3 = some r) : tree_isNode_R nv1 atv2 groups3 r := by
 unfold tree_isNode_ev at h
 unfold tree_isNode_R
 refine ⟨fun g32 => ?_, fun g32 => ?_⟩
 ·rw [if_pos g32] at h
  exact tree_isNode_j1_ok h
 ·rw [if_neg g32] at h
  refine ⟨fun g33 => ?_, fun g33 => ?_⟩
  ·rw [if_pos g33] at h
   exact tree_isNode_j1_ok h
  ·rw [if_neg g33] at h
   obtain ⟨q34, g34, h⟩ := bind_ok h
   refine ⟨q34, tree_plain_ok g34, ?_⟩
   exact tree_isNode_j1_ok h
set_option maxHeartbeats 4000000 in
theorem tree_isNode_con (nv1 : Int × Int × Int × Int × Int × Int × (Arr 4 (UInt64))) (atv2 : Int) (groups3 : Int) (r : Bool) (h : tree_isNode_R nv1 atv2 groups3 r) : Con Try.prog 37 [.agg ([.v (.int .i64 nv1.1), .v (.int .i64 nv1.2.1), .v (.int .i64 nv1.2.2.1), .v (.int .i64 nv1.2.2.2.1), .v (.int .i64 nv1.2.2.2.2.1), .v (.int .i64 nv1.2.2.2.2.2.1)] ++ (List.map ew nv1.2.2.2.2.2.2.l).flatten), .v (.int .i64 atv2), .v (.int .i64 groups3)] [] [] (Ret (.v (.bool r))) := by
 refine xenter Try.func37 rfl rfl fun g hg => ?_
 simp only [Try.ntmps37, slots]
 refine sr_ ?_
 refine xbox rfl rfl rfl rfl fun b3 => ?_
 refine xbox rfl rfl rfl rfl fun b4 => ?_
 refine as_ ?_
 refine nt_ ?_
 refine xseq ?_
 refine xblock ?_
 refine xseqM (fun σ => ∃ (x57 : Bool), tree_isNode_j1 nv1 atv2 groups3 x57 r ∧ σ = ⟨[(2, .v (.int .i64 groups3)), (3, .v (.pointer (some ⟨b3, 0, none⟩))), (4, .v (.pointer (some ⟨b4, 0, none⟩))), (7, .v (.bool x57))], [⟨b4, 3, [.v (.int .i64 atv2)]⟩, ⟨b3, 42, ([.v (.int .i64 nv1.1), .v (.int .i64 nv1.2.1), .v (.int .i64 nv1.2.2.1), .v (.int .i64 nv1.2.2.2.1), .v (.int .i64 nv1.2.2.2.2.1), .v (.int .i64 nv1.2.2.2.2.2.1)] ++ (List.map ew nv1.2.2.2.2.2.2.l).flatten)⟩], []⟩) ?_ ?_
 ·refine xregionD (m := 15) (by kernel_rfl) rfl ?_
  refine pl_ 0 rfl (qv_fieldAddrB FldC.h rfl) ?_
  refine xpvalE 1 [] rfl (qv_loadB 1 ShpC.h rfl rfl rfl rfl) rfl rfl (by kernel_rfl) (by kernel_rfl) (by kernel_rfl) (fun _ _ _ _ h => h) ?_
  refine pl_ 2 rfl (pv_bin2 rfl rfl rfl) ?_
  refine pl_ 3 rfl (pv_move rfl) ?_
  by_cases hp59 : nv1.1 < 0
  ·replace h := h.1 hp59
   refine psetB 11 (decide_eq_true hp59) rfl ?_
   refine xpskip 4 rfl rfl rfl (by kernel_rfl) (by kernel_rfl) (by kernel_rfl) (fun _ _ _ _ h => h) ?_
   refine xpskip 5 rfl rfl rfl (by kernel_rfl) (by kernel_rfl) (by kernel_rfl) (fun _ _ _ _ h => h) ?_
   refine xpskip 6 rfl rfl rfl (by kernel_rfl) (by kernel_rfl) (by kernel_rfl) (fun _ _ _ _ h => h) ?_
   refine pl_ 7 rfl (pv_pick rfl rfl) ?_
   refine pl_ 8 rfl (pv_move rfl) ?_
   refine xpskip 9 rfl rfl rfl (by kernel_rfl) (by kernel_rfl) (by kernel_rfl) (fun _ _ _ _ h => h) ?_
   refine xpskip 10 rfl rfl rfl (by kernel_rfl) (by kernel_rfl) (by kernel_rfl) (fun _ _ _ _ h => h) ?_
   refine xpskip 11 rfl rfl rfl (by kernel_rfl) (by kernel_rfl) (by kernel_rfl) (fun _ _ _ _ h => h) ?_
   refine xpskip 12 rfl rfl rfl (by kernel_rfl) (by kernel_rfl) (by kernel_rfl) (fun _ _ _ _ h => h) ?_
   refine pl_ 13 rfl (pv_pick rfl rfl) ?_
   refine pl_ 14 rfl (pv_assign rfl) ?_
   refine xpdone (by kernel_rfl) ?_
   exact xmeet ⟨true, h, rfl⟩ ⟨lk_, (SubM.of (.keep rfl rfl (.refl _) (.keep rfl rfl (.refl _) (.nil _))) (.nil _))⟩
  ·replace h := h.2 hp59
   refine psetB 11 (decide_eq_false hp59) rfl ?_
   refine pl_ 4 rfl (qv_fieldAddrB FldC.h rfl) ?_
   refine xpvalE 5 [] rfl (qv_loadB 1 ShpC.h rfl rfl rfl rfl) rfl rfl (by kernel_rfl) (by kernel_rfl) (by kernel_rfl) (fun _ _ _ _ h => h) ?_
   refine pl_ 6 rfl (pv_bin2 rfl rfl rfl) ?_
   refine pl_ 7 rfl (pv_pick rfl rfl) ?_
   refine pl_ 8 rfl (pv_move rfl) ?_
   by_cases hp61 : 8 < nv1.1
   ·replace h := h.1 hp61
    refine psetB 16 (decide_eq_true hp61) rfl ?_
    refine xpskip 9 rfl rfl rfl (by kernel_rfl) (by kernel_rfl) (by kernel_rfl) (fun _ _ _ _ h => h) ?_
    refine xpskip 10 rfl rfl rfl (by kernel_rfl) (by kernel_rfl) (by kernel_rfl) (fun _ _ _ _ h => h) ?_
    refine xpskip 11 rfl rfl rfl (by kernel_rfl) (by kernel_rfl) (by kernel_rfl) (fun _ _ _ _ h => h) ?_
    refine xpskip 12 rfl rfl rfl (by kernel_rfl) (by kernel_rfl) (by kernel_rfl) (fun _ _ _ _ h => h) ?_
    refine pl_ 13 rfl (pv_pick rfl rfl) ?_
    refine pl_ 14 rfl (pv_assign rfl) ?_
    refine xpdone (by kernel_rfl) ?_
    exact xmeet ⟨true, h, rfl⟩ ⟨lk_, (SubM.of (.keep rfl rfl (.refl _) (.keep rfl rfl (.refl _) (.nil _))) (.nil _))⟩
   ·replace h := h.2 hp61
    refine psetB 16 (decide_eq_false hp61) rfl ?_
    obtain ⟨y63, h62, h⟩ := h
    refine xpvalE 10 [9] rfl (qv_loadP 1 [] ([.v (.int .i64 nv1.1), .v (.int .i64 nv1.2.1), .v (.int .i64 nv1.2.2.1), .v (.int .i64 nv1.2.2.2.1), .v (.int .i64 nv1.2.2.2.2.1), .v (.int .i64 nv1.2.2.2.2.2.1)] ++ (List.map ew nv1.2.2.2.2.2.2.l).flatten) [] sq_ sl_ sl_ (part_all sl_) ShpC.h rfl rfl) rfl rfl (by kernel_rfl) (by kernel_rfl) (by kernel_rfl) (fun _ _ _ _ h => h) ?_
    refine xfl0 [⟨9, 17, .agg ([.v (.int .i64 nv1.1), .v (.int .i64 nv1.2.1), .v (.int .i64 nv1.2.2.1), .v (.int .i64 nv1.2.2.2.1), .v (.int .i64 nv1.2.2.2.2.1), .v (.int .i64 nv1.2.2.2.2.2.1)] ++ (List.map ew nv1.2.2.2.2.2.2.l).flatten)⟩] 4 ?_
    refine xflstep 11 (by kernel_rfl) rfl (.cons rfl rfl rfl (fun _ => rfl) (fun _ => qv_loadP 1 [] ([.v (.int .i64 nv1.1), .v (.int .i64 nv1.2.1), .v (.int .i64 nv1.2.2.1), .v (.int .i64 nv1.2.2.2.1), .v (.int .i64 nv1.2.2.2.2.1), .v (.int .i64 nv1.2.2.2.2.2.1)] ++ (List.map ew nv1.2.2.2.2.2.2.l).flatten) [] sq_ sl_ sl_ (part_all sl_) ShpC.h rfl rfl) .nil) fun D l td hR => ?_
    refine wcall0 (tree_plain_con nv1 _ h62) Try.func54 (by kernel_rfl) rfl (.cons rfl (.refl _) .nil) rfl rfl ?_
    refine xflgo1 hR ?_
    refine xflend (l' := #[true, true, true, true, true, true, true, true, true, true, true, true, false, false, false]) (by kernel_rfl) (.cons rfl rfl rfl (fun _ => rfl) (fun _ => qv_loadP 1 [] ([.v (.int .i64 nv1.1), .v (.int .i64 nv1.2.1), .v (.int .i64 nv1.2.2.1), .v (.int .i64 nv1.2.2.2.1), .v (.int .i64 nv1.2.2.2.2.1), .v (.int .i64 nv1.2.2.2.2.2.1)] ++ (List.map ew nv1.2.2.2.2.2.2.l).flatten) [] sq_ sl_ sl_ (part_all sl_) ShpC.h rfl rfl) .nil) (by kernel_rfl) rfl (by kernel_rfl) (by kernel_rfl) ?_
    simp only [List.nil_append, List.cons_append, List.map_cons, List.map_nil]
    refine pl_ 12 rfl (pv_neAgg (f := E_palinode_api_Node) (a := nv1) (b := y63) eqc_42 (by decide) (by kernel_rfl) ev_ ev_) ?_
    refine pl_ 13 rfl (pv_pick rfl rfl) ?_
    refine pl_ 14 rfl (pv_assign rfl) ?_
    refine xpdone (by kernel_rfl) ?_
    exact xmeet ⟨(!(decide ((nv1 : Int × Int × Int × Int × Int × Int × (Arr 4 (UInt64))) = y63))), h, rfl⟩ ⟨lk_, (SubM.of (.keep rfl rfl (.refl _) (.keep rfl rfl (.refl _) (.nil _))) (.nil _))⟩
 ·clear h
  rintro _ ⟨x57, h, rfl⟩
  by_cases hp65 : x57 = true
  ·replace h := h.1 hp65
   refine xcondT' hp65 rfl ?_
   refine sr_ ?_
   refine as_ ?_
   refine nt_ ?_
   refine xretc ?_
   refine xin_ret ?_
   refine xthen_ret ?_
   replace h := h.symm
   subst h
   exact xret1 hg rfl rfl (.refl _) (SubM.of (.nil _) (.nil _)) ⟨rfl, rfl, rfl⟩
  ·replace h := h.2 hp65
   refine xcondF' (b_f hp65) rfl ?_
   refine sr_ ?_
   refine v_ (qv_loadP 1 [] ([.v (.int .i64 nv1.1), .v (.int .i64 nv1.2.1), .v (.int .i64 nv1.2.2.1), .v (.int .i64 nv1.2.2.2.1), .v (.int .i64 nv1.2.2.2.2.1), .v (.int .i64 nv1.2.2.2.2.2.1)] ++ (List.map ew nv1.2.2.2.2.2.2.l).flatten) [] sq_ sl_ sl_ (part_all sl_) ShpC.h rfl rfl) ?_
   obtain ⟨y67, h66, h⟩ := h
   refine xcallM (tree_parts_con nv1 _ h66) Try.func38 (by kernel_rfl) rfl (.cons rfl (.refl _) .nil) rfl rfl fun i68 => ?_
   refine vp_ (pv_makeFuncC rfl) ?_
   obtain ⟨y70, h69, h⟩ := h
   refine xcallF (Fb := [⟨b3, 42, ([.v (.int .i64 nv1.1), .v (.int .i64 nv1.2.1), .v (.int .i64 nv1.2.2.1), .v (.int .i64 nv1.2.2.2.1), .v (.int .i64 nv1.2.2.2.2.1), .v (.int .i64 nv1.2.2.2.2.2.1)] ++ (List.map ew nv1.2.2.2.2.2.2.l).flatten)⟩]) (Ft := [⟨i68, 3, 1, y67.length⟩]) (slices_ContainsFunc_con atv2 y67 b4 _ h69) Try.func55 (by kernel_rfl) rfl (.cons rfl (.tok _ _ _) (.cons rfl (.refl _) .nil)) (by exact sm_) rfl rfl ?_
   rintro _ _ _ ⟨rfl, rfl, rfl⟩
   simp only [List.nil_append, List.cons_append]
   refine as_ ?_
   refine nt_ ?_
   by_cases hp71 : y70 = true
   ·replace h := h.1 hp71
    refine xcondT' hp71 rfl ?_
    refine sr_ ?_
    refine as_ ?_
    refine nt_ ?_
    refine xretc ?_
    refine xin_ret ?_
    refine xthen_ret ?_
    replace h := h.symm
    subst h
    exact xret1 hg rfl rfl (.refl _) (SubM.of (.nil _) (.nil _)) ⟨rfl, rfl, rfl⟩
   ·replace h := h.2 hp71
    refine xcondF' (b_f hp71) rfl ?_
    refine xseqM (fun σ => ∃ (x76 : Bool), tree_isNode_j2 nv1 groups3 x76 r ∧ σ = ⟨[(2, .v (.int .i64 groups3)), (3, .v (.pointer (some ⟨b3, 0, none⟩))), (27, .v (.bool x76))], [⟨b3, 42, ([.v (.int .i64 nv1.1), .v (.int .i64 nv1.2.1), .v (.int .i64 nv1.2.2.1), .v (.int .i64 nv1.2.2.2.1), .v (.int .i64 nv1.2.2.2.2.1), .v (.int .i64 nv1.2.2.2.2.2.1)] ++ (List.map ew nv1.2.2.2.2.2.2.l).flatten)⟩], []⟩) ?_ ?_
    ·refine xregion ?_
     refine vp_ (qv_fieldAddrB FldC.h rfl) ?_
     refine v_ (qv_loadB 1 ShpC.h rfl rfl rfl rfl) ?_
     refine vp_ (pv_bin2 rfl rfl rfl) ?_
     refine mv_ ?_
     by_cases hp78 : nv1.1 = 4
     ·replace h := h.1 hp78
      refine xsetB 31 (decide_eq_true hp78) rfl ?_
      refine vp_ (qv_fieldAddrB FldC.h rfl) ?_
      refine v_ (qv_loadB 1 ShpC.h rfl rfl rfl rfl) ?_
      refine vp_ (qv_fieldAddrB FldC.h rfl) ?_
      refine v_ (qv_loadB 1 ShpC.h rfl rfl rfl rfl) ?_
      obtain ⟨y80, h79, h⟩ := h
      refine xcall0 (tree_isTimes_con nv1.2.2.2.1 nv1.2.2.2.2.1 _ h79) Try.func57 (by kernel_rfl) rfl (.cons rfl (.refl _) (.cons rfl (.refl _) .nil)) rfl rfl ?_
      refine vp_ (pv_not rfl) ?_
      refine pk_ ?_
      refine as_ ?_
      refine xnil ?_
      exact xmeet ⟨(!y80), h, rfl⟩ ⟨lk_, (SubM.of (.drop (.keep rfl rfl (.refl _) (.nil _))) (.nil _))⟩
     ·replace h := h.2 hp78
      refine xsetB 31 (decide_eq_false hp78) rfl ?_
      refine sk_ ?_
      refine sk_ ?_
      refine sk_ ?_
      refine sk_ ?_
      refine sk_ ?_
      refine sk_ ?_
      refine pk_ ?_
      refine as_ ?_
      refine xnil ?_
      exact xmeet ⟨false, h, rfl⟩ ⟨lk_, (SubM.of (.drop (.keep rfl rfl (.refl _) (.nil _))) (.nil _))⟩
    ·clear h
     rintro _ ⟨x76, h, rfl⟩
     by_cases hp81 : x76 = true
     ·replace h := h.1 hp81
      refine xcondT' hp81 rfl ?_
      refine sr_ ?_
      refine as_ ?_
      refine nt_ ?_
      refine xretc ?_
      refine xin_ret ?_
      refine xthen_ret ?_
      replace h := h.symm
      subst h
      exact xret1 hg rfl rfl (.refl _) (SubM.of (.nil _) (.nil _)) ⟨rfl, rfl, rfl⟩
     ·replace h := h.2 hp81
      refine xcondF' (b_f hp81) rfl ?_
      refine xseqM (fun σ => ∃ (x85 : Bool), tree_isNode_j3 nv1 groups3 x85 r ∧ σ = ⟨[(2, .v (.int .i64 groups3)), (3, .v (.pointer (some ⟨b3, 0, none⟩))), (39, .v (.bool x85))], [⟨b3, 42, ([.v (.int .i64 nv1.1), .v (.int .i64 nv1.2.1), .v (.int .i64 nv1.2.2.1), .v (.int .i64 nv1.2.2.2.1), .v (.int .i64 nv1.2.2.2.2.1), .v (.int .i64 nv1.2.2.2.2.2.1)] ++ (List.map ew nv1.2.2.2.2.2.2.l).flatten)⟩], []⟩) ?_ ?_
      ·refine xregion ?_
       refine vp_ (qv_fieldAddrB FldC.h rfl) ?_
       refine v_ (qv_loadB 0 ShpC.h rfl rfl rfl rfl) ?_
       refine vp_ (pv_bin2 rfl rfl rfl) ?_
       refine mv_ ?_
       by_cases hp87 : nv1.1 = 5
       ·rw [or_tt (show (decide (nv1.1 = 5)) = true from (decide_eq_true hp87))] at h
        refine xsetB 43 (decide_eq_true hp87) rfl ?_
        refine sk_ ?_
        refine sk_ ?_
        refine sk_ ?_
        refine pk_ ?_
        refine as_ ?_
        refine xnil ?_
        exact xmeet ⟨true, h, rfl⟩ ⟨lk_, (SubM.of (.keep rfl rfl (.refl _) (.nil _)) (.nil _))⟩
       ·rw [or_ff (show (decide (nv1.1 = 5)) = false from (decide_eq_false hp87))] at h
        refine xsetB 43 (decide_eq_false hp87) rfl ?_
        refine vp_ (qv_fieldAddrB FldC.h rfl) ?_
        refine v_ (qv_loadB 0 ShpC.h rfl rfl rfl rfl) ?_
        refine vp_ (pv_bin2 rfl rfl rfl) ?_
        refine pk_ ?_
        refine as_ ?_
        refine xnil ?_
        exact xmeet ⟨(decide (nv1.1 = 6)), h, rfl⟩ ⟨lk_, (SubM.of (.keep rfl rfl (.refl _) (.nil _)) (.nil _))⟩
      ·clear h
       rintro _ ⟨x85, h, rfl⟩
       by_cases hp89 : x85 = true
       ·replace h := h.1 hp89
        refine xcondT' hp89 rfl ?_
        refine sr_ ?_
        refine vp_ (qv_fieldAddrB FldC.h rfl) ?_
        refine v_ (qv_loadB 0 ShpC.h rfl rfl rfl rfl) ?_
        refine vp_ (pv_bin2 rfl rfl rfl) ?_
        refine mv_ ?_
        by_cases hp94 : 1 ≤ nv1.2.2.2.2.2.1
        ·replace h := h.1 hp94
         refine xsetB 51 (decide_eq_true hp94) rfl ?_
         refine vp_ (qv_fieldAddrB FldC.h rfl) ?_
         refine v_ (qv_loadB 0 ShpC.h rfl rfl rfl rfl) ?_
         refine mv_ ?_
         refine vp_ (pv_bin2 rfl rfl rfl) ?_
         refine pk_ ?_
         refine as_ ?_
         refine nt_ ?_
         refine xretc ?_
         refine xin_ret ?_
         refine xthen_ret ?_
         replace h := h.symm
         subst h
         exact xret1 hg rfl rfl (.refl _) (SubM.of (.nil _) (.nil _)) ⟨rfl, rfl, rfl⟩
        ·replace h := h.2 hp94
         refine xsetB 51 (decide_eq_false hp94) rfl ?_
         refine sk_ ?_
         refine sk_ ?_
         refine sk_ ?_
         refine sk_ ?_
         refine pk_ ?_
         refine as_ ?_
         refine nt_ ?_
         refine xretc ?_
         refine xin_ret ?_
         refine xthen_ret ?_
         replace h := h.symm
         subst h
         exact xret1 hg rfl rfl (.refl _) (SubM.of (.nil _) (.nil _)) ⟨rfl, rfl, rfl⟩
       ·replace h := h.2 hp89
        refine xcondF' (b_f hp89) rfl ?_
        refine xskipc ?_
        refine xin_normal ?_
        refine xthen ?_
        refine sr_ ?_
        refine as_ ?_
        refine nt_ ?_
        refine xretc ?_
        replace h := h.symm
        subst h
        exact xret1 hg rfl rfl (.refl _) (SubM.of (.nil _) (.nil _)) ⟨rfl, rfl, rfl⟩
end Go.Proofs.Ytpddiffpanihdaa
