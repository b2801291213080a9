/- What functions' texts ask for, and the walks that show it (printed by a program). -/
import Derived.Test.YtpddiffpanihdaaSq
import Derived.Test.YtpddiffpanihdaaIdx
namespace Go.Proofs.Ytpddiffpanihdaa
abbrev T0t : Type := (((List (Int × Int × Int × Int × Int × Int × (Arr 4 (UInt64)))) × Int) × (List UInt8) × Int × (Arr 10 (Bool)))
abbrev T1t : Type := (Int × Int × Int × Int × Int × Int × (Arr 4 (UInt64)))
abbrev T2t : Type := (Int × (List (Int × Int)) × T0t)
abbrev T3t : Type := ((List T1t) × Int)
abbrev T4t : Type := (Arr 4 (UInt64))
abbrev T5t : Type := (List (Int × Int))
abbrev T6t : Type := (Arr 10 (Bool))
abbrev T7t : Type := (UInt8 × T4t × Bool × Int)
abbrev E_palinode_api_Node (x : Int × Int × Int × Int × Int × Int × T4t) : List Sd := ([.v (.int .i64 x.1), .v (.int .i64 x.2.1), .v (.int .i64 x.2.2.1), .v (.int .i64 x.2.2.2.1), .v (.int .i64 x.2.2.2.2.1), .v (.int .i64 x.2.2.2.2.2.1)] ++ (List.map ew x.2.2.2.2.2.2.l).flatten)
instance : EncLen E_palinode_api_Node 10 := ⟨fun _ => sl_⟩
abbrev E_palinode_api_Set (x : Arr 4 (UInt64)) : List Sd := ((List.map ew x.l).flatten)
instance : EncLen E_palinode_api_Set 4 := ⟨fun _ => sl_⟩
set_option synthInstance.maxSize 4000 in
instance : DecidableEq T1t := inferInstance
set_option synthInstance.maxSize 4000 in
set_option maxRecDepth 20000 in
theorem eqc_42 : EqC Try.prog 42 E_palinode_api_Node true 3 := ⟨by
  rintro d hd ⟨x0, x1, x2, x3, x4, x5, x6⟩ ⟨y0, y1, y2, y3, y4, y5, y6⟩ R w _ _ ⟨us, rfl, hu, hu1⟩ ⟨vs, rfl, hv, hv1⟩ W
  obtain ⟨d, rfl, hd'⟩ := d_succ hd
  have h7 := eqF_nil (P := Try.prog) d us vs W
  have h6 := eqF_cons (P := Try.prog) (fd := ({ name := "Set", type := 40, offset := 6, embedded := false, tag := "", pkgPath := "", byteOffset := 48 } : Field)) (f := E_palinode_api_Set) (ag := true) (x := x6) (y := y6) hu hu1 hv hv1 (by decide) ShpC.h (eqC_arr (t := 40) (e := 38) (f := ew) UndC.h ShpC.h (by kernel_rfl) inferInstance (fun _ => rfl)) (show 2 ≤ d by omega) (part_midE (pre := [iv x0, iv x1, iv x2, iv x3, iv x4, iv x5]) (mid := ((List.map ew x6.l).flatten)) (post := []) sq_ sl_ sl_ (part_all sl_)) (part_midE (pre := [iv y0, iv y1, iv y2, iv y3, iv y4, iv y5]) (mid := ((List.map ew y6.l).flatten)) (post := []) sq_ sl_ sl_ (part_all sl_)) h7
  have h5 := eqF_cons (P := Try.prog) (fd := ({ name := "Group", type := 3, offset := 5, embedded := false, tag := "", pkgPath := "", byteOffset := 40 } : Field)) (f := ei) (ag := false) (x := x5) (y := y5) hu hu1 hv hv1 (by decide) ShpC.h inferInstance (show 1 ≤ d by omega) (part_midE (pre := [iv x0, iv x1, iv x2, iv x3, iv x4]) (mid := [iv x5]) (post := ((List.map ew x6.l).flatten)) sq_ sl_ sl_ rfl) (part_midE (pre := [iv y0, iv y1, iv y2, iv y3, iv y4]) (mid := [iv y5]) (post := ((List.map ew y6.l).flatten)) sq_ sl_ sl_ rfl) h6
  have h4 := eqF_cons (P := Try.prog) (fd := ({ name := "Hi", type := 3, offset := 4, embedded := false, tag := "", pkgPath := "", byteOffset := 32 } : Field)) (f := ei) (ag := false) (x := x4) (y := y4) hu hu1 hv hv1 (by decide) ShpC.h inferInstance (show 1 ≤ d by omega) (part_midE (pre := [iv x0, iv x1, iv x2, iv x3]) (mid := [iv x4]) (post := ([iv x5] ++ (List.map ew x6.l).flatten)) sq_ sl_ sl_ rfl) (part_midE (pre := [iv y0, iv y1, iv y2, iv y3]) (mid := [iv y4]) (post := ([iv y5] ++ (List.map ew y6.l).flatten)) sq_ sl_ sl_ rfl) h5
  have h3 := eqF_cons (P := Try.prog) (fd := ({ name := "Lo", type := 3, offset := 3, embedded := false, tag := "", pkgPath := "", byteOffset := 24 } : Field)) (f := ei) (ag := false) (x := x3) (y := y3) hu hu1 hv hv1 (by decide) ShpC.h inferInstance (show 1 ≤ d by omega) (part_midE (pre := [iv x0, iv x1, iv x2]) (mid := [iv x3]) (post := ([iv x4, iv x5] ++ (List.map ew x6.l).flatten)) sq_ sl_ sl_ rfl) (part_midE (pre := [iv y0, iv y1, iv y2]) (mid := [iv y3]) (post := ([iv y4, iv y5] ++ (List.map ew y6.l).flatten)) sq_ sl_ sl_ rfl) h4
  have h2 := eqF_cons (P := Try.prog) (fd := ({ name := "B", type := 3, offset := 2, embedded := false, tag := "", pkgPath := "", byteOffset := 16 } : Field)) (f := ei) (ag := false) (x := x2) (y := y2) hu hu1 hv hv1 (by decide) ShpC.h inferInstance (show 1 ≤ d by omega) (part_midE (pre := [iv x0, iv x1]) (mid := [iv x2]) (post := ([iv x3, iv x4, iv x5] ++ (List.map ew x6.l).flatten)) sq_ sl_ sl_ rfl) (part_midE (pre := [iv y0, iv y1]) (mid := [iv y2]) (post := ([iv y3, iv y4, iv y5] ++ (List.map ew y6.l).flatten)) sq_ sl_ sl_ rfl) h3
  have h1 := eqF_cons (P := Try.prog) (fd := ({ name := "A", type := 3, offset := 1, embedded := false, tag := "", pkgPath := "", byteOffset := 8 } : Field)) (f := ei) (ag := false) (x := x1) (y := y1) hu hu1 hv hv1 (by decide) ShpC.h inferInstance (show 1 ≤ d by omega) (part_midE (pre := [iv x0]) (mid := [iv x1]) (post := ([iv x2, iv x3, iv x4, iv x5] ++ (List.map ew x6.l).flatten)) sq_ sl_ sl_ rfl) (part_midE (pre := [iv y0]) (mid := [iv y1]) (post := ([iv y2, iv y3, iv y4, iv y5] ++ (List.map ew y6.l).flatten)) sq_ sl_ sl_ rfl) h2
  have h0 := eqF_cons (P := Try.prog) (fd := ({ name := "Kind", type := 3, offset := 0, embedded := false, tag := "", pkgPath := "", byteOffset := 0 } : Field)) (f := ei) (ag := false) (x := x0) (y := y0) hu hu1 hv hv1 (by decide) ShpC.h inferInstance (show 1 ≤ d by omega) (part_midE (pre := []) (mid := [iv x0]) (post := ([iv x1, iv x2, iv x3, iv x4, iv x5] ++ (List.map ew x6.l).flatten)) sq_ sl_ sl_ rfl) (part_midE (pre := []) (mid := [iv y0]) (post := ([iv y1, iv y2, iv y3, iv y4, iv y5] ++ (List.map ew y6.l).flatten)) sq_ sl_ sl_ rfl) h1
  have hf : (Try.prog.fieldsOf 42).toList = [({ name := "Kind", type := 3, offset := 0, embedded := false, tag := "", pkgPath := "", byteOffset := 0 } : Field), ({ name := "A", type := 3, offset := 1, embedded := false, tag := "", pkgPath := "", byteOffset := 8 } : Field), ({ name := "B", type := 3, offset := 2, embedded := false, tag := "", pkgPath := "", byteOffset := 16 } : Field), ({ name := "Lo", type := 3, offset := 3, embedded := false, tag := "", pkgPath := "", byteOffset := 24 } : Field), ({ name := "Hi", type := 3, offset := 4, embedded := false, tag := "", pkgPath := "", byteOffset := 32 } : Field), ({ name := "Group", type := 3, offset := 5, embedded := false, tag := "", pkgPath := "", byteOffset := 40 } : Field), ({ name := "Set", type := 40, offset := 6, embedded := false, tag := "", pkgPath := "", byteOffset := 48 } : Field)] := by kernel_rfl
  rw [← hf] at h0
  refine ((run_equalIn_struct W d 42 us vs (by kernel_rfl) (by kernel_rfl)).trans h0).trans ?_
  congr 1; rw [Bool.eq_iff_iff]; simp only [Bool.and_true, Bool.and_eq_true, decide_eq_true_eq, Prod.mk.injEq]⟩
def PC_palinode_bre_wrong : List (Int × Int) → List Sd
  | [] => []
  | x :: _ => [iv x.1, iv x.2]
def bre_parser_has_R (o1 : T3t × (List UInt8) × Int × T6t) (sv3 : ByteArray) (r : Bool) : Prop :=
  InR ((o1.2.1.length : Int) - o1.2.2.1) ∧ (((sv3.size : Int) ≤ ((o1.2.1.length : Int) - o1.2.2.1) → InR (o1.2.2.1 + (sv3.size : Int)) ∧ (0 ≤ (o1.2.2.1 : Int) ∧ (o1.2.2.1 : Int) ≤ ((o1.2.2.1 + (sv3.size : Int)) : Int) ∧ ((o1.2.2.1 + (sv3.size : Int)) : Int) ≤ (o1.2.1.length : Int)) ∧ r = (((⟨(((o1.2.1.take ((o1.2.2.1 + (sv3.size : Int)) : Int).toNat).drop (o1.2.2.1 : Int).toNat)).toArray⟩ : ByteArray)).toList == sv3.toList)) ∧ (¬ ((sv3.size : Int) ≤ ((o1.2.1.length : Int) - o1.2.2.1)) → r = false))
set_option maxHeartbeats 4000000 in
theorem k0_ ⦃o1 : T3t × (List UInt8) × Int × T6t⦄ ⦃sv3 : ByteArray⦄ ⦃r : Bool⦄ (h : bre_parser_has_R o1 sv3 r) (bx0 : Nat) (ia2 : Option (Nat × Nat)) : Cn Try.prog 20 [pw bx0, .v (.string sv3)] [⟨bx0, 50, ([.sl 10 (some ia2) (List.map E_palinode_api_Node o1.1.1), iv o1.1.2, sb o1.2.1, iv o1.2.2.1] ++ (List.map eB o1.2.2.2.l).flatten)⟩] [⟨ia2, 42, 10, o1.1.1.length⟩] fun rr bx tk=>rr=bv r ∧ bx=[⟨bx0, 50, ([.sl 10 (some ia2) (List.map E_palinode_api_Node o1.1.1), iv o1.1.2, sb o1.2.1, iv o1.2.2.1] ++ (List.map eB o1.2.2.2.l).flatten)⟩] ∧ tk=[⟨ia2, 42, 10, o1.1.1.length⟩] := by
 refine xenterN Try.func20 rfl rfl (by kernel_rfl) fun g hg=>?_;simp only [Try.ntmps20,slots];refine wn_ 6 h fun h=>?_;refine xregionD (m := 35) (by kernel_rfl) rfl ?_;obtain ⟨h15, h⟩ := h;refine o_ [0,1,2,5,6,7,10,11,3,4,8,9,12,13] ?_;refine ip_ 18 h (fun h=>?_) fun h=>?_
 ·obtain ⟨h20, h⟩ := h;obtain ⟨h21, h⟩ := h;refine o_ [14,15,16,18,19,20,22,23,24,26,27,31,25,28,17,21] ?_;refine pl_ 29 rfl (pv_sliceLH h21 UndC.h ShpC.h rfl rfl rfl) ?_;refine xpstep (i := 30) (by kernel_rfl) rfl ?_;refine wv_ (pv_str (bs := ((o1.2.1.take ((o1.2.2.1 + (sv3.size : Int)) : Int).toNat).drop (o1.2.2.1 : Int).toNat)) UndC.h UndC.h UndC.h rfl rfl rfl (fun _ h => by injection h with h; exact h.symm)) ?_
  refine o_ [32,33,34] ?_;refine xpdone (by kernel_rfl) ?_;exact r_ h hg
 refine o_ [14,15,16,17,18,19,20,21,22,23,24,25,26,27,28,29,30,31,32,33,34] ?_;refine xpdone (by kernel_rfl) ?_;exact r_ h hg
def tree_plain_j1 (nv1 : Int × Int × Int × Int × Int × Int × T4t) (f19 : Int) (f20 : Int) (f21 : Int) (f22 : Int) (f23 : Int) (f24 : Arr 4 (UInt64)) (r : T1t) : Prop :=
  r = (nv1.1, f19, f20, f21, f22, f23, f24)
def tree_plain_j2 (nv1 : Int × Int × Int × Int × Int × Int × T4t) (x30 : Bool) (r : T1t) : Prop :=
  ((x30 = true → tree_plain_j1 nv1 nv1.2.1 nv1.2.2.1 0 0 0 (Arr.rep 4 (0 : UInt64)) r) ∧ (¬ (x30 = true) → ((nv1.1 = 4 → tree_plain_j1 nv1 nv1.2.1 0 nv1.2.2.2.1 nv1.2.2.2.2.1 0 (Arr.rep 4 (0 : UInt64)) r) ∧ (¬ (nv1.1 = 4) → ((nv1.1 = 5 → tree_plain_j1 nv1 nv1.2.1 0 0 0 nv1.2.2.2.2.2.1 (Arr.rep 4 (0 : UInt64)) r) ∧ (¬ (nv1.1 = 5) → ((nv1.1 = 6 → tree_plain_j1 nv1 0 0 0 0 nv1.2.2.2.2.2.1 (Arr.rep 4 (0 : UInt64)) r) ∧ (¬ (nv1.1 = 6) → tree_plain_j1 nv1 0 0 0 0 0 (Arr.rep 4 (0 : UInt64)) r))))))))
def tree_plain_R (nv1 : Int × Int × Int × Int × Int × Int × T4t) (r : T1t) : Prop :=
  ((nv1.1 = 1 → tree_plain_j1 nv1 0 0 0 0 0 nv1.2.2.2.2.2.2 r) ∧ (¬ (nv1.1 = 1) → ((nv1.1 = 2 → tree_plain_j2 nv1 (decide (nv1.1 = 2)) r) ∧ (¬ (nv1.1 = 2) → tree_plain_j2 nv1 (decide (nv1.1 = 3)) r))))
set_option maxHeartbeats 4000000 in
theorem k1_ ⦃nv1 : Int × Int × Int × Int × Int × Int × T4t⦄ ⦃r : T1t⦄ (h : tree_plain_R nv1 r) : Cn Try.prog 54 [.agg (E_palinode_api_Node nv1)] [] [] (Ret (.agg (E_palinode_api_Node r))) := by
 refine xenterN Try.func54 rfl rfl (by kernel_rfl) fun g hg=>?_;simp only [Try.ntmps54,slots];refine wn_ 2 h fun h=>?_;refine xbox rfl rfl rfl rfl fun b1 => ?_;refine xalloc InfC.h rfl rfl fun b2 => ?_;refine xreb 0 ([iv 0, iv 0, iv 0, iv 0, iv 0, iv 0] ++ (List.map ew ((Arr.rep 4 (0 : UInt64))).l).flatten) rfl rfl ?_;refine wn_ 6 h fun h=>?_
 refine vp_ (pv_buildC (cs := ([iv nv1.1, iv 0, iv 0, iv 0, iv 0, iv 0] ++ (List.map ew ((Arr.rep 4 (0 : UInt64))).l).flatten)) StrC.h rfl (by refine fill_step [] [iv 0] ([iv 0, iv 0, iv 0, iv 0, iv 0] ++ (List.map ew ((Arr.rep 4 (0 : UInt64))).l).flatten) sq_ sl_ sl_ sl_ rfl rfl ?_; exact congrArg some sq_)) ?_
 refine xalloc InfC.h rfl rfl fun b3 => ?_;refine xreb 0 ([iv 0, iv 0, iv 0, iv 0, iv 0, iv 0] ++ (List.map ew ((Arr.rep 4 (0 : UInt64))).l).flatten) rfl rfl ?_;refine xstoreQ 0 [] ([iv 0, iv 0, iv 0, iv 0, iv 0, iv 0] ++ (List.map ew ((Arr.rep 4 (0 : UInt64))).l).flatten) [] ([iv nv1.1, iv 0, iv 0, iv 0, iv 0, iv 0] ++ (List.map ew ((Arr.rep 4 (0 : UInt64))).l).flatten) ShpC.h rfl rfl rfl rfl rfl ?_
 refine wn_ 2 h fun h=>?_;refine xseqM (fun σ=>∃ f19 f20 f21 f22 f23 f24, tree_plain_j1 nv1 f19 f20 f21 f22 f23 f24 r ∧ σ=⟨[(2, pw b2), (3, pw b3)], [⟨b3, 42, ([iv nv1.1, iv f19, iv f20, iv f21, iv f22, iv f23] ++ (List.map ew f24.l).flatten)⟩, ⟨b2, 42, ([iv 0, iv 0, iv 0, iv 0, iv 0, iv 0] ++ (List.map ew ((Arr.rep 4 (0 : UInt64))).l).flatten)⟩], []⟩) ?_ ?_
 ·refine i_ h (fun h=>?_) fun h=>?_
  ·refine wn_ 2 h fun h=>?_;refine v_ (qv_loadP 2 [iv nv1.1, iv nv1.2.1, iv nv1.2.2.1, iv nv1.2.2.2.1, iv nv1.2.2.2.2.1, iv nv1.2.2.2.2.2.1] ((List.map ew nv1.2.2.2.2.2.2.l).flatten) [] sq_ sl_ sl_ (part_all (seg_lenE (by rfl))) ShpC.h rfl rfl) ?_;refine vp_ (qv_fieldAddrB FldC.h rfl) ?_;refine xstoreQ 0 [iv nv1.1, iv 0, iv 0, iv 0, iv 0, iv 0] ((List.map ew ((Arr.rep 4 (0 : UInt64))).l).flatten) [] ([iv nv1.1, iv 0, iv 0, iv 0, iv 0, iv 0] ++ (List.map ew nv1.2.2.2.2.2.2.l).flatten) ShpC.h rfl rfl rfl rfl rfl ?_
   exact m_ h
  refine xseqM (fun σ=>∃ x30, tree_plain_j2 nv1 x30 r ∧ σ=⟨[(1, pw b1), (2, pw b2), (3, pw b3), (8, iv nv1.1), (14, bv x30)], [⟨b3, 42, ([iv nv1.1, iv 0, iv 0, iv 0, iv 0, iv 0] ++ (List.map ew ((Arr.rep 4 (0 : UInt64))).l).flatten)⟩, ⟨b2, 42, ([iv 0, iv 0, iv 0, iv 0, iv 0, iv 0] ++ (List.map ew ((Arr.rep 4 (0 : UInt64))).l).flatten)⟩, ⟨b1, 42, (E_palinode_api_Node nv1)⟩], []⟩) ?_ ?_
  ·refine i_ h (fun h=>?_) fun h=>?_
   ·exact m_ h
   exact m_ h
  rintro _ ⟨x30,h,rfl⟩;refine i_ h (fun h=>?_) fun h=>?_
  ·refine xregionD (m := 8) (by kernel_rfl) rfl ?_;refine o_ [0,2,1,4] ?_;refine xfl0 [⟨3, 20, iv nv1.2.2.1⟩] 3 ?_;refine xflstep 5 (by kernel_rfl) rfl (.cons rfl rfl rfl (fun _ => rfl) (fun _ => qv_loadB 2 ShpC.h rfl rfl rfl rfl) .nil) fun D l td hR => ?_;refine wstore 0 ShpC.h rfl rfl rfl rfl rfl rfl rfl ?_;refine xflgo0 hR ?_;refine xflend (l' := #[true, true, true, true, true, true, false, false]) (by kernel_rfl) (.cons rfl rfl rfl (fun _ => rfl) (fun _ => qv_loadB 2 ShpC.h rfl rfl rfl rfl) .nil) (by kernel_rfl) rfl (by kernel_rfl) (by kernel_rfl) ?_
   simp only [List.nil_append, List.cons_append, List.map_cons, List.map_nil];refine o_ [6] ?_;refine xpstep (i := 7) (by kernel_rfl) rfl ?_;refine wstore 0 ShpC.h rfl rfl rfl rfl rfl rfl rfl ?_;refine xpdone (by kernel_rfl) ?_;exact m_ h
  refine i_ h (fun h=>?_) fun h=>?_
  ·refine xregionD (m := 12) (by kernel_rfl) rfl ?_;refine xpcut 1 #[true, true, true, true, true, true, true, true, true, true, true, false] (fun σ=>σ=⟨[(2, pw b2), (3, pw b3), (30, iv nv1.2.2.2.2.1), (33, .v (.pointer (some ⟨b3, 4, none⟩)))], [⟨b3, 42, ([iv nv1.1, iv nv1.2.1, iv 0, iv nv1.2.2.2.1, iv 0, iv 0] ++ (List.map ew ((Arr.rep 4 (0 : UInt64))).l).flatten)⟩, ⟨b2, 42, ([iv 0, iv 0, iv 0, iv 0, iv 0, iv 0] ++ (List.map ew ((Arr.rep 4 (0 : UInt64))).l).flatten)⟩], []⟩) ?_ (fun key37=>?_)
   ·rintro _ rfl;refine xpstep (i := 11) (by kernel_rfl) rfl ?_;refine wstore 0 ShpC.h rfl rfl rfl rfl rfl rfl rfl ?_;refine xpdone (by kernel_rfl) ?_;exact m_ h
   refine o_ [0,2,4,1,6] ?_;refine xpstepN (is := [3, 5, 7]) (by kernel_rfl) (by simp) ?_;intro i hi; simp only [List.mem_cons, List.not_mem_nil, or_false] at hi; rcases hi with rfl | rfl | rfl
   ·refine ⟨_, rfl, ?_⟩;refine wv_ (qv_loadB 2 ShpC.h rfl rfl rfl rfl) ?_;refine xfl0 [⟨5, 30, iv nv1.2.2.2.2.1⟩] 5 ?_;refine xflstep 7 (by kernel_rfl) rfl (.cons rfl rfl rfl (fun _ => rfl) (fun _ => qv_loadB 2 ShpC.h rfl rfl rfl rfl) .nil) fun D l td hR => ?_;refine wstore 0 ShpC.h rfl rfl rfl rfl rfl rfl rfl ?_;refine xflgo0 hR ?_;refine xflval 8 (by kernel_rfl) rfl (fun _ => qv_fieldAddrB FldC.h rfl) (fun _ => rfl) rfl (by kernel_rfl) (fun _ _ _ _ h => h) ?_
    refine xflstep 9 (by kernel_rfl) rfl (.cons rfl rfl rfl (fun _ => rfl) (fun _ => qv_loadB 2 ShpC.h rfl rfl rfl rfl) .nil) fun D l td hR => ?_;refine wstore 0 ShpC.h rfl rfl rfl rfl rfl rfl rfl ?_;refine xflgo0 hR ?_;refine xflend (l' := #[true, true, true, true, true, true, true, true, true, true, false, false]) (by kernel_rfl) (.cons rfl rfl rfl (fun _ => rfl) (fun _ => qv_loadB 2 ShpC.h rfl rfl rfl rfl) .nil) (by kernel_rfl) rfl (by kernel_rfl) (by kernel_rfl) ?_
    simp only [List.nil_append, List.cons_append, List.map_cons, List.map_nil];refine o_ [10] ?_;exact xpuse key37 rfl ⟨lk_, sm_⟩ rfl (by kernel_rfl)
   ·refine ⟨_, rfl, ?_⟩;refine wv_ (qv_loadB 2 ShpC.h rfl rfl rfl rfl) ?_;refine xfl0 [⟨3, 28, iv nv1.2.2.2.1⟩] 5 ?_;refine xflstep 7 (by kernel_rfl) rfl (.cons rfl rfl rfl (fun _ => rfl) (fun _ => qv_loadB 2 ShpC.h rfl rfl rfl rfl) .nil) fun D l td hR => ?_;refine wstore 0 ShpC.h rfl rfl rfl rfl rfl rfl rfl ?_;refine xflgo0 hR ?_;refine xflend (l' := #[true, true, true, true, true, true, true, true, false, false, false, false]) (by kernel_rfl) (.cons rfl rfl rfl (fun _ => rfl) (fun _ => qv_loadB 2 ShpC.h rfl rfl rfl rfl) .nil) (by kernel_rfl) rfl (by kernel_rfl) (by kernel_rfl) ?_
    simp only [List.nil_append, List.cons_append, List.map_cons, List.map_nil];refine o_ [8] ?_;refine xpstep (i := 9) (by kernel_rfl) rfl ?_;refine wstore 0 ShpC.h rfl rfl rfl rfl rfl rfl rfl ?_;refine o_ [10] ?_;exact xpuse key37 rfl ⟨lk_, sm_⟩ rfl (by kernel_rfl)
   ·refine ⟨_, rfl, ?_⟩;refine wstore 0 ShpC.h rfl rfl rfl rfl rfl rfl rfl ?_;refine o_ [3,8] ?_;refine xfl0 [⟨5, 30, iv nv1.2.2.2.2.1⟩] 3 ?_;refine xflstep 9 (by kernel_rfl) rfl (.cons rfl rfl rfl (fun _ => rfl) (fun _ => qv_loadB 2 ShpC.h rfl rfl rfl rfl) .nil) fun D l td hR => ?_;refine wstore 0 ShpC.h rfl rfl rfl rfl rfl rfl rfl ?_;refine xflgo0 hR ?_;refine xflend (l' := #[true, true, true, true, true, true, true, true, true, true, false, false]) (by kernel_rfl) (.cons rfl rfl rfl (fun _ => rfl) (fun _ => qv_loadB 2 ShpC.h rfl rfl rfl rfl) .nil) (by kernel_rfl) rfl (by kernel_rfl) (by kernel_rfl) ?_
    simp only [List.nil_append, List.cons_append, List.map_cons, List.map_nil];refine o_ [10] ?_;exact xpuse key37 rfl ⟨lk_, sm_⟩ rfl (by kernel_rfl)
  refine i_ h (fun h=>?_) fun h=>?_
  ·refine xregionD (m := 8) (by kernel_rfl) rfl ?_;refine o_ [0,2,1,4] ?_;refine xfl0 [⟨3, 39, iv nv1.2.2.2.2.2.1⟩] 3 ?_;refine xflstep 5 (by kernel_rfl) rfl (.cons rfl rfl rfl (fun _ => rfl) (fun _ => qv_loadB 2 ShpC.h rfl rfl rfl rfl) .nil) fun D l td hR => ?_;refine wstore 0 ShpC.h rfl rfl rfl rfl rfl rfl rfl ?_;refine xflgo0 hR ?_;refine xflend (l' := #[true, true, true, true, true, true, false, false]) (by kernel_rfl) (.cons rfl rfl rfl (fun _ => rfl) (fun _ => qv_loadB 2 ShpC.h rfl rfl rfl rfl) .nil) (by kernel_rfl) rfl (by kernel_rfl) (by kernel_rfl) ?_
   simp only [List.nil_append, List.cons_append, List.map_cons, List.map_nil];refine o_ [6] ?_;refine xpstep (i := 7) (by kernel_rfl) rfl ?_;refine wstore 0 ShpC.h rfl rfl rfl rfl rfl rfl rfl ?_;refine xpdone (by kernel_rfl) ?_;exact m_ h
  refine i_ h (fun h=>?_) fun h=>?_
  ·exact m_ h
  exact m_ h
 rintro _ ⟨f19,f20,f21,f22,f23,f24,h,rfl⟩;refine wn_ 2 h fun h=>?_;refine v_ (qv_loadP 0 [] ([iv nv1.1, iv f19, iv f20, iv f21, iv f22, iv f23] ++ (List.map ew f24.l).flatten) [] sq_ sl_ sl_ (part_all sl_) ShpC.h rfl rfl) ?_;refine xstoreQ 1 [] ([iv 0, iv 0, iv 0, iv 0, iv 0, iv 0] ++ (List.map ew ((Arr.rep 4 (0 : UInt64))).l).flatten) [] ([iv nv1.1, iv f19, iv f20, iv f21, iv f22, iv f23] ++ (List.map ew f24.l).flatten) ShpC.h rfl rfl rfl rfl rfl ?_
 exact rl_ h hg
def tree_parts_j2 (nv1 : Int × Int × Int × Int × Int × Int × T4t) (x29 : Bool) (r : (List Int)) : Prop :=
  ((x29 = true → r = [nv1.2.1]) ∧ (¬ (x29 = true) → r = ([] : List Int)))
def tree_parts_j1 (nv1 : Int × Int × Int × Int × Int × Int × T4t) (x21 : Bool) (r : (List Int)) : Prop :=
  ((x21 = true → r = [nv1.2.1, nv1.2.2.1]) ∧ (¬ (x21 = true) → ((nv1.1 = 4 → tree_parts_j2 nv1 (decide (nv1.1 = 4)) r) ∧ (¬ (nv1.1 = 4) → tree_parts_j2 nv1 (decide (nv1.1 = 5)) r))))
def tree_parts_R (nv1 : Int × Int × Int × Int × Int × Int × T4t) (r : (List Int)) : Prop :=
  ((nv1.1 = 2 → tree_parts_j1 nv1 (decide (nv1.1 = 2)) r) ∧ (¬ (nv1.1 = 2) → tree_parts_j1 nv1 (decide (nv1.1 = 3)) r))
set_option maxHeartbeats 4000000 in
theorem k2_ ⦃nv1 : Int × Int × Int × Int × Int × Int × T4t⦄ ⦃r : (List Int)⦄ (h : tree_parts_R nv1 r) : Cn Try.prog 38 [.agg (E_palinode_api_Node nv1)] [] [] (RetM 1 3 ei r) := by
 refine xenterN Try.func38 rfl rfl (by kernel_rfl) fun g hg=>?_;simp only [Try.ntmps38,slots];refine wn_ 2 h fun h=>?_;refine xbox rfl rfl rfl rfl fun b1 => ?_;refine wn_ 11 h fun h=>?_;refine xseqM (fun σ=>∃ x21, tree_parts_j1 nv1 x21 r ∧ σ=⟨[(1, pw b1), (4, iv nv1.1), (5, bv x21)], [⟨b1, 42, (E_palinode_api_Node nv1)⟩], []⟩) ?_ ?_
 ·refine i_ h (fun h=>?_) fun h=>?_
  ·exact m_ h
  exact m_ h
 rintro _ ⟨x21,h,rfl⟩;refine i_ h (fun h=>?_) fun h=>?_
 ·refine wn_ 6 h fun h=>?_;refine xbuildSliceM (f := ei) [nv1.2.1, nv1.2.2.1] UndC.h InfC.h rfl rfl wr_ rfl rfl rfl rfl fun s12 => ?_;exact r_ h hg
 refine xseqM (fun σ=>∃ x29, tree_parts_j2 nv1 x29 r ∧ σ=⟨[(1, pw b1), (13, bv x29)], [⟨b1, 42, (E_palinode_api_Node nv1)⟩], []⟩) ?_ ?_
 ·refine i_ h (fun h=>?_) fun h=>?_
  ·exact m_ h
  exact m_ h
 rintro _ ⟨x29,h,rfl⟩;refine i_ h (fun h=>?_) fun h=>?_
 ·refine wn_ 4 h fun h=>?_;refine xbuildSliceM (f := ei) [nv1.2.1] UndC.h InfC.h rfl rfl wr_ rfl rfl rfl rfl fun s18 => ?_;exact r_ h hg
 exact r_ h hg
def tree_isNode_c1_R (o1 : Int) (k2 : Int) (r : Bool) : Prop :=
  ((k2 < 0 → r = true) ∧ (¬ (k2 < 0) → r = (decide (o1 ≤ k2))))
set_option maxHeartbeats 4000000 in
theorem k3_ ⦃o1 : Int⦄ ⦃k2 : Int⦄ ⦃r : Bool⦄ (h : tree_isNode_c1_R o1 k2 r) (bx0 : Nat) : Cn Try.prog 56 [iv k2, pw bx0] [⟨bx0, 3, [iv o1]⟩] [] fun rr bx tk=>rr=bv r ∧ bx=[⟨bx0, 3, [iv o1]⟩] ∧ tk=[] := by
 refine xenterN Try.func56 rfl rfl (by kernel_rfl) fun g hg=>?_;simp only [Try.ntmps56,slots];refine is_ 6 h (fun h=>?_) fun h=>?_
 ·exact r_ h hg
 exact r_ h hg
def slices_IndexFunc_l1 (sv2 : List Int) (o1 : Int) (ag1 : (Int) → Prop) (x62 : Int) (r : Int) : Prop :=
  ((x62 < (sv2.length : Int) → 0 ≤ (x62 : Int) ∧ ∃ y85 : Int, sv2[(x62 : Int).toNat]? = some y85 ∧ ∃ y88 : Bool, tree_isNode_c1_R o1 y85 y88 ∧ ((y88 = true → r = x62) ∧ (¬ (y88 = true) → InR (x62 + 1) ∧ ag1 (x62 + 1)))) ∧ (¬ (x62 < (sv2.length : Int)) → r = (-1)))
def slices_IndexFunc_R (o1 : Int) (sv2 : List Int) (r : Int) : Prop :=
  LoopR (fun ag1 s => slices_IndexFunc_l1 sv2 o1 ag1 s r) 0
set_option maxHeartbeats 4000000 in
theorem k4_ ⦃o1 : Int⦄ ⦃sv2 : List Int⦄ ⦃r : Int⦄ (h : slices_IndexFunc_R o1 sv2 r) (bx0 : Nat) : Cn Try.prog 68 [.sl 1 none (List.map ei sv2), .v (.func (.func 56) #[] #[.pointer (some ⟨bx0, 0, none⟩)])] [⟨bx0, 3, [iv o1]⟩] [] fun rr bx tk=>rr=iv r ∧ bx=[⟨bx0, 3, [iv o1]⟩] ∧ tk=[] := by
 refine xenterN Try.func68 rfl rfl (by kernel_rfl) fun g hg=>?_;simp only [Try.ntmps68,slots];refine wn_ 14 h fun h=>?_;obtain ⟨Inv,⟨m0,hI⟩,hS⟩ := lq_ h;refine lp_ hI (fun σ m=>∃ x62, Inv x62 m ∧ σ=⟨[(0, .sl 1 none (List.map ei sv2)), (1, .v (.func (.func 56) #[] #[.pointer (some ⟨bx0, 0, none⟩)])), (7, iv ((sv2.length : Int))), (8, iv x62)], [⟨bx0, 3, [iv o1]⟩], []⟩) ?_
 rintro _ m ⟨x62,hI,rfl⟩;obtain ⟨ag1,hag1,h⟩ := lpo_ hS hI;refine i_ h (fun h=>?_) fun h=>?_
 ·refine x_ h fun y85 h=>?_;refine v_ (qv_load ShpC.h rfl rfl rfl) ?_;obtain ⟨y88, h87, h⟩ := h;refine xcallV (sa := [iv y85]) (Fb := []) (Ft := []) ((k3_ h87 bx0).c) Try.func56 (by kernel_rfl) rfl rfl (.cons rfl (.refl _) .nil) rfl sm_ rfl rfl ?_;rintro _ _ _ ⟨rfl, rfl, rfl⟩;simp only [List.nil_append, List.cons_append];refine i_ h (fun h=>?_) fun h=>?_
  ·exact r_ h hg
  exact g_ h hag1
 exact r_ h hg
def slices_ContainsFunc_R (o1 : Int) (sv2 : List Int) (r : Bool) : Prop :=
  ∃ y4 : Int, slices_IndexFunc_R o1 sv2 y4 ∧ r = (decide (0 ≤ y4))
set_option maxHeartbeats 4000000 in
theorem k5_ ⦃o1 : Int⦄ ⦃sv2 : List Int⦄ ⦃r : Bool⦄ (h : slices_ContainsFunc_R o1 sv2 r) (bx0 : Nat) : Cn Try.prog 55 [.sl 1 none (List.map ei sv2), .v (.func (.func 56) #[] #[.pointer (some ⟨bx0, 0, none⟩)])] [⟨bx0, 3, [iv o1]⟩] [] fun rr bx tk=>rr=bv r ∧ bx=[⟨bx0, 3, [iv o1]⟩] ∧ tk=[] := by
 refine xenterN Try.func55 rfl rfl (by kernel_rfl) fun g hg=>?_;simp only [Try.ntmps55,slots];refine c0_ k4_ h fun y4 h=>?_;exact r_ h hg
def tree_isTimes_j1 (x12 : Bool) (r : Bool) : Prop :=
  r = x12
def tree_isTimes_R (lo1 : Int) (hi2 : Int) (r : Bool) : Prop :=
  tree_isTimes_j1 ((decide (0 ≤ lo1)) && ((decide (lo1 ≤ 255)) && ((decide (hi2 = (-1))) || ((decide (lo1 ≤ hi2)) && (decide (hi2 ≤ 255)))))) r
set_option maxHeartbeats 4000000 in
theorem k6_ ⦃lo1 : Int⦄ ⦃hi2 : Int⦄ ⦃r : Bool⦄ (h : tree_isTimes_R lo1 hi2 r) : Cn Try.prog 57 [iv lo1, iv hi2] [] [] (Ret (bv r)) := by
 refine xenterN Try.func57 rfl rfl (by kernel_rfl) fun g hg=>?_;simp only [Try.ntmps57,slots];unfold tree_isTimes_R at h;refine wn_ 5 h fun h=>?_;refine xseqM (fun σ=>∃ x12, tree_isTimes_j1 x12 r ∧ σ=⟨[(4, bv x12)], [], []⟩) ?_ ?_
 ·refine ks_ 7 h (fun h=>?_) fun h=>?_
  ·refine ks_ 11 h (fun h=>?_) fun h=>?_
   ·refine ks_ 14 h (fun h=>?_) fun h=>?_
    ·exact m_ h
    refine ks_ 18 h (fun h=>?_) fun h=>?_
    ·exact m_ h
    exact m_ h
   exact m_ h
  exact m_ h
 rintro _ ⟨x12,h,rfl⟩;exact r_ h hg
def tree_isNode_j3 (nv1 : Int × Int × Int × Int × Int × Int × T4t) (groups3 : Int) (x85 : Bool) (r : Bool) : Prop :=
  ((x85 = true → ((1 ≤ nv1.2.2.2.2.2.1 → r = (decide (nv1.2.2.2.2.2.1 ≤ groups3))) ∧ (¬ (1 ≤ nv1.2.2.2.2.2.1) → r = false))) ∧ (¬ (x85 = true) → r = true))
def tree_isNode_j2 (nv1 : Int × Int × Int × Int × Int × Int × T4t) (groups3 : Int) (x76 : Bool) (r : Bool) : Prop :=
  ((x76 = true → r = false) ∧ (¬ (x76 = true) → tree_isNode_j3 nv1 groups3 ((decide (nv1.1 = 5)) || (decide (nv1.1 = 6))) r))
def tree_isNode_j1 (nv1 : Int × Int × Int × Int × Int × Int × T4t) (atv2 : Int) (groups3 : Int) (x57 : Bool) (r : Bool) : Prop :=
  ((x57 = true → r = false) ∧ (¬ (x57 = true) → ∃ y67 : (List Int), tree_parts_R nv1 y67 ∧ ∃ y70 : Bool, slices_ContainsFunc_R atv2 y67 y70 ∧ ((y70 = true → r = false) ∧ (¬ (y70 = true) → ((nv1.1 = 4 → ∃ y80 : Bool, tree_isTimes_R nv1.2.2.2.1 nv1.2.2.2.2.1 y80 ∧ tree_isNode_j2 nv1 groups3 (!y80) r) ∧ (¬ (nv1.1 = 4) → tree_isNode_j2 nv1 groups3 false r))))))
def tree_isNode_R (nv1 : Int × Int × Int × Int × Int × Int × T4t) (atv2 : Int) (groups3 : Int) (r : Bool) : Prop :=
  ((nv1.1 < 0 → tree_isNode_j1 nv1 atv2 groups3 true r) ∧ (¬ (nv1.1 < 0) → ((8 < nv1.1 → tree_isNode_j1 nv1 atv2 groups3 true r) ∧ (¬ (8 < nv1.1) → ∃ y63 : T1t, tree_plain_R nv1 y63 ∧ tree_isNode_j1 nv1 atv2 groups3 (!(decide ((nv1 : Int × Int × Int × Int × Int × Int × T4t) = y63))) r))))
set_option maxHeartbeats 4000000 in
theorem k7_ ⦃nv1 : Int × Int × Int × Int × Int × Int × T4t⦄ ⦃atv2 : Int⦄ ⦃groups3 : Int⦄ ⦃r : Bool⦄ (h : tree_isNode_R nv1 atv2 groups3 r) : Cn Try.prog 37 [.agg (E_palinode_api_Node nv1), iv atv2, iv groups3] [] [] (Ret (bv r)) := by
 refine xenterN Try.func37 rfl rfl (by kernel_rfl) fun g hg=>?_;simp only [Try.ntmps37,slots];refine wn_ 2 h fun h=>?_;refine xbox rfl rfl rfl rfl fun b3 => ?_;refine xbox rfl rfl rfl rfl fun b4 => ?_;refine wn_ 5 h fun h=>?_;refine xseqM (fun σ=>∃ x57, tree_isNode_j1 nv1 atv2 groups3 x57 r ∧ σ=⟨[(2, iv groups3), (3, pw b3), (4, pw b4), (7, bv x57)], [⟨b4, 3, [iv atv2]⟩, ⟨b3, 42, (E_palinode_api_Node nv1)⟩], []⟩) ?_ ?_
 ·refine xregionD (m := 15) (by kernel_rfl) rfl ?_;refine o_ [0,1,2,3] ?_;refine ip_ 11 h (fun h=>?_) fun h=>?_
  ·refine o_ [4,5,6,7,8,9,10,11,12,13,14] ?_;refine xpdone (by kernel_rfl) ?_;exact m_ h
  refine o_ [4,5,6,7,8] ?_;refine ip_ 16 h (fun h=>?_) fun h=>?_
  ·refine o_ [9,10,11,12,13,14] ?_;refine xpdone (by kernel_rfl) ?_;exact m_ h
  obtain ⟨y63, h62, h⟩ := h;refine xpvalE 10 [9] rfl (qv_loadP 1 [] (E_palinode_api_Node nv1) [] sq_ sl_ sl_ (part_all sl_) ShpC.h rfl rfl) rfl rfl (by kernel_rfl) (by kernel_rfl) (by kernel_rfl) (fun _ _ _ _ h => h) ?_
  refine xfl0 [⟨9, 17, .agg (E_palinode_api_Node nv1)⟩] 4 ?_;refine xflstep 11 (by kernel_rfl) rfl (.cons rfl rfl rfl (fun _ => rfl) (fun _ => qv_loadP 1 [] (E_palinode_api_Node nv1) [] sq_ sl_ sl_ (part_all sl_) ShpC.h rfl rfl) .nil) fun D l td hR => ?_
  refine wz0_ k1_ h62 ?_;refine xflgo1 hR ?_;refine xflend (l' := #[true, true, true, true, true, true, true, true, true, true, true, true, false, false, false]) (by kernel_rfl) (.cons rfl rfl rfl (fun _ => rfl) (fun _ => qv_loadP 1 [] (E_palinode_api_Node nv1) [] sq_ sl_ sl_ (part_all sl_) ShpC.h rfl rfl) .nil) (by kernel_rfl) rfl (by kernel_rfl) (by kernel_rfl) ?_
  simp only [List.nil_append, List.cons_append, List.map_cons, List.map_nil];refine pl_ 12 rfl (pv_neAgg (f := E_palinode_api_Node) (a := nv1) (b := y63) eqc_42 (by decide) (by kernel_rfl) ev_ ev_) ?_;refine o_ [13,14] ?_;refine xpdone (by kernel_rfl) ?_;exact m_ h
 rintro _ ⟨x57,h,rfl⟩;refine i_ h (fun h=>?_) fun h=>?_
 ·exact r_ h hg
 refine wn_ 2 h fun h=>?_;refine v_ (qv_loadP 1 [] (E_palinode_api_Node nv1) [] sq_ sl_ sl_ (part_all sl_) ShpC.h rfl rfl) ?_;refine z1_ k2_ h fun y67 i68 h=>?_;refine vp_ (pv_makeFuncC rfl) ?_;refine c0_ k5_ h fun y70 h=>?_
 refine i_ h (fun h=>?_) fun h=>?_
 ·exact r_ h hg
 refine xseqM (fun σ=>∃ x76, tree_isNode_j2 nv1 groups3 x76 r ∧ σ=⟨[(2, iv groups3), (3, pw b3), (27, bv x76)], [⟨b3, 42, (E_palinode_api_Node nv1)⟩], []⟩) ?_ ?_
 ·refine is_ 31 h (fun h=>?_) fun h=>?_
  ·refine z0_ k6_ h fun y80 h=>?_;exact m_ h
  exact m_ h
 rintro _ ⟨x76,h,rfl⟩;refine i_ h (fun h=>?_) fun h=>?_
 ·exact r_ h hg
 refine xseqM (fun σ=>∃ x85, tree_isNode_j3 nv1 groups3 x85 r ∧ σ=⟨[(2, iv groups3), (3, pw b3), (39, bv x85)], [⟨b3, 42, (E_palinode_api_Node nv1)⟩], []⟩) ?_ ?_
 ·refine ks_ 43 h (fun h=>?_) fun h=>?_
  ·exact m_ h
  exact m_ h
 rintro _ ⟨x85,h,rfl⟩;refine i_ h (fun h=>?_) fun h=>?_
 ·refine is_ 51 h (fun h=>?_) fun h=>?_
  ·exact r_ h hg
  exact r_ h hg
 exact r_ h hg
def tree_Builder_put_R (o1 : T3t × (List UInt8) × Int × T6t) (nv3 : Int × Int × Int × Int × Int × Int × T4t) (r : Int × T0t) : Prop :=
  ((1000 ≤ (o1.1.1.length : Int) → r = ((-1), o1)) ∧ (¬ (1000 ≤ (o1.1.1.length : Int)) → ∃ y28 : Bool, tree_isNode_R nv3 (o1.1.1.length : Int) o1.1.2 y28 ∧ ((¬ (y28 = true) → r = ((-1), o1)) ∧ (¬ (¬ (y28 = true)) → Room (o1.1.1.length + ([nv3]).length) 80 ∧ InR ((((o1.1.1 ++ [nv3])).length : Int) - 1) ∧ r = (((((o1.1.1 ++ [nv3])).length : Int) - 1), (((o1.1.1 ++ [nv3]), o1.1.2), o1.2.1, o1.2.2.1, o1.2.2.2))))))
set_option maxHeartbeats 4000000 in
theorem k8_ ⦃o1 : T3t × (List UInt8) × Int × T6t⦄ ⦃nv3 : Int × Int × Int × Int × Int × Int × T4t⦄ ⦃r : Int × T0t⦄ (h : tree_Builder_put_R o1 nv3 r) (bx0 : Nat) (ia2 : Option (Nat × Nat)) : Cn Try.prog 31 [pw bx0, .agg (E_palinode_api_Node nv3)] [⟨bx0, 50, ([.sl 10 (some ia2) (List.map E_palinode_api_Node o1.1.1), iv o1.1.2, sb o1.2.1, iv o1.2.2.1] ++ (List.map eB o1.2.2.2.l).flatten)⟩] [⟨ia2, 42, 10, o1.1.1.length⟩] fun rr bx tk=>∃ j1, rr=iv r.1 ∧ bx=[⟨bx0, 50, ([.sl 10 (some j1) (List.map E_palinode_api_Node r.2.1.1), iv r.2.1.2, sb r.2.2.1, iv r.2.2.2.1] ++ (List.map eB r.2.2.2.2.l).flatten)⟩] ∧ tk=[⟨j1, 42, 10, r.2.1.1.length⟩] := by
 refine xenterN Try.func31 rfl rfl (by kernel_rfl) fun g hg=>?_;simp only [Try.ntmps31,slots];refine wn_ 2 h fun h=>?_;refine xbox rfl rfl rfl rfl fun b3 => ?_;refine wn_ 5 h fun h=>?_;refine xregionD (m := 20) (by kernel_rfl) rfl ?_;refine o_ [0,1,2,3,4,5,6] ?_;refine ip_ 11 h (fun h=>?_) fun h=>?_
 ·refine o_ [7,8,9,10,11,12,13,14,15,16,17,18,19] ?_;refine xpdone (by kernel_rfl) ?_;exact r_ h hg
 obtain ⟨y28, h27, h⟩ := h;refine o_ [8,9,10,13,14,15] ?_;refine xpvalE 7 [11, 12, 16] rfl (qv_loadP 0 [] (E_palinode_api_Node nv3) [] sq_ sl_ sl_ (part_all sl_) ShpC.h rfl rfl) rfl rfl (by kernel_rfl) (by kernel_rfl) (by kernel_rfl) (fun _ _ _ _ h => h) ?_
 refine o_ [11,12,16] ?_;refine xpstep (i := 17) (by kernel_rfl) rfl ?_;refine wz0_ k7_ h27 ?_;refine o_ [18,19] ?_;refine xpdone (by kernel_rfl) ?_;refine i_ h (fun h=>?_) fun h=>?_
 ·exact r_ h hg
 refine wn_ 3 h fun h=>?_;refine xregionD (m := 11) (by kernel_rfl) rfl ?_;obtain ⟨h32, h⟩ := h;refine o_ [0,1,2,3,4] ?_;refine xpvalE 5 [] rfl (qv_loadP 0 [] (E_palinode_api_Node nv3) [] sq_ sl_ sl_ (part_all sl_) ShpC.h rfl rfl) rfl rfl (by kernel_rfl) (by kernel_rfl) (by kernel_rfl) (fun _ _ _ _ h => h) ?_
 refine xpstep (i := 6) (by kernel_rfl) rfl ?_;refine wbuildSliceME (f := E_palinode_api_Node) [nv3] UndC.h InfC.h rfl (.cons rfl (beq_of sl_) rfl rfl .nil) wr_ rfl rfl rfl rfl fun s31 => ?_;refine xpstep (i := 7) (by kernel_rfl) rfl ?_;refine wappendM (l := o1.1.1) (l2 := [nv3]) 1 h32 UndC.h InfC.h rfl rfl rfl (.refl _) rfl rfl rfl fun i33 => ?_;refine o_ [8,9] ?_;refine xpstep (i := 10) (by kernel_rfl) rfl ?_
 refine wstore 1 ShpC.h rfl rfl rfl rfl rfl rfl rfl ?_;refine xpdone (by kernel_rfl) ?_;exact r_ h hg
def tree_Builder_Bol_R (o1 : T3t × (List UInt8) × Int × T6t) (r : Int × T0t) : Prop :=
  ∃ y4 : Int × T0t, tree_Builder_put_R o1 (7, 0, 0, 0, 0, 0, (Arr.rep 4 (0 : UInt64))) y4 ∧ r = (y4.1, y4.2)
set_option maxHeartbeats 4000000 in
theorem k9_ ⦃o1 : T3t × (List UInt8) × Int × T6t⦄ ⦃r : Int × T0t⦄ (h : tree_Builder_Bol_R o1 r) (bx0 : Nat) (ia2 : Option (Nat × Nat)) : Cn Try.prog 21 [pw bx0] [⟨bx0, 50, ([.sl 10 (some ia2) (List.map E_palinode_api_Node o1.1.1), iv o1.1.2, sb o1.2.1, iv o1.2.2.1] ++ (List.map eB o1.2.2.2.l).flatten)⟩] [⟨ia2, 42, 10, o1.1.1.length⟩] fun rr bx tk=>∃ j1, rr=iv r.1 ∧ bx=[⟨bx0, 50, ([.sl 10 (some j1) (List.map E_palinode_api_Node r.2.1.1), iv r.2.1.2, sb r.2.2.1, iv r.2.2.2.1] ++ (List.map eB r.2.2.2.2.l).flatten)⟩] ∧ tk=[⟨j1, 42, 10, r.2.1.1.length⟩] := by
 refine xenterN Try.func21 rfl rfl (by kernel_rfl) fun g hg=>?_;simp only [Try.ntmps21,slots];refine wn_ 8 h fun h=>?_;refine vp_ (pv_buildC (cs := ([iv 7, iv 0, iv 0, iv 0, iv 0, iv 0] ++ (List.map ew ((Arr.rep 4 (0 : UInt64))).l).flatten)) StrC.h rfl (by refine fill_step [] [iv 0] ([iv 0, iv 0, iv 0, iv 0, iv 0] ++ (List.map ew ((Arr.rep 4 (0 : UInt64))).l).flatten) sq_ sl_ sl_ sl_ rfl rfl ?_; exact congrArg some sq_)) ?_
 refine c1_ k8_ h fun y4 i5 h=>?_;exact r_ h hg
def bre_parser_fail_R (o1 : T3t × (List UInt8) × Int × T6t) (e3 : Int) (r : T5t) : Prop :=
  r = [(o1.2.2.1, e3)]
set_option maxHeartbeats 4000000 in
theorem k10_ ⦃o1 : T3t × (List UInt8) × Int × T6t⦄ ⦃e3 : Int⦄ ⦃r : T5t⦄ (h : bre_parser_fail_R o1 e3 r) (bx0 : Nat) (ia2 : Option (Nat × Nat)) : Cn Try.prog 22 [pw bx0, iv e3] [⟨bx0, 50, ([.sl 10 (some ia2) (List.map E_palinode_api_Node o1.1.1), iv o1.1.2, sb o1.2.1, iv o1.2.2.1] ++ (List.map eB o1.2.2.2.l).flatten)⟩] [⟨ia2, 42, 10, o1.1.1.length⟩] fun rr bx tk=>rr=.pt (List.isEmpty r) (PC_palinode_bre_wrong r) ∧ bx=[⟨bx0, 50, ([.sl 10 (some ia2) (List.map E_palinode_api_Node o1.1.1), iv o1.1.2, sb o1.2.1, iv o1.2.2.1] ++ (List.map eB o1.2.2.2.l).flatten)⟩] ∧ tk=[⟨ia2, 42, 10, o1.1.1.length⟩] := by
 refine xenterN Try.func22 rfl rfl (by kernel_rfl) fun g hg=>?_;simp only [Try.ntmps22,slots];refine wn_ 12 h fun h=>?_;refine vp_ (pv_buildC StrC.h rfl rfl) ?_;refine xbox rfl rfl rfl rfl fun b11 => ?_;refine xfreezeB 0 11 rfl rfl ?_;exact r_ h hg
def tree_Builder_Empty_R (o1 : T3t × (List UInt8) × Int × T6t) (r : Int × T0t) : Prop :=
  ∃ y4 : Int × T0t, tree_Builder_put_R o1 (0, 0, 0, 0, 0, 0, (Arr.rep 4 (0 : UInt64))) y4 ∧ r = (y4.1, y4.2)
set_option maxHeartbeats 4000000 in
theorem k11_ ⦃o1 : T3t × (List UInt8) × Int × T6t⦄ ⦃r : Int × T0t⦄ (h : tree_Builder_Empty_R o1 r) (bx0 : Nat) (ia2 : Option (Nat × Nat)) : Cn Try.prog 35 [pw bx0] [⟨bx0, 50, ([.sl 10 (some ia2) (List.map E_palinode_api_Node o1.1.1), iv o1.1.2, sb o1.2.1, iv o1.2.2.1] ++ (List.map eB o1.2.2.2.l).flatten)⟩] [⟨ia2, 42, 10, o1.1.1.length⟩] fun rr bx tk=>∃ j1, rr=iv r.1 ∧ bx=[⟨bx0, 50, ([.sl 10 (some j1) (List.map E_palinode_api_Node r.2.1.1), iv r.2.1.2, sb r.2.2.1, iv r.2.2.2.1] ++ (List.map eB r.2.2.2.2.l).flatten)⟩] ∧ tk=[⟨j1, 42, 10, r.2.1.1.length⟩] := by
 refine xenterN Try.func35 rfl rfl (by kernel_rfl) fun g hg=>?_;simp only [Try.ntmps35,slots];refine wn_ 8 h fun h=>?_;refine vp_ (pv_buildC (cs := ([iv 0, iv 0, iv 0, iv 0, iv 0, iv 0] ++ (List.map ew ((Arr.rep 4 (0 : UInt64))).l).flatten)) StrC.h rfl (by refine fill_step [] [iv 0] ([iv 0, iv 0, iv 0, iv 0, iv 0] ++ (List.map ew ((Arr.rep 4 (0 : UInt64))).l).flatten) sq_ sl_ sl_ sl_ rfl rfl ?_; exact congrArg some sq_)) ?_
 refine c1_ k8_ h fun y4 i5 h=>?_;exact r_ h hg
def tree_Builder_fold_l1 (l4 : List Int) (kind3 : Int) (ag1 : (Int × Int × (List T1t) × Int × (List UInt8) × Int × T6t) → Prop) (atv141 : Int) (x142 : Int) (f143 : List T1t) (f145 : Int) (f146 : List UInt8) (f147 : Int) (f148 : Arr 10 (Bool)) (r : Int × T0t) : Prop :=
  ((x142 < (((l4.drop (1 : Int).toNat)).length : Int) → 0 ≤ (x142 : Int) ∧ ∃ y183 : Int, ((l4.drop (1 : Int).toNat))[(x142 : Int).toNat]? = some y183 ∧ ((atv141 = (-1) → r = (atv141, ((f143, f145), f146, f147, f148))) ∧ (¬ (atv141 = (-1)) → ∃ y190 : Int × T0t, tree_Builder_put_R ((f143, f145), f146, f147, f148) (kind3, atv141, y183, 0, 0, 0, (Arr.rep 4 (0 : UInt64))) y190 ∧ InR (x142 + 1) ∧ ag1 (y190.1, (x142 + 1), y190.2.1.1, y190.2.1.2, y190.2.2.1, y190.2.2.2.1, y190.2.2.2.2)))) ∧ (¬ (x142 < (((l4.drop (1 : Int).toNat)).length : Int)) → r = (atv141, ((f143, f145), f146, f147, f148))))
def tree_Builder_fold_R (o1 : T3t × (List UInt8) × Int × T6t) (kind3 : Int) (l4 : List Int) (r : Int × T0t) : Prop :=
  0 ≤ (0 : Int) ∧ ∃ y30 : Int, l4[(0 : Int).toNat]? = some y30 ∧ ((y30 < 0 → r = ((-1), o1)) ∧ (¬ (y30 < 0) → 0 ≤ (0 : Int) ∧ ∃ y34 : Int, l4[(0 : Int).toNat]? = some y34 ∧ (((o1.1.1.length : Int) ≤ y34 → r = ((-1), o1)) ∧ (¬ ((o1.1.1.length : Int) ≤ y34) → 0 ≤ (0 : Int) ∧ ∃ y39 : Int, l4[(0 : Int).toNat]? = some y39 ∧ (0 ≤ (1 : Int) ∧ (1 : Int) ≤ (l4.length : Int)) ∧ LoopR (fun ag1 s => tree_Builder_fold_l1 l4 kind3 ag1 s.1 s.2.1 s.2.2.1 s.2.2.2.1 s.2.2.2.2.1 s.2.2.2.2.2.1 s.2.2.2.2.2.2 r) (y39, 0, o1.1.1, o1.1.2, o1.2.1, o1.2.2.1, o1.2.2.2)))))
set_option maxHeartbeats 4000000 in
theorem k12_ ⦃o1 : T3t × (List UInt8) × Int × T6t⦄ ⦃kind3 : Int⦄ ⦃l4 : List Int⦄ ⦃r : Int × T0t⦄ (h : tree_Builder_fold_R o1 kind3 l4 r) (bx0 : Nat) (ia2 : Option (Nat × Nat)) : Cn Try.prog 36 [pw bx0, iv kind3, .sl 1 none (List.map ei l4)] [⟨bx0, 50, ([.sl 10 (some ia2) (List.map E_palinode_api_Node o1.1.1), iv o1.1.2, sb o1.2.1, iv o1.2.2.1] ++ (List.map eB o1.2.2.2.l).flatten)⟩] [⟨ia2, 42, 10, o1.1.1.length⟩] fun rr bx tk=>∃ j1, rr=iv r.1 ∧ bx=[⟨bx0, 50, ([.sl 10 (some j1) (List.map E_palinode_api_Node r.2.1.1), iv r.2.1.2, sb r.2.2.1, iv r.2.2.2.1] ++ (List.map eB r.2.2.2.2.l).flatten)⟩] ∧ tk=[⟨j1, 42, 10, r.2.1.1.length⟩] := by
 refine xenterN Try.func36 rfl rfl (by kernel_rfl) fun g hg=>?_;simp only [Try.ntmps36,slots];refine wn_ 7 h fun h=>?_;refine xregionD (m := 15) (by kernel_rfl) rfl ?_;obtain ⟨h31a, h⟩ := h;obtain ⟨y30, h31b, h⟩ := h;refine o_ [0] ?_;refine pl_ 1 rfl (pv_indexAddrM h31a h31b UndC.h ShpC.h rfl rfl) ?_;refine o_ [2,3,4] ?_;refine ip_ 14 h (fun h=>?_) fun h=>?_
 ·refine o_ [5,6,7,8,9,10,11,12,13,14] ?_;refine xpdone (by kernel_rfl) ?_;exact r_ h hg
 obtain ⟨h35a, h⟩ := h;obtain ⟨y34, h35b, h⟩ := h;refine o_ [5] ?_;refine pl_ 6 rfl (pv_indexAddrM h35a h35b UndC.h ShpC.h rfl rfl) ?_;refine o_ [8,9,10,7,11,12,13,14] ?_;refine xpdone (by kernel_rfl) ?_;refine i_ h (fun h=>?_) fun h=>?_
 ·exact r_ h hg
 refine x_ h fun y39 h=>?_;refine wn_ 14 h fun h=>?_;obtain ⟨Inv,⟨m0,hI⟩,hS⟩ := lq_ h;refine lp_ hI (fun σ m=>∃ atv141 x142 f143 f145 f146 f147 f148 i144, Inv (atv141, x142, f143, f145, f146, f147, f148) m ∧ σ=⟨[(0, pw bx0), (1, iv kind3), (7, iv atv141), (29, .sl 1 none (List.map ei ((l4.drop (1 : Int).toNat)))), (30, iv ((((l4.drop (1 : Int).toNat)).length : Int))), (31, iv x142)], [⟨bx0, 50, ([.sl 10 (some i144) (List.map E_palinode_api_Node f143), iv f145, sb f146, iv f147] ++ (List.map eB f148.l).flatten)⟩], [⟨i144, 42, 10, f143.length⟩]⟩) ?_
 rintro _ m ⟨atv141,x142,f143,f145,f146,f147,f148,i144,hI,rfl⟩;obtain ⟨ag1,hag1,h⟩ := lpo_ hS hI;refine i_ h (fun h=>?_) fun h=>?_
 ·refine x_ h fun y183 h=>?_;refine i_ h (fun h=>?_) fun h=>?_
  ·exact r_ h hg
  refine wn_ 7 h fun h=>?_;refine vp_ (pv_buildC (cs := ([iv kind3, iv atv141, iv y183, iv 0, iv 0, iv 0] ++ (List.map ew ((Arr.rep 4 (0 : UInt64))).l).flatten)) StrC.h rfl (by refine fill_step [] [iv 0] ([iv 0, iv 0, iv 0, iv 0, iv 0] ++ (List.map ew ((Arr.rep 4 (0 : UInt64))).l).flatten) sq_ sl_ sl_ sl_ rfl rfl ?_; refine fill_step [iv kind3] [iv 0] ([iv 0, iv 0, iv 0, iv 0] ++ (List.map ew ((Arr.rep 4 (0 : UInt64))).l).flatten) sq_ sl_ sl_ sl_ rfl rfl ?_; refine fill_step [iv kind3, iv atv141] [iv 0] ([iv 0, iv 0, iv 0] ++ (List.map ew ((Arr.rep 4 (0 : UInt64))).l).flatten) sq_ sl_ sl_ sl_ rfl rfl ?_; exact congrArg some sq_)) ?_
  refine c1_ k8_ h fun y190 i191 h=>?_;exact g_ h hag1
 exact r_ h hg
def tree_Builder_Cat_R (o1 : T3t × (List UInt8) × Int × T6t) (l3 : List Int) (r : Int × T0t) : Prop :=
  (((l3.length : Int) = 0 → ∃ y14 : Int × T0t, tree_Builder_Empty_R o1 y14 ∧ r = (y14.1, y14.2)) ∧ (¬ ((l3.length : Int) = 0) → ∃ y17 : Int × T0t, tree_Builder_fold_R o1 2 l3 y17 ∧ r = (y17.1, y17.2)))
set_option maxHeartbeats 4000000 in
theorem k13_ ⦃o1 : T3t × (List UInt8) × Int × T6t⦄ ⦃l3 : List Int⦄ ⦃r : Int × T0t⦄ (h : tree_Builder_Cat_R o1 l3 r) (bx0 : Nat) (ia2 : Option (Nat × Nat)) : Cn Try.prog 24 [pw bx0, .sl 1 none (List.map ei l3)] [⟨bx0, 50, ([.sl 10 (some ia2) (List.map E_palinode_api_Node o1.1.1), iv o1.1.2, sb o1.2.1, iv o1.2.2.1] ++ (List.map eB o1.2.2.2.l).flatten)⟩] [⟨ia2, 42, 10, o1.1.1.length⟩] fun rr bx tk=>∃ j1, rr=iv r.1 ∧ bx=[⟨bx0, 50, ([.sl 10 (some j1) (List.map E_palinode_api_Node r.2.1.1), iv r.2.1.2, sb r.2.2.1, iv r.2.2.2.1] ++ (List.map eB r.2.2.2.2.l).flatten)⟩] ∧ tk=[⟨j1, 42, 10, r.2.1.1.length⟩] := by
 refine xenterN Try.func24 rfl rfl (by kernel_rfl) fun g hg=>?_;simp only [Try.ntmps24,slots];refine i_ h (fun h=>?_) fun h=>?_
 ·refine c1_ k11_ h fun y14 i15 h=>?_;exact r_ h hg
 refine c1_ k12_ h fun y17 i18 h=>?_;exact r_ h hg
def class_with_R (sv1 : Arr 4 (UInt64)) (c2 : UInt8) (r : T4t) : Prop :=
  (64 : Int) ≠ 0 ∧ ∃ c4 : UInt8, (c4.toNat : Int) = IntKind.u8.wrap (((c2.toNat : Int)).tdiv 64) ∧ (0 ≤ ((c4.toNat : Int) : Int) ∧ ((c4.toNat : Int) : Int) < 4) ∧ ∃ y6 : UInt64, sv1.l[((c4.toNat : Int) : Int).toNat]? = some y6 ∧ (64 : Int) ≠ 0 ∧ ∃ c8 : UInt8, (c8.toNat : Int) = (((c2.toNat : Int)).tmod 64) ∧ (0 : Int) ≤ (c8.toNat : Int) ∧ ∃ c10 : UInt64, (c10.toNat : Int) = IntKind.u64.wrap ((1 : Int) * 2 ^ (min ((c8.toNat : Int) : Int).toNat IntKind.u64.bits)) ∧ ∃ c12 : UInt64, (c12.toNat : Int) = IntKind.u64.wrap (BitVec.ofInt IntKind.u64.bits (y6.toNat : Int) ||| BitVec.ofInt IntKind.u64.bits (c10.toNat : Int)).toNat ∧ (0 ≤ ((c4.toNat : Int) : Int) ∧ ((c4.toNat : Int) : Int) < 4) ∧ ∃ y14 : UInt64, sv1.l[((c4.toNat : Int) : Int).toNat]? = some y14 ∧ r = (Arr.set sv1 ((c4.toNat : Int) : Int).toNat c12)
set_option maxHeartbeats 4000000 in
theorem k14_ ⦃sv1 : Arr 4 (UInt64)⦄ ⦃c2 : UInt8⦄ ⦃r : T4t⦄ (h : class_with_R sv1 c2 r) : Cn Try.prog 61 [.agg ((List.map ew sv1.l).flatten), uv c2] [] [] (Ret (.agg ((List.map ew r.l).flatten))) := by
 refine xenterN Try.func61 rfl rfl (by kernel_rfl) fun g hg=>?_;simp only [Try.ntmps61,slots];refine wn_ 2 h fun h=>?_;refine xbox rfl rfl rfl rfl fun b2 => ?_;refine xalloc InfC.h rfl rfl fun b4 => ?_;refine xreb 0 ((List.map ew ((Arr.rep 4 (0 : UInt64))).l).flatten) rfl rfl ?_;refine wn_ 5 h fun h=>?_;obtain ⟨h3, h⟩ := h;obtain ⟨c4, h3r, h⟩ := h;refine vp_ (pv_quoW h3 h3r rfl rfl rfl) ?_;obtain ⟨h5, h⟩ := h
 obtain ⟨y6, h5b, h⟩ := h;refine vp_ (pv_indexAddrBA h5 UndC.h ShpC.h rfl rfl) ?_;refine v_ (qv_loadA (f := ew) (a := sv1) (k := 1) (off := 0) (i := ((c4.toNat : Int) : Int).toNat) 1 [] [] h5b sq_ so_ (by decide) rfl ShpC.h rfl rfl) ?_;refine mv_ ?_;obtain ⟨h7, h⟩ := h;obtain ⟨c8, h7r, h⟩ := h;refine vp_ (pv_remW h7 h7r rfl rfl rfl) ?_;obtain ⟨h9, h⟩ := h;obtain ⟨c10, h9r, h⟩ := h;refine vp_ (pv_shlW h9 h9r rfl rfl) ?_
 obtain ⟨c12, h11, h⟩ := h;refine vp_ (pv_wr h11 rfl rfl rfl) ?_;obtain ⟨h13, h⟩ := h;obtain ⟨y14, h13b, h⟩ := h;refine vp_ (pv_indexAddrBA h13 UndC.h ShpC.h rfl rfl) ?_;refine xstoreA (f := ew) (a := sv1) (k := 1) (off := 0) (i := ((c4.toNat : Int) : Int).toNat) 1 [] [] c12 h13b sq_ so_ (by decide) ShpC.h rfl rfl rfl rfl sl_ rfl rfl ?_;refine xreb 1 ((List.map ew ((Arr.set sv1 ((c4.toNat : Int) : Int).toNat c12)).l).flatten) rfl sq_ ?_
 refine wn_ 4 h fun h=>?_;refine v_ (qv_loadP 1 [] ((List.map ew ((Arr.set sv1 ((c4.toNat : Int) : Int).toNat c12)).l).flatten) [] sq_ sl_ sl_ (part_all (seg_lenE (by rfl))) ShpC.h rfl rfl) ?_;refine xstoreQ 0 [] ((List.map ew ((Arr.rep 4 (0 : UInt64))).l).flatten) [] ((List.map ew ((Arr.set sv1 ((c4.toNat : Int) : Int).toNat c12)).l).flatten) ShpC.h rfl rfl rfl rfl rfl ?_;exact rl_ h hg
def class_Of_l1 (l1 : List UInt8) (ag1 : (Int × T4t) → Prop) (x38 : Int) (f39 : Arr 4 (UInt64)) (r : T4t) : Prop :=
  ((x38 < (l1.length : Int) → 0 ≤ (x38 : Int) ∧ ∃ y51 : UInt8, l1[(x38 : Int).toNat]? = some y51 ∧ ∃ y54 : T4t, class_with_R f39 y51 y54 ∧ InR (x38 + 1) ∧ ag1 ((x38 + 1), y54)) ∧ (¬ (x38 < (l1.length : Int)) → r = f39))
def class_Of_R (l1 : List UInt8) (r : T4t) : Prop :=
  LoopR (fun ag1 s => class_Of_l1 l1 ag1 s.1 s.2 r) (0, (Arr.rep 4 (0 : UInt64)))
set_option maxHeartbeats 4000000 in
theorem k15_ ⦃l1 : List UInt8⦄ ⦃r : T4t⦄ (h : class_Of_R l1 r) : Cn Try.prog 46 [sb l1] [] [] (Ret (.agg ((List.map ew r.l).flatten))) := by
 refine xenterN Try.func46 rfl rfl (by kernel_rfl) fun g hg=>?_;simp only [Try.ntmps46,slots];refine wn_ 2 h fun h=>?_;refine xalloc InfC.h rfl rfl fun b2 => ?_;refine xreb 0 ((List.map ew ((Arr.rep 4 (0 : UInt64))).l).flatten) rfl rfl ?_;refine wn_ 4 h fun h=>?_;refine xalloc InfC.h rfl rfl fun b3 => ?_;refine xreb 0 ((List.map ew ((Arr.rep 4 (0 : UInt64))).l).flatten) rfl rfl ?_;refine wn_ 11 h fun h=>?_
 obtain ⟨Inv,⟨m0,hI⟩,hS⟩ := lq_ h;refine lp_ hI (fun σ m=>∃ x38 f39, Inv (x38, f39) m ∧ σ=⟨[(2, pw b2), (3, pw b3), (6, sb l1), (7, iv ((l1.length : Int))), (8, iv x38)], [⟨b3, 40, ((List.map ew f39.l).flatten)⟩, ⟨b2, 40, ((List.map ew ((Arr.rep 4 (0 : UInt64))).l).flatten)⟩], []⟩) ?_;rintro _ m ⟨x38,f39,hI,rfl⟩
 obtain ⟨ag1,hag1,h⟩ := lpo_ hS hI;refine i_ h (fun h=>?_) fun h=>?_
 ·refine x_ h fun y51 h=>?_;refine wn_ 5 h fun h=>?_;refine v_ (qv_loadP 0 [] ((List.map ew f39.l).flatten) [] sq_ sl_ sl_ (part_all (seg_lenE (by rfl))) ShpC.h rfl rfl) ?_;refine z0_ k14_ h fun y54 h=>?_;refine xstoreQ 0 [] ((List.map ew f39.l).flatten) [] ((List.map ew y54.l).flatten) ShpC.h rfl rfl rfl rfl rfl ?_;exact g_ h hag1
 refine wn_ 7 h fun h=>?_;refine v_ (qv_loadP 0 [] ((List.map ew f39.l).flatten) [] sq_ sl_ sl_ (part_all (seg_lenE (by rfl))) ShpC.h rfl rfl) ?_;refine xstoreQ 1 [] ((List.map ew ((Arr.rep 4 (0 : UInt64))).l).flatten) [] ((List.map ew f39.l).flatten) ShpC.h rfl rfl rfl rfl rfl ?_;exact rl_ h hg
def tree_Builder_Set_R (o1 : T3t × (List UInt8) × Int × T6t) (sv3 : Arr 4 (UInt64)) (r : Int × T0t) : Prop :=
  ∃ y5 : Int × T0t, tree_Builder_put_R o1 (1, 0, 0, 0, 0, 0, sv3) y5 ∧ r = (y5.1, y5.2)
set_option maxHeartbeats 4000000 in
theorem k16_ ⦃o1 : T3t × (List UInt8) × Int × T6t⦄ ⦃sv3 : Arr 4 (UInt64)⦄ ⦃r : Int × T0t⦄ (h : tree_Builder_Set_R o1 sv3 r) (bx0 : Nat) (ia2 : Option (Nat × Nat)) : Cn Try.prog 45 [pw bx0, .agg ((List.map ew sv3.l).flatten)] [⟨bx0, 50, ([.sl 10 (some ia2) (List.map E_palinode_api_Node o1.1.1), iv o1.1.2, sb o1.2.1, iv o1.2.2.1] ++ (List.map eB o1.2.2.2.l).flatten)⟩] [⟨ia2, 42, 10, o1.1.1.length⟩] fun rr bx tk=>∃ j1, rr=iv r.1 ∧ bx=[⟨bx0, 50, ([.sl 10 (some j1) (List.map E_palinode_api_Node r.2.1.1), iv r.2.1.2, sb r.2.2.1, iv r.2.2.2.1] ++ (List.map eB r.2.2.2.2.l).flatten)⟩] ∧ tk=[⟨j1, 42, 10, r.2.1.1.length⟩] := by
 refine xenterN Try.func45 rfl rfl (by kernel_rfl) fun g hg=>?_;simp only [Try.ntmps45,slots];refine wn_ 2 h fun h=>?_;refine xbox rfl rfl rfl rfl fun b3 => ?_;refine wn_ 6 h fun h=>?_;refine v_ (qv_loadP 0 [] ((List.map ew sv3.l).flatten) [] sq_ sl_ sl_ (part_all (seg_lenE (by rfl))) ShpC.h rfl rfl) ?_;refine vp_ (pv_buildC (cs := ([iv 1, iv 0, iv 0, iv 0, iv 0, iv 0] ++ (List.map ew sv3.l).flatten)) StrC.h rfl (by refine fill_step [] [iv 0] ([iv 0, iv 0, iv 0, iv 0, iv 0] ++ (List.map ew ((Arr.rep 4 (0 : UInt64))).l).flatten) sq_ sl_ sl_ sl_ rfl rfl ?_; refine fill_step [iv 1, iv 0, iv 0, iv 0, iv 0, iv 0] ((List.map ew ((Arr.rep 4 (0 : UInt64))).l).flatten) [] sq_ sl_ sl_ sl_ rfl rfl ?_; exact congrArg some sq_)) ?_
 refine c1_ k8_ h fun y5 i6 h=>?_;exact r_ h hg
def bre_parser_one_R (o1 : T3t × (List UInt8) × Int × T6t) (c3 : UInt8) (r : Int × T0t) : Prop :=
  InR (o1.2.2.1 + 1) ∧ ∃ y11 : T4t, class_Of_R ([c3]) y11 ∧ ∃ y13 : Int × T0t, tree_Builder_Set_R (o1.1, o1.2.1, (o1.2.2.1 + 1), o1.2.2.2) y11 y13 ∧ r = (y13.1, y13.2)
set_option maxHeartbeats 4000000 in
theorem k17_ ⦃o1 : T3t × (List UInt8) × Int × T6t⦄ ⦃c3 : UInt8⦄ ⦃r : Int × T0t⦄ (h : bre_parser_one_R o1 c3 r) (bx0 : Nat) (ia2 : Option (Nat × Nat)) : Cn Try.prog 32 [pw bx0, uv c3] [⟨bx0, 50, ([.sl 10 (some ia2) (List.map E_palinode_api_Node o1.1.1), iv o1.1.2, sb o1.2.1, iv o1.2.2.1] ++ (List.map eB o1.2.2.2.l).flatten)⟩] [⟨ia2, 42, 10, o1.1.1.length⟩] fun rr bx tk=>∃ j1, rr=iv r.1 ∧ bx=[⟨bx0, 50, ([.sl 10 (some j1) (List.map E_palinode_api_Node r.2.1.1), iv r.2.1.2, sb r.2.2.1, iv r.2.2.2.1] ++ (List.map eB r.2.2.2.2.l).flatten)⟩] ∧ tk=[⟨j1, 42, 10, r.2.1.1.length⟩] := by
 refine xenterN Try.func32 rfl rfl (by kernel_rfl) fun g hg=>?_;simp only [Try.ntmps32,slots];refine wn_ 18 h fun h=>?_;refine xregionD (m := 8) (by kernel_rfl) rfl ?_;obtain ⟨y11, h10, h⟩ := h;obtain ⟨y13, h12, h⟩ := h;refine o_ [0,1,2,3] ?_;refine xpstep (i := 4) (by kernel_rfl) rfl ?_;refine wbuildSliceM (f := eb) [c3] UndC.h InfC.h rfl rfl wr_ rfl rfl rfl rfl fun s16 => ?_;refine xpstep (i := 5) (by kernel_rfl) rfl ?_
 refine wz0_ k15_ h10 ?_;refine xpstep (i := 6) (by kernel_rfl) rfl ?_;refine wc1_ k16_ h12 fun i14=>?_;refine o_ [7] ?_;refine xpdone (by kernel_rfl) ?_;exact r_ h hg
def tree_Builder_Rep_R (o1 : T3t × (List UInt8) × Int × T6t) (a3 : Int) (lo4 : Int) (hi5 : Int) (r : Int × T0t) : Prop :=
  ∃ y7 : Int × T0t, tree_Builder_put_R o1 (4, a3, 0, lo4, hi5, 0, (Arr.rep 4 (0 : UInt64))) y7 ∧ r = (y7.1, y7.2)
set_option maxHeartbeats 4000000 in
theorem k18_ ⦃o1 : T3t × (List UInt8) × Int × T6t⦄ ⦃a3 : Int⦄ ⦃lo4 : Int⦄ ⦃hi5 : Int⦄ ⦃r : Int × T0t⦄ (h : tree_Builder_Rep_R o1 a3 lo4 hi5 r) (bx0 : Nat) (ia2 : Option (Nat × Nat)) : Cn Try.prog 52 [pw bx0, iv a3, iv lo4, iv hi5] [⟨bx0, 50, ([.sl 10 (some ia2) (List.map E_palinode_api_Node o1.1.1), iv o1.1.2, sb o1.2.1, iv o1.2.2.1] ++ (List.map eB o1.2.2.2.l).flatten)⟩] [⟨ia2, 42, 10, o1.1.1.length⟩] fun rr bx tk=>∃ j1, rr=iv r.1 ∧ bx=[⟨bx0, 50, ([.sl 10 (some j1) (List.map E_palinode_api_Node r.2.1.1), iv r.2.1.2, sb r.2.2.1, iv r.2.2.2.1] ++ (List.map eB r.2.2.2.2.l).flatten)⟩] ∧ tk=[⟨j1, 42, 10, r.2.1.1.length⟩] := by
 refine xenterN Try.func52 rfl rfl (by kernel_rfl) fun g hg=>?_;simp only [Try.ntmps52,slots];refine wn_ 11 h fun h=>?_;refine vp_ (pv_buildC (cs := ([iv 4, iv a3, iv 0, iv lo4, iv hi5, iv 0] ++ (List.map ew ((Arr.rep 4 (0 : UInt64))).l).flatten)) StrC.h rfl (by refine fill_step [] [iv 0] ([iv 0, iv 0, iv 0, iv 0, iv 0] ++ (List.map ew ((Arr.rep 4 (0 : UInt64))).l).flatten) sq_ sl_ sl_ sl_ rfl rfl ?_; refine fill_step [iv 4] [iv 0] ([iv 0, iv 0, iv 0, iv 0] ++ (List.map ew ((Arr.rep 4 (0 : UInt64))).l).flatten) sq_ sl_ sl_ sl_ rfl rfl ?_; refine fill_step [iv 4, iv a3, iv 0] [iv 0] ([iv 0, iv 0] ++ (List.map ew ((Arr.rep 4 (0 : UInt64))).l).flatten) sq_ sl_ sl_ sl_ rfl rfl ?_; refine fill_step [iv 4, iv a3, iv 0, iv lo4] [iv 0] ([iv 0] ++ (List.map ew ((Arr.rep 4 (0 : UInt64))).l).flatten) sq_ sl_ sl_ sl_ rfl rfl ?_; exact congrArg some sq_)) ?_
 refine c1_ k8_ h fun y7 i8 h=>?_;exact r_ h hg
def digit_within_R (c1 : UInt8) (low2 : UInt8) (high3 : UInt8) (r : Bool) : Prop :=
  (((low2.toNat : Int) ≤ (c1.toNat : Int) → r = (decide ((c1.toNat : Int) ≤ (high3.toNat : Int)))) ∧ (¬ ((low2.toNat : Int) ≤ (c1.toNat : Int)) → r = false))
set_option maxHeartbeats 4000000 in
theorem k19_ ⦃c1 : UInt8⦄ ⦃low2 : UInt8⦄ ⦃high3 : UInt8⦄ ⦃r : Bool⦄ (h : digit_within_R c1 low2 high3 r) : Cn Try.prog 77 [uv c1, uv low2, uv high3] [] [] (Ret (bv r)) := by
 refine xenterN Try.func77 rfl rfl (by kernel_rfl) fun g hg=>?_;simp only [Try.ntmps77,slots];refine is_ 10 h (fun h=>?_) fun h=>?_
 ·exact r_ h hg
 exact r_ h hg
def digit_isDigit_R (c1 : UInt8) (r : Bool) : Prop :=
  ∃ y3 : Bool, digit_within_R c1 (48 : UInt8) (57 : UInt8) y3 ∧ r = y3
set_option maxHeartbeats 4000000 in
theorem k20_ ⦃c1 : UInt8⦄ ⦃r : Bool⦄ (h : digit_isDigit_R c1 r) : Cn Try.prog 67 [uv c1] [] [] (Ret (bv r)) := by
 refine xenterN Try.func67 rfl rfl (by kernel_rfl) fun g hg=>?_;simp only [Try.ntmps67,slots];refine z0_ k19_ h fun y3 h=>?_;exact r_ h hg
def digit_Num_j2 (x2 : Int) (x193 : Int) (x194 : Int) (x195 : Bool) (r : Int × Int × Int) : Prop :=
  ((x194 = x2 → r = (0, 0, 9)) ∧ (¬ (x194 = x2) → ((x195 = true → r = (0, 0, 3)) ∧ (¬ (x195 = true) → r = (x193, x194, 0)))))
def digit_Num_j5 (x251 : Int) (ag3 : (Int × Int × Bool) → Prop) (x350 : Bool) (x360 : Int) (r : Int × Int × Int) : Prop :=
  InR (x251 + 1) ∧ ag3 (x360, (x251 + 1), x350)
def digit_Num_j4 (x250 : Int) (c342 : UInt8) (x251 : Int) (ag3 : (Int × Int × Bool) → Prop) (x350 : Bool) (r : Int × Int × Int) : Prop :=
  ((¬ (x350 = true) → InR (x250 * 10) ∧ InR ((x250 * 10) + (c342.toNat : Int)) ∧ digit_Num_j5 x251 ag3 x350 ((x250 * 10) + (c342.toNat : Int)) r) ∧ (¬ (¬ (x350 = true)) → digit_Num_j5 x251 ag3 x350 x250 r))
def digit_Num_l3 (x1 : List UInt8) (x3 : Int) (x2 : Int) (ag3 : (Int × Int × Bool) → Prop) (x250 : Int) (x251 : Int) (x252 : Bool) (r : Int × Int × Int) : Prop :=
  ((x251 < (x1.length : Int) → 0 ≤ (x251 : Int) ∧ ∃ y334 : UInt8, x1[(x251 : Int).toNat]? = some y334 ∧ ∃ y337 : Bool, digit_isDigit_R y334 y337 ∧ ((y337 = true → 0 ≤ (x251 : Int) ∧ ∃ y339 : UInt8, x1[(x251 : Int).toNat]? = some y339 ∧ ∃ c342 : UInt8, (c342.toNat : Int) = IntKind.u8.wrap ((y339.toNat : Int) - 48) ∧ ((x252 = true → digit_Num_j4 x250 c342 x251 ag3 true r) ∧ (¬ (x252 = true) → InR (x3 - (c342.toNat : Int)) ∧ (10 : Int) ≠ 0 ∧ InR (((x3 - (c342.toNat : Int)) : Int).tdiv (10)) ∧ digit_Num_j4 x250 c342 x251 ag3 ((decide ((((x3 - (c342.toNat : Int)) : Int).tdiv (10)) < x250)) || (decide (x3 < (c342.toNat : Int)))) r))) ∧ (¬ (y337 = true) → digit_Num_j2 x2 x250 x251 x252 r))) ∧ (¬ (x251 < (x1.length : Int)) → digit_Num_j2 x2 x250 x251 x252 r))
def digit_Num_j1 (x1 : List UInt8) (x3 : Int) (x2 : Int) (x18 : Bool) (r : Int × Int × Int) : Prop :=
  ((x18 = true → r = (0, 0, 1)) ∧ (¬ (x18 = true) → LoopR (fun ag3 s => digit_Num_l3 x1 x3 x2 ag3 s.1 s.2.1 s.2.2 r) (0, x2, false)))
def digit_Num_R (x1 : List UInt8) (x2 : Int) (x3 : Int) (r : Int × Int × Int) : Prop :=
  digit_Num_j1 x1 x3 x2 ((decide (x2 < 0)) || (decide ((x1.length : Int) < x2))) r
set_option maxHeartbeats 4000000 in
theorem k21_ ⦃x1 : List UInt8⦄ ⦃x2 : Int⦄ ⦃x3 : Int⦄ ⦃r : Int × Int × Int⦄ (h : digit_Num_R x1 x2 x3 r) : Cn Try.prog 53 [sb x1, iv x2, iv x3] [] [] fun rr bx tk=>rr=.tup [iv r.1, iv r.2.1, iv r.2.2] ∧ bx=[] ∧ tk=[] := by
 refine xenterN Try.func53 rfl rfl (by kernel_rfl) fun g hg=>?_;simp only [Try.ntmps53,slots];unfold digit_Num_R at h;refine wn_ 8 h fun h=>?_;refine xseqM (fun σ=>∃ x18, digit_Num_j1 x1 x3 x2 x18 r ∧ σ=⟨[(0, sb x1), (1, iv x2), (2, iv x3), (6, iv 0), (18, bv x18)], [], []⟩) ?_ ?_
 ·refine ks_ 13 h (fun h=>?_) fun h=>?_
  ·exact m_ h
  exact m_ h
 rintro _ ⟨x18,h,rfl⟩;refine i_ h (fun h=>?_) fun h=>?_
 ·exact r_ h hg
 refine wn_ 13 h fun h=>?_;refine xseqM (fun σ=>∃ x193 x194 x195, digit_Num_j2 x2 x193 x194 x195 r ∧ σ=⟨[(1, iv x2), (6, iv x193), (7, iv x194), (9, bv x195)], [], []⟩) ?_ ?_
 ·refine xblock ?_;obtain ⟨Inv,⟨m0,hI⟩,hS⟩ := lq_ h;refine lp_ hI (fun σ m=>∃ x250 x251 x252, Inv (x250, x251, x252) m ∧ σ=⟨[(0, sb x1), (1, iv x2), (2, iv x3), (6, iv x250), (7, iv x251), (9, bv x252)], [], []⟩) ?_;rintro _ m ⟨x250,x251,x252,hI,rfl⟩;obtain ⟨ag3,hag3,h⟩ := lpo_ hS hI;refine is_ 24 h (fun h=>?_) fun h=>?_
  ·refine x_ h fun y334 h=>?_;refine z0_ k20_ h fun y337 h=>?_;refine i_ h (fun h=>?_) fun h=>?_
   ·refine x_ h fun y339 h=>?_;refine v_ (qv_load ShpC.h rfl rfl rfl) ?_;obtain ⟨c342, h341, h⟩ := h;refine vp_ (pv_wr h341 rfl rfl rfl) ?_;refine wn_ 4 h fun h=>?_;refine xseqM (fun σ=>∃ x350, digit_Num_j4 x250 c342 x251 ag3 x350 r ∧ σ=⟨[(0, sb x1), (1, iv x2), (2, iv x3), (6, iv x250), (7, iv x251), (9, bv x350), (10, iv ((c342.toNat : Int))), (25, sb x1), (26, iv x251), (27, .el [uv y334]), (28, uv y334), (29, bv y337)], [], []⟩) ?_ ?_
    ·refine is_ 38 h (fun h=>?_) fun h=>?_
     ·exact m_ h
     refine wn_ 4 h fun h=>?_;obtain ⟨h353, h⟩ := h;obtain ⟨h353r, h⟩ := h;refine vp_ (pv_quoW h353 (wrap_id h353r.1 h353r.2).symm rfl rfl rfl) ?_;refine ks_ 46 h (fun h=>?_) fun h=>?_
     ·exact m_ h
     exact m_ h
    rintro _ ⟨x350,h,rfl⟩;refine xseqM (fun σ=>∃ x360, digit_Num_j5 x251 ag3 x350 x360 r ∧ σ=⟨[(0, sb x1), (1, iv x2), (2, iv x3), (6, iv x360), (7, iv x251), (9, bv x350), (25, sb x1), (26, iv x251), (27, .el [uv y334]), (28, uv y334), (29, bv y337)], [], []⟩) ?_ ?_
    ·refine i_ h (fun h=>?_) fun h=>?_
     ·exact m_ h
     exact m_ h
    rintro _ ⟨x360,h,rfl⟩;exact g_ h hag3
   exact m_ h
  exact m_ h
 rintro _ ⟨x193,x194,x195,h,rfl⟩;refine i_ h (fun h=>?_) fun h=>?_
 ·exact r_ h hg
 refine i_ h (fun h=>?_) fun h=>?_
 ·exact r_ h hg
 exact r_ h hg
def bre_parser_repeat_j4 (y19 : T5t) (o1 : T3t × (List UInt8) × Int × T6t) (x63 : Int) (x3 : Int) (y25 : Int × Int × Int) (x64 : Int) (x118 : Bool) (r : Int × T5t × T0t) : Prop :=
  ((x118 = true → r = (0, y19, (o1.1, o1.2.1, x63, o1.2.2.2))) ∧ (¬ (x118 = true) → InR (x63 + 2) ∧ ∃ y128 : Int × T0t, tree_Builder_Rep_R (o1.1, o1.2.1, (x63 + 2), o1.2.2.2) x3 y25.1 x64 y128 ∧ r = (y128.1, ([] : List (Int × Int)), y128.2)))
def bre_parser_repeat_j1 (o1 : T3t × (List UInt8) × Int × T6t) (y19 : T5t) (x3 : Int) (y25 : Int × Int × Int) (x63 : Int) (x64 : Int) (r : Int × T5t × T0t) : Prop :=
  ∃ y120 : Bool, bre_parser_has_R (o1.1, o1.2.1, x63, o1.2.2.2) (⟨#[92, 125]⟩ : ByteArray) y120 ∧ bre_parser_repeat_j4 y19 o1 x63 x3 y25 x64 ((!y120) || ((!(decide (x64 = (-1)))) && (decide (x64 < y25.1)))) r
def bre_parser_repeat_j3 (o1 : T3t × (List UInt8) × Int × T6t) (y19 : T5t) (x3 : Int) (y25 : Int × Int × Int) (x87 : Int) (x88 : Int) (r : Int × T5t × T0t) : Prop :=
  InR (x87 + 1) ∧ bre_parser_repeat_j1 o1 y19 x3 y25 (x87 + 1) x88 r
def bre_parser_repeat_j2 (y25 : Int × Int × Int) (o1 : T3t × (List UInt8) × Int × T6t) (y19 : T5t) (x3 : Int) (x71 : Bool) (r : Int × T5t × T0t) : Prop :=
  ((x71 = true → InR (y25.2.1 + 1) ∧ ∃ y91 : Int × Int × Int, digit_Num_R o1.2.1 (y25.2.1 + 1) 255 y91 ∧ ((y91.2.2 = 0 → InR (y91.2.1 - 1) ∧ bre_parser_repeat_j3 o1 y19 x3 y25 (y91.2.1 - 1) y91.1 r) ∧ (¬ (y91.2.2 = 0) → ((¬ (y91.2.2 = 9) → r = (0, y19, o1)) ∧ (¬ (¬ (y91.2.2 = 9)) → bre_parser_repeat_j3 o1 y19 x3 y25 y25.2.1 (-1) r))))) ∧ (¬ (x71 = true) → bre_parser_repeat_j1 o1 y19 x3 y25 y25.2.1 y25.1 r))
def bre_parser_repeat_R (o1 : T3t × (List UInt8) × Int × T6t) (x3 : Int) (r : Int × T5t × T0t) : Prop :=
  ∃ y12 : Bool, bre_parser_has_R o1 (⟨#[42]⟩ : ByteArray) y12 ∧ ((y12 = true → InR (o1.2.2.1 + 1) ∧ ∃ y16 : Int × T0t, tree_Builder_Rep_R (o1.1, o1.2.1, (o1.2.2.1 + 1), o1.2.2.2) x3 0 (-1) y16 ∧ r = (y16.1, ([] : List (Int × Int)), y16.2)) ∧ (¬ (y12 = true) → ∃ y19 : T5t, bre_parser_fail_R o1 13 y19 ∧ InR (o1.2.2.1 + 2) ∧ ∃ y25 : Int × Int × Int, digit_Num_R o1.2.1 (o1.2.2.1 + 2) 255 y25 ∧ ((¬ (y25.2.2 = 0) → r = (0, y19, o1)) ∧ (¬ (¬ (y25.2.2 = 0)) → ((y25.2.1 < (o1.2.1.length : Int) → 0 ≤ (y25.2.1 : Int) ∧ ∃ y75 : UInt8, o1.2.1[(y25.2.1 : Int).toNat]? = some y75 ∧ bre_parser_repeat_j2 y25 o1 y19 x3 (decide ((y75.toNat : Int) = 44)) r) ∧ (¬ (y25.2.1 < (o1.2.1.length : Int)) → bre_parser_repeat_j2 y25 o1 y19 x3 false r))))))
set_option maxHeartbeats 4000000 in
theorem k22_ ⦃o1 : T3t × (List UInt8) × Int × T6t⦄ ⦃x3 : Int⦄ ⦃r : Int × T5t × T0t⦄ (h : bre_parser_repeat_R o1 x3 r) (bx0 : Nat) (ia2 : Option (Nat × Nat)) : Cn Try.prog 34 [pw bx0, iv x3] [⟨bx0, 50, ([.sl 10 (some ia2) (List.map E_palinode_api_Node o1.1.1), iv o1.1.2, sb o1.2.1, iv o1.2.2.1] ++ (List.map eB o1.2.2.2.l).flatten)⟩] [⟨ia2, 42, 10, o1.1.1.length⟩] fun rr bx tk=>∃ j1, rr=.tup [iv r.1, .pt (List.isEmpty r.2.1) (PC_palinode_bre_wrong r.2.1)] ∧ bx=[⟨bx0, 50, ([.sl 10 (some j1) (List.map E_palinode_api_Node r.2.2.1.1), iv r.2.2.1.2, sb r.2.2.2.1, iv r.2.2.2.2.1] ++ (List.map eB r.2.2.2.2.2.l).flatten)⟩] ∧ tk=[⟨j1, 42, 10, r.2.2.1.1.length⟩] := by
 refine xenterN Try.func34 rfl rfl (by kernel_rfl) fun g hg=>?_;simp only [Try.ntmps34,slots];refine c0_ k0_ h fun y12 h=>?_;refine i_ h (fun h=>?_) fun h=>?_
 ·refine c1_ k18_ h fun y16 i17 h=>?_;exact r_ h hg
 refine c0_ k10_ h fun y19 h=>?_;refine wn_ 4 h fun h=>?_;refine xregionD (m := 17) (by kernel_rfl) rfl ?_;obtain ⟨h23, h⟩ := h;obtain ⟨y25, h24, h⟩ := h;refine o_ [0,1,2,4,5,6,7,8,3] ?_;refine xpstep (i := 9) (by kernel_rfl) rfl ?_;refine wz0_ k21_ h24 ?_;refine o_ [10,11,12,13,14,15,16] ?_;refine xpdone (by kernel_rfl) ?_;refine i_ h (fun h=>?_) fun h=>?_
 ·exact r_ h hg
 refine wn_ 8 h fun h=>?_;refine xseqM (fun σ=>∃ x63 x64, bre_parser_repeat_j1 o1 y19 x3 y25 x63 x64 r ∧ σ=⟨[(0, pw bx0), (1, iv x3), (6, .pt (List.isEmpty y19) (PC_palinode_bre_wrong y19)), (7, iv y25.1), (8, iv x63), (10, iv x64)], [⟨bx0, 50, ([.sl 10 (some ia2) (List.map E_palinode_api_Node o1.1.1), iv o1.1.2, sb o1.2.1, iv o1.2.2.1] ++ (List.map eB o1.2.2.2.l).flatten)⟩], [⟨ia2, 42, 10, o1.1.1.length⟩]⟩) ?_ ?_
 ·refine xseqM (fun σ=>∃ x71, bre_parser_repeat_j2 y25 o1 y19 x3 x71 r ∧ σ=⟨[(0, pw bx0), (1, iv x3), (6, .pt (List.isEmpty y19) (PC_palinode_bre_wrong y19)), (7, iv y25.1), (8, iv y25.2.1), (10, iv y25.1), (64, bv x71)], [⟨bx0, 50, ([.sl 10 (some ia2) (List.map E_palinode_api_Node o1.1.1), iv o1.1.2, sb o1.2.1, iv o1.2.2.1] ++ (List.map eB o1.2.2.2.l).flatten)⟩], [⟨ia2, 42, 10, o1.1.1.length⟩]⟩) ?_ ?_
  ·refine is_ 55 h (fun h=>?_) fun h=>?_
   ·refine x_ h fun y75 h=>?_;exact m_ h
   exact m_ h
  rintro _ ⟨x71,h,rfl⟩;refine i_ h (fun h=>?_) fun h=>?_
  ·refine wn_ 5 h fun h=>?_;refine xseqM (fun σ=>∃ x87 x88, bre_parser_repeat_j3 o1 y19 x3 y25 x87 x88 r ∧ σ=⟨[(0, pw bx0), (1, iv x3), (6, .pt (List.isEmpty y19) (PC_palinode_bre_wrong y19)), (7, iv y25.1), (8, iv x87), (10, iv x88)], [⟨bx0, 50, ([.sl 10 (some ia2) (List.map E_palinode_api_Node o1.1.1), iv o1.1.2, sb o1.2.1, iv o1.2.2.1] ++ (List.map eB o1.2.2.2.l).flatten)⟩], [⟨ia2, 42, 10, o1.1.1.length⟩]⟩) ?_ ?_
   ·refine z0_ k21_ h fun y91 h=>?_;refine i_ h (fun h=>?_) fun h=>?_
    ·exact m_ h
    refine i_ h (fun h=>?_) fun h=>?_
    ·exact r_ h hg
    exact m_ h
   rintro _ ⟨x87,x88,h,rfl⟩;exact m_ h
  exact m_ h
 rintro _ ⟨x63,x64,h,rfl⟩;refine wn_ 10 h fun h=>?_;refine xseqM (fun σ=>∃ x118, bre_parser_repeat_j4 y19 o1 x63 x3 y25 x64 x118 r ∧ σ=⟨[(0, pw bx0), (1, iv x3), (6, .pt (List.isEmpty y19) (PC_palinode_bre_wrong y19)), (7, iv y25.1), (10, iv x64), (101, bv x118)], [⟨bx0, 50, ([.sl 10 (some ia2) (List.map E_palinode_api_Node o1.1.1), iv o1.1.2, sb o1.2.1, iv x63] ++ (List.map eB o1.2.2.2.l).flatten)⟩], [⟨ia2, 42, 10, o1.1.1.length⟩]⟩) ?_ ?_
 ·refine c0_ k0_ h fun y120 h=>?_;refine ks_ 93 h (fun h=>?_) fun h=>?_
  ·exact m_ h
  refine ks_ 96 h (fun h=>?_) fun h=>?_
  ·exact m_ h
  exact m_ h
 rintro _ ⟨x118,h,rfl⟩;refine i_ h (fun h=>?_) fun h=>?_
 ·exact r_ h hg
 refine c1_ k18_ h fun y128 i129 h=>?_;exact r_ h hg
def class_Not_l1 (ag1 : (Int × T4t) → Prop) (x44 : Int) (f45 : Arr 4 (UInt64)) (r : T4t) : Prop :=
  ((x44 < 4 → (0 ≤ (x44 : Int) ∧ (x44 : Int) < 4) ∧ ∃ y60 : UInt64, f45.l[(x44 : Int).toNat]? = some y60 ∧ ∃ c62 : UInt64, (c62.toNat : Int) = IntKind.u64.wrap (BitVec.ofInt IntKind.u64.bits IntKind.u64.max ^^^ BitVec.ofInt IntKind.u64.bits (y60.toNat : Int)).toNat ∧ (0 ≤ (x44 : Int) ∧ (x44 : Int) < 4) ∧ ∃ y64 : UInt64, f45.l[(x44 : Int).toNat]? = some y64 ∧ InR (x44 + 1) ∧ ag1 ((x44 + 1), (Arr.set f45 (x44 : Int).toNat c62))) ∧ (¬ (x44 < 4) → r = f45))
def class_Not_R (sv1 : Arr 4 (UInt64)) (r : T4t) : Prop :=
  LoopR (fun ag1 s => class_Not_l1 ag1 s.1 s.2 r) (0, sv1)
set_option maxHeartbeats 4000000 in
theorem k23_ ⦃sv1 : Arr 4 (UInt64)⦄ ⦃r : T4t⦄ (h : class_Not_R sv1 r) : Cn Try.prog 48 [.agg ((List.map ew sv1.l).flatten)] [] [] (Ret (.agg ((List.map ew r.l).flatten))) := by
 refine xenterN Try.func48 rfl rfl (by kernel_rfl) fun g hg=>?_;simp only [Try.ntmps48,slots];refine wn_ 2 h fun h=>?_;refine xbox rfl rfl rfl rfl fun b1 => ?_;refine xalloc InfC.h rfl rfl fun b2 => ?_;refine xreb 0 ((List.map ew ((Arr.rep 4 (0 : UInt64))).l).flatten) rfl rfl ?_;refine wn_ 9 h fun h=>?_;obtain ⟨Inv,⟨m0,hI⟩,hS⟩ := lq_ h;refine lp_ hI (fun σ m=>∃ x44 f45, Inv (x44, f45) m ∧ σ=⟨[(1, pw b1), (2, pw b2), (4, iv x44)], [⟨b2, 40, ((List.map ew ((Arr.rep 4 (0 : UInt64))).l).flatten)⟩, ⟨b1, 40, ((List.map ew f45.l).flatten)⟩], []⟩) ?_
 rintro _ m ⟨x44,f45,hI,rfl⟩;obtain ⟨ag1,hag1,h⟩ := lpo_ hS hI;refine i_ h (fun h=>?_) fun h=>?_
 ·refine wn_ 13 h fun h=>?_;obtain ⟨h59, h⟩ := h;obtain ⟨y60, h59b, h⟩ := h;refine vp_ (pv_indexAddrBA h59 UndC.h ShpC.h rfl rfl) ?_;refine v_ (qv_loadA (f := ew) (a := f45) (k := 1) (off := 0) (i := (x44 : Int).toNat) 1 [] [] h59b sq_ so_ (by decide) rfl ShpC.h rfl rfl) ?_;obtain ⟨c62, h61, h⟩ := h;refine vp_ (pv_xorU h61 rfl) ?_;obtain ⟨h63, h⟩ := h;obtain ⟨y64, h63b, h⟩ := h;refine vp_ (pv_indexAddrBA h63 UndC.h ShpC.h rfl rfl) ?_
  refine xstoreA (f := ew) (a := f45) (k := 1) (off := 0) (i := (x44 : Int).toNat) 1 [] [] c62 h63b sq_ so_ (by decide) ShpC.h rfl rfl rfl rfl sl_ rfl rfl ?_;refine xreb 1 ((List.map ew ((Arr.set f45 (x44 : Int).toNat c62)).l).flatten) rfl sq_ ?_;exact g_ h hag1
 refine wn_ 7 h fun h=>?_;refine v_ (qv_loadP 1 [] ((List.map ew f45.l).flatten) [] sq_ sl_ sl_ (part_all (seg_lenE (by rfl))) ShpC.h rfl rfl) ?_;refine xstoreQ 0 [] ((List.map ew ((Arr.rep 4 (0 : UInt64))).l).flatten) [] ((List.map ew f45.l).flatten) ShpC.h rfl rfl rfl rfl rfl ?_;exact rl_ h hg
def digit_isUpper_R (c1 : UInt8) (r : Bool) : Prop :=
  ∃ y3 : Bool, digit_within_R c1 (65 : UInt8) (90 : UInt8) y3 ∧ r = y3
set_option maxHeartbeats 4000000 in
theorem k24_ ⦃c1 : UInt8⦄ ⦃r : Bool⦄ (h : digit_isUpper_R c1 r) : Cn Try.prog 73 [uv c1] [] [] (Ret (bv r)) := by
 refine xenterN Try.func73 rfl rfl (by kernel_rfl) fun g hg=>?_;simp only [Try.ntmps73,slots];refine z0_ k19_ h fun y3 h=>?_;exact r_ h hg
def digit_isLower_R (c1 : UInt8) (r : Bool) : Prop :=
  ∃ y3 : Bool, digit_within_R c1 (97 : UInt8) (122 : UInt8) y3 ∧ r = y3
set_option maxHeartbeats 4000000 in
theorem k25_ ⦃c1 : UInt8⦄ ⦃r : Bool⦄ (h : digit_isLower_R c1 r) : Cn Try.prog 74 [uv c1] [] [] (Ret (bv r)) := by
 refine xenterN Try.func74 rfl rfl (by kernel_rfl) fun g hg=>?_;simp only [Try.ntmps74,slots];refine z0_ k19_ h fun y3 h=>?_;exact r_ h hg
def digit_isAlnum_R (c1 : UInt8) (r : Bool) : Prop :=
  ∃ y11 : Bool, digit_isDigit_R c1 y11 ∧ ((y11 = true → r = true) ∧ (¬ (y11 = true) → ∃ y14 : Bool, digit_isUpper_R c1 y14 ∧ ((y14 = true → r = true) ∧ (¬ (y14 = true) → ∃ y17 : Bool, digit_isLower_R c1 y17 ∧ r = y17))))
set_option maxHeartbeats 4000000 in
theorem k26_ ⦃c1 : UInt8⦄ ⦃r : Bool⦄ (h : digit_isAlnum_R c1 r) : Cn Try.prog 75 [uv c1] [] [] (Ret (bv r)) := by
 refine xenterN Try.func75 rfl rfl (by kernel_rfl) fun g hg=>?_;simp only [Try.ntmps75,slots];refine z0_ k20_ h fun y11 h=>?_;refine is_ 5 h (fun h=>?_) fun h=>?_
 ·exact r_ h hg
 refine z0_ k24_ h fun y14 h=>?_;refine is_ 9 h (fun h=>?_) fun h=>?_
 ·exact r_ h hg
 refine z0_ k25_ h fun y17 h=>?_;exact r_ h hg
def digit_isBlank_R (c1 : UInt8) (r : Bool) : Prop :=
  (((c1.toNat : Int) = 32 → r = true) ∧ (¬ ((c1.toNat : Int) = 32) → r = (decide ((c1.toNat : Int) = 9))))
set_option maxHeartbeats 4000000 in
theorem k27_ ⦃c1 : UInt8⦄ ⦃r : Bool⦄ (h : digit_isBlank_R c1 r) : Cn Try.prog 76 [uv c1] [] [] (Ret (bv r)) := by
 refine xenterN Try.func76 rfl rfl (by kernel_rfl) fun g hg=>?_;simp only [Try.ntmps76,slots];refine is_ 5 h (fun h=>?_) fun h=>?_
 ·exact r_ h hg
 exact r_ h hg
def digit_isGraph_R (c1 : UInt8) (r : Bool) : Prop :=
  ∃ y3 : Bool, digit_within_R c1 (33 : UInt8) (126 : UInt8) y3 ∧ r = y3
set_option maxHeartbeats 4000000 in
theorem k28_ ⦃c1 : UInt8⦄ ⦃r : Bool⦄ (h : digit_isGraph_R c1 r) : Cn Try.prog 78 [uv c1] [] [] (Ret (bv r)) := by
 refine xenterN Try.func78 rfl rfl (by kernel_rfl) fun g hg=>?_;simp only [Try.ntmps78,slots];refine z0_ k19_ h fun y3 h=>?_;exact r_ h hg
def digit_Is_R (x1 : ByteArray) (x2 : UInt8) (r : Bool × Bool) : Prop :=
  (((x1.toList == ((⟨#[117, 112, 112, 101, 114]⟩ : ByteArray)).toList) = true → ∃ y102 : Bool, digit_isUpper_R x2 y102 ∧ r = (y102, true)) ∧ (¬ ((x1.toList == ((⟨#[117, 112, 112, 101, 114]⟩ : ByteArray)).toList) = true) → (((x1.toList == ((⟨#[108, 111, 119, 101, 114]⟩ : ByteArray)).toList) = true → ∃ y106 : Bool, digit_isLower_R x2 y106 ∧ r = (y106, true)) ∧ (¬ ((x1.toList == ((⟨#[108, 111, 119, 101, 114]⟩ : ByteArray)).toList) = true) → (((x1.toList == ((⟨#[100, 105, 103, 105, 116]⟩ : ByteArray)).toList) = true → ∃ y110 : Bool, digit_isDigit_R x2 y110 ∧ r = (y110, true)) ∧ (¬ ((x1.toList == ((⟨#[100, 105, 103, 105, 116]⟩ : ByteArray)).toList) = true) → (((x1.toList == ((⟨#[97, 108, 112, 104, 97]⟩ : ByteArray)).toList) = true → ∃ y119 : Bool, digit_isUpper_R x2 y119 ∧ ((y119 = true → r = (true, true)) ∧ (¬ (y119 = true) → ∃ y122 : Bool, digit_isLower_R x2 y122 ∧ r = (y122, true)))) ∧ (¬ ((x1.toList == ((⟨#[97, 108, 112, 104, 97]⟩ : ByteArray)).toList) = true) → (((x1.toList == ((⟨#[97, 108, 110, 117, 109]⟩ : ByteArray)).toList) = true → ∃ y126 : Bool, digit_isAlnum_R x2 y126 ∧ r = (y126, true)) ∧ (¬ ((x1.toList == ((⟨#[97, 108, 110, 117, 109]⟩ : ByteArray)).toList) = true) → (((x1.toList == ((⟨#[98, 108, 97, 110, 107]⟩ : ByteArray)).toList) = true → ∃ y130 : Bool, digit_isBlank_R x2 y130 ∧ r = (y130, true)) ∧ (¬ ((x1.toList == ((⟨#[98, 108, 97, 110, 107]⟩ : ByteArray)).toList) = true) → (((x1.toList == ((⟨#[115, 112, 97, 99, 101]⟩ : ByteArray)).toList) = true → ∃ y139 : Bool, digit_isBlank_R x2 y139 ∧ ((y139 = true → r = (true, true)) ∧ (¬ (y139 = true) → ∃ y142 : Bool, digit_within_R x2 (10 : UInt8) (13 : UInt8) y142 ∧ r = (y142, true)))) ∧ (¬ ((x1.toList == ((⟨#[115, 112, 97, 99, 101]⟩ : ByteArray)).toList) = true) → (((x1.toList == ((⟨#[99, 110, 116, 114, 108]⟩ : ByteArray)).toList) = true → (((x2.toNat : Int) < 32 → r = (true, true)) ∧ (¬ ((x2.toNat : Int) < 32) → r = ((decide ((x2.toNat : Int) = 127)), true)))) ∧ (¬ ((x1.toList == ((⟨#[99, 110, 116, 114, 108]⟩ : ByteArray)).toList) = true) → (((x1.toList == ((⟨#[103, 114, 97, 112, 104]⟩ : ByteArray)).toList) = true → ∃ y154 : Bool, digit_isGraph_R x2 y154 ∧ r = (y154, true)) ∧ (¬ ((x1.toList == ((⟨#[103, 114, 97, 112, 104]⟩ : ByteArray)).toList) = true) → (((x1.toList == ((⟨#[112, 114, 105, 110, 116]⟩ : ByteArray)).toList) = true → ∃ y162 : Bool, digit_isGraph_R x2 y162 ∧ ((y162 = true → r = (true, true)) ∧ (¬ (y162 = true) → r = ((decide ((x2.toNat : Int) = 32)), true)))) ∧ (¬ ((x1.toList == ((⟨#[112, 114, 105, 110, 116]⟩ : ByteArray)).toList) = true) → (((x1.toList == ((⟨#[112, 117, 110, 99, 116]⟩ : ByteArray)).toList) = true → ∃ y173 : Bool, digit_isGraph_R x2 y173 ∧ ((y173 = true → ∃ y176 : Bool, digit_isAlnum_R x2 y176 ∧ r = ((!y176), true)) ∧ (¬ (y173 = true) → r = (false, true)))) ∧ (¬ ((x1.toList == ((⟨#[112, 117, 110, 99, 116]⟩ : ByteArray)).toList) = true) → (((x1.toList == ((⟨#[120, 100, 105, 103, 105, 116]⟩ : ByteArray)).toList) = true → ∃ y188 : Bool, digit_isDigit_R x2 y188 ∧ ((y188 = true → r = (true, true)) ∧ (¬ (y188 = true) → ∃ y191 : Bool, digit_within_R x2 (65 : UInt8) (70 : UInt8) y191 ∧ ((y191 = true → r = (true, true)) ∧ (¬ (y191 = true) → ∃ y194 : Bool, digit_within_R x2 (97 : UInt8) (102 : UInt8) y194 ∧ r = (y194, true)))))) ∧ (¬ ((x1.toList == ((⟨#[120, 100, 105, 103, 105, 116]⟩ : ByteArray)).toList) = true) → r = (false, false)))))))))))))))))))))))))
set_option maxHeartbeats 4000000 in
theorem k29_ ⦃x1 : ByteArray⦄ ⦃x2 : UInt8⦄ ⦃r : Bool × Bool⦄ (h : digit_Is_R x1 x2 r) : Cn Try.prog 62 [.v (.string x1), uv x2] [] [] fun rr bx tk=>rr=.tup [bv r.1, bv r.2] ∧ bx=[] ∧ tk=[] := by
 refine xenterN Try.func62 rfl rfl (by kernel_rfl) fun g hg=>?_;simp only [Try.ntmps62,slots];refine i_ h (fun h=>?_) fun h=>?_
 ·refine z0_ k24_ h fun y102 h=>?_;exact r_ h hg
 refine i_ h (fun h=>?_) fun h=>?_
 ·refine z0_ k25_ h fun y106 h=>?_;exact r_ h hg
 refine i_ h (fun h=>?_) fun h=>?_
 ·refine z0_ k20_ h fun y110 h=>?_;exact r_ h hg
 refine i_ h (fun h=>?_) fun h=>?_
 ·refine z0_ k24_ h fun y119 h=>?_;refine is_ 23 h (fun h=>?_) fun h=>?_
  ·exact r_ h hg
  refine z0_ k25_ h fun y122 h=>?_;exact r_ h hg
 refine i_ h (fun h=>?_) fun h=>?_
 ·refine z0_ k26_ h fun y126 h=>?_;exact r_ h hg
 refine i_ h (fun h=>?_) fun h=>?_
 ·refine z0_ k27_ h fun y130 h=>?_;exact r_ h hg
 refine i_ h (fun h=>?_) fun h=>?_
 ·refine z0_ k27_ h fun y139 h=>?_;refine is_ 39 h (fun h=>?_) fun h=>?_
  ·exact r_ h hg
  refine z0_ k19_ h fun y142 h=>?_;exact r_ h hg
 refine i_ h (fun h=>?_) fun h=>?_
 ·refine is_ 47 h (fun h=>?_) fun h=>?_
  ·exact r_ h hg
  exact r_ h hg
 refine i_ h (fun h=>?_) fun h=>?_
 ·refine z0_ k28_ h fun y154 h=>?_;exact r_ h hg
 refine i_ h (fun h=>?_) fun h=>?_
 ·refine z0_ k28_ h fun y162 h=>?_;refine is_ 59 h (fun h=>?_) fun h=>?_
  ·exact r_ h hg
  exact r_ h hg
 refine i_ h (fun h=>?_) fun h=>?_
 ·refine z0_ k28_ h fun y173 h=>?_;refine is_ 67 h (fun h=>?_) fun h=>?_
  ·refine z0_ k26_ h fun y176 h=>?_;exact r_ h hg
  exact r_ h hg
 refine i_ h (fun h=>?_) fun h=>?_
 ·refine z0_ k20_ h fun y188 h=>?_;refine is_ 76 h (fun h=>?_) fun h=>?_
  ·exact r_ h hg
  refine z0_ k19_ h fun y191 h=>?_;refine is_ 80 h (fun h=>?_) fun h=>?_
  ·exact r_ h hg
  refine z0_ k19_ h fun y194 h=>?_;exact r_ h hg
 exact r_ h hg
def class_Named_l1 (name1 : ByteArray) (ag1 : (Int × T4t) → Prop) (x112 : Int) (f113 : Arr 4 (UInt64)) (r : T4t × Bool) : Prop :=
  ((x112 < 256 → ∃ c156 : UInt8, (c156.toNat : Int) = IntKind.u8.wrap x112 ∧ ∃ y158 : Bool × Bool, digit_Is_R name1 c156 y158 ∧ ((¬ (y158.2 = true) → r = ((Arr.rep 4 (0 : UInt64)), false)) ∧ (¬ (¬ (y158.2 = true)) → ((y158.1 = true → ∃ c163 : UInt8, (c163.toNat : Int) = IntKind.u8.wrap x112 ∧ ∃ y165 : T4t, class_with_R f113 c163 y165 ∧ InR (x112 + 1) ∧ ag1 ((x112 + 1), y165)) ∧ (¬ (y158.1 = true) → InR (x112 + 1) ∧ ag1 ((x112 + 1), f113)))))) ∧ (¬ (x112 < 256) → r = (f113, true)))
def class_Named_R (name1 : ByteArray) (r : T4t × Bool) : Prop :=
  LoopR (fun ag1 s => class_Named_l1 name1 ag1 s.1 s.2 r) (0, (Arr.rep 4 (0 : UInt64)))
set_option maxHeartbeats 4000000 in
theorem k30_ ⦃name1 : ByteArray⦄ ⦃r : T4t × Bool⦄ (h : class_Named_R name1 r) : Cn Try.prog 87 [.v (.string name1)] [] [] fun rr bx tk=>rr=.tup [.agg ((List.map ew r.1.l).flatten), bv r.2] ∧ bx=[] ∧ tk=[] := by
 refine xenterN Try.func87 rfl rfl (by kernel_rfl) fun g hg=>?_;simp only [Try.ntmps87,slots];refine wn_ 2 h fun h=>?_;refine xalloc InfC.h rfl rfl fun b2 => ?_;refine xreb 0 ((List.map ew ((Arr.rep 4 (0 : UInt64))).l).flatten) rfl rfl ?_;refine wn_ 5 h fun h=>?_;refine xalloc InfC.h rfl rfl fun b4 => ?_;refine xreb 0 ((List.map ew ((Arr.rep 4 (0 : UInt64))).l).flatten) rfl rfl ?_;refine wn_ 9 h fun h=>?_
 obtain ⟨Inv,⟨m0,hI⟩,hS⟩ := lq_ h;refine lp_ hI (fun σ m=>∃ x112 f113, Inv (x112, f113) m ∧ σ=⟨[(0, .v (.string name1)), (2, pw b2), (4, pw b4), (8, iv x112)], [⟨b4, 40, ((List.map ew f113.l).flatten)⟩, ⟨b2, 40, ((List.map ew ((Arr.rep 4 (0 : UInt64))).l).flatten)⟩], []⟩) ?_;rintro _ m ⟨x112,f113,hI,rfl⟩;obtain ⟨ag1,hag1,h⟩ := lpo_ hS hI
 refine i_ h (fun h=>?_) fun h=>?_
 ·refine wn_ 14 h fun h=>?_;obtain ⟨c156, h155, h⟩ := h;refine vp_ (pv_convW h155 UndC.h UndC.h rfl) ?_;refine z0_ k29_ h fun y158 h=>?_;refine i_ h (fun h=>?_) fun h=>?_
  ·refine wn_ 2 h fun h=>?_;refine vp_ (pv_buildAC (cs := ((List.map ew ((Arr.rep 4 (0 : UInt64))).l).flatten)) UndC.h ShpC.h InfC.h rfl (by rfl)) ?_;refine xstoreQ 1 [] ((List.map ew ((Arr.rep 4 (0 : UInt64))).l).flatten) [] ((List.map ew ((Arr.rep 4 (0 : UInt64))).l).flatten) ShpC.h rfl rfl rfl rfl rfl ?_;exact rl_ h hg
  refine i_ h (fun h=>?_) fun h=>?_
  ·refine xregion ?_;refine v_ (qv_loadP 0 [] ((List.map ew f113.l).flatten) [] sq_ sl_ sl_ (part_all (seg_lenE (by rfl))) ShpC.h rfl rfl) ?_;refine mv_ ?_;obtain ⟨c163, h162, h⟩ := h;refine vp_ (pv_convW h162 UndC.h UndC.h rfl) ?_;refine z0_ k14_ h fun y165 h=>?_;refine xstoreQ 0 [] ((List.map ew f113.l).flatten) [] ((List.map ew y165.l).flatten) ShpC.h rfl rfl rfl rfl rfl ?_;exact g_ h hag1
  exact g_ h hag1
 refine wn_ 7 h fun h=>?_;refine v_ (qv_loadP 0 [] ((List.map ew f113.l).flatten) [] sq_ sl_ sl_ (part_all (seg_lenE (by rfl))) ShpC.h rfl rfl) ?_;refine xstoreQ 1 [] ((List.map ew ((Arr.rep 4 (0 : UInt64))).l).flatten) [] ((List.map ew f113.l).flatten) ShpC.h rfl rfl rfl rfl rfl ?_;exact rl_ h hg
def brack_named_R (bv1 : List UInt8) (atv2 : Int) (r : T7t × Int) : Prop :=
  InR (atv2 + 1) ∧ 0 ≤ ((atv2 + 1) : Int) ∧ ∃ y4 : UInt8, bv1[((atv2 + 1) : Int).toNat]? = some y4 ∧ InR (atv2 + 2) ∧ (0 ≤ ((atv2 + 2) : Int) ∧ ((atv2 + 2) : Int) ≤ (bv1.length : Int)) ∧ ∃ y9 : Int, bytes_Index_R (bv1.drop ((atv2 + 2) : Int).toNat) ([y4, (93 : UInt8)]) y9 ∧ ((y9 < 0 → r = (((0 : UInt8), (Arr.rep 4 (0 : UInt64)), false, 0), 11)) ∧ (¬ (y9 < 0) → InR (atv2 + 2) ∧ InR (atv2 + 2) ∧ InR ((atv2 + 2) + y9) ∧ (0 ≤ ((atv2 + 2) : Int) ∧ ((atv2 + 2) : Int) ≤ (((atv2 + 2) + y9) : Int) ∧ (((atv2 + 2) + y9) : Int) ≤ (bv1.length : Int)) ∧ InR (atv2 + y9) ∧ InR ((atv2 + y9) + 4) ∧ (((y4.toNat : Int) = 58 → ∃ y31 : T4t × Bool, class_Named_R (⟨(((bv1.take (((atv2 + 2) + y9) : Int).toNat).drop ((atv2 + 2) : Int).toNat)).toArray⟩ : ByteArray) y31 ∧ ((¬ (y31.2 = true) → r = (((0 : UInt8), (Arr.rep 4 (0 : UInt64)), false, 0), 12)) ∧ (¬ (¬ (y31.2 = true)) → r = (((0 : UInt8), y31.1, true, ((atv2 + y9) + 4)), 0)))) ∧ (¬ ((y4.toNat : Int) = 58) → ((¬ (((((bv1.take (((atv2 + 2) + y9) : Int).toNat).drop ((atv2 + 2) : Int).toNat)).length : Int) = 1) → r = (((0 : UInt8), (Arr.rep 4 (0 : UInt64)), false, 0), 12)) ∧ (¬ (¬ (((((bv1.take (((atv2 + 2) + y9) : Int).toNat).drop ((atv2 + 2) : Int).toNat)).length : Int) = 1)) → 0 ≤ (0 : Int) ∧ ∃ y40 : UInt8, (((bv1.take (((atv2 + 2) + y9) : Int).toNat).drop ((atv2 + 2) : Int).toNat))[(0 : Int).toNat]? = some y40 ∧ r = ((y40, (Arr.rep 4 (0 : UInt64)), false, ((atv2 + y9) + 4)), 0)))))))
set_option maxHeartbeats 4000000 in
theorem k31_ ⦃bv1 : List UInt8⦄ ⦃atv2 : Int⦄ ⦃r : T7t × Int⦄ (h : brack_named_R bv1 atv2 r) : Cn Try.prog 85 [sb bv1, iv atv2] [] [] fun rr bx tk=>rr=.tup [.agg ([uv r.1.1] ++ ((List.map ew r.1.2.1.l).flatten ++ [bv r.1.2.2.1, iv r.1.2.2.2])), iv r.2] ∧ bx=[] ∧ tk=[] := by
 refine xenterN Try.func85 rfl rfl (by kernel_rfl) fun g hg=>?_;simp only [Try.ntmps85,slots];refine wn_ 2 h fun h=>?_;refine xalloc InfC.h rfl rfl fun b4 => ?_;refine xreb 0 ([.v (.int .u8 0)] ++ ((List.map ew ((Arr.rep 4 (0 : UInt64))).l).flatten ++ [bv false, iv 0])) rfl rfl ?_;refine x_ h fun y4 h=>?_;refine wn_ 11 h fun h=>?_;refine xbuildSliceM (f := eb) [y4, (93 : UInt8)] UndC.h InfC.h rfl rfl wr_ rfl rfl rfl rfl fun s22 => ?_
 obtain ⟨y9, h8, h⟩ := h;refine xcall0 (bytes_Index_con (bv1.drop ((atv2 + 2) : Int).toNat) ([y4, (93 : UInt8)]) _ h8) Try.func86 (by kernel_rfl) rfl (.cons rfl (.refl _) (.cons rfl (.tok _ _ _) .nil)) rfl rfl ?_;refine i_ h (fun h=>?_) fun h=>?_
 ·refine wn_ 2 h fun h=>?_;refine vp_ (pv_buildC (cs := ([.v (.int .u8 0)] ++ ((List.map ew ((Arr.rep 4 (0 : UInt64))).l).flatten ++ [bv false, iv 0]))) StrC.h rfl (by exact congrArg some sq_)) ?_;refine xstoreQ 0 [] ([.v (.int .u8 0)] ++ ((List.map ew ((Arr.rep 4 (0 : UInt64))).l).flatten ++ [bv false, iv 0])) [] ([.v (.int .u8 0)] ++ ((List.map ew ((Arr.rep 4 (0 : UInt64))).l).flatten ++ [bv false, iv 0])) ShpC.h rfl rfl rfl rfl rfl ?_
  exact rl_ h hg
 refine wn_ 21 h fun h=>?_;refine vp_ (pv_buildC (cs := ([.v (.int .u8 0)] ++ ((List.map ew ((Arr.rep 4 (0 : UInt64))).l).flatten ++ [bv false, iv (((atv2 + y9) + 4))]))) StrC.h rfl (by refine fill_step ([.v (.int .u8 0)] ++ ((List.map ew ((Arr.rep 4 (0 : UInt64))).l).flatten ++ [bv false])) [iv 0] [] sq_ sl_ sl_ sl_ rfl rfl ?_; exact congrArg some sq_)) ?_;refine xalloc InfC.h rfl rfl fun b9 => ?_
 refine xreb 0 ([.v (.int .u8 0)] ++ ((List.map ew ((Arr.rep 4 (0 : UInt64))).l).flatten ++ [bv false, iv 0])) rfl rfl ?_;refine xstoreQ 0 [] ([.v (.int .u8 0)] ++ ((List.map ew ((Arr.rep 4 (0 : UInt64))).l).flatten ++ [bv false, iv 0])) [] ([.v (.int .u8 0)] ++ ((List.map ew ((Arr.rep 4 (0 : UInt64))).l).flatten ++ [bv false, iv (((atv2 + y9) + 4))])) ShpC.h rfl rfl rfl rfl rfl ?_
 refine i_ h (fun h=>?_) fun h=>?_
 ·refine wn_ 3 h fun h=>?_;refine v_ (pv_str (bs := ((bv1.take (((atv2 + 2) + y9) : Int).toNat).drop ((atv2 + 2) : Int).toNat)) UndC.h UndC.h UndC.h rfl rfl rfl (fun _ h => by injection h with h; exact h.symm)) ?_;refine z0_ k30_ h fun y31 h=>?_;refine wn_ 3 h fun h=>?_;refine xalloc InfC.h rfl rfl fun b10 => ?_;refine xreb 0 ((List.map ew ((Arr.rep 4 (0 : UInt64))).l).flatten) rfl rfl ?_
  refine xstoreQ 0 [] ((List.map ew ((Arr.rep 4 (0 : UInt64))).l).flatten) [] ((List.map ew y31.1.l).flatten) ShpC.h rfl rfl rfl rfl rfl ?_;refine i_ h (fun h=>?_) fun h=>?_
  ·refine wn_ 2 h fun h=>?_;refine vp_ (pv_buildC (cs := ([.v (.int .u8 0)] ++ ((List.map ew ((Arr.rep 4 (0 : UInt64))).l).flatten ++ [bv false, iv 0]))) StrC.h rfl (by exact congrArg some sq_)) ?_;refine xstoreQ 2 [] ([.v (.int .u8 0)] ++ ((List.map ew ((Arr.rep 4 (0 : UInt64))).l).flatten ++ [bv false, iv 0])) [] ([.v (.int .u8 0)] ++ ((List.map ew ((Arr.rep 4 (0 : UInt64))).l).flatten ++ [bv false, iv 0])) ShpC.h rfl rfl rfl rfl rfl ?_
   exact rl_ h hg
  refine wn_ 4 h fun h=>?_;refine v_ (qv_loadP 0 [] ((List.map ew y31.1.l).flatten) [] sq_ sl_ sl_ (part_all (seg_lenE (by rfl))) ShpC.h rfl rfl) ?_;refine vp_ (qv_fieldAddrB FldC.h rfl) ?_;refine xstoreQ 1 [.v (.int .u8 0)] ((List.map ew ((Arr.rep 4 (0 : UInt64))).l).flatten) [bv false, iv (((atv2 + y9) + 4))] ([.v (.int .u8 0)] ++ ((List.map ew y31.1.l).flatten ++ [bv false, iv (((atv2 + y9) + 4))])) ShpC.h rfl rfl rfl rfl rfl ?_
  refine vp_ (qv_fieldAddrB FldC.h rfl) ?_;refine xstoreQ 1 ([.v (.int .u8 0)] ++ (List.map ew y31.1.l).flatten) [bv false] [iv (((atv2 + y9) + 4))] ([.v (.int .u8 0)] ++ ((List.map ew y31.1.l).flatten ++ [bv true, iv (((atv2 + y9) + 4))])) ShpC.h rfl rfl rfl rfl rfl ?_;refine wn_ 4 h fun h=>?_;refine v_ (qv_loadP 1 [] ([.v (.int .u8 0)] ++ ((List.map ew y31.1.l).flatten ++ [bv true, iv (((atv2 + y9) + 4))])) [] sq_ sl_ sl_ (part_all sl_) ShpC.h rfl rfl) ?_
  refine xstoreQ 2 [] ([.v (.int .u8 0)] ++ ((List.map ew ((Arr.rep 4 (0 : UInt64))).l).flatten ++ [bv false, iv 0])) [] ([.v (.int .u8 0)] ++ ((List.map ew y31.1.l).flatten ++ [bv true, iv (((atv2 + y9) + 4))])) ShpC.h rfl rfl rfl rfl rfl ?_;exact rl_ h hg
 refine i_ h (fun h=>?_) fun h=>?_
 ·refine wn_ 2 h fun h=>?_;refine vp_ (pv_buildC (cs := ([.v (.int .u8 0)] ++ ((List.map ew ((Arr.rep 4 (0 : UInt64))).l).flatten ++ [bv false, iv 0]))) StrC.h rfl (by exact congrArg some sq_)) ?_;refine xstoreQ 1 [] ([.v (.int .u8 0)] ++ ((List.map ew ((Arr.rep 4 (0 : UInt64))).l).flatten ++ [bv false, iv 0])) [] ([.v (.int .u8 0)] ++ ((List.map ew ((Arr.rep 4 (0 : UInt64))).l).flatten ++ [bv false, iv 0])) ShpC.h rfl rfl rfl rfl rfl ?_
  exact rl_ h hg
 refine x_ h fun y40 h=>?_;refine wn_ 7 h fun h=>?_;refine v_ (qv_loadP 0 [] ([uv y40] ++ ((List.map ew ((Arr.rep 4 (0 : UInt64))).l).flatten ++ [bv false, iv (((atv2 + y9) + 4))])) [] sq_ sl_ sl_ (part_all sl_) ShpC.h rfl rfl) ?_;refine xstoreQ 1 [] ([.v (.int .u8 0)] ++ ((List.map ew ((Arr.rep 4 (0 : UInt64))).l).flatten ++ [bv false, iv 0])) [] ([uv y40] ++ ((List.map ew ((Arr.rep 4 (0 : UInt64))).l).flatten ++ [bv false, iv (((atv2 + y9) + 4))])) ShpC.h rfl rfl rfl rfl rfl ?_
 exact rl_ h hg
def brack_read_j3 (x2 : Int) (x1 : List UInt8) (x86 : Bool) (r : T7t × Int) : Prop :=
  ((x86 = true → InR (x2 + 2) ∧ r = (((10 : UInt8), (Arr.rep 4 (0 : UInt64)), false, (x2 + 2)), 0)) ∧ (¬ (x86 = true) → 0 ≤ (x2 : Int) ∧ ∃ y94 : UInt8, x1[(x2 : Int).toNat]? = some y94 ∧ InR (x2 + 1) ∧ r = ((y94, (Arr.rep 4 (0 : UInt64)), false, (x2 + 1)), 0)))
def brack_read_j2 (x1 : List UInt8) (x2 : Int) (x16 : UInt8) (x68 : Bool) (r : T7t × Int) : Prop :=
  ((x68 = true → ∃ y80 : T7t × Int, brack_named_R x1 x2 y80 ∧ r = (y80.1, y80.2)) ∧ (¬ (x68 = true) → 0 ≤ (x2 : Int) ∧ ∃ y87 : UInt8, x1[(x2 : Int).toNat]? = some y87 ∧ brack_read_j3 x2 x1 ((decide ((y87.toNat : Int) = 92)) && (decide ((x16.toNat : Int) = 110))) r))
def brack_read_j1 (x2 : Int) (x1 : List UInt8) (x16 : UInt8) (r : T7t × Int) : Prop :=
  0 ≤ (x2 : Int) ∧ ∃ y69 : UInt8, x1[(x2 : Int).toNat]? = some y69 ∧ brack_read_j2 x1 x2 x16 ((decide ((y69.toNat : Int) = 91)) && ((decide ((x16.toNat : Int) = 58)) || ((decide ((x16.toNat : Int) = 46)) || (decide ((x16.toNat : Int) = 61))))) r
def brack_read_R (x1 : List UInt8) (x2 : Int) (r : T7t × Int) : Prop :=
  (((x1.length : Int) ≤ x2 → r = (((0 : UInt8), (Arr.rep 4 (0 : UInt64)), false, 0), 11)) ∧ (¬ ((x1.length : Int) ≤ x2) → InR (x2 + 1) ∧ (((x2 + 1) < (x1.length : Int) → InR (x2 + 1) ∧ 0 ≤ ((x2 + 1) : Int) ∧ ∃ y22 : UInt8, x1[((x2 + 1) : Int).toNat]? = some y22 ∧ brack_read_j1 x2 x1 y22 r) ∧ (¬ ((x2 + 1) < (x1.length : Int)) → brack_read_j1 x2 x1 (0 : UInt8) r))))
set_option maxHeartbeats 4000000 in
theorem k32_ ⦃x1 : List UInt8⦄ ⦃x2 : Int⦄ ⦃r : T7t × Int⦄ (h : brack_read_R x1 x2 r) : Cn Try.prog 81 [sb x1, iv x2] [] [] fun rr bx tk=>rr=.tup [.agg ([uv r.1.1] ++ ((List.map ew r.1.2.1.l).flatten ++ [bv r.1.2.2.1, iv r.1.2.2.2])), iv r.2] ∧ bx=[] ∧ tk=[] := by
 refine xenterN Try.func81 rfl rfl (by kernel_rfl) fun g hg=>?_;simp only [Try.ntmps81,slots];refine wn_ 2 h fun h=>?_;refine xalloc InfC.h rfl rfl fun b4 => ?_;refine xreb 0 ([.v (.int .u8 0)] ++ ((List.map ew ((Arr.rep 4 (0 : UInt64))).l).flatten ++ [bv false, iv 0])) rfl rfl ?_;refine i_ h (fun h=>?_) fun h=>?_
 ·refine wn_ 2 h fun h=>?_;refine vp_ (pv_buildC (cs := ([.v (.int .u8 0)] ++ ((List.map ew ((Arr.rep 4 (0 : UInt64))).l).flatten ++ [bv false, iv 0]))) StrC.h rfl (by exact congrArg some sq_)) ?_;refine xstoreQ 0 [] ([.v (.int .u8 0)] ++ ((List.map ew ((Arr.rep 4 (0 : UInt64))).l).flatten ++ [bv false, iv 0])) [] ([.v (.int .u8 0)] ++ ((List.map ew ((Arr.rep 4 (0 : UInt64))).l).flatten ++ [bv false, iv 0])) ShpC.h rfl rfl rfl rfl rfl ?_
  exact rl_ h hg
 refine wn_ 7 h fun h=>?_;refine xseqM (fun σ=>∃ x16, brack_read_j1 x2 x1 x16 r ∧ σ=⟨[(0, sb x1), (1, iv x2), (4, pw b4), (6, uv x16)], [⟨b4, 118, ([.v (.int .u8 0)] ++ ((List.map ew ((Arr.rep 4 (0 : UInt64))).l).flatten ++ [bv false, iv 0]))⟩], []⟩) ?_ ?_
 ·refine i_ h (fun h=>?_) fun h=>?_
  ·refine x_ h fun y22 h=>?_;exact m_ h
  exact m_ h
 rintro _ ⟨x16,h,rfl⟩;refine wn_ 2 h fun h=>?_;refine xseqM (fun σ=>∃ x68, brack_read_j2 x1 x2 x16 x68 r ∧ σ=⟨[(0, sb x1), (1, iv x2), (4, pw b4), (6, uv x16), (22, bv x68)], [⟨b4, 118, ([.v (.int .u8 0)] ++ ((List.map ew ((Arr.rep 4 (0 : UInt64))).l).flatten ++ [bv false, iv 0]))⟩], []⟩) ?_ ?_
 ·refine x_ h fun y69 h=>?_;refine ks_ 28 h (fun h=>?_) fun h=>?_
  ·refine ks_ 31 h (fun h=>?_) fun h=>?_
   ·exact m_ h
   refine ks_ 35 h (fun h=>?_) fun h=>?_
   ·exact m_ h
   exact m_ h
  exact m_ h
 rintro _ ⟨x68,h,rfl⟩;refine i_ h (fun h=>?_) fun h=>?_
 ·refine z0_ k31_ h fun y80 h=>?_;refine wn_ 2 h fun h=>?_;refine xstoreQ 0 [] ([.v (.int .u8 0)] ++ ((List.map ew ((Arr.rep 4 (0 : UInt64))).l).flatten ++ [bv false, iv 0])) [] ([uv y80.1.1] ++ ((List.map ew y80.1.2.1.l).flatten ++ [bv y80.1.2.2.1, iv y80.1.2.2.2])) ShpC.h rfl rfl rfl rfl rfl ?_;exact rl_ h hg
 refine xseqM (fun σ=>∃ x86, brack_read_j3 x2 x1 x86 r ∧ σ=⟨[(0, sb x1), (1, iv x2), (4, pw b4), (45, bv x86)], [⟨b4, 118, ([.v (.int .u8 0)] ++ ((List.map ew ((Arr.rep 4 (0 : UInt64))).l).flatten ++ [bv false, iv 0]))⟩], []⟩) ?_ ?_
 ·refine x_ h fun y87 h=>?_;refine ks_ 51 h (fun h=>?_) fun h=>?_
  ·exact m_ h
  exact m_ h
 rintro _ ⟨x86,h,rfl⟩;refine i_ h (fun h=>?_) fun h=>?_
 ·refine wn_ 4 h fun h=>?_;refine vp_ (pv_buildC (cs := ([.v (.int .u8 10)] ++ ((List.map ew ((Arr.rep 4 (0 : UInt64))).l).flatten ++ [bv false, iv ((x2 + 2))]))) StrC.h rfl (by refine fill_step [] [.v (.int .u8 0)] (((List.map ew ((Arr.rep 4 (0 : UInt64))).l).flatten ++ [bv false, iv 0])) sq_ sl_ sl_ sl_ rfl rfl ?_; refine fill_step ([.v (.int .u8 10)] ++ ((List.map ew ((Arr.rep 4 (0 : UInt64))).l).flatten ++ [bv false])) [iv 0] [] sq_ sl_ sl_ sl_ rfl rfl ?_; exact congrArg some sq_)) ?_
  refine xstoreQ 0 [] ([.v (.int .u8 0)] ++ ((List.map ew ((Arr.rep 4 (0 : UInt64))).l).flatten ++ [bv false, iv 0])) [] ([.v (.int .u8 10)] ++ ((List.map ew ((Arr.rep 4 (0 : UInt64))).l).flatten ++ [bv false, iv ((x2 + 2))])) ShpC.h rfl rfl rfl rfl rfl ?_;exact rl_ h hg
 refine x_ h fun y94 h=>?_;refine wn_ 3 h fun h=>?_;refine vp_ (pv_buildC (cs := ([uv y94] ++ ((List.map ew ((Arr.rep 4 (0 : UInt64))).l).flatten ++ [bv false, iv ((x2 + 1))]))) StrC.h rfl (by refine fill_step [] [.v (.int .u8 0)] (((List.map ew ((Arr.rep 4 (0 : UInt64))).l).flatten ++ [bv false, iv 0])) sq_ sl_ sl_ sl_ rfl rfl ?_; refine fill_step ([uv y94] ++ ((List.map ew ((Arr.rep 4 (0 : UInt64))).l).flatten ++ [bv false])) [iv 0] [] sq_ sl_ sl_ sl_ rfl rfl ?_; exact congrArg some sq_)) ?_
 refine xstoreQ 0 [] ([.v (.int .u8 0)] ++ ((List.map ew ((Arr.rep 4 (0 : UInt64))).l).flatten ++ [bv false, iv 0])) [] ([uv y94] ++ ((List.map ew ((Arr.rep 4 (0 : UInt64))).l).flatten ++ [bv false, iv ((x2 + 1))])) ShpC.h rfl rfl rfl rfl rfl ?_;exact rl_ h hg
def brack_isDash_j1 (x18 : Bool) (r : Bool) : Prop :=
  r = x18
def brack_isDash_R (bv1 : List UInt8) (atv2 : Int) (r : Bool) : Prop :=
  ((atv2 < (bv1.length : Int) → 0 ≤ (atv2 : Int) ∧ ∃ y22 : UInt8, bv1[(atv2 : Int).toNat]? = some y22 ∧ (((y22.toNat : Int) = 45 → InR (atv2 + 1) ∧ (((bv1.length : Int) ≤ (atv2 + 1) → brack_isDash_j1 true r) ∧ (¬ ((bv1.length : Int) ≤ (atv2 + 1)) → InR (atv2 + 1) ∧ 0 ≤ ((atv2 + 1) : Int) ∧ ∃ y31 : UInt8, bv1[((atv2 + 1) : Int).toNat]? = some y31 ∧ brack_isDash_j1 (!(decide ((y31.toNat : Int) = 93))) r))) ∧ (¬ ((y22.toNat : Int) = 45) → brack_isDash_j1 false r))) ∧ (¬ (atv2 < (bv1.length : Int)) → brack_isDash_j1 false r))
set_option maxHeartbeats 4000000 in
theorem k33_ ⦃bv1 : List UInt8⦄ ⦃atv2 : Int⦄ ⦃r : Bool⦄ (h : brack_isDash_R bv1 atv2 r) : Cn Try.prog 82 [sb bv1, iv atv2] [] [] (Ret (bv r)) := by
 refine xenterN Try.func82 rfl rfl (by kernel_rfl) fun g hg=>?_;simp only [Try.ntmps82,slots];refine wn_ 5 h fun h=>?_;refine xseqM (fun σ=>∃ x18, brack_isDash_j1 x18 r ∧ σ=⟨[(4, bv x18)], [], []⟩) ?_ ?_
 ·refine is_ 9 h (fun h=>?_) fun h=>?_
  ·refine x_ h fun y22 h=>?_;refine is_ 16 h (fun h=>?_) fun h=>?_
   ·refine is_ 22 h (fun h=>?_) fun h=>?_
    ·exact m_ h
    refine x_ h fun y31 h=>?_;exact m_ h
   exact m_ h
  exact m_ h
 rintro _ ⟨x18,h,rfl⟩;exact r_ h hg
def class_Range_l1 (bv2 : UInt8) (ag1 : (Int × T4t) → Prop) (c51 : Int) (f52 : Arr 4 (UInt64)) (r : T4t) : Prop :=
  ((c51 ≤ (bv2.toNat : Int) → ∃ c71 : UInt8, (c71.toNat : Int) = IntKind.u8.wrap c51 ∧ ∃ y73 : T4t, class_with_R f52 c71 y73 ∧ InR (c51 + 1) ∧ ag1 ((c51 + 1), y73)) ∧ (¬ (c51 ≤ (bv2.toNat : Int)) → r = f52))
def class_Range_R (a1 : UInt8) (bv2 : UInt8) (r : T4t) : Prop :=
  LoopR (fun ag1 s => class_Range_l1 bv2 ag1 s.1 s.2 r) ((a1.toNat : Int), (Arr.rep 4 (0 : UInt64)))
set_option maxHeartbeats 4000000 in
theorem k34_ ⦃a1 : UInt8⦄ ⦃bv2 : UInt8⦄ ⦃r : T4t⦄ (h : class_Range_R a1 bv2 r) : Cn Try.prog 83 [uv a1, uv bv2] [] [] (Ret (.agg ((List.map ew r.l).flatten))) := by
 refine xenterN Try.func83 rfl rfl (by kernel_rfl) fun g hg=>?_;simp only [Try.ntmps83,slots];refine wn_ 2 h fun h=>?_;refine xalloc InfC.h rfl rfl fun b4 => ?_;refine xreb 0 ((List.map ew ((Arr.rep 4 (0 : UInt64))).l).flatten) rfl rfl ?_;refine wn_ 4 h fun h=>?_;refine xalloc InfC.h rfl rfl fun b5 => ?_;refine xreb 0 ((List.map ew ((Arr.rep 4 (0 : UInt64))).l).flatten) rfl rfl ?_;refine wn_ 11 h fun h=>?_
 obtain ⟨Inv,⟨m0,hI⟩,hS⟩ := lq_ h;refine lp_ hI (fun σ m=>∃ c51 f52, Inv (c51, f52) m ∧ σ=⟨[(1, uv bv2), (4, pw b4), (5, pw b5), (6, iv c51)], [⟨b5, 40, ((List.map ew f52.l).flatten)⟩, ⟨b4, 40, ((List.map ew ((Arr.rep 4 (0 : UInt64))).l).flatten)⟩], []⟩) ?_;rintro _ m ⟨c51,f52,hI,rfl⟩;obtain ⟨ag1,hag1,h⟩ := lpo_ hS hI
 refine i_ h (fun h=>?_) fun h=>?_
 ·refine wn_ 5 h fun h=>?_;refine v_ (qv_loadP 0 [] ((List.map ew f52.l).flatten) [] sq_ sl_ sl_ (part_all (seg_lenE (by rfl))) ShpC.h rfl rfl) ?_;refine mv_ ?_;obtain ⟨c71, h70, h⟩ := h;refine vp_ (pv_convW h70 UndC.h UndC.h rfl) ?_;refine z0_ k14_ h fun y73 h=>?_;refine xstoreQ 0 [] ((List.map ew f52.l).flatten) [] ((List.map ew y73.l).flatten) ShpC.h rfl rfl rfl rfl rfl ?_;exact g_ h hag1
 refine wn_ 7 h fun h=>?_;refine v_ (qv_loadP 0 [] ((List.map ew f52.l).flatten) [] sq_ sl_ sl_ (part_all (seg_lenE (by rfl))) ShpC.h rfl rfl) ?_;refine xstoreQ 1 [] ((List.map ew ((Arr.rep 4 (0 : UInt64))).l).flatten) [] ((List.map ew f52.l).flatten) ShpC.h rfl rfl rfl rfl rfl ?_;exact rl_ h hg
end Go.Proofs.Ytpddiffpanihdaa
