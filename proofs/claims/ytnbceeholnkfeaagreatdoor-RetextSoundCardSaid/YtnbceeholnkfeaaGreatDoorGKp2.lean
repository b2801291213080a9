/- What functions' texts ask for, and the walks that show it (printed by a program). -/
import Derived.Test.YtnbceeholnkfeaaGreatDoorGKp1
namespace Go.Proofs.YtnbceeholnkfeaaGreatDoor
def ii (x1: Bool) (x2: Int×Int×Int×Int×Int×Int×T7t) (x3: List ByteArray) (r: ByteArray) : Prop:=
 ((x2.1 = 1→∃ y91 : ByteArray,fF x1 x2.2.2.2.2.2.2 y91∧r = y91)∧(¬ (x2.1 = 1)→((x2.1 = 2→0≤(x2.2.1 : Int)∧∃ y100 : ByteArray,x3[(x2.2.1 : Int).toNat]? = some y100∧0≤(x2.2.2.1 : Int)∧∃ y102 : ByteArray,x3[(x2.2.2.1 : Int).toNat]? = some y102∧∃ y105 : ByteArray,fb (⟨#[]⟩: ByteArray) ([y100,y102]) y105∧r = y105)∧(¬ (x2.1 = 2)→((x2.1 = 3→0≤(x2.2.1 : Int)∧∃ y114 : ByteArray,x3[(x2.2.1 : Int).toNat]? = some y114∧0≤(x2.2.2.1 : Int)∧∃ y116 : ByteArray,x3[(x2.2.2.1 : Int).toNat]? = some y116∧∃ y119 : ByteArray,fb (⟨#[124]⟩: ByteArray) ([y114,y116]) y119∧r = y119)∧(¬ (x2.1 = 3)→((x2.1 = 4→0≤(x2.2.1 : Int)∧∃ y129 : ByteArray,x3[(x2.2.1 : Int).toNat]? = some y129∧∃ y132 : ByteArray,gM x1 x2.2.2.2.1 x2.2.2.2.2.1 y132∧∃ y134 : ByteArray,fb (⟨#[]⟩: ByteArray) ([y129,y132]) y134∧r = y134)∧(¬ (x2.1 = 4)→((x2.1 = 5→∃ y151 : ByteArray,de x1 (⟨#[40]⟩: ByteArray) y151∧0≤(x2.2.1 : Int)∧∃ y152 : ByteArray,x3[(x2.2.1 : Int).toNat]? = some y152∧∃ y155 : ByteArray,de x1 (⟨#[41]⟩: ByteArray) y155∧∃ y157 : ByteArray,fb (⟨#[]⟩: ByteArray) ([y151,y152,y155]) y157∧r = y157)∧(¬ (x2.1 = 5)→((x2.1 = 6→∃ y165 : ByteArray,iZ x2.2.2.2.2.2.1 y165∧∃ y167 : ByteArray,fb (⟨#[]⟩: ByteArray) ([(⟨#[92]⟩: ByteArray),y165]) y167∧r = y167)∧(¬ (x2.1 = 6)→((x2.1 = 7→r = (⟨#[94]⟩: ByteArray))∧(¬ (x2.1 = 7)→((x2.1 = 8→r = (⟨#[36]⟩: ByteArray))∧(¬ (x2.1 = 8)→r = (⟨#[]⟩: ByteArray)))))))))))))))))
set_option maxHeartbeats 4000000 in
theorem Do ⦃x1: Bool⦄ ⦃x2: Int × Int × Int × Int × Int × Int × T7t⦄ ⦃x3: List ByteArray⦄ ⦃r: ByteArray⦄ (h: ii x1 x2 x3 r) : Cn Tryz.prog 20 [.agg [bv x1], .agg (aa x2), .sl 1 none (List.map es x3)] [] [] (Ret (.v (.string r))) := by
 refine aj Tryz.func20 rfl rfl (by kernel_rfl) fun g hg=>?_;simp only [Tryz.ntmps20,au];refine wn_ 2 h fun h=>?_;refine cr rfl rfl rfl rfl fun b3 => ?_;refine cr rfl rfl rfl rfl fun b4 => ?_;refine i_ h (fun h=>?_) fun h=>?_
 ·refine wn_ 4 h fun h=>?_;refine v_ (al 0 [iv x2.1, iv x2.2.1, iv x2.2.2.1, iv x2.2.2.2.1, iv x2.2.2.2.2.1, iv x2.2.2.2.2.2.1] ((List.map ew x2.2.2.2.2.2.2.l).flatten) [] sq_ sl_ sl_ (ao (aD (by rfl))) ae.h rfl rfl) ?_;refine z0_ Dn h fun y91 h=>?_;exact r_ h hg
 refine i_ h (fun h=>?_) fun h=>?_
 ·refine eN ?_;refine ay (m := 13) (by kernel_rfl) rfl ?_;obtain ⟨h101a, h⟩ := h;obtain ⟨y100, h101b, h⟩ := h;obtain ⟨h103a, h⟩ := h;obtain ⟨y102, h103b, h⟩ := h;obtain ⟨y105, h104, h⟩ := h;refine o_ [0,1,5,6,2] ?_;refine pl_ 3 rfl (aI h101a h101b ah.h ae.h rfl rfl) ?_;refine o_ [4,7] ?_;refine pl_ 8 rfl (aI h103a h103b ah.h ae.h rfl rfl) ?_;refine o_ [9] ?_;refine aE (i := 10) (by kernel_rfl) rfl ?_
  refine dY (f := es) [y100, y102] ah.h ar.h rfl rfl wr_ rfl rfl rfl rfl fun s27 => ?_;refine aE (i := 11) (by kernel_rfl) rfl ?_;refine cw tt h104 ?_;refine o_ [12] ?_;refine az (by kernel_rfl) ?_;exact r_ h hg
 refine i_ h (fun h=>?_) fun h=>?_
 ·refine eN ?_;refine ay (m := 13) (by kernel_rfl) rfl ?_;obtain ⟨h115a, h⟩ := h;obtain ⟨y114, h115b, h⟩ := h;obtain ⟨h117a, h⟩ := h;obtain ⟨y116, h117b, h⟩ := h;obtain ⟨y119, h118, h⟩ := h;refine o_ [0,1,5,6,2] ?_;refine pl_ 3 rfl (aI h115a h115b ah.h ae.h rfl rfl) ?_;refine o_ [4,7] ?_;refine pl_ 8 rfl (aI h117a h117b ah.h ae.h rfl rfl) ?_;refine o_ [9] ?_;refine aE (i := 10) (by kernel_rfl) rfl ?_
  refine dY (f := es) [y114, y116] ah.h ar.h rfl rfl wr_ rfl rfl rfl rfl fun s41 => ?_;refine aE (i := 11) (by kernel_rfl) rfl ?_;refine cw tt h118 ?_;refine o_ [12] ?_;refine az (by kernel_rfl) ?_;exact r_ h hg
 refine i_ h (fun h=>?_) fun h=>?_
 ·refine eN ?_;refine ay (m := 14) (by kernel_rfl) rfl ?_;obtain ⟨h130a, h⟩ := h;obtain ⟨y129, h130b, h⟩ := h;obtain ⟨y132, h131, h⟩ := h;obtain ⟨y134, h133, h⟩ := h;refine eL 3 #[true, true, true, true, true, true, true, true, true, true, true, false, false, false] (fun σ=>σ=⟨[(6, .v (.string ((⟨#[]⟩ : ByteArray)))), (49, .v (.string y129)), (55, .v (.string y132))], [], []⟩) ?_ (fun key135=>?_)
  ·rintro _ rfl;refine aE (i := 11) (by kernel_rfl) rfl ?_;refine dY (f := es) [y129, y132] ah.h ar.h rfl rfl wr_ rfl rfl rfl rfl fun s56 => ?_;refine aE (i := 12) (by kernel_rfl) rfl ?_;refine cw tt h133 ?_;refine o_ [13] ?_;refine az (by kernel_rfl) ?_;exact r_ h hg
  refine o_ [0,1,6,8,5,7,9] ?_;refine cg (is := [2, 10]) (by kernel_rfl) (by simp) ?_;intro i hi; simp only [List.mem_cons, List.not_mem_nil, or_false] at hi; rcases hi with rfl | rfl
  ·refine ⟨_, rfl, ?_⟩;refine wv_ (aJ 0 ae.h rfl rfl rfl rfl) ?_;refine pl_ 3 rfl (aI h130a h130b ah.h ae.h rfl rfl) ?_;refine d8 [⟨4, 49, .v (.string y129)⟩] 4 ?_;refine a8 10 (by kernel_rfl) rfl (.cons rfl rfl rfl (fun _ => rfl) (fun _ => cB ae.h rfl rfl rfl) .nil) fun D l td hR => ?_;refine cw BA h131 ?_;refine eM hR ?_;refine ci (l' := #[true, true, true, true, true, true, true, true, true, true, true, false, false, false]) (by kernel_rfl) (.cons rfl rfl rfl (fun _ => rfl) (fun _ => cB ae.h rfl rfl rfl) .nil) (by kernel_rfl) rfl (by kernel_rfl) (by kernel_rfl) ?_
   simp only [List.nil_append, List.cons_append, List.map_cons, List.map_nil];exact ba key135 rfl ⟨lk_, sm_⟩ rfl (by kernel_rfl)
  ·refine ⟨_, rfl, ?_⟩;refine cw BA h131 ?_;refine o_ [2] ?_;refine pl_ 3 rfl (aI h130a h130b ah.h ae.h rfl rfl) ?_;refine o_ [4] ?_;exact ba key135 rfl ⟨lk_, sm_⟩ rfl (by kernel_rfl)
 refine i_ h (fun h=>?_) fun h=>?_
 ·refine eN ?_;refine ay (m := 12) (by kernel_rfl) rfl ?_;obtain ⟨y151, h150, h⟩ := h;obtain ⟨h153a, h⟩ := h;obtain ⟨y152, h153b, h⟩ := h;obtain ⟨y155, h154, h⟩ := h;obtain ⟨y157, h156, h⟩ := h;refine eL 3 #[true, true, true, true, true, true, true, true, true, false, false, false] (fun σ=>σ=⟨[(6, .v (.string ((⟨#[]⟩ : ByteArray)))), (61, .v (.string y151)), (66, .v (.string y152)), (68, .v (.string y155))], [], []⟩) ?_ (fun key158=>?_)
  ·rintro _ rfl;refine aE (i := 9) (by kernel_rfl) rfl ?_;refine dY (f := es) [y151, y152, y155] ah.h ar.h rfl rfl wr_ rfl rfl rfl rfl fun s69 => ?_;refine aE (i := 10) (by kernel_rfl) rfl ?_;refine cw tt h156 ?_;refine o_ [11] ?_;refine az (by kernel_rfl) ?_;exact r_ h hg
  refine eL 5 #[true, true, true, true, true, true, false, true, false, false, false, false] (fun σ=>σ=⟨[(6, .v (.string ((⟨#[]⟩ : ByteArray)))), (61, .v (.string y151)), (65, .el [.v (.string y152)]), (67, .agg [bv x1])], [], []⟩) ?_ (fun key159=>?_)
  ·rintro _ rfl;refine d8 [⟨6, 66, .v (.string y152)⟩] 4 ?_;refine a8 8 (by kernel_rfl) rfl (.cons rfl rfl rfl (fun _ => rfl) (fun _ => cB ae.h rfl rfl rfl) .nil) fun D l td hR => ?_;refine cw lT h154 ?_;refine eM hR ?_;refine ci (l' := #[true, true, true, true, true, true, true, true, true, false, false, false]) (by kernel_rfl) (.cons rfl rfl rfl (fun _ => rfl) (fun _ => cB ae.h rfl rfl rfl) .nil) (by kernel_rfl) rfl (by kernel_rfl) (by kernel_rfl) ?_
   simp only [List.nil_append, List.cons_append, List.map_cons, List.map_nil];exact ba key158 rfl ⟨lk_, sm_⟩ rfl (by kernel_rfl)
  refine eL 6 #[true, false, true, true, true, true, false, true, false, false, false, false] (fun σ=>σ=⟨[(6, .v (.string ((⟨#[]⟩ : ByteArray)))), (60, .agg [bv x1]), (65, .el [.v (.string y152)]), (67, .agg [bv x1])], [], []⟩) ?_ (fun key160=>?_)
  ·rintro _ rfl;refine d8 [⟨6, 66, .v (.string y152)⟩] 5 ?_;refine a8 1 (by kernel_rfl) rfl (.cons rfl rfl rfl (fun _ => rfl) (fun _ => cB ae.h rfl rfl rfl) .nil) fun D l td hR => ?_;refine cw lT h150 ?_;refine eM hR ?_;refine a8 8 (by kernel_rfl) rfl (.cons rfl rfl rfl (fun _ => rfl) (fun _ => cB ae.h rfl rfl rfl) .nil) fun D l td hR => ?_;refine cw lT h154 ?_
   refine eM hR ?_;refine ci (l' := #[true, true, true, true, true, true, true, true, true, false, false, false]) (by kernel_rfl) (.cons rfl rfl rfl (fun _ => rfl) (fun _ => cB ae.h rfl rfl rfl) .nil) (by kernel_rfl) rfl (by kernel_rfl) (by kernel_rfl) ?_;simp only [List.nil_append, List.cons_append, List.map_cons, List.map_nil];exact ba key158 rfl ⟨lk_, sm_⟩ rfl (by kernel_rfl)
  refine eL 7 #[true, true, true, true, false, false, false, true, false, false, false, false] (fun σ=>σ=⟨[(6, .v (.string ((⟨#[]⟩ : ByteArray)))), (61, .v (.string y151)), (62, .sl 1 none (List.map es x3)), (63, .v (.pointer (some ⟨b4, 1, none⟩))), (67, .agg [bv x1])], [⟨b4, 43, (aa x2)⟩], []⟩) ?_ (fun key161=>?_)
  ·rintro _ rfl;refine cg (is := [4, 8]) (by kernel_rfl) (by simp) ?_;intro i hi; simp only [List.mem_cons, List.not_mem_nil, or_false] at hi; rcases hi with rfl | rfl
   ·refine ⟨_, rfl, ?_⟩;refine wv_ (aJ 0 ae.h rfl rfl rfl rfl) ?_;refine pl_ 5 rfl (aI h153a h153b ah.h ae.h rfl rfl) ?_;exact ba key159 rfl ⟨lk_, sm_⟩ rfl (by kernel_rfl)
   ·refine ⟨_, rfl, ?_⟩;refine cw lT h154 ?_;refine o_ [4] ?_;refine pl_ 5 rfl (aI h153a h153b ah.h ae.h rfl rfl) ?_;refine o_ [6] ?_;exact ba key158 rfl ⟨lk_, sm_⟩ rfl (by kernel_rfl)
  refine o_ [2,3,0] ?_;refine cg (is := [1, 4, 7]) (by kernel_rfl) (by simp) ?_;intro i hi; simp only [List.mem_cons, List.not_mem_nil, or_false] at hi; rcases hi with rfl | rfl | rfl
  ·refine ⟨_, rfl, ?_⟩;refine cw lT h150 ?_;refine o_ [7] ?_;exact ba key161 rfl ⟨lk_, sm_⟩ rfl (by kernel_rfl)
  ·refine ⟨_, rfl, ?_⟩;refine wv_ (aJ 0 ae.h rfl rfl rfl rfl) ?_;refine pl_ 5 rfl (aI h153a h153b ah.h ae.h rfl rfl) ?_;refine cg (is := [1, 6, 7]) (by kernel_rfl) (by simp) ?_;intro i hi; simp only [List.mem_cons, List.not_mem_nil, or_false] at hi; rcases hi with rfl | rfl | rfl
   ·refine ⟨_, rfl, ?_⟩;refine cw lT h150 ?_;refine o_ [7] ?_;exact ba key159 rfl ⟨lk_, sm_⟩ rfl (by kernel_rfl)
   ·refine ⟨_, rfl, ?_⟩;refine wv_ (cB ae.h rfl rfl rfl) ?_;refine d8 [⟨7, 67, .agg [bv x1]⟩] 5 ?_;refine a8 1 (by kernel_rfl) rfl (.cons rfl rfl rfl (fun _ => rfl) (fun _ => aJ 1 ae.h rfl rfl rfl rfl) .nil) fun D l td hR => ?_;refine cw lT h150 ?_;refine eM hR ?_;refine ci (l' := #[true, true, true, true, true, true, true, true, false, false, false, false]) (by kernel_rfl) (.cons rfl rfl rfl (fun _ => rfl) (fun _ => aJ 1 ae.h rfl rfl rfl rfl) .nil) (by kernel_rfl) rfl (by kernel_rfl) (by kernel_rfl) ?_
    simp only [List.nil_append, List.cons_append, List.map_cons, List.map_nil];refine aE (i := 8) (by kernel_rfl) rfl ?_;refine cw lT h154 ?_;exact ba key158 rfl ⟨lk_, sm_⟩ rfl (by kernel_rfl)
   ·refine ⟨_, rfl, ?_⟩;refine wv_ (aJ 1 ae.h rfl rfl rfl rfl) ?_;exact ba key160 rfl ⟨lk_, sm_⟩ rfl (by kernel_rfl)
  ·refine ⟨_, rfl, ?_⟩;refine wv_ (aJ 1 ae.h rfl rfl rfl rfl) ?_;refine cg (is := [1, 4]) (by kernel_rfl) (by simp) ?_;intro i hi; simp only [List.mem_cons, List.not_mem_nil, or_false] at hi; rcases hi with rfl | rfl
   ·refine ⟨_, rfl, ?_⟩;refine cw lT h150 ?_;exact ba key161 rfl ⟨lk_, sm_⟩ rfl (by kernel_rfl)
   ·refine ⟨_, rfl, ?_⟩;refine wv_ (aJ 0 ae.h rfl rfl rfl rfl) ?_;refine pl_ 5 rfl (aI h153a h153b ah.h ae.h rfl rfl) ?_;exact ba key160 rfl ⟨lk_, sm_⟩ rfl (by kernel_rfl)
 refine i_ h (fun h=>?_) fun h=>?_
 ·refine z0_ yc h fun y165 h=>?_;refine aM (f := es) [(⟨#[92]⟩ : ByteArray), y165] ah.h ar.h rfl rfl wr_ rfl rfl rfl rfl fun s76 => ?_;refine z0_ tt h fun y167 h=>?_;exact r_ h hg
 refine i_ h (fun h=>?_) fun h=>?_
 ·exact r_ h hg
 refine i_ h (fun h=>?_) fun h=>?_
 ·exact r_ h hg
 exact r_ h hg
def bn (o1: T0t×(List UInt8)×Int×Int×T5t) (nv3: Int×Int×Int×Int×Int×Int×T7t) (r: Int×T1t) : Prop:=
 ((1000≤(o1.1.1.length : Int)→r = ((-1),o1))∧(¬ (1000≤(o1.1.1.length : Int))→∃ y28 : Bool,iC nv3 (o1.1.1.length : Int) o1.1.2 y28∧((¬ (y28 = true)→r = ((-1),o1))∧(¬ (¬ (y28 = true))→eu (o1.1.1.length + ([nv3]).length) 80∧InR ((((o1.1.1++[nv3])).length : Int) - 1)∧r = (((((o1.1.1++[nv3])).length : Int) - 1),(((o1.1.1++[nv3]),o1.1.2),o1.2.1,o1.2.2.1,o1.2.2.2.1,o1.2.2.2.2))))))
set_option maxHeartbeats 4000000 in
theorem oJ ⦃o1: T0t × (List UInt8) × Int × Int × T5t⦄ ⦃nv3: Int × Int × Int × Int × Int × Int × T7t⦄ ⦃r: Int × T1t⦄ (h: bn o1 nv3 r) (bx0: Nat) (ia2: Option (Nat × Nat)) : Cn Tryz.prog 39 [pw bx0, .agg (aa nv3)] [⟨bx0, 59, ([.sl 10 (some ia2) (List.map aa o1.1.1), iv o1.1.2, sb o1.2.1, iv o1.2.2.1, iv o1.2.2.2.1] ++ (List.map eB o1.2.2.2.2.l).flatten)⟩] [⟨ia2, 43, 10, o1.1.1.length⟩] fun rr bx tk=>∃ j1, rr=iv r.1 ∧ bx=[⟨bx0, 59, ([.sl 10 (some j1) (List.map aa r.2.1.1), iv r.2.1.2, sb r.2.2.1, iv r.2.2.2.1, iv r.2.2.2.2.1] ++ (List.map eB r.2.2.2.2.2.l).flatten)⟩] ∧ tk=[⟨j1, 43, 10, r.2.1.1.length⟩] := by
 refine aj Tryz.func39 rfl rfl (by kernel_rfl) fun g hg=>?_;simp only [Tryz.ntmps39,au];refine wn_ 2 h fun h=>?_;refine cr rfl rfl rfl rfl fun b3 => ?_;refine wn_ 5 h fun h=>?_;refine ay (m := 20) (by kernel_rfl) rfl ?_;refine o_ [0,1,2,3,4,5,6] ?_;refine ip_ 11 h (fun h=>?_) fun h=>?_
 ·refine o_ [7,8,9,10,11,12,13,14,15,16,17,18,19] ?_;refine az (by kernel_rfl) ?_;exact r_ h hg
 obtain ⟨y28, h27, h⟩ := h;refine o_ [8,9,10,13,14,15] ?_;refine cU 7 [11, 12, 16] rfl (al 0 [] (aa nv3) [] sq_ sl_ sl_ (ao sl_) ae.h rfl rfl) rfl rfl (by kernel_rfl) (by kernel_rfl) (by kernel_rfl) (fun _ _ _ _ h => h) ?_
 refine o_ [11,12,16] ?_;refine aE (i := 17) (by kernel_rfl) rfl ?_;refine cw k7_ h27 ?_;refine o_ [18,19] ?_;refine az (by kernel_rfl) ?_;refine i_ h (fun h=>?_) fun h=>?_
 ·exact r_ h hg
 refine wn_ 3 h fun h=>?_;refine ay (m := 11) (by kernel_rfl) rfl ?_;obtain ⟨h32, h⟩ := h;refine o_ [0,1,2,3,4] ?_;refine cU 5 [] rfl (al 0 [] (aa nv3) [] sq_ sl_ sl_ (ao sl_) ae.h rfl rfl) rfl rfl (by kernel_rfl) (by kernel_rfl) (by kernel_rfl) (fun _ _ _ _ h => h) ?_
 refine aE (i := 6) (by kernel_rfl) rfl ?_;refine d7 (f := aa) [nv3] ah.h ar.h rfl (.cons rfl (lM sl_) rfl rfl .nil) wr_ rfl rfl rfl rfl fun s31 => ?_;refine aE (i := 7) (by kernel_rfl) rfl ?_;refine jR (l := o1.1.1) (l2 := [nv3]) 1 h32 ah.h ar.h rfl rfl rfl (.refl _) rfl rfl rfl fun i33 => ?_;refine o_ [8,9] ?_;refine aE (i := 10) (by kernel_rfl) rfl ?_
 refine cj 1 ae.h rfl rfl rfl rfl rfl rfl rfl ?_;refine az (by kernel_rfl) ?_;exact r_ h hg
def ij (o1: T0t×(List UInt8)×Int×Int×T5t) (r: Int×T1t) : Prop:=
 ∃ y4 : Int×T1t,bn o1 (0,0,0,0,0,0,(Arr.rep 4 (0 : UInt64))) y4∧r = (y4.1,y4.2)
set_option maxHeartbeats 4000000 in
theorem BB ⦃o1: T0t × (List UInt8) × Int × Int × T5t⦄ ⦃r: Int × T1t⦄ (h: ij o1 r) (bx0: Nat) (ia2: Option (Nat × Nat)) : Cn Tryz.prog 23 [pw bx0] [⟨bx0, 59, ([.sl 10 (some ia2) (List.map aa o1.1.1), iv o1.1.2, sb o1.2.1, iv o1.2.2.1, iv o1.2.2.2.1] ++ (List.map eB o1.2.2.2.2.l).flatten)⟩] [⟨ia2, 43, 10, o1.1.1.length⟩] fun rr bx tk=>∃ j1, rr=iv r.1 ∧ bx=[⟨bx0, 59, ([.sl 10 (some j1) (List.map aa r.2.1.1), iv r.2.1.2, sb r.2.2.1, iv r.2.2.2.1, iv r.2.2.2.2.1] ++ (List.map eB r.2.2.2.2.2.l).flatten)⟩] ∧ tk=[⟨j1, 43, 10, r.2.1.1.length⟩] := by
 refine aj Tryz.func23 rfl rfl (by kernel_rfl) fun g hg=>?_;simp only [Tryz.ntmps23,au];refine wn_ 8 h fun h=>?_;refine vp_ (av (cs := ([iv 0, iv 0, iv 0, iv 0, iv 0, iv 0] ++ (List.map ew ((Arr.rep 4 (0 : UInt64))).l).flatten)) aO.h rfl (by refine am [] [iv 0] ([iv 0, iv 0, iv 0, iv 0, iv 0] ++ (List.map ew ((Arr.rep 4 (0 : UInt64))).l).flatten) sq_ sl_ sl_ sl_ rfl rfl ?_; exact congrArg some sq_)) ?_
 refine c1_ oJ h fun y4 i5 h=>?_;exact r_ h hg
def gE (o1: T0t×(List UInt8)×Int×Int×T5t) (r: Bool) : Prop:=
 ((o1.2.2.2.1 = 0→r = (decide (o1.2.2.1 < (o1.2.1.length : Int))))∧(¬ (o1.2.2.2.1 = 0)→r = false))
set_option maxHeartbeats 4000000 in
theorem BC ⦃o1: T0t × (List UInt8) × Int × Int × T5t⦄ ⦃r: Bool⦄ (h: gE o1 r) (bx0: Nat) (ia2: Option (Nat × Nat)) : Cn Tryz.prog 65 [pw bx0] [⟨bx0, 59, ([.sl 10 (some ia2) (List.map aa o1.1.1), iv o1.1.2, sb o1.2.1, iv o1.2.2.1, iv o1.2.2.2.1] ++ (List.map eB o1.2.2.2.2.l).flatten)⟩] [⟨ia2, 43, 10, o1.1.1.length⟩] fun rr bx tk=>rr=bv r ∧ bx=[⟨bx0, 59, ([.sl 10 (some ia2) (List.map aa o1.1.1), iv o1.1.2, sb o1.2.1, iv o1.2.2.1, iv o1.2.2.2.1] ++ (List.map eB o1.2.2.2.2.l).flatten)⟩] ∧ tk=[⟨ia2, 43, 10, o1.1.1.length⟩] := by
 refine aj Tryz.func65 rfl rfl (by kernel_rfl) fun g hg=>?_;simp only [Tryz.ntmps65,au];refine wn_ 6 h fun h=>?_;refine ay (m := 18) (by kernel_rfl) rfl ?_;refine o_ [0,1,2,3,4,5] ?_;refine ip_ 8 h (fun h=>?_) fun h=>?_
 ·refine o_ [6,7,8,10,11,12,9,13,14,15,16,17] ?_;refine az (by kernel_rfl) ?_;exact r_ h hg
 refine o_ [6,7,8,9,10,11,12,13,14,15,16,17] ?_;refine az (by kernel_rfl) ?_;exact r_ h hg
def cp (o1: T0t×(List UInt8)×Int×Int×T5t) (c3: UInt8) (r: Bool) : Prop:=
 ∃ y11 : Bool,gE o1 y11∧((y11 = true→0≤(o1.2.2.1 : Int)∧∃ y13 : UInt8,o1.2.1[(o1.2.2.1 : Int).toNat]? = some y13∧r = (decide ((y13.toNat : Int) = (c3.toNat : Int))))∧(¬ (y11 = true)→r = false))
set_option maxHeartbeats 4000000 in
theorem oK ⦃o1: T0t × (List UInt8) × Int × Int × T5t⦄ ⦃c3: UInt8⦄ ⦃r: Bool⦄ (h: cp o1 c3 r) (bx0: Nat) (ia2: Option (Nat × Nat)) : Cn Tryz.prog 41 [pw bx0, uv c3] [⟨bx0, 59, ([.sl 10 (some ia2) (List.map aa o1.1.1), iv o1.1.2, sb o1.2.1, iv o1.2.2.1, iv o1.2.2.2.1] ++ (List.map eB o1.2.2.2.2.l).flatten)⟩] [⟨ia2, 43, 10, o1.1.1.length⟩] fun rr bx tk=>rr=bv r ∧ bx=[⟨bx0, 59, ([.sl 10 (some ia2) (List.map aa o1.1.1), iv o1.1.2, sb o1.2.1, iv o1.2.2.1, iv o1.2.2.2.1] ++ (List.map eB o1.2.2.2.2.l).flatten)⟩] ∧ tk=[⟨ia2, 43, 10, o1.1.1.length⟩] := by
 refine aj Tryz.func41 rfl rfl (by kernel_rfl) fun g hg=>?_;simp only [Tryz.ntmps41,au];refine wn_ 6 h fun h=>?_;refine ay (m := 17) (by kernel_rfl) rfl ?_;obtain ⟨y11, h10, h⟩ := h;refine o_ [0] ?_;refine aE (i := 1) (by kernel_rfl) rfl ?_;refine yA BC h10 ?_;refine o_ [2] ?_;refine ip_ 7 h (fun h=>?_) fun h=>?_
 ·obtain ⟨h14a, h⟩ := h;obtain ⟨y13, h14b, h⟩ := h;refine o_ [3,4,5,7,8,9,13,6,10] ?_;refine pl_ 11 rfl (aI h14a h14b ah.h ae.h rfl rfl) ?_;refine o_ [12,14,15,16] ?_;refine az (by kernel_rfl) ?_;exact r_ h hg
 refine o_ [3,4,5,6,7,8,9,10,11,12,13,14,15,16] ?_;refine az (by kernel_rfl) ?_;exact r_ h hg
def aX (o1: T0t×(List UInt8)×Int×Int×T5t) (e3: Int) (r: Int×T1t) : Prop:=
 ((o1.2.2.2.1 = 0→r = ((-1),(o1.1,o1.2.1,o1.2.2.1,e3,o1.2.2.2.2)))∧(¬ (o1.2.2.2.1 = 0)→r = ((-1),o1)))
set_option maxHeartbeats 4000000 in
theorem kZ ⦃o1: T0t × (List UInt8) × Int × Int × T5t⦄ ⦃e3: Int⦄ ⦃r: Int × T1t⦄ (h: aX o1 e3 r) (bx0: Nat) (ia2: Option (Nat × Nat)) : Cn Tryz.prog 42 [pw bx0, iv e3] [⟨bx0, 59, ([.sl 10 (some ia2) (List.map aa o1.1.1), iv o1.1.2, sb o1.2.1, iv o1.2.2.1, iv o1.2.2.2.1] ++ (List.map eB o1.2.2.2.2.l).flatten)⟩] [⟨ia2, 43, 10, o1.1.1.length⟩] fun rr bx tk=>∃ j1, rr=iv r.1 ∧ bx=[⟨bx0, 59, ([.sl 10 (some j1) (List.map aa r.2.1.1), iv r.2.1.2, sb r.2.2.1, iv r.2.2.2.1, iv r.2.2.2.2.1] ++ (List.map eB r.2.2.2.2.2.l).flatten)⟩] ∧ tk=[⟨j1, 43, 10, r.2.1.1.length⟩] := by
 refine aj Tryz.func42 rfl rfl (by kernel_rfl) fun g hg=>?_;simp only [Tryz.ntmps42,au];refine i_ h (fun h=>?_) fun h=>?_
 ·exact r_ h hg
 exact r_ h hg
def kl (l4: List Int) (kind3: Int) (ag1: (Int×Int×(List T4t)×Int×(List UInt8)×Int×Int×T5t)→Prop) (atv142: Int) (x143: Int) (f144: List T4t) (f146: Int) (f147: List UInt8) (f148: Int) (f149: Int) (f150: Arr 10 (Bool)) (r: Int×T1t) : Prop:=
 ((x143 < (((l4.drop (1 : Int).toNat)).length : Int)→0≤(x143 : Int)∧∃ y185 : Int,((l4.drop (1 : Int).toNat))[(x143 : Int).toNat]? = some y185∧((atv142 = (-1)→r = (atv142,((f144,f146),f147,f148,f149,f150)))∧(¬ (atv142 = (-1))→∃ y192 : Int×T1t,bn ((f144,f146),f147,f148,f149,f150) (kind3,atv142,y185,0,0,0,(Arr.rep 4 (0 : UInt64))) y192∧InR (x143 + 1)∧ag1 (y192.1,(x143 + 1),y192.2.1.1,y192.2.1.2,y192.2.2.1,y192.2.2.2.1,y192.2.2.2.2.1,y192.2.2.2.2.2))))∧(¬ (x143 < (((l4.drop (1 : Int).toNat)).length : Int))→r = (atv142,((f144,f146),f147,f148,f149,f150))))
def ee (o1: T0t×(List UInt8)×Int×Int×T5t) (kind3: Int) (l4: List Int) (r: Int×T1t) : Prop:=
 0≤(0 : Int)∧∃ y30 : Int,l4[(0 : Int).toNat]? = some y30∧((y30 < 0→r = ((-1),o1))∧(¬ (y30 < 0)→0≤(0 : Int)∧∃ y34 : Int,l4[(0 : Int).toNat]? = some y34∧(((o1.1.1.length : Int)≤y34→r = ((-1),o1))∧(¬ ((o1.1.1.length : Int)≤y34)→0≤(0 : Int)∧∃ y39 : Int,l4[(0 : Int).toNat]? = some y39∧(0≤(1 : Int)∧(1 : Int)≤(l4.length : Int))∧aR (fun ag1 s=>kl l4 kind3 ag1 s.1 s.2.1 s.2.2.1 s.2.2.2.1 s.2.2.2.2.1 s.2.2.2.2.2.1 s.2.2.2.2.2.2.1 s.2.2.2.2.2.2.2 r) (y39,0,o1.1.1,o1.1.2,o1.2.1,o1.2.2.1,o1.2.2.2.1,o1.2.2.2.2)))))
set_option maxHeartbeats 4000000 in
theorem BD ⦃o1: T0t × (List UInt8) × Int × Int × T5t⦄ ⦃kind3: Int⦄ ⦃l4: List Int⦄ ⦃r: Int × T1t⦄ (h: ee o1 kind3 l4 r) (bx0: Nat) (ia2: Option (Nat × Nat)) : Cn Tryz.prog 67 [pw bx0, iv kind3, .sl 1 none (List.map ei l4)] [⟨bx0, 59, ([.sl 10 (some ia2) (List.map aa o1.1.1), iv o1.1.2, sb o1.2.1, iv o1.2.2.1, iv o1.2.2.2.1] ++ (List.map eB o1.2.2.2.2.l).flatten)⟩] [⟨ia2, 43, 10, o1.1.1.length⟩] fun rr bx tk=>∃ j1, rr=iv r.1 ∧ bx=[⟨bx0, 59, ([.sl 10 (some j1) (List.map aa r.2.1.1), iv r.2.1.2, sb r.2.2.1, iv r.2.2.2.1, iv r.2.2.2.2.1] ++ (List.map eB r.2.2.2.2.2.l).flatten)⟩] ∧ tk=[⟨j1, 43, 10, r.2.1.1.length⟩] := by
 refine aj Tryz.func67 rfl rfl (by kernel_rfl) fun g hg=>?_;simp only [Tryz.ntmps67,au];refine wn_ 7 h fun h=>?_;refine ay (m := 15) (by kernel_rfl) rfl ?_;obtain ⟨h31a, h⟩ := h;obtain ⟨y30, h31b, h⟩ := h;refine o_ [0] ?_;refine pl_ 1 rfl (aI h31a h31b ah.h ae.h rfl rfl) ?_;refine o_ [2,3,4] ?_;refine ip_ 14 h (fun h=>?_) fun h=>?_
 ·refine o_ [5,6,7,8,9,10,11,12,13,14] ?_;refine az (by kernel_rfl) ?_;exact r_ h hg
 obtain ⟨h35a, h⟩ := h;obtain ⟨y34, h35b, h⟩ := h;refine o_ [5] ?_;refine pl_ 6 rfl (aI h35a h35b ah.h ae.h rfl rfl) ?_;refine o_ [8,9,10,7,11,12,13,14] ?_;refine az (by kernel_rfl) ?_;refine i_ h (fun h=>?_) fun h=>?_
 ·exact r_ h hg
 refine x_ h fun y39 h=>?_;refine wn_ 14 h fun h=>?_;obtain ⟨Inv,⟨m0,hI⟩,hS⟩ := lq_ h;refine lp_ hI (fun σ m=>∃ atv142 x143 f144 f146 f147 f148 f149 f150 i145, Inv (atv142, x143, f144, f146, f147, f148, f149, f150) m ∧ σ=⟨[(0, pw bx0), (1, iv kind3), (7, iv atv142), (29, .sl 1 none (List.map ei ((l4.drop (1 : Int).toNat)))), (30, iv ((((l4.drop (1 : Int).toNat)).length : Int))), (31, iv x143)], [⟨bx0, 59, ([.sl 10 (some i145) (List.map aa f144), iv f146, sb f147, iv f148, iv f149] ++ (List.map eB f150.l).flatten)⟩], [⟨i145, 43, 10, f144.length⟩]⟩) ?_
 rintro _ m ⟨atv142,x143,f144,f146,f147,f148,f149,f150,i145,hI,rfl⟩;obtain ⟨ag1,hag1,h⟩ := bS hS hI;refine i_ h (fun h=>?_) fun h=>?_
 ·refine x_ h fun y185 h=>?_;refine i_ h (fun h=>?_) fun h=>?_
  ·exact r_ h hg
  refine wn_ 7 h fun h=>?_;refine vp_ (av (cs := ([iv kind3, iv atv142, iv y185, iv 0, iv 0, iv 0] ++ (List.map ew ((Arr.rep 4 (0 : UInt64))).l).flatten)) aO.h rfl (by refine am [] [iv 0] ([iv 0, iv 0, iv 0, iv 0, iv 0] ++ (List.map ew ((Arr.rep 4 (0 : UInt64))).l).flatten) sq_ sl_ sl_ sl_ rfl rfl ?_; refine am [iv kind3] [iv 0] ([iv 0, iv 0, iv 0, iv 0] ++ (List.map ew ((Arr.rep 4 (0 : UInt64))).l).flatten) sq_ sl_ sl_ sl_ rfl rfl ?_; refine am [iv kind3, iv atv142] [iv 0] ([iv 0, iv 0, iv 0] ++ (List.map ew ((Arr.rep 4 (0 : UInt64))).l).flatten) sq_ sl_ sl_ sl_ rfl rfl ?_; exact congrArg some sq_)) ?_
  refine c1_ oJ h fun y192 i193 h=>?_;exact g_ h hag1
 exact r_ h hg
def ja (o1: T0t×(List UInt8)×Int×Int×T5t) (l3: List Int) (r: Int×T1t) : Prop:=
 (((l3.length : Int) = 0→∃ y14 : Int×T1t,ij o1 y14∧r = (y14.1,y14.2))∧(¬ ((l3.length : Int) = 0)→∃ y17 : Int×T1t,ee o1 2 l3 y17∧r = (y17.1,y17.2)))
set_option maxHeartbeats 4000000 in
theorem Dp ⦃o1: T0t × (List UInt8) × Int × Int × T5t⦄ ⦃l3: List Int⦄ ⦃r: Int × T1t⦄ (h: ja o1 l3 r) (bx0: Nat) (ia2: Option (Nat × Nat)) : Cn Tryz.prog 50 [pw bx0, .sl 1 none (List.map ei l3)] [⟨bx0, 59, ([.sl 10 (some ia2) (List.map aa o1.1.1), iv o1.1.2, sb o1.2.1, iv o1.2.2.1, iv o1.2.2.2.1] ++ (List.map eB o1.2.2.2.2.l).flatten)⟩] [⟨ia2, 43, 10, o1.1.1.length⟩] fun rr bx tk=>∃ j1, rr=iv r.1 ∧ bx=[⟨bx0, 59, ([.sl 10 (some j1) (List.map aa r.2.1.1), iv r.2.1.2, sb r.2.2.1, iv r.2.2.2.1, iv r.2.2.2.2.1] ++ (List.map eB r.2.2.2.2.2.l).flatten)⟩] ∧ tk=[⟨j1, 43, 10, r.2.1.1.length⟩] := by
 refine aj Tryz.func50 rfl rfl (by kernel_rfl) fun g hg=>?_;simp only [Tryz.ntmps50,au];refine i_ h (fun h=>?_) fun h=>?_
 ·refine c1_ BB h fun y14 i15 h=>?_;exact r_ h hg
 refine c1_ BD h fun y17 i18 h=>?_;exact r_ h hg
def bI (o1: T0t×(List UInt8)×Int×Int×T5t) (k3: Int) (r: Int×T1t) : Prop:=
 ((k3 < 0→∃ y12 : Int×T1t,aX o1 8 y12∧r = (y12.1,y12.2))∧(¬ (k3 < 0)→r = (k3,o1)))
set_option maxHeartbeats 4000000 in
theorem nN ⦃o1: T0t × (List UInt8) × Int × Int × T5t⦄ ⦃k3: Int⦄ ⦃r: Int × T1t⦄ (h: bI o1 k3 r) (bx0: Nat) (ia2: Option (Nat × Nat)) : Cn Tryz.prog 43 [pw bx0, iv k3] [⟨bx0, 59, ([.sl 10 (some ia2) (List.map aa o1.1.1), iv o1.1.2, sb o1.2.1, iv o1.2.2.1, iv o1.2.2.2.1] ++ (List.map eB o1.2.2.2.2.l).flatten)⟩] [⟨ia2, 43, 10, o1.1.1.length⟩] fun rr bx tk=>∃ j1, rr=iv r.1 ∧ bx=[⟨bx0, 59, ([.sl 10 (some j1) (List.map aa r.2.1.1), iv r.2.1.2, sb r.2.2.1, iv r.2.2.2.1, iv r.2.2.2.2.1] ++ (List.map eB r.2.2.2.2.2.l).flatten)⟩] ∧ tk=[⟨j1, 43, 10, r.2.1.1.length⟩] := by
 refine aj Tryz.func43 rfl rfl (by kernel_rfl) fun g hg=>?_;simp only [Tryz.ntmps43,au];refine i_ h (fun h=>?_) fun h=>?_
 ·refine c1_ kZ h fun y12 i13 h=>?_;exact r_ h hg
 exact r_ h hg
def jb (o1: T0t×(List UInt8)×Int×Int×T5t) (l3: List Int) (r: Int×T1t) : Prop:=
 (((l3.length : Int) = 0→r = ((-1),o1))∧(¬ ((l3.length : Int) = 0)→∃ y11 : Int×T1t,ee o1 3 l3 y11∧r = (y11.1,y11.2)))
set_option maxHeartbeats 4000000 in
theorem Dq ⦃o1: T0t × (List UInt8) × Int × Int × T5t⦄ ⦃l3: List Int⦄ ⦃r: Int × T1t⦄ (h: jb o1 l3 r) (bx0: Nat) (ia2: Option (Nat × Nat)) : Cn Tryz.prog 44 [pw bx0, .sl 1 none (List.map ei l3)] [⟨bx0, 59, ([.sl 10 (some ia2) (List.map aa o1.1.1), iv o1.1.2, sb o1.2.1, iv o1.2.2.1, iv o1.2.2.2.1] ++ (List.map eB o1.2.2.2.2.l).flatten)⟩] [⟨ia2, 43, 10, o1.1.1.length⟩] fun rr bx tk=>∃ j1, rr=iv r.1 ∧ bx=[⟨bx0, 59, ([.sl 10 (some j1) (List.map aa r.2.1.1), iv r.2.1.2, sb r.2.2.1, iv r.2.2.2.1, iv r.2.2.2.2.1] ++ (List.map eB r.2.2.2.2.2.l).flatten)⟩] ∧ tk=[⟨j1, 43, 10, r.2.1.1.length⟩] := by
 refine aj Tryz.func44 rfl rfl (by kernel_rfl) fun g hg=>?_;simp only [Tryz.ntmps44,au];refine i_ h (fun h=>?_) fun h=>?_
 ·exact r_ h hg
 refine c1_ BD h fun y11 i12 h=>?_;exact r_ h hg
def lF (o1: T0t×(List UInt8)×Int×Int×T5t) (r: Int×T1t) : Prop:=
 ∃ y4 : Int×T1t,bn o1 (7,0,0,0,0,0,(Arr.rep 4 (0 : UInt64))) y4∧r = (y4.1,y4.2)
set_option maxHeartbeats 4000000 in
theorem Dr ⦃o1: T0t × (List UInt8) × Int × Int × T5t⦄ ⦃r: Int × T1t⦄ (h: lF o1 r) (bx0: Nat) (ia2: Option (Nat × Nat)) : Cn Tryz.prog 47 [pw bx0] [⟨bx0, 59, ([.sl 10 (some ia2) (List.map aa o1.1.1), iv o1.1.2, sb o1.2.1, iv o1.2.2.1, iv o1.2.2.2.1] ++ (List.map eB o1.2.2.2.2.l).flatten)⟩] [⟨ia2, 43, 10, o1.1.1.length⟩] fun rr bx tk=>∃ j1, rr=iv r.1 ∧ bx=[⟨bx0, 59, ([.sl 10 (some j1) (List.map aa r.2.1.1), iv r.2.1.2, sb r.2.2.1, iv r.2.2.2.1, iv r.2.2.2.2.1] ++ (List.map eB r.2.2.2.2.2.l).flatten)⟩] ∧ tk=[⟨j1, 43, 10, r.2.1.1.length⟩] := by
 refine aj Tryz.func47 rfl rfl (by kernel_rfl) fun g hg=>?_;simp only [Tryz.ntmps47,au];refine wn_ 8 h fun h=>?_;refine vp_ (av (cs := ([iv 7, iv 0, iv 0, iv 0, iv 0, iv 0] ++ (List.map ew ((Arr.rep 4 (0 : UInt64))).l).flatten)) aO.h rfl (by refine am [] [iv 0] ([iv 0, iv 0, iv 0, iv 0, iv 0] ++ (List.map ew ((Arr.rep 4 (0 : UInt64))).l).flatten) sq_ sl_ sl_ sl_ rfl rfl ?_; exact congrArg some sq_)) ?_
 refine c1_ oJ h fun y4 i5 h=>?_;exact r_ h hg
def lG (o1: T0t×(List UInt8)×Int×Int×T5t) (r: Int×T1t) : Prop:=
 ∃ y4 : Int×T1t,bn o1 (8,0,0,0,0,0,(Arr.rep 4 (0 : UInt64))) y4∧r = (y4.1,y4.2)
set_option maxHeartbeats 4000000 in
theorem Ds ⦃o1: T0t × (List UInt8) × Int × Int × T5t⦄ ⦃r: Int × T1t⦄ (h: lG o1 r) (bx0: Nat) (ia2: Option (Nat × Nat)) : Cn Tryz.prog 86 [pw bx0] [⟨bx0, 59, ([.sl 10 (some ia2) (List.map aa o1.1.1), iv o1.1.2, sb o1.2.1, iv o1.2.2.1, iv o1.2.2.2.1] ++ (List.map eB o1.2.2.2.2.l).flatten)⟩] [⟨ia2, 43, 10, o1.1.1.length⟩] fun rr bx tk=>∃ j1, rr=iv r.1 ∧ bx=[⟨bx0, 59, ([.sl 10 (some j1) (List.map aa r.2.1.1), iv r.2.1.2, sb r.2.2.1, iv r.2.2.2.1, iv r.2.2.2.2.1] ++ (List.map eB r.2.2.2.2.2.l).flatten)⟩] ∧ tk=[⟨j1, 43, 10, r.2.1.1.length⟩] := by
 refine aj Tryz.func86 rfl rfl (by kernel_rfl) fun g hg=>?_;simp only [Tryz.ntmps86,au];refine wn_ 8 h fun h=>?_;refine vp_ (av (cs := ([iv 8, iv 0, iv 0, iv 0, iv 0, iv 0] ++ (List.map ew ((Arr.rep 4 (0 : UInt64))).l).flatten)) aO.h rfl (by refine am [] [iv 0] ([iv 0, iv 0, iv 0, iv 0, iv 0] ++ (List.map ew ((Arr.rep 4 (0 : UInt64))).l).flatten) sq_ sl_ sl_ sl_ rfl rfl ?_; exact congrArg some sq_)) ?_
 refine c1_ oJ h fun y4 i5 h=>?_;exact r_ h hg
def kJ (o1: T0t×(List UInt8)×Int×Int×T5t) (gv3: Int) (r: Int×T1t) : Prop:=
 ∃ y5 : Int×T1t,bn o1 (6,0,0,0,0,gv3,(Arr.rep 4 (0 : UInt64))) y5∧r = (y5.1,y5.2)
set_option maxHeartbeats 4000000 in
theorem Dt ⦃o1: T0t × (List UInt8) × Int × Int × T5t⦄ ⦃gv3: Int⦄ ⦃r: Int × T1t⦄ (h: kJ o1 gv3 r) (bx0: Nat) (ia2: Option (Nat × Nat)) : Cn Tryz.prog 110 [pw bx0, iv gv3] [⟨bx0, 59, ([.sl 10 (some ia2) (List.map aa o1.1.1), iv o1.1.2, sb o1.2.1, iv o1.2.2.1, iv o1.2.2.2.1] ++ (List.map eB o1.2.2.2.2.l).flatten)⟩] [⟨ia2, 43, 10, o1.1.1.length⟩] fun rr bx tk=>∃ j1, rr=iv r.1 ∧ bx=[⟨bx0, 59, ([.sl 10 (some j1) (List.map aa r.2.1.1), iv r.2.1.2, sb r.2.2.1, iv r.2.2.2.1, iv r.2.2.2.2.1] ++ (List.map eB r.2.2.2.2.2.l).flatten)⟩] ∧ tk=[⟨j1, 43, 10, r.2.1.1.length⟩] := by
 refine aj Tryz.func110 rfl rfl (by kernel_rfl) fun g hg=>?_;simp only [Tryz.ntmps110,au];refine wn_ 9 h fun h=>?_;refine vp_ (av (cs := ([iv 6, iv 0, iv 0, iv 0, iv 0, iv gv3] ++ (List.map ew ((Arr.rep 4 (0 : UInt64))).l).flatten)) aO.h rfl (by refine am [] [iv 0] ([iv 0, iv 0, iv 0, iv 0, iv 0] ++ (List.map ew ((Arr.rep 4 (0 : UInt64))).l).flatten) sq_ sl_ sl_ sl_ rfl rfl ?_; refine am [iv 6, iv 0, iv 0, iv 0, iv 0] [iv 0] ((List.map ew ((Arr.rep 4 (0 : UInt64))).l).flatten) sq_ sl_ sl_ sl_ rfl rfl ?_; exact congrArg some sq_)) ?_
 refine c1_ oJ h fun y5 i6 h=>?_;exact r_ h hg
def cD (c1: UInt8) (low2: UInt8) (high3: UInt8) (r: Bool) : Prop:=
 (((low2.toNat : Int)≤(c1.toNat : Int)→r = (decide ((c1.toNat : Int)≤(high3.toNat : Int))))∧(¬ ((low2.toNat : Int)≤(c1.toNat : Int))→r = false))
set_option maxHeartbeats 4000000 in
theorem p9 ⦃c1: UInt8⦄ ⦃low2: UInt8⦄ ⦃high3: UInt8⦄ ⦃r: Bool⦄ (h: cD c1 low2 high3 r) : Cn Tryz.prog 131 [uv c1, uv low2, uv high3] [] [] (Ret (bv r)) := by
 refine aj Tryz.func131 rfl rfl (by kernel_rfl) fun g hg=>?_;simp only [Tryz.ntmps131,au];refine is_ 10 h (fun h=>?_) fun h=>?_
 ·exact r_ h hg
 exact r_ h hg
def eT (c1: UInt8) (r: Bool) : Prop:=
 ∃ y3 : Bool,cD c1 (65 : UInt8) (90 : UInt8) y3∧r = y3
set_option maxHeartbeats 4000000 in
theorem yd ⦃c1: UInt8⦄ ⦃r: Bool⦄ (h: eT c1 r) : Cn Tryz.prog 127 [uv c1] [] [] (Ret (bv r)) := by
 refine aj Tryz.func127 rfl rfl (by kernel_rfl) fun g hg=>?_;simp only [Tryz.ntmps127,au];refine z0_ p9 h fun y3 h=>?_;exact r_ h hg
def eU (c1: UInt8) (r: Bool) : Prop:=
 ∃ y3 : Bool,cD c1 (97 : UInt8) (122 : UInt8) y3∧r = y3
set_option maxHeartbeats 4000000 in
theorem ye ⦃c1: UInt8⦄ ⦃r: Bool⦄ (h: eU c1 r) : Cn Tryz.prog 128 [uv c1] [] [] (Ret (bv r)) := by
 refine aj Tryz.func128 rfl rfl (by kernel_rfl) fun g hg=>?_;simp only [Tryz.ntmps128,au];refine z0_ p9 h fun y3 h=>?_;exact r_ h hg
def dS (c1: UInt8) (r: Bool) : Prop:=
 ∃ y3 : Bool,cD c1 (48 : UInt8) (57 : UInt8) y3∧r = y3
set_option maxHeartbeats 4000000 in
theorem vC ⦃c1: UInt8⦄ ⦃r: Bool⦄ (h: dS c1 r) : Cn Tryz.prog 113 [uv c1] [] [] (Ret (bv r)) := by
 refine aj Tryz.func113 rfl rfl (by kernel_rfl) fun g hg=>?_;simp only [Tryz.ntmps113,au];refine z0_ p9 h fun y3 h=>?_;exact r_ h hg
def fZ (c1: UInt8) (r: Bool) : Prop:=
 ∃ y11 : Bool,dS c1 y11∧((y11 = true→r = true)∧(¬ (y11 = true)→∃ y14 : Bool,eT c1 y14∧((y14 = true→r = true)∧(¬ (y14 = true)→∃ y17 : Bool,eU c1 y17∧r = y17))))
set_option maxHeartbeats 4000000 in
theorem BE ⦃c1: UInt8⦄ ⦃r: Bool⦄ (h: fZ c1 r) : Cn Tryz.prog 129 [uv c1] [] [] (Ret (bv r)) := by
 refine aj Tryz.func129 rfl rfl (by kernel_rfl) fun g hg=>?_;simp only [Tryz.ntmps129,au];refine z0_ vC h fun y11 h=>?_;refine is_ 5 h (fun h=>?_) fun h=>?_
 ·exact r_ h hg
 refine z0_ yd h fun y14 h=>?_;refine is_ 9 h (fun h=>?_) fun h=>?_
 ·exact r_ h hg
 refine z0_ ye h fun y17 h=>?_;exact r_ h hg
def f3 (c1: UInt8) (r: Bool) : Prop:=
 (((c1.toNat : Int) = 32→r = true)∧(¬ ((c1.toNat : Int) = 32)→r = (decide ((c1.toNat : Int) = 9))))
set_option maxHeartbeats 4000000 in
theorem BF ⦃c1: UInt8⦄ ⦃r: Bool⦄ (h: f3 c1 r) : Cn Tryz.prog 130 [uv c1] [] [] (Ret (bv r)) := by
 refine aj Tryz.func130 rfl rfl (by kernel_rfl) fun g hg=>?_;simp only [Tryz.ntmps130,au];refine is_ 5 h (fun h=>?_) fun h=>?_
 ·exact r_ h hg
 exact r_ h hg
def eV (c1: UInt8) (r: Bool) : Prop:=
 ∃ y3 : Bool,cD c1 (33 : UInt8) (126 : UInt8) y3∧r = y3
set_option maxHeartbeats 4000000 in
theorem yf ⦃c1: UInt8⦄ ⦃r: Bool⦄ (h: eV c1 r) : Cn Tryz.prog 132 [uv c1] [] [] (Ret (bv r)) := by
 refine aj Tryz.func132 rfl rfl (by kernel_rfl) fun g hg=>?_;simp only [Tryz.ntmps132,au];refine z0_ p9 h fun y3 h=>?_;exact r_ h hg
def jr (x1: ByteArray) (x2: UInt8) (r: Bool×Bool) : Prop:=
 (((x1.toList == ((⟨#[117,112,112,101,114]⟩: ByteArray)).toList) = true→∃ y102 : Bool,eT x2 y102∧r = (y102,true))∧(¬ ((x1.toList == ((⟨#[117,112,112,101,114]⟩: ByteArray)).toList) = true)→(((x1.toList == ((⟨#[108,111,119,101,114]⟩: ByteArray)).toList) = true→∃ y106 : Bool,eU x2 y106∧r = (y106,true))∧(¬ ((x1.toList == ((⟨#[108,111,119,101,114]⟩: ByteArray)).toList) = true)→(((x1.toList == ((⟨#[100,105,103,105,116]⟩: ByteArray)).toList) = true→∃ y110 : Bool,dS x2 y110∧r = (y110,true))∧(¬ ((x1.toList == ((⟨#[100,105,103,105,116]⟩: ByteArray)).toList) = true)→(((x1.toList == ((⟨#[97,108,112,104,97]⟩: ByteArray)).toList) = true→∃ y119 : Bool,eT x2 y119∧((y119 = true→r = (true,true))∧(¬ (y119 = true)→∃ y122 : Bool,eU x2 y122∧r = (y122,true))))∧(¬ ((x1.toList == ((⟨#[97,108,112,104,97]⟩: ByteArray)).toList) = true)→(((x1.toList == ((⟨#[97,108,110,117,109]⟩: ByteArray)).toList) = true→∃ y126 : Bool,fZ x2 y126∧r = (y126,true))∧(¬ ((x1.toList == ((⟨#[97,108,110,117,109]⟩: ByteArray)).toList) = true)→(((x1.toList == ((⟨#[98,108,97,110,107]⟩: ByteArray)).toList) = true→∃ y130 : Bool,f3 x2 y130∧r = (y130,true))∧(¬ ((x1.toList == ((⟨#[98,108,97,110,107]⟩: ByteArray)).toList) = true)→(((x1.toList == ((⟨#[115,112,97,99,101]⟩: ByteArray)).toList) = true→∃ y139 : Bool,f3 x2 y139∧((y139 = true→r = (true,true))∧(¬ (y139 = true)→∃ y142 : Bool,cD x2 (10 : UInt8) (13 : UInt8) y142∧r = (y142,true))))∧(¬ ((x1.toList == ((⟨#[115,112,97,99,101]⟩: ByteArray)).toList) = true)→(((x1.toList == ((⟨#[99,110,116,114,108]⟩: ByteArray)).toList) = true→(((x2.toNat : Int) < 32→r = (true,true))∧(¬ ((x2.toNat : Int) < 32)→r = ((decide ((x2.toNat : Int) = 127)),true))))∧(¬ ((x1.toList == ((⟨#[99,110,116,114,108]⟩: ByteArray)).toList) = true)→(((x1.toList == ((⟨#[103,114,97,112,104]⟩: ByteArray)).toList) = true→∃ y154 : Bool,eV x2 y154∧r = (y154,true))∧(¬ ((x1.toList == ((⟨#[103,114,97,112,104]⟩: ByteArray)).toList) = true)→(((x1.toList == ((⟨#[112,114,105,110,116]⟩: ByteArray)).toList) = true→∃ y162 : Bool,eV x2 y162∧((y162 = true→r = (true,true))∧(¬ (y162 = true)→r = ((decide ((x2.toNat : Int) = 32)),true))))∧(¬ ((x1.toList == ((⟨#[112,114,105,110,116]⟩: ByteArray)).toList) = true)→(((x1.toList == ((⟨#[112,117,110,99,116]⟩: ByteArray)).toList) = true→∃ y173 : Bool,eV x2 y173∧((y173 = true→∃ y176 : Bool,fZ x2 y176∧r = ((!y176),true))∧(¬ (y173 = true)→r = (false,true))))∧(¬ ((x1.toList == ((⟨#[112,117,110,99,116]⟩: ByteArray)).toList) = true)→(((x1.toList == ((⟨#[120,100,105,103,105,116]⟩: ByteArray)).toList) = true→∃ y188 : Bool,dS x2 y188∧((y188 = true→r = (true,true))∧(¬ (y188 = true)→∃ y191 : Bool,cD x2 (65 : UInt8) (70 : UInt8) y191∧((y191 = true→r = (true,true))∧(¬ (y191 = true)→∃ y194 : Bool,cD x2 (97 : UInt8) (102 : UInt8) y194∧r = (y194,true))))))∧(¬ ((x1.toList == ((⟨#[120,100,105,103,105,116]⟩: ByteArray)).toList) = true)→r = (false,false)))))))))))))))))))))))))
set_option maxHeartbeats 4000000 in
theorem yg ⦃x1: ByteArray⦄ ⦃x2: UInt8⦄ ⦃r: Bool × Bool⦄ (h: jr x1 x2 r) : Cn Tryz.prog 108 [.v (.string x1), uv x2] [] [] fun rr bx tk=>rr=.tup [bv r.1, bv r.2] ∧ bx=[] ∧ tk=[] := by
 refine aj Tryz.func108 rfl rfl (by kernel_rfl) fun g hg=>?_;simp only [Tryz.ntmps108,au];refine i_ h (fun h=>?_) fun h=>?_
 ·refine z0_ yd h fun y102 h=>?_;exact r_ h hg
 refine i_ h (fun h=>?_) fun h=>?_
 ·refine z0_ ye h fun y106 h=>?_;exact r_ h hg
 refine i_ h (fun h=>?_) fun h=>?_
 ·refine z0_ vC h fun y110 h=>?_;exact r_ h hg
 refine i_ h (fun h=>?_) fun h=>?_
 ·refine z0_ yd h fun y119 h=>?_;refine is_ 23 h (fun h=>?_) fun h=>?_
  ·exact r_ h hg
  refine z0_ ye h fun y122 h=>?_;exact r_ h hg
 refine i_ h (fun h=>?_) fun h=>?_
 ·refine z0_ BE h fun y126 h=>?_;exact r_ h hg
 refine i_ h (fun h=>?_) fun h=>?_
 ·refine z0_ BF h fun y130 h=>?_;exact r_ h hg
 refine i_ h (fun h=>?_) fun h=>?_
 ·refine z0_ BF h fun y139 h=>?_;refine is_ 39 h (fun h=>?_) fun h=>?_
  ·exact r_ h hg
  refine z0_ p9 h fun y142 h=>?_;exact r_ h hg
 refine i_ h (fun h=>?_) fun h=>?_
 ·refine is_ 47 h (fun h=>?_) fun h=>?_
  ·exact r_ h hg
  exact r_ h hg
 refine i_ h (fun h=>?_) fun h=>?_
 ·refine z0_ yf h fun y154 h=>?_;exact r_ h hg
 refine i_ h (fun h=>?_) fun h=>?_
 ·refine z0_ yf h fun y162 h=>?_;refine is_ 59 h (fun h=>?_) fun h=>?_
  ·exact r_ h hg
  exact r_ h hg
 refine i_ h (fun h=>?_) fun h=>?_
 ·refine z0_ yf h fun y173 h=>?_;refine is_ 67 h (fun h=>?_) fun h=>?_
  ·refine z0_ BE h fun y176 h=>?_;exact r_ h hg
  exact r_ h hg
 refine i_ h (fun h=>?_) fun h=>?_
 ·refine z0_ vC h fun y188 h=>?_;refine is_ 76 h (fun h=>?_) fun h=>?_
  ·exact r_ h hg
  refine z0_ p9 h fun y191 h=>?_;refine is_ 80 h (fun h=>?_) fun h=>?_
  ·exact r_ h hg
  refine z0_ p9 h fun y194 h=>?_;exact r_ h hg
 exact r_ h hg
def lH (o1: T0t×(List UInt8)×Int×Int×T5t) (sv3: Arr 4 (UInt64)) (r: Int×T1t) : Prop:=
 ∃ y5 : Int×T1t,bn o1 (1,0,0,0,0,0,sv3) y5∧r = (y5.1,y5.2)
set_option maxHeartbeats 4000000 in
theorem Du ⦃o1: T0t × (List UInt8) × Int × Int × T5t⦄ ⦃sv3: Arr 4 (UInt64)⦄ ⦃r: Int × T1t⦄ (h: lH o1 sv3 r) (bx0: Nat) (ia2: Option (Nat × Nat)) : Cn Tryz.prog 89 [pw bx0, .agg ((List.map ew sv3.l).flatten)] [⟨bx0, 59, ([.sl 10 (some ia2) (List.map aa o1.1.1), iv o1.1.2, sb o1.2.1, iv o1.2.2.1, iv o1.2.2.2.1] ++ (List.map eB o1.2.2.2.2.l).flatten)⟩] [⟨ia2, 43, 10, o1.1.1.length⟩] fun rr bx tk=>∃ j1, rr=iv r.1 ∧ bx=[⟨bx0, 59, ([.sl 10 (some j1) (List.map aa r.2.1.1), iv r.2.1.2, sb r.2.2.1, iv r.2.2.2.1, iv r.2.2.2.2.1] ++ (List.map eB r.2.2.2.2.2.l).flatten)⟩] ∧ tk=[⟨j1, 43, 10, r.2.1.1.length⟩] := by
 refine aj Tryz.func89 rfl rfl (by kernel_rfl) fun g hg=>?_;simp only [Tryz.ntmps89,au];refine wn_ 2 h fun h=>?_;refine cr rfl rfl rfl rfl fun b3 => ?_;refine wn_ 6 h fun h=>?_;refine v_ (al 0 [] ((List.map ew sv3.l).flatten) [] sq_ sl_ sl_ (ao (aD (by rfl))) ae.h rfl rfl) ?_;refine vp_ (av (cs := ([iv 1, iv 0, iv 0, iv 0, iv 0, iv 0] ++ (List.map ew sv3.l).flatten)) aO.h rfl (by refine am [] [iv 0] ([iv 0, iv 0, iv 0, iv 0, iv 0] ++ (List.map ew ((Arr.rep 4 (0 : UInt64))).l).flatten) sq_ sl_ sl_ sl_ rfl rfl ?_; refine am [iv 1, iv 0, iv 0, iv 0, iv 0, iv 0] ((List.map ew ((Arr.rep 4 (0 : UInt64))).l).flatten) [] sq_ sl_ sl_ sl_ rfl rfl ?_; exact congrArg some sq_)) ?_
 refine c1_ oJ h fun y5 i6 h=>?_;exact r_ h hg
def ep (o1: T0t×(List UInt8)×Int×Int×T5t) (nv3: Int) (sv4: Arr 4 (UInt64)) (r: Int×T1t) : Prop:=
 InR (o1.2.2.1 + nv3)∧∃ y13 : Int×T1t,lH (o1.1,o1.2.1,(o1.2.2.1 + nv3),o1.2.2.2.1,o1.2.2.2.2) sv4 y13∧∃ y16 : Int×T1t,bI y13.2 y13.1 y16∧r = (y16.1,y16.2)
set_option maxHeartbeats 4000000 in
theorem vD ⦃o1: T0t × (List UInt8) × Int × Int × T5t⦄ ⦃nv3: Int⦄ ⦃sv4: Arr 4 (UInt64)⦄ ⦃r: Int × T1t⦄ (h: ep o1 nv3 sv4 r) (bx0: Nat) (ia2: Option (Nat × Nat)) : Cn Tryz.prog 106 [pw bx0, iv nv3, .agg ((List.map ew sv4.l).flatten)] [⟨bx0, 59, ([.sl 10 (some ia2) (List.map aa o1.1.1), iv o1.1.2, sb o1.2.1, iv o1.2.2.1, iv o1.2.2.2.1] ++ (List.map eB o1.2.2.2.2.l).flatten)⟩] [⟨ia2, 43, 10, o1.1.1.length⟩] fun rr bx tk=>∃ j1, rr=iv r.1 ∧ bx=[⟨bx0, 59, ([.sl 10 (some j1) (List.map aa r.2.1.1), iv r.2.1.2, sb r.2.2.1, iv r.2.2.2.1, iv r.2.2.2.2.1] ++ (List.map eB r.2.2.2.2.2.l).flatten)⟩] ∧ tk=[⟨j1, 43, 10, r.2.1.1.length⟩] := by
 refine aj Tryz.func106 rfl rfl (by kernel_rfl) fun g hg=>?_;simp only [Tryz.ntmps106,au];refine wn_ 2 h fun h=>?_;refine cr rfl rfl rfl rfl fun b5 => ?_;refine wn_ 17 h fun h=>?_;refine ay (m := 8) (by kernel_rfl) rfl ?_;obtain ⟨y13, h12, h⟩ := h;obtain ⟨y16, h15, h⟩ := h;refine o_ [0,1,2,3] ?_;refine cU 4 [] rfl (al 0 [] ((List.map ew sv4.l).flatten) [] sq_ sl_ sl_ (ao (aD (by rfl))) ae.h rfl rfl) rfl rfl (by kernel_rfl) (by kernel_rfl) (by kernel_rfl) (fun _ _ _ _ h => h) ?_
 refine aE (i := 5) (by kernel_rfl) rfl ?_;refine qk Du h12 fun i14=>?_;refine aE (i := 6) (by kernel_rfl) rfl ?_;refine qk nN h15 fun i17=>?_;refine o_ [7] ?_;refine az (by kernel_rfl) ?_;exact r_ h hg
def ik (o1: T0t×(List UInt8)×Int×Int×T5t) (x121: UInt8) (r: Int×T1t) : Prop:=
 ∃ y125 : T7t,fY ([x121]) y125∧∃ y127 : Int×T1t,ep o1 2 y125 y127∧r = (y127.1,y127.2)
def km (o1: T0t×(List UInt8)×Int×Int×T5t) (y27: UInt8) (x112: Bool) (r: Int×T1t) : Prop:=
 ((x112 = true→∃ y117 : Int×T1t,aX o1 10 y117∧r = (y117.1,y117.2))∧(¬ (x112 = true)→(((y27.toNat : Int) = 110→ik o1 (10 : UInt8) r)∧(¬ ((y27.toNat : Int) = 110)→ik o1 y27 r))))
def kn (y27: UInt8) (o1: T0t×(List UInt8)×Int×Int×T5t) (x66: Bool) (r: Int×T1t) : Prop:=
 ((x66 = true→∃ c80 : UInt8,(c80.toNat : Int) = IntKind.u8.wrap ((y27.toNat : Int) - 48)∧(0≤((c80.toNat : Int) : Int)∧((c80.toNat : Int) : Int) < 10)∧∃ y82 : Bool,o1.2.2.2.2.l[((c80.toNat : Int) : Int).toNat]? = some y82∧((¬ (y82 = true)→∃ y85 : Int×T1t,aX o1 16 y85∧r = (y85.1,y85.2))∧(¬ (¬ (y82 = true))→InR (o1.2.2.1 + 2)∧∃ c89 : UInt8,(c89.toNat : Int) = IntKind.u8.wrap ((y27.toNat : Int) - 48)∧∃ y92 : Int×T1t,kJ (o1.1,o1.2.1,(o1.2.2.1 + 2),o1.2.2.2.1,o1.2.2.2.2) (c89.toNat : Int) y92∧∃ y95 : Int×T1t,bI y92.2 y92.1 y95∧r = (y95.1,y95.2))))∧(¬ (x66 = true)→∃ y109 : Bool×Bool,jr (⟨#[97,108,110,117,109]⟩: ByteArray) y27 y109∧km o1 y27 (y109.1 && (!(decide ((y27.toNat : Int) = 110)))) r))
def iK (o1: T0t×(List UInt8)×Int×Int×T5t) (r: Int×T1t) : Prop:=
 InR (o1.2.2.1 + 1)∧(((o1.2.2.1 + 1) = (o1.2.1.length : Int)→∃ y21 : Int×T1t,aX o1 10 y21∧r = (y21.1,y21.2))∧(¬ ((o1.2.2.1 + 1) = (o1.2.1.length : Int))→InR (o1.2.2.1 + 1)∧0≤((o1.2.2.1 + 1) : Int)∧∃ y27 : UInt8,o1.2.1[((o1.2.2.1 + 1) : Int).toNat]? = some y27∧kn y27 o1 ((decide (49≤(y27.toNat : Int))) && (decide ((y27.toNat : Int)≤57))) r))
set_option maxHeartbeats 4000000 in
theorem Dv ⦃o1: T0t × (List UInt8) × Int × Int × T5t⦄ ⦃r: Int × T1t⦄ (h: iK o1 r) (bx0: Nat) (ia2: Option (Nat × Nat)) : Cn Tryz.prog 105 [pw bx0] [⟨bx0, 59, ([.sl 10 (some ia2) (List.map aa o1.1.1), iv o1.1.2, sb o1.2.1, iv o1.2.2.1, iv o1.2.2.2.1] ++ (List.map eB o1.2.2.2.2.l).flatten)⟩] [⟨ia2, 43, 10, o1.1.1.length⟩] fun rr bx tk=>∃ j1, rr=iv r.1 ∧ bx=[⟨bx0, 59, ([.sl 10 (some j1) (List.map aa r.2.1.1), iv r.2.1.2, sb r.2.2.1, iv r.2.2.2.1, iv r.2.2.2.2.1] ++ (List.map eB r.2.2.2.2.2.l).flatten)⟩] ∧ tk=[⟨j1, 43, 10, r.2.1.1.length⟩] := by
 refine aj Tryz.func105 rfl rfl (by kernel_rfl) fun g hg=>?_;simp only [Tryz.ntmps105,au];refine wn_ 7 h fun h=>?_;refine ay (m := 11) (by kernel_rfl) rfl ?_;obtain ⟨h16, h⟩ := h;refine o_ [0,1,2,5,6,7,3,4,8,9,10] ?_;refine az (by kernel_rfl) ?_;refine i_ h (fun h=>?_) fun h=>?_
 ·refine c1_ kZ h fun y21 i22 h=>?_;exact r_ h hg
 refine wn_ 3 h fun h=>?_;refine ay (m := 12) (by kernel_rfl) rfl ?_;obtain ⟨h26, h⟩ := h;obtain ⟨h28a, h⟩ := h;obtain ⟨y27, h28b, h⟩ := h;refine o_ [0,1,2,4,5,6,7,8,3] ?_;refine pl_ 9 rfl (aI h28a h28b ah.h ae.h rfl rfl) ?_;refine o_ [10,11] ?_;refine az (by kernel_rfl) ?_;refine wn_ 2 h fun h=>?_;refine aw (fun σ=>∃ x66, kn y27 o1 x66 r ∧ σ=⟨[(0, pw bx0), (3, uv y27), (35, bv x66)], [⟨bx0, 59, ([.sl 10 (some ia2) (List.map aa o1.1.1), iv o1.1.2, sb o1.2.1, iv o1.2.2.1, iv o1.2.2.2.1] ++ (List.map eB o1.2.2.2.2.l).flatten)⟩], [⟨ia2, 43, 10, o1.1.1.length⟩]⟩) ?_ ?_
 ·refine ks_ 32 h (fun h=>?_) fun h=>?_
  ·exact m_ h
  exact m_ h
 rintro _ ⟨x66,h,rfl⟩;refine i_ h (fun h=>?_) fun h=>?_
 ·refine wn_ 5 h fun h=>?_;obtain ⟨c80, h79, h⟩ := h;refine vp_ (eK h79 rfl rfl rfl) ?_;refine wn_ 2 h fun h=>?_;obtain ⟨h81, h⟩ := h;obtain ⟨y82, h81b, h⟩ := h;refine vp_ (aA h81 ah.h ae.h rfl rfl) ?_;refine v_ (dr (f := eB) (a := o1.2.2.2.2) (k := 1) (off := 0) (i := ((c80.toNat : Int) : Int).toNat) 0 [.sl 10 (some ia2) (List.map aa o1.1.1), iv o1.1.2, sb o1.2.1, iv o1.2.2.1, iv o1.2.2.2.1] [] h81b sq_ so_ (by decide) rfl ae.h rfl rfl) ?_
  refine i_ h (fun h=>?_) fun h=>?_
  ·refine c1_ kZ h fun y85 i86 h=>?_;exact r_ h hg
  refine wn_ 21 h fun h=>?_;obtain ⟨c89, h88, h⟩ := h;refine vp_ (eK h88 rfl rfl rfl) ?_;refine c1_ Dt h fun y92 i93 h=>?_;refine c1_ nN h fun y95 i96 h=>?_;exact r_ h hg
 refine z0_ yg h fun y109 h=>?_;refine wn_ 7 h fun h=>?_;refine aw (fun σ=>∃ x112, km o1 y27 x112 r ∧ σ=⟨[(0, pw bx0), (3, uv y27), (71, bv x112)], [⟨bx0, 59, ([.sl 10 (some ia2) (List.map aa o1.1.1), iv o1.1.2, sb o1.2.1, iv o1.2.2.1, iv o1.2.2.2.1] ++ (List.map eB o1.2.2.2.2.l).flatten)⟩], [⟨ia2, 43, 10, o1.1.1.length⟩]⟩) ?_ ?_
 ·refine ks_ 68 h (fun h=>?_) fun h=>?_
  ·exact m_ h
  exact m_ h
 rintro _ ⟨x112,h,rfl⟩;refine i_ h (fun h=>?_) fun h=>?_
 ·refine c1_ kZ h fun y117 i118 h=>?_;exact r_ h hg
 refine wn_ 2 h fun h=>?_;refine aw (fun σ=>∃ x121, ik o1 x121 r ∧ σ=⟨[(0, pw bx0), (3, uv x121)], [⟨bx0, 59, ([.sl 10 (some ia2) (List.map aa o1.1.1), iv o1.1.2, sb o1.2.1, iv o1.2.2.1, iv o1.2.2.2.1] ++ (List.map eB o1.2.2.2.2.l).flatten)⟩], [⟨ia2, 43, 10, o1.1.1.length⟩]⟩) ?_ ?_
 ·refine i_ h (fun h=>?_) fun h=>?_
  ·exact m_ h
  exact m_ h
 rintro _ ⟨x121,h,rfl⟩;refine wn_ 4 h fun h=>?_;refine aM (f := eb) [x121] ah.h ar.h rfl rfl wr_ rfl rfl rfl rfl fun s78 => ?_;refine z0_ rC h fun y125 h=>?_;refine c1_ vD h fun y127 i128 h=>?_;exact r_ h hg
def nj (name1: ByteArray) (ag1: (Int×T7t)→Prop) (x112: Int) (f113: Arr 4 (UInt64)) (r: T7t×Bool) : Prop:=
 ((x112 < 256→∃ c156 : UInt8,(c156.toNat : Int) = IntKind.u8.wrap x112∧∃ y158 : Bool×Bool,jr name1 c156 y158∧((¬ (y158.2 = true)→r = ((Arr.rep 4 (0 : UInt64)),false))∧(¬ (¬ (y158.2 = true))→((y158.1 = true→∃ c163 : UInt8,(c163.toNat : Int) = IntKind.u8.wrap x112∧∃ y165 : T7t,gL f113 c163 y165∧InR (x112 + 1)∧ag1 ((x112 + 1),y165))∧(¬ (y158.1 = true)→InR (x112 + 1)∧ag1 ((x112 + 1),f113))))))∧(¬ (x112 < 256)→r = (f113,true)))
def lU (name1: ByteArray) (r: T7t×Bool) : Prop:=
 aR (fun ag1 s=>nj name1 ag1 s.1 s.2 r) (0,(Arr.rep 4 (0 : UInt64)))
set_option maxHeartbeats 4000000 in
theorem Dw ⦃name1: ByteArray⦄ ⦃r: T7t × Bool⦄ (h: lU name1 r) : Cn Tryz.prog 146 [.v (.string name1)] [] [] fun rr bx tk=>rr=.tup [.agg ((List.map ew r.1.l).flatten), bv r.2] ∧ bx=[] ∧ tk=[] := by
 refine aj Tryz.func146 rfl rfl (by kernel_rfl) fun g hg=>?_;simp only [Tryz.ntmps146,au];refine wn_ 2 h fun h=>?_;refine aL ar.h rfl rfl fun b2 => ?_;refine bg 0 ((List.map ew ((Arr.rep 4 (0 : UInt64))).l).flatten) rfl rfl ?_;refine wn_ 5 h fun h=>?_;refine aL ar.h rfl rfl fun b4 => ?_;refine bg 0 ((List.map ew ((Arr.rep 4 (0 : UInt64))).l).flatten) rfl rfl ?_;refine wn_ 9 h fun h=>?_
 obtain ⟨Inv,⟨m0,hI⟩,hS⟩ := lq_ h;refine lp_ hI (fun σ m=>∃ x112 f113, Inv (x112, f113) m ∧ σ=⟨[(0, .v (.string name1)), (2, pw b2), (4, pw b4), (8, iv x112)], [⟨b4, 41, ((List.map ew f113.l).flatten)⟩, ⟨b2, 41, ((List.map ew ((Arr.rep 4 (0 : UInt64))).l).flatten)⟩], []⟩) ?_;rintro _ m ⟨x112,f113,hI,rfl⟩;obtain ⟨ag1,hag1,h⟩ := bS hS hI
 refine i_ h (fun h=>?_) fun h=>?_
 ·refine wn_ 14 h fun h=>?_;obtain ⟨c156, h155, h⟩ := h;refine vp_ (et h155 ah.h ah.h rfl) ?_;refine z0_ yg h fun y158 h=>?_;refine i_ h (fun h=>?_) fun h=>?_
  ·refine wn_ 2 h fun h=>?_;refine vp_ (bL (cs := ((List.map ew ((Arr.rep 4 (0 : UInt64))).l).flatten)) ah.h ae.h ar.h rfl (by rfl)) ?_;refine aB 1 [] ((List.map ew ((Arr.rep 4 (0 : UInt64))).l).flatten) [] ((List.map ew ((Arr.rep 4 (0 : UInt64))).l).flatten) ae.h rfl rfl rfl rfl rfl ?_;exact rl_ h hg
  refine i_ h (fun h=>?_) fun h=>?_
  ·refine ng ?_;refine v_ (al 0 [] ((List.map ew f113.l).flatten) [] sq_ sl_ sl_ (ao (aD (by rfl))) ae.h rfl rfl) ?_;refine mv_ ?_;obtain ⟨c163, h162, h⟩ := h;refine vp_ (et h162 ah.h ah.h rfl) ?_;refine z0_ yb h fun y165 h=>?_;refine aB 0 [] ((List.map ew f113.l).flatten) [] ((List.map ew y165.l).flatten) ae.h rfl rfl rfl rfl rfl ?_;exact g_ h hag1
  exact g_ h hag1
 refine wn_ 7 h fun h=>?_;refine v_ (al 0 [] ((List.map ew f113.l).flatten) [] sq_ sl_ sl_ (ao (aD (by rfl))) ae.h rfl rfl) ?_;refine aB 1 [] ((List.map ew ((Arr.rep 4 (0 : UInt64))).l).flatten) [] ((List.map ew f113.l).flatten) ae.h rfl rfl rfl rfl rfl ?_;exact rl_ h hg
def lV (bv1: List UInt8) (atv2: Int) (r: lQ×Int) : Prop:=
 InR (atv2 + 1)∧0≤((atv2 + 1) : Int)∧∃ y4 : UInt8,bv1[((atv2 + 1) : Int).toNat]? = some y4∧InR (atv2 + 2)∧(0≤((atv2 + 2) : Int)∧((atv2 + 2) : Int)≤(bv1.length : Int))∧∃ y9 : Int,oo (bv1.drop ((atv2 + 2) : Int).toNat) ([y4,(93 : UInt8)]) y9∧((y9 < 0→r = (((0 : UInt8),(Arr.rep 4 (0 : UInt64)),false,0),11))∧(¬ (y9 < 0)→InR (atv2 + 2)∧InR (atv2 + 2)∧InR ((atv2 + 2) + y9)∧(0≤((atv2 + 2) : Int)∧((atv2 + 2) : Int)≤(((atv2 + 2) + y9) : Int)∧(((atv2 + 2) + y9) : Int)≤(bv1.length : Int))∧InR (atv2 + y9)∧InR ((atv2 + y9) + 4)∧(((y4.toNat : Int) = 58→∃ y31 : T7t×Bool,lU (⟨(((bv1.take (((atv2 + 2) + y9) : Int).toNat).drop ((atv2 + 2) : Int).toNat)).toArray⟩: ByteArray) y31∧((¬ (y31.2 = true)→r = (((0 : UInt8),(Arr.rep 4 (0 : UInt64)),false,0),12))∧(¬ (¬ (y31.2 = true))→r = (((0 : UInt8),y31.1,true,((atv2 + y9) + 4)),0))))∧(¬ ((y4.toNat : Int) = 58)→((¬ (((((bv1.take (((atv2 + 2) + y9) : Int).toNat).drop ((atv2 + 2) : Int).toNat)).length : Int) = 1)→r = (((0 : UInt8),(Arr.rep 4 (0 : UInt64)),false,0),12))∧(¬ (¬ (((((bv1.take (((atv2 + 2) + y9) : Int).toNat).drop ((atv2 + 2) : Int).toNat)).length : Int) = 1))→0≤(0 : Int)∧∃ y40 : UInt8,(((bv1.take (((atv2 + 2) + y9) : Int).toNat).drop ((atv2 + 2) : Int).toNat))[(0 : Int).toNat]? = some y40∧r = ((y40,(Arr.rep 4 (0 : UInt64)),false,((atv2 + y9) + 4)),0)))))))
set_option maxHeartbeats 4000000 in
theorem Dx ⦃bv1: List UInt8⦄ ⦃atv2: Int⦄ ⦃r: lQ × Int⦄ (h: lV bv1 atv2 r) : Cn Tryz.prog 142 [sb bv1, iv atv2] [] [] fun rr bx tk=>rr=.tup [.agg ([uv r.1.1] ++ ((List.map ew r.1.2.1.l).flatten ++ [bv r.1.2.2.1, iv r.1.2.2.2])), iv r.2] ∧ bx=[] ∧ tk=[] := by
 refine aj Tryz.func142 rfl rfl (by kernel_rfl) fun g hg=>?_;simp only [Tryz.ntmps142,au];refine wn_ 2 h fun h=>?_;refine aL ar.h rfl rfl fun b4 => ?_;refine bg 0 ([.v (.int .u8 0)] ++ ((List.map ew ((Arr.rep 4 (0 : UInt64))).l).flatten ++ [bv false, iv 0])) rfl rfl ?_;refine x_ h fun y4 h=>?_;refine wn_ 11 h fun h=>?_;refine aM (f := eb) [y4, (93 : UInt8)] ah.h ar.h rfl rfl wr_ rfl rfl rfl rfl fun s22 => ?_
 obtain ⟨y9, h8, h⟩ := h;refine th (qN (bv1.drop ((atv2 + 2) : Int).toNat) ([y4, (93 : UInt8)]) _ h8) Tryz.func145 (by kernel_rfl) rfl (.cons rfl (.refl _) (.cons rfl (.tok _ _ _) .nil)) rfl rfl ?_;refine i_ h (fun h=>?_) fun h=>?_
 ·refine wn_ 2 h fun h=>?_;refine vp_ (av (cs := ([.v (.int .u8 0)] ++ ((List.map ew ((Arr.rep 4 (0 : UInt64))).l).flatten ++ [bv false, iv 0]))) aO.h rfl (by exact congrArg some sq_)) ?_;refine aB 0 [] ([.v (.int .u8 0)] ++ ((List.map ew ((Arr.rep 4 (0 : UInt64))).l).flatten ++ [bv false, iv 0])) [] ([.v (.int .u8 0)] ++ ((List.map ew ((Arr.rep 4 (0 : UInt64))).l).flatten ++ [bv false, iv 0])) ae.h rfl rfl rfl rfl rfl ?_
  exact rl_ h hg
 refine wn_ 21 h fun h=>?_;refine vp_ (av (cs := ([.v (.int .u8 0)] ++ ((List.map ew ((Arr.rep 4 (0 : UInt64))).l).flatten ++ [bv false, iv (((atv2 + y9) + 4))]))) aO.h rfl (by refine am ([.v (.int .u8 0)] ++ ((List.map ew ((Arr.rep 4 (0 : UInt64))).l).flatten ++ [bv false])) [iv 0] [] sq_ sl_ sl_ sl_ rfl rfl ?_; exact congrArg some sq_)) ?_;refine aL ar.h rfl rfl fun b9 => ?_
 refine bg 0 ([.v (.int .u8 0)] ++ ((List.map ew ((Arr.rep 4 (0 : UInt64))).l).flatten ++ [bv false, iv 0])) rfl rfl ?_;refine aB 0 [] ([.v (.int .u8 0)] ++ ((List.map ew ((Arr.rep 4 (0 : UInt64))).l).flatten ++ [bv false, iv 0])) [] ([.v (.int .u8 0)] ++ ((List.map ew ((Arr.rep 4 (0 : UInt64))).l).flatten ++ [bv false, iv (((atv2 + y9) + 4))])) ae.h rfl rfl rfl rfl rfl ?_
 refine i_ h (fun h=>?_) fun h=>?_
 ·refine wn_ 3 h fun h=>?_;refine v_ (nz (bs := ((bv1.take (((atv2 + 2) + y9) : Int).toNat).drop ((atv2 + 2) : Int).toNat)) ah.h ah.h ah.h rfl rfl rfl (fun _ h => by injection h with h; exact h.symm)) ?_;refine z0_ Dw h fun y31 h=>?_;refine wn_ 3 h fun h=>?_;refine aL ar.h rfl rfl fun b10 => ?_;refine bg 0 ((List.map ew ((Arr.rep 4 (0 : UInt64))).l).flatten) rfl rfl ?_
  refine aB 0 [] ((List.map ew ((Arr.rep 4 (0 : UInt64))).l).flatten) [] ((List.map ew y31.1.l).flatten) ae.h rfl rfl rfl rfl rfl ?_;refine i_ h (fun h=>?_) fun h=>?_
  ·refine wn_ 2 h fun h=>?_;refine vp_ (av (cs := ([.v (.int .u8 0)] ++ ((List.map ew ((Arr.rep 4 (0 : UInt64))).l).flatten ++ [bv false, iv 0]))) aO.h rfl (by exact congrArg some sq_)) ?_;refine aB 2 [] ([.v (.int .u8 0)] ++ ((List.map ew ((Arr.rep 4 (0 : UInt64))).l).flatten ++ [bv false, iv 0])) [] ([.v (.int .u8 0)] ++ ((List.map ew ((Arr.rep 4 (0 : UInt64))).l).flatten ++ [bv false, iv 0])) ae.h rfl rfl rfl rfl rfl ?_
   exact rl_ h hg
  refine wn_ 4 h fun h=>?_;refine v_ (al 0 [] ((List.map ew y31.1.l).flatten) [] sq_ sl_ sl_ (ao (aD (by rfl))) ae.h rfl rfl) ?_;refine vp_ (bO bq.h rfl) ?_;refine aB 1 [.v (.int .u8 0)] ((List.map ew ((Arr.rep 4 (0 : UInt64))).l).flatten) [bv false, iv (((atv2 + y9) + 4))] ([.v (.int .u8 0)] ++ ((List.map ew y31.1.l).flatten ++ [bv false, iv (((atv2 + y9) + 4))])) ae.h rfl rfl rfl rfl rfl ?_
  refine vp_ (bO bq.h rfl) ?_;refine aB 1 ([.v (.int .u8 0)] ++ (List.map ew y31.1.l).flatten) [bv false] [iv (((atv2 + y9) + 4))] ([.v (.int .u8 0)] ++ ((List.map ew y31.1.l).flatten ++ [bv true, iv (((atv2 + y9) + 4))])) ae.h rfl rfl rfl rfl rfl ?_;refine wn_ 4 h fun h=>?_;refine v_ (al 1 [] ([.v (.int .u8 0)] ++ ((List.map ew y31.1.l).flatten ++ [bv true, iv (((atv2 + y9) + 4))])) [] sq_ sl_ sl_ (ao sl_) ae.h rfl rfl) ?_
  refine aB 2 [] ([.v (.int .u8 0)] ++ ((List.map ew ((Arr.rep 4 (0 : UInt64))).l).flatten ++ [bv false, iv 0])) [] ([.v (.int .u8 0)] ++ ((List.map ew y31.1.l).flatten ++ [bv true, iv (((atv2 + y9) + 4))])) ae.h rfl rfl rfl rfl rfl ?_;exact rl_ h hg
 refine i_ h (fun h=>?_) fun h=>?_
 ·refine wn_ 2 h fun h=>?_;refine vp_ (av (cs := ([.v (.int .u8 0)] ++ ((List.map ew ((Arr.rep 4 (0 : UInt64))).l).flatten ++ [bv false, iv 0]))) aO.h rfl (by exact congrArg some sq_)) ?_;refine aB 1 [] ([.v (.int .u8 0)] ++ ((List.map ew ((Arr.rep 4 (0 : UInt64))).l).flatten ++ [bv false, iv 0])) [] ([.v (.int .u8 0)] ++ ((List.map ew ((Arr.rep 4 (0 : UInt64))).l).flatten ++ [bv false, iv 0])) ae.h rfl rfl rfl rfl rfl ?_
  exact rl_ h hg
 refine x_ h fun y40 h=>?_;refine wn_ 7 h fun h=>?_;refine v_ (al 0 [] ([uv y40] ++ ((List.map ew ((Arr.rep 4 (0 : UInt64))).l).flatten ++ [bv false, iv (((atv2 + y9) + 4))])) [] sq_ sl_ sl_ (ao sl_) ae.h rfl rfl) ?_;refine aB 1 [] ([.v (.int .u8 0)] ++ ((List.map ew ((Arr.rep 4 (0 : UInt64))).l).flatten ++ [bv false, iv 0])) [] ([uv y40] ++ ((List.map ew ((Arr.rep 4 (0 : UInt64))).l).flatten ++ [bv false, iv (((atv2 + y9) + 4))])) ae.h rfl rfl rfl rfl rfl ?_
 exact rl_ h hg
def ol (x2: Int) (x1: List UInt8) (x86: Bool) (r: lQ×Int) : Prop:=
 ((x86 = true→InR (x2 + 2)∧r = (((10 : UInt8),(Arr.rep 4 (0 : UInt64)),false,(x2 + 2)),0))∧(¬ (x86 = true)→0≤(x2 : Int)∧∃ y94 : UInt8,x1[(x2 : Int).toNat]? = some y94∧InR (x2 + 1)∧r = ((y94,(Arr.rep 4 (0 : UInt64)),false,(x2 + 1)),0)))
def om (x1: List UInt8) (x2: Int) (x16: UInt8) (x68: Bool) (r: lQ×Int) : Prop:=
 ((x68 = true→∃ y80 : lQ×Int,lV x1 x2 y80∧r = (y80.1,y80.2))∧(¬ (x68 = true)→0≤(x2 : Int)∧∃ y87 : UInt8,x1[(x2 : Int).toNat]? = some y87∧ol x2 x1 ((decide ((y87.toNat : Int) = 92)) && (decide ((x16.toNat : Int) = 110))) r))
def fS (x2: Int) (x1: List UInt8) (x16: UInt8) (r: lQ×Int) : Prop:=
 0≤(x2 : Int)∧∃ y69 : UInt8,x1[(x2 : Int).toNat]? = some y69∧om x1 x2 x16 ((decide ((y69.toNat : Int) = 91)) && ((decide ((x16.toNat : Int) = 58)) || ((decide ((x16.toNat : Int) = 46)) || (decide ((x16.toNat : Int) = 61))))) r
def jc (x1: List UInt8) (x2: Int) (r: lQ×Int) : Prop:=
 (((x1.length : Int)≤x2→r = (((0 : UInt8),(Arr.rep 4 (0 : UInt64)),false,0),11))∧(¬ ((x1.length : Int)≤x2)→InR (x2 + 1)∧(((x2 + 1) < (x1.length : Int)→InR (x2 + 1)∧0≤((x2 + 1) : Int)∧∃ y22 : UInt8,x1[((x2 + 1) : Int).toNat]? = some y22∧fS x2 x1 y22 r)∧(¬ ((x2 + 1) < (x1.length : Int))→fS x2 x1 (0 : UInt8) r))))
set_option maxHeartbeats 4000000 in
theorem BG ⦃x1: List UInt8⦄ ⦃x2: Int⦄ ⦃r: lQ × Int⦄ (h: jc x1 x2 r) : Cn Tryz.prog 133 [sb x1, iv x2] [] [] fun rr bx tk=>rr=.tup [.agg ([uv r.1.1] ++ ((List.map ew r.1.2.1.l).flatten ++ [bv r.1.2.2.1, iv r.1.2.2.2])), iv r.2] ∧ bx=[] ∧ tk=[] := by
 refine aj Tryz.func133 rfl rfl (by kernel_rfl) fun g hg=>?_;simp only [Tryz.ntmps133,au];refine wn_ 2 h fun h=>?_;refine aL ar.h rfl rfl fun b4 => ?_;refine bg 0 ([.v (.int .u8 0)] ++ ((List.map ew ((Arr.rep 4 (0 : UInt64))).l).flatten ++ [bv false, iv 0])) rfl rfl ?_;refine i_ h (fun h=>?_) fun h=>?_
 ·refine wn_ 2 h fun h=>?_;refine vp_ (av (cs := ([.v (.int .u8 0)] ++ ((List.map ew ((Arr.rep 4 (0 : UInt64))).l).flatten ++ [bv false, iv 0]))) aO.h rfl (by exact congrArg some sq_)) ?_;refine aB 0 [] ([.v (.int .u8 0)] ++ ((List.map ew ((Arr.rep 4 (0 : UInt64))).l).flatten ++ [bv false, iv 0])) [] ([.v (.int .u8 0)] ++ ((List.map ew ((Arr.rep 4 (0 : UInt64))).l).flatten ++ [bv false, iv 0])) ae.h rfl rfl rfl rfl rfl ?_
  exact rl_ h hg
 refine wn_ 7 h fun h=>?_;refine aw (fun σ=>∃ x16, fS x2 x1 x16 r ∧ σ=⟨[(0, sb x1), (1, iv x2), (4, pw b4), (6, uv x16)], [⟨b4, 162, ([.v (.int .u8 0)] ++ ((List.map ew ((Arr.rep 4 (0 : UInt64))).l).flatten ++ [bv false, iv 0]))⟩], []⟩) ?_ ?_
 ·refine i_ h (fun h=>?_) fun h=>?_
  ·refine x_ h fun y22 h=>?_;exact m_ h
  exact m_ h
 rintro _ ⟨x16,h,rfl⟩;refine wn_ 2 h fun h=>?_;refine aw (fun σ=>∃ x68, om x1 x2 x16 x68 r ∧ σ=⟨[(0, sb x1), (1, iv x2), (4, pw b4), (6, uv x16), (22, bv x68)], [⟨b4, 162, ([.v (.int .u8 0)] ++ ((List.map ew ((Arr.rep 4 (0 : UInt64))).l).flatten ++ [bv false, iv 0]))⟩], []⟩) ?_ ?_
 ·refine x_ h fun y69 h=>?_;refine ks_ 28 h (fun h=>?_) fun h=>?_
  ·refine ks_ 31 h (fun h=>?_) fun h=>?_
   ·exact m_ h
   refine ks_ 35 h (fun h=>?_) fun h=>?_
   ·exact m_ h
   exact m_ h
  exact m_ h
 rintro _ ⟨x68,h,rfl⟩;refine i_ h (fun h=>?_) fun h=>?_
 ·refine z0_ Dx h fun y80 h=>?_;refine wn_ 2 h fun h=>?_;refine aB 0 [] ([.v (.int .u8 0)] ++ ((List.map ew ((Arr.rep 4 (0 : UInt64))).l).flatten ++ [bv false, iv 0])) [] ([uv y80.1.1] ++ ((List.map ew y80.1.2.1.l).flatten ++ [bv y80.1.2.2.1, iv y80.1.2.2.2])) ae.h rfl rfl rfl rfl rfl ?_;exact rl_ h hg
 refine aw (fun σ=>∃ x86, ol x2 x1 x86 r ∧ σ=⟨[(0, sb x1), (1, iv x2), (4, pw b4), (45, bv x86)], [⟨b4, 162, ([.v (.int .u8 0)] ++ ((List.map ew ((Arr.rep 4 (0 : UInt64))).l).flatten ++ [bv false, iv 0]))⟩], []⟩) ?_ ?_
 ·refine x_ h fun y87 h=>?_;refine ks_ 51 h (fun h=>?_) fun h=>?_
  ·exact m_ h
  exact m_ h
 rintro _ ⟨x86,h,rfl⟩;refine i_ h (fun h=>?_) fun h=>?_
 ·refine wn_ 4 h fun h=>?_;refine vp_ (av (cs := ([.v (.int .u8 10)] ++ ((List.map ew ((Arr.rep 4 (0 : UInt64))).l).flatten ++ [bv false, iv ((x2 + 2))]))) aO.h rfl (by refine am [] [.v (.int .u8 0)] (((List.map ew ((Arr.rep 4 (0 : UInt64))).l).flatten ++ [bv false, iv 0])) sq_ sl_ sl_ sl_ rfl rfl ?_; refine am ([.v (.int .u8 10)] ++ ((List.map ew ((Arr.rep 4 (0 : UInt64))).l).flatten ++ [bv false])) [iv 0] [] sq_ sl_ sl_ sl_ rfl rfl ?_; exact congrArg some sq_)) ?_
  refine aB 0 [] ([.v (.int .u8 0)] ++ ((List.map ew ((Arr.rep 4 (0 : UInt64))).l).flatten ++ [bv false, iv 0])) [] ([.v (.int .u8 10)] ++ ((List.map ew ((Arr.rep 4 (0 : UInt64))).l).flatten ++ [bv false, iv ((x2 + 2))])) ae.h rfl rfl rfl rfl rfl ?_;exact rl_ h hg
 refine x_ h fun y94 h=>?_;refine wn_ 3 h fun h=>?_;refine vp_ (av (cs := ([uv y94] ++ ((List.map ew ((Arr.rep 4 (0 : UInt64))).l).flatten ++ [bv false, iv ((x2 + 1))]))) aO.h rfl (by refine am [] [.v (.int .u8 0)] (((List.map ew ((Arr.rep 4 (0 : UInt64))).l).flatten ++ [bv false, iv 0])) sq_ sl_ sl_ sl_ rfl rfl ?_; refine am ([uv y94] ++ ((List.map ew ((Arr.rep 4 (0 : UInt64))).l).flatten ++ [bv false])) [iv 0] [] sq_ sl_ sl_ sl_ rfl rfl ?_; exact congrArg some sq_)) ?_
 refine aB 0 [] ([.v (.int .u8 0)] ++ ((List.map ew ((Arr.rep 4 (0 : UInt64))).l).flatten ++ [bv false, iv 0])) [] ([uv y94] ++ ((List.map ew ((Arr.rep 4 (0 : UInt64))).l).flatten ++ [bv false, iv ((x2 + 1))])) ae.h rfl rfl rfl rfl rfl ?_;exact rl_ h hg
def f4 (x18: Bool) (r: Bool) : Prop:=
 r = x18
def lc (bv1: List UInt8) (atv2: Int) (r: Bool) : Prop:=
 ((atv2 < (bv1.length : Int)→0≤(atv2 : Int)∧∃ y22 : UInt8,bv1[(atv2 : Int).toNat]? = some y22∧(((y22.toNat : Int) = 45→InR (atv2 + 1)∧(((bv1.length : Int)≤(atv2 + 1)→f4 true r)∧(¬ ((bv1.length : Int)≤(atv2 + 1))→InR (atv2 + 1)∧0≤((atv2 + 1) : Int)∧∃ y31 : UInt8,bv1[((atv2 + 1) : Int).toNat]? = some y31∧f4 (!(decide ((y31.toNat : Int) = 93))) r)))∧(¬ ((y22.toNat : Int) = 45)→f4 false r)))∧(¬ (atv2 < (bv1.length : Int))→f4 false r))
set_option maxHeartbeats 4000000 in
theorem Dy ⦃bv1: List UInt8⦄ ⦃atv2: Int⦄ ⦃r: Bool⦄ (h: lc bv1 atv2 r) : Cn Tryz.prog 134 [sb bv1, iv atv2] [] [] (Ret (bv r)) := by
 refine aj Tryz.func134 rfl rfl (by kernel_rfl) fun g hg=>?_;simp only [Tryz.ntmps134,au];refine wn_ 5 h fun h=>?_;refine aw (fun σ=>∃ x18, f4 x18 r ∧ σ=⟨[(4, bv x18)], [], []⟩) ?_ ?_
 ·refine is_ 9 h (fun h=>?_) fun h=>?_
  ·refine x_ h fun y22 h=>?_;refine is_ 16 h (fun h=>?_) fun h=>?_
   ·refine is_ 22 h (fun h=>?_) fun h=>?_
    ·exact m_ h
    refine x_ h fun y31 h=>?_;exact m_ h
   exact m_ h
  exact m_ h
 rintro _ ⟨x18,h,rfl⟩;exact r_ h hg
def nk (bv2: UInt8) (ag1: (Int×T7t)→Prop) (c51: Int) (f52: Arr 4 (UInt64)) (r: T7t) : Prop:=
 ((c51≤(bv2.toNat : Int)→∃ c71 : UInt8,(c71.toNat : Int) = IntKind.u8.wrap c51∧∃ y73 : T7t,gL f52 c71 y73∧InR (c51 + 1)∧ag1 ((c51 + 1),y73))∧(¬ (c51≤(bv2.toNat : Int))→r = f52))
def lW (a1: UInt8) (bv2: UInt8) (r: T7t) : Prop:=
 aR (fun ag1 s=>nk bv2 ag1 s.1 s.2 r) ((a1.toNat : Int),(Arr.rep 4 (0 : UInt64)))
set_option maxHeartbeats 4000000 in
theorem Dz ⦃a1: UInt8⦄ ⦃bv2: UInt8⦄ ⦃r: T7t⦄ (h: lW a1 bv2 r) : Cn Tryz.prog 135 [uv a1, uv bv2] [] [] (Ret (.agg ((List.map ew r.l).flatten))) := by
 refine aj Tryz.func135 rfl rfl (by kernel_rfl) fun g hg=>?_;simp only [Tryz.ntmps135,au];refine wn_ 2 h fun h=>?_;refine aL ar.h rfl rfl fun b4 => ?_;refine bg 0 ((List.map ew ((Arr.rep 4 (0 : UInt64))).l).flatten) rfl rfl ?_;refine wn_ 4 h fun h=>?_;refine aL ar.h rfl rfl fun b5 => ?_;refine bg 0 ((List.map ew ((Arr.rep 4 (0 : UInt64))).l).flatten) rfl rfl ?_;refine wn_ 11 h fun h=>?_
 obtain ⟨Inv,⟨m0,hI⟩,hS⟩ := lq_ h;refine lp_ hI (fun σ m=>∃ c51 f52, Inv (c51, f52) m ∧ σ=⟨[(1, uv bv2), (4, pw b4), (5, pw b5), (6, iv c51)], [⟨b5, 41, ((List.map ew f52.l).flatten)⟩, ⟨b4, 41, ((List.map ew ((Arr.rep 4 (0 : UInt64))).l).flatten)⟩], []⟩) ?_;rintro _ m ⟨c51,f52,hI,rfl⟩;obtain ⟨ag1,hag1,h⟩ := bS hS hI
 refine i_ h (fun h=>?_) fun h=>?_
 ·refine wn_ 5 h fun h=>?_;refine v_ (al 0 [] ((List.map ew f52.l).flatten) [] sq_ sl_ sl_ (ao (aD (by rfl))) ae.h rfl rfl) ?_;refine mv_ ?_;obtain ⟨c71, h70, h⟩ := h;refine vp_ (et h70 ah.h ah.h rfl) ?_;refine z0_ yb h fun y73 h=>?_;refine aB 0 [] ((List.map ew f52.l).flatten) [] ((List.map ew y73.l).flatten) ae.h rfl rfl rfl rfl rfl ?_;exact g_ h hag1
 refine wn_ 7 h fun h=>?_;refine v_ (al 0 [] ((List.map ew f52.l).flatten) [] sq_ sl_ sl_ (ao (aD (by rfl))) ae.h rfl rfl) ?_;refine aB 1 [] ((List.map ew ((Arr.rep 4 (0 : UInt64))).l).flatten) [] ((List.map ew f52.l).flatten) ae.h rfl rfl rfl rfl rfl ?_;exact rl_ h hg
def lX (y4: lQ×Int) (y31: lQ×Int) (x44: Bool) (r: T7t×Int×Int) : Prop:=
 ((x44 = true→r = ((Arr.rep 4 (0 : UInt64)),0,3))∧(¬ (x44 = true)→∃ y51 : T7t,lW y4.1.1 y31.1.1 y51∧r = (y51,y31.1.2.2.2,0)))
def ms (x1: List UInt8) (x2: Int) (r: T7t×Int×Int) : Prop:=
 ∃ y4 : lQ×Int,jc x1 x2 y4∧((¬ (y4.2 = 0)→r = ((Arr.rep 4 (0 : UInt64)),0,y4.2))∧(¬ (¬ (y4.2 = 0))→∃ y19 : Bool,lc x1 y4.1.2.2.2 y19∧((¬ (y19 = true)→((y4.1.2.2.1 = true→r = (y4.1.2.1,y4.1.2.2.2,0))∧(¬ (y4.1.2.2.1 = true)→∃ y26 : T7t,fY ([y4.1.1]) y26∧r = (y26,y4.1.2.2.2,0))))∧(¬ (¬ (y19 = true))→((y4.1.2.2.1 = true→r = ((Arr.rep 4 (0 : UInt64)),0,3))∧(¬ (y4.1.2.2.1 = true)→InR (y4.1.2.2.2 + 1)∧∃ y31 : lQ×Int,jc x1 (y4.1.2.2.2 + 1) y31∧((¬ (y31.2 = 0)→r = ((Arr.rep 4 (0 : UInt64)),0,y31.2))∧(¬ (¬ (y31.2 = 0))→lX y4 y31 (y31.1.2.2.1 || (decide ((y31.1.1.toNat : Int) < (y4.1.1.toNat : Int)))) r))))))))
set_option maxHeartbeats 4000000 in
theorem DA ⦃x1: List UInt8⦄ ⦃x2: Int⦄ ⦃r: T7t × Int × Int⦄ (h: ms x1 x2 r) : Cn Tryz.prog 111 [sb x1, iv x2] [] [] fun rr bx tk=>rr=.tup [.agg ((List.map ew r.1.l).flatten), iv r.2.1, iv r.2.2] ∧ bx=[] ∧ tk=[] := by
 refine aj Tryz.func111 rfl rfl (by kernel_rfl) fun g hg=>?_;simp only [Tryz.ntmps111,au];refine wn_ 2 h fun h=>?_;refine aL ar.h rfl rfl fun b4 => ?_;refine bg 0 ((List.map ew ((Arr.rep 4 (0 : UInt64))).l).flatten) rfl rfl ?_;refine z0_ BG h fun y4 h=>?_;refine wn_ 3 h fun h=>?_;refine aL ar.h rfl rfl fun b7 => ?_;refine bg 0 ([.v (.int .u8 0)] ++ ((List.map ew ((Arr.rep 4 (0 : UInt64))).l).flatten ++ [bv false, iv 0])) rfl rfl ?_
 refine aB 0 [] ([.v (.int .u8 0)] ++ ((List.map ew ((Arr.rep 4 (0 : UInt64))).l).flatten ++ [bv false, iv 0])) [] ([uv y4.1.1] ++ ((List.map ew y4.1.2.1.l).flatten ++ [bv y4.1.2.2.1, iv y4.1.2.2.2])) ae.h rfl rfl rfl rfl rfl ?_;refine i_ h (fun h=>?_) fun h=>?_
 ·refine wn_ 2 h fun h=>?_;refine vp_ (bL (cs := ((List.map ew ((Arr.rep 4 (0 : UInt64))).l).flatten)) ah.h ae.h ar.h rfl (by rfl)) ?_;refine mv_ ?_;refine aB 1 [] ((List.map ew ((Arr.rep 4 (0 : UInt64))).l).flatten) [] ((List.map ew ((Arr.rep 4 (0 : UInt64))).l).flatten) ae.h rfl rfl rfl rfl rfl ?_;exact rl_ h hg
 refine wn_ 7 h fun h=>?_;refine v_ (al 0 ([uv y4.1.1] ++ ((List.map ew y4.1.2.1.l).flatten ++ [bv y4.1.2.2.1])) [iv y4.1.2.2.2] [] sq_ sl_ sl_ rfl ae.h rfl rfl) ?_;refine z0_ Dy h fun y19 h=>?_;refine i_ h (fun h=>?_) fun h=>?_
 ·refine wn_ 4 h fun h=>?_;refine v_ (al 0 ([uv y4.1.1] ++ (List.map ew y4.1.2.1.l).flatten) [bv y4.1.2.2.1] [iv y4.1.2.2.2] sq_ sl_ sl_ rfl ae.h rfl rfl) ?_;refine i_ h (fun h=>?_) fun h=>?_
  ·refine eN ?_;refine ay (m := 7) (by kernel_rfl) rfl ?_;refine o_ [0,2] ?_;refine cU 1 [3] rfl (al 0 [uv y4.1.1] ((List.map ew y4.1.2.1.l).flatten) [bv y4.1.2.2.1, iv y4.1.2.2.2] sq_ sl_ sl_ (ao (aD (by rfl))) ae.h rfl rfl) rfl rfl (by kernel_rfl) (by kernel_rfl) (by kernel_rfl) (fun _ _ _ _ h => h) ?_;refine d8 [⟨3, 30, iv y4.1.2.2.2⟩] 3 ?_
   refine a8 4 (by kernel_rfl) rfl (.cons rfl rfl rfl (fun _ => rfl) (fun _ => al 0 ([uv y4.1.1] ++ ((List.map ew y4.1.2.1.l).flatten ++ [bv y4.1.2.2.1])) [iv y4.1.2.2.2] [] sq_ sl_ sl_ rfl ae.h rfl rfl) .nil) fun D l td hR => ?_;refine jl 1 [] ((List.map ew ((Arr.rep 4 (0 : UInt64))).l).flatten) [] ((List.map ew y4.1.2.1.l).flatten) ae.h rfl rfl rfl rfl rfl ?_
   refine dQ hR ?_;refine ci (l' := #[true, true, true, true, true, false, false]) (by kernel_rfl) (.cons rfl rfl rfl (fun _ => rfl) (fun _ => al 0 ([uv y4.1.1] ++ ((List.map ew y4.1.2.1.l).flatten ++ [bv y4.1.2.2.1])) [iv y4.1.2.2.2] [] sq_ sl_ sl_ rfl ae.h rfl rfl) .nil) (by kernel_rfl) rfl (by kernel_rfl) (by kernel_rfl) ?_;simp only [List.nil_append, List.cons_append, List.map_cons, List.map_nil]
   refine o_ [5,6] ?_;refine az (by kernel_rfl) ?_;exact rl_ h hg
  refine wn_ 3 h fun h=>?_;refine ay (m := 9) (by kernel_rfl) rfl ?_;obtain ⟨y26, h25, h⟩ := h;refine o_ [0,4,1] ?_;refine d8 [⟨5, 36, iv y4.1.2.2.2⟩] 5 ?_;refine a8 2 (by kernel_rfl) rfl (.cons rfl rfl rfl (fun _ => rfl) (fun _ => al 0 ([uv y4.1.1] ++ ((List.map ew y4.1.2.1.l).flatten ++ [bv y4.1.2.2.1])) [iv y4.1.2.2.2] [] sq_ sl_ sl_ rfl ae.h rfl rfl) .nil) fun D l td hR => ?_
  refine dY (f := eb) [y4.1.1] ah.h ar.h rfl rfl wr_ rfl rfl rfl rfl fun s33 => ?_;refine eM hR ?_;refine a8 3 (by kernel_rfl) rfl (.cons rfl rfl rfl (fun _ => rfl) (fun _ => al 0 ([uv y4.1.1] ++ ((List.map ew y4.1.2.1.l).flatten ++ [bv y4.1.2.2.1])) [iv y4.1.2.2.2] [] sq_ sl_ sl_ rfl ae.h rfl rfl) .nil) fun D l td hR => ?_
  refine cw rC h25 ?_;refine eM hR ?_;refine a8 6 (by kernel_rfl) rfl (.cons rfl rfl rfl (fun _ => rfl) (fun _ => al 0 ([uv y4.1.1] ++ ((List.map ew y4.1.2.1.l).flatten ++ [bv y4.1.2.2.1])) [iv y4.1.2.2.2] [] sq_ sl_ sl_ rfl ae.h rfl rfl) .nil) fun D l td hR => ?_;refine jl 1 [] ((List.map ew ((Arr.rep 4 (0 : UInt64))).l).flatten) [] ((List.map ew y26.l).flatten) ae.h rfl rfl rfl rfl rfl ?_
  refine dQ hR ?_;refine ci (l' := #[true, true, true, true, true, true, true, false, false]) (by kernel_rfl) (.cons rfl rfl rfl (fun _ => rfl) (fun _ => al 0 ([uv y4.1.1] ++ ((List.map ew y4.1.2.1.l).flatten ++ [bv y4.1.2.2.1])) [iv y4.1.2.2.2] [] sq_ sl_ sl_ rfl ae.h rfl rfl) .nil) (by kernel_rfl) rfl (by kernel_rfl) (by kernel_rfl) ?_
  simp only [List.nil_append, List.cons_append, List.map_cons, List.map_nil];refine o_ [7,8] ?_;refine az (by kernel_rfl) ?_;exact rl_ h hg
 refine wn_ 6 h fun h=>?_;refine v_ (al 0 ([uv y4.1.1] ++ (List.map ew y4.1.2.1.l).flatten) [bv y4.1.2.2.1] [iv y4.1.2.2.2] sq_ sl_ sl_ rfl ae.h rfl rfl) ?_;refine i_ h (fun h=>?_) fun h=>?_
 ·refine wn_ 2 h fun h=>?_;refine vp_ (bL (cs := ((List.map ew ((Arr.rep 4 (0 : UInt64))).l).flatten)) ah.h ae.h ar.h rfl (by rfl)) ?_;refine aB 1 [] ((List.map ew ((Arr.rep 4 (0 : UInt64))).l).flatten) [] ((List.map ew ((Arr.rep 4 (0 : UInt64))).l).flatten) ae.h rfl rfl rfl rfl rfl ?_;exact rl_ h hg
 refine wn_ 6 h fun h=>?_;refine v_ (al 0 ([uv y4.1.1] ++ ((List.map ew y4.1.2.1.l).flatten ++ [bv y4.1.2.2.1])) [iv y4.1.2.2.2] [] sq_ sl_ sl_ rfl ae.h rfl rfl) ?_;refine z0_ BG h fun y31 h=>?_;refine wn_ 3 h fun h=>?_;refine aL ar.h rfl rfl fun b9 => ?_;refine bg 0 ([.v (.int .u8 0)] ++ ((List.map ew ((Arr.rep 4 (0 : UInt64))).l).flatten ++ [bv false, iv 0])) rfl rfl ?_
 refine aB 0 [] ([.v (.int .u8 0)] ++ ((List.map ew ((Arr.rep 4 (0 : UInt64))).l).flatten ++ [bv false, iv 0])) [] ([uv y31.1.1] ++ ((List.map ew y31.1.2.1.l).flatten ++ [bv y31.1.2.2.1, iv y31.1.2.2.2])) ae.h rfl rfl rfl rfl rfl ?_;refine i_ h (fun h=>?_) fun h=>?_
 ·refine wn_ 2 h fun h=>?_;refine vp_ (bL (cs := ((List.map ew ((Arr.rep 4 (0 : UInt64))).l).flatten)) ah.h ae.h ar.h rfl (by rfl)) ?_;refine mv_ ?_;refine aB 2 [] ((List.map ew ((Arr.rep 4 (0 : UInt64))).l).flatten) [] ((List.map ew ((Arr.rep 4 (0 : UInt64))).l).flatten) ae.h rfl rfl rfl rfl rfl ?_;exact rl_ h hg
 refine aw (fun σ=>∃ x44, lX y4 y31 x44 r ∧ σ=⟨[(4, pw b4), (7, pw b7), (9, pw b9), (53, bv x44)], [⟨b9, 162, ([uv y31.1.1] ++ ((List.map ew y31.1.2.1.l).flatten ++ [bv y31.1.2.2.1, iv y31.1.2.2.2]))⟩, ⟨b7, 162, ([uv y4.1.1] ++ ((List.map ew y4.1.2.1.l).flatten ++ [bv y4.1.2.2.1, iv y4.1.2.2.2]))⟩, ⟨b4, 41, ((List.map ew ((Arr.rep 4 (0 : UInt64))).l).flatten)⟩], []⟩) ?_ ?_
 ·refine wn_ 2 h fun h=>?_;refine v_ (al 0 ([uv y31.1.1] ++ (List.map ew y31.1.2.1.l).flatten) [bv y31.1.2.2.1] [iv y31.1.2.2.2] sq_ sl_ sl_ rfl ae.h rfl rfl) ?_;refine ks_ 56 h (fun h=>?_) fun h=>?_
  ·exact m_ h
  exact m_ h
 rintro _ ⟨x44,h,rfl⟩;refine i_ h (fun h=>?_) fun h=>?_
 ·refine wn_ 2 h fun h=>?_;refine vp_ (bL (cs := ((List.map ew ((Arr.rep 4 (0 : UInt64))).l).flatten)) ah.h ae.h ar.h rfl (by rfl)) ?_;refine aB 2 [] ((List.map ew ((Arr.rep 4 (0 : UInt64))).l).flatten) [] ((List.map ew ((Arr.rep 4 (0 : UInt64))).l).flatten) ae.h rfl rfl rfl rfl rfl ?_;exact rl_ h hg
 refine wn_ 4 h fun h=>?_;refine ay (m := 10) (by kernel_rfl) rfl ?_;obtain ⟨y51, h50, h⟩ := h;refine o_ [0,2,5,1,3] ?_;refine d8 [⟨6, 70, iv y31.1.2.2.2⟩] 4 ?_;refine a8 4 (by kernel_rfl) rfl (.cons rfl rfl rfl (fun _ => rfl) (fun _ => al 0 ([uv y31.1.1] ++ ((List.map ew y31.1.2.1.l).flatten ++ [bv y31.1.2.2.1])) [iv y31.1.2.2.2] [] sq_ sl_ sl_ rfl ae.h rfl rfl) .nil) fun D l td hR => ?_
 refine cw Dz h50 ?_;refine eM hR ?_;refine a8 7 (by kernel_rfl) rfl (.cons rfl rfl rfl (fun _ => rfl) (fun _ => al 0 ([uv y31.1.1] ++ ((List.map ew y31.1.2.1.l).flatten ++ [bv y31.1.2.2.1])) [iv y31.1.2.2.2] [] sq_ sl_ sl_ rfl ae.h rfl rfl) .nil) fun D l td hR => ?_;refine jl 2 [] ((List.map ew ((Arr.rep 4 (0 : UInt64))).l).flatten) [] ((List.map ew y51.l).flatten) ae.h rfl rfl rfl rfl rfl ?_
 refine dQ hR ?_;refine ci (l' := #[true, true, true, true, true, true, true, true, false, false]) (by kernel_rfl) (.cons rfl rfl rfl (fun _ => rfl) (fun _ => al 0 ([uv y31.1.1] ++ ((List.map ew y31.1.2.1.l).flatten ++ [bv y31.1.2.2.1])) [iv y31.1.2.2.2] [] sq_ sl_ sl_ rfl ae.h rfl rfl) .nil) (by kernel_rfl) rfl (by kernel_rfl) (by kernel_rfl) ?_
 simp only [List.nil_append, List.cons_append, List.map_cons, List.map_nil];refine o_ [8,9] ?_;refine az (by kernel_rfl) ?_;exact rl_ h hg
def ld (y735: Arr 4 (UInt64)) (x534: Int) (ag1: (Int×T7t)→Prop) (ag2: (Int×T7t)→Prop) (x757: Int) (f758: Arr 4 (UInt64)) (_r: T7t) : Prop:=
 ((x757 < 4→(0≤(x757 : Int)∧(x757 : Int) < 4)∧∃ y791 : UInt64,f758.l[(x757 : Int).toNat]? = some y791∧(0≤(x757 : Int)∧(x757 : Int) < 4)∧∃ y793 : UInt64,y735.l[(x757 : Int).toNat]? = some y793∧∃ c795 : UInt64,(c795.toNat : Int) = IntKind.u64.wrap (BitVec.ofInt IntKind.u64.bits (y791.toNat : Int) ||| BitVec.ofInt IntKind.u64.bits (y793.toNat : Int)).toNat∧(0≤(x757 : Int)∧(x757 : Int) < 4)∧∃ y797 : UInt64,f758.l[(x757 : Int).toNat]? = some y797∧InR (x757 + 1)∧ag2 ((x757 + 1),(Arr.set f758 (x757 : Int).toNat c795)))∧(¬ (x757 < 4)→InR (x534 + 1)∧ag1 ((x534 + 1),f758)))
def nl (l1: List T7t) (ag1: (Int×T7t)→Prop) (x534: Int) (f535: Arr 4 (UInt64)) (r: T7t) : Prop:=
 ((x534 < (l1.length : Int)→0≤(x534 : Int)∧∃ y735 : Arr 4 (UInt64),l1[(x534 : Int).toNat]? = some y735∧aR (fun ag2 s=>ld y735 x534 ag1 ag2 s.1 s.2 r) (0,f535))∧(¬ (x534 < (l1.length : Int))→r = f535))
def lY (l1: List T7t) (r: T7t) : Prop:=
 aR (fun ag1 s=>nl l1 ag1 s.1 s.2 r) (0,(Arr.rep 4 (0 : UInt64)))
set_option maxHeartbeats 4000000 in
theorem DB ⦃l1: List T7t⦄ ⦃r: T7t⦄ (h: lY l1 r) : Cn Tryz.prog 112 [.sl 4 none (List.map bm l1)] [] [] (Ret (.agg ((List.map ew r.l).flatten))) := by
 refine aj Tryz.func112 rfl rfl (by kernel_rfl) fun g hg=>?_;simp only [Tryz.ntmps112,au];refine wn_ 2 h fun h=>?_;refine aL ar.h rfl rfl fun b2 => ?_;refine bg 0 ((List.map ew ((Arr.rep 4 (0 : UInt64))).l).flatten) rfl rfl ?_;refine wn_ 4 h fun h=>?_;refine aL ar.h rfl rfl fun b3 => ?_;refine bg 0 ((List.map ew ((Arr.rep 4 (0 : UInt64))).l).flatten) rfl rfl ?_;refine wn_ 11 h fun h=>?_
 obtain ⟨Inv,⟨m0,hI⟩,hS⟩ := lq_ h;refine lp_ hI (fun σ m=>∃ x534 f535, Inv (x534, f535) m ∧ σ=⟨[(2, pw b2), (3, pw b3), (7, .sl 4 none (List.map bm l1)), (8, iv ((l1.length : Int))), (9, iv x534)], [⟨b3, 41, ((List.map ew f535.l).flatten)⟩, ⟨b2, 41, ((List.map ew ((Arr.rep 4 (0 : UInt64))).l).flatten)⟩], []⟩) ?_
 rintro _ m ⟨x534,f535,hI,rfl⟩;obtain ⟨ag1,hag1,h⟩ := bS hS hI;refine i_ h (fun h=>?_) fun h=>?_
 ·refine x_ h fun y735 h=>?_;refine v_ (ge ((List.map ew y735.l).flatten) [] sq_ sl_ (ao (aD (by rfl))) ae.h rfl) ?_;refine aL ar.h rfl rfl fun b5 => ?_;refine bg 0 ((List.map ew ((Arr.rep 4 (0 : UInt64))).l).flatten) rfl rfl ?_;refine aB 0 [] ((List.map ew ((Arr.rep 4 (0 : UInt64))).l).flatten) [] ((List.map ew y735.l).flatten) ae.h rfl rfl rfl rfl rfl ?_;refine wn_ 8 h fun h=>?_
  obtain ⟨Inv,⟨m0,hI⟩,hS⟩ := lq_ h;refine lp_ hI (fun σ m=>∃ x757 f758, Inv (x757, f758) m ∧ σ=⟨[(2, pw b2), (3, pw b3), (5, pw b5), (7, .sl 4 none (List.map bm l1)), (8, iv ((l1.length : Int))), (9, iv x534), (13, iv x757)], [⟨b5, 41, ((List.map ew y735.l).flatten)⟩, ⟨b3, 41, ((List.map ew f758.l).flatten)⟩, ⟨b2, 41, ((List.map ew ((Arr.rep 4 (0 : UInt64))).l).flatten)⟩], []⟩) ?_
  rintro _ m ⟨x757,f758,hI,rfl⟩;obtain ⟨ag2,hag2,h⟩ := bS hS hI;refine i_ h (fun h=>?_) fun h=>?_
  ·refine wn_ 10 h fun h=>?_;refine ay (m := 9) (by kernel_rfl) rfl ?_;obtain ⟨h790, h⟩ := h;obtain ⟨y791, h790b, h⟩ := h;obtain ⟨h792, h⟩ := h;obtain ⟨y793, h792b, h⟩ := h;obtain ⟨c795, h794, h⟩ := h;obtain ⟨h796, h⟩ := h;obtain ⟨y797, h796b, h⟩ := h;refine o_ [0] ?_;refine pl_ 1 rfl (aA h790 ah.h ae.h rfl rfl) ?_;refine o_ [3] ?_;refine pl_ 4 rfl (aA h792 ah.h ae.h rfl rfl) ?_
   refine cU 2 [5] rfl (dr (f := ew) (a := f758) (k := 1) (off := 0) (i := (x757 : Int).toNat) 1 [] [] h790b sq_ so_ (by decide) rfl ae.h rfl rfl) rfl rfl (by kernel_rfl) (by kernel_rfl) (by kernel_rfl) (fun _ _ _ _ h => h) ?_;refine cU 5 [] rfl (dr (f := ew) (a := y735) (k := 1) (off := 0) (i := (x757 : Int).toNat) 0 [] [] h792b sq_ so_ (by decide) rfl ae.h rfl rfl) rfl rfl (by kernel_rfl) (by kernel_rfl) (by kernel_rfl) (fun _ _ _ _ h => h) ?_
   refine pl_ 6 rfl (eK h794 rfl rfl rfl) ?_;refine pl_ 7 rfl (aA h796 ah.h ae.h rfl rfl) ?_;refine aE (i := 8) (by kernel_rfl) rfl ?_;refine AA (f := ew) (a := f758) (k := 1) (off := 0) (i := (x757 : Int).toNat) 1 [] [] c795 h796b sq_ so_ (by decide) ae.h rfl rfl rfl rfl sl_ rfl rfl ?_;refine qj 1 ((List.map ew ((Arr.set f758 (x757 : Int).toNat c795)).l).flatten) rfl sq_ ?_
   refine az (by kernel_rfl) ?_;exact g_ h hag2
  exact g_ h hag1
 refine wn_ 7 h fun h=>?_;refine v_ (al 0 [] ((List.map ew f535.l).flatten) [] sq_ sl_ sl_ (ao (aD (by rfl))) ae.h rfl rfl) ?_;refine aB 1 [] ((List.map ew ((Arr.rep 4 (0 : UInt64))).l).flatten) [] ((List.map ew f535.l).flatten) ae.h rfl rfl rfl rfl rfl ?_;exact rl_ h hg
end Go.Proofs.YtnbceeholnkfeaaGreatDoor
