/- What functions' texts ask for, and the walks that show it (printed by a program). -/
import Derived.Test.YtnbceeholnkfeaaGreatDoorGKp1
namespace Go.Proofs.YtnbceeholnkfeaaGreatDoor
def iI (x1:Bool) (x2:Int×Int×Int×Int×Int×Int×T7t) (x3:List ByteArray) (r:ByteArray):Prop:=
 ((x2.1=1→∃ y91:ByteArray,ge x1 x2.2.2.2.2.2.2 y91∧r=y91)∧(¬ (x2.1=1)→((x2.1=2→0≤(x2.2.1:Int)∧∃ y100:ByteArray,x3[(x2.2.1:Int).toNat]? =some y100∧0≤(x2.2.2.1:Int)∧∃ y102:ByteArray,x3[(x2.2.2.1:Int).toNat]? =some y102∧∃ y105:ByteArray,fC (⟨#[]⟩:ByteArray) ([y100,y102]) y105∧r=y105)∧(¬ (x2.1=2)→((x2.1=3→0≤(x2.2.1:Int)∧∃ y114:ByteArray,x3[(x2.2.1:Int).toNat]? =some y114∧0≤(x2.2.2.1:Int)∧∃ y116:ByteArray,x3[(x2.2.2.1:Int).toNat]? =some y116∧∃ y119:ByteArray,fC (⟨#[124]⟩:ByteArray) ([y114,y116]) y119∧r=y119)∧(¬ (x2.1=3)→((x2.1=4→0≤(x2.2.1:Int)∧∃ y129:ByteArray,x3[(x2.2.1:Int).toNat]? =some y129∧∃ y132:ByteArray,ic x1 x2.2.2.2.1 x2.2.2.2.2.1 y132∧∃ y134:ByteArray,fC (⟨#[]⟩:ByteArray) ([y129,y132]) y134∧r=y134)∧(¬ (x2.1=4)→((x2.1=5→∃ y151:ByteArray,dz x1 (⟨#[40]⟩:ByteArray) y151∧0≤(x2.2.1:Int)∧∃ y152:ByteArray,x3[(x2.2.1:Int).toNat]? =some y152∧∃ y155:ByteArray,dz x1 (⟨#[41]⟩:ByteArray) y155∧∃ y157:ByteArray,fC (⟨#[]⟩:ByteArray) ([y151,y152,y155]) y157∧r=y157)∧(¬ (x2.1=5)→((x2.1=6→∃ y165:ByteArray,jv x2.2.2.2.2.2.1 y165∧∃ y167:ByteArray,fC (⟨#[]⟩:ByteArray) ([(⟨#[92]⟩:ByteArray),y165]) y167∧r=y167)∧(¬ (x2.1=6)→((x2.1=7→r=(⟨#[94]⟩:ByteArray))∧(¬ (x2.1=7)→((x2.1=8→r=(⟨#[36]⟩:ByteArray))∧(¬ (x2.1=8)→r=(⟨#[]⟩:ByteArray)))))))))))))))))
set_option maxHeartbeats 4000000 in
theorem FSq ⦃x1: Bool⦄ ⦃x2: Int × Int × Int × Int × Int × Int × T7t⦄ ⦃x3: List ByteArray⦄ ⦃r: ByteArray⦄ (h: iI x1 x2 x3 r) : Cn Tryz.prog 20 [.agg [bv x1], .agg (aa x2), .sl 1 none (List.map es x3)] [] [] (Ret (.v (.string r))) := by
 refine al Tryz.func20 rfl rfl (by kernel_rfl) fun g hg=>?_;simp only [Tryz.ntmps20,av];refine wn_ 2 h fun h=>?_;refine cK rfl rfl rfl rfl fun b3 => ?_;refine cK rfl rfl rfl rfl fun b4 => ?_;refine i_ h (fun h=>?_) fun h=>?_
 ·refine wn_ 4 h fun h=>?_;refine v_ (an 0 [iv x2.1, iv x2.2.1, iv x2.2.2.1, iv x2.2.2.2.1, iv x2.2.2.2.2.1, iv x2.2.2.2.2.2.1] ((List.map ew x2.2.2.2.2.2.2.l).flatten) [] sq_ sl_ sl_ (aq (aE (by rfl))) ae.h rfl rfl) ?_;refine z0_ FR h fun y91 h=>?_;exact r_ h hg
 refine i_ h (fun h=>?_) fun h=>?_
 ·refine fh ?_;refine az (m := 13) (by kernel_rfl) rfl ?_;obtain ⟨h101a, h⟩ := h;obtain ⟨y100, h101b, h⟩ := h;obtain ⟨h103a, h⟩ := h;obtain ⟨y102, h103b, h⟩ := h;obtain ⟨y105, h104, h⟩ := h;refine o_ [0,1,5,6,2] ?_;refine pl_ 3 rfl (aJ h101a h101b ai.h ae.h rfl rfl) ?_;refine o_ [4,7] ?_;refine pl_ 8 rfl (aJ h103a h103b ai.h ae.h rfl rfl) ?_;refine o_ [9] ?_;refine aG (i := 10) (by kernel_rfl) rfl ?_
  refine eA (f := es) [y100, y102] ai.h ar.h rfl rfl wr_ rfl rfl rfl rfl fun s27 => ?_;refine aG (i := 11) (by kernel_rfl) rfl ?_;refine cM uV h104 ?_;refine o_ [12] ?_;refine aB (by kernel_rfl) ?_;exact r_ h hg
 refine i_ h (fun h=>?_) fun h=>?_
 ·refine fh ?_;refine az (m := 13) (by kernel_rfl) rfl ?_;obtain ⟨h115a, h⟩ := h;obtain ⟨y114, h115b, h⟩ := h;obtain ⟨h117a, h⟩ := h;obtain ⟨y116, h117b, h⟩ := h;obtain ⟨y119, h118, h⟩ := h;refine o_ [0,1,5,6,2] ?_;refine pl_ 3 rfl (aJ h115a h115b ai.h ae.h rfl rfl) ?_;refine o_ [4,7] ?_;refine pl_ 8 rfl (aJ h117a h117b ai.h ae.h rfl rfl) ?_;refine o_ [9] ?_;refine aG (i := 10) (by kernel_rfl) rfl ?_
  refine eA (f := es) [y114, y116] ai.h ar.h rfl rfl wr_ rfl rfl rfl rfl fun s41 => ?_;refine aG (i := 11) (by kernel_rfl) rfl ?_;refine cM uV h118 ?_;refine o_ [12] ?_;refine aB (by kernel_rfl) ?_;exact r_ h hg
 refine i_ h (fun h=>?_) fun h=>?_
 ·refine fh ?_;refine az (m := 14) (by kernel_rfl) rfl ?_;obtain ⟨h130a, h⟩ := h;obtain ⟨y129, h130b, h⟩ := h;obtain ⟨y132, h131, h⟩ := h;obtain ⟨y134, h133, h⟩ := h;refine ff 3 #[true, true, true, true, true, true, true, true, true, true, true, false, false, false] (fun σ=>σ=⟨[(6, .v (.string ((⟨#[]⟩ : ByteArray)))), (49, .v (.string y129)), (55, .v (.string y132))], [], []⟩) ?_ (fun key135=>?_)
  ·rintro _ rfl;refine aG (i := 11) (by kernel_rfl) rfl ?_;refine eA (f := es) [y129, y132] ai.h ar.h rfl rfl wr_ rfl rfl rfl rfl fun s56 => ?_;refine aG (i := 12) (by kernel_rfl) rfl ?_;refine cM uV h133 ?_;refine o_ [13] ?_;refine aB (by kernel_rfl) ?_;exact r_ h hg
  refine o_ [0,1,6,8,5,7,9] ?_;refine cv (is := [2, 10]) (by kernel_rfl) (by simp) ?_;intro i hi; simp only [List.mem_cons, List.not_mem_nil, or_false] at hi; rcases hi with rfl | rfl
  ·refine ⟨_, rfl, ?_⟩;refine wv_ (aK 0 ae.h rfl rfl rfl rfl) ?_;refine pl_ 3 rfl (aJ h130a h130b ai.h ae.h rfl rfl) ?_;refine eG [⟨4, 49, .v (.string y129)⟩] 4 ?_;refine bl 10 (by kernel_rfl) rfl (.cons rfl rfl rfl (fun _ => rfl) (fun _ => cU ae.h rfl rfl rfl) .nil) fun D l td hR => ?_;refine cM DU h131 ?_;refine fg hR ?_;refine cw (l' := #[true, true, true, true, true, true, true, true, true, true, true, false, false, false]) (by kernel_rfl) (.cons rfl rfl rfl (fun _ => rfl) (fun _ => cU ae.h rfl rfl rfl) .nil) (by kernel_rfl) rfl (by kernel_rfl) (by kernel_rfl) ?_
   simp only [List.nil_append, List.cons_append, List.map_cons, List.map_nil];exact bm key135 rfl ⟨lk_, sm_⟩ rfl (by kernel_rfl)
  ·refine ⟨_, rfl, ?_⟩;refine cM DU h131 ?_;refine o_ [2] ?_;refine pl_ 3 rfl (aJ h130a h130b ai.h ae.h rfl rfl) ?_;refine o_ [4] ?_;exact bm key135 rfl ⟨lk_, sm_⟩ rfl (by kernel_rfl)
 refine i_ h (fun h=>?_) fun h=>?_
 ·refine fh ?_;refine az (m := 12) (by kernel_rfl) rfl ?_;obtain ⟨y151, h150, h⟩ := h;obtain ⟨h153a, h⟩ := h;obtain ⟨y152, h153b, h⟩ := h;obtain ⟨y155, h154, h⟩ := h;obtain ⟨y157, h156, h⟩ := h;refine ff 3 #[true, true, true, true, true, true, true, true, true, false, false, false] (fun σ=>σ=⟨[(6, .v (.string ((⟨#[]⟩ : ByteArray)))), (61, .v (.string y151)), (66, .v (.string y152)), (68, .v (.string y155))], [], []⟩) ?_ (fun key158=>?_)
  ·rintro _ rfl;refine aG (i := 9) (by kernel_rfl) rfl ?_;refine eA (f := es) [y151, y152, y155] ai.h ar.h rfl rfl wr_ rfl rfl rfl rfl fun s69 => ?_;refine aG (i := 10) (by kernel_rfl) rfl ?_;refine cM uV h156 ?_;refine o_ [11] ?_;refine aB (by kernel_rfl) ?_;exact r_ h hg
  refine ff 5 #[true, true, true, true, true, true, false, true, false, false, false, false] (fun σ=>σ=⟨[(6, .v (.string ((⟨#[]⟩ : ByteArray)))), (61, .v (.string y151)), (65, .el [.v (.string y152)]), (67, .agg [bv x1])], [], []⟩) ?_ (fun key159=>?_)
  ·rintro _ rfl;refine eG [⟨6, 66, .v (.string y152)⟩] 4 ?_;refine bl 8 (by kernel_rfl) rfl (.cons rfl rfl rfl (fun _ => rfl) (fun _ => cU ae.h rfl rfl rfl) .nil) fun D l td hR => ?_;refine cM mH h154 ?_;refine fg hR ?_;refine cw (l' := #[true, true, true, true, true, true, true, true, true, false, false, false]) (by kernel_rfl) (.cons rfl rfl rfl (fun _ => rfl) (fun _ => cU ae.h rfl rfl rfl) .nil) (by kernel_rfl) rfl (by kernel_rfl) (by kernel_rfl) ?_
   simp only [List.nil_append, List.cons_append, List.map_cons, List.map_nil];exact bm key158 rfl ⟨lk_, sm_⟩ rfl (by kernel_rfl)
  refine ff 6 #[true, false, true, true, true, true, false, true, false, false, false, false] (fun σ=>σ=⟨[(6, .v (.string ((⟨#[]⟩ : ByteArray)))), (60, .agg [bv x1]), (65, .el [.v (.string y152)]), (67, .agg [bv x1])], [], []⟩) ?_ (fun key160=>?_)
  ·rintro _ rfl;refine eG [⟨6, 66, .v (.string y152)⟩] 5 ?_;refine bl 1 (by kernel_rfl) rfl (.cons rfl rfl rfl (fun _ => rfl) (fun _ => cU ae.h rfl rfl rfl) .nil) fun D l td hR => ?_;refine cM mH h150 ?_;refine fg hR ?_;refine bl 8 (by kernel_rfl) rfl (.cons rfl rfl rfl (fun _ => rfl) (fun _ => cU ae.h rfl rfl rfl) .nil) fun D l td hR => ?_;refine cM mH h154 ?_
   refine fg hR ?_;refine cw (l' := #[true, true, true, true, true, true, true, true, true, false, false, false]) (by kernel_rfl) (.cons rfl rfl rfl (fun _ => rfl) (fun _ => cU ae.h rfl rfl rfl) .nil) (by kernel_rfl) rfl (by kernel_rfl) (by kernel_rfl) ?_;simp only [List.nil_append, List.cons_append, List.map_cons, List.map_nil];exact bm key158 rfl ⟨lk_, sm_⟩ rfl (by kernel_rfl)
  refine ff 7 #[true, true, true, true, false, false, false, true, false, false, false, false] (fun σ=>σ=⟨[(6, .v (.string ((⟨#[]⟩ : ByteArray)))), (61, .v (.string y151)), (62, .sl 1 none (List.map es x3)), (63, .v (.pointer (some ⟨b4, 1, none⟩))), (67, .agg [bv x1])], [⟨b4, 43, (aa x2)⟩], []⟩) ?_ (fun key161=>?_)
  ·rintro _ rfl;refine cv (is := [4, 8]) (by kernel_rfl) (by simp) ?_;intro i hi; simp only [List.mem_cons, List.not_mem_nil, or_false] at hi; rcases hi with rfl | rfl
   ·refine ⟨_, rfl, ?_⟩;refine wv_ (aK 0 ae.h rfl rfl rfl rfl) ?_;refine pl_ 5 rfl (aJ h153a h153b ai.h ae.h rfl rfl) ?_;exact bm key159 rfl ⟨lk_, sm_⟩ rfl (by kernel_rfl)
   ·refine ⟨_, rfl, ?_⟩;refine cM mH h154 ?_;refine o_ [4] ?_;refine pl_ 5 rfl (aJ h153a h153b ai.h ae.h rfl rfl) ?_;refine o_ [6] ?_;exact bm key158 rfl ⟨lk_, sm_⟩ rfl (by kernel_rfl)
  refine o_ [2,3,0] ?_;refine cv (is := [1, 4, 7]) (by kernel_rfl) (by simp) ?_;intro i hi; simp only [List.mem_cons, List.not_mem_nil, or_false] at hi; rcases hi with rfl | rfl | rfl
  ·refine ⟨_, rfl, ?_⟩;refine cM mH h150 ?_;refine o_ [7] ?_;exact bm key161 rfl ⟨lk_, sm_⟩ rfl (by kernel_rfl)
  ·refine ⟨_, rfl, ?_⟩;refine wv_ (aK 0 ae.h rfl rfl rfl rfl) ?_;refine pl_ 5 rfl (aJ h153a h153b ai.h ae.h rfl rfl) ?_;refine cv (is := [1, 6, 7]) (by kernel_rfl) (by simp) ?_;intro i hi; simp only [List.mem_cons, List.not_mem_nil, or_false] at hi; rcases hi with rfl | rfl | rfl
   ·refine ⟨_, rfl, ?_⟩;refine cM mH h150 ?_;refine o_ [7] ?_;exact bm key159 rfl ⟨lk_, sm_⟩ rfl (by kernel_rfl)
   ·refine ⟨_, rfl, ?_⟩;refine wv_ (cU ae.h rfl rfl rfl) ?_;refine eG [⟨7, 67, .agg [bv x1]⟩] 5 ?_;refine bl 1 (by kernel_rfl) rfl (.cons rfl rfl rfl (fun _ => rfl) (fun _ => aK 1 ae.h rfl rfl rfl rfl) .nil) fun D l td hR => ?_;refine cM mH h150 ?_;refine fg hR ?_;refine cw (l' := #[true, true, true, true, true, true, true, true, false, false, false, false]) (by kernel_rfl) (.cons rfl rfl rfl (fun _ => rfl) (fun _ => aK 1 ae.h rfl rfl rfl rfl) .nil) (by kernel_rfl) rfl (by kernel_rfl) (by kernel_rfl) ?_
    simp only [List.nil_append, List.cons_append, List.map_cons, List.map_nil];refine aG (i := 8) (by kernel_rfl) rfl ?_;refine cM mH h154 ?_;exact bm key158 rfl ⟨lk_, sm_⟩ rfl (by kernel_rfl)
   ·refine ⟨_, rfl, ?_⟩;refine wv_ (aK 1 ae.h rfl rfl rfl rfl) ?_;exact bm key160 rfl ⟨lk_, sm_⟩ rfl (by kernel_rfl)
  ·refine ⟨_, rfl, ?_⟩;refine wv_ (aK 1 ae.h rfl rfl rfl rfl) ?_;refine cv (is := [1, 4]) (by kernel_rfl) (by simp) ?_;intro i hi; simp only [List.mem_cons, List.not_mem_nil, or_false] at hi; rcases hi with rfl | rfl
   ·refine ⟨_, rfl, ?_⟩;refine cM mH h150 ?_;exact bm key161 rfl ⟨lk_, sm_⟩ rfl (by kernel_rfl)
   ·refine ⟨_, rfl, ?_⟩;refine wv_ (aK 0 ae.h rfl rfl rfl rfl) ?_;refine pl_ 5 rfl (aJ h153a h153b ai.h ae.h rfl rfl) ?_;exact bm key160 rfl ⟨lk_, sm_⟩ rfl (by kernel_rfl)
 refine i_ h (fun h=>?_) fun h=>?_
 ·refine z0_ AC h fun y165 h=>?_;refine aM (f := es) [(⟨#[92]⟩ : ByteArray), y165] ai.h ar.h rfl rfl wr_ rfl rfl rfl rfl fun s76 => ?_;refine z0_ uV h fun y167 h=>?_;exact r_ h hg
 refine i_ h (fun h=>?_) fun h=>?_
 ·exact r_ h hg
 refine i_ h (fun h=>?_) fun h=>?_
 ·exact r_ h hg
 exact r_ h hg
def bC (o1:T0t×(List UInt8)×Int×Int×T5t) (nv3:Int×Int×Int×Int×Int×Int×T7t) (r:Int×T1t):Prop:=
 ((1000≤(o1.1.1.length:Int)→r=((-1),o1))∧(¬ (1000≤(o1.1.1.length:Int))→∃ y28:Bool,iX nv3 (o1.1.1.length:Int) o1.1.2 y28∧((¬ (y28=true)→r=((-1),o1))∧(¬ (¬ (y28=true))→ef (o1.1.1.length+([nv3]).length) 80∧InR ((((o1.1.1++[nv3])).length:Int) - 1)∧r=(((((o1.1.1++[nv3])).length:Int) - 1),(((o1.1.1++[nv3]),o1.1.2),o1.2.1,o1.2.2.1,o1.2.2.2.1,o1.2.2.2.2))))))
set_option maxHeartbeats 4000000 in
theorem pH ⦃o1: T0t × (List UInt8) × Int × Int × T5t⦄ ⦃nv3: Int × Int × Int × Int × Int × Int × T7t⦄ ⦃r: Int × T1t⦄ (h: bC o1 nv3 r) (bx0: Nat) (ia2: Option (Nat × Nat)) : Cn Tryz.prog 39 [pw bx0, .agg (aa nv3)] [⟨bx0, 59, ([.sl 10 (some ia2) (List.map aa o1.1.1), iv o1.1.2, sb o1.2.1, iv o1.2.2.1, iv o1.2.2.2.1] ++ (List.map eB o1.2.2.2.2.l).flatten)⟩] [⟨ia2, 43, 10, o1.1.1.length⟩] fun rr bx tk=>∃ j1, rr=iv r.1 ∧ bx=[⟨bx0, 59, ([.sl 10 (some j1) (List.map aa r.2.1.1), iv r.2.1.2, sb r.2.2.1, iv r.2.2.2.1, iv r.2.2.2.2.1] ++ (List.map eB r.2.2.2.2.2.l).flatten)⟩] ∧ tk=[⟨j1, 43, 10, r.2.1.1.length⟩] := by
 refine al Tryz.func39 rfl rfl (by kernel_rfl) fun g hg=>?_;simp only [Tryz.ntmps39,av];refine wn_ 2 h fun h=>?_;refine cK rfl rfl rfl rfl fun b3 => ?_;refine wn_ 5 h fun h=>?_;refine az (m := 20) (by kernel_rfl) rfl ?_;refine o_ [0,1,2,3,4,5,6] ?_;refine ip_ 11 h (fun h=>?_) fun h=>?_
 ·refine o_ [7,8,9,10,11,12,13,14,15,16,17,18,19] ?_;refine aB (by kernel_rfl) ?_;exact r_ h hg
 obtain ⟨y28, h27, h⟩ := h;refine o_ [8,9,10,13,14,15] ?_;refine en 7 [11, 12, 16] rfl (an 0 [] (aa nv3) [] sq_ sl_ sl_ (aq sl_) ae.h rfl rfl) rfl rfl (by kernel_rfl) (by kernel_rfl) (by kernel_rfl) (fun _ _ _ _ h => h) ?_
 refine o_ [11,12,16] ?_;refine aG (i := 17) (by kernel_rfl) rfl ?_;refine cM k7_ h27 ?_;refine o_ [18,19] ?_;refine aB (by kernel_rfl) ?_;refine i_ h (fun h=>?_) fun h=>?_
 ·exact r_ h hg
 refine wn_ 3 h fun h=>?_;refine az (m := 11) (by kernel_rfl) rfl ?_;obtain ⟨h32, h⟩ := h;refine o_ [0,1,2,3,4] ?_;refine en 5 [] rfl (an 0 [] (aa nv3) [] sq_ sl_ sl_ (aq sl_) ae.h rfl rfl) rfl rfl (by kernel_rfl) (by kernel_rfl) (by kernel_rfl) (fun _ _ _ _ h => h) ?_
 refine aG (i := 6) (by kernel_rfl) rfl ?_;refine eF (f := aa) [nv3] ai.h ar.h rfl (.cons rfl (mz sl_) rfl rfl .nil) wr_ rfl rfl rfl rfl fun s31 => ?_;refine aG (i := 7) (by kernel_rfl) rfl ?_;refine ko (l := o1.1.1) (l2 := [nv3]) 1 h32 ai.h ar.h rfl rfl rfl (.refl _) rfl rfl rfl fun i33 => ?_;refine o_ [8,9] ?_;refine aG (i := 10) (by kernel_rfl) rfl ?_
 refine cx 1 ae.h rfl rfl rfl rfl rfl rfl rfl ?_;refine aB (by kernel_rfl) ?_;exact r_ h hg
def iJ (o1:T0t×(List UInt8)×Int×Int×T5t) (r:Int×T1t):Prop:=
 ∃ y4:Int×T1t,bC o1 (0,0,0,0,0,0,(Arr.rep 4 (0:UInt64))) y4∧r=(y4.1,y4.2)
set_option maxHeartbeats 4000000 in
theorem DV ⦃o1: T0t × (List UInt8) × Int × Int × T5t⦄ ⦃r: Int × T1t⦄ (h: iJ o1 r) (bx0: Nat) (ia2: Option (Nat × Nat)) : Cn Tryz.prog 23 [pw bx0] [⟨bx0, 59, ([.sl 10 (some ia2) (List.map aa o1.1.1), iv o1.1.2, sb o1.2.1, iv o1.2.2.1, iv o1.2.2.2.1] ++ (List.map eB o1.2.2.2.2.l).flatten)⟩] [⟨ia2, 43, 10, o1.1.1.length⟩] fun rr bx tk=>∃ j1, rr=iv r.1 ∧ bx=[⟨bx0, 59, ([.sl 10 (some j1) (List.map aa r.2.1.1), iv r.2.1.2, sb r.2.2.1, iv r.2.2.2.1, iv r.2.2.2.2.1] ++ (List.map eB r.2.2.2.2.2.l).flatten)⟩] ∧ tk=[⟨j1, 43, 10, r.2.1.1.length⟩] := by
 refine al Tryz.func23 rfl rfl (by kernel_rfl) fun g hg=>?_;simp only [Tryz.ntmps23,av];refine wn_ 8 h fun h=>?_;refine vp_ (aw (cs := ([iv 0, iv 0, iv 0, iv 0, iv 0, iv 0] ++ (List.map ew ((Arr.rep 4 (0 : UInt64))).l).flatten)) aQ.h rfl (by refine ao [] [iv 0] ([iv 0, iv 0, iv 0, iv 0, iv 0] ++ (List.map ew ((Arr.rep 4 (0 : UInt64))).l).flatten) sq_ sl_ sl_ sl_ rfl rfl ?_; exact congrArg some sq_)) ?_
 refine c1_ pH h fun y4 i5 h=>?_;exact r_ h hg
def hO (o1:T0t×(List UInt8)×Int×Int×T5t) (r:Bool):Prop:=
 ((o1.2.2.2.1=0→r=(decide (o1.2.2.1<(o1.2.1.length:Int))))∧(¬ (o1.2.2.2.1=0)→r=false))
set_option maxHeartbeats 4000000 in
theorem DW ⦃o1: T0t × (List UInt8) × Int × Int × T5t⦄ ⦃r: Bool⦄ (h: hO o1 r) (bx0: Nat) (ia2: Option (Nat × Nat)) : Cn Tryz.prog 65 [pw bx0] [⟨bx0, 59, ([.sl 10 (some ia2) (List.map aa o1.1.1), iv o1.1.2, sb o1.2.1, iv o1.2.2.1, iv o1.2.2.2.1] ++ (List.map eB o1.2.2.2.2.l).flatten)⟩] [⟨ia2, 43, 10, o1.1.1.length⟩] fun rr bx tk=>rr=bv r ∧ bx=[⟨bx0, 59, ([.sl 10 (some ia2) (List.map aa o1.1.1), iv o1.1.2, sb o1.2.1, iv o1.2.2.1, iv o1.2.2.2.1] ++ (List.map eB o1.2.2.2.2.l).flatten)⟩] ∧ tk=[⟨ia2, 43, 10, o1.1.1.length⟩] := by
 refine al Tryz.func65 rfl rfl (by kernel_rfl) fun g hg=>?_;simp only [Tryz.ntmps65,av];refine wn_ 6 h fun h=>?_;refine az (m := 18) (by kernel_rfl) rfl ?_;refine o_ [0,1,2,3,4,5] ?_;refine ip_ 8 h (fun h=>?_) fun h=>?_
 ·refine o_ [6,7,8,10,11,12,9,13,14,15,16,17] ?_;refine aB (by kernel_rfl) ?_;exact r_ h hg
 refine o_ [6,7,8,9,10,11,12,13,14,15,16,17] ?_;refine aB (by kernel_rfl) ?_;exact r_ h hg
def cD (o1:T0t×(List UInt8)×Int×Int×T5t) (c3:UInt8) (r:Bool):Prop:=
 ∃ y11:Bool,hO o1 y11∧((y11=true→0≤(o1.2.2.1:Int)∧∃ y13:UInt8,o1.2.1[(o1.2.2.1:Int).toNat]? =some y13∧r=(decide ((y13.toNat:Int)=(c3.toNat:Int))))∧(¬ (y11=true)→r=false))
set_option maxHeartbeats 4000000 in
theorem pI ⦃o1: T0t × (List UInt8) × Int × Int × T5t⦄ ⦃c3: UInt8⦄ ⦃r: Bool⦄ (h: cD o1 c3 r) (bx0: Nat) (ia2: Option (Nat × Nat)) : Cn Tryz.prog 41 [pw bx0, uv c3] [⟨bx0, 59, ([.sl 10 (some ia2) (List.map aa o1.1.1), iv o1.1.2, sb o1.2.1, iv o1.2.2.1, iv o1.2.2.2.1] ++ (List.map eB o1.2.2.2.2.l).flatten)⟩] [⟨ia2, 43, 10, o1.1.1.length⟩] fun rr bx tk=>rr=bv r ∧ bx=[⟨bx0, 59, ([.sl 10 (some ia2) (List.map aa o1.1.1), iv o1.1.2, sb o1.2.1, iv o1.2.2.1, iv o1.2.2.2.1] ++ (List.map eB o1.2.2.2.2.l).flatten)⟩] ∧ tk=[⟨ia2, 43, 10, o1.1.1.length⟩] := by
 refine al Tryz.func41 rfl rfl (by kernel_rfl) fun g hg=>?_;simp only [Tryz.ntmps41,av];refine wn_ 6 h fun h=>?_;refine az (m := 17) (by kernel_rfl) rfl ?_;obtain ⟨y11, h10, h⟩ := h;refine o_ [0] ?_;refine aG (i := 1) (by kernel_rfl) rfl ?_;refine A8 DW h10 ?_;refine o_ [2] ?_;refine ip_ 7 h (fun h=>?_) fun h=>?_
 ·obtain ⟨h14a, h⟩ := h;obtain ⟨y13, h14b, h⟩ := h;refine o_ [3,4,5,7,8,9,13,6,10] ?_;refine pl_ 11 rfl (aJ h14a h14b ai.h ae.h rfl rfl) ?_;refine o_ [12,14,15,16] ?_;refine aB (by kernel_rfl) ?_;exact r_ h hg
 refine o_ [3,4,5,6,7,8,9,10,11,12,13,14,15,16] ?_;refine aB (by kernel_rfl) ?_;exact r_ h hg
def bg (o1:T0t×(List UInt8)×Int×Int×T5t) (e3:Int) (r:Int×T1t):Prop:=
 ((o1.2.2.2.1=0→r=((-1),(o1.1,o1.2.1,o1.2.2.1,e3,o1.2.2.2.2)))∧(¬ (o1.2.2.2.1=0)→r=((-1),o1)))
set_option maxHeartbeats 4000000 in
theorem lO ⦃o1: T0t × (List UInt8) × Int × Int × T5t⦄ ⦃e3: Int⦄ ⦃r: Int × T1t⦄ (h: bg o1 e3 r) (bx0: Nat) (ia2: Option (Nat × Nat)) : Cn Tryz.prog 42 [pw bx0, iv e3] [⟨bx0, 59, ([.sl 10 (some ia2) (List.map aa o1.1.1), iv o1.1.2, sb o1.2.1, iv o1.2.2.1, iv o1.2.2.2.1] ++ (List.map eB o1.2.2.2.2.l).flatten)⟩] [⟨ia2, 43, 10, o1.1.1.length⟩] fun rr bx tk=>∃ j1, rr=iv r.1 ∧ bx=[⟨bx0, 59, ([.sl 10 (some j1) (List.map aa r.2.1.1), iv r.2.1.2, sb r.2.2.1, iv r.2.2.2.1, iv r.2.2.2.2.1] ++ (List.map eB r.2.2.2.2.2.l).flatten)⟩] ∧ tk=[⟨j1, 43, 10, r.2.1.1.length⟩] := by
 refine al Tryz.func42 rfl rfl (by kernel_rfl) fun g hg=>?_;simp only [Tryz.ntmps42,av];refine i_ h (fun h=>?_) fun h=>?_
 ·exact r_ h hg
 exact r_ h hg
def kQ (l4:List Int) (kind3:Int) (ag1:(Int×Int×(List T4t)×Int×(List UInt8)×Int×Int×T5t)→Prop) (atv142:Int) (x143:Int) (f144:List T4t) (f146:Int) (f147:List UInt8) (f148:Int) (f149:Int) (f150:Arr 10 (Bool)) (r:Int×T1t):Prop:=
 ((x143<(((l4.drop (1:Int).toNat)).length:Int)→0≤(x143:Int)∧∃ y185:Int,((l4.drop (1:Int).toNat))[(x143:Int).toNat]? =some y185∧((atv142=(-1)→r=(atv142,((f144,f146),f147,f148,f149,f150)))∧(¬ (atv142=(-1))→∃ y192:Int×T1t,bC ((f144,f146),f147,f148,f149,f150) (kind3,atv142,y185,0,0,0,(Arr.rep 4 (0:UInt64))) y192∧InR (x143+1)∧ag1 (y192.1,(x143+1),y192.2.1.1,y192.2.1.2,y192.2.2.1,y192.2.2.2.1,y192.2.2.2.2.1,y192.2.2.2.2.2))))∧(¬ (x143<(((l4.drop (1:Int).toNat)).length:Int))→r=(atv142,((f144,f146),f147,f148,f149,f150))))
def eL (o1:T0t×(List UInt8)×Int×Int×T5t) (kind3:Int) (l4:List Int) (r:Int×T1t):Prop:=
 0≤(0:Int)∧∃ y30:Int,l4[(0:Int).toNat]? =some y30∧((y30<0→r=((-1),o1))∧(¬ (y30<0)→0≤(0:Int)∧∃ y34:Int,l4[(0:Int).toNat]? =some y34∧(((o1.1.1.length:Int)≤y34→r=((-1),o1))∧(¬ ((o1.1.1.length:Int)≤y34)→0≤(0:Int)∧∃ y39:Int,l4[(0:Int).toNat]? =some y39∧(0≤(1:Int)∧(1:Int)≤(l4.length:Int))∧ba (fun ag1 s=>kQ l4 kind3 ag1 s.1 s.2.1 s.2.2.1 s.2.2.2.1 s.2.2.2.2.1 s.2.2.2.2.2.1 s.2.2.2.2.2.2.1 s.2.2.2.2.2.2.2 r) (y39,0,o1.1.1,o1.1.2,o1.2.1,o1.2.2.1,o1.2.2.2.1,o1.2.2.2.2)))))
set_option maxHeartbeats 4000000 in
theorem DX ⦃o1: T0t × (List UInt8) × Int × Int × T5t⦄ ⦃kind3: Int⦄ ⦃l4: List Int⦄ ⦃r: Int × T1t⦄ (h: eL o1 kind3 l4 r) (bx0: Nat) (ia2: Option (Nat × Nat)) : Cn Tryz.prog 67 [pw bx0, iv kind3, .sl 1 none (List.map ei l4)] [⟨bx0, 59, ([.sl 10 (some ia2) (List.map aa o1.1.1), iv o1.1.2, sb o1.2.1, iv o1.2.2.1, iv o1.2.2.2.1] ++ (List.map eB o1.2.2.2.2.l).flatten)⟩] [⟨ia2, 43, 10, o1.1.1.length⟩] fun rr bx tk=>∃ j1, rr=iv r.1 ∧ bx=[⟨bx0, 59, ([.sl 10 (some j1) (List.map aa r.2.1.1), iv r.2.1.2, sb r.2.2.1, iv r.2.2.2.1, iv r.2.2.2.2.1] ++ (List.map eB r.2.2.2.2.2.l).flatten)⟩] ∧ tk=[⟨j1, 43, 10, r.2.1.1.length⟩] := by
 refine al Tryz.func67 rfl rfl (by kernel_rfl) fun g hg=>?_;simp only [Tryz.ntmps67,av];refine wn_ 7 h fun h=>?_;refine az (m := 15) (by kernel_rfl) rfl ?_;obtain ⟨h31a, h⟩ := h;obtain ⟨y30, h31b, h⟩ := h;refine o_ [0] ?_;refine pl_ 1 rfl (aJ h31a h31b ai.h ae.h rfl rfl) ?_;refine o_ [2,3,4] ?_;refine ip_ 14 h (fun h=>?_) fun h=>?_
 ·refine o_ [5,6,7,8,9,10,11,12,13,14] ?_;refine aB (by kernel_rfl) ?_;exact r_ h hg
 obtain ⟨h35a, h⟩ := h;obtain ⟨y34, h35b, h⟩ := h;refine o_ [5] ?_;refine pl_ 6 rfl (aJ h35a h35b ai.h ae.h rfl rfl) ?_;refine o_ [8,9,10,7,11,12,13,14] ?_;refine aB (by kernel_rfl) ?_;refine i_ h (fun h=>?_) fun h=>?_
 ·exact r_ h hg
 refine x_ h fun y39 h=>?_;refine wn_ 14 h fun h=>?_;obtain ⟨Inv,⟨m0,hI⟩,hS⟩ := lq_ h;refine lp_ hI (fun σ m=>∃ atv142 x143 f144 f146 f147 f148 f149 f150 i145, Inv (atv142, x143, f144, f146, f147, f148, f149, f150) m ∧ σ=⟨[(0, pw bx0), (1, iv kind3), (7, iv atv142), (29, .sl 1 none (List.map ei ((l4.drop (1 : Int).toNat)))), (30, iv ((((l4.drop (1 : Int).toNat)).length : Int))), (31, iv x143)], [⟨bx0, 59, ([.sl 10 (some i145) (List.map aa f144), iv f146, sb f147, iv f148, iv f149] ++ (List.map eB f150.l).flatten)⟩], [⟨i145, 43, 10, f144.length⟩]⟩) ?_
 rintro _ m ⟨atv142,x143,f144,f146,f147,f148,f149,f150,i145,hI,rfl⟩;obtain ⟨ag1,hag1,h⟩ := cu hS hI;refine i_ h (fun h=>?_) fun h=>?_
 ·refine x_ h fun y185 h=>?_;refine i_ h (fun h=>?_) fun h=>?_
  ·exact r_ h hg
  refine wn_ 7 h fun h=>?_;refine vp_ (aw (cs := ([iv kind3, iv atv142, iv y185, iv 0, iv 0, iv 0] ++ (List.map ew ((Arr.rep 4 (0 : UInt64))).l).flatten)) aQ.h rfl (by refine ao [] [iv 0] ([iv 0, iv 0, iv 0, iv 0, iv 0] ++ (List.map ew ((Arr.rep 4 (0 : UInt64))).l).flatten) sq_ sl_ sl_ sl_ rfl rfl ?_; refine ao [iv kind3] [iv 0] ([iv 0, iv 0, iv 0, iv 0] ++ (List.map ew ((Arr.rep 4 (0 : UInt64))).l).flatten) sq_ sl_ sl_ sl_ rfl rfl ?_; refine ao [iv kind3, iv atv142] [iv 0] ([iv 0, iv 0, iv 0] ++ (List.map ew ((Arr.rep 4 (0 : UInt64))).l).flatten) sq_ sl_ sl_ sl_ rfl rfl ?_; exact congrArg some sq_)) ?_
  refine c1_ pH h fun y192 i193 h=>?_;exact g_ h hag1
 exact r_ h hg
def jw (o1:T0t×(List UInt8)×Int×Int×T5t) (l3:List Int) (r:Int×T1t):Prop:=
 (((l3.length:Int)=0→∃ y14:Int×T1t,iJ o1 y14∧r=(y14.1,y14.2))∧(¬ ((l3.length:Int)=0)→∃ y17:Int×T1t,eL o1 2 l3 y17∧r=(y17.1,y17.2)))
set_option maxHeartbeats 4000000 in
theorem FT ⦃o1: T0t × (List UInt8) × Int × Int × T5t⦄ ⦃l3: List Int⦄ ⦃r: Int × T1t⦄ (h: jw o1 l3 r) (bx0: Nat) (ia2: Option (Nat × Nat)) : Cn Tryz.prog 50 [pw bx0, .sl 1 none (List.map ei l3)] [⟨bx0, 59, ([.sl 10 (some ia2) (List.map aa o1.1.1), iv o1.1.2, sb o1.2.1, iv o1.2.2.1, iv o1.2.2.2.1] ++ (List.map eB o1.2.2.2.2.l).flatten)⟩] [⟨ia2, 43, 10, o1.1.1.length⟩] fun rr bx tk=>∃ j1, rr=iv r.1 ∧ bx=[⟨bx0, 59, ([.sl 10 (some j1) (List.map aa r.2.1.1), iv r.2.1.2, sb r.2.2.1, iv r.2.2.2.1, iv r.2.2.2.2.1] ++ (List.map eB r.2.2.2.2.2.l).flatten)⟩] ∧ tk=[⟨j1, 43, 10, r.2.1.1.length⟩] := by
 refine al Tryz.func50 rfl rfl (by kernel_rfl) fun g hg=>?_;simp only [Tryz.ntmps50,av];refine i_ h (fun h=>?_) fun h=>?_
 ·refine c1_ DV h fun y14 i15 h=>?_;exact r_ h hg
 refine c1_ DX h fun y17 i18 h=>?_;exact r_ h hg
def bS (o1:T0t×(List UInt8)×Int×Int×T5t) (k3:Int) (r:Int×T1t):Prop:=
 ((k3<0→∃ y12:Int×T1t,bg o1 8 y12∧r=(y12.1,y12.2))∧(¬ (k3<0)→r=(k3,o1)))
set_option maxHeartbeats 4000000 in
theorem oN ⦃o1: T0t × (List UInt8) × Int × Int × T5t⦄ ⦃k3: Int⦄ ⦃r: Int × T1t⦄ (h: bS o1 k3 r) (bx0: Nat) (ia2: Option (Nat × Nat)) : Cn Tryz.prog 43 [pw bx0, iv k3] [⟨bx0, 59, ([.sl 10 (some ia2) (List.map aa o1.1.1), iv o1.1.2, sb o1.2.1, iv o1.2.2.1, iv o1.2.2.2.1] ++ (List.map eB o1.2.2.2.2.l).flatten)⟩] [⟨ia2, 43, 10, o1.1.1.length⟩] fun rr bx tk=>∃ j1, rr=iv r.1 ∧ bx=[⟨bx0, 59, ([.sl 10 (some j1) (List.map aa r.2.1.1), iv r.2.1.2, sb r.2.2.1, iv r.2.2.2.1, iv r.2.2.2.2.1] ++ (List.map eB r.2.2.2.2.2.l).flatten)⟩] ∧ tk=[⟨j1, 43, 10, r.2.1.1.length⟩] := by
 refine al Tryz.func43 rfl rfl (by kernel_rfl) fun g hg=>?_;simp only [Tryz.ntmps43,av];refine i_ h (fun h=>?_) fun h=>?_
 ·refine c1_ lO h fun y12 i13 h=>?_;exact r_ h hg
 exact r_ h hg
def jx (o1:T0t×(List UInt8)×Int×Int×T5t) (l3:List Int) (r:Int×T1t):Prop:=
 (((l3.length:Int)=0→r=((-1),o1))∧(¬ ((l3.length:Int)=0)→∃ y11:Int×T1t,eL o1 3 l3 y11∧r=(y11.1,y11.2)))
set_option maxHeartbeats 4000000 in
theorem FU ⦃o1: T0t × (List UInt8) × Int × Int × T5t⦄ ⦃l3: List Int⦄ ⦃r: Int × T1t⦄ (h: jx o1 l3 r) (bx0: Nat) (ia2: Option (Nat × Nat)) : Cn Tryz.prog 44 [pw bx0, .sl 1 none (List.map ei l3)] [⟨bx0, 59, ([.sl 10 (some ia2) (List.map aa o1.1.1), iv o1.1.2, sb o1.2.1, iv o1.2.2.1, iv o1.2.2.2.1] ++ (List.map eB o1.2.2.2.2.l).flatten)⟩] [⟨ia2, 43, 10, o1.1.1.length⟩] fun rr bx tk=>∃ j1, rr=iv r.1 ∧ bx=[⟨bx0, 59, ([.sl 10 (some j1) (List.map aa r.2.1.1), iv r.2.1.2, sb r.2.2.1, iv r.2.2.2.1, iv r.2.2.2.2.1] ++ (List.map eB r.2.2.2.2.2.l).flatten)⟩] ∧ tk=[⟨j1, 43, 10, r.2.1.1.length⟩] := by
 refine al Tryz.func44 rfl rfl (by kernel_rfl) fun g hg=>?_;simp only [Tryz.ntmps44,av];refine i_ h (fun h=>?_) fun h=>?_
 ·exact r_ h hg
 refine c1_ DX h fun y11 i12 h=>?_;exact r_ h hg
def mq (o1:T0t×(List UInt8)×Int×Int×T5t) (r:Int×T1t):Prop:=
 ∃ y4:Int×T1t,bC o1 (7,0,0,0,0,0,(Arr.rep 4 (0:UInt64))) y4∧r=(y4.1,y4.2)
set_option maxHeartbeats 4000000 in
theorem FV ⦃o1: T0t × (List UInt8) × Int × Int × T5t⦄ ⦃r: Int × T1t⦄ (h: mq o1 r) (bx0: Nat) (ia2: Option (Nat × Nat)) : Cn Tryz.prog 47 [pw bx0] [⟨bx0, 59, ([.sl 10 (some ia2) (List.map aa o1.1.1), iv o1.1.2, sb o1.2.1, iv o1.2.2.1, iv o1.2.2.2.1] ++ (List.map eB o1.2.2.2.2.l).flatten)⟩] [⟨ia2, 43, 10, o1.1.1.length⟩] fun rr bx tk=>∃ j1, rr=iv r.1 ∧ bx=[⟨bx0, 59, ([.sl 10 (some j1) (List.map aa r.2.1.1), iv r.2.1.2, sb r.2.2.1, iv r.2.2.2.1, iv r.2.2.2.2.1] ++ (List.map eB r.2.2.2.2.2.l).flatten)⟩] ∧ tk=[⟨j1, 43, 10, r.2.1.1.length⟩] := by
 refine al Tryz.func47 rfl rfl (by kernel_rfl) fun g hg=>?_;simp only [Tryz.ntmps47,av];refine wn_ 8 h fun h=>?_;refine vp_ (aw (cs := ([iv 7, iv 0, iv 0, iv 0, iv 0, iv 0] ++ (List.map ew ((Arr.rep 4 (0 : UInt64))).l).flatten)) aQ.h rfl (by refine ao [] [iv 0] ([iv 0, iv 0, iv 0, iv 0, iv 0] ++ (List.map ew ((Arr.rep 4 (0 : UInt64))).l).flatten) sq_ sl_ sl_ sl_ rfl rfl ?_; exact congrArg some sq_)) ?_
 refine c1_ pH h fun y4 i5 h=>?_;exact r_ h hg
def mr (o1:T0t×(List UInt8)×Int×Int×T5t) (r:Int×T1t):Prop:=
 ∃ y4:Int×T1t,bC o1 (8,0,0,0,0,0,(Arr.rep 4 (0:UInt64))) y4∧r=(y4.1,y4.2)
set_option maxHeartbeats 4000000 in
theorem FW ⦃o1: T0t × (List UInt8) × Int × Int × T5t⦄ ⦃r: Int × T1t⦄ (h: mr o1 r) (bx0: Nat) (ia2: Option (Nat × Nat)) : Cn Tryz.prog 86 [pw bx0] [⟨bx0, 59, ([.sl 10 (some ia2) (List.map aa o1.1.1), iv o1.1.2, sb o1.2.1, iv o1.2.2.1, iv o1.2.2.2.1] ++ (List.map eB o1.2.2.2.2.l).flatten)⟩] [⟨ia2, 43, 10, o1.1.1.length⟩] fun rr bx tk=>∃ j1, rr=iv r.1 ∧ bx=[⟨bx0, 59, ([.sl 10 (some j1) (List.map aa r.2.1.1), iv r.2.1.2, sb r.2.2.1, iv r.2.2.2.1, iv r.2.2.2.2.1] ++ (List.map eB r.2.2.2.2.2.l).flatten)⟩] ∧ tk=[⟨j1, 43, 10, r.2.1.1.length⟩] := by
 refine al Tryz.func86 rfl rfl (by kernel_rfl) fun g hg=>?_;simp only [Tryz.ntmps86,av];refine wn_ 8 h fun h=>?_;refine vp_ (aw (cs := ([iv 8, iv 0, iv 0, iv 0, iv 0, iv 0] ++ (List.map ew ((Arr.rep 4 (0 : UInt64))).l).flatten)) aQ.h rfl (by refine ao [] [iv 0] ([iv 0, iv 0, iv 0, iv 0, iv 0] ++ (List.map ew ((Arr.rep 4 (0 : UInt64))).l).flatten) sq_ sl_ sl_ sl_ rfl rfl ?_; exact congrArg some sq_)) ?_
 refine c1_ pH h fun y4 i5 h=>?_;exact r_ h hg
def lw (o1:T0t×(List UInt8)×Int×Int×T5t) (gv3:Int) (r:Int×T1t):Prop:=
 ∃ y5:Int×T1t,bC o1 (6,0,0,0,0,gv3,(Arr.rep 4 (0:UInt64))) y5∧r=(y5.1,y5.2)
set_option maxHeartbeats 4000000 in
theorem FX ⦃o1: T0t × (List UInt8) × Int × Int × T5t⦄ ⦃gv3: Int⦄ ⦃r: Int × T1t⦄ (h: lw o1 gv3 r) (bx0: Nat) (ia2: Option (Nat × Nat)) : Cn Tryz.prog 110 [pw bx0, iv gv3] [⟨bx0, 59, ([.sl 10 (some ia2) (List.map aa o1.1.1), iv o1.1.2, sb o1.2.1, iv o1.2.2.1, iv o1.2.2.2.1] ++ (List.map eB o1.2.2.2.2.l).flatten)⟩] [⟨ia2, 43, 10, o1.1.1.length⟩] fun rr bx tk=>∃ j1, rr=iv r.1 ∧ bx=[⟨bx0, 59, ([.sl 10 (some j1) (List.map aa r.2.1.1), iv r.2.1.2, sb r.2.2.1, iv r.2.2.2.1, iv r.2.2.2.2.1] ++ (List.map eB r.2.2.2.2.2.l).flatten)⟩] ∧ tk=[⟨j1, 43, 10, r.2.1.1.length⟩] := by
 refine al Tryz.func110 rfl rfl (by kernel_rfl) fun g hg=>?_;simp only [Tryz.ntmps110,av];refine wn_ 9 h fun h=>?_;refine vp_ (aw (cs := ([iv 6, iv 0, iv 0, iv 0, iv 0, iv gv3] ++ (List.map ew ((Arr.rep 4 (0 : UInt64))).l).flatten)) aQ.h rfl (by refine ao [] [iv 0] ([iv 0, iv 0, iv 0, iv 0, iv 0] ++ (List.map ew ((Arr.rep 4 (0 : UInt64))).l).flatten) sq_ sl_ sl_ sl_ rfl rfl ?_; refine ao [iv 6, iv 0, iv 0, iv 0, iv 0] [iv 0] ((List.map ew ((Arr.rep 4 (0 : UInt64))).l).flatten) sq_ sl_ sl_ sl_ rfl rfl ?_; exact congrArg some sq_)) ?_
 refine c1_ pH h fun y5 i6 h=>?_;exact r_ h hg
def cV (c1:UInt8) (low2:UInt8) (high3:UInt8) (r:Bool):Prop:=
 (((low2.toNat:Int)≤(c1.toNat:Int)→r=(decide ((c1.toNat:Int)≤(high3.toNat:Int))))∧(¬ ((low2.toNat:Int)≤(c1.toNat:Int))→r=false))
set_option maxHeartbeats 4000000 in
theorem rf ⦃c1: UInt8⦄ ⦃low2: UInt8⦄ ⦃high3: UInt8⦄ ⦃r: Bool⦄ (h: cV c1 low2 high3 r) : Cn Tryz.prog 131 [uv c1, uv low2, uv high3] [] [] (Ret (bv r)) := by
 refine al Tryz.func131 rfl rfl (by kernel_rfl) fun g hg=>?_;simp only [Tryz.ntmps131,av];refine is_ 10 h (fun h=>?_) fun h=>?_
 ·exact r_ h hg
 exact r_ h hg
def fq (c1:UInt8) (r:Bool):Prop:=
 ∃ y3:Bool,cV c1 (65:UInt8) (90:UInt8) y3∧r=y3
set_option maxHeartbeats 4000000 in
theorem AD ⦃c1: UInt8⦄ ⦃r: Bool⦄ (h: fq c1 r) : Cn Tryz.prog 127 [uv c1] [] [] (Ret (bv r)) := by
 refine al Tryz.func127 rfl rfl (by kernel_rfl) fun g hg=>?_;simp only [Tryz.ntmps127,av];refine z0_ rf h fun y3 h=>?_;exact r_ h hg
def ft (c1:UInt8) (r:Bool):Prop:=
 ∃ y3:Bool,cV c1 (97:UInt8) (122:UInt8) y3∧r=y3
set_option maxHeartbeats 4000000 in
theorem AE ⦃c1: UInt8⦄ ⦃r: Bool⦄ (h: ft c1 r) : Cn Tryz.prog 128 [uv c1] [] [] (Ret (bv r)) := by
 refine al Tryz.func128 rfl rfl (by kernel_rfl) fun g hg=>?_;simp only [Tryz.ntmps128,av];refine z0_ rf h fun y3 h=>?_;exact r_ h hg
def ep (c1:UInt8) (r:Bool):Prop:=
 ∃ y3:Bool,cV c1 (48:UInt8) (57:UInt8) y3∧r=y3
set_option maxHeartbeats 4000000 in
theorem xn ⦃c1: UInt8⦄ ⦃r: Bool⦄ (h: ep c1 r) : Cn Tryz.prog 113 [uv c1] [] [] (Ret (bv r)) := by
 refine al Tryz.func113 rfl rfl (by kernel_rfl) fun g hg=>?_;simp only [Tryz.ntmps113,av];refine z0_ rf h fun y3 h=>?_;exact r_ h hg
def gB (c1:UInt8) (r:Bool):Prop:=
 ∃ y11:Bool,ep c1 y11∧((y11=true→r=true)∧(¬ (y11=true)→∃ y14:Bool,fq c1 y14∧((y14=true→r=true)∧(¬ (y14=true)→∃ y17:Bool,ft c1 y17∧r=y17))))
set_option maxHeartbeats 4000000 in
theorem DY ⦃c1: UInt8⦄ ⦃r: Bool⦄ (h: gB c1 r) : Cn Tryz.prog 129 [uv c1] [] [] (Ret (bv r)) := by
 refine al Tryz.func129 rfl rfl (by kernel_rfl) fun g hg=>?_;simp only [Tryz.ntmps129,av];refine z0_ xn h fun y11 h=>?_;refine is_ 5 h (fun h=>?_) fun h=>?_
 ·exact r_ h hg
 refine z0_ AD h fun y14 h=>?_;refine is_ 9 h (fun h=>?_) fun h=>?_
 ·exact r_ h hg
 refine z0_ AE h fun y17 h=>?_;exact r_ h hg
def gC (c1:UInt8) (r:Bool):Prop:=
 (((c1.toNat:Int)=32→r=true)∧(¬ ((c1.toNat:Int)=32)→r=(decide ((c1.toNat:Int)=9))))
set_option maxHeartbeats 4000000 in
theorem DZ ⦃c1: UInt8⦄ ⦃r: Bool⦄ (h: gC c1 r) : Cn Tryz.prog 130 [uv c1] [] [] (Ret (bv r)) := by
 refine al Tryz.func130 rfl rfl (by kernel_rfl) fun g hg=>?_;simp only [Tryz.ntmps130,av];refine is_ 5 h (fun h=>?_) fun h=>?_
 ·exact r_ h hg
 exact r_ h hg
def fu (c1:UInt8) (r:Bool):Prop:=
 ∃ y3:Bool,cV c1 (33:UInt8) (126:UInt8) y3∧r=y3
set_option maxHeartbeats 4000000 in
theorem AF ⦃c1: UInt8⦄ ⦃r: Bool⦄ (h: fu c1 r) : Cn Tryz.prog 132 [uv c1] [] [] (Ret (bv r)) := by
 refine al Tryz.func132 rfl rfl (by kernel_rfl) fun g hg=>?_;simp only [Tryz.ntmps132,av];refine z0_ rf h fun y3 h=>?_;exact r_ h hg
def jP (x1:ByteArray) (x2:UInt8) (r:Bool×Bool):Prop:=
 (((x1.toList==((⟨#[117,112,112,101,114]⟩:ByteArray)).toList)=true→∃ y102:Bool,fq x2 y102∧r=(y102,true))∧(¬ ((x1.toList==((⟨#[117,112,112,101,114]⟩:ByteArray)).toList)=true)→(((x1.toList==((⟨#[108,111,119,101,114]⟩:ByteArray)).toList)=true→∃ y106:Bool,ft x2 y106∧r=(y106,true))∧(¬ ((x1.toList==((⟨#[108,111,119,101,114]⟩:ByteArray)).toList)=true)→(((x1.toList==((⟨#[100,105,103,105,116]⟩:ByteArray)).toList)=true→∃ y110:Bool,ep x2 y110∧r=(y110,true))∧(¬ ((x1.toList==((⟨#[100,105,103,105,116]⟩:ByteArray)).toList)=true)→(((x1.toList==((⟨#[97,108,112,104,97]⟩:ByteArray)).toList)=true→∃ y119:Bool,fq x2 y119∧((y119=true→r=(true,true))∧(¬ (y119=true)→∃ y122:Bool,ft x2 y122∧r=(y122,true))))∧(¬ ((x1.toList==((⟨#[97,108,112,104,97]⟩:ByteArray)).toList)=true)→(((x1.toList==((⟨#[97,108,110,117,109]⟩:ByteArray)).toList)=true→∃ y126:Bool,gB x2 y126∧r=(y126,true))∧(¬ ((x1.toList==((⟨#[97,108,110,117,109]⟩:ByteArray)).toList)=true)→(((x1.toList==((⟨#[98,108,97,110,107]⟩:ByteArray)).toList)=true→∃ y130:Bool,gC x2 y130∧r=(y130,true))∧(¬ ((x1.toList==((⟨#[98,108,97,110,107]⟩:ByteArray)).toList)=true)→(((x1.toList==((⟨#[115,112,97,99,101]⟩:ByteArray)).toList)=true→∃ y139:Bool,gC x2 y139∧((y139=true→r=(true,true))∧(¬ (y139=true)→∃ y142:Bool,cV x2 (10:UInt8) (13:UInt8) y142∧r=(y142,true))))∧(¬ ((x1.toList==((⟨#[115,112,97,99,101]⟩:ByteArray)).toList)=true)→(((x1.toList==((⟨#[99,110,116,114,108]⟩:ByteArray)).toList)=true→(((x2.toNat:Int)<32→r=(true,true))∧(¬ ((x2.toNat:Int)<32)→r=((decide ((x2.toNat:Int)=127)),true))))∧(¬ ((x1.toList==((⟨#[99,110,116,114,108]⟩:ByteArray)).toList)=true)→(((x1.toList==((⟨#[103,114,97,112,104]⟩:ByteArray)).toList)=true→∃ y154:Bool,fu x2 y154∧r=(y154,true))∧(¬ ((x1.toList==((⟨#[103,114,97,112,104]⟩:ByteArray)).toList)=true)→(((x1.toList==((⟨#[112,114,105,110,116]⟩:ByteArray)).toList)=true→∃ y162:Bool,fu x2 y162∧((y162=true→r=(true,true))∧(¬ (y162=true)→r=((decide ((x2.toNat:Int)=32)),true))))∧(¬ ((x1.toList==((⟨#[112,114,105,110,116]⟩:ByteArray)).toList)=true)→(((x1.toList==((⟨#[112,117,110,99,116]⟩:ByteArray)).toList)=true→∃ y173:Bool,fu x2 y173∧((y173=true→∃ y176:Bool,gB x2 y176∧r=((!y176),true))∧(¬ (y173=true)→r=(false,true))))∧(¬ ((x1.toList==((⟨#[112,117,110,99,116]⟩:ByteArray)).toList)=true)→(((x1.toList==((⟨#[120,100,105,103,105,116]⟩:ByteArray)).toList)=true→∃ y188:Bool,ep x2 y188∧((y188=true→r=(true,true))∧(¬ (y188=true)→∃ y191:Bool,cV x2 (65:UInt8) (70:UInt8) y191∧((y191=true→r=(true,true))∧(¬ (y191=true)→∃ y194:Bool,cV x2 (97:UInt8) (102:UInt8) y194∧r=(y194,true))))))∧(¬ ((x1.toList==((⟨#[120,100,105,103,105,116]⟩:ByteArray)).toList)=true)→r=(false,false)))))))))))))))))))))))))
set_option maxHeartbeats 4000000 in
theorem AG ⦃x1: ByteArray⦄ ⦃x2: UInt8⦄ ⦃r: Bool × Bool⦄ (h: jP x1 x2 r) : Cn Tryz.prog 108 [.v (.string x1), uv x2] [] [] fun rr bx tk=>rr=.tup [bv r.1, bv r.2] ∧ bx=[] ∧ tk=[] := by
 refine al Tryz.func108 rfl rfl (by kernel_rfl) fun g hg=>?_;simp only [Tryz.ntmps108,av];refine i_ h (fun h=>?_) fun h=>?_
 ·refine z0_ AD h fun y102 h=>?_;exact r_ h hg
 refine i_ h (fun h=>?_) fun h=>?_
 ·refine z0_ AE h fun y106 h=>?_;exact r_ h hg
 refine i_ h (fun h=>?_) fun h=>?_
 ·refine z0_ xn h fun y110 h=>?_;exact r_ h hg
 refine i_ h (fun h=>?_) fun h=>?_
 ·refine z0_ AD h fun y119 h=>?_;refine is_ 23 h (fun h=>?_) fun h=>?_
  ·exact r_ h hg
  refine z0_ AE h fun y122 h=>?_;exact r_ h hg
 refine i_ h (fun h=>?_) fun h=>?_
 ·refine z0_ DY h fun y126 h=>?_;exact r_ h hg
 refine i_ h (fun h=>?_) fun h=>?_
 ·refine z0_ DZ h fun y130 h=>?_;exact r_ h hg
 refine i_ h (fun h=>?_) fun h=>?_
 ·refine z0_ DZ h fun y139 h=>?_;refine is_ 39 h (fun h=>?_) fun h=>?_
  ·exact r_ h hg
  refine z0_ rf h fun y142 h=>?_;exact r_ h hg
 refine i_ h (fun h=>?_) fun h=>?_
 ·refine is_ 47 h (fun h=>?_) fun h=>?_
  ·exact r_ h hg
  exact r_ h hg
 refine i_ h (fun h=>?_) fun h=>?_
 ·refine z0_ AF h fun y154 h=>?_;exact r_ h hg
 refine i_ h (fun h=>?_) fun h=>?_
 ·refine z0_ AF h fun y162 h=>?_;refine is_ 59 h (fun h=>?_) fun h=>?_
  ·exact r_ h hg
  exact r_ h hg
 refine i_ h (fun h=>?_) fun h=>?_
 ·refine z0_ AF h fun y173 h=>?_;refine is_ 67 h (fun h=>?_) fun h=>?_
  ·refine z0_ DY h fun y176 h=>?_;exact r_ h hg
  exact r_ h hg
 refine i_ h (fun h=>?_) fun h=>?_
 ·refine z0_ xn h fun y188 h=>?_;refine is_ 76 h (fun h=>?_) fun h=>?_
  ·exact r_ h hg
  refine z0_ rf h fun y191 h=>?_;refine is_ 80 h (fun h=>?_) fun h=>?_
  ·exact r_ h hg
  refine z0_ rf h fun y194 h=>?_;exact r_ h hg
 exact r_ h hg
def ms (o1:T0t×(List UInt8)×Int×Int×T5t) (sv3:Arr 4 (UInt64)) (r:Int×T1t):Prop:=
 ∃ y5:Int×T1t,bC o1 (1,0,0,0,0,0,sv3) y5∧r=(y5.1,y5.2)
set_option maxHeartbeats 4000000 in
theorem FY ⦃o1: T0t × (List UInt8) × Int × Int × T5t⦄ ⦃sv3: Arr 4 (UInt64)⦄ ⦃r: Int × T1t⦄ (h: ms o1 sv3 r) (bx0: Nat) (ia2: Option (Nat × Nat)) : Cn Tryz.prog 89 [pw bx0, .agg ((List.map ew sv3.l).flatten)] [⟨bx0, 59, ([.sl 10 (some ia2) (List.map aa o1.1.1), iv o1.1.2, sb o1.2.1, iv o1.2.2.1, iv o1.2.2.2.1] ++ (List.map eB o1.2.2.2.2.l).flatten)⟩] [⟨ia2, 43, 10, o1.1.1.length⟩] fun rr bx tk=>∃ j1, rr=iv r.1 ∧ bx=[⟨bx0, 59, ([.sl 10 (some j1) (List.map aa r.2.1.1), iv r.2.1.2, sb r.2.2.1, iv r.2.2.2.1, iv r.2.2.2.2.1] ++ (List.map eB r.2.2.2.2.2.l).flatten)⟩] ∧ tk=[⟨j1, 43, 10, r.2.1.1.length⟩] := by
 refine al Tryz.func89 rfl rfl (by kernel_rfl) fun g hg=>?_;simp only [Tryz.ntmps89,av];refine wn_ 2 h fun h=>?_;refine cK rfl rfl rfl rfl fun b3 => ?_;refine wn_ 6 h fun h=>?_;refine v_ (an 0 [] ((List.map ew sv3.l).flatten) [] sq_ sl_ sl_ (aq (aE (by rfl))) ae.h rfl rfl) ?_;refine vp_ (aw (cs := ([iv 1, iv 0, iv 0, iv 0, iv 0, iv 0] ++ (List.map ew sv3.l).flatten)) aQ.h rfl (by refine ao [] [iv 0] ([iv 0, iv 0, iv 0, iv 0, iv 0] ++ (List.map ew ((Arr.rep 4 (0 : UInt64))).l).flatten) sq_ sl_ sl_ sl_ rfl rfl ?_; refine ao [iv 1, iv 0, iv 0, iv 0, iv 0, iv 0] ((List.map ew ((Arr.rep 4 (0 : UInt64))).l).flatten) [] sq_ sl_ sl_ sl_ rfl rfl ?_; exact congrArg some sq_)) ?_
 refine c1_ pH h fun y5 i6 h=>?_;exact r_ h hg
def eS (o1:T0t×(List UInt8)×Int×Int×T5t) (nv3:Int) (sv4:Arr 4 (UInt64)) (r:Int×T1t):Prop:=
 InR (o1.2.2.1+nv3)∧∃ y13:Int×T1t,ms (o1.1,o1.2.1,(o1.2.2.1+nv3),o1.2.2.2.1,o1.2.2.2.2) sv4 y13∧∃ y16:Int×T1t,bS y13.2 y13.1 y16∧r=(y16.1,y16.2)
set_option maxHeartbeats 4000000 in
theorem xo ⦃o1: T0t × (List UInt8) × Int × Int × T5t⦄ ⦃nv3: Int⦄ ⦃sv4: Arr 4 (UInt64)⦄ ⦃r: Int × T1t⦄ (h: eS o1 nv3 sv4 r) (bx0: Nat) (ia2: Option (Nat × Nat)) : Cn Tryz.prog 106 [pw bx0, iv nv3, .agg ((List.map ew sv4.l).flatten)] [⟨bx0, 59, ([.sl 10 (some ia2) (List.map aa o1.1.1), iv o1.1.2, sb o1.2.1, iv o1.2.2.1, iv o1.2.2.2.1] ++ (List.map eB o1.2.2.2.2.l).flatten)⟩] [⟨ia2, 43, 10, o1.1.1.length⟩] fun rr bx tk=>∃ j1, rr=iv r.1 ∧ bx=[⟨bx0, 59, ([.sl 10 (some j1) (List.map aa r.2.1.1), iv r.2.1.2, sb r.2.2.1, iv r.2.2.2.1, iv r.2.2.2.2.1] ++ (List.map eB r.2.2.2.2.2.l).flatten)⟩] ∧ tk=[⟨j1, 43, 10, r.2.1.1.length⟩] := by
 refine al Tryz.func106 rfl rfl (by kernel_rfl) fun g hg=>?_;simp only [Tryz.ntmps106,av];refine wn_ 2 h fun h=>?_;refine cK rfl rfl rfl rfl fun b5 => ?_;refine wn_ 17 h fun h=>?_;refine az (m := 8) (by kernel_rfl) rfl ?_;obtain ⟨y13, h12, h⟩ := h;obtain ⟨y16, h15, h⟩ := h;refine o_ [0,1,2,3] ?_;refine en 4 [] rfl (an 0 [] ((List.map ew sv4.l).flatten) [] sq_ sl_ sl_ (aq (aE (by rfl))) ae.h rfl rfl) rfl rfl (by kernel_rfl) (by kernel_rfl) (by kernel_rfl) (fun _ _ _ _ h => h) ?_
 refine aG (i := 5) (by kernel_rfl) rfl ?_;refine rx FY h12 fun i14=>?_;refine aG (i := 6) (by kernel_rfl) rfl ?_;refine rx oN h15 fun i17=>?_;refine o_ [7] ?_;refine aB (by kernel_rfl) ?_;exact r_ h hg
def iK (o1:T0t×(List UInt8)×Int×Int×T5t) (x121:UInt8) (r:Int×T1t):Prop:=
 ∃ y125:T7t,gA ([x121]) y125∧∃ y127:Int×T1t,eS o1 2 y125 y127∧r=(y127.1,y127.2)
def kR (o1:T0t×(List UInt8)×Int×Int×T5t) (y27:UInt8) (x112:Bool) (r:Int×T1t):Prop:=
 ((x112=true→∃ y117:Int×T1t,bg o1 10 y117∧r=(y117.1,y117.2))∧(¬ (x112=true)→(((y27.toNat:Int)=110→iK o1 (10:UInt8) r)∧(¬ ((y27.toNat:Int)=110)→iK o1 y27 r))))
def kS (y27:UInt8) (o1:T0t×(List UInt8)×Int×Int×T5t) (x66:Bool) (r:Int×T1t):Prop:=
 ((x66=true→∃ c80:UInt8,(c80.toNat:Int)=IntKind.u8.wrap ((y27.toNat:Int) - 48)∧(0≤((c80.toNat:Int):Int)∧((c80.toNat:Int):Int)<10)∧∃ y82:Bool,o1.2.2.2.2.l[((c80.toNat:Int):Int).toNat]? =some y82∧((¬ (y82=true)→∃ y85:Int×T1t,bg o1 16 y85∧r=(y85.1,y85.2))∧(¬ (¬ (y82=true))→InR (o1.2.2.1+2)∧∃ c89:UInt8,(c89.toNat:Int)=IntKind.u8.wrap ((y27.toNat:Int) - 48)∧∃ y92:Int×T1t,lw (o1.1,o1.2.1,(o1.2.2.1+2),o1.2.2.2.1,o1.2.2.2.2) (c89.toNat:Int) y92∧∃ y95:Int×T1t,bS y92.2 y92.1 y95∧r=(y95.1,y95.2))))∧(¬ (x66=true)→∃ y109:Bool×Bool,jP (⟨#[97,108,110,117,109]⟩:ByteArray) y27 y109∧kR o1 y27 (y109.1 && (!(decide ((y27.toNat:Int)=110)))) r))
def jh (o1:T0t×(List UInt8)×Int×Int×T5t) (r:Int×T1t):Prop:=
 InR (o1.2.2.1+1)∧(((o1.2.2.1+1)=(o1.2.1.length:Int)→∃ y21:Int×T1t,bg o1 10 y21∧r=(y21.1,y21.2))∧(¬ ((o1.2.2.1+1)=(o1.2.1.length:Int))→InR (o1.2.2.1+1)∧0≤((o1.2.2.1+1):Int)∧∃ y27:UInt8,o1.2.1[((o1.2.2.1+1):Int).toNat]? =some y27∧kS y27 o1 ((decide (49≤(y27.toNat:Int))) && (decide ((y27.toNat:Int)≤57))) r))
set_option maxHeartbeats 4000000 in
theorem FZ ⦃o1: T0t × (List UInt8) × Int × Int × T5t⦄ ⦃r: Int × T1t⦄ (h: jh o1 r) (bx0: Nat) (ia2: Option (Nat × Nat)) : Cn Tryz.prog 105 [pw bx0] [⟨bx0, 59, ([.sl 10 (some ia2) (List.map aa o1.1.1), iv o1.1.2, sb o1.2.1, iv o1.2.2.1, iv o1.2.2.2.1] ++ (List.map eB o1.2.2.2.2.l).flatten)⟩] [⟨ia2, 43, 10, o1.1.1.length⟩] fun rr bx tk=>∃ j1, rr=iv r.1 ∧ bx=[⟨bx0, 59, ([.sl 10 (some j1) (List.map aa r.2.1.1), iv r.2.1.2, sb r.2.2.1, iv r.2.2.2.1, iv r.2.2.2.2.1] ++ (List.map eB r.2.2.2.2.2.l).flatten)⟩] ∧ tk=[⟨j1, 43, 10, r.2.1.1.length⟩] := by
 refine al Tryz.func105 rfl rfl (by kernel_rfl) fun g hg=>?_;simp only [Tryz.ntmps105,av];refine wn_ 7 h fun h=>?_;refine az (m := 11) (by kernel_rfl) rfl ?_;obtain ⟨h16, h⟩ := h;refine o_ [0,1,2,5,6,7,3,4,8,9,10] ?_;refine aB (by kernel_rfl) ?_;refine i_ h (fun h=>?_) fun h=>?_
 ·refine c1_ lO h fun y21 i22 h=>?_;exact r_ h hg
 refine wn_ 3 h fun h=>?_;refine az (m := 12) (by kernel_rfl) rfl ?_;obtain ⟨h26, h⟩ := h;obtain ⟨h28a, h⟩ := h;obtain ⟨y27, h28b, h⟩ := h;refine o_ [0,1,2,4,5,6,7,8,3] ?_;refine pl_ 9 rfl (aJ h28a h28b ai.h ae.h rfl rfl) ?_;refine o_ [10,11] ?_;refine aB (by kernel_rfl) ?_;refine wn_ 2 h fun h=>?_;refine ax (fun σ=>∃ x66, kS y27 o1 x66 r ∧ σ=⟨[(0, pw bx0), (3, uv y27), (35, bv x66)], [⟨bx0, 59, ([.sl 10 (some ia2) (List.map aa o1.1.1), iv o1.1.2, sb o1.2.1, iv o1.2.2.1, iv o1.2.2.2.1] ++ (List.map eB o1.2.2.2.2.l).flatten)⟩], [⟨ia2, 43, 10, o1.1.1.length⟩]⟩) ?_ ?_
 ·refine ks_ 32 h (fun h=>?_) fun h=>?_
  ·exact m_ h
  exact m_ h
 rintro _ ⟨x66,h,rfl⟩;refine i_ h (fun h=>?_) fun h=>?_
 ·refine wn_ 5 h fun h=>?_;obtain ⟨c80, h79, h⟩ := h;refine vp_ (fe h79 rfl rfl rfl) ?_;refine wn_ 2 h fun h=>?_;obtain ⟨h81, h⟩ := h;obtain ⟨y82, h81b, h⟩ := h;refine vp_ (aA h81 ai.h ae.h rfl rfl) ?_;refine v_ (dH (f := eB) (a := o1.2.2.2.2) (k := 1) (off := 0) (i := ((c80.toNat : Int) : Int).toNat) 0 [.sl 10 (some ia2) (List.map aa o1.1.1), iv o1.1.2, sb o1.2.1, iv o1.2.2.1, iv o1.2.2.2.1] [] h81b sq_ so_ (by decide) rfl ae.h rfl rfl) ?_
  refine i_ h (fun h=>?_) fun h=>?_
  ·refine c1_ lO h fun y85 i86 h=>?_;exact r_ h hg
  refine wn_ 21 h fun h=>?_;obtain ⟨c89, h88, h⟩ := h;refine vp_ (fe h88 rfl rfl rfl) ?_;refine c1_ FX h fun y92 i93 h=>?_;refine c1_ oN h fun y95 i96 h=>?_;exact r_ h hg
 refine z0_ AG h fun y109 h=>?_;refine wn_ 7 h fun h=>?_;refine ax (fun σ=>∃ x112, kR o1 y27 x112 r ∧ σ=⟨[(0, pw bx0), (3, uv y27), (71, bv x112)], [⟨bx0, 59, ([.sl 10 (some ia2) (List.map aa o1.1.1), iv o1.1.2, sb o1.2.1, iv o1.2.2.1, iv o1.2.2.2.1] ++ (List.map eB o1.2.2.2.2.l).flatten)⟩], [⟨ia2, 43, 10, o1.1.1.length⟩]⟩) ?_ ?_
 ·refine ks_ 68 h (fun h=>?_) fun h=>?_
  ·exact m_ h
  exact m_ h
 rintro _ ⟨x112,h,rfl⟩;refine i_ h (fun h=>?_) fun h=>?_
 ·refine c1_ lO h fun y117 i118 h=>?_;exact r_ h hg
 refine wn_ 2 h fun h=>?_;refine ax (fun σ=>∃ x121, iK o1 x121 r ∧ σ=⟨[(0, pw bx0), (3, uv x121)], [⟨bx0, 59, ([.sl 10 (some ia2) (List.map aa o1.1.1), iv o1.1.2, sb o1.2.1, iv o1.2.2.1, iv o1.2.2.2.1] ++ (List.map eB o1.2.2.2.2.l).flatten)⟩], [⟨ia2, 43, 10, o1.1.1.length⟩]⟩) ?_ ?_
 ·refine i_ h (fun h=>?_) fun h=>?_
  ·exact m_ h
  exact m_ h
 rintro _ ⟨x121,h,rfl⟩;refine wn_ 4 h fun h=>?_;refine aM (f := eb) [x121] ai.h ar.h rfl rfl wr_ rfl rfl rfl rfl fun s78 => ?_;refine z0_ s6 h fun y125 h=>?_;refine c1_ xo h fun y127 i128 h=>?_;exact r_ h hg
def n5 (name1:ByteArray) (ag1:(Int×T7t)→Prop) (x112:Int) (f113:Arr 4 (UInt64)) (r:T7t×Bool):Prop:=
 ((x112<256→∃ c156:UInt8,(c156.toNat:Int)=IntKind.u8.wrap x112∧∃ y158:Bool×Bool,jP name1 c156 y158∧((¬ (y158.2=true)→r=((Arr.rep 4 (0:UInt64)),false))∧(¬ (¬ (y158.2=true))→((y158.1=true→∃ c163:UInt8,(c163.toNat:Int)=IntKind.u8.wrap x112∧∃ y165:T7t,ib f113 c163 y165∧InR (x112+1)∧ag1 ((x112+1),y165))∧(¬ (y158.1=true)→InR (x112+1)∧ag1 ((x112+1),f113))))))∧(¬ (x112<256)→r=(f113,true)))
def mI (name1:ByteArray) (r:T7t×Bool):Prop:=
 ba (fun ag1 s=>n5 name1 ag1 s.1 s.2 r) (0,(Arr.rep 4 (0:UInt64)))
set_option maxHeartbeats 4000000 in
theorem F0 ⦃name1: ByteArray⦄ ⦃r: T7t × Bool⦄ (h: mI name1 r) : Cn Tryz.prog 146 [.v (.string name1)] [] [] fun rr bx tk=>rr=.tup [.agg ((List.map ew r.1.l).flatten), bv r.2] ∧ bx=[] ∧ tk=[] := by
 refine al Tryz.func146 rfl rfl (by kernel_rfl) fun g hg=>?_;simp only [Tryz.ntmps146,av];refine wn_ 2 h fun h=>?_;refine aN ar.h rfl rfl fun b2 => ?_;refine bA 0 ((List.map ew ((Arr.rep 4 (0 : UInt64))).l).flatten) rfl rfl ?_;refine wn_ 5 h fun h=>?_;refine aN ar.h rfl rfl fun b4 => ?_;refine bA 0 ((List.map ew ((Arr.rep 4 (0 : UInt64))).l).flatten) rfl rfl ?_;refine wn_ 9 h fun h=>?_
 obtain ⟨Inv,⟨m0,hI⟩,hS⟩ := lq_ h;refine lp_ hI (fun σ m=>∃ x112 f113, Inv (x112, f113) m ∧ σ=⟨[(0, .v (.string name1)), (2, pw b2), (4, pw b4), (8, iv x112)], [⟨b4, 41, ((List.map ew f113.l).flatten)⟩, ⟨b2, 41, ((List.map ew ((Arr.rep 4 (0 : UInt64))).l).flatten)⟩], []⟩) ?_;rintro _ m ⟨x112,f113,hI,rfl⟩;obtain ⟨ag1,hag1,h⟩ := cu hS hI
 refine i_ h (fun h=>?_) fun h=>?_
 ·refine wn_ 14 h fun h=>?_;obtain ⟨c156, h155, h⟩ := h;refine vp_ (eU h155 ai.h ai.h rfl) ?_;refine z0_ AG h fun y158 h=>?_;refine i_ h (fun h=>?_) fun h=>?_
  ·refine wn_ 2 h fun h=>?_;refine vp_ (bX (cs := ((List.map ew ((Arr.rep 4 (0 : UInt64))).l).flatten)) ai.h ae.h ar.h rfl (by rfl)) ?_;refine aC 1 [] ((List.map ew ((Arr.rep 4 (0 : UInt64))).l).flatten) [] ((List.map ew ((Arr.rep 4 (0 : UInt64))).l).flatten) ae.h rfl rfl rfl rfl rfl ?_;exact rl_ h hg
  refine i_ h (fun h=>?_) fun h=>?_
  ·refine nY ?_;refine v_ (an 0 [] ((List.map ew f113.l).flatten) [] sq_ sl_ sl_ (aq (aE (by rfl))) ae.h rfl rfl) ?_;refine mv_ ?_;obtain ⟨c163, h162, h⟩ := h;refine vp_ (eU h162 ai.h ai.h rfl) ?_;refine z0_ AB h fun y165 h=>?_;refine aC 0 [] ((List.map ew f113.l).flatten) [] ((List.map ew y165.l).flatten) ae.h rfl rfl rfl rfl rfl ?_;exact g_ h hag1
  exact g_ h hag1
 refine wn_ 7 h fun h=>?_;refine v_ (an 0 [] ((List.map ew f113.l).flatten) [] sq_ sl_ sl_ (aq (aE (by rfl))) ae.h rfl rfl) ?_;refine aC 1 [] ((List.map ew ((Arr.rep 4 (0 : UInt64))).l).flatten) [] ((List.map ew f113.l).flatten) ae.h rfl rfl rfl rfl rfl ?_;exact rl_ h hg
def mJ (bv1:List UInt8) (atv2:Int) (r:mE×Int):Prop:=
 InR (atv2+1)∧0≤((atv2+1):Int)∧∃ y4:UInt8,bv1[((atv2+1):Int).toNat]? =some y4∧InR (atv2+2)∧(0≤((atv2+2):Int)∧((atv2+2):Int)≤(bv1.length:Int))∧∃ y9:Int,ph (bv1.drop ((atv2+2):Int).toNat) ([y4,(93:UInt8)]) y9∧((y9<0→r=(((0:UInt8),(Arr.rep 4 (0:UInt64)),false,0),11))∧(¬ (y9<0)→InR (atv2+2)∧InR (atv2+2)∧InR ((atv2+2)+y9)∧(0≤((atv2+2):Int)∧((atv2+2):Int)≤(((atv2+2)+y9):Int)∧(((atv2+2)+y9):Int)≤(bv1.length:Int))∧InR (atv2+y9)∧InR ((atv2+y9)+4)∧(((y4.toNat:Int)=58→∃ y31:T7t×Bool,mI (⟨(((bv1.take (((atv2+2)+y9):Int).toNat).drop ((atv2+2):Int).toNat)).toArray⟩:ByteArray) y31∧((¬ (y31.2=true)→r=(((0:UInt8),(Arr.rep 4 (0:UInt64)),false,0),12))∧(¬ (¬ (y31.2=true))→r=(((0:UInt8),y31.1,true,((atv2+y9)+4)),0))))∧(¬ ((y4.toNat:Int)=58)→((¬ (((((bv1.take (((atv2+2)+y9):Int).toNat).drop ((atv2+2):Int).toNat)).length:Int)=1)→r=(((0:UInt8),(Arr.rep 4 (0:UInt64)),false,0),12))∧(¬ (¬ (((((bv1.take (((atv2+2)+y9):Int).toNat).drop ((atv2+2):Int).toNat)).length:Int)=1))→0≤(0:Int)∧∃ y40:UInt8,(((bv1.take (((atv2+2)+y9):Int).toNat).drop ((atv2+2):Int).toNat))[(0:Int).toNat]? =some y40∧r=((y40,(Arr.rep 4 (0:UInt64)),false,((atv2+y9)+4)),0)))))))
set_option maxHeartbeats 4000000 in
theorem F1 ⦃bv1: List UInt8⦄ ⦃atv2: Int⦄ ⦃r: mE × Int⦄ (h: mJ bv1 atv2 r) : Cn Tryz.prog 142 [sb bv1, iv atv2] [] [] fun rr bx tk=>rr=.tup [.agg ([uv r.1.1] ++ ((List.map ew r.1.2.1.l).flatten ++ [bv r.1.2.2.1, iv r.1.2.2.2])), iv r.2] ∧ bx=[] ∧ tk=[] := by
 refine al Tryz.func142 rfl rfl (by kernel_rfl) fun g hg=>?_;simp only [Tryz.ntmps142,av];refine wn_ 2 h fun h=>?_;refine aN ar.h rfl rfl fun b4 => ?_;refine bA 0 ([.v (.int .u8 0)] ++ ((List.map ew ((Arr.rep 4 (0 : UInt64))).l).flatten ++ [bv false, iv 0])) rfl rfl ?_;refine x_ h fun y4 h=>?_;refine wn_ 11 h fun h=>?_;refine aM (f := eb) [y4, (93 : UInt8)] ai.h ar.h rfl rfl wr_ rfl rfl rfl rfl fun s22 => ?_
 obtain ⟨y9, h8, h⟩ := h;refine uO (se (bv1.drop ((atv2 + 2) : Int).toNat) ([y4, (93 : UInt8)]) _ h8) Tryz.func145 (by kernel_rfl) rfl (.cons rfl (.refl _) (.cons rfl (.tok _ _ _) .nil)) rfl rfl ?_;refine i_ h (fun h=>?_) fun h=>?_
 ·refine wn_ 2 h fun h=>?_;refine vp_ (aw (cs := ([.v (.int .u8 0)] ++ ((List.map ew ((Arr.rep 4 (0 : UInt64))).l).flatten ++ [bv false, iv 0]))) aQ.h rfl (by exact congrArg some sq_)) ?_;refine aC 0 [] ([.v (.int .u8 0)] ++ ((List.map ew ((Arr.rep 4 (0 : UInt64))).l).flatten ++ [bv false, iv 0])) [] ([.v (.int .u8 0)] ++ ((List.map ew ((Arr.rep 4 (0 : UInt64))).l).flatten ++ [bv false, iv 0])) ae.h rfl rfl rfl rfl rfl ?_
  exact rl_ h hg
 refine wn_ 21 h fun h=>?_;refine vp_ (aw (cs := ([.v (.int .u8 0)] ++ ((List.map ew ((Arr.rep 4 (0 : UInt64))).l).flatten ++ [bv false, iv (((atv2 + y9) + 4))]))) aQ.h rfl (by refine ao ([.v (.int .u8 0)] ++ ((List.map ew ((Arr.rep 4 (0 : UInt64))).l).flatten ++ [bv false])) [iv 0] [] sq_ sl_ sl_ sl_ rfl rfl ?_; exact congrArg some sq_)) ?_;refine aN ar.h rfl rfl fun b9 => ?_
 refine bA 0 ([.v (.int .u8 0)] ++ ((List.map ew ((Arr.rep 4 (0 : UInt64))).l).flatten ++ [bv false, iv 0])) rfl rfl ?_;refine aC 0 [] ([.v (.int .u8 0)] ++ ((List.map ew ((Arr.rep 4 (0 : UInt64))).l).flatten ++ [bv false, iv 0])) [] ([.v (.int .u8 0)] ++ ((List.map ew ((Arr.rep 4 (0 : UInt64))).l).flatten ++ [bv false, iv (((atv2 + y9) + 4))])) ae.h rfl rfl rfl rfl rfl ?_
 refine i_ h (fun h=>?_) fun h=>?_
 ·refine wn_ 3 h fun h=>?_;refine v_ (oy (bs := ((bv1.take (((atv2 + 2) + y9) : Int).toNat).drop ((atv2 + 2) : Int).toNat)) ai.h ai.h ai.h rfl rfl rfl (fun _ h => by injection h with h; exact h.symm)) ?_;refine z0_ F0 h fun y31 h=>?_;refine wn_ 3 h fun h=>?_;refine aN ar.h rfl rfl fun b10 => ?_;refine bA 0 ((List.map ew ((Arr.rep 4 (0 : UInt64))).l).flatten) rfl rfl ?_
  refine aC 0 [] ((List.map ew ((Arr.rep 4 (0 : UInt64))).l).flatten) [] ((List.map ew y31.1.l).flatten) ae.h rfl rfl rfl rfl rfl ?_;refine i_ h (fun h=>?_) fun h=>?_
  ·refine wn_ 2 h fun h=>?_;refine vp_ (aw (cs := ([.v (.int .u8 0)] ++ ((List.map ew ((Arr.rep 4 (0 : UInt64))).l).flatten ++ [bv false, iv 0]))) aQ.h rfl (by exact congrArg some sq_)) ?_;refine aC 2 [] ([.v (.int .u8 0)] ++ ((List.map ew ((Arr.rep 4 (0 : UInt64))).l).flatten ++ [bv false, iv 0])) [] ([.v (.int .u8 0)] ++ ((List.map ew ((Arr.rep 4 (0 : UInt64))).l).flatten ++ [bv false, iv 0])) ae.h rfl rfl rfl rfl rfl ?_
   exact rl_ h hg
  refine wn_ 4 h fun h=>?_;refine v_ (an 0 [] ((List.map ew y31.1.l).flatten) [] sq_ sl_ sl_ (aq (aE (by rfl))) ae.h rfl rfl) ?_;refine vp_ (cd bE.h rfl) ?_;refine aC 1 [.v (.int .u8 0)] ((List.map ew ((Arr.rep 4 (0 : UInt64))).l).flatten) [bv false, iv (((atv2 + y9) + 4))] ([.v (.int .u8 0)] ++ ((List.map ew y31.1.l).flatten ++ [bv false, iv (((atv2 + y9) + 4))])) ae.h rfl rfl rfl rfl rfl ?_
  refine vp_ (cd bE.h rfl) ?_;refine aC 1 ([.v (.int .u8 0)] ++ (List.map ew y31.1.l).flatten) [bv false] [iv (((atv2 + y9) + 4))] ([.v (.int .u8 0)] ++ ((List.map ew y31.1.l).flatten ++ [bv true, iv (((atv2 + y9) + 4))])) ae.h rfl rfl rfl rfl rfl ?_;refine wn_ 4 h fun h=>?_;refine v_ (an 1 [] ([.v (.int .u8 0)] ++ ((List.map ew y31.1.l).flatten ++ [bv true, iv (((atv2 + y9) + 4))])) [] sq_ sl_ sl_ (aq sl_) ae.h rfl rfl) ?_
  refine aC 2 [] ([.v (.int .u8 0)] ++ ((List.map ew ((Arr.rep 4 (0 : UInt64))).l).flatten ++ [bv false, iv 0])) [] ([.v (.int .u8 0)] ++ ((List.map ew y31.1.l).flatten ++ [bv true, iv (((atv2 + y9) + 4))])) ae.h rfl rfl rfl rfl rfl ?_;exact rl_ h hg
 refine i_ h (fun h=>?_) fun h=>?_
 ·refine wn_ 2 h fun h=>?_;refine vp_ (aw (cs := ([.v (.int .u8 0)] ++ ((List.map ew ((Arr.rep 4 (0 : UInt64))).l).flatten ++ [bv false, iv 0]))) aQ.h rfl (by exact congrArg some sq_)) ?_;refine aC 1 [] ([.v (.int .u8 0)] ++ ((List.map ew ((Arr.rep 4 (0 : UInt64))).l).flatten ++ [bv false, iv 0])) [] ([.v (.int .u8 0)] ++ ((List.map ew ((Arr.rep 4 (0 : UInt64))).l).flatten ++ [bv false, iv 0])) ae.h rfl rfl rfl rfl rfl ?_
  exact rl_ h hg
 refine x_ h fun y40 h=>?_;refine wn_ 7 h fun h=>?_;refine v_ (an 0 [] ([uv y40] ++ ((List.map ew ((Arr.rep 4 (0 : UInt64))).l).flatten ++ [bv false, iv (((atv2 + y9) + 4))])) [] sq_ sl_ sl_ (aq sl_) ae.h rfl rfl) ?_;refine aC 1 [] ([.v (.int .u8 0)] ++ ((List.map ew ((Arr.rep 4 (0 : UInt64))).l).flatten ++ [bv false, iv 0])) [] ([uv y40] ++ ((List.map ew ((Arr.rep 4 (0 : UInt64))).l).flatten ++ [bv false, iv (((atv2 + y9) + 4))])) ae.h rfl rfl rfl rfl rfl ?_
 exact rl_ h hg
def pf (x2:Int) (x1:List UInt8) (x86:Bool) (r:mE×Int):Prop:=
 ((x86=true→InR (x2+2)∧r=(((10:UInt8),(Arr.rep 4 (0:UInt64)),false,(x2+2)),0))∧(¬ (x86=true)→0≤(x2:Int)∧∃ y94:UInt8,x1[(x2:Int).toNat]? =some y94∧InR (x2+1)∧r=((y94,(Arr.rep 4 (0:UInt64)),false,(x2+1)),0)))
def pg (x1:List UInt8) (x2:Int) (x16:UInt8) (x68:Bool) (r:mE×Int):Prop:=
 ((x68=true→∃ y80:mE×Int,mJ x1 x2 y80∧r=(y80.1,y80.2))∧(¬ (x68=true)→0≤(x2:Int)∧∃ y87:UInt8,x1[(x2:Int).toNat]? =some y87∧pf x2 x1 ((decide ((y87.toNat:Int)=92)) && (decide ((x16.toNat:Int)=110))) r))
def gu (x2:Int) (x1:List UInt8) (x16:UInt8) (r:mE×Int):Prop:=
 0≤(x2:Int)∧∃ y69:UInt8,x1[(x2:Int).toNat]? =some y69∧pg x1 x2 x16 ((decide ((y69.toNat:Int)=91)) && ((decide ((x16.toNat:Int)=58)) || ((decide ((x16.toNat:Int)=46)) || (decide ((x16.toNat:Int)=61))))) r
def jy (x1:List UInt8) (x2:Int) (r:mE×Int):Prop:=
 (((x1.length:Int)≤x2→r=(((0:UInt8),(Arr.rep 4 (0:UInt64)),false,0),11))∧(¬ ((x1.length:Int)≤x2)→InR (x2+1)∧(((x2+1)<(x1.length:Int)→InR (x2+1)∧0≤((x2+1):Int)∧∃ y22:UInt8,x1[((x2+1):Int).toNat]? =some y22∧gu x2 x1 y22 r)∧(¬ ((x2+1)<(x1.length:Int))→gu x2 x1 (0:UInt8) r))))
set_option maxHeartbeats 4000000 in
theorem D0 ⦃x1: List UInt8⦄ ⦃x2: Int⦄ ⦃r: mE × Int⦄ (h: jy x1 x2 r) : Cn Tryz.prog 133 [sb x1, iv x2] [] [] fun rr bx tk=>rr=.tup [.agg ([uv r.1.1] ++ ((List.map ew r.1.2.1.l).flatten ++ [bv r.1.2.2.1, iv r.1.2.2.2])), iv r.2] ∧ bx=[] ∧ tk=[] := by
 refine al Tryz.func133 rfl rfl (by kernel_rfl) fun g hg=>?_;simp only [Tryz.ntmps133,av];refine wn_ 2 h fun h=>?_;refine aN ar.h rfl rfl fun b4 => ?_;refine bA 0 ([.v (.int .u8 0)] ++ ((List.map ew ((Arr.rep 4 (0 : UInt64))).l).flatten ++ [bv false, iv 0])) rfl rfl ?_;refine i_ h (fun h=>?_) fun h=>?_
 ·refine wn_ 2 h fun h=>?_;refine vp_ (aw (cs := ([.v (.int .u8 0)] ++ ((List.map ew ((Arr.rep 4 (0 : UInt64))).l).flatten ++ [bv false, iv 0]))) aQ.h rfl (by exact congrArg some sq_)) ?_;refine aC 0 [] ([.v (.int .u8 0)] ++ ((List.map ew ((Arr.rep 4 (0 : UInt64))).l).flatten ++ [bv false, iv 0])) [] ([.v (.int .u8 0)] ++ ((List.map ew ((Arr.rep 4 (0 : UInt64))).l).flatten ++ [bv false, iv 0])) ae.h rfl rfl rfl rfl rfl ?_
  exact rl_ h hg
 refine wn_ 7 h fun h=>?_;refine ax (fun σ=>∃ x16, gu x2 x1 x16 r ∧ σ=⟨[(0, sb x1), (1, iv x2), (4, pw b4), (6, uv x16)], [⟨b4, 162, ([.v (.int .u8 0)] ++ ((List.map ew ((Arr.rep 4 (0 : UInt64))).l).flatten ++ [bv false, iv 0]))⟩], []⟩) ?_ ?_
 ·refine i_ h (fun h=>?_) fun h=>?_
  ·refine x_ h fun y22 h=>?_;exact m_ h
  exact m_ h
 rintro _ ⟨x16,h,rfl⟩;refine wn_ 2 h fun h=>?_;refine ax (fun σ=>∃ x68, pg x1 x2 x16 x68 r ∧ σ=⟨[(0, sb x1), (1, iv x2), (4, pw b4), (6, uv x16), (22, bv x68)], [⟨b4, 162, ([.v (.int .u8 0)] ++ ((List.map ew ((Arr.rep 4 (0 : UInt64))).l).flatten ++ [bv false, iv 0]))⟩], []⟩) ?_ ?_
 ·refine x_ h fun y69 h=>?_;refine ks_ 28 h (fun h=>?_) fun h=>?_
  ·refine ks_ 31 h (fun h=>?_) fun h=>?_
   ·exact m_ h
   refine ks_ 35 h (fun h=>?_) fun h=>?_
   ·exact m_ h
   exact m_ h
  exact m_ h
 rintro _ ⟨x68,h,rfl⟩;refine i_ h (fun h=>?_) fun h=>?_
 ·refine z0_ F1 h fun y80 h=>?_;refine wn_ 2 h fun h=>?_;refine aC 0 [] ([.v (.int .u8 0)] ++ ((List.map ew ((Arr.rep 4 (0 : UInt64))).l).flatten ++ [bv false, iv 0])) [] ([uv y80.1.1] ++ ((List.map ew y80.1.2.1.l).flatten ++ [bv y80.1.2.2.1, iv y80.1.2.2.2])) ae.h rfl rfl rfl rfl rfl ?_;exact rl_ h hg
 refine ax (fun σ=>∃ x86, pf x2 x1 x86 r ∧ σ=⟨[(0, sb x1), (1, iv x2), (4, pw b4), (45, bv x86)], [⟨b4, 162, ([.v (.int .u8 0)] ++ ((List.map ew ((Arr.rep 4 (0 : UInt64))).l).flatten ++ [bv false, iv 0]))⟩], []⟩) ?_ ?_
 ·refine x_ h fun y87 h=>?_;refine ks_ 51 h (fun h=>?_) fun h=>?_
  ·exact m_ h
  exact m_ h
 rintro _ ⟨x86,h,rfl⟩;refine i_ h (fun h=>?_) fun h=>?_
 ·refine wn_ 4 h fun h=>?_;refine vp_ (aw (cs := ([.v (.int .u8 10)] ++ ((List.map ew ((Arr.rep 4 (0 : UInt64))).l).flatten ++ [bv false, iv ((x2 + 2))]))) aQ.h rfl (by refine ao [] [.v (.int .u8 0)] (((List.map ew ((Arr.rep 4 (0 : UInt64))).l).flatten ++ [bv false, iv 0])) sq_ sl_ sl_ sl_ rfl rfl ?_; refine ao ([.v (.int .u8 10)] ++ ((List.map ew ((Arr.rep 4 (0 : UInt64))).l).flatten ++ [bv false])) [iv 0] [] sq_ sl_ sl_ sl_ rfl rfl ?_; exact congrArg some sq_)) ?_
  refine aC 0 [] ([.v (.int .u8 0)] ++ ((List.map ew ((Arr.rep 4 (0 : UInt64))).l).flatten ++ [bv false, iv 0])) [] ([.v (.int .u8 10)] ++ ((List.map ew ((Arr.rep 4 (0 : UInt64))).l).flatten ++ [bv false, iv ((x2 + 2))])) ae.h rfl rfl rfl rfl rfl ?_;exact rl_ h hg
 refine x_ h fun y94 h=>?_;refine wn_ 3 h fun h=>?_;refine vp_ (aw (cs := ([uv y94] ++ ((List.map ew ((Arr.rep 4 (0 : UInt64))).l).flatten ++ [bv false, iv ((x2 + 1))]))) aQ.h rfl (by refine ao [] [.v (.int .u8 0)] (((List.map ew ((Arr.rep 4 (0 : UInt64))).l).flatten ++ [bv false, iv 0])) sq_ sl_ sl_ sl_ rfl rfl ?_; refine ao ([uv y94] ++ ((List.map ew ((Arr.rep 4 (0 : UInt64))).l).flatten ++ [bv false])) [iv 0] [] sq_ sl_ sl_ sl_ rfl rfl ?_; exact congrArg some sq_)) ?_
 refine aC 0 [] ([.v (.int .u8 0)] ++ ((List.map ew ((Arr.rep 4 (0 : UInt64))).l).flatten ++ [bv false, iv 0])) [] ([uv y94] ++ ((List.map ew ((Arr.rep 4 (0 : UInt64))).l).flatten ++ [bv false, iv ((x2 + 1))])) ae.h rfl rfl rfl rfl rfl ?_;exact rl_ h hg
def gD (x18:Bool) (r:Bool):Prop:=
 r=x18
def lP (bv1:List UInt8) (atv2:Int) (r:Bool):Prop:=
 ((atv2<(bv1.length:Int)→0≤(atv2:Int)∧∃ y22:UInt8,bv1[(atv2:Int).toNat]? =some y22∧(((y22.toNat:Int)=45→InR (atv2+1)∧(((bv1.length:Int)≤(atv2+1)→gD true r)∧(¬ ((bv1.length:Int)≤(atv2+1))→InR (atv2+1)∧0≤((atv2+1):Int)∧∃ y31:UInt8,bv1[((atv2+1):Int).toNat]? =some y31∧gD (!(decide ((y31.toNat:Int)=93))) r)))∧(¬ ((y22.toNat:Int)=45)→gD false r)))∧(¬ (atv2<(bv1.length:Int))→gD false r))
set_option maxHeartbeats 4000000 in
theorem F3 ⦃bv1: List UInt8⦄ ⦃atv2: Int⦄ ⦃r: Bool⦄ (h: lP bv1 atv2 r) : Cn Tryz.prog 134 [sb bv1, iv atv2] [] [] (Ret (bv r)) := by
 refine al Tryz.func134 rfl rfl (by kernel_rfl) fun g hg=>?_;simp only [Tryz.ntmps134,av];refine wn_ 5 h fun h=>?_;refine ax (fun σ=>∃ x18, gD x18 r ∧ σ=⟨[(4, bv x18)], [], []⟩) ?_ ?_
 ·refine is_ 9 h (fun h=>?_) fun h=>?_
  ·refine x_ h fun y22 h=>?_;refine is_ 16 h (fun h=>?_) fun h=>?_
   ·refine is_ 22 h (fun h=>?_) fun h=>?_
    ·exact m_ h
    refine x_ h fun y31 h=>?_;exact m_ h
   exact m_ h
  exact m_ h
 rintro _ ⟨x18,h,rfl⟩;exact r_ h hg
def n6 (bv2:UInt8) (ag1:(Int×T7t)→Prop) (c51:Int) (f52:Arr 4 (UInt64)) (r:T7t):Prop:=
 ((c51≤(bv2.toNat:Int)→∃ c71:UInt8,(c71.toNat:Int)=IntKind.u8.wrap c51∧∃ y73:T7t,ib f52 c71 y73∧InR (c51+1)∧ag1 ((c51+1),y73))∧(¬ (c51≤(bv2.toNat:Int))→r=f52))
def mK (a1:UInt8) (bv2:UInt8) (r:T7t):Prop:=
 ba (fun ag1 s=>n6 bv2 ag1 s.1 s.2 r) ((a1.toNat:Int),(Arr.rep 4 (0:UInt64)))
set_option maxHeartbeats 4000000 in
theorem F4 ⦃a1: UInt8⦄ ⦃bv2: UInt8⦄ ⦃r: T7t⦄ (h: mK a1 bv2 r) : Cn Tryz.prog 135 [uv a1, uv bv2] [] [] (Ret (.agg ((List.map ew r.l).flatten))) := by
 refine al Tryz.func135 rfl rfl (by kernel_rfl) fun g hg=>?_;simp only [Tryz.ntmps135,av];refine wn_ 2 h fun h=>?_;refine aN ar.h rfl rfl fun b4 => ?_;refine bA 0 ((List.map ew ((Arr.rep 4 (0 : UInt64))).l).flatten) rfl rfl ?_;refine wn_ 4 h fun h=>?_;refine aN ar.h rfl rfl fun b5 => ?_;refine bA 0 ((List.map ew ((Arr.rep 4 (0 : UInt64))).l).flatten) rfl rfl ?_;refine wn_ 11 h fun h=>?_
 obtain ⟨Inv,⟨m0,hI⟩,hS⟩ := lq_ h;refine lp_ hI (fun σ m=>∃ c51 f52, Inv (c51, f52) m ∧ σ=⟨[(1, uv bv2), (4, pw b4), (5, pw b5), (6, iv c51)], [⟨b5, 41, ((List.map ew f52.l).flatten)⟩, ⟨b4, 41, ((List.map ew ((Arr.rep 4 (0 : UInt64))).l).flatten)⟩], []⟩) ?_;rintro _ m ⟨c51,f52,hI,rfl⟩;obtain ⟨ag1,hag1,h⟩ := cu hS hI
 refine i_ h (fun h=>?_) fun h=>?_
 ·refine wn_ 5 h fun h=>?_;refine v_ (an 0 [] ((List.map ew f52.l).flatten) [] sq_ sl_ sl_ (aq (aE (by rfl))) ae.h rfl rfl) ?_;refine mv_ ?_;obtain ⟨c71, h70, h⟩ := h;refine vp_ (eU h70 ai.h ai.h rfl) ?_;refine z0_ AB h fun y73 h=>?_;refine aC 0 [] ((List.map ew f52.l).flatten) [] ((List.map ew y73.l).flatten) ae.h rfl rfl rfl rfl rfl ?_;exact g_ h hag1
 refine wn_ 7 h fun h=>?_;refine v_ (an 0 [] ((List.map ew f52.l).flatten) [] sq_ sl_ sl_ (aq (aE (by rfl))) ae.h rfl rfl) ?_;refine aC 1 [] ((List.map ew ((Arr.rep 4 (0 : UInt64))).l).flatten) [] ((List.map ew f52.l).flatten) ae.h rfl rfl rfl rfl rfl ?_;exact rl_ h hg
def mL (y4:mE×Int) (y31:mE×Int) (x44:Bool) (r:T7t×Int×Int):Prop:=
 ((x44=true→r=((Arr.rep 4 (0:UInt64)),0,3))∧(¬ (x44=true)→∃ y51:T7t,mK y4.1.1 y31.1.1 y51∧r=(y51,y31.1.2.2.2,0)))
def nc (x1:List UInt8) (x2:Int) (r:T7t×Int×Int):Prop:=
 ∃ y4:mE×Int,jy x1 x2 y4∧((¬ (y4.2=0)→r=((Arr.rep 4 (0:UInt64)),0,y4.2))∧(¬ (¬ (y4.2=0))→∃ y19:Bool,lP x1 y4.1.2.2.2 y19∧((¬ (y19=true)→((y4.1.2.2.1=true→r=(y4.1.2.1,y4.1.2.2.2,0))∧(¬ (y4.1.2.2.1=true)→∃ y26:T7t,gA ([y4.1.1]) y26∧r=(y26,y4.1.2.2.2,0))))∧(¬ (¬ (y19=true))→((y4.1.2.2.1=true→r=((Arr.rep 4 (0:UInt64)),0,3))∧(¬ (y4.1.2.2.1=true)→InR (y4.1.2.2.2+1)∧∃ y31:mE×Int,jy x1 (y4.1.2.2.2+1) y31∧((¬ (y31.2=0)→r=((Arr.rep 4 (0:UInt64)),0,y31.2))∧(¬ (¬ (y31.2=0))→mL y4 y31 (y31.1.2.2.1 || (decide ((y31.1.1.toNat:Int)<(y4.1.1.toNat:Int)))) r))))))))
set_option maxHeartbeats 4000000 in
theorem F5 ⦃x1: List UInt8⦄ ⦃x2: Int⦄ ⦃r: T7t × Int × Int⦄ (h: nc x1 x2 r) : Cn Tryz.prog 111 [sb x1, iv x2] [] [] fun rr bx tk=>rr=.tup [.agg ((List.map ew r.1.l).flatten), iv r.2.1, iv r.2.2] ∧ bx=[] ∧ tk=[] := by
 refine al Tryz.func111 rfl rfl (by kernel_rfl) fun g hg=>?_;simp only [Tryz.ntmps111,av];refine wn_ 2 h fun h=>?_;refine aN ar.h rfl rfl fun b4 => ?_;refine bA 0 ((List.map ew ((Arr.rep 4 (0 : UInt64))).l).flatten) rfl rfl ?_;refine z0_ D0 h fun y4 h=>?_;refine wn_ 3 h fun h=>?_;refine aN ar.h rfl rfl fun b7 => ?_;refine bA 0 ([.v (.int .u8 0)] ++ ((List.map ew ((Arr.rep 4 (0 : UInt64))).l).flatten ++ [bv false, iv 0])) rfl rfl ?_
 refine aC 0 [] ([.v (.int .u8 0)] ++ ((List.map ew ((Arr.rep 4 (0 : UInt64))).l).flatten ++ [bv false, iv 0])) [] ([uv y4.1.1] ++ ((List.map ew y4.1.2.1.l).flatten ++ [bv y4.1.2.2.1, iv y4.1.2.2.2])) ae.h rfl rfl rfl rfl rfl ?_;refine i_ h (fun h=>?_) fun h=>?_
 ·refine wn_ 2 h fun h=>?_;refine vp_ (bX (cs := ((List.map ew ((Arr.rep 4 (0 : UInt64))).l).flatten)) ai.h ae.h ar.h rfl (by rfl)) ?_;refine mv_ ?_;refine aC 1 [] ((List.map ew ((Arr.rep 4 (0 : UInt64))).l).flatten) [] ((List.map ew ((Arr.rep 4 (0 : UInt64))).l).flatten) ae.h rfl rfl rfl rfl rfl ?_;exact rl_ h hg
 refine wn_ 7 h fun h=>?_;refine v_ (an 0 ([uv y4.1.1] ++ ((List.map ew y4.1.2.1.l).flatten ++ [bv y4.1.2.2.1])) [iv y4.1.2.2.2] [] sq_ sl_ sl_ rfl ae.h rfl rfl) ?_;refine z0_ F3 h fun y19 h=>?_;refine i_ h (fun h=>?_) fun h=>?_
 ·refine wn_ 4 h fun h=>?_;refine v_ (an 0 ([uv y4.1.1] ++ (List.map ew y4.1.2.1.l).flatten) [bv y4.1.2.2.1] [iv y4.1.2.2.2] sq_ sl_ sl_ rfl ae.h rfl rfl) ?_;refine i_ h (fun h=>?_) fun h=>?_
  ·refine fh ?_;refine az (m := 7) (by kernel_rfl) rfl ?_;refine o_ [0,2] ?_;refine en 1 [3] rfl (an 0 [uv y4.1.1] ((List.map ew y4.1.2.1.l).flatten) [bv y4.1.2.2.1, iv y4.1.2.2.2] sq_ sl_ sl_ (aq (aE (by rfl))) ae.h rfl rfl) rfl rfl (by kernel_rfl) (by kernel_rfl) (by kernel_rfl) (fun _ _ _ _ h => h) ?_;refine eG [⟨3, 30, iv y4.1.2.2.2⟩] 3 ?_
   refine bl 4 (by kernel_rfl) rfl (.cons rfl rfl rfl (fun _ => rfl) (fun _ => an 0 ([uv y4.1.1] ++ ((List.map ew y4.1.2.1.l).flatten ++ [bv y4.1.2.2.1])) [iv y4.1.2.2.2] [] sq_ sl_ sl_ rfl ae.h rfl rfl) .nil) fun D l td hR => ?_;refine jI 1 [] ((List.map ew ((Arr.rep 4 (0 : UInt64))).l).flatten) [] ((List.map ew y4.1.2.1.l).flatten) ae.h rfl rfl rfl rfl rfl ?_
   refine ek hR ?_;refine cw (l' := #[true, true, true, true, true, false, false]) (by kernel_rfl) (.cons rfl rfl rfl (fun _ => rfl) (fun _ => an 0 ([uv y4.1.1] ++ ((List.map ew y4.1.2.1.l).flatten ++ [bv y4.1.2.2.1])) [iv y4.1.2.2.2] [] sq_ sl_ sl_ rfl ae.h rfl rfl) .nil) (by kernel_rfl) rfl (by kernel_rfl) (by kernel_rfl) ?_;simp only [List.nil_append, List.cons_append, List.map_cons, List.map_nil]
   refine o_ [5,6] ?_;refine aB (by kernel_rfl) ?_;exact rl_ h hg
  refine wn_ 3 h fun h=>?_;refine az (m := 9) (by kernel_rfl) rfl ?_;obtain ⟨y26, h25, h⟩ := h;refine o_ [0,4,1] ?_;refine eG [⟨5, 36, iv y4.1.2.2.2⟩] 5 ?_;refine bl 2 (by kernel_rfl) rfl (.cons rfl rfl rfl (fun _ => rfl) (fun _ => an 0 ([uv y4.1.1] ++ ((List.map ew y4.1.2.1.l).flatten ++ [bv y4.1.2.2.1])) [iv y4.1.2.2.2] [] sq_ sl_ sl_ rfl ae.h rfl rfl) .nil) fun D l td hR => ?_
  refine eA (f := eb) [y4.1.1] ai.h ar.h rfl rfl wr_ rfl rfl rfl rfl fun s33 => ?_;refine fg hR ?_;refine bl 3 (by kernel_rfl) rfl (.cons rfl rfl rfl (fun _ => rfl) (fun _ => an 0 ([uv y4.1.1] ++ ((List.map ew y4.1.2.1.l).flatten ++ [bv y4.1.2.2.1])) [iv y4.1.2.2.2] [] sq_ sl_ sl_ rfl ae.h rfl rfl) .nil) fun D l td hR => ?_
  refine cM s6 h25 ?_;refine fg hR ?_;refine bl 6 (by kernel_rfl) rfl (.cons rfl rfl rfl (fun _ => rfl) (fun _ => an 0 ([uv y4.1.1] ++ ((List.map ew y4.1.2.1.l).flatten ++ [bv y4.1.2.2.1])) [iv y4.1.2.2.2] [] sq_ sl_ sl_ rfl ae.h rfl rfl) .nil) fun D l td hR => ?_;refine jI 1 [] ((List.map ew ((Arr.rep 4 (0 : UInt64))).l).flatten) [] ((List.map ew y26.l).flatten) ae.h rfl rfl rfl rfl rfl ?_
  refine ek hR ?_;refine cw (l' := #[true, true, true, true, true, true, true, false, false]) (by kernel_rfl) (.cons rfl rfl rfl (fun _ => rfl) (fun _ => an 0 ([uv y4.1.1] ++ ((List.map ew y4.1.2.1.l).flatten ++ [bv y4.1.2.2.1])) [iv y4.1.2.2.2] [] sq_ sl_ sl_ rfl ae.h rfl rfl) .nil) (by kernel_rfl) rfl (by kernel_rfl) (by kernel_rfl) ?_
  simp only [List.nil_append, List.cons_append, List.map_cons, List.map_nil];refine o_ [7,8] ?_;refine aB (by kernel_rfl) ?_;exact rl_ h hg
 refine wn_ 6 h fun h=>?_;refine v_ (an 0 ([uv y4.1.1] ++ (List.map ew y4.1.2.1.l).flatten) [bv y4.1.2.2.1] [iv y4.1.2.2.2] sq_ sl_ sl_ rfl ae.h rfl rfl) ?_;refine i_ h (fun h=>?_) fun h=>?_
 ·refine wn_ 2 h fun h=>?_;refine vp_ (bX (cs := ((List.map ew ((Arr.rep 4 (0 : UInt64))).l).flatten)) ai.h ae.h ar.h rfl (by rfl)) ?_;refine aC 1 [] ((List.map ew ((Arr.rep 4 (0 : UInt64))).l).flatten) [] ((List.map ew ((Arr.rep 4 (0 : UInt64))).l).flatten) ae.h rfl rfl rfl rfl rfl ?_;exact rl_ h hg
 refine wn_ 6 h fun h=>?_;refine v_ (an 0 ([uv y4.1.1] ++ ((List.map ew y4.1.2.1.l).flatten ++ [bv y4.1.2.2.1])) [iv y4.1.2.2.2] [] sq_ sl_ sl_ rfl ae.h rfl rfl) ?_;refine z0_ D0 h fun y31 h=>?_;refine wn_ 3 h fun h=>?_;refine aN ar.h rfl rfl fun b9 => ?_;refine bA 0 ([.v (.int .u8 0)] ++ ((List.map ew ((Arr.rep 4 (0 : UInt64))).l).flatten ++ [bv false, iv 0])) rfl rfl ?_
 refine aC 0 [] ([.v (.int .u8 0)] ++ ((List.map ew ((Arr.rep 4 (0 : UInt64))).l).flatten ++ [bv false, iv 0])) [] ([uv y31.1.1] ++ ((List.map ew y31.1.2.1.l).flatten ++ [bv y31.1.2.2.1, iv y31.1.2.2.2])) ae.h rfl rfl rfl rfl rfl ?_;refine i_ h (fun h=>?_) fun h=>?_
 ·refine wn_ 2 h fun h=>?_;refine vp_ (bX (cs := ((List.map ew ((Arr.rep 4 (0 : UInt64))).l).flatten)) ai.h ae.h ar.h rfl (by rfl)) ?_;refine mv_ ?_;refine aC 2 [] ((List.map ew ((Arr.rep 4 (0 : UInt64))).l).flatten) [] ((List.map ew ((Arr.rep 4 (0 : UInt64))).l).flatten) ae.h rfl rfl rfl rfl rfl ?_;exact rl_ h hg
 refine ax (fun σ=>∃ x44, mL y4 y31 x44 r ∧ σ=⟨[(4, pw b4), (7, pw b7), (9, pw b9), (53, bv x44)], [⟨b9, 162, ([uv y31.1.1] ++ ((List.map ew y31.1.2.1.l).flatten ++ [bv y31.1.2.2.1, iv y31.1.2.2.2]))⟩, ⟨b7, 162, ([uv y4.1.1] ++ ((List.map ew y4.1.2.1.l).flatten ++ [bv y4.1.2.2.1, iv y4.1.2.2.2]))⟩, ⟨b4, 41, ((List.map ew ((Arr.rep 4 (0 : UInt64))).l).flatten)⟩], []⟩) ?_ ?_
 ·refine wn_ 2 h fun h=>?_;refine v_ (an 0 ([uv y31.1.1] ++ (List.map ew y31.1.2.1.l).flatten) [bv y31.1.2.2.1] [iv y31.1.2.2.2] sq_ sl_ sl_ rfl ae.h rfl rfl) ?_;refine ks_ 56 h (fun h=>?_) fun h=>?_
  ·exact m_ h
  exact m_ h
 rintro _ ⟨x44,h,rfl⟩;refine i_ h (fun h=>?_) fun h=>?_
 ·refine wn_ 2 h fun h=>?_;refine vp_ (bX (cs := ((List.map ew ((Arr.rep 4 (0 : UInt64))).l).flatten)) ai.h ae.h ar.h rfl (by rfl)) ?_;refine aC 2 [] ((List.map ew ((Arr.rep 4 (0 : UInt64))).l).flatten) [] ((List.map ew ((Arr.rep 4 (0 : UInt64))).l).flatten) ae.h rfl rfl rfl rfl rfl ?_;exact rl_ h hg
 refine wn_ 4 h fun h=>?_;refine az (m := 10) (by kernel_rfl) rfl ?_;obtain ⟨y51, h50, h⟩ := h;refine o_ [0,2,5,1,3] ?_;refine eG [⟨6, 70, iv y31.1.2.2.2⟩] 4 ?_;refine bl 4 (by kernel_rfl) rfl (.cons rfl rfl rfl (fun _ => rfl) (fun _ => an 0 ([uv y31.1.1] ++ ((List.map ew y31.1.2.1.l).flatten ++ [bv y31.1.2.2.1])) [iv y31.1.2.2.2] [] sq_ sl_ sl_ rfl ae.h rfl rfl) .nil) fun D l td hR => ?_
 refine cM F4 h50 ?_;refine fg hR ?_;refine bl 7 (by kernel_rfl) rfl (.cons rfl rfl rfl (fun _ => rfl) (fun _ => an 0 ([uv y31.1.1] ++ ((List.map ew y31.1.2.1.l).flatten ++ [bv y31.1.2.2.1])) [iv y31.1.2.2.2] [] sq_ sl_ sl_ rfl ae.h rfl rfl) .nil) fun D l td hR => ?_;refine jI 2 [] ((List.map ew ((Arr.rep 4 (0 : UInt64))).l).flatten) [] ((List.map ew y51.l).flatten) ae.h rfl rfl rfl rfl rfl ?_
 refine ek hR ?_;refine cw (l' := #[true, true, true, true, true, true, true, true, false, false]) (by kernel_rfl) (.cons rfl rfl rfl (fun _ => rfl) (fun _ => an 0 ([uv y31.1.1] ++ ((List.map ew y31.1.2.1.l).flatten ++ [bv y31.1.2.2.1])) [iv y31.1.2.2.2] [] sq_ sl_ sl_ rfl ae.h rfl rfl) .nil) (by kernel_rfl) rfl (by kernel_rfl) (by kernel_rfl) ?_
 simp only [List.nil_append, List.cons_append, List.map_cons, List.map_nil];refine o_ [8,9] ?_;refine aB (by kernel_rfl) ?_;exact rl_ h hg
def lQ (y735:Arr 4 (UInt64)) (x534:Int) (ag1:(Int×T7t)→Prop) (ag2:(Int×T7t)→Prop) (x757:Int) (f758:Arr 4 (UInt64)) (_r:T7t):Prop:=
 ((x757<4→(0≤(x757:Int)∧(x757:Int)<4)∧∃ y791:UInt64,f758.l[(x757:Int).toNat]? =some y791∧(0≤(x757:Int)∧(x757:Int)<4)∧∃ y793:UInt64,y735.l[(x757:Int).toNat]? =some y793∧∃ c795:UInt64,(c795.toNat:Int)=IntKind.u64.wrap (BitVec.ofInt IntKind.u64.bits (y791.toNat:Int) ||| BitVec.ofInt IntKind.u64.bits (y793.toNat:Int)).toNat∧(0≤(x757:Int)∧(x757:Int)<4)∧∃ y797:UInt64,f758.l[(x757:Int).toNat]? =some y797∧InR (x757+1)∧ag2 ((x757+1),(Arr.set f758 (x757:Int).toNat c795)))∧(¬ (x757<4)→InR (x534+1)∧ag1 ((x534+1),f758)))
def n7 (l1:List T7t) (ag1:(Int×T7t)→Prop) (x534:Int) (f535:Arr 4 (UInt64)) (r:T7t):Prop:=
 ((x534<(l1.length:Int)→0≤(x534:Int)∧∃ y735:Arr 4 (UInt64),l1[(x534:Int).toNat]? =some y735∧ba (fun ag2 s=>lQ y735 x534 ag1 ag2 s.1 s.2 r) (0,f535))∧(¬ (x534<(l1.length:Int))→r=f535))
def mM (l1:List T7t) (r:T7t):Prop:=
 ba (fun ag1 s=>n7 l1 ag1 s.1 s.2 r) (0,(Arr.rep 4 (0:UInt64)))
set_option maxHeartbeats 4000000 in
theorem F6 ⦃l1: List T7t⦄ ⦃r: T7t⦄ (h: mM l1 r) : Cn Tryz.prog 112 [.sl 4 none (List.map bB l1)] [] [] (Ret (.agg ((List.map ew r.l).flatten))) := by
 refine al Tryz.func112 rfl rfl (by kernel_rfl) fun g hg=>?_;simp only [Tryz.ntmps112,av];refine wn_ 2 h fun h=>?_;refine aN ar.h rfl rfl fun b2 => ?_;refine bA 0 ((List.map ew ((Arr.rep 4 (0 : UInt64))).l).flatten) rfl rfl ?_;refine wn_ 4 h fun h=>?_;refine aN ar.h rfl rfl fun b3 => ?_;refine bA 0 ((List.map ew ((Arr.rep 4 (0 : UInt64))).l).flatten) rfl rfl ?_;refine wn_ 11 h fun h=>?_
 obtain ⟨Inv,⟨m0,hI⟩,hS⟩ := lq_ h;refine lp_ hI (fun σ m=>∃ x534 f535, Inv (x534, f535) m ∧ σ=⟨[(2, pw b2), (3, pw b3), (7, .sl 4 none (List.map bB l1)), (8, iv ((l1.length : Int))), (9, iv x534)], [⟨b3, 41, ((List.map ew f535.l).flatten)⟩, ⟨b2, 41, ((List.map ew ((Arr.rep 4 (0 : UInt64))).l).flatten)⟩], []⟩) ?_
 rintro _ m ⟨x534,f535,hI,rfl⟩;obtain ⟨ag1,hag1,h⟩ := cu hS hI;refine i_ h (fun h=>?_) fun h=>?_
 ·refine x_ h fun y735 h=>?_;refine v_ (jD ((List.map ew y735.l).flatten) [] sq_ sl_ (aq (aE (by rfl))) ae.h rfl) ?_;refine aN ar.h rfl rfl fun b5 => ?_;refine bA 0 ((List.map ew ((Arr.rep 4 (0 : UInt64))).l).flatten) rfl rfl ?_;refine aC 0 [] ((List.map ew ((Arr.rep 4 (0 : UInt64))).l).flatten) [] ((List.map ew y735.l).flatten) ae.h rfl rfl rfl rfl rfl ?_;refine wn_ 8 h fun h=>?_
  obtain ⟨Inv,⟨m0,hI⟩,hS⟩ := lq_ h;refine lp_ hI (fun σ m=>∃ x757 f758, Inv (x757, f758) m ∧ σ=⟨[(2, pw b2), (3, pw b3), (5, pw b5), (7, .sl 4 none (List.map bB l1)), (8, iv ((l1.length : Int))), (9, iv x534), (13, iv x757)], [⟨b5, 41, ((List.map ew y735.l).flatten)⟩, ⟨b3, 41, ((List.map ew f758.l).flatten)⟩, ⟨b2, 41, ((List.map ew ((Arr.rep 4 (0 : UInt64))).l).flatten)⟩], []⟩) ?_
  rintro _ m ⟨x757,f758,hI,rfl⟩;obtain ⟨ag2,hag2,h⟩ := cu hS hI;refine i_ h (fun h=>?_) fun h=>?_
  ·refine wn_ 10 h fun h=>?_;refine az (m := 9) (by kernel_rfl) rfl ?_;obtain ⟨h790, h⟩ := h;obtain ⟨y791, h790b, h⟩ := h;obtain ⟨h792, h⟩ := h;obtain ⟨y793, h792b, h⟩ := h;obtain ⟨c795, h794, h⟩ := h;obtain ⟨h796, h⟩ := h;obtain ⟨y797, h796b, h⟩ := h;refine o_ [0] ?_;refine pl_ 1 rfl (aA h790 ai.h ae.h rfl rfl) ?_;refine o_ [3] ?_;refine pl_ 4 rfl (aA h792 ai.h ae.h rfl rfl) ?_
   refine en 2 [5] rfl (dH (f := ew) (a := f758) (k := 1) (off := 0) (i := (x757 : Int).toNat) 1 [] [] h790b sq_ so_ (by decide) rfl ae.h rfl rfl) rfl rfl (by kernel_rfl) (by kernel_rfl) (by kernel_rfl) (fun _ _ _ _ h => h) ?_;refine en 5 [] rfl (dH (f := ew) (a := y735) (k := 1) (off := 0) (i := (x757 : Int).toNat) 0 [] [] h792b sq_ so_ (by decide) rfl ae.h rfl rfl) rfl rfl (by kernel_rfl) (by kernel_rfl) (by kernel_rfl) (fun _ _ _ _ h => h) ?_
   refine pl_ 6 rfl (fe h794 rfl rfl rfl) ?_;refine pl_ 7 rfl (aA h796 ai.h ae.h rfl rfl) ?_;refine aG (i := 8) (by kernel_rfl) rfl ?_;refine CX (f := ew) (a := f758) (k := 1) (off := 0) (i := (x757 : Int).toNat) 1 [] [] c795 h796b sq_ so_ (by decide) ae.h rfl rfl rfl rfl sl_ rfl rfl ?_;refine rv 1 ((List.map ew ((Arr.set f758 (x757 : Int).toNat c795)).l).flatten) rfl sq_ ?_
   refine aB (by kernel_rfl) ?_;exact g_ h hag2
  exact g_ h hag1
 refine wn_ 7 h fun h=>?_;refine v_ (an 0 [] ((List.map ew f535.l).flatten) [] sq_ sl_ sl_ (aq (aE (by rfl))) ae.h rfl rfl) ?_;refine aC 1 [] ((List.map ew ((Arr.rep 4 (0 : UInt64))).l).flatten) [] ((List.map ew f535.l).flatten) ae.h rfl rfl rfl rfl rfl ?_;exact rl_ h hg
end Go.Proofs.YtnbceeholnkfeaaGreatDoor
