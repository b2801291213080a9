/- What functions' texts ask for, and the walks that show it (printed by a program). -/
import Derived.Test.YtnbceeholnkfeaaGreatDoorGKp3
namespace Go.Proofs.YtnbceeholnkfeaaGreatDoor
def bR (o1:T0t×(List UInt8)×Int×T5t) (e3:Int) (r:T8t):Prop:=
 r=[(o1.2.2.1,e3)]
set_option maxHeartbeats 4000000 in
theorem ni ⦃o1: T0t × (List UInt8) × Int × T5t⦄ ⦃e3: Int⦄ ⦃r: T8t⦄ (h: bR o1 e3 r) (bx0: Nat) (ia2: Option (Nat × Nat)) : Cn Tryz.prog 48 [pw bx0, iv e3] [⟨bx0, 66, ([.sl 10 (some ia2) (List.map aa o1.1.1), iv o1.1.2, sb o1.2.1, iv o1.2.2.1] ++ (List.map eB o1.2.2.2.l).flatten)⟩] [⟨ia2, 43, 10, o1.1.1.length⟩] fun rr bx tk=>rr=.pt (List.isEmpty r) (aO r) ∧ bx=[⟨bx0, 66, ([.sl 10 (some ia2) (List.map aa o1.1.1), iv o1.1.2, sb o1.2.1, iv o1.2.2.1] ++ (List.map eB o1.2.2.2.l).flatten)⟩] ∧ tk=[⟨ia2, 43, 10, o1.1.1.length⟩] := by
 refine al Tryz.func48 rfl rfl (by kernel_rfl) fun g hg=>?_;simp only [Tryz.ntmps48,av];refine wn_ 12 h fun h=>?_;refine vp_ (aw aQ.h rfl rfl) ?_;refine cK rfl rfl rfl rfl fun b11 => ?_;refine AP 0 11 rfl rfl ?_;exact r_ h hg
def jQ (o1:T0t×(List UInt8)×Int×T5t) (r:Int×T3t):Prop:=
 ∃ y4:Int×T3t,bI o1 (0,0,0,0,0,0,(Arr.rep 4 (0:UInt64))) y4∧r=(y4.1,y4.2)
set_option maxHeartbeats 4000000 in
theorem Gg ⦃o1: T0t × (List UInt8) × Int × T5t⦄ ⦃r: Int × T3t⦄ (h: jQ o1 r) (bx0: Nat) (ia2: Option (Nat × Nat)) : Cn Tryz.prog 23 [pw bx0] [⟨bx0, 66, ([.sl 10 (some ia2) (List.map aa o1.1.1), iv o1.1.2, sb o1.2.1, iv o1.2.2.1] ++ (List.map eB o1.2.2.2.l).flatten)⟩] [⟨ia2, 43, 10, o1.1.1.length⟩] fun rr bx tk=>∃ j1, rr=iv r.1 ∧ bx=[⟨bx0, 66, ([.sl 10 (some j1) (List.map aa r.2.1.1), iv r.2.1.2, sb r.2.2.1, iv r.2.2.2.1] ++ (List.map eB r.2.2.2.2.l).flatten)⟩] ∧ tk=[⟨j1, 43, 10, r.2.1.1.length⟩] := by
 refine al Tryz.func23 rfl rfl (by kernel_rfl) fun g hg=>?_;simp only [Tryz.ntmps23,av];refine wn_ 8 h fun h=>?_;refine vp_ (aw (cs := ([iv 0, iv 0, iv 0, iv 0, iv 0, iv 0] ++ (List.map ew ((Arr.rep 4 (0 : UInt64))).l).flatten)) aQ.h rfl (by refine ao [] [iv 0] ([iv 0, iv 0, iv 0, iv 0, iv 0] ++ (List.map ew ((Arr.rep 4 (0 : UInt64))).l).flatten) sq_ sl_ sl_ sl_ rfl rfl ?_; exact congrArg some sq_)) ?_
 refine c1_ pL h fun y4 i5 h=>?_;exact r_ h hg
def jR (l4:List Int) (kind3:Int) (ag1:(Int×Int×(List T4t)×Int×(List UInt8)×Int×T5t)→Prop) (atv141:Int) (x142:Int) (f143:List T4t) (f145:Int) (f146:List UInt8) (f147:Int) (f148:Arr 10 (Bool)) (r:Int×T3t):Prop:=
 ((x142<(((l4.drop (1:Int).toNat)).length:Int)→0≤(x142:Int)∧∃ y183:Int,((l4.drop (1:Int).toNat))[(x142:Int).toNat]? =some y183∧((atv141=(-1)→r=(atv141,((f143,f145),f146,f147,f148)))∧(¬ (atv141=(-1))→∃ y190:Int×T3t,bI ((f143,f145),f146,f147,f148) (kind3,atv141,y183,0,0,0,(Arr.rep 4 (0:UInt64))) y190∧InR (x142+1)∧ag1 (y190.1,(x142+1),y190.2.1.1,y190.2.1.2,y190.2.2.1,y190.2.2.2.1,y190.2.2.2.2))))∧(¬ (x142<(((l4.drop (1:Int).toNat)).length:Int))→r=(atv141,((f143,f145),f146,f147,f148))))
def gN (o1:T0t×(List UInt8)×Int×T5t) (kind3:Int) (l4:List Int) (r:Int×T3t):Prop:=
 0≤(0:Int)∧∃ y30:Int,l4[(0:Int).toNat]? =some y30∧((y30<0→r=((-1),o1))∧(¬ (y30<0)→0≤(0:Int)∧∃ y34:Int,l4[(0:Int).toNat]? =some y34∧(((o1.1.1.length:Int)≤y34→r=((-1),o1))∧(¬ ((o1.1.1.length:Int)≤y34)→0≤(0:Int)∧∃ y39:Int,l4[(0:Int).toNat]? =some y39∧(0≤(1:Int)∧(1:Int)≤(l4.length:Int))∧ba (fun ag1 s=>jR l4 kind3 ag1 s.1 s.2.1 s.2.2.1 s.2.2.2.1 s.2.2.2.2.1 s.2.2.2.2.2.1 s.2.2.2.2.2.2 r) (y39,0,o1.1.1,o1.1.2,o1.2.1,o1.2.2.1,o1.2.2.2)))))
set_option maxHeartbeats 4000000 in
theorem Gi ⦃o1: T0t × (List UInt8) × Int × T5t⦄ ⦃kind3: Int⦄ ⦃l4: List Int⦄ ⦃r: Int × T3t⦄ (h: gN o1 kind3 l4 r) (bx0: Nat) (ia2: Option (Nat × Nat)) : Cn Tryz.prog 67 [pw bx0, iv kind3, .sl 1 none (List.map ei l4)] [⟨bx0, 66, ([.sl 10 (some ia2) (List.map aa o1.1.1), iv o1.1.2, sb o1.2.1, iv o1.2.2.1] ++ (List.map eB o1.2.2.2.l).flatten)⟩] [⟨ia2, 43, 10, o1.1.1.length⟩] fun rr bx tk=>∃ j1, rr=iv r.1 ∧ bx=[⟨bx0, 66, ([.sl 10 (some j1) (List.map aa r.2.1.1), iv r.2.1.2, sb r.2.2.1, iv r.2.2.2.1] ++ (List.map eB r.2.2.2.2.l).flatten)⟩] ∧ tk=[⟨j1, 43, 10, r.2.1.1.length⟩] := by
 refine al Tryz.func67 rfl rfl (by kernel_rfl) fun g hg=>?_;simp only [Tryz.ntmps67,av];refine wn_ 7 h fun h=>?_;refine az (m := 15) (by kernel_rfl) rfl ?_;obtain ⟨h31a, h⟩ := h;obtain ⟨y30, h31b, h⟩ := h;refine o_ [0] ?_;refine pl_ 1 rfl (aJ h31a h31b ai.h ae.h rfl rfl) ?_;refine o_ [2,3,4] ?_;refine ip_ 14 h (fun h=>?_) fun h=>?_
 ·refine o_ [5,6,7,8,9,10,11,12,13,14] ?_;refine aB (by kernel_rfl) ?_;exact r_ h hg
 obtain ⟨h35a, h⟩ := h;obtain ⟨y34, h35b, h⟩ := h;refine o_ [5] ?_;refine pl_ 6 rfl (aJ h35a h35b ai.h ae.h rfl rfl) ?_;refine o_ [8,9,10,7,11,12,13,14] ?_;refine aB (by kernel_rfl) ?_;refine i_ h (fun h=>?_) fun h=>?_
 ·exact r_ h hg
 refine x_ h fun y39 h=>?_;refine wn_ 14 h fun h=>?_;obtain ⟨Inv,⟨m0,hI⟩,hS⟩ := lq_ h;refine lp_ hI (fun σ m=>∃ atv141 x142 f143 f145 f146 f147 f148 i144, Inv (atv141, x142, f143, f145, f146, f147, f148) m ∧ σ=⟨[(0, pw bx0), (1, iv kind3), (7, iv atv141), (29, .sl 1 none (List.map ei ((l4.drop (1 : Int).toNat)))), (30, iv ((((l4.drop (1 : Int).toNat)).length : Int))), (31, iv x142)], [⟨bx0, 66, ([.sl 10 (some i144) (List.map aa f143), iv f145, sb f146, iv f147] ++ (List.map eB f148.l).flatten)⟩], [⟨i144, 43, 10, f143.length⟩]⟩) ?_
 rintro _ m ⟨atv141,x142,f143,f145,f146,f147,f148,i144,hI,rfl⟩;obtain ⟨ag1,hag1,h⟩ := cu hS hI;refine i_ h (fun h=>?_) fun h=>?_
 ·refine x_ h fun y183 h=>?_;refine i_ h (fun h=>?_) fun h=>?_
  ·exact r_ h hg
  refine wn_ 7 h fun h=>?_;refine vp_ (aw (cs := ([iv kind3, iv atv141, iv y183, iv 0, iv 0, iv 0] ++ (List.map ew ((Arr.rep 4 (0 : UInt64))).l).flatten)) aQ.h rfl (by refine ao [] [iv 0] ([iv 0, iv 0, iv 0, iv 0, iv 0] ++ (List.map ew ((Arr.rep 4 (0 : UInt64))).l).flatten) sq_ sl_ sl_ sl_ rfl rfl ?_; refine ao [iv kind3] [iv 0] ([iv 0, iv 0, iv 0, iv 0] ++ (List.map ew ((Arr.rep 4 (0 : UInt64))).l).flatten) sq_ sl_ sl_ sl_ rfl rfl ?_; refine ao [iv kind3, iv atv141] [iv 0] ([iv 0, iv 0, iv 0] ++ (List.map ew ((Arr.rep 4 (0 : UInt64))).l).flatten) sq_ sl_ sl_ sl_ rfl rfl ?_; exact congrArg some sq_)) ?_
  refine c1_ pL h fun y190 i191 h=>?_;exact g_ h hag1
 exact r_ h hg
def ij (o1:T0t×(List UInt8)×Int×T5t) (l3:List Int) (r:Int×T3t):Prop:=
 (((l3.length:Int)=0→∃ y14:Int×T3t,jQ o1 y14∧r=(y14.1,y14.2))∧(¬ ((l3.length:Int)=0)→∃ y17:Int×T3t,gN o1 2 l3 y17∧r=(y17.1,y17.2)))
set_option maxHeartbeats 4000000 in
theorem Gj ⦃o1: T0t × (List UInt8) × Int × T5t⦄ ⦃l3: List Int⦄ ⦃r: Int × T3t⦄ (h: ij o1 l3 r) (bx0: Nat) (ia2: Option (Nat × Nat)) : Cn Tryz.prog 50 [pw bx0, .sl 1 none (List.map ei l3)] [⟨bx0, 66, ([.sl 10 (some ia2) (List.map aa o1.1.1), iv o1.1.2, sb o1.2.1, iv o1.2.2.1] ++ (List.map eB o1.2.2.2.l).flatten)⟩] [⟨ia2, 43, 10, o1.1.1.length⟩] fun rr bx tk=>∃ j1, rr=iv r.1 ∧ bx=[⟨bx0, 66, ([.sl 10 (some j1) (List.map aa r.2.1.1), iv r.2.1.2, sb r.2.2.1, iv r.2.2.2.1] ++ (List.map eB r.2.2.2.2.l).flatten)⟩] ∧ tk=[⟨j1, 43, 10, r.2.1.1.length⟩] := by
 refine al Tryz.func50 rfl rfl (by kernel_rfl) fun g hg=>?_;simp only [Tryz.ntmps50,av];refine i_ h (fun h=>?_) fun h=>?_
 ·refine c1_ Gg h fun y14 i15 h=>?_;exact r_ h hg
 refine c1_ Gi h fun y17 i18 h=>?_;exact r_ h hg
def ea (o1:T0t×(List UInt8)×Int×T5t) (sv3:Arr 4 (UInt64)) (r:Int×T3t):Prop:=
 ∃ y5:Int×T3t,bI o1 (1,0,0,0,0,0,sv3) y5∧r=(y5.1,y5.2)
set_option maxHeartbeats 4000000 in
theorem AH ⦃o1: T0t × (List UInt8) × Int × T5t⦄ ⦃sv3: Arr 4 (UInt64)⦄ ⦃r: Int × T3t⦄ (h: ea o1 sv3 r) (bx0: Nat) (ia2: Option (Nat × Nat)) : Cn Tryz.prog 89 [pw bx0, .agg ((List.map ew sv3.l).flatten)] [⟨bx0, 66, ([.sl 10 (some ia2) (List.map aa o1.1.1), iv o1.1.2, sb o1.2.1, iv o1.2.2.1] ++ (List.map eB o1.2.2.2.l).flatten)⟩] [⟨ia2, 43, 10, o1.1.1.length⟩] fun rr bx tk=>∃ j1, rr=iv r.1 ∧ bx=[⟨bx0, 66, ([.sl 10 (some j1) (List.map aa r.2.1.1), iv r.2.1.2, sb r.2.2.1, iv r.2.2.2.1] ++ (List.map eB r.2.2.2.2.l).flatten)⟩] ∧ tk=[⟨j1, 43, 10, r.2.1.1.length⟩] := by
 refine al Tryz.func89 rfl rfl (by kernel_rfl) fun g hg=>?_;simp only [Tryz.ntmps89,av];refine wn_ 2 h fun h=>?_;refine cK rfl rfl rfl rfl fun b3 => ?_;refine wn_ 6 h fun h=>?_;refine v_ (an 0 [] ((List.map ew sv3.l).flatten) [] sq_ sl_ sl_ (aq (aE (by rfl))) ae.h rfl rfl) ?_;refine vp_ (aw (cs := ([iv 1, iv 0, iv 0, iv 0, iv 0, iv 0] ++ (List.map ew sv3.l).flatten)) aQ.h rfl (by refine ao [] [iv 0] ([iv 0, iv 0, iv 0, iv 0, iv 0] ++ (List.map ew ((Arr.rep 4 (0 : UInt64))).l).flatten) sq_ sl_ sl_ sl_ rfl rfl ?_; refine ao [iv 1, iv 0, iv 0, iv 0, iv 0, iv 0] ((List.map ew ((Arr.rep 4 (0 : UInt64))).l).flatten) [] sq_ sl_ sl_ sl_ rfl rfl ?_; exact congrArg some sq_)) ?_
 refine c1_ pL h fun y5 i6 h=>?_;exact r_ h hg
def eT (o1:T0t×(List UInt8)×Int×T5t) (c3:UInt8) (r:Int×T3t):Prop:=
 InR (o1.2.2.1+1)∧∃ y11:T7t,gA ([c3]) y11∧∃ y13:Int×T3t,ea (o1.1,o1.2.1,(o1.2.2.1+1),o1.2.2.2) y11 y13∧r=(y13.1,y13.2)
set_option maxHeartbeats 4000000 in
theorem xr ⦃o1: T0t × (List UInt8) × Int × T5t⦄ ⦃c3: UInt8⦄ ⦃r: Int × T3t⦄ (h: eT o1 c3 r) (bx0: Nat) (ia2: Option (Nat × Nat)) : Cn Tryz.prog 68 [pw bx0, uv c3] [⟨bx0, 66, ([.sl 10 (some ia2) (List.map aa o1.1.1), iv o1.1.2, sb o1.2.1, iv o1.2.2.1] ++ (List.map eB o1.2.2.2.l).flatten)⟩] [⟨ia2, 43, 10, o1.1.1.length⟩] fun rr bx tk=>∃ j1, rr=iv r.1 ∧ bx=[⟨bx0, 66, ([.sl 10 (some j1) (List.map aa r.2.1.1), iv r.2.1.2, sb r.2.2.1, iv r.2.2.2.1] ++ (List.map eB r.2.2.2.2.l).flatten)⟩] ∧ tk=[⟨j1, 43, 10, r.2.1.1.length⟩] := by
 refine al Tryz.func68 rfl rfl (by kernel_rfl) fun g hg=>?_;simp only [Tryz.ntmps68,av];refine wn_ 18 h fun h=>?_;refine az (m := 8) (by kernel_rfl) rfl ?_;obtain ⟨y11, h10, h⟩ := h;obtain ⟨y13, h12, h⟩ := h;refine o_ [0,1,2,3] ?_;refine aG (i := 4) (by kernel_rfl) rfl ?_;refine eA (f := eb) [c3] ai.h ar.h rfl rfl wr_ rfl rfl rfl rfl fun s16 => ?_;refine aG (i := 5) (by kernel_rfl) rfl ?_
 refine cM s6 h10 ?_;refine aG (i := 6) (by kernel_rfl) rfl ?_;refine rx AH h12 fun i14=>?_;refine o_ [7] ?_;refine aB (by kernel_rfl) ?_;exact r_ h hg
def fv (o1:T0t×(List UInt8)×Int×T5t) (a3:Int) (lo4:Int) (hi5:Int) (r:Int×T3t):Prop:=
 ∃ y7:Int×T3t,bI o1 (4,a3,0,lo4,hi5,0,(Arr.rep 4 (0:UInt64))) y7∧r=(y7.1,y7.2)
set_option maxHeartbeats 4000000 in
theorem D2 ⦃o1: T0t × (List UInt8) × Int × T5t⦄ ⦃a3: Int⦄ ⦃lo4: Int⦄ ⦃hi5: Int⦄ ⦃r: Int × T3t⦄ (h: fv o1 a3 lo4 hi5 r) (bx0: Nat) (ia2: Option (Nat × Nat)) : Cn Tryz.prog 93 [pw bx0, iv a3, iv lo4, iv hi5] [⟨bx0, 66, ([.sl 10 (some ia2) (List.map aa o1.1.1), iv o1.1.2, sb o1.2.1, iv o1.2.2.1] ++ (List.map eB o1.2.2.2.l).flatten)⟩] [⟨ia2, 43, 10, o1.1.1.length⟩] fun rr bx tk=>∃ j1, rr=iv r.1 ∧ bx=[⟨bx0, 66, ([.sl 10 (some j1) (List.map aa r.2.1.1), iv r.2.1.2, sb r.2.2.1, iv r.2.2.2.1] ++ (List.map eB r.2.2.2.2.l).flatten)⟩] ∧ tk=[⟨j1, 43, 10, r.2.1.1.length⟩] := by
 refine al Tryz.func93 rfl rfl (by kernel_rfl) fun g hg=>?_;simp only [Tryz.ntmps93,av];refine wn_ 11 h fun h=>?_;refine vp_ (aw (cs := ([iv 4, iv a3, iv 0, iv lo4, iv hi5, iv 0] ++ (List.map ew ((Arr.rep 4 (0 : UInt64))).l).flatten)) aQ.h rfl (by refine ao [] [iv 0] ([iv 0, iv 0, iv 0, iv 0, iv 0] ++ (List.map ew ((Arr.rep 4 (0 : UInt64))).l).flatten) sq_ sl_ sl_ sl_ rfl rfl ?_; refine ao [iv 4] [iv 0] ([iv 0, iv 0, iv 0, iv 0] ++ (List.map ew ((Arr.rep 4 (0 : UInt64))).l).flatten) sq_ sl_ sl_ sl_ rfl rfl ?_; refine ao [iv 4, iv a3, iv 0] [iv 0] ([iv 0, iv 0] ++ (List.map ew ((Arr.rep 4 (0 : UInt64))).l).flatten) sq_ sl_ sl_ sl_ rfl rfl ?_; refine ao [iv 4, iv a3, iv 0, iv lo4] [iv 0] ([iv 0] ++ (List.map ew ((Arr.rep 4 (0 : UInt64))).l).flatten) sq_ sl_ sl_ sl_ rfl rfl ?_; exact congrArg some sq_)) ?_
 refine c1_ pL h fun y7 i8 h=>?_;exact r_ h hg
def kX (y19:T8t) (o1:T0t×(List UInt8)×Int×T5t) (x63:Int) (x3:Int) (y25:Int×Int×Int) (x64:Int) (x118:Bool) (r:Int×T8t×T3t):Prop:=
 ((x118=true→r=(0,y19,(o1.1,o1.2.1,x63,o1.2.2.2)))∧(¬ (x118=true)→InR (x63+2)∧∃ y128:Int×T3t,fv (o1.1,o1.2.1,(x63+2),o1.2.2.2) x3 y25.1 x64 y128∧r=(y128.1,([]:List (Int×Int)),y128.2)))
def fK (o1:T0t×(List UInt8)×Int×T5t) (y19:T8t) (x3:Int) (y25:Int×Int×Int) (x63:Int) (x64:Int) (r:Int×T8t×T3t):Prop:=
 ∃ y120:Bool,bT (o1.1,o1.2.1,x63,o1.2.2.2) (⟨#[92,125]⟩:ByteArray) y120∧kX y19 o1 x63 x3 y25 x64 ((!y120) || ((!(decide (x64=(-1)))) && (decide (x64<y25.1)))) r
def iL (o1:T0t×(List UInt8)×Int×T5t) (y19:T8t) (x3:Int) (y25:Int×Int×Int) (x87:Int) (x88:Int) (r:Int×T8t×T3t):Prop:=
 InR (x87+1)∧fK o1 y19 x3 y25 (x87+1) x88 r
def fL (y25:Int×Int×Int) (o1:T0t×(List UInt8)×Int×T5t) (y19:T8t) (x3:Int) (x71:Bool) (r:Int×T8t×T3t):Prop:=
 ((x71=true→InR (y25.2.1+1)∧∃ y91:Int×Int×Int,fX o1.2.1 (y25.2.1+1) 255 y91∧((y91.2.2=0→InR (y91.2.1 - 1)∧iL o1 y19 x3 y25 (y91.2.1 - 1) y91.1 r)∧(¬ (y91.2.2=0)→((¬ (y91.2.2=9)→r=(0,y19,o1))∧(¬ (¬ (y91.2.2=9))→iL o1 y19 x3 y25 y25.2.1 (-1) r)))))∧(¬ (x71=true)→fK o1 y19 x3 y25 y25.2.1 y25.1 r))
def jj (o1:T0t×(List UInt8)×Int×T5t) (x3:Int) (r:Int×T8t×T3t):Prop:=
 ∃ y12:Bool,bT o1 (⟨#[42]⟩:ByteArray) y12∧((y12=true→InR (o1.2.2.1+1)∧∃ y16:Int×T3t,fv (o1.1,o1.2.1,(o1.2.2.1+1),o1.2.2.2) x3 0 (-1) y16∧r=(y16.1,([]:List (Int×Int)),y16.2))∧(¬ (y12=true)→∃ y19:T8t,bR o1 13 y19∧InR (o1.2.2.1+2)∧∃ y25:Int×Int×Int,fX o1.2.1 (o1.2.2.1+2) 255 y25∧((¬ (y25.2.2=0)→r=(0,y19,o1))∧(¬ (¬ (y25.2.2=0))→((y25.2.1<(o1.2.1.length:Int)→0≤(y25.2.1:Int)∧∃ y75:UInt8,o1.2.1[(y25.2.1:Int).toNat]? =some y75∧fL y25 o1 y19 x3 (decide ((y75.toNat:Int)=44)) r)∧(¬ (y25.2.1<(o1.2.1.length:Int))→fL y25 o1 y19 x3 false r))))))
set_option maxHeartbeats 4000000 in
theorem Gk ⦃o1: T0t × (List UInt8) × Int × T5t⦄ ⦃x3: Int⦄ ⦃r: Int × T8t × T3t⦄ (h: jj o1 x3 r) (bx0: Nat) (ia2: Option (Nat × Nat)) : Cn Tryz.prog 70 [pw bx0, iv x3] [⟨bx0, 66, ([.sl 10 (some ia2) (List.map aa o1.1.1), iv o1.1.2, sb o1.2.1, iv o1.2.2.1] ++ (List.map eB o1.2.2.2.l).flatten)⟩] [⟨ia2, 43, 10, o1.1.1.length⟩] fun rr bx tk=>∃ j1, rr=.tup [iv r.1, .pt (List.isEmpty r.2.1) (aO r.2.1)] ∧ bx=[⟨bx0, 66, ([.sl 10 (some j1) (List.map aa r.2.2.1.1), iv r.2.2.1.2, sb r.2.2.2.1, iv r.2.2.2.2.1] ++ (List.map eB r.2.2.2.2.2.l).flatten)⟩] ∧ tk=[⟨j1, 43, 10, r.2.2.1.1.length⟩] := by
 refine al Tryz.func70 rfl rfl (by kernel_rfl) fun g hg=>?_;simp only [Tryz.ntmps70,av];refine c0_ oP h fun y12 h=>?_;refine i_ h (fun h=>?_) fun h=>?_
 ·refine c1_ D2 h fun y16 i17 h=>?_;exact r_ h hg
 refine c0_ ni h fun y19 h=>?_;refine wn_ 4 h fun h=>?_;refine az (m := 17) (by kernel_rfl) rfl ?_;obtain ⟨h23, h⟩ := h;obtain ⟨y25, h24, h⟩ := h;refine o_ [0,1,2,4,5,6,7,8,3] ?_;refine aG (i := 9) (by kernel_rfl) rfl ?_;refine cM xq h24 ?_;refine o_ [10,11,12,13,14,15,16] ?_;refine aB (by kernel_rfl) ?_;refine i_ h (fun h=>?_) fun h=>?_
 ·exact r_ h hg
 refine wn_ 8 h fun h=>?_;refine ax (fun σ=>∃ x63 x64, fK o1 y19 x3 y25 x63 x64 r ∧ σ=⟨[(0, pw bx0), (1, iv x3), (6, .pt (List.isEmpty y19) (aO y19)), (7, iv y25.1), (8, iv x63), (10, iv x64)], [⟨bx0, 66, ([.sl 10 (some ia2) (List.map aa o1.1.1), iv o1.1.2, sb o1.2.1, iv o1.2.2.1] ++ (List.map eB o1.2.2.2.l).flatten)⟩], [⟨ia2, 43, 10, o1.1.1.length⟩]⟩) ?_ ?_
 ·refine ax (fun σ=>∃ x71, fL y25 o1 y19 x3 x71 r ∧ σ=⟨[(0, pw bx0), (1, iv x3), (6, .pt (List.isEmpty y19) (aO y19)), (7, iv y25.1), (8, iv y25.2.1), (10, iv y25.1), (64, bv x71)], [⟨bx0, 66, ([.sl 10 (some ia2) (List.map aa o1.1.1), iv o1.1.2, sb o1.2.1, iv o1.2.2.1] ++ (List.map eB o1.2.2.2.l).flatten)⟩], [⟨ia2, 43, 10, o1.1.1.length⟩]⟩) ?_ ?_
  ·refine is_ 55 h (fun h=>?_) fun h=>?_
   ·refine x_ h fun y75 h=>?_;exact m_ h
   exact m_ h
  rintro _ ⟨x71,h,rfl⟩;refine i_ h (fun h=>?_) fun h=>?_
  ·refine wn_ 5 h fun h=>?_;refine ax (fun σ=>∃ x87 x88, iL o1 y19 x3 y25 x87 x88 r ∧ σ=⟨[(0, pw bx0), (1, iv x3), (6, .pt (List.isEmpty y19) (aO y19)), (7, iv y25.1), (8, iv x87), (10, iv x88)], [⟨bx0, 66, ([.sl 10 (some ia2) (List.map aa o1.1.1), iv o1.1.2, sb o1.2.1, iv o1.2.2.1] ++ (List.map eB o1.2.2.2.l).flatten)⟩], [⟨ia2, 43, 10, o1.1.1.length⟩]⟩) ?_ ?_
   ·refine z0_ xq h fun y91 h=>?_;refine i_ h (fun h=>?_) fun h=>?_
    ·exact m_ h
    refine i_ h (fun h=>?_) fun h=>?_
    ·exact r_ h hg
    exact m_ h
   rintro _ ⟨x87,x88,h,rfl⟩;exact m_ h
  exact m_ h
 rintro _ ⟨x63,x64,h,rfl⟩;refine wn_ 10 h fun h=>?_;refine ax (fun σ=>∃ x118, kX y19 o1 x63 x3 y25 x64 x118 r ∧ σ=⟨[(0, pw bx0), (1, iv x3), (6, .pt (List.isEmpty y19) (aO y19)), (7, iv y25.1), (10, iv x64), (101, bv x118)], [⟨bx0, 66, ([.sl 10 (some ia2) (List.map aa o1.1.1), iv o1.1.2, sb o1.2.1, iv x63] ++ (List.map eB o1.2.2.2.l).flatten)⟩], [⟨ia2, 43, 10, o1.1.1.length⟩]⟩) ?_ ?_
 ·refine c0_ oP h fun y120 h=>?_;refine ks_ 93 h (fun h=>?_) fun h=>?_
  ·exact m_ h
  refine ks_ 96 h (fun h=>?_) fun h=>?_
  ·exact m_ h
  exact m_ h
 rintro _ ⟨x118,h,rfl⟩;refine i_ h (fun h=>?_) fun h=>?_
 ·exact r_ h hg
 refine c1_ D2 h fun y128 i129 h=>?_;exact r_ h hg
def jz (o1:T0t×(List UInt8)×Int×T5t) (r:Bool):Prop:=
 InR (o1.2.2.1+1)∧(((o1.2.2.1+1)=(o1.2.1.length:Int)→r=true)∧(¬ ((o1.2.2.1+1)=(o1.2.1.length:Int))→∃ y14:Bool,bT o1 (⟨#[36,92,41]⟩:ByteArray) y14∧r=y14))
set_option maxHeartbeats 4000000 in
theorem Gl ⦃o1: T0t × (List UInt8) × Int × T5t⦄ ⦃r: Bool⦄ (h: jz o1 r) (bx0: Nat) (ia2: Option (Nat × Nat)) : Cn Tryz.prog 92 [pw bx0] [⟨bx0, 66, ([.sl 10 (some ia2) (List.map aa o1.1.1), iv o1.1.2, sb o1.2.1, iv o1.2.2.1] ++ (List.map eB o1.2.2.2.l).flatten)⟩] [⟨ia2, 43, 10, o1.1.1.length⟩] fun rr bx tk=>rr=bv r ∧ bx=[⟨bx0, 66, ([.sl 10 (some ia2) (List.map aa o1.1.1), iv o1.1.2, sb o1.2.1, iv o1.2.2.1] ++ (List.map eB o1.2.2.2.l).flatten)⟩] ∧ tk=[⟨ia2, 43, 10, o1.1.1.length⟩] := by
 refine al Tryz.func92 rfl rfl (by kernel_rfl) fun g hg=>?_;simp only [Tryz.ntmps92,av];refine wn_ 6 h fun h=>?_;refine az (m := 16) (by kernel_rfl) rfl ?_;obtain ⟨h9, h⟩ := h;refine o_ [0,1,2,5,6,7,3,4,8,9,10,11] ?_;refine ip_ 14 h (fun h=>?_) fun h=>?_
 ·refine o_ [12,13,14,15] ?_;refine aB (by kernel_rfl) ?_;exact r_ h hg
 obtain ⟨y14, h13, h⟩ := h;refine o_ [12] ?_;refine aG (i := 13) (by kernel_rfl) rfl ?_;refine A8 oP h13 ?_;refine o_ [14,15] ?_;refine aB (by kernel_rfl) ?_;exact r_ h hg
def ik (o1:T0t×(List UInt8)×Int×T5t) (r:Int×T3t):Prop:=
 ∃ y4:Int×T3t,bI o1 (8,0,0,0,0,0,(Arr.rep 4 (0:UInt64))) y4∧r=(y4.1,y4.2)
set_option maxHeartbeats 4000000 in
theorem Gm ⦃o1: T0t × (List UInt8) × Int × T5t⦄ ⦃r: Int × T3t⦄ (h: ik o1 r) (bx0: Nat) (ia2: Option (Nat × Nat)) : Cn Tryz.prog 86 [pw bx0] [⟨bx0, 66, ([.sl 10 (some ia2) (List.map aa o1.1.1), iv o1.1.2, sb o1.2.1, iv o1.2.2.1] ++ (List.map eB o1.2.2.2.l).flatten)⟩] [⟨ia2, 43, 10, o1.1.1.length⟩] fun rr bx tk=>∃ j1, rr=iv r.1 ∧ bx=[⟨bx0, 66, ([.sl 10 (some j1) (List.map aa r.2.1.1), iv r.2.1.2, sb r.2.2.1, iv r.2.2.2.1] ++ (List.map eB r.2.2.2.2.l).flatten)⟩] ∧ tk=[⟨j1, 43, 10, r.2.1.1.length⟩] := by
 refine al Tryz.func86 rfl rfl (by kernel_rfl) fun g hg=>?_;simp only [Tryz.ntmps86,av];refine wn_ 8 h fun h=>?_;refine vp_ (aw (cs := ([iv 8, iv 0, iv 0, iv 0, iv 0, iv 0] ++ (List.map ew ((Arr.rep 4 (0 : UInt64))).l).flatten)) aQ.h rfl (by refine ao [] [iv 0] ([iv 0, iv 0, iv 0, iv 0, iv 0] ++ (List.map ew ((Arr.rep 4 (0 : UInt64))).l).flatten) sq_ sl_ sl_ sl_ rfl rfl ?_; exact congrArg some sq_)) ?_
 refine c1_ pL h fun y4 i5 h=>?_;exact r_ h hg
def gO (o1:T0t×(List UInt8)×Int×T5t) (gv3:Int) (r:Int×T3t):Prop:=
 ∃ y5:Int×T3t,bI o1 (6,0,0,0,0,gv3,(Arr.rep 4 (0:UInt64))) y5∧r=(y5.1,y5.2)
set_option maxHeartbeats 4000000 in
theorem Gn ⦃o1: T0t × (List UInt8) × Int × T5t⦄ ⦃gv3: Int⦄ ⦃r: Int × T3t⦄ (h: gO o1 gv3 r) (bx0: Nat) (ia2: Option (Nat × Nat)) : Cn Tryz.prog 110 [pw bx0, iv gv3] [⟨bx0, 66, ([.sl 10 (some ia2) (List.map aa o1.1.1), iv o1.1.2, sb o1.2.1, iv o1.2.2.1] ++ (List.map eB o1.2.2.2.l).flatten)⟩] [⟨ia2, 43, 10, o1.1.1.length⟩] fun rr bx tk=>∃ j1, rr=iv r.1 ∧ bx=[⟨bx0, 66, ([.sl 10 (some j1) (List.map aa r.2.1.1), iv r.2.1.2, sb r.2.2.1, iv r.2.2.2.1] ++ (List.map eB r.2.2.2.2.l).flatten)⟩] ∧ tk=[⟨j1, 43, 10, r.2.1.1.length⟩] := by
 refine al Tryz.func110 rfl rfl (by kernel_rfl) fun g hg=>?_;simp only [Tryz.ntmps110,av];refine wn_ 9 h fun h=>?_;refine vp_ (aw (cs := ([iv 6, iv 0, iv 0, iv 0, iv 0, iv gv3] ++ (List.map ew ((Arr.rep 4 (0 : UInt64))).l).flatten)) aQ.h rfl (by refine ao [] [iv 0] ([iv 0, iv 0, iv 0, iv 0, iv 0] ++ (List.map ew ((Arr.rep 4 (0 : UInt64))).l).flatten) sq_ sl_ sl_ sl_ rfl rfl ?_; refine ao [iv 6, iv 0, iv 0, iv 0, iv 0] [iv 0] ((List.map ew ((Arr.rep 4 (0 : UInt64))).l).flatten) sq_ sl_ sl_ sl_ rfl rfl ?_; exact congrArg some sq_)) ?_
 refine c1_ pL h fun y5 i6 h=>?_;exact r_ h hg
def jY (o1:T0t×(List UInt8)×Int×T5t) (r:Int×T3t):Prop:=
 ((9≤o1.1.2→r=((-1),o1))∧(¬ (9≤o1.1.2)→InR (o1.1.2+1)∧r=((o1.1.2+1),((o1.1.1,(o1.1.2+1)),o1.2.1,o1.2.2.1,o1.2.2.2))))
set_option maxHeartbeats 4000000 in
theorem Gp ⦃o1: T0t × (List UInt8) × Int × T5t⦄ ⦃r: Int × T3t⦄ (h: jY o1 r) (bx0: Nat) (ia2: Option (Nat × Nat)) : Cn Tryz.prog 125 [pw bx0] [⟨bx0, 66, ([.sl 10 (some ia2) (List.map aa o1.1.1), iv o1.1.2, sb o1.2.1, iv o1.2.2.1] ++ (List.map eB o1.2.2.2.l).flatten)⟩] [⟨ia2, 43, 10, o1.1.1.length⟩] fun rr bx tk=>∃ j1, rr=iv r.1 ∧ bx=[⟨bx0, 66, ([.sl 10 (some j1) (List.map aa r.2.1.1), iv r.2.1.2, sb r.2.2.1, iv r.2.2.2.1] ++ (List.map eB r.2.2.2.2.l).flatten)⟩] ∧ tk=[⟨j1, 43, 10, r.2.1.1.length⟩] := by
 refine al Tryz.func125 rfl rfl (by kernel_rfl) fun g hg=>?_;simp only [Tryz.ntmps125,av];refine i_ h (fun h=>?_) fun h=>?_
 ·exact r_ h hg
 exact r_ h hg
def gm (o1:T0t×(List UInt8)×Int×T5t) (gv3:Int) (a4:Int) (r:Int×T3t):Prop:=
 ∃ y6:Int×T3t,bI o1 (5,a4,0,0,0,gv3,(Arr.rep 4 (0:UInt64))) y6∧r=(y6.1,y6.2)
set_option maxHeartbeats 4000000 in
theorem Gq ⦃o1: T0t × (List UInt8) × Int × T5t⦄ ⦃gv3: Int⦄ ⦃a4: Int⦄ ⦃r: Int × T3t⦄ (h: gm o1 gv3 a4 r) (bx0: Nat) (ia2: Option (Nat × Nat)) : Cn Tryz.prog 126 [pw bx0, iv gv3, iv a4] [⟨bx0, 66, ([.sl 10 (some ia2) (List.map aa o1.1.1), iv o1.1.2, sb o1.2.1, iv o1.2.2.1] ++ (List.map eB o1.2.2.2.l).flatten)⟩] [⟨ia2, 43, 10, o1.1.1.length⟩] fun rr bx tk=>∃ j1, rr=iv r.1 ∧ bx=[⟨bx0, 66, ([.sl 10 (some j1) (List.map aa r.2.1.1), iv r.2.1.2, sb r.2.2.1, iv r.2.2.2.1] ++ (List.map eB r.2.2.2.2.l).flatten)⟩] ∧ tk=[⟨j1, 43, 10, r.2.1.1.length⟩] := by
 refine al Tryz.func126 rfl rfl (by kernel_rfl) fun g hg=>?_;simp only [Tryz.ntmps126,av];refine wn_ 10 h fun h=>?_;refine vp_ (aw (cs := ([iv 5, iv a4, iv 0, iv 0, iv 0, iv gv3] ++ (List.map ew ((Arr.rep 4 (0 : UInt64))).l).flatten)) aQ.h rfl (by refine ao [] [iv 0] ([iv 0, iv 0, iv 0, iv 0, iv 0] ++ (List.map ew ((Arr.rep 4 (0 : UInt64))).l).flatten) sq_ sl_ sl_ sl_ rfl rfl ?_; refine ao [iv 5] [iv 0] ([iv 0, iv 0, iv 0, iv 0] ++ (List.map ew ((Arr.rep 4 (0 : UInt64))).l).flatten) sq_ sl_ sl_ sl_ rfl rfl ?_; refine ao [iv 5, iv a4, iv 0, iv 0, iv 0] [iv 0] ((List.map ew ((Arr.rep 4 (0 : UInt64))).l).flatten) sq_ sl_ sl_ sl_ rfl rfl ?_; exact congrArg some sq_)) ?_
 refine c1_ pL h fun y6 i7 h=>?_;exact r_ h hg
def et (x3:Bool) (x144:List Int) (f146:List T4t) (f148:Int) (f149:List UInt8) (f150:Int) (f151:Arr 10 (Bool)) (r:Int×T8t×T3t):Prop:=
 (((x3==(decide (f150=(f149.length:Int))))=true→∃ y271:T8t,bR ((f146,f148),f149,f150,f151) 14 y271∧r=(0,y271,((f146,f148),f149,f150,f151)))∧(¬ ((x3==(decide (f150=(f149.length:Int))))=true)→∃ y273:Int×T3t,ij ((f146,f148),f149,f150,f151) x144 y273∧((y273.1<0→∃ y282:T8t,bR y273.2 8 y282∧r=(0,y282,y273.2))∧(¬ (y273.1<0)→r=(y273.1,([]:List (Int×Int)),y273.2)))))
def kY (c_q5q:T3t→(Bool)→T6t→Prop) (x3:Bool) (ag3:((List Int)×Bool×(List T4t)×Int×(List UInt8)×Int×T5t)→Prop) (x183:List Int) (x185:Bool) (f186:List T4t) (f188:Int) (f189:List UInt8) (f190:Int) (f191:Arr 10 (Bool)) (r:Int×T8t×T3t):Prop:=
 ((f190<(f189.length:Int)→∃ y243:Bool,bT ((f186,f188),f189,f190,f191) (⟨#[92,41]⟩:ByteArray) y243∧((¬ (y243=true)→∃ y246:Int×T8t×T3t,c_q5q ((f186,f188),f189,f190,f191) x185 y246∧((¬ ((List.isEmpty y246.2.1)=true)→r=(0,y246.2.1,y246.2.2))∧(¬ (¬ ((List.isEmpty y246.2.1)=true))→ef (x183.length+([y246.1]).length) 8∧ag3 ((x183++[y246.1]),false,y246.2.2.1.1,y246.2.2.1.2,y246.2.2.2.1,y246.2.2.2.2.1,y246.2.2.2.2.2))))∧(¬ (¬ (y243=true))→et x3 x183 f186 f188 f189 f190 f191 r)))∧(¬ (f190<(f189.length:Int))→et x3 x183 f186 f188 f189 f190 f191 r))
def fM (c_q5q:T3t→(Bool)→T6t→Prop) (x3:Bool) (x19:List Int) (f21:List T4t) (f23:Int) (f24:List UInt8) (f25:Int) (f26:Arr 10 (Bool)) (r:Int×T8t×T3t):Prop:=
 ba (fun ag3 s=>kY c_q5q x3 ag3 s.1 s.2.1 s.2.2.1 s.2.2.2.1 s.2.2.2.2.1 s.2.2.2.2.2.1 s.2.2.2.2.2.2 r) (x19,true,f21,f23,f24,f25,f26)
def lA (_c_q6q:T3t→(Bool)→T6t→Prop) (c_q5q:T3t→(Bool)→T6t→Prop) (_c_q7q:T3t→T6t→Prop) (_c_q8q:T3t→T6t→Prop) (_c_q9q:T3t→T6t→Prop) (o1:T0t×(List UInt8)×Int×T5t) (x3:Bool) (r:Int×T8t×T3t):Prop:=
 ∃ y28:Bool,bT o1 (⟨#[94]⟩:ByteArray) y28∧((y28=true→InR (o1.2.2.1+1)∧∃ y32:Int×T3t,ii (o1.1,o1.2.1,(o1.2.2.1+1),o1.2.2.2) y32∧ef (([y32.1]).length) 8∧0≤(0:Int)∧∃ y36:Int,([y32.1])[(0:Int).toNat]? =some y36∧((y36<0→∃ y41:T8t,bR y32.2 8 y41∧r=(0,y41,y32.2))∧(¬ (y36<0)→fM c_q5q x3 ([y32.1]) y32.2.1.1 y32.2.1.2 y32.2.2.1 y32.2.2.2.1 y32.2.2.2.2 r)))∧(¬ (y28=true)→fM c_q5q x3 ([]:List Int) o1.1.1 o1.1.2 o1.2.1 o1.2.2.1 o1.2.2.2 r))
def jk (k240:Int) (f242:List T4t) (f244:Int) (f245:List UInt8) (f246:Int) (f247:Arr 10 (Bool)) (w344:List (Int×Int)) (r:Int×T8t×T3t):Prop:=
 r=(k240,w344,((f242,f244),f245,f246,f247))
def lB (f242:List T4t) (f244:Int) (f245:List UInt8) (f246:Int) (f247:Arr 10 (Bool)) (k240:Int) (w241:List (Int×Int)) (x348:Bool) (r:Int×T8t×T3t):Prop:=
 ((x348=true→∃ y354:T8t,bR ((f242,f244),f245,f246,f247) 8 y354∧jk k240 f242 f244 f245 f246 f247 y354 r)∧(¬ (x348=true)→jk k240 f242 f244 f245 f246 f247 w241 r))
def cZ (f242:List T4t) (f244:Int) (f245:List UInt8) (f246:Int) (f247:Arr 10 (Bool)) (k240:Int) (ag4:(Int×T8t×(List T4t)×Int×(List UInt8)×Int×T5t)→Prop) (w241:List (Int×Int)) (x320:Bool) (r:Int×T8t×T3t):Prop:=
 ((x320=true→∃ y332:Int×T8t×T3t,jj ((f242,f244),f245,f246,f247) k240 y332∧ag4 (y332.1,y332.2.1,y332.2.2.1.1,y332.2.2.1.2,y332.2.2.2.1,y332.2.2.2.2.1,y332.2.2.2.2.2))∧(¬ (x320=true)→lB f242 f244 f245 f246 f247 k240 w241 ((List.isEmpty w241) && (decide (k240<0))) r))
def lC (ag4:(Int×T8t×(List T4t)×Int×(List UInt8)×Int×T5t)→Prop) (k240:Int) (w241:List (Int×Int)) (f242:List T4t) (f244:Int) (f245:List UInt8) (f246:Int) (f247:Arr 10 (Bool)) (r:Int×T8t×T3t):Prop:=
 (((List.isEmpty w241)=true→((0≤k240→∃ y326:Bool,bT ((f242,f244),f245,f246,f247) (⟨#[42]⟩:ByteArray) y326∧((y326=true→cZ f242 f244 f245 f246 f247 k240 ag4 w241 true r)∧(¬ (y326=true)→∃ y329:Bool,bT ((f242,f244),f245,f246,f247) (⟨#[92,123]⟩:ByteArray) y329∧cZ f242 f244 f245 f246 f247 k240 ag4 w241 y329 r)))∧(¬ (0≤k240)→cZ f242 f244 f245 f246 f247 k240 ag4 w241 false r)))∧(¬ ((List.isEmpty w241)=true)→cZ f242 f244 f245 f246 f247 k240 ag4 w241 false r))
def gf (k38:Int) (w39:List (Int×Int)) (f40:List T4t) (f42:Int) (f43:List UInt8) (f44:Int) (f45:Arr 10 (Bool)) (r:Int×T8t×T3t):Prop:=
 ba (fun ag4 s=>lC ag4 s.1 s.2.1 s.2.2.1 s.2.2.2.1 s.2.2.2.2.1 s.2.2.2.2.2.1 s.2.2.2.2.2.2 r) (k38,w39,f40,f42,f43,f44,f45)
def gg (o1:T0t×(List UInt8)×Int×T5t) (c_q7q:T3t→T6t→Prop) (x49:Bool) (r:Int×T8t×T3t):Prop:=
 ((x49=true→∃ y55:Int×T3t,eT o1 (42:UInt8) y55∧gf y55.1 ([]:List (Int×Int)) y55.2.1.1 y55.2.1.2 y55.2.2.1 y55.2.2.2.1 y55.2.2.2.2 r)∧(¬ (x49=true)→∃ y58:Int×T8t×T3t,c_q7q o1 y58∧gf y58.1 y58.2.1 y58.2.2.1.1 y58.2.2.1.2 y58.2.2.2.1 y58.2.2.2.2.1 y58.2.2.2.2.2 r))
def gh (o1:T0t×(List UInt8)×Int×T5t) (first3:Bool) (c_q7q:T3t→T6t→Prop) (x17:Bool) (r:Int×T8t×T3t):Prop:=
 ((x17=true→∃ y23:T8t,bR o1 13 y23∧r=(0,y23,o1))∧(¬ (x17=true)→((first3=true→∃ y52:Bool,bT o1 (⟨#[42]⟩:ByteArray) y52∧gg o1 c_q7q y52 r)∧(¬ (first3=true)→gg o1 c_q7q false r))))
def mw (_c_q6q:T3t→(Bool)→T6t→Prop) (_c_q5q:T3t→(Bool)→T6t→Prop) (c_q7q:T3t→T6t→Prop) (_c_q8q:T3t→T6t→Prop) (_c_q9q:T3t→T6t→Prop) (o1:T0t×(List UInt8)×Int×T5t) (first3:Bool) (r:Int×T8t×T3t):Prop:=
 ((first3=true→∃ y20:Bool,bT o1 (⟨#[92,123]⟩:ByteArray) y20∧gh o1 first3 c_q7q y20 r)∧(¬ (first3=true)→gh o1 first3 c_q7q false r))
def gG (o1:T0t×(List UInt8)×Int×T5t) (y5:UInt8) (x109:Bool) (r:Int×T8t×T3t):Prop:=
 ((x109=true→InR (o1.2.2.1+1)∧∃ y117:Int×T3t,ik (o1.1,o1.2.1,(o1.2.2.1+1),o1.2.2.2) y117∧r=(y117.1,([]:List (Int×Int)),y117.2))∧(¬ (x109=true)→∃ y120:Int×T3t,eT o1 y5 y120∧r=(y120.1,([]:List (Int×Int)),y120.2)))
def mR (_c_q6q:T3t→(Bool)→T6t→Prop) (_c_q5q:T3t→(Bool)→T6t→Prop) (_c_q7q:T3t→T6t→Prop) (c_q8q:T3t→T6t→Prop) (_c_q9q:T3t→T6t→Prop) (o1:T0t×(List UInt8)×Int×T5t) (r:Int×T8t×T3t):Prop:=
 0≤(o1.2.2.1:Int)∧∃ y5:UInt8,o1.2.1[(o1.2.2.1:Int).toNat]? =some y5∧(((y5.toNat:Int)=92→∃ y66:Int×T8t×T3t,c_q8q o1 y66∧r=(y66.1,y66.2.1,y66.2.2))∧(¬ ((y5.toNat:Int)=92)→(((y5.toNat:Int)=46→InR (o1.2.2.1+1)∧∃ y77:T7t,je (Arr.rep 4 (0:UInt64)) y77∧∃ y79:Int×T3t,ea (o1.1,o1.2.1,(o1.2.2.1+1),o1.2.2.2) y77 y79∧r=(y79.1,([]:List (Int×Int)),y79.2))∧(¬ ((y5.toNat:Int)=46)→(((y5.toNat:Int)=91→InR (o1.2.2.1+1)∧∃ y89:T7t×Int×Int,iZ o1.2.1 (o1.2.2.1+1) y89∧((¬ (y89.2.2=0)→∃ y98:T8t,bR o1 y89.2.2 y98∧r=(0,y98,o1))∧(¬ (¬ (y89.2.2=0))→∃ y103:Int×T3t,ea (o1.1,o1.2.1,y89.2.1,o1.2.2.2) y89.1 y103∧r=(y103.1,([]:List (Int×Int)),y103.2))))∧(¬ ((y5.toNat:Int)=91)→(((y5.toNat:Int)=36→∃ y113:Bool,jz o1 y113∧gG o1 y5 y113 r)∧(¬ ((y5.toNat:Int)=36)→gG o1 y5 false r))))))))
def kZ (y25:UInt8) (o1:T0t×(List UInt8)×Int×T5t) (y28:Bool×Bool) (x76:Bool) (r:Int×T8t×T3t):Prop:=
 ((x76=true→∃ c82:UInt8,(c82.toNat:Int)=IntKind.u8.wrap ((y25.toNat:Int) - 48)∧(0≤((c82.toNat:Int):Int)∧((c82.toNat:Int):Int)<10)∧∃ y90:Bool,o1.2.2.2.l[((c82.toNat:Int):Int).toNat]? =some y90∧((¬ (y90=true)→∃ y93:T8t,bR o1 16 y93∧r=(0,y93,o1))∧(¬ (¬ (y90=true))→InR (o1.2.2.1+2)∧∃ y96:Int×T3t,gO (o1.1,o1.2.1,(o1.2.2.1+2),o1.2.2.2) (c82.toNat:Int) y96∧r=(y96.1,([]:List (Int×Int)),y96.2))))∧(¬ (x76=true)→(((y25.toNat:Int)=110→InR (o1.2.2.1+1)∧∃ y102:Int×T3t,eT (o1.1,o1.2.1,(o1.2.2.1+1),o1.2.2.2) (10:UInt8) y102∧r=(y102.1,([]:List (Int×Int)),y102.2))∧(¬ ((y25.toNat:Int)=110)→((y28.1=true→∃ y106:T8t,bR o1 10 y106∧r=(0,y106,o1))∧(¬ (y28.1=true)→InR (o1.2.2.1+1)∧∃ y109:Int×T3t,eT (o1.1,o1.2.1,(o1.2.2.1+1),o1.2.2.2) y25 y109∧r=(y109.1,([]:List (Int×Int)),y109.2)))))))
def lD (_c_q6q:T3t→(Bool)→T6t→Prop) (_c_q5q:T3t→(Bool)→T6t→Prop) (_c_q7q:T3t→T6t→Prop) (_c_q8q:T3t→T6t→Prop) (c_q9q:T3t→T6t→Prop) (o1:T0t×(List UInt8)×Int×T5t) (r:Int×T8t×T3t):Prop:=
 InR (o1.2.2.1+1)∧(((o1.2.2.1+1)=(o1.2.1.length:Int)→∃ y20:T8t,bR o1 10 y20∧r=(0,y20,o1))∧(¬ ((o1.2.2.1+1)=(o1.2.1.length:Int))→InR (o1.2.2.1+1)∧0≤((o1.2.2.1+1):Int)∧∃ y25:UInt8,o1.2.1[((o1.2.2.1+1):Int).toNat]? =some y25∧∃ y28:Bool×Bool,jP (⟨#[97,108,110,117,109]⟩:ByteArray) y25 y28∧(((y25.toNat:Int)=40→∃ y71:Int×T8t×T3t,c_q9q o1 y71∧r=(y71.1,y71.2.1,y71.2.2))∧(¬ ((y25.toNat:Int)=40)→kZ y25 o1 y28 ((decide (49≤(y25.toNat:Int))) && (decide ((y25.toNat:Int)≤57))) r))))
def my (c_q6q:T3t→(Bool)→T6t→Prop) (_c_q5q:T3t→(Bool)→T6t→Prop) (_c_q7q:T3t→T6t→Prop) (_c_q8q:T3t→T6t→Prop) (_c_q9q:T3t→T6t→Prop) (o1:T0t×(List UInt8)×Int×T5t) (r:Int×T8t×T3t):Prop:=
 ∃ y4:Int×T3t,jY o1 y4∧((y4.1<0→∃ y13:T8t,bR y4.2 17 y13∧r=(0,y13,y4.2))∧(¬ (y4.1<0)→InR (y4.2.2.2.1+2)∧∃ y16:Int×T8t×T3t,c_q6q (y4.2.1,y4.2.2.1,(y4.2.2.2.1+2),y4.2.2.2.2) true y16∧((¬ ((List.isEmpty y16.2.1)=true)→r=(0,y16.2.1,y16.2.2))∧(¬ (¬ ((List.isEmpty y16.2.1)=true))→InR (y16.2.2.2.2.1+2)∧(0≤(y4.1:Int)∧(y4.1:Int)<10)∧∃ y24:Bool,y16.2.2.2.2.2.l[(y4.1:Int).toNat]? =some y24∧∃ y26:Int×T3t,gm (y16.2.2.1,y16.2.2.2.1,(y16.2.2.2.2.1+2),(Arr.set y16.2.2.2.2.2 (y4.1:Int).toNat true)) y4.1 y16.1 y26∧r=(y26.1,([]:List (Int×Int)),y26.2)))))
def gn (S1:Nat→T3t→(Bool)→T6t→Prop) (S2:Nat→T3t→(Bool)→T6t→Prop) (S3:Nat→T3t→T6t→Prop) (S4:Nat→T3t→T6t→Prop) (S5:Nat→T3t→T6t→Prop):Prop:=
 (∀ (m:Nat) (o1:T0t×(List UInt8)×Int×T5t) (x3:Bool) (r:Int×T8t×T3t),S1 m o1 x3 r→lA (fun a0 a1 r=>∃ m',m'<m∧S1 m' a0 a1 r) (fun a0 a1 r=>∃ m',m'<m∧S2 m' a0 a1 r) (fun a0 r=>∃ m',m'<m∧S3 m' a0 r) (fun a0 r=>∃ m',m'<m∧S4 m' a0 r) (fun a0 r=>∃ m',m'<m∧S5 m' a0 r) o1 x3 r)∧(∀ (m:Nat) (o1:T0t×(List UInt8)×Int×T5t) (first3:Bool) (r:Int×T8t×T3t),S2 m o1 first3 r→mw (fun a0 a1 r=>∃ m',m'<m∧S1 m' a0 a1 r) (fun a0 a1 r=>∃ m',m'<m∧S2 m' a0 a1 r) (fun a0 r=>∃ m',m'<m∧S3 m' a0 r) (fun a0 r=>∃ m',m'<m∧S4 m' a0 r) (fun a0 r=>∃ m',m'<m∧S5 m' a0 r) o1 first3 r)∧(∀ (m:Nat) (o1:T0t×(List UInt8)×Int×T5t) (r:Int×T8t×T3t),S3 m o1 r→mR (fun a0 a1 r=>∃ m',m'<m∧S1 m' a0 a1 r) (fun a0 a1 r=>∃ m',m'<m∧S2 m' a0 a1 r) (fun a0 r=>∃ m',m'<m∧S3 m' a0 r) (fun a0 r=>∃ m',m'<m∧S4 m' a0 r) (fun a0 r=>∃ m',m'<m∧S5 m' a0 r) o1 r)∧(∀ (m:Nat) (o1:T0t×(List UInt8)×Int×T5t) (r:Int×T8t×T3t),S4 m o1 r→lD (fun a0 a1 r=>∃ m',m'<m∧S1 m' a0 a1 r) (fun a0 a1 r=>∃ m',m'<m∧S2 m' a0 a1 r) (fun a0 r=>∃ m',m'<m∧S3 m' a0 r) (fun a0 r=>∃ m',m'<m∧S4 m' a0 r) (fun a0 r=>∃ m',m'<m∧S5 m' a0 r) o1 r)∧(∀ (m:Nat) (o1:T0t×(List UInt8)×Int×T5t) (r:Int×T8t×T3t),S5 m o1 r→my (fun a0 a1 r=>∃ m',m'<m∧S1 m' a0 a1 r) (fun a0 a1 r=>∃ m',m'<m∧S2 m' a0 a1 r) (fun a0 r=>∃ m',m'<m∧S3 m' a0 r) (fun a0 r=>∃ m',m'<m∧S4 m' a0 r) (fun a0 r=>∃ m',m'<m∧S5 m' a0 r) o1 r)
def lE (o1:T0t×(List UInt8)×Int×T5t) (x3:Bool) (r:Int×T8t×T3t):Prop:=∃ (S1:Nat→T3t→(Bool)→T6t→Prop) (S2:Nat→T3t→(Bool)→T6t→Prop) (S3:Nat→T3t→T6t→Prop) (S4:Nat→T3t→T6t→Prop) (S5:Nat→T3t→T6t→Prop),gn S1 S2 S3 S4 S5∧∃ m:Nat,S1 m o1 x3 r
abbrev cB (c:T3t→(Bool)→T6t→Prop):Prop:=∀ ⦃o1:T0t×(List UInt8)×Int×T5t⦄ ⦃x3:Bool⦄ ⦃r:Int×T8t×T3t⦄,c o1 x3 r→∀ (bx0:Nat) (ia2:Option (Nat×Nat)),Cn Tryz.prog 26 [pw bx0,bv x3] [⟨bx0,66,([.sl 10 (some ia2) (List.map aa o1.1.1),iv o1.1.2,sb o1.2.1,iv o1.2.2.1]++(List.map eB o1.2.2.2.l).flatten)⟩] [⟨ia2,43,10,o1.1.1.length⟩] fun rr bx tk=>∃ j1,rr=.tup [iv r.1,.pt (List.isEmpty r.2.1) (aO r.2.1)]∧bx=[⟨bx0,66,([.sl 10 (some j1) (List.map aa r.2.2.1.1),iv r.2.2.1.2,sb r.2.2.2.1,iv r.2.2.2.2.1]++(List.map eB r.2.2.2.2.2.l).flatten)⟩]∧tk=[⟨j1,43,10,r.2.2.1.1.length⟩]
abbrev dr (c:T3t→(Bool)→T6t→Prop):Prop:=∀ ⦃o1:T0t×(List UInt8)×Int×T5t⦄ ⦃first3:Bool⦄ ⦃r:Int×T8t×T3t⦄,c o1 first3 r→∀ (bx0:Nat) (ia2:Option (Nat×Nat)),Cn Tryz.prog 49 [pw bx0,bv first3] [⟨bx0,66,([.sl 10 (some ia2) (List.map aa o1.1.1),iv o1.1.2,sb o1.2.1,iv o1.2.2.1]++(List.map eB o1.2.2.2.l).flatten)⟩] [⟨ia2,43,10,o1.1.1.length⟩] fun rr bx tk=>∃ j1,rr=.tup [iv r.1,.pt (List.isEmpty r.2.1) (aO r.2.1)]∧bx=[⟨bx0,66,([.sl 10 (some j1) (List.map aa r.2.2.1.1),iv r.2.2.1.2,sb r.2.2.2.1,iv r.2.2.2.2.1]++(List.map eB r.2.2.2.2.2.l).flatten)⟩]∧tk=[⟨j1,43,10,r.2.2.1.1.length⟩]
abbrev dF (c:T3t→T6t→Prop):Prop:=∀ ⦃o1:T0t×(List UInt8)×Int×T5t⦄ ⦃r:Int×T8t×T3t⦄,c o1 r→∀ (bx0:Nat) (ia2:Option (Nat×Nat)),Cn Tryz.prog 69 [pw bx0] [⟨bx0,66,([.sl 10 (some ia2) (List.map aa o1.1.1),iv o1.1.2,sb o1.2.1,iv o1.2.2.1]++(List.map eB o1.2.2.2.l).flatten)⟩] [⟨ia2,43,10,o1.1.1.length⟩] fun rr bx tk=>∃ j1,rr=.tup [iv r.1,.pt (List.isEmpty r.2.1) (aO r.2.1)]∧bx=[⟨bx0,66,([.sl 10 (some j1) (List.map aa r.2.2.1.1),iv r.2.2.1.2,sb r.2.2.2.1,iv r.2.2.2.2.1]++(List.map eB r.2.2.2.2.2.l).flatten)⟩]∧tk=[⟨j1,43,10,r.2.2.1.1.length⟩]
abbrev da (c:T3t→T6t→Prop):Prop:=∀ ⦃o1:T0t×(List UInt8)×Int×T5t⦄ ⦃r:Int×T8t×T3t⦄,c o1 r→∀ (bx0:Nat) (ia2:Option (Nat×Nat)),Cn Tryz.prog 90 [pw bx0] [⟨bx0,66,([.sl 10 (some ia2) (List.map aa o1.1.1),iv o1.1.2,sb o1.2.1,iv o1.2.2.1]++(List.map eB o1.2.2.2.l).flatten)⟩] [⟨ia2,43,10,o1.1.1.length⟩] fun rr bx tk=>∃ j1,rr=.tup [iv r.1,.pt (List.isEmpty r.2.1) (aO r.2.1)]∧bx=[⟨bx0,66,([.sl 10 (some j1) (List.map aa r.2.2.1.1),iv r.2.2.1.2,sb r.2.2.2.1,iv r.2.2.2.2.1]++(List.map eB r.2.2.2.2.2.l).flatten)⟩]∧tk=[⟨j1,43,10,r.2.2.1.1.length⟩]
abbrev dt (c:T3t→T6t→Prop):Prop:=∀ ⦃o1:T0t×(List UInt8)×Int×T5t⦄ ⦃r:Int×T8t×T3t⦄,c o1 r→∀ (bx0:Nat) (ia2:Option (Nat×Nat)),Cn Tryz.prog 109 [pw bx0] [⟨bx0,66,([.sl 10 (some ia2) (List.map aa o1.1.1),iv o1.1.2,sb o1.2.1,iv o1.2.2.1]++(List.map eB o1.2.2.2.l).flatten)⟩] [⟨ia2,43,10,o1.1.1.length⟩] fun rr bx tk=>∃ j1,rr=.tup [iv r.1,.pt (List.isEmpty r.2.1) (aO r.2.1)]∧bx=[⟨bx0,66,([.sl 10 (some j1) (List.map aa r.2.2.1.1),iv r.2.2.1.2,sb r.2.2.2.1,iv r.2.2.2.2.1]++(List.map eB r.2.2.2.2.2.l).flatten)⟩]∧tk=[⟨j1,43,10,r.2.2.1.1.length⟩]
set_option maxHeartbeats 4000000 in
theorem nI {c_q6q} {c_q5q} {c_q7q} {c_q8q} {c_q9q} (_kc_bre_parser_branch: cB c_q6q) (kc_bre_parser_piece: dr c_q5q) (_kc_bre_parser_atom: dF c_q7q) (_kc_bre_parser_escape: da c_q8q) (_kc_bre_parser_group: dt c_q9q) : cB (lA c_q6q c_q5q c_q7q c_q8q c_q9q) := by
 intro o1 x3 r h bx0 ia2;refine al Tryz.func26 rfl rfl (by kernel_rfl) fun g hg=>?_;simp only [Tryz.ntmps26,av];refine wn_ 16 h fun h=>?_;refine ax (fun σ=>∃ x19 f21 f23 f24 f25 f26 i20 i22, fM c_q5q x3 x19 f21 f23 f24 f25 f26 r ∧ σ=⟨[(0, pw bx0), (1, bv x3), (6, .sl 1 (some i20) (List.map ei x19)), (7, bv true)], [⟨bx0, 66, ([.sl 10 (some i22) (List.map aa f21), iv f23, sb f24, iv f25] ++ (List.map eB f26.l).flatten)⟩], [⟨i20, 3, 1, x19.length⟩, ⟨i22, 43, 10, f21.length⟩]⟩) ?_ ?_
 ·refine c0_ oP h fun y28 h=>?_;refine i_ h (fun h=>?_) fun h=>?_
  ·refine c1_ Gf h fun y32 i33 h=>?_;refine aM (f := ei) [y32.1] ai.h ar.h rfl rfl wr_ rfl rfl rfl rfl fun s25 => ?_;obtain ⟨h34, h⟩ := h;refine qP (l2 := [y32.1]) h34 ai.h ar.h rfl rfl rfl (.refl _) rfl rfl fun i35 => ?_;refine x_ h fun y36 h=>?_;refine i_ h (fun h=>?_) fun h=>?_
   ·refine c0_ ni h fun y41 h=>?_;exact r_ h hg
   exact m_ h
  exact m_ h
 rintro _ ⟨x19,f21,f23,f24,f25,f26,i20,i22,h,rfl⟩;refine ax (fun σ=>∃ x144 f146 f148 f149 f150 f151 i145 i147, et x3 x144 f146 f148 f149 f150 f151 r ∧ σ=⟨[(0, pw bx0), (1, bv x3), (6, .sl 1 (some i145) (List.map ei x144))], [⟨bx0, 66, ([.sl 10 (some i147) (List.map aa f146), iv f148, sb f149, iv f150] ++ (List.map eB f151.l).flatten)⟩], [⟨i147, 43, 10, f146.length⟩, ⟨i145, 3, 1, x144.length⟩]⟩) ?_ ?_
 ·refine na ?_;obtain ⟨Inv,⟨m0,hI⟩,hS⟩ := lq_ h;refine lp_ hI (fun σ m=>∃ x183 x185 f186 f188 f189 f190 f191 i184 i187, Inv (x183, x185, f186, f188, f189, f190, f191) m ∧ σ=⟨[(0, pw bx0), (1, bv x3), (6, .sl 1 (some i184) (List.map ei x183)), (7, bv x185)], [⟨bx0, 66, ([.sl 10 (some i187) (List.map aa f186), iv f188, sb f189, iv f190] ++ (List.map eB f191.l).flatten)⟩], [⟨i184, 3, 1, x183.length⟩, ⟨i187, 43, 10, f186.length⟩]⟩) ?_
  rintro _ m ⟨x183,x185,f186,f188,f189,f190,f191,i184,i187,hI,rfl⟩;obtain ⟨ag3,hag3,h⟩ := cu hS hI;refine wn_ 2 h fun h=>?_;refine az (m := 15) (by kernel_rfl) rfl ?_;refine o_ [0,1,2,4,5,6,3,7,8,9,10] ?_;refine ip_ 43 h (fun h=>?_) fun h=>?_
  ·obtain ⟨y243, h242, h⟩ := h;refine o_ [11] ?_;refine aG (i := 12) (by kernel_rfl) rfl ?_;refine A8 oP h242 ?_;refine o_ [13,14] ?_;refine aB (by kernel_rfl) ?_;refine i_ h (fun h=>?_) fun h=>?_
   ·refine c1_ kc_bre_parser_piece h fun y246 i247 h=>?_;refine i_ h (fun h=>?_) fun h=>?_
    ·exact r_ h hg
    refine wn_ 5 h fun h=>?_;refine aM (f := ei) [y246.1] ai.h ar.h rfl rfl wr_ rfl rfl rfl rfl fun s59 => ?_;obtain ⟨h252, h⟩ := h;refine dv (l := x183) (l2 := [y246.1]) 2 h252 ai.h ar.h rfl rfl rfl (.refl _) rfl rfl rfl fun i253 => ?_;refine wn_ 4 h fun h=>?_;obtain ⟨m', hm, hI⟩ := hag3 _ h;exact jW ⟨(x183 ++ [y246.1]), false, y246.2.2.1.1, y246.2.2.1.2, y246.2.2.2.1, y246.2.2.2.2.1, y246.2.2.2.2.2, i253, i247, hI, rfl⟩ hm ⟨lk_, by refine SubM.trans (SubM.mvT 1 rfl) ?_; refine SubM.trans (SubM.mvT 2 rfl) ?_; (simp only [List.eraseIdx]); exact sm_⟩
   exact m_ h
  refine o_ [11,12,13,14] ?_;refine aB (by kernel_rfl) ?_;refine wn_ 6 h fun h=>?_;exact rZ ⟨x183, f186, f188, f189, f190, f191, i184, i187, h, rfl⟩ ⟨lk_, by refine SubM.trans (SubM.mvT 0 rfl) ?_; refine SubM.trans (SubM.mvT 1 rfl) ?_; (simp only [List.eraseIdx]); exact sm_⟩
 rintro _ ⟨x144,f146,f148,f149,f150,f151,i145,i147,h,rfl⟩;refine wn_ 2 h fun h=>?_;refine az (m := 12) (by kernel_rfl) rfl ?_;refine o_ [0,1,2,3,5,6,7,4,8,9,10,11] ?_;refine aB (by kernel_rfl) ?_;refine i_ h (fun h=>?_) fun h=>?_
 ·refine c0_ ni h fun y271 h=>?_;exact r_ h hg
 refine c1_ Gj h fun y273 i274 h=>?_;refine i_ h (fun h=>?_) fun h=>?_
 ·refine c0_ ni h fun y282 h=>?_;exact r_ h hg
 exact r_ h hg
set_option maxHeartbeats 4000000 in
theorem oa {c_q6q} {c_q5q} {c_q7q} {c_q8q} {c_q9q} (_kc_bre_parser_branch: cB c_q6q) (_kc_bre_parser_piece: dr c_q5q) (kc_bre_parser_atom: dF c_q7q) (_kc_bre_parser_escape: da c_q8q) (_kc_bre_parser_group: dt c_q9q) : dr (mw c_q6q c_q5q c_q7q c_q8q c_q9q) := by
 intro o1 first3 r h bx0 ia2;refine al Tryz.func49 rfl rfl (by kernel_rfl) fun g hg=>?_;simp only [Tryz.ntmps49,av];refine wn_ 7 h fun h=>?_;refine ax (fun σ=>∃ x17, gh o1 first3 c_q7q x17 r ∧ σ=⟨[(0, pw bx0), (1, bv first3), (12, bv x17)], [⟨bx0, 66, ([.sl 10 (some ia2) (List.map aa o1.1.1), iv o1.1.2, sb o1.2.1, iv o1.2.2.1] ++ (List.map eB o1.2.2.2.l).flatten)⟩], [⟨ia2, 43, 10, o1.1.1.length⟩]⟩) ?_ ?_
 ·refine is_ 9 h (fun h=>?_) fun h=>?_
  ·refine c0_ oP h fun y20 h=>?_;exact m_ h
  exact m_ h
 rintro _ ⟨x17,h,rfl⟩;refine i_ h (fun h=>?_) fun h=>?_
 ·refine c0_ ni h fun y23 h=>?_;exact r_ h hg
 refine wn_ 12 h fun h=>?_;refine ax (fun σ=>∃ k38 w39 f40 f42 f43 f44 f45 i41, gf k38 w39 f40 f42 f43 f44 f45 r ∧ σ=⟨[(0, pw bx0), (6, iv k38), (7, .pt (List.isEmpty w39) (aO w39))], [⟨bx0, 66, ([.sl 10 (some i41) (List.map aa f40), iv f42, sb f43, iv f44] ++ (List.map eB f45.l).flatten)⟩], [⟨i41, 43, 10, f40.length⟩]⟩) ?_ ?_
 ·refine ax (fun σ=>∃ x49, gg o1 c_q7q x49 r ∧ σ=⟨[(0, pw bx0), (7, .v (.pointer none)), (19, bv x49)], [⟨bx0, 66, ([.sl 10 (some ia2) (List.map aa o1.1.1), iv o1.1.2, sb o1.2.1, iv o1.2.2.1] ++ (List.map eB o1.2.2.2.l).flatten)⟩], [⟨ia2, 43, 10, o1.1.1.length⟩]⟩) ?_ ?_
  ·refine is_ 16 h (fun h=>?_) fun h=>?_
   ·refine c0_ oP h fun y52 h=>?_;exact m_ h
   exact m_ h
  rintro _ ⟨x49,h,rfl⟩;refine i_ h (fun h=>?_) fun h=>?_
  ·refine c1_ xr h fun y55 i56 h=>?_;exact m_ h
  refine c1_ kc_bre_parser_atom h fun y58 i59 h=>?_;exact m_ h
 rintro _ ⟨k38,w39,f40,f42,f43,f44,f45,i41,h,rfl⟩;refine wn_ 2 h fun h=>?_;obtain ⟨Inv,⟨m0,hI⟩,hS⟩ := lq_ h;refine lp_ hI (fun σ m=>∃ k240 w241 f242 f244 f245 f246 f247 i243, Inv (k240, w241, f242, f244, f245, f246, f247) m ∧ σ=⟨[(0, pw bx0), (6, iv k240), (7, .pt (List.isEmpty w241) (aO w241))], [⟨bx0, 66, ([.sl 10 (some i243) (List.map aa f242), iv f244, sb f245, iv f246] ++ (List.map eB f247.l).flatten)⟩], [⟨i243, 43, 10, f242.length⟩]⟩) ?_
 rintro _ m ⟨k240,w241,f242,f244,f245,f246,f247,i243,hI,rfl⟩;obtain ⟨ag4,hag4,h⟩ := cu hS hI;refine fh ?_;refine ax (fun σ=>∃ x320, cZ f242 f244 f245 f246 f247 k240 ag4 w241 x320 r ∧ σ=⟨[(0, pw bx0), (6, iv k240), (7, .pt (List.isEmpty w241) (aO w241)), (40, bv x320)], [⟨bx0, 66, ([.sl 10 (some i243) (List.map aa f242), iv f244, sb f245, iv f246] ++ (List.map eB f247.l).flatten)⟩], [⟨i243, 43, 10, f242.length⟩]⟩) ?_ ?_
 ·refine is_ 29 h (fun h=>?_) fun h=>?_
  ·refine is_ 33 h (fun h=>?_) fun h=>?_
   ·refine c0_ oP h fun y326 h=>?_;refine is_ 36 h (fun h=>?_) fun h=>?_
    ·exact m_ h
    refine c0_ oP h fun y329 h=>?_;exact m_ h
   exact m_ h
  exact m_ h
 rintro _ ⟨x320,h,rfl⟩;refine i_ h (fun h=>?_) fun h=>?_
 ·refine c1_ Gk h fun y332 i333 h=>?_;exact g_ h hag4
 refine wn_ 5 h fun h=>?_;refine ax (fun σ=>∃ w344, jk k240 f242 f244 f245 f246 f247 w344 r ∧ σ=⟨[(6, iv k240), (7, .pt (List.isEmpty w344) (aO w344))], [⟨bx0, 66, ([.sl 10 (some i243) (List.map aa f242), iv f244, sb f245, iv f246] ++ (List.map eB f247.l).flatten)⟩], [⟨i243, 43, 10, f242.length⟩]⟩) ?_ ?_
 ·refine ax (fun σ=>∃ x348, lB f242 f244 f245 f246 f247 k240 w241 x348 r ∧ σ=⟨[(0, pw bx0), (6, iv k240), (7, .pt (List.isEmpty w241) (aO w241)), (52, bv x348)], [⟨bx0, 66, ([.sl 10 (some i243) (List.map aa f242), iv f244, sb f245, iv f246] ++ (List.map eB f247.l).flatten)⟩], [⟨i243, 43, 10, f242.length⟩]⟩) ?_ ?_
  ·refine ks_ 49 h (fun h=>?_) fun h=>?_
   ·exact m_ h
   exact m_ h
  rintro _ ⟨x348,h,rfl⟩;refine i_ h (fun h=>?_) fun h=>?_
  ·refine c0_ ni h fun y354 h=>?_;exact m_ h
  exact m_ h
 rintro _ ⟨w344,h,rfl⟩;exact r_ h hg
set_option maxHeartbeats 4000000 in
theorem oQ {c_q6q} {c_q5q} {c_q7q} {c_q8q} {c_q9q} (_kc_bre_parser_branch: cB c_q6q) (_kc_bre_parser_piece: dr c_q5q) (_kc_bre_parser_atom: dF c_q7q) (kc_bre_parser_escape: da c_q8q) (_kc_bre_parser_group: dt c_q9q) : dF (mR c_q6q c_q5q c_q7q c_q8q c_q9q) := by
 intro o1 r h bx0 ia2;refine al Tryz.func69 rfl rfl (by kernel_rfl) fun g hg=>?_;simp only [Tryz.ntmps69,av];refine wn_ 7 h fun h=>?_;refine az (m := 11) (by kernel_rfl) rfl ?_;obtain ⟨h6a, h⟩ := h;obtain ⟨y5, h6b, h⟩ := h;refine o_ [0,1,2,4,5,6,3,7] ?_;refine pl_ 8 rfl (aJ h6a h6b ai.h ae.h rfl rfl) ?_;refine o_ [9,10] ?_;refine aB (by kernel_rfl) ?_;refine i_ h (fun h=>?_) fun h=>?_
 ·refine c1_ kc_bre_parser_escape h fun y66 i67 h=>?_;exact r_ h hg
 refine i_ h (fun h=>?_) fun h=>?_
 ·refine wn_ 13 h fun h=>?_;refine az (m := 8) (by kernel_rfl) rfl ?_;obtain ⟨y77, h76, h⟩ := h;obtain ⟨y79, h78, h⟩ := h;refine o_ [0,1,2] ?_;refine pl_ 3 rfl (bX (cs := ((List.map ew ((Arr.rep 4 (0 : UInt64))).l).flatten)) ai.h ae.h ar.h rfl (by rfl)) ?_;refine aG (i := 4) (by kernel_rfl) rfl ?_;refine cM xm h76 ?_;refine aG (i := 5) (by kernel_rfl) rfl ?_
  refine rx AH h78 fun i80=>?_;refine o_ [6,7] ?_;refine aB (by kernel_rfl) ?_;exact r_ h hg
 refine i_ h (fun h=>?_) fun h=>?_
 ·refine fh ?_;refine az (m := 18) (by kernel_rfl) rfl ?_;obtain ⟨h87, h⟩ := h;obtain ⟨y89, h88, h⟩ := h;refine ff 3 #[true, true, true, true, true, true, true, true, true, true, true, true, true, true, true, false, false, false] (fun σ=>∃ b5, σ=⟨[(0, pw bx0), (5, pw b5), (55, .agg ((List.map ew y89.1.l).flatten)), (56, iv y89.2.1), (57, iv y89.2.2)], [⟨b5, 41, ((List.map ew ((Arr.rep 4 (0 : UInt64))).l).flatten)⟩, ⟨bx0, 66, ([.sl 10 (some ia2) (List.map aa o1.1.1), iv o1.1.2, sb o1.2.1, iv o1.2.2.1] ++ (List.map eB o1.2.2.2.l).flatten)⟩], [⟨ia2, 43, 10, o1.1.1.length⟩]⟩) ?_ (fun key90=>?_)
  ·rintro _ ⟨b5,rfl⟩;refine aG (i := 15) (by kernel_rfl) rfl ?_;refine jI 0 [] ((List.map ew ((Arr.rep 4 (0 : UInt64))).l).flatten) [] ((List.map ew y89.1.l).flatten) ae.h rfl rfl rfl rfl rfl ?_;refine o_ [16,17] ?_;refine aB (by kernel_rfl) ?_;refine i_ h (fun h=>?_) fun h=>?_
   ·refine c0_ ni h fun y98 h=>?_;exact r_ h hg
   refine wn_ 12 h fun h=>?_;refine az (m := 7) (by kernel_rfl) rfl ?_;obtain ⟨y103, h102, h⟩ := h;refine o_ [0,1,2] ?_;refine en 3 [] rfl (an 0 [] ((List.map ew y89.1.l).flatten) [] sq_ sl_ sl_ (aq (aE (by rfl))) ae.h rfl rfl) rfl rfl (by kernel_rfl) (by kernel_rfl) (by kernel_rfl) (fun _ _ _ _ h => h) ?_;refine aG (i := 4) (by kernel_rfl) rfl ?_;refine rx AH h102 fun i104=>?_
   refine o_ [5,6] ?_;refine aB (by kernel_rfl) ?_;exact r_ h hg
  refine o_ [0,1,2,4,5,6,7,8,3] ?_;refine cv (is := [9, 14]) (by kernel_rfl) (by simp) ?_;intro i hi; simp only [List.mem_cons, List.not_mem_nil, or_false] at hi; rcases hi with rfl | rfl
  ·refine ⟨_, rfl, ?_⟩;refine cM xp h88 ?_;refine o_ [10,11,12,13] ?_;refine aG (i := 14) (by kernel_rfl) rfl ?_;refine iV ar.h rfl rfl fun b5 => ?_;refine rv 0 ((List.map ew ((Arr.rep 4 (0 : UInt64))).l).flatten) rfl rfl ?_;exact bm key90 ⟨b5, rfl⟩ ⟨lk_, sm_⟩ rfl (by kernel_rfl)
  ·refine ⟨_, rfl, ?_⟩;refine iV ar.h rfl rfl fun b5 => ?_;refine rv 0 ((List.map ew ((Arr.rep 4 (0 : UInt64))).l).flatten) rfl rfl ?_;refine aG (i := 9) (by kernel_rfl) rfl ?_;refine cM xp h88 ?_;refine o_ [10,11,12,13] ?_;exact bm key90 ⟨b5, rfl⟩ ⟨lk_, sm_⟩ rfl (by kernel_rfl)
 refine ax (fun σ=>∃ x109, gG o1 y5 x109 r ∧ σ=⟨[(0, pw bx0), (4, uv y5), (72, bv x109)], [⟨bx0, 66, ([.sl 10 (some ia2) (List.map aa o1.1.1), iv o1.1.2, sb o1.2.1, iv o1.2.2.1] ++ (List.map eB o1.2.2.2.l).flatten)⟩], [⟨ia2, 43, 10, o1.1.1.length⟩]⟩) ?_ ?_
 ·refine is_ 75 h (fun h=>?_) fun h=>?_
  ·refine c0_ Gl h fun y113 h=>?_;exact m_ h
  exact m_ h
 rintro _ ⟨x109,h,rfl⟩;refine i_ h (fun h=>?_) fun h=>?_
 ·refine c1_ Gm h fun y117 i118 h=>?_;exact r_ h hg
 refine c1_ xr h fun y120 i121 h=>?_;exact r_ h hg
set_option maxHeartbeats 4000000 in
theorem nJ {c_q6q} {c_q5q} {c_q7q} {c_q8q} {c_q9q} (_kc_bre_parser_branch: cB c_q6q) (_kc_bre_parser_piece: dr c_q5q) (_kc_bre_parser_atom: dF c_q7q) (_kc_bre_parser_escape: da c_q8q) (kc_bre_parser_group: dt c_q9q) : da (lD c_q6q c_q5q c_q7q c_q8q c_q9q) := by
 intro o1 r h bx0 ia2;refine al Tryz.func90 rfl rfl (by kernel_rfl) fun g hg=>?_;simp only [Tryz.ntmps90,av];refine wn_ 8 h fun h=>?_;refine az (m := 11) (by kernel_rfl) rfl ?_;obtain ⟨h15, h⟩ := h;refine o_ [0,1,2,5,6,7,3,4,8,9,10] ?_;refine aB (by kernel_rfl) ?_;refine i_ h (fun h=>?_) fun h=>?_
 ·refine c0_ ni h fun y20 h=>?_;exact r_ h hg
 refine wn_ 3 h fun h=>?_;refine az (m := 12) (by kernel_rfl) rfl ?_;obtain ⟨h24, h⟩ := h;obtain ⟨h26a, h⟩ := h;obtain ⟨y25, h26b, h⟩ := h;refine o_ [0,1,2,4,5,6,7,8,3] ?_;refine pl_ 9 rfl (aJ h26a h26b ai.h ae.h rfl rfl) ?_;refine o_ [10,11] ?_;refine aB (by kernel_rfl) ?_;refine z0_ AG h fun y28 h=>?_;refine i_ h (fun h=>?_) fun h=>?_
 ·refine c1_ kc_bre_parser_group h fun y71 i72 h=>?_;exact r_ h hg
 refine ax (fun σ=>∃ x76, kZ y25 o1 y28 x76 r ∧ σ=⟨[(0, pw bx0), (4, uv y25), (5, bv y28.1), (44, bv x76)], [⟨bx0, 66, ([.sl 10 (some ia2) (List.map aa o1.1.1), iv o1.1.2, sb o1.2.1, iv o1.2.2.1] ++ (List.map eB o1.2.2.2.l).flatten)⟩], [⟨ia2, 43, 10, o1.1.1.length⟩]⟩) ?_ ?_
 ·refine ks_ 47 h (fun h=>?_) fun h=>?_
  ·exact m_ h
  exact m_ h
 rintro _ ⟨x76,h,rfl⟩;refine i_ h (fun h=>?_) fun h=>?_
 ·refine wn_ 3 h fun h=>?_;obtain ⟨c82, h81, h⟩ := h;refine vp_ (fe h81 rfl rfl rfl) ?_;refine wn_ 11 h fun h=>?_;obtain ⟨h89, h⟩ := h;obtain ⟨y90, h89b, h⟩ := h;refine vp_ (aA h89 ai.h ae.h rfl rfl) ?_;refine v_ (dH (f := eB) (a := o1.2.2.2) (k := 1) (off := 0) (i := ((c82.toNat : Int) : Int).toNat) 0 [.sl 10 (some ia2) (List.map aa o1.1.1), iv o1.1.2, sb o1.2.1, iv o1.2.2.1] [] h89b sq_ so_ (by decide) rfl ae.h rfl rfl) ?_
  refine i_ h (fun h=>?_) fun h=>?_
  ·refine c0_ ni h fun y93 h=>?_;exact r_ h hg
  refine c1_ Gn h fun y96 i97 h=>?_;exact r_ h hg
 refine i_ h (fun h=>?_) fun h=>?_
 ·refine c1_ xr h fun y102 i103 h=>?_;exact r_ h hg
 refine i_ h (fun h=>?_) fun h=>?_
 ·refine c0_ ni h fun y106 h=>?_;exact r_ h hg
 refine c1_ xr h fun y109 i110 h=>?_;exact r_ h hg
set_option maxHeartbeats 4000000 in
theorem oc {c_q6q} {c_q5q} {c_q7q} {c_q8q} {c_q9q} (kc_bre_parser_branch: cB c_q6q) (_kc_bre_parser_piece: dr c_q5q) (_kc_bre_parser_atom: dF c_q7q) (_kc_bre_parser_escape: da c_q8q) (_kc_bre_parser_group: dt c_q9q) : dt (my c_q6q c_q5q c_q7q c_q8q c_q9q) := by
 intro o1 r h bx0 ia2;refine al Tryz.func109 rfl rfl (by kernel_rfl) fun g hg=>?_;simp only [Tryz.ntmps109,av];refine c1_ Gp h fun y4 i5 h=>?_;refine i_ h (fun h=>?_) fun h=>?_
 ·refine c0_ ni h fun y13 h=>?_;exact r_ h hg
 refine c1_ kc_bre_parser_branch h fun y16 i17 h=>?_;refine i_ h (fun h=>?_) fun h=>?_
 ·exact r_ h hg
 refine wn_ 20 h fun h=>?_;obtain ⟨h23, h⟩ := h;obtain ⟨y24, h23b, h⟩ := h;refine vp_ (aA h23 ai.h ae.h rfl rfl) ?_;refine dO (f := eB) (a := y16.2.2.2.2.2) (k := 1) (off := 0) (i := (y4.1 : Int).toNat) 0 [.sl 10 (some i17) (List.map aa y16.2.2.1.1), iv y16.2.2.1.2, sb y16.2.2.2.1, iv ((y16.2.2.2.2.1 + 2))] [] true h23b sq_ so_ (by decide) ae.h rfl rfl rfl rfl sl_ rfl rfl ?_
 refine bA 0 ([.sl 10 (some i17) (List.map aa y16.2.2.1.1), iv y16.2.2.1.2, sb y16.2.2.2.1, iv ((y16.2.2.2.2.1 + 2))] ++ (List.map eB ((Arr.set y16.2.2.2.2.2 (y4.1 : Int).toNat true)).l).flatten) rfl sq_ ?_;refine c1_ Gq h fun y26 i27 h=>?_;exact r_ h hg
set_option maxHeartbeats 4000000 in
theorem Gs {S1: Nat → T3t → (Bool) → T6t → Prop} {S2: Nat → T3t → (Bool) → T6t → Prop} {S3: Nat → T3t → T6t → Prop} {S4: Nat → T3t → T6t → Prop} {S5: Nat → T3t → T6t → Prop} (H: gn S1 S2 S3 S4 S5) (m: Nat) : cB (S1 m) ∧ dr (S2 m) ∧ dF (S3 m) ∧ da (S4 m) ∧ dt (S5 m) := by
 induction m using Nat.strongRecOn with
 | _ m ih => exact ⟨fun _ _ _ h=>nI (fun _ _ r ⟨m',hm,h⟩=>(ih m' hm).1 h) (fun _ _ r ⟨m',hm,h⟩=>(ih m' hm).2.1 h) (fun _ r ⟨m',hm,h⟩=>(ih m' hm).2.2.1 h) (fun _ r ⟨m',hm,h⟩=>(ih m' hm).2.2.2.1 h) (fun _ r ⟨m',hm,h⟩=>(ih m' hm).2.2.2.2 h) (H.1 m _ _ _ h), fun _ _ _ h=>oa (fun _ _ r ⟨m',hm,h⟩=>(ih m' hm).1 h) (fun _ _ r ⟨m',hm,h⟩=>(ih m' hm).2.1 h) (fun _ r ⟨m',hm,h⟩=>(ih m' hm).2.2.1 h) (fun _ r ⟨m',hm,h⟩=>(ih m' hm).2.2.2.1 h) (fun _ r ⟨m',hm,h⟩=>(ih m' hm).2.2.2.2 h) (H.2.1 m _ _ _ h), fun _ _ h=>oQ (fun _ _ r ⟨m',hm,h⟩=>(ih m' hm).1 h) (fun _ _ r ⟨m',hm,h⟩=>(ih m' hm).2.1 h) (fun _ r ⟨m',hm,h⟩=>(ih m' hm).2.2.1 h) (fun _ r ⟨m',hm,h⟩=>(ih m' hm).2.2.2.1 h) (fun _ r ⟨m',hm,h⟩=>(ih m' hm).2.2.2.2 h) (H.2.2.1 m _ _ h), fun _ _ h=>nJ (fun _ _ r ⟨m',hm,h⟩=>(ih m' hm).1 h) (fun _ _ r ⟨m',hm,h⟩=>(ih m' hm).2.1 h) (fun _ r ⟨m',hm,h⟩=>(ih m' hm).2.2.1 h) (fun _ r ⟨m',hm,h⟩=>(ih m' hm).2.2.2.1 h) (fun _ r ⟨m',hm,h⟩=>(ih m' hm).2.2.2.2 h) (H.2.2.2.1 m _ _ h), fun _ _ h=>oc (fun _ _ r ⟨m',hm,h⟩=>(ih m' hm).1 h) (fun _ _ r ⟨m',hm,h⟩=>(ih m' hm).2.1 h) (fun _ r ⟨m',hm,h⟩=>(ih m' hm).2.2.1 h) (fun _ r ⟨m',hm,h⟩=>(ih m' hm).2.2.2.1 h) (fun _ r ⟨m',hm,h⟩=>(ih m' hm).2.2.2.2 h) (H.2.2.2.2 m _ _ h)⟩
theorem Gt:cB lE:=fun _ _ _ ⟨_,_,_,_,_,H,m,h⟩=>(Gs H m).1 h
def il (root3:Int) (o1:T0t×(List UInt8)×Int×T5t) (x18:Bool) (r:T0t×Bool):Prop:=
 ((x18=true→r=((([]:List T4t),0),false))∧(¬ (x18=true)→InR (root3+1)∧(0≤((root3+1):Int)∧((root3+1):Int)≤(o1.1.1.length:Int))∧∃ y34:(List T4t),fY (o1.1.1.take ((root3+1):Int).toNat) y34∧∃ y41:Bool,fk (y34,o1.1.2) y41∧((¬ (y41=true)→r=((([]:List T4t),0),false))∧(¬ (¬ (y41=true))→r=((y34,o1.1.2),true)))))
def iM (o1:T0t×(List UInt8)×Int×T5t) (root3:Int) (r:T0t×Bool):Prop:=
 il root3 o1 ((decide (root3<0)) || (decide ((o1.1.1.length:Int)≤root3))) r
set_option maxHeartbeats 4000000 in
theorem Gu ⦃o1: T0t × (List UInt8) × Int × T5t⦄ ⦃root3: Int⦄ ⦃r: T0t × Bool⦄ (h: iM o1 root3 r) (bx0: Nat) (ia2: Option (Nat × Nat)) : Cn Tryz.prog 25 [pw bx0, iv root3] [⟨bx0, 66, ([.sl 10 (some ia2) (List.map aa o1.1.1), iv o1.1.2, sb o1.2.1, iv o1.2.2.1] ++ (List.map eB o1.2.2.2.l).flatten)⟩] [⟨ia2, 43, 10, o1.1.1.length⟩] fun rr bx tk=>rr=.tup [.agg [.sl 10 none (List.map aa r.1.1), iv r.1.2], bv r.2] ∧ bx=[⟨bx0, 66, ([.sl 10 (some ia2) (List.map aa o1.1.1), iv o1.1.2, sb o1.2.1, iv o1.2.2.1] ++ (List.map eB o1.2.2.2.l).flatten)⟩] ∧ tk=[⟨ia2, 43, 10, o1.1.1.length⟩] := by
 refine al Tryz.func25 rfl rfl (by kernel_rfl) fun g hg=>?_;simp only [Tryz.ntmps25,av];unfold iM at h;refine wn_ 2 h fun h=>?_;refine aN ar.h rfl rfl fun b4 => ?_;refine wn_ 4 h fun h=>?_;refine ax (fun σ=>∃ x18, il root3 o1 x18 r ∧ σ=⟨[(0, pw bx0), (1, iv root3), (4, pw b4), (17, bv x18)], [⟨b4, 26, [.v (.slice none 0 0), iv 0]⟩, ⟨bx0, 66, ([.sl 10 (some ia2) (List.map aa o1.1.1), iv o1.1.2, sb o1.2.1, iv o1.2.2.1] ++ (List.map eB o1.2.2.2.l).flatten)⟩], [⟨ia2, 43, 10, o1.1.1.length⟩]⟩) ?_ ?_
 ·refine ks_ 9 h (fun h=>?_) fun h=>?_
  ·exact m_ h
  exact m_ h
 rintro _ ⟨x18,h,rfl⟩;refine i_ h (fun h=>?_) fun h=>?_
 ·refine wn_ 2 h fun h=>?_;refine vp_ (aw aQ.h rfl rfl) ?_;exact rl_ h hg
 refine wn_ 3 h fun h=>?_;refine az (m := 15) (by kernel_rfl) rfl ?_;obtain ⟨h31, h⟩ := h;obtain ⟨h32, h⟩ := h;obtain ⟨y34, h33, h⟩ := h;refine ff 1 #[true, true, true, true, true, true, true, true, true, true, true, true, true, true, false] (fun σ=>∃ b6 i35, σ=⟨[(4, pw b4), (6, pw b6), (31, .agg [.sl 10 (some i35) (List.map aa y34), iv o1.1.2])], [⟨b6, 26, [.v (.slice none 0 0), iv 0]⟩, ⟨b4, 26, [.v (.slice none 0 0), iv 0]⟩, ⟨bx0, 66, ([.sl 10 (some ia2) (List.map aa o1.1.1), iv o1.1.2, sb o1.2.1, iv o1.2.2.1] ++ (List.map eB o1.2.2.2.l).flatten)⟩], [⟨i35, 43, 10, y34.length⟩, ⟨ia2, 43, 10, o1.1.1.length⟩]⟩) ?_ (fun key36=>?_)
 ·rintro _ ⟨b6,i35,rfl⟩;refine aG (i := 14) (by kernel_rfl) rfl ?_;refine cx 0 ae.h rfl rfl rfl rfl rfl rfl rfl ?_;refine aB (by kernel_rfl) ?_;refine z0_ k8_ h fun y41 h=>?_;refine i_ h (fun h=>?_) fun h=>?_
  ·refine wn_ 2 h fun h=>?_;refine vp_ (aw aQ.h rfl rfl) ?_;exact rl_ h hg
  exact rl_ h hg
 refine ff 2 #[true, true, true, true, true, true, true, true, true, true, true, true, true, false, false] (fun σ=>∃ i35, σ=⟨[(4, pw b4), (31, .agg [.sl 10 (some i35) (List.map aa y34), iv o1.1.2])], [⟨b4, 26, [.v (.slice none 0 0), iv 0]⟩, ⟨bx0, 66, ([.sl 10 (some ia2) (List.map aa o1.1.1), iv o1.1.2, sb o1.2.1, iv o1.2.2.1] ++ (List.map eB o1.2.2.2.l).flatten)⟩], [⟨i35, 43, 10, y34.length⟩, ⟨ia2, 43, 10, o1.1.1.length⟩]⟩) ?_ (fun key43=>?_)
 ·rintro _ ⟨i35,rfl⟩;refine aG (i := 13) (by kernel_rfl) rfl ?_;refine iV ar.h rfl rfl fun b6 => ?_;exact bm key36 ⟨b6, i35, rfl⟩ ⟨lk_, sm_⟩ rfl (by kernel_rfl)
 refine o_ [0,1,2,4,5,8,9,10,3] ?_;refine pl_ 6 rfl (oR h32 ai.h ae.h rfl rfl) ?_;refine cv (is := [7, 11, 13]) (by kernel_rfl) (by simp) ?_;intro i hi; simp only [List.mem_cons, List.not_mem_nil, or_false] at hi; rcases hi with rfl | rfl | rfl
 ·refine ⟨_, rfl, ?_⟩;refine pW pK h33 fun i35=>?_;refine o_ [11] ?_;refine pl_ 12 rfl (aw aQ.h rfl rfl) ?_;exact bm key43 ⟨i35, rfl⟩ ⟨lk_, sm_⟩ rfl (by kernel_rfl)
 ·refine ⟨_, rfl, ?_⟩;refine wv_ (aK 1 ae.h rfl rfl rfl rfl) ?_;refine cv (is := [7, 13]) (by kernel_rfl) (by simp) ?_;intro i hi; simp only [List.mem_cons, List.not_mem_nil, or_false] at hi; rcases hi with rfl | rfl
  ·refine ⟨_, rfl, ?_⟩;refine pW pK h33 fun i35=>?_;refine pl_ 12 rfl (aw aQ.h rfl rfl) ?_;exact bm key43 ⟨i35, rfl⟩ ⟨lk_, sm_⟩ rfl (by kernel_rfl)
  ·refine ⟨_, rfl, ?_⟩;refine iV ar.h rfl rfl fun b6 => ?_;refine aG (i := 7) (by kernel_rfl) rfl ?_;refine pW pK h33 fun i35=>?_;refine pl_ 12 rfl (aw aQ.h rfl rfl) ?_;exact bm key36 ⟨b6, i35, rfl⟩ ⟨lk_, sm_⟩ rfl (by kernel_rfl)
 ·refine ⟨_, rfl, ?_⟩;refine iV ar.h rfl rfl fun b6 => ?_;refine eG [⟨11, 30, iv o1.1.2⟩] 3 ?_;refine bl 7 (by kernel_rfl) rfl (.cons rfl rfl rfl (fun _ => rfl) (fun _ => aK 2 ae.h rfl rfl rfl rfl) .nil) fun D l td hR => ?_;refine pW pK h33 fun i35=>?_;refine fg hR ?_;refine cw (l' := #[true, true, true, true, true, true, true, true, true, true, true, true, false, true, false]) (by kernel_rfl) (.cons rfl rfl rfl (fun _ => rfl) (fun _ => aK 2 ae.h rfl rfl rfl rfl) .nil) (by kernel_rfl) rfl (by kernel_rfl) (by kernel_rfl) ?_
  simp only [List.nil_append, List.cons_append, List.map_cons, List.map_nil];refine pl_ 12 rfl (aw aQ.h rfl rfl) ?_;exact bm key36 ⟨b6, i35, rfl⟩ ⟨lk_, sm_⟩ rfl (by kernel_rfl)
def mh (bv1:List UInt8) (r:T0t×Int×Int):Prop:=
 ∃ y3:Int×T8t×T3t,lE ((([]:List T4t),0),bv1,0,(Arr.rep 10 false)) false y3∧((¬ ((List.isEmpty y3.2.1)=true)→∃ y21:Int×Int,∃ tl22:List (Int×Int),y3.2.1=y21 :: tl22∧r=((([]:List T4t),0),y21.1,y21.2))∧(¬ (¬ ((List.isEmpty y3.2.1)=true))→∃ y26:T0t×Bool,iM y3.2.2 y3.1 y26∧((¬ (y26.2=true)→r=((([]:List T4t),0),y3.2.2.2.2.1,8))∧(¬ (¬ (y26.2=true))→r=(y26.1,0,0)))))
set_option maxRecDepth 100000 in
set_option maxHeartbeats 4000000 in
theorem Gv ⦃bv1: List UInt8⦄ ⦃r: T0t × Int × Int⦄ (h: mh bv1 r) : Cn Tryz.prog 16 [sb bv1] [] [] fun rr bx tk=>rr=.tup [.agg [.sl 10 none (List.map aa r.1.1), iv r.1.2], iv r.2.1, iv r.2.2] ∧ bx=[] ∧ tk=[] := by
 refine al Tryz.func16 rfl rfl (by kernel_rfl) fun g hg=>?_;simp only [Tryz.ntmps16,av];refine wn_ 2 h fun h=>?_;refine aN ar.h rfl rfl fun b2 => ?_;refine wn_ 7 h fun h=>?_;refine vp_ (aw (cs := ([.v (.slice none 0 0), iv 0, sb bv1, iv 0] ++ (List.map eB ((Arr.rep 10 false)).l).flatten)) aQ.h rfl (by refine ao [.v (.slice none 0 0), iv 0] [.v (.slice none 0 0)] ([iv 0] ++ (List.map eB ((Arr.rep 10 false)).l).flatten) sq_ sl_ sl_ sl_ rfl rfl ?_; exact congrArg some sq_)) ?_
 refine cK rfl rfl rfl rfl fun b12 => ?_;refine c1_ Gt h fun y3 i4 h=>?_;refine i_ h (fun h=>?_) fun h=>?_
 ·refine fh ?_;refine az (m := 12) (by kernel_rfl) rfl ?_;obtain ⟨y21, tl22, h23, h⟩ := h;refine ff 0 #[true, true, true, true, true, true, true, true, true, true, true, true] (fun σ=>σ=⟨[(2, pw b2), (3, iv y21.1), (4, iv y21.2)], [⟨b2, 26, [.v (.slice none 0 0), iv 0]⟩], []⟩) ?_ (fun key24=>?_)
  ·rintro _ rfl;refine aB (by kernel_rfl) ?_;exact rl_ h hg
  refine pl_ 0 rfl (aw aQ.h rfl rfl) ?_;refine o_ [1] ?_;refine pl_ 2 rfl (pi (cs' := [iv y21.1, iv y21.2]) (by rw [h23]; rfl) (by rw [h23]; rfl) rfl) ?_;refine o_ [3,5] ?_;refine pl_ 6 rfl (pi (cs' := [iv y21.1, iv y21.2]) (by rw [h23]; rfl) (by rw [h23]; rfl) rfl) ?_;refine o_ [7] ?_;refine cv (is := [4, 8, 9]) (by kernel_rfl) (by simp) ?_
  intro i hi; simp only [List.mem_cons, List.not_mem_nil, or_false] at hi; rcases hi with rfl | rfl | rfl
  ·refine ⟨_, rfl, ?_⟩;refine wv_ (cU ae.h rfl rfl rfl) ?_;refine eG [⟨8, 28, iv y21.2⟩] 3 ?_;refine bl 9 (by kernel_rfl) rfl (.cons rfl rfl rfl (fun _ => rfl) (fun _ => cU ae.h rfl rfl rfl) .nil) fun D l td hR => ?_;refine cx 1 ae.h rfl rfl rfl rfl rfl rfl rfl ?_;refine ek hR ?_;refine nX 10 (by kernel_rfl) rfl (fun _ => iF rfl) (fun _ => rfl) rfl (by kernel_rfl) (fun _ _ _ _ h => h) ?_
   refine cw (l' := #[true, true, true, true, true, true, true, true, true, true, true, false]) (by kernel_rfl) (.cons rfl rfl rfl (fun _ => rfl) (fun _ => cU ae.h rfl rfl rfl) .nil) (by kernel_rfl) rfl (by kernel_rfl) (by kernel_rfl) ?_;simp only [List.nil_append, List.cons_append, List.map_cons, List.map_nil];refine o_ [11] ?_;exact bm key24 rfl ⟨lk_, sm_⟩ rfl (by kernel_rfl)
  ·refine ⟨_, rfl, ?_⟩;refine wv_ (cU ae.h rfl rfl rfl) ?_;refine eG [⟨4, 24, iv y21.1⟩] 3 ?_;refine bl 9 (by kernel_rfl) rfl (.cons rfl rfl rfl (fun _ => rfl) (fun _ => cU ae.h rfl rfl rfl) .nil) fun D l td hR => ?_;refine cx 1 ae.h rfl rfl rfl rfl rfl rfl rfl ?_;refine ek hR ?_;refine cw (l' := #[true, true, true, true, true, true, true, true, true, true, false, false]) (by kernel_rfl) (.cons rfl rfl rfl (fun _ => rfl) (fun _ => cU ae.h rfl rfl rfl) .nil) (by kernel_rfl) rfl (by kernel_rfl) (by kernel_rfl) ?_
   simp only [List.nil_append, List.cons_append, List.map_cons, List.map_nil];refine o_ [10,11] ?_;exact bm key24 rfl ⟨lk_, sm_⟩ rfl (by kernel_rfl)
  ·refine ⟨_, rfl, ?_⟩;refine cx 1 ae.h rfl rfl rfl rfl rfl rfl rfl ?_;refine o_ [4,10,8,11] ?_;exact bm key24 rfl ⟨lk_, sm_⟩ rfl (by kernel_rfl)
 refine c0_ Gu h fun y26 h=>?_;refine wn_ 3 h fun h=>?_;refine aN ar.h rfl rfl fun b8 => ?_;refine i_ h (fun h=>?_) fun h=>?_
 ·refine fh ?_;refine az (m := 8) (by kernel_rfl) rfl ?_;refine pl_ 0 rfl (aw aQ.h rfl rfl) ?_;refine o_ [1,2,3] ?_;refine eG [⟨4, 43, iv y3.2.2.2.2.1⟩] 3 ?_;refine bl 5 (by kernel_rfl) rfl (.cons rfl rfl rfl (fun _ => rfl) (fun _ => aK 1 ae.h rfl rfl rfl rfl) .nil) fun D l td hR => ?_;refine cx 2 ae.h rfl rfl rfl rfl rfl rfl rfl ?_;refine ek hR ?_
  refine cw (l' := #[true, true, true, true, true, true, false, false]) (by kernel_rfl) (.cons rfl rfl rfl (fun _ => rfl) (fun _ => aK 1 ae.h rfl rfl rfl rfl) .nil) (by kernel_rfl) rfl (by kernel_rfl) (by kernel_rfl) ?_;simp only [List.nil_append, List.cons_append, List.map_cons, List.map_nil];refine o_ [6,7] ?_;refine aB (by kernel_rfl) ?_;exact rl_ h hg
 exact rl_ h hg
def cW (bv1:List UInt8) (extended2:Bool) (r:T0t×Int×Int):Prop:=
 ((extended2=true→∃ y8:T0t×Int×Int,jX bv1 y8∧r=(y8.1,y8.2.1,y8.2.2))∧(¬ (extended2=true)→∃ y10:T0t×Int×Int,mh bv1 y10∧r=(y10.1,y10.2.1,y10.2.2)))
set_option maxHeartbeats 4000000 in
theorem D3 ⦃bv1: List UInt8⦄ ⦃extended2: Bool⦄ ⦃r: T0t × Int × Int⦄ (h: cW bv1 extended2 r) : Cn Tryz.prog 8 [sb bv1, bv extended2] [] [] fun rr bx tk=>rr=.tup [.agg [.sl 10 none (List.map aa r.1.1), iv r.1.2], iv r.2.1, iv r.2.2] ∧ bx=[] ∧ tk=[] := by
 refine al Tryz.func8 rfl rfl (by kernel_rfl) fun g hg=>?_;simp only [Tryz.ntmps8,av];refine wn_ 2 h fun h=>?_;refine aN ar.h rfl rfl fun b4 => ?_;refine i_ h (fun h=>?_) fun h=>?_
 ·refine z0_ Ge h fun y8 h=>?_;exact rl_ h hg
 refine z0_ Gv h fun y10 h=>?_;exact rl_ h hg
def r9 (s11:List T4t) (s22:List T4t) (ag1:(Int)→Prop) (x118:Int) (r:Bool):Prop:=
 ((x118<(s11.length:Int)→0≤(x118:Int)∧∃ y164:Int×Int×Int×Int×Int×Int×T7t,s11[(x118:Int).toNat]? =some y164∧0≤(x118:Int)∧∃ y166:Int×Int×Int×Int×Int×Int×T7t,s22[(x118:Int).toNat]? =some y166∧((¬ ((y164:Int×Int×Int×Int×Int×Int×T7t)=y166)→r=false)∧(¬ (¬ ((y164:Int×Int×Int×Int×Int×Int×T7t)=y166))→InR (x118+1)∧ag1 (x118+1))))∧(¬ (x118<(s11.length:Int))→r=true))
def lX (s11:List T4t) (s22:List T4t) (r:Bool):Prop:=
 ((¬ ((s11.length:Int)=(s22.length:Int))→r=false)∧(¬ (¬ ((s11.length:Int)=(s22.length:Int)))→ba (fun ag1 s=>r9 s11 s22 ag1 s r) 0))
set_option maxHeartbeats 4000000 in
theorem Gx ⦃s11: List T4t⦄ ⦃s22: List T4t⦄ ⦃r: Bool⦄ (h: lX s11 s22 r) : Cn Tryz.prog 38 [.sl 10 none (List.map aa s11), .sl 10 none (List.map aa s22)] [] [] (Ret (bv r)) := by
 refine al Tryz.func38 rfl rfl (by kernel_rfl) fun g hg=>?_;simp only [Tryz.ntmps38,av];refine i_ h (fun h=>?_) fun h=>?_
 ·exact r_ h hg
 refine wn_ 11 h fun h=>?_;obtain ⟨Inv,⟨m0,hI⟩,hS⟩ := lq_ h;refine lp_ hI (fun σ m=>∃ x118, Inv x118 m ∧ σ=⟨[(0, .sl 10 none (List.map aa s11)), (1, .sl 10 none (List.map aa s22)), (12, iv ((s11.length : Int))), (13, iv x118)], [], []⟩) ?_;rintro _ m ⟨x118,hI,rfl⟩;obtain ⟨ag1,hag1,h⟩ := cu hS hI;refine i_ h (fun h=>?_) fun h=>?_
 ·refine wn_ 11 h fun h=>?_;refine az (m := 9) (by kernel_rfl) rfl ?_;obtain ⟨h165a, h⟩ := h;obtain ⟨y164, h165b, h⟩ := h;obtain ⟨h167a, h⟩ := h;obtain ⟨y166, h167b, h⟩ := h;refine o_ [0,1] ?_;refine pl_ 2 rfl (aJ h165a h165b ai.h ae.h rfl rfl) ?_;refine o_ [4,5] ?_;refine pl_ 6 rfl (aJ h167a h167b ai.h ae.h rfl rfl) ?_;refine en 3 [7] rfl (jD (aa y164) [] sq_ sl_ (aq sl_) ae.h rfl) rfl rfl (by kernel_rfl) (by kernel_rfl) (by kernel_rfl) (fun _ _ _ _ h => h) ?_
  refine en 7 [] rfl (jD (aa y166) [] sq_ sl_ (aq sl_) ae.h rfl) rfl rfl (by kernel_rfl) (by kernel_rfl) (by kernel_rfl) (fun _ _ _ _ h => h) ?_;refine pl_ 8 rfl (kl (f := aa) (a := y164) (b := y166) uU (by decide) (by kernel_rfl) ev_ ev_) ?_
  refine aB (by kernel_rfl) ?_;refine i_ h (fun h=>?_) fun h=>?_
  ·exact r_ h hg
  exact g_ h hag1
 exact r_ h hg
def mi (a1:(List T4t)×Int) (bv2:(List T4t)×Int) (r:Bool):Prop:=
 ((a1.2=bv2.2→∃ y10:Bool,lX a1.1 bv2.1 y10∧r=y10)∧(¬ (a1.2=bv2.2)→r=false))
set_option maxHeartbeats 4000000 in
theorem Gy ⦃a1: (List T4t) × Int⦄ ⦃bv2: (List T4t) × Int⦄ ⦃r: Bool⦄ (h: mi a1 bv2 r) : Cn Tryz.prog 21 [.agg [.sl 10 none (List.map aa a1.1), iv a1.2], .agg [.sl 10 none (List.map aa bv2.1), iv bv2.2]] [] [] (Ret (bv r)) := by
 refine al Tryz.func21 rfl rfl (by kernel_rfl) fun g hg=>?_;simp only [Tryz.ntmps21,av];refine wn_ 2 h fun h=>?_;refine cK rfl rfl rfl rfl fun b2 => ?_;refine cK rfl rfl rfl rfl fun b3 => ?_;refine is_ 10 h (fun h=>?_) fun h=>?_
 ·refine z0_ Gx h fun y10 h=>?_;exact r_ h hg
 exact r_ h hg
end Go.Proofs.YtnbceeholnkfeaaGreatDoor
