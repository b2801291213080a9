/- What functions' texts ask for, and the walks that show it (printed by a program). -/
import Derived.Test.YtnbceeholnkfeaaGreatDoorGKp4
namespace Go.Proofs.YtnbceeholnkfeaaGreatDoor
def im (y213:ByteArray) (x232:Bool) (r:(List UInt8)×Bool):Prop:=
 ((x232=true→r=(([]:List UInt8),false))∧(¬ (x232=true)→r=(y213.data.toList,true)))
def od (x1:(List T4t)×Int) (x2:Bool) (ag1:((List ByteArray)×Int×Int)→Prop) (x143:List ByteArray) (x145:Int) (x146:Int) (r:(List UInt8)×Bool):Prop:=
 ((x146<(x1.1.length:Int)→0≤(x146:Int)∧∃ y196:Int×Int×Int×Int×Int×Int×T7t,x1.1[(x146:Int).toNat]? =some y196∧∃ y199:ByteArray,iI x2 y196 x143 y199∧InR (x145+(y199.size:Int))∧((16777216<(x145+(y199.size:Int))→r=(([]:List UInt8),false))∧(¬ (16777216<(x145+(y199.size:Int)))→ef (x143.length+([y199]).length) 16∧InR (x146+1)∧ag1 ((x143++[y199]),(x145+(y199.size:Int)),(x146+1)))))∧(¬ (x146<(x1.1.length:Int))→InR ((x143.length:Int) - 1)∧0≤(((x143.length:Int) - 1):Int)∧∃ y213:ByteArray,x143[(((x143.length:Int) - 1):Int).toNat]? =some y213∧y213.size≤maxLen∧∃ y217:T0t×Int×Int,cW y213.data.toList x2 y217∧((¬ (y217.2.2=0)→im y213 true r)∧(¬ (¬ (y217.2.2=0))→∃ y236:Bool,mi y217.1 x1 y236∧im y213 (!y236) r))))
def bU (x1:(List T4t)×Int) (x2:Bool) (r:(List UInt8)×Bool):Prop:=
 ∃ y7:Bool,fk x1 y7∧((¬ (y7=true)→r=(([]:List UInt8),false))∧(¬ (¬ (y7=true))→ba (fun ag1 s=>od x1 x2 ag1 s.1 s.2.1 s.2.2 r) (([]:List ByteArray),0,0)))
set_option maxHeartbeats 4000000 in
theorem xt ⦃x1: (List T4t) × Int⦄ ⦃x2: Bool⦄ ⦃r: (List UInt8) × Bool⦄ (h: bU x1 x2 r) : Cn Tryz.prog 11 [.agg [.sl 10 none (List.map aa x1.1), iv x1.2], bv x2] [] [] fun rr bx tk=>rr=.tup [sb r.1, bv r.2] ∧ bx=[] ∧ tk=[] := by
 refine al Tryz.func11 rfl rfl (by kernel_rfl) fun g hg=>?_;simp only [Tryz.ntmps11,av];refine wn_ 2 h fun h=>?_;refine cK rfl rfl rfl rfl fun b2 => ?_;refine z0_ k8_ h fun y7 h=>?_;refine i_ h (fun h=>?_) fun h=>?_
 ·exact r_ h hg
 refine wn_ 5 h fun h=>?_;refine vp_ (aw aQ.h rfl rfl) ?_;refine aN ar.h rfl rfl fun b6 => ?_;refine wn_ 23 h fun h=>?_;obtain ⟨Inv,⟨m0,hI⟩,hS⟩ := lq_ h;refine lp_ hI (fun σ m=>∃ x143 x145 x146 i144, Inv (x143, x145, x146) m ∧ σ=⟨[(1, bv x2), (2, pw b2), (6, pw b6), (7, .sl 1 (some i144) (List.map es x143)), (8, iv x145), (22, .sl 10 none (List.map aa x1.1)), (23, iv ((x1.1.length : Int))), (24, iv x146)], [⟨b6, 49, [bv x2]⟩, ⟨b2, 26, [.sl 10 none (List.map aa x1.1), iv x1.2]⟩], [⟨i144, 9, 1, x143.length⟩]⟩) ?_
 rintro _ m ⟨x143,x145,x146,i144,hI,rfl⟩;obtain ⟨ag1,hag1,h⟩ := cu hS hI;refine i_ h (fun h=>?_) fun h=>?_
 ·refine x_ h fun y196 h=>?_;refine v_ (jD (aa y196) [] sq_ sl_ (aq sl_) ae.h rfl) ?_;refine aN ar.h rfl rfl fun b10 => ?_;refine bA 0 ([iv 0, iv 0, iv 0, iv 0, iv 0, iv 0] ++ (List.map ew ((Arr.rep 4 (0 : UInt64))).l).flatten) rfl rfl ?_
  refine aC 0 [] ([iv 0, iv 0, iv 0, iv 0, iv 0, iv 0] ++ (List.map ew ((Arr.rep 4 (0 : UInt64))).l).flatten) [] (aa y196) ae.h rfl rfl rfl rfl rfl ?_
  refine wn_ 5 h fun h=>?_;refine v_ (an 0 [] (aa y196) [] sq_ sl_ sl_ (aq sl_) ae.h rfl rfl) ?_;refine z0_ FSq h fun y199 h=>?_;refine i_ h (fun h=>?_) fun h=>?_
  ·exact r_ h hg
  refine wn_ 5 h fun h=>?_;refine aM (f := es) [y199] ai.h ar.h rfl rfl wr_ rfl rfl rfl rfl fun s40 => ?_;obtain ⟨h208, h⟩ := h;refine dv (l := x143) (l2 := [y199]) 1 h208 ai.h ar.h rfl rfl rfl (.refl _) rfl rfl rfl fun i209 => ?_;exact g_ h hag1
 refine x_ h fun y213 h=>?_;refine v_ (cU ae.h rfl rfl rfl) ?_;obtain ⟨h215, h⟩ := h;refine Cl h215 ai.h ai.h ai.h rfl rfl rfl ?_;refine z0_ D3 h fun y217 h=>?_;refine wn_ 4 h fun h=>?_;refine aN ar.h rfl rfl fun b13 => ?_;refine wn_ 6 h fun h=>?_;refine ax (fun σ=>∃ x232, im y213 x232 r ∧ σ=⟨[(12, sb y213.data.toList), (64, bv x232)], [], []⟩) ?_ ?_
 ·refine is_ 59 h (fun h=>?_) fun h=>?_
  ·exact m_ h
  refine z0_ Gy h fun y236 h=>?_;exact m_ h
 rintro _ ⟨x232,h,rfl⟩;refine i_ h (fun h=>?_) fun h=>?_
 ·exact r_ h hg
 exact r_ h hg
def iN (x354:Bool) (r:Bool):Prop:=
 r=x354
def iO (x1:Int×Int×Int×Int×Int×Int×T7t) (x304:Bool) (r:Bool):Prop:=
 ((x304=true→r=false)∧(¬ (x304=true)→((¬ (x1.1=4)→((x1.2.2.2.1=0→r=(decide (x1.2.2.2.2.1=0)))∧(¬ (x1.2.2.2.1=0)→r=false)))∧(¬ (¬ (x1.1=4))→iN ((decide (0≤x1.2.2.2.1)) && ((decide (x1.2.2.2.1≤255)) && ((decide (x1.2.2.2.2.1=(-1))) || ((decide (x1.2.2.2.1≤x1.2.2.2.2.1)) && (decide (x1.2.2.2.2.1≤255)))))) r))))
def iP (x1:Int×Int×Int×Int×Int×Int×T7t) (x21:Bool) (x3:Int) (x180:Bool) (r:Bool):Prop:=
 ((x180=true→r=false)∧(¬ (x180=true)→iO x1 (bif x21 then ((decide (x1.2.2.2.2.2.1<1)) || ((decide (x3<x1.2.2.2.2.2.1)) || (bif (!x21) then ((!(decide (x1.2.2.2.2.2.1=0))) || ((!(decide (x1.1=1))) && (!(decide ((x1.2.2.2.2.2.2:Arr 4 (UInt64))=(Arr.rep 4 (0:UInt64))))))) else ((!(decide (x1.1=1))) && (!(decide ((x1.2.2.2.2.2.2:Arr 4 (UInt64))=(Arr.rep 4 (0:UInt64))))))))) else (bif (!x21) then ((!(decide (x1.2.2.2.2.2.1=0))) || ((!(decide (x1.1=1))) && (!(decide ((x1.2.2.2.2.2.2:Arr 4 (UInt64))=(Arr.rep 4 (0:UInt64))))))) else ((!(decide (x1.1=1))) && (!(decide ((x1.2.2.2.2.2.2:Arr 4 (UInt64))=(Arr.rep 4 (0:UInt64)))))))) r))
def fN (x1:Int×Int×Int×Int×Int×Int×T7t) (x3:Int) (x7:Bool) (x2:Int) (x14:Bool) (x21:Bool) (r:Bool):Prop:=
 iP x1 x21 x3 ((decide (x1.1<0)) || ((decide (8<x1.1)) || (bif x7 then ((decide (x1.2.1<0)) || ((decide (x2≤x1.2.1)) || (bif (!x7) then ((!(decide (x1.2.1=0))) || (bif x14 then ((decide (x1.2.2.1<0)) || ((decide (x2≤x1.2.2.1)) || ((!x14) && (!(decide (x1.2.2.1=0)))))) else ((!x14) && (!(decide (x1.2.2.1=0)))))) else (bif x14 then ((decide (x1.2.2.1<0)) || ((decide (x2≤x1.2.2.1)) || ((!x14) && (!(decide (x1.2.2.1=0)))))) else ((!x14) && (!(decide (x1.2.2.1=0)))))))) else (bif (!x7) then ((!(decide (x1.2.1=0))) || (bif x14 then ((decide (x1.2.2.1<0)) || ((decide (x2≤x1.2.2.1)) || ((!x14) && (!(decide (x1.2.2.1=0)))))) else ((!x14) && (!(decide (x1.2.2.1=0)))))) else (bif x14 then ((decide (x1.2.2.1<0)) || ((decide (x2≤x1.2.2.1)) || ((!x14) && (!(decide (x1.2.2.1=0)))))) else ((!x14) && (!(decide (x1.2.2.1=0))))))))) r
def fO (x1:Int×Int×Int×Int×Int×Int×T7t) (x3:Int) (x7:Bool) (x2:Int) (x14:Bool) (r:Bool):Prop:=
 fN x1 x3 x7 x2 x14 ((decide (x1.1=5)) || (decide (x1.1=6))) r
def fP (x1:Int×Int×Int×Int×Int×Int×T7t) (x3:Int) (x2:Int) (x7:Bool) (r:Bool):Prop:=
 fO x1 x3 x7 x2 ((decide (x1.1=2)) || (decide (x1.1=3))) r
def eM (x1:Int×Int×Int×Int×Int×Int×T7t) (x2:Int) (x3:Int) (r:Bool):Prop:=
 fP x1 x3 x2 ((decide (2≤x1.1)) && (decide (x1.1≤5))) r
set_option maxHeartbeats 4000000 in
theorem EW ⦃x1: Int × Int × Int × Int × Int × Int × T7t⦄ ⦃x2: Int⦄ ⦃x3: Int⦄ ⦃r: Bool⦄ (h: eM x1 x2 x3 r) : Cn Tryz.prog 22 [.agg (aa x1), iv x2, iv x3] [] [] (Ret (bv r)) := by
 refine al Tryz.func22 rfl rfl (by kernel_rfl) fun g hg=>?_;simp only [Tryz.ntmps22,av];unfold eM at h;refine wn_ 2 h fun h=>?_;refine cK rfl rfl rfl rfl fun b3 => ?_;refine wn_ 3 h fun h=>?_;refine ax (fun σ=>∃ x7, fP x1 x3 x2 x7 r ∧ σ=⟨[(1, iv x2), (2, iv x3), (3, pw b3), (7, bv x7)], [⟨b3, 43, (aa x1)⟩], []⟩) ?_ ?_
 ·refine ks_ 13 h (fun h=>?_) fun h=>?_
  ·exact m_ h
  exact m_ h
 rintro _ ⟨x7,h,rfl⟩;unfold fP at h;refine ax (fun σ=>∃ x14, fO x1 x3 x7 x2 x14 r ∧ σ=⟨[(1, iv x2), (2, iv x3), (3, pw b3), (7, bv x7), (8, bv x14)], [⟨b3, 43, (aa x1)⟩], []⟩) ?_ ?_
 ·refine ks_ 21 h (fun h=>?_) fun h=>?_
  ·exact m_ h
  exact m_ h
 rintro _ ⟨x14,h,rfl⟩;unfold fO at h;refine ax (fun σ=>∃ x21, fN x1 x3 x7 x2 x14 x21 r ∧ σ=⟨[(1, iv x2), (2, iv x3), (3, pw b3), (7, bv x7), (8, bv x14), (9, bv x21)], [⟨b3, 43, (aa x1)⟩], []⟩) ?_ ?_
 ·refine ks_ 29 h (fun h=>?_) fun h=>?_
  ·exact m_ h
  exact m_ h
 rintro _ ⟨x21,h,rfl⟩;unfold fN at h;refine fh ?_;refine ax (fun σ=>∃ x180, iP x1 x21 x3 x180 r ∧ σ=⟨[(2, iv x3), (3, pw b3), (9, bv x21), (87, bv x180)], [⟨b3, 43, (aa x1)⟩], []⟩) ?_ ?_
 ·refine ks_ 37 h (fun h=>?_) fun h=>?_
  ·exact m_ h
  refine ks_ 42 h (fun h=>?_) fun h=>?_
  ·exact m_ h
  refine ks_ 44 h (fun h=>?_) fun h=>?_
  ·refine ks_ 48 h (fun h=>?_) fun h=>?_
   ·exact m_ h
   refine ks_ 56 h (fun h=>?_) fun h=>?_
   ·exact m_ h
   refine ks_ 59 h (fun h=>?_) fun h=>?_
   ·refine ks_ 65 h (fun h=>?_) fun h=>?_
    ·exact m_ h
    refine ks_ 67 h (fun h=>?_) fun h=>?_
    ·refine ks_ 71 h (fun h=>?_) fun h=>?_
     ·exact m_ h
     refine ks_ 79 h (fun h=>?_) fun h=>?_
     ·exact m_ h
     refine ks_ 82 h (fun h=>?_) fun h=>?_
     ·exact m_ h
     exact m_ h
    refine ks_ 82 h (fun h=>?_) fun h=>?_
    ·exact m_ h
    exact m_ h
   refine ks_ 67 h (fun h=>?_) fun h=>?_
   ·refine ks_ 71 h (fun h=>?_) fun h=>?_
    ·exact m_ h
    refine ks_ 79 h (fun h=>?_) fun h=>?_
    ·exact m_ h
    refine ks_ 82 h (fun h=>?_) fun h=>?_
    ·exact m_ h
    exact m_ h
   refine ks_ 82 h (fun h=>?_) fun h=>?_
   ·exact m_ h
   exact m_ h
  refine ks_ 59 h (fun h=>?_) fun h=>?_
  ·refine ks_ 65 h (fun h=>?_) fun h=>?_
   ·exact m_ h
   refine ks_ 67 h (fun h=>?_) fun h=>?_
   ·refine ks_ 71 h (fun h=>?_) fun h=>?_
    ·exact m_ h
    refine ks_ 79 h (fun h=>?_) fun h=>?_
    ·exact m_ h
    refine ks_ 82 h (fun h=>?_) fun h=>?_
    ·exact m_ h
    exact m_ h
   refine ks_ 82 h (fun h=>?_) fun h=>?_
   ·exact m_ h
   exact m_ h
  refine ks_ 67 h (fun h=>?_) fun h=>?_
  ·refine ks_ 71 h (fun h=>?_) fun h=>?_
   ·exact m_ h
   refine ks_ 79 h (fun h=>?_) fun h=>?_
   ·exact m_ h
   refine ks_ 82 h (fun h=>?_) fun h=>?_
   ·exact m_ h
   exact m_ h
  refine ks_ 82 h (fun h=>?_) fun h=>?_
  ·exact m_ h
  exact m_ h
 rintro _ ⟨x180,h,rfl⟩;refine i_ h (fun h=>?_) fun h=>?_
 ·exact r_ h hg
 refine wn_ 3 h fun h=>?_;refine ax (fun σ=>∃ x304, iO x1 x304 r ∧ σ=⟨[(3, pw b3), (119, bv x304)], [⟨b3, 43, (aa x1)⟩], []⟩) ?_ ?_
 ·refine ks_ 89 h (fun h=>?_) fun h=>?_
  ·refine ks_ 93 h (fun h=>?_) fun h=>?_
   ·exact m_ h
   refine ks_ 100 h (fun h=>?_) fun h=>?_
   ·exact m_ h
   refine ks_ 103 h (fun h=>?_) fun h=>?_
   ·refine ks_ 109 h (fun h=>?_) fun h=>?_
    ·exact m_ h
    refine ks_ 113 h (fun h=>?_) fun h=>?_
    ·refine vp_ (cd bE.h rfl) ?_;refine v_ (an 0 [iv x1.1, iv x1.2.1, iv x1.2.2.1, iv x1.2.2.2.1, iv x1.2.2.2.2.1, iv x1.2.2.2.2.2.1] ((List.map ew x1.2.2.2.2.2.2.l).flatten) [] sq_ sl_ sl_ (aq (aE (by rfl))) ae.h rfl rfl) ?_;refine vp_ (bX (cs := ((List.map ew ((Arr.rep 4 (0 : UInt64))).l).flatten)) ai.h ae.h ar.h rfl (by rfl)) ?_
     refine vp_ (kl (f := bB) (a := x1.2.2.2.2.2.2) (b := (Arr.rep 4 (0 : UInt64))) (lK (t := 41) (e := 39) (f := ew) ai.h ae.h (by kernel_rfl) inferInstance (fun _ => rfl)) (by decide) (by kernel_rfl) ev_ ev_) ?_;exact m_ h
    exact m_ h
   refine ks_ 113 h (fun h=>?_) fun h=>?_
   ·refine vp_ (cd bE.h rfl) ?_;refine v_ (an 0 [iv x1.1, iv x1.2.1, iv x1.2.2.1, iv x1.2.2.2.1, iv x1.2.2.2.2.1, iv x1.2.2.2.2.2.1] ((List.map ew x1.2.2.2.2.2.2.l).flatten) [] sq_ sl_ sl_ (aq (aE (by rfl))) ae.h rfl rfl) ?_;refine vp_ (bX (cs := ((List.map ew ((Arr.rep 4 (0 : UInt64))).l).flatten)) ai.h ae.h ar.h rfl (by rfl)) ?_
    refine vp_ (kl (f := bB) (a := x1.2.2.2.2.2.2) (b := (Arr.rep 4 (0 : UInt64))) (lK (t := 41) (e := 39) (f := ew) ai.h ae.h (by kernel_rfl) inferInstance (fun _ => rfl)) (by decide) (by kernel_rfl) ev_ ev_) ?_;exact m_ h
   exact m_ h
  refine ks_ 103 h (fun h=>?_) fun h=>?_
  ·refine ks_ 109 h (fun h=>?_) fun h=>?_
   ·exact m_ h
   refine ks_ 113 h (fun h=>?_) fun h=>?_
   ·refine vp_ (cd bE.h rfl) ?_;refine v_ (an 0 [iv x1.1, iv x1.2.1, iv x1.2.2.1, iv x1.2.2.2.1, iv x1.2.2.2.2.1, iv x1.2.2.2.2.2.1] ((List.map ew x1.2.2.2.2.2.2.l).flatten) [] sq_ sl_ sl_ (aq (aE (by rfl))) ae.h rfl rfl) ?_;refine vp_ (bX (cs := ((List.map ew ((Arr.rep 4 (0 : UInt64))).l).flatten)) ai.h ae.h ar.h rfl (by rfl)) ?_
    refine vp_ (kl (f := bB) (a := x1.2.2.2.2.2.2) (b := (Arr.rep 4 (0 : UInt64))) (lK (t := 41) (e := 39) (f := ew) ai.h ae.h (by kernel_rfl) inferInstance (fun _ => rfl)) (by decide) (by kernel_rfl) ev_ ev_) ?_;exact m_ h
   exact m_ h
  refine ks_ 113 h (fun h=>?_) fun h=>?_
  ·refine vp_ (cd bE.h rfl) ?_;refine v_ (an 0 [iv x1.1, iv x1.2.1, iv x1.2.2.1, iv x1.2.2.2.1, iv x1.2.2.2.2.1, iv x1.2.2.2.2.2.1] ((List.map ew x1.2.2.2.2.2.2.l).flatten) [] sq_ sl_ sl_ (aq (aE (by rfl))) ae.h rfl rfl) ?_;refine vp_ (bX (cs := ((List.map ew ((Arr.rep 4 (0 : UInt64))).l).flatten)) ai.h ae.h ar.h rfl (by rfl)) ?_
   refine vp_ (kl (f := bB) (a := x1.2.2.2.2.2.2) (b := (Arr.rep 4 (0 : UInt64))) (lK (t := 41) (e := 39) (f := ew) ai.h ae.h (by kernel_rfl) inferInstance (fun _ => rfl)) (by decide) (by kernel_rfl) ev_ ev_) ?_;exact m_ h
  exact m_ h
 rintro _ ⟨x304,h,rfl⟩;refine i_ h (fun h=>?_) fun h=>?_
 ·exact r_ h hg
 refine i_ h (fun h=>?_) fun h=>?_
 ·refine is_ 126 h (fun h=>?_) fun h=>?_
  ·exact r_ h hg
  exact r_ h hg
 refine wn_ 2 h fun h=>?_;refine ax (fun σ=>∃ x354, iN x354 r ∧ σ=⟨[(6, bv x354)], [], []⟩) ?_ ?_
 ·refine ks_ 134 h (fun h=>?_) fun h=>?_
  ·refine ks_ 139 h (fun h=>?_) fun h=>?_
   ·refine ks_ 143 h (fun h=>?_) fun h=>?_
    ·exact m_ h
    refine ks_ 149 h (fun h=>?_) fun h=>?_
    ·exact m_ h
    exact m_ h
   exact m_ h
  exact m_ h
 rintro _ ⟨x354,h,rfl⟩;exact r_ h hg
def iA (o1:(List UInt8)×Int×Int×T0t×T5t) (nv3:Int×Int×Int×Int×Int×Int×T7t) (r:Int×T2t):Prop:=
 ((1000≤(o1.2.2.2.1.1.length:Int)→r=((-1),o1))∧(¬ (1000≤(o1.2.2.2.1.1.length:Int))→∃ y28:Bool,eM nv3 (o1.2.2.2.1.1.length:Int) o1.2.2.2.1.2 y28∧((¬ (y28=true)→r=((-1),o1))∧(¬ (¬ (y28=true))→ef ((([]:List T4t)).length+o1.2.2.2.1.1.length) 80∧ef (((([]:List T4t)++o1.2.2.2.1.1)).length+([nv3]).length) 80∧InR (((((([]:List T4t)++o1.2.2.2.1.1)++[nv3])).length:Int) - 1)∧r=((((((([]:List T4t)++o1.2.2.2.1.1)++[nv3])).length:Int) - 1),(o1.1,o1.2.1,o1.2.2.1,(((([]:List T4t)++o1.2.2.2.1.1)++[nv3]),o1.2.2.2.1.2),o1.2.2.2.2))))))
set_option maxHeartbeats 4000000 in
theorem EX ⦃o1: (List UInt8) × Int × Int × T0t × T5t⦄ ⦃nv3: Int × Int × Int × Int × Int × Int × T7t⦄ ⦃r: Int × T2t⦄ (h: iA o1 nv3 r) (bx0: Nat) (ia2: Option (Nat × Nat)) : Cn Tryz.prog 51 [.v (.pointer (some ⟨bx0, 3, none⟩)), .agg (aa nv3)] [⟨bx0, 76, ([sb o1.1, iv o1.2.1, iv o1.2.2.1, .sl 10 (some ia2) (List.map aa o1.2.2.2.1.1), iv o1.2.2.2.1.2] ++ (List.map eB o1.2.2.2.2.l).flatten)⟩] [⟨ia2, 43, 10, o1.2.2.2.1.1.length⟩] fun rr bx tk=>∃ j1, rr=iv r.1 ∧ bx=[⟨bx0, 76, ([sb r.2.1, iv r.2.2.1, iv r.2.2.2.1, .sl 10 (some j1) (List.map aa r.2.2.2.2.1.1), iv r.2.2.2.2.1.2] ++ (List.map eB r.2.2.2.2.2.l).flatten)⟩] ∧ tk=[⟨j1, 43, 10, r.2.2.2.2.1.1.length⟩] := by
 refine al Tryz.func51 rfl rfl (by kernel_rfl) fun g hg=>?_;simp only [Tryz.ntmps51,av];refine wn_ 2 h fun h=>?_;refine cK rfl rfl rfl rfl fun b3 => ?_;refine wn_ 5 h fun h=>?_;refine az (m := 20) (by kernel_rfl) rfl ?_;refine o_ [0,1,2,3,4,5,6] ?_;refine ip_ 11 h (fun h=>?_) fun h=>?_
 ·refine o_ [7,8,9,10,11,12,13,14,15,16,17,18,19] ?_;refine aB (by kernel_rfl) ?_;exact r_ h hg
 obtain ⟨y28, h27, h⟩ := h;refine o_ [8,9,10,13,14,15] ?_;refine en 7 [11, 12, 16] rfl (an 0 [] (aa nv3) [] sq_ sl_ sl_ (aq sl_) ae.h rfl rfl) rfl rfl (by kernel_rfl) (by kernel_rfl) (by kernel_rfl) (fun _ _ _ _ h => h) ?_
 refine o_ [11,12,16] ?_;refine aG (i := 17) (by kernel_rfl) rfl ?_;refine cM EW h27 ?_;refine o_ [18,19] ?_;refine aB (by kernel_rfl) ?_;refine i_ h (fun h=>?_) fun h=>?_
 ·exact r_ h hg
 refine wn_ 3 h fun h=>?_;refine az (m := 13) (by kernel_rfl) rfl ?_;obtain ⟨h38, h⟩ := h;obtain ⟨h40, h⟩ := h;refine ff 4 #[true, true, true, true, true, true, true, true, true, false, false, false, false] (fun σ=>∃ i39 s33, σ=⟨[(0, .v (.pointer (some ⟨bx0, 3, none⟩))), (25, .v (.pointer (some ⟨bx0, 3, none⟩))), (31, .sl 10 (some i39) (List.map aa ((([] : List T4t) ++ o1.2.2.2.1.1)))), (33, .sl 10 (some (some (s33, 1))) (List.map aa ([nv3])))], [⟨bx0, 76, ([sb o1.1, iv o1.2.1, iv o1.2.2.1, .sl 10 (some ia2) (List.map aa o1.2.2.2.1.1), iv o1.2.2.2.1.2] ++ (List.map eB o1.2.2.2.2.l).flatten)⟩], [⟨(some (s33, 1)), 43, 10, ([nv3]).length⟩, ⟨i39, 43, 10, ((([] : List T4t) ++ o1.2.2.2.1.1)).length⟩, ⟨ia2, 43, 10, o1.2.2.2.1.1.length⟩]⟩) ?_ (fun key42=>?_)
 ·rintro _ ⟨i39,s33,rfl⟩;refine aG (i := 9) (by kernel_rfl) rfl ?_;refine ko (l := (([] : List T4t) ++ o1.2.2.2.1.1)) (l2 := [nv3]) 1 h40 ai.h ar.h rfl rfl rfl (.refl _) rfl rfl rfl fun i41 => ?_;refine o_ [10,11] ?_;refine aG (i := 12) (by kernel_rfl) rfl ?_;refine cx 0 ae.h rfl rfl rfl rfl rfl rfl rfl ?_;refine aB (by kernel_rfl) ?_
  exact r_ h hg
 refine ff 5 #[true, true, true, true, true, true, true, true, false, false, false, false, false] (fun σ=>∃ i39, σ=⟨[(0, .v (.pointer (some ⟨bx0, 3, none⟩))), (25, .v (.pointer (some ⟨bx0, 3, none⟩))), (31, .sl 10 (some i39) (List.map aa ((([] : List T4t) ++ o1.2.2.2.1.1)))), (32, .agg (aa nv3))], [⟨bx0, 76, ([sb o1.1, iv o1.2.1, iv o1.2.2.1, .sl 10 (some ia2) (List.map aa o1.2.2.2.1.1), iv o1.2.2.2.1.2] ++ (List.map eB o1.2.2.2.2.l).flatten)⟩], [⟨i39, 43, 10, ((([] : List T4t) ++ o1.2.2.2.1.1)).length⟩, ⟨ia2, 43, 10, o1.2.2.2.1.1.length⟩]⟩) ?_ (fun key45=>?_)
 ·rintro _ ⟨i39,rfl⟩;refine aG (i := 8) (by kernel_rfl) rfl ?_;refine eF (f := aa) [nv3] ai.h ar.h rfl (.cons rfl (mz sl_) rfl rfl .nil) wr_ rfl rfl rfl rfl fun s33 => ?_;exact bm key42 ⟨i39, s33, rfl⟩ ⟨lk_, sm_⟩ rfl (by kernel_rfl)
 refine ff 5 #[true, true, true, true, true, true, false, true, true, false, false, false, false] (fun σ=>∃ s26 s33, σ=⟨[(0, .v (.pointer (some ⟨bx0, 3, none⟩))), (25, .v (.pointer (some ⟨bx0, 3, none⟩))), (26, .sl 10 (some (some (s26, 0))) (List.map aa (([] : List T4t)))), (30, .sl 10 (some ia2) (List.map aa o1.2.2.2.1.1)), (33, .sl 10 (some (some (s33, 1))) (List.map aa ([nv3])))], [⟨bx0, 76, ([sb o1.1, iv o1.2.1, iv o1.2.2.1, .sl 10 (some ia2) (List.map aa o1.2.2.2.1.1), iv o1.2.2.2.1.2] ++ (List.map eB o1.2.2.2.2.l).flatten)⟩], [⟨(some (s33, 1)), 43, 10, ([nv3]).length⟩, ⟨(some (s26, 0)), 43, 10, (([] : List T4t)).length⟩, ⟨ia2, 43, 10, o1.2.2.2.1.1.length⟩]⟩) ?_ (fun key46=>?_)
 ·rintro _ ⟨s26,s33,rfl⟩;refine aG (i := 6) (by kernel_rfl) rfl ?_;refine ko (l := ([] : List T4t)) (l2 := o1.2.2.2.1.1) 1 h38 ai.h ar.h rfl rfl rfl (.refl _) rfl rfl rfl fun i39 => ?_;exact bm key42 ⟨i39, s33, rfl⟩ ⟨lk_, sm_⟩ rfl (by kernel_rfl)
 refine ff 6 #[true, true, true, true, true, true, false, true, false, false, false, false, false] (fun σ=>∃ s26, σ=⟨[(0, .v (.pointer (some ⟨bx0, 3, none⟩))), (25, .v (.pointer (some ⟨bx0, 3, none⟩))), (26, .sl 10 (some (some (s26, 0))) (List.map aa (([] : List T4t)))), (30, .sl 10 (some ia2) (List.map aa o1.2.2.2.1.1)), (32, .agg (aa nv3))], [⟨bx0, 76, ([sb o1.1, iv o1.2.1, iv o1.2.2.1, .sl 10 (some ia2) (List.map aa o1.2.2.2.1.1), iv o1.2.2.2.1.2] ++ (List.map eB o1.2.2.2.2.l).flatten)⟩], [⟨(some (s26, 0)), 43, 10, (([] : List T4t)).length⟩, ⟨ia2, 43, 10, o1.2.2.2.1.1.length⟩]⟩) ?_ (fun key47=>?_)
 ·rintro _ ⟨s26,rfl⟩;refine cv (is := [6, 8]) (by kernel_rfl) (by simp) ?_;intro i hi; simp only [List.mem_cons, List.not_mem_nil, or_false] at hi; rcases hi with rfl | rfl
  ·refine ⟨_, rfl, ?_⟩;refine ko (l := ([] : List T4t)) (l2 := o1.2.2.2.1.1) 0 h38 ai.h ar.h rfl rfl rfl (.refl _) rfl rfl rfl fun i39 => ?_;exact bm key45 ⟨i39, rfl⟩ ⟨lk_, sm_⟩ rfl (by kernel_rfl)
  ·refine ⟨_, rfl, ?_⟩;refine eF (f := aa) [nv3] ai.h ar.h rfl (.cons rfl (mz sl_) rfl rfl .nil) wr_ rfl rfl rfl rfl fun s33 => ?_;exact bm key46 ⟨s26, s33, rfl⟩ ⟨lk_, sm_⟩ rfl (by kernel_rfl)
 refine o_ [0,2,3,4,5] ?_;refine cv (is := [1, 7]) (by kernel_rfl) (by simp) ?_;intro i hi; simp only [List.mem_cons, List.not_mem_nil, or_false] at hi; rcases hi with rfl | rfl
 ·refine ⟨_, rfl, ?_⟩;refine eF (f := aa) ([] : List T4t) ai.h ar.h rfl .nil wr_ rfl rfl rfl rfl fun s26 => ?_;refine cv (is := [6, 7]) (by kernel_rfl) (by simp) ?_;intro i hi; simp only [List.mem_cons, List.not_mem_nil, or_false] at hi; rcases hi with rfl | rfl
  ·refine ⟨_, rfl, ?_⟩;refine ko (l := ([] : List T4t)) (l2 := o1.2.2.2.1.1) 0 h38 ai.h ar.h rfl rfl rfl (.refl _) rfl rfl rfl fun i39 => ?_;refine en 7 [] rfl (an 0 [] (aa nv3) [] sq_ sl_ sl_ (aq sl_) ae.h rfl rfl) rfl rfl (by kernel_rfl) (by kernel_rfl) (by kernel_rfl) (fun _ _ _ _ h => h) ?_
   exact bm key45 ⟨i39, rfl⟩ ⟨lk_, sm_⟩ rfl (by kernel_rfl)
  ·refine ⟨_, rfl, ?_⟩;refine wv_ (an 0 [] (aa nv3) [] sq_ sl_ sl_ (aq sl_) ae.h rfl rfl) ?_;exact bm key47 ⟨s26, rfl⟩ ⟨lk_, sm_⟩ rfl (by kernel_rfl)
 ·refine ⟨_, rfl, ?_⟩;refine wv_ (an 0 [] (aa nv3) [] sq_ sl_ sl_ (aq sl_) ae.h rfl rfl) ?_;refine cv (is := [1, 8]) (by kernel_rfl) (by simp) ?_;intro i hi; simp only [List.mem_cons, List.not_mem_nil, or_false] at hi; rcases hi with rfl | rfl
  ·refine ⟨_, rfl, ?_⟩;refine eF (f := aa) ([] : List T4t) ai.h ar.h rfl .nil wr_ rfl rfl rfl rfl fun s26 => ?_;exact bm key47 ⟨s26, rfl⟩ ⟨lk_, sm_⟩ rfl (by kernel_rfl)
  ·refine ⟨_, rfl, ?_⟩;refine eF (f := aa) [nv3] ai.h ar.h rfl (.cons rfl (mz sl_) rfl rfl .nil) wr_ rfl rfl rfl rfl fun s33 => ?_;refine aG (i := 1) (by kernel_rfl) rfl ?_;refine eF (f := aa) ([] : List T4t) ai.h ar.h rfl .nil wr_ rfl rfl rfl rfl fun s26 => ?_;exact bm key46 ⟨s26, s33, rfl⟩ ⟨lk_, by refine SubM.trans (SubM.mvT 2 rfl) ?_; refine SubM.trans (SubM.mvT 1 rfl) ?_; refine SubM.trans (SubM.mvT 2 rfl) ?_; (simp only [List.eraseIdx]); exact sm_⟩ rfl (by kernel_rfl)
def ap (o1:(List UInt8)×Int×Int×T0t×T5t) (nv3:Int×Int×Int×Int×Int×Int×T7t) (r:Int×T2t):Prop:=
 ((¬ (o1.2.2.1=0)→r=(0,o1))∧(¬ (¬ (o1.2.2.1=0))→∃ y12:Int×T2t,iA o1 nv3 y12∧((y12.1<0→r=(y12.1,(y12.2.1,y12.2.2.1,8,y12.2.2.2.2.1,y12.2.2.2.2.2)))∧(¬ (y12.1<0)→r=(y12.1,y12.2)))))
set_option maxHeartbeats 4000000 in
theorem iQ ⦃o1: (List UInt8) × Int × Int × T0t × T5t⦄ ⦃nv3: Int × Int × Int × Int × Int × Int × T7t⦄ ⦃r: Int × T2t⦄ (h: ap o1 nv3 r) (bx0: Nat) (ia2: Option (Nat × Nat)) : Cn Tryz.prog 27 [pw bx0, .agg (aa nv3)] [⟨bx0, 76, ([sb o1.1, iv o1.2.1, iv o1.2.2.1, .sl 10 (some ia2) (List.map aa o1.2.2.2.1.1), iv o1.2.2.2.1.2] ++ (List.map eB o1.2.2.2.2.l).flatten)⟩] [⟨ia2, 43, 10, o1.2.2.2.1.1.length⟩] fun rr bx tk=>∃ j1, rr=iv r.1 ∧ bx=[⟨bx0, 76, ([sb r.2.1, iv r.2.2.1, iv r.2.2.2.1, .sl 10 (some j1) (List.map aa r.2.2.2.2.1.1), iv r.2.2.2.2.1.2] ++ (List.map eB r.2.2.2.2.2.l).flatten)⟩] ∧ tk=[⟨j1, 43, 10, r.2.2.2.2.1.1.length⟩] := by
 refine al Tryz.func27 rfl rfl (by kernel_rfl) fun g hg=>?_;simp only [Tryz.ntmps27,av];refine wn_ 2 h fun h=>?_;refine cK rfl rfl rfl rfl fun b3 => ?_;refine i_ h (fun h=>?_) fun h=>?_
 ·exact r_ h hg
 refine wn_ 3 h fun h=>?_;refine az (m := 6) (by kernel_rfl) rfl ?_;obtain ⟨y12, h11, h⟩ := h;refine o_ [0,1,2] ?_;refine en 3 [] rfl (an 0 [] (aa nv3) [] sq_ sl_ sl_ (aq sl_) ae.h rfl rfl) rfl rfl (by kernel_rfl) (by kernel_rfl) (by kernel_rfl) (fun _ _ _ _ h => h) ?_
 refine aG (i := 4) (by kernel_rfl) rfl ?_;refine rx EX h11 fun i13=>?_;refine o_ [5] ?_;refine aB (by kernel_rfl) ?_;refine i_ h (fun h=>?_) fun h=>?_
 ·exact r_ h hg
 exact r_ h hg
def eu (o1:(List UInt8)×Int×Int×T0t×T5t) (r:T0t×Int×Int):Prop:=
 ((¬ (o1.2.2.1=0)→r=((([]:List T4t),0),o1.2.1,o1.2.2.1))∧(¬ (¬ (o1.2.2.1=0))→r=(o1.2.2.2.1,0,0)))
set_option maxHeartbeats 4000000 in
theorem xu ⦃o1: (List UInt8) × Int × Int × T0t × T5t⦄ ⦃r: T0t × Int × Int⦄ (h: eu o1 r) (bx0: Nat) (ia2: Option (Nat × Nat)) : Cn Tryz.prog 28 [pw bx0] [⟨bx0, 76, ([sb o1.1, iv o1.2.1, iv o1.2.2.1, .sl 10 (some ia2) (List.map aa o1.2.2.2.1.1), iv o1.2.2.2.1.2] ++ (List.map eB o1.2.2.2.2.l).flatten)⟩] [⟨ia2, 43, 10, o1.2.2.2.1.1.length⟩] fun rr bx tk=>rr=.tup [.agg [.sl 10 none (List.map aa r.1.1), iv r.1.2], iv r.2.1, iv r.2.2] ∧ bx=[⟨bx0, 76, ([sb o1.1, iv o1.2.1, iv o1.2.2.1, .sl 10 (some ia2) (List.map aa o1.2.2.2.1.1), iv o1.2.2.2.1.2] ++ (List.map eB o1.2.2.2.2.l).flatten)⟩] ∧ tk=[⟨ia2, 43, 10, o1.2.2.2.1.1.length⟩] := by
 refine al Tryz.func28 rfl rfl (by kernel_rfl) fun g hg=>?_;simp only [Tryz.ntmps28,av];refine wn_ 2 h fun h=>?_;refine aN ar.h rfl rfl fun b2 => ?_;refine i_ h (fun h=>?_) fun h=>?_
 ·refine fh ?_;refine az (m := 12) (by kernel_rfl) rfl ?_;refine ff 0 #[true, true, true, true, true, true, true, true, true, true, true, true] (fun σ=>σ=⟨[(2, pw b2), (3, iv o1.2.1), (4, iv o1.2.2.1)], [⟨b2, 26, [.v (.slice none 0 0), iv 0]⟩, ⟨bx0, 76, ([sb o1.1, iv o1.2.1, iv o1.2.2.1, .sl 10 (some ia2) (List.map aa o1.2.2.2.1.1), iv o1.2.2.2.1.2] ++ (List.map eB o1.2.2.2.2.l).flatten)⟩], [⟨ia2, 43, 10, o1.2.2.2.1.1.length⟩]⟩) ?_ (fun key10=>?_)
  ·rintro _ rfl;refine aB (by kernel_rfl) ?_;exact rl_ h hg
  refine pl_ 0 rfl (aw aQ.h rfl rfl) ?_;refine o_ [1,2,3,5,6,7] ?_;refine cv (is := [4, 8, 9]) (by kernel_rfl) (by simp) ?_;intro i hi; simp only [List.mem_cons, List.not_mem_nil, or_false] at hi; rcases hi with rfl | rfl | rfl
  ·refine ⟨_, rfl, ?_⟩;refine wv_ (aK 1 ae.h rfl rfl rfl rfl) ?_;refine eG [⟨8, 18, iv o1.2.2.1⟩] 3 ?_;refine bl 9 (by kernel_rfl) rfl (.cons rfl rfl rfl (fun _ => rfl) (fun _ => aK 1 ae.h rfl rfl rfl rfl) .nil) fun D l td hR => ?_;refine cx 0 ae.h rfl rfl rfl rfl rfl rfl rfl ?_;refine ek hR ?_;refine nX 10 (by kernel_rfl) rfl (fun _ => iF rfl) (fun _ => rfl) rfl (by kernel_rfl) (fun _ _ _ _ h => h) ?_
   refine cw (l' := #[true, true, true, true, true, true, true, true, true, true, true, false]) (by kernel_rfl) (.cons rfl rfl rfl (fun _ => rfl) (fun _ => aK 1 ae.h rfl rfl rfl rfl) .nil) (by kernel_rfl) rfl (by kernel_rfl) (by kernel_rfl) ?_;simp only [List.nil_append, List.cons_append, List.map_cons, List.map_nil];refine o_ [11] ?_;exact bm key10 rfl ⟨lk_, sm_⟩ rfl (by kernel_rfl)
  ·refine ⟨_, rfl, ?_⟩;refine wv_ (aK 1 ae.h rfl rfl rfl rfl) ?_;refine eG [⟨4, 14, iv o1.2.1⟩] 3 ?_;refine bl 9 (by kernel_rfl) rfl (.cons rfl rfl rfl (fun _ => rfl) (fun _ => aK 1 ae.h rfl rfl rfl rfl) .nil) fun D l td hR => ?_;refine cx 0 ae.h rfl rfl rfl rfl rfl rfl rfl ?_;refine ek hR ?_;refine cw (l' := #[true, true, true, true, true, true, true, true, true, true, false, false]) (by kernel_rfl) (.cons rfl rfl rfl (fun _ => rfl) (fun _ => aK 1 ae.h rfl rfl rfl rfl) .nil) (by kernel_rfl) rfl (by kernel_rfl) (by kernel_rfl) ?_
   simp only [List.nil_append, List.cons_append, List.map_cons, List.map_nil];refine o_ [10,11] ?_;exact bm key10 rfl ⟨lk_, sm_⟩ rfl (by kernel_rfl)
  ·refine ⟨_, rfl, ?_⟩;refine cx 0 ae.h rfl rfl rfl rfl rfl rfl rfl ?_;refine o_ [4,10,8,11] ?_;exact bm key10 rfl ⟨lk_, sm_⟩ rfl (by kernel_rfl)
 refine wn_ 3 h fun h=>?_;refine az (m := 14) (by kernel_rfl) rfl ?_;refine o_ [0,1,2,3,5,6,7,8,4,9] ?_;refine pl_ 10 rfl (aw aQ.h rfl rfl) ?_;refine aG (i := 11) (by kernel_rfl) rfl ?_;refine cx 0 ae.h rfl rfl rfl rfl rfl rfl rfl ?_;refine o_ [12,13] ?_;refine aB (by kernel_rfl) ?_;exact rl_ h hg
def ak (o1:(List UInt8)×Int×Int×T0t×T5t) (k3:Int) (r:Int):Prop:=
 InR (o1.2.1+k3)∧(((o1.2.1+k3)<0→r=(-1))∧(¬ ((o1.2.1+k3)<0)→InR (o1.2.1+k3)∧(((o1.1.length:Int)≤(o1.2.1+k3)→r=(-1))∧(¬ ((o1.1.length:Int)≤(o1.2.1+k3))→InR (o1.2.1+k3)∧0≤((o1.2.1+k3):Int)∧∃ y35:UInt8,o1.1[((o1.2.1+k3):Int).toNat]? =some y35∧r=(y35.toNat:Int)))))
set_option maxHeartbeats 4000000 in
theorem eJ ⦃o1: (List UInt8) × Int × Int × T0t × T5t⦄ ⦃k3: Int⦄ ⦃r: Int⦄ (h: ak o1 k3 r) (bx0: Nat) (ia2: Option (Nat × Nat)) : Cn Tryz.prog 52 [pw bx0, iv k3] [⟨bx0, 76, ([sb o1.1, iv o1.2.1, iv o1.2.2.1, .sl 10 (some ia2) (List.map aa o1.2.2.2.1.1), iv o1.2.2.2.1.2] ++ (List.map eB o1.2.2.2.2.l).flatten)⟩] [⟨ia2, 43, 10, o1.2.2.2.1.1.length⟩] fun rr bx tk=>rr=iv r ∧ bx=[⟨bx0, 76, ([sb o1.1, iv o1.2.1, iv o1.2.2.1, .sl 10 (some ia2) (List.map aa o1.2.2.2.1.1), iv o1.2.2.2.1.2] ++ (List.map eB o1.2.2.2.2.l).flatten)⟩] ∧ tk=[⟨ia2, 43, 10, o1.2.2.2.1.1.length⟩] := by
 refine al Tryz.func52 rfl rfl (by kernel_rfl) fun g hg=>?_;simp only [Tryz.ntmps52,av];refine wn_ 7 h fun h=>?_;refine az (m := 21) (by kernel_rfl) rfl ?_;obtain ⟨h23, h⟩ := h;refine o_ [0,1,2,4,3,5,6,7] ?_;refine ip_ 12 h (fun h=>?_) fun h=>?_
 ·refine o_ [8,9,10,11,12,13,14,15,16,17,18,19,20] ?_;refine aB (by kernel_rfl) ?_;exact r_ h hg
 obtain ⟨h26, h⟩ := h;refine o_ [8,9,10,12,14,15,16,11,13,17,18,19,20] ?_;refine aB (by kernel_rfl) ?_;refine i_ h (fun h=>?_) fun h=>?_
 ·exact r_ h hg
 refine wn_ 3 h fun h=>?_;refine az (m := 14) (by kernel_rfl) rfl ?_;obtain ⟨h34, h⟩ := h;obtain ⟨h36a, h⟩ := h;obtain ⟨y35, h36b, h⟩ := h;refine o_ [0,1,2,4,5,6,8,7,9,3] ?_;refine pl_ 10 rfl (aJ h36a h36b ai.h ae.h rfl rfl) ?_;refine o_ [11,12,13] ?_;refine aB (by kernel_rfl) ?_;exact r_ h hg
def iB (l3:List Int) (ag1:(Int×Int×(List UInt8)×Int×Int×(List T4t)×Int×T5t)→Prop) (k75:Int) (iv76:Int) (f77:List UInt8) (f78:Int) (f79:Int) (f80:List T4t) (f82:Int) (f83:Arr 10 (Bool)) (r:Int×T2t):Prop:=
 ((iv76<(l3.length:Int)→0≤(iv76:Int)∧∃ y102:Int,l3[(iv76:Int).toNat]? =some y102∧∃ y105:Int×T2t,ap (f77,f78,f79,(f80,f82),f83) (2,k75,y102,0,0,0,(Arr.rep 4 (0:UInt64))) y105∧InR (iv76+1)∧ag1 (y105.1,(iv76+1),y105.2.1,y105.2.2.1,y105.2.2.2.1,y105.2.2.2.2.1.1,y105.2.2.2.2.1.2,y105.2.2.2.2.2))∧(¬ (iv76<(l3.length:Int))→r=(k75,(f77,f78,f79,(f80,f82),f83))))
def cL (o1:(List UInt8)×Int×Int×T0t×T5t) (l3:List Int) (r:Int×T2t):Prop:=
 (((l3.length:Int)=0→∃ y14:Int×T2t,ap o1 (0,0,0,0,0,0,(Arr.rep 4 (0:UInt64))) y14∧r=(y14.1,y14.2))∧(¬ ((l3.length:Int)=0)→0≤(0:Int)∧∃ y16:Int,l3[(0:Int).toNat]? =some y16∧ba (fun ag1 s=>iB l3 ag1 s.1 s.2.1 s.2.2.1 s.2.2.2.1 s.2.2.2.2.1 s.2.2.2.2.2.1 s.2.2.2.2.2.2.1 s.2.2.2.2.2.2.2 r) (y16,1,o1.1,o1.2.1,o1.2.2.1,o1.2.2.2.1.1,o1.2.2.2.1.2,o1.2.2.2.2)))
set_option maxHeartbeats 4000000 in
theorem BP ⦃o1: (List UInt8) × Int × Int × T0t × T5t⦄ ⦃l3: List Int⦄ ⦃r: Int × T2t⦄ (h: cL o1 l3 r) (bx0: Nat) (ia2: Option (Nat × Nat)) : Cn Tryz.prog 54 [pw bx0, .sl 1 none (List.map ei l3)] [⟨bx0, 76, ([sb o1.1, iv o1.2.1, iv o1.2.2.1, .sl 10 (some ia2) (List.map aa o1.2.2.2.1.1), iv o1.2.2.2.1.2] ++ (List.map eB o1.2.2.2.2.l).flatten)⟩] [⟨ia2, 43, 10, o1.2.2.2.1.1.length⟩] fun rr bx tk=>∃ j1, rr=iv r.1 ∧ bx=[⟨bx0, 76, ([sb r.2.1, iv r.2.2.1, iv r.2.2.2.1, .sl 10 (some j1) (List.map aa r.2.2.2.2.1.1), iv r.2.2.2.2.1.2] ++ (List.map eB r.2.2.2.2.2.l).flatten)⟩] ∧ tk=[⟨j1, 43, 10, r.2.2.2.2.1.1.length⟩] := by
 refine al Tryz.func54 rfl rfl (by kernel_rfl) fun g hg=>?_;simp only [Tryz.ntmps54,av];refine i_ h (fun h=>?_) fun h=>?_
 ·refine wn_ 3 h fun h=>?_;refine vp_ (aw (cs := ([iv 0, iv 0, iv 0, iv 0, iv 0, iv 0] ++ (List.map ew ((Arr.rep 4 (0 : UInt64))).l).flatten)) aQ.h rfl (by exact congrArg some sq_)) ?_;refine c1_ iQ h fun y14 i15 h=>?_;exact r_ h hg
 refine x_ h fun y16 h=>?_;refine wn_ 11 h fun h=>?_;obtain ⟨Inv,⟨m0,hI⟩,hS⟩ := lq_ h;refine lp_ hI (fun σ m=>∃ k75 iv76 f77 f78 f79 f80 f82 f83 i81, Inv (k75, iv76, f77, f78, f79, f80, f82, f83) m ∧ σ=⟨[(0, pw bx0), (1, .sl 1 none (List.map ei l3)), (5, iv k75), (6, iv iv76)], [⟨bx0, 76, ([sb f77, iv f78, iv f79, .sl 10 (some i81) (List.map aa f80), iv f82] ++ (List.map eB f83.l).flatten)⟩], [⟨i81, 43, 10, f80.length⟩]⟩) ?_
 rintro _ m ⟨k75,iv76,f77,f78,f79,f80,f82,f83,i81,hI,rfl⟩;obtain ⟨ag1,hag1,h⟩ := cu hS hI;refine i_ h (fun h=>?_) fun h=>?_
 ·refine x_ h fun y102 h=>?_;refine v_ (cU ae.h rfl rfl rfl) ?_;refine vp_ (aw (cs := ([iv 2, iv k75, iv y102, iv 0, iv 0, iv 0] ++ (List.map ew ((Arr.rep 4 (0 : UInt64))).l).flatten)) aQ.h rfl (by refine ao [] [iv 0] ([iv 0, iv 0, iv 0, iv 0, iv 0] ++ (List.map ew ((Arr.rep 4 (0 : UInt64))).l).flatten) sq_ sl_ sl_ sl_ rfl rfl ?_; refine ao [iv 2] [iv 0] ([iv 0, iv 0, iv 0, iv 0] ++ (List.map ew ((Arr.rep 4 (0 : UInt64))).l).flatten) sq_ sl_ sl_ sl_ rfl rfl ?_; refine ao [iv 2, iv k75] [iv 0] ([iv 0, iv 0, iv 0] ++ (List.map ew ((Arr.rep 4 (0 : UInt64))).l).flatten) sq_ sl_ sl_ sl_ rfl rfl ?_; exact congrArg some sq_)) ?_
  refine c1_ iQ h fun y105 i106 h=>?_;exact g_ h hag1
 exact r_ h hg
def gi (iv176:Int) (ag1:(Int)→Prop) (_r:Bool):Prop:=
 InR (iv176+2)∧ag1 (iv176+2)
def po (row1:ByteArray) (c2:UInt8) (ag1:(Int)→Prop) (iv176:Int) (r:Bool):Prop:=
 InR (iv176+1)∧(((iv176+1)<(row1.size:Int)→0≤(iv176:Int)∧∃ c254:UInt8,row1[(iv176:Int).toNat]? =some c254∧(((c254.toNat:Int)≤(c2.toNat:Int)→InR (iv176+1)∧0≤((iv176+1):Int)∧∃ c259:UInt8,row1[((iv176+1):Int).toNat]? =some c259∧(((c2.toNat:Int)≤(c259.toNat:Int)→r=true)∧(¬ ((c2.toNat:Int)≤(c259.toNat:Int))→gi iv176 ag1 r)))∧(¬ ((c254.toNat:Int)≤(c2.toNat:Int))→gi iv176 ag1 r)))∧(¬ ((iv176+1)<(row1.size:Int))→r=false))
def bo (row1:ByteArray) (c2:UInt8) (r:Bool):Prop:=
 ba (fun ag1 s=>po row1 c2 ag1 s r) 0
set_option maxHeartbeats 4000000 in
theorem ny ⦃row1: ByteArray⦄ ⦃c2: UInt8⦄ ⦃r: Bool⦄ (h: bo row1 c2 r) : Cn Tryz.prog 114 [.v (.string row1), uv c2] [] [] (Ret (bv r)) := by
 refine al Tryz.func114 rfl rfl (by kernel_rfl) fun g hg=>?_;simp only [Tryz.ntmps114,av];refine wn_ 12 h fun h=>?_;obtain ⟨Inv,⟨m0,hI⟩,hS⟩ := lq_ h;refine lp_ hI (fun σ m=>∃ iv176, Inv iv176 m ∧ σ=⟨[(0, .v (.string row1)), (1, uv c2), (5, iv iv176)], [], []⟩) ?_;rintro _ m ⟨iv176,hI,rfl⟩;obtain ⟨ag1,hag1,h⟩ := cu hS hI;refine i_ h (fun h=>?_) fun h=>?_
 ·refine wn_ 2 h fun h=>?_;refine ax (fun σ=>gi iv176 ag1 r ∧ σ=⟨[(0, .v (.string row1)), (1, uv c2), (5, iv iv176)], [], []⟩) ?_ ?_
  ·refine x_ h fun c254 h=>?_;refine is_ 18 h (fun h=>?_) fun h=>?_
   ·refine x_ h fun c259 h=>?_;refine i_ h (fun h=>?_) fun h=>?_
    ·exact r_ h hg
    exact m_ h
   exact m_ h
  rintro _ ⟨h,rfl⟩;exact g_ h hag1
 exact r_ h hg
def io (c1:Int) (r:Bool):Prop:=
 ((0≤c1→∃ c11:UInt8,(c11.toNat:Int)=IntKind.u8.wrap c1∧∃ y13:Bool,bo (⟨#[65,90,97,122,48,57]⟩:ByteArray) c11 y13∧r=y13)∧(¬ (0≤c1)→r=false))
set_option maxHeartbeats 4000000 in
theorem EY ⦃c1: Int⦄ ⦃r: Bool⦄ (h: io c1 r) : Cn Tryz.prog 95 [iv c1] [] [] (Ret (bv r)) := by
 refine al Tryz.func95 rfl rfl (by kernel_rfl) fun g hg=>?_;simp only [Tryz.ntmps95,av];refine is_ 5 h (fun h=>?_) fun h=>?_
 ·refine mv_ ?_;obtain ⟨c11, h10, h⟩ := h;refine vp_ (eU h10 ai.h ai.h rfl) ?_;refine z0_ ny h fun y13 h=>?_;exact r_ h hg
 exact r_ h hg
def de (o1:(List UInt8)×Int×Int×T0t×T5t) (x77:Int) (r:Int×T2t):Prop:=
 InR (o1.2.1+2)∧∃ c82:UInt8,(c82.toNat:Int)=IntKind.u8.wrap x77∧∃ y84:T7t,cX c82 y84∧∃ y86:Int×T2t,ap (o1.1,(o1.2.1+2),o1.2.2.1,o1.2.2.2.1,o1.2.2.2.2) (1,0,0,0,0,0,y84) y86∧r=(y86.1,y86.2)
def cp (o1:(List UInt8)×Int×Int×T0t×T5t) (y4:Int) (x67:Bool) (r:Int×T2t):Prop:=
 ((x67=true→r=(0,(o1.1,o1.2.1,10,o1.2.2.2.1,o1.2.2.2.2)))∧(¬ (x67=true)→((y4=110→de o1 10 r)∧(¬ (y4=110)→de o1 y4 r))))
def gH (y4:Int) (o1:(List UInt8)×Int×Int×T0t×T5t) (x29:Bool) (r:Int×T2t):Prop:=
 ((x29=true→InR (y4 - 48)∧(0≤((y4 - 48):Int)∧((y4 - 48):Int)<10)∧∃ y40:Bool,o1.2.2.2.2.l[((y4 - 48):Int).toNat]? =some y40∧((¬ (y40=true)→r=(0,(o1.1,o1.2.1,16,o1.2.2.2.1,o1.2.2.2.2)))∧(¬ (¬ (y40=true))→InR (o1.2.1+2)∧InR (y4 - 48)∧∃ y45:Int×T2t,ap (o1.1,(o1.2.1+2),o1.2.2.1,o1.2.2.2.1,o1.2.2.2.2) (6,0,0,0,0,(y4 - 48),(Arr.rep 4 (0:UInt64))) y45∧r=(y45.1,y45.2))))∧(¬ (x29=true)→((y4<0→cp o1 y4 true r)∧(¬ (y4<0)→∃ y71:Bool,io y4 y71∧cp o1 y4 (y71 && (!(decide (y4=110)))) r))))
def a8 (o1:(List UInt8)×Int×Int×T0t×T5t) (r:Int×T2t):Prop:=
 ∃ y4:Int,ak o1 1 y4∧gH y4 o1 ((decide (49≤y4)) && (decide (y4≤57))) r
set_option maxHeartbeats 4000000 in
theorem BQ ⦃o1: (List UInt8) × Int × Int × T0t × T5t⦄ ⦃r: Int × T2t⦄ (h: a8 o1 r) (bx0: Nat) (ia2: Option (Nat × Nat)) : Cn Tryz.prog 72 [pw bx0] [⟨bx0, 76, ([sb o1.1, iv o1.2.1, iv o1.2.2.1, .sl 10 (some ia2) (List.map aa o1.2.2.2.1.1), iv o1.2.2.2.1.2] ++ (List.map eB o1.2.2.2.2.l).flatten)⟩] [⟨ia2, 43, 10, o1.2.2.2.1.1.length⟩] fun rr bx tk=>∃ j1, rr=iv r.1 ∧ bx=[⟨bx0, 76, ([sb r.2.1, iv r.2.2.1, iv r.2.2.2.1, .sl 10 (some j1) (List.map aa r.2.2.2.2.1.1), iv r.2.2.2.2.1.2] ++ (List.map eB r.2.2.2.2.2.l).flatten)⟩] ∧ tk=[⟨j1, 43, 10, r.2.2.2.2.1.1.length⟩] := by
 refine al Tryz.func72 rfl rfl (by kernel_rfl) fun g hg=>?_;simp only [Tryz.ntmps72,av];refine c0_ eJ h fun y4 h=>?_;refine wn_ 4 h fun h=>?_;refine ax (fun σ=>∃ x29, gH y4 o1 x29 r ∧ σ=⟨[(0, pw bx0), (3, iv y4), (11, bv x29)], [⟨bx0, 76, ([sb o1.1, iv o1.2.1, iv o1.2.2.1, .sl 10 (some ia2) (List.map aa o1.2.2.2.1.1), iv o1.2.2.2.1.2] ++ (List.map eB o1.2.2.2.2.l).flatten)⟩], [⟨ia2, 43, 10, o1.2.2.2.1.1.length⟩]⟩) ?_ ?_
 ·refine ks_ 8 h (fun h=>?_) fun h=>?_
  ·exact m_ h
  exact m_ h
 rintro _ ⟨x29,h,rfl⟩;refine i_ h (fun h=>?_) fun h=>?_
 ·refine wn_ 8 h fun h=>?_;obtain ⟨h39, h⟩ := h;obtain ⟨y40, h39b, h⟩ := h;refine vp_ (aA h39 ai.h ae.h rfl rfl) ?_;refine v_ (dH (f := eB) (a := o1.2.2.2.2) (k := 1) (off := 0) (i := ((y4 - 48) : Int).toNat) 0 [sb o1.1, iv o1.2.1, iv o1.2.2.1, .sl 10 (some ia2) (List.map aa o1.2.2.2.1.1), iv o1.2.2.2.1.2] [] h39b sq_ so_ (by decide) rfl ae.h rfl rfl) ?_
  refine i_ h (fun h=>?_) fun h=>?_
  ·exact r_ h hg
  refine wn_ 20 h fun h=>?_;refine vp_ (aw (cs := ([iv 6, iv 0, iv 0, iv 0, iv 0, iv ((y4 - 48))] ++ (List.map ew ((Arr.rep 4 (0 : UInt64))).l).flatten)) aQ.h rfl (by refine ao [] [iv 0] ([iv 0, iv 0, iv 0, iv 0, iv 0] ++ (List.map ew ((Arr.rep 4 (0 : UInt64))).l).flatten) sq_ sl_ sl_ sl_ rfl rfl ?_; refine ao [iv 6, iv 0, iv 0, iv 0, iv 0] [iv 0] ((List.map ew ((Arr.rep 4 (0 : UInt64))).l).flatten) sq_ sl_ sl_ sl_ rfl rfl ?_; exact congrArg some sq_)) ?_
  refine c1_ iQ h fun y45 i46 h=>?_;exact r_ h hg
 refine wn_ 3 h fun h=>?_;refine ax (fun σ=>∃ x67, cp o1 y4 x67 r ∧ σ=⟨[(0, pw bx0), (3, iv y4), (45, bv x67)], [⟨bx0, 76, ([sb o1.1, iv o1.2.1, iv o1.2.2.1, .sl 10 (some ia2) (List.map aa o1.2.2.2.1.1), iv o1.2.2.2.1.2] ++ (List.map eB o1.2.2.2.2.l).flatten)⟩], [⟨ia2, 43, 10, o1.2.2.2.1.1.length⟩]⟩) ?_ ?_
 ·refine is_ 38 h (fun h=>?_) fun h=>?_
  ·exact m_ h
  refine z0_ EY h fun y71 h=>?_;refine ks_ 41 h (fun h=>?_) fun h=>?_
  ·exact m_ h
  exact m_ h
 rintro _ ⟨x67,h,rfl⟩;refine i_ h (fun h=>?_) fun h=>?_
 ·exact r_ h hg
 refine wn_ 2 h fun h=>?_;refine ax (fun σ=>∃ x77, de o1 x77 r ∧ σ=⟨[(0, pw bx0), (3, iv x77)], [⟨bx0, 76, ([sb o1.1, iv o1.2.1, iv o1.2.2.1, .sl 10 (some ia2) (List.map aa o1.2.2.2.1.1), iv o1.2.2.2.1.2] ++ (List.map eB o1.2.2.2.2.l).flatten)⟩], [⟨ia2, 43, 10, o1.2.2.2.1.1.length⟩]⟩) ?_ ?_
 ·refine i_ h (fun h=>?_) fun h=>?_
  ·exact m_ h
  exact m_ h
 rintro _ ⟨x77,h,rfl⟩;refine wn_ 17 h fun h=>?_;obtain ⟨c82, h81, h⟩ := h;refine vp_ (eU h81 ai.h ai.h rfl) ?_;refine z0_ k0_ h fun y84 h=>?_;refine vp_ (aw (cs := ([iv 1, iv 0, iv 0, iv 0, iv 0, iv 0] ++ (List.map ew y84.l).flatten)) aQ.h rfl (by refine ao [] [iv 0] ([iv 0, iv 0, iv 0, iv 0, iv 0] ++ (List.map ew ((Arr.rep 4 (0 : UInt64))).l).flatten) sq_ sl_ sl_ sl_ rfl rfl ?_; refine ao [iv 1, iv 0, iv 0, iv 0, iv 0, iv 0] ((List.map ew ((Arr.rep 4 (0 : UInt64))).l).flatten) [] sq_ sl_ sl_ sl_ rfl rfl ?_; exact congrArg some sq_)) ?_
 refine c1_ iQ h fun y86 i87 h=>?_;exact r_ h hg
def cq (bv1:List UInt8) (iv2:Int) (r:Int):Prop:=
 ((iv2<0→r=(-1))∧(¬ (iv2<0)→(((bv1.length:Int)≤iv2→r=(-1))∧(¬ ((bv1.length:Int)≤iv2)→0≤(iv2:Int)∧∃ y21:UInt8,bv1[(iv2:Int).toNat]? =some y21∧r=(y21.toNat:Int)))))
set_option maxHeartbeats 4000000 in
theorem ql ⦃bv1: List UInt8⦄ ⦃iv2: Int⦄ ⦃r: Int⦄ (h: cq bv1 iv2 r) : Cn Tryz.prog 115 [sb bv1, iv iv2] [] [] (Ret (iv r)) := by
 refine al Tryz.func115 rfl rfl (by kernel_rfl) fun g hg=>?_;simp only [Tryz.ntmps115,av];refine is_ 7 h (fun h=>?_) fun h=>?_
 ·exact r_ h hg
 refine i_ h (fun h=>?_) fun h=>?_
 ·exact r_ h hg
 refine x_ h fun y21 h=>?_;exact r_ h hg
def gI (x1:ByteArray) (x2:UInt8) (r:Bool×Bool):Prop:=
 (((x1.toList==((⟨#[117,112,112,101,114]⟩:ByteArray)).toList)=true→∃ y88:Bool,bo (⟨#[65,90]⟩:ByteArray) x2 y88∧r=(y88,true))∧(¬ ((x1.toList==((⟨#[117,112,112,101,114]⟩:ByteArray)).toList)=true)→(((x1.toList==((⟨#[108,111,119,101,114]⟩:ByteArray)).toList)=true→∃ y92:Bool,bo (⟨#[97,122]⟩:ByteArray) x2 y92∧r=(y92,true))∧(¬ ((x1.toList==((⟨#[108,111,119,101,114]⟩:ByteArray)).toList)=true)→(((x1.toList==((⟨#[100,105,103,105,116]⟩:ByteArray)).toList)=true→∃ y96:Bool,bo (⟨#[48,57]⟩:ByteArray) x2 y96∧r=(y96,true))∧(¬ ((x1.toList==((⟨#[100,105,103,105,116]⟩:ByteArray)).toList)=true)→(((x1.toList==((⟨#[97,108,112,104,97]⟩:ByteArray)).toList)=true→∃ y100:Bool,bo (⟨#[65,90,97,122]⟩:ByteArray) x2 y100∧r=(y100,true))∧(¬ ((x1.toList==((⟨#[97,108,112,104,97]⟩:ByteArray)).toList)=true)→(((x1.toList==((⟨#[97,108,110,117,109]⟩:ByteArray)).toList)=true→∃ y104:Bool,bo (⟨#[65,90,97,122,48,57]⟩:ByteArray) x2 y104∧r=(y104,true))∧(¬ ((x1.toList==((⟨#[97,108,110,117,109]⟩:ByteArray)).toList)=true)→(((x1.toList==((⟨#[98,108,97,110,107]⟩:ByteArray)).toList)=true→(((x2.toNat:Int)=32→r=(true,true))∧(¬ ((x2.toNat:Int)=32)→r=((decide ((x2.toNat:Int)=9)),true))))∧(¬ ((x1.toList==((⟨#[98,108,97,110,107]⟩:ByteArray)).toList)=true)→(((x1.toList==((⟨#[115,112,97,99,101]⟩:ByteArray)).toList)=true→(((x2.toNat:Int)=32→r=(true,true))∧(¬ ((x2.toNat:Int)=32)→((9≤(x2.toNat:Int)→r=((decide ((x2.toNat:Int)≤13)),true))∧(¬ (9≤(x2.toNat:Int))→r=(false,true))))))∧(¬ ((x1.toList==((⟨#[115,112,97,99,101]⟩:ByteArray)).toList)=true)→(((x1.toList==((⟨#[99,110,116,114,108]⟩:ByteArray)).toList)=true→(((x2.toNat:Int)≤31→r=(true,true))∧(¬ ((x2.toNat:Int)≤31)→r=((decide ((x2.toNat:Int)=127)),true))))∧(¬ ((x1.toList==((⟨#[99,110,116,114,108]⟩:ByteArray)).toList)=true)→(((x1.toList==((⟨#[103,114,97,112,104]⟩:ByteArray)).toList)=true→((33≤(x2.toNat:Int)→r=((decide ((x2.toNat:Int)≤126)),true))∧(¬ (33≤(x2.toNat:Int))→r=(false,true))))∧(¬ ((x1.toList==((⟨#[103,114,97,112,104]⟩:ByteArray)).toList)=true)→(((x1.toList==((⟨#[112,114,105,110,116]⟩:ByteArray)).toList)=true→((32≤(x2.toNat:Int)→r=((decide ((x2.toNat:Int)≤126)),true))∧(¬ (32≤(x2.toNat:Int))→r=(false,true))))∧(¬ ((x1.toList==((⟨#[112,114,105,110,116]⟩:ByteArray)).toList)=true)→(((x1.toList==((⟨#[112,117,110,99,116]⟩:ByteArray)).toList)=true→((33≤(x2.toNat:Int)→(((x2.toNat:Int)≤126→∃ y162:Bool,bo (⟨#[65,90,97,122,48,57]⟩:ByteArray) x2 y162∧r=((!y162),true))∧(¬ ((x2.toNat:Int)≤126)→r=(false,true))))∧(¬ (33≤(x2.toNat:Int))→r=(false,true))))∧(¬ ((x1.toList==((⟨#[112,117,110,99,116]⟩:ByteArray)).toList)=true)→(((x1.toList==((⟨#[120,100,105,103,105,116]⟩:ByteArray)).toList)=true→∃ y166:Bool,bo (⟨#[48,57,65,70,97,102]⟩:ByteArray) x2 y166∧r=(y166,true))∧(¬ ((x1.toList==((⟨#[120,100,105,103,105,116]⟩:ByteArray)).toList)=true)→r=(false,false)))))))))))))))))))))))))
set_option maxHeartbeats 4000000 in
theorem EZ ⦃x1: ByteArray⦄ ⦃x2: UInt8⦄ ⦃r: Bool × Bool⦄ (h: gI x1 x2 r) : Cn Tryz.prog 136 [.v (.string x1), uv x2] [] [] fun rr bx tk=>rr=.tup [bv r.1, bv r.2] ∧ bx=[] ∧ tk=[] := by
 refine al Tryz.func136 rfl rfl (by kernel_rfl) fun g hg=>?_;simp only [Tryz.ntmps136,av];refine i_ h (fun h=>?_) fun h=>?_
 ·refine z0_ ny h fun y88 h=>?_;exact r_ h hg
 refine i_ h (fun h=>?_) fun h=>?_
 ·refine z0_ ny h fun y92 h=>?_;exact r_ h hg
 refine i_ h (fun h=>?_) fun h=>?_
 ·refine z0_ ny h fun y96 h=>?_;exact r_ h hg
 refine i_ h (fun h=>?_) fun h=>?_
 ·refine z0_ ny h fun y100 h=>?_;exact r_ h hg
 refine i_ h (fun h=>?_) fun h=>?_
 ·refine z0_ ny h fun y104 h=>?_;exact r_ h hg
 refine i_ h (fun h=>?_) fun h=>?_
 ·refine is_ 31 h (fun h=>?_) fun h=>?_
  ·exact r_ h hg
  exact r_ h hg
 refine i_ h (fun h=>?_) fun h=>?_
 ·refine is_ 39 h (fun h=>?_) fun h=>?_
  ·exact r_ h hg
  refine is_ 42 h (fun h=>?_) fun h=>?_
  ·exact r_ h hg
  exact r_ h hg
 refine i_ h (fun h=>?_) fun h=>?_
 ·refine is_ 51 h (fun h=>?_) fun h=>?_
  ·exact r_ h hg
  exact r_ h hg
 refine i_ h (fun h=>?_) fun h=>?_
 ·refine is_ 59 h (fun h=>?_) fun h=>?_
  ·exact r_ h hg
  exact r_ h hg
 refine i_ h (fun h=>?_) fun h=>?_
 ·refine is_ 67 h (fun h=>?_) fun h=>?_
  ·exact r_ h hg
  exact r_ h hg
 refine i_ h (fun h=>?_) fun h=>?_
 ·refine is_ 75 h (fun h=>?_) fun h=>?_
  ·refine is_ 79 h (fun h=>?_) fun h=>?_
   ·refine z0_ ny h fun y162 h=>?_;exact r_ h hg
   exact r_ h hg
  exact r_ h hg
 refine i_ h (fun h=>?_) fun h=>?_
 ·refine z0_ ny h fun y166 h=>?_;exact r_ h hg
 exact r_ h hg
def ip (x2:Int) (x262:Int) (x1:List UInt8) (ag6:(Int×(Arr 256 (Bool)))→Prop) (x579:Int) (f580:Arr 256 (Bool)) (r:T9t):Prop:=
 ((x579<256→InR (x2+2)∧(0≤((x2+2):Int)∧((x2+2):Int)≤(x262:Int)∧(x262:Int)≤(x1.length:Int))∧∃ c627:UInt8,(c627.toNat:Int)=IntKind.u8.wrap x579∧∃ y629:Bool×Bool,gI (⟨(((x1.take (x262:Int).toNat).drop ((x2+2):Int).toNat)).toArray⟩:ByteArray) c627 y629∧((¬ (y629.2=true)→r=(0,(Arr.rep 256 false),false,0,12))∧(¬ (¬ (y629.2=true))→(0≤(x579:Int)∧(x579:Int)<256)∧∃ y633:Bool,f580.l[(x579:Int).toNat]? =some y633∧InR (x579+1)∧ag6 ((x579+1),(Arr.set f580 (x579:Int).toNat y629.1)))))∧(¬ (x579<256)→r=(0,f580,true,(x262+2),0)))
def fw (x1:List UInt8) (y11:Int) (x2:Int) (x262:Int) (r:T9t):Prop:=
 (((x1.length:Int)≤x262→r=(0,(Arr.rep 256 false),false,0,11))∧(¬ ((x1.length:Int)≤x262)→InR (x262+2)∧((¬ (y11=58)→InR (x2+3)∧((¬ (x262=(x2+3))→r=(0,(Arr.rep 256 false),false,0,12))∧(¬ (¬ (x262=(x2+3)))→InR (x2+2)∧0≤((x2+2):Int)∧∃ y466:UInt8,x1[((x2+2):Int).toNat]? =some y466∧r=((y466.toNat:Int),(Arr.rep 256 false),false,(x262+2),0))))∧(¬ (¬ (y11=58))→ba (fun ag6 s=>ip x2 x262 x1 ag6 s.1 s.2 r) (0,(Arr.rep 256 false))))))
def iq (x321:Int) (ag4:(Int)→Prop) (_x405:UInt8) (_x406:UInt8) (_x407:Int) (_x408:Bool) (_x409:Bool) (_x410:Bool) (_x411:Bool) (_r:T9t):Prop:=
 InR (x321+1)∧ag4 (x321+1)
def ir (x1:List UInt8) (y11:Int) (x2:Int) (ag4:(Int)→Prop) (x321:Int) (r:T9t):Prop:=
 ((x321<(x1.length:Int)→0≤(x321:Int)∧∃ y427:UInt8,x1[(x321:Int).toNat]? =some y427∧(((y427.toNat:Int)=y11→InR (x321+1)∧∃ y434:Int,cq x1 (x321+1) y434∧((¬ (y434=93)→iq x321 ag4 y427 y427 (y427.toNat:Int) (decide ((y427.toNat:Int)=y11)) true (decide (y434=93)) (!(decide (y434=93))) r)∧(¬ (¬ (y434=93))→fw x1 y11 x2 x321 r)))∧(¬ ((y427.toNat:Int)=y11)→iq x321 ag4 y427 y427 (y427.toNat:Int) (decide ((y427.toNat:Int)=y11)) false false true r)))∧(¬ (x321<(x1.length:Int))→fw x1 y11 x2 x321 r))
def ky (x2:Int) (x1:List UInt8) (y11:Int) (x71:Bool) (r:T9t):Prop:=
 ((x71=true→0≤(x2:Int)∧∃ y82:UInt8,x1[(x2:Int).toNat]? =some y82∧InR (x2+1)∧r=((y82.toNat:Int),(Arr.rep 256 false),false,(x2+1),0))∧(¬ (x71=true)→InR (x2+2)∧ba (fun ag4 s=>ir x1 y11 x2 ag4 s r) (x2+2)))
def it (x2:Int) (x1:List UInt8) (y11:Int) (x30:Bool) (r:T9t):Prop:=
 ((x30=true→InR (x2+2)∧r=(10,(Arr.rep 256 false),false,(x2+2),0))∧(¬ (x30=true)→0≤(x2:Int)∧∃ y72:UInt8,x1[(x2:Int).toNat]? =some y72∧ky x2 x1 y11 ((!(decide ((y72.toNat:Int)=91))) || ((!(decide (y11=58))) && ((!(decide (y11=46))) && (!(decide (y11=61)))))) r))
def fQ (x1:List UInt8) (x2:Int) (r:T9t):Prop:=
 (((x1.length:Int)≤x2→r=(0,(Arr.rep 256 false),false,0,11))∧(¬ ((x1.length:Int)≤x2)→InR (x2+1)∧∃ y11:Int,cq x1 (x2+1) y11∧0≤(x2:Int)∧∃ y31:UInt8,x1[(x2:Int).toNat]? =some y31∧it x2 x1 y11 ((decide ((y31.toNat:Int)=92)) && (decide (y11=110))) r))
set_option maxRecDepth 100000 in
set_option maxHeartbeats 4000000 in
theorem BR ⦃x1: List UInt8⦄ ⦃x2: Int⦄ ⦃r: T9t⦄ (h: fQ x1 x2 r) : Cn Tryz.prog 116 [sb x1, iv x2] [] [] (Ret (.agg ([iv r.1] ++ ((List.map eB r.2.1.l).flatten ++ [bv r.2.2.1, iv r.2.2.2.1, iv r.2.2.2.2])))) := by
 refine al Tryz.func116 rfl rfl (by kernel_rfl) fun g hg=>?_;simp only [Tryz.ntmps116,av];refine wn_ 2 h fun h=>?_;refine aN ar.h rfl rfl fun b4 => ?_;refine bA 0 ([iv 0] ++ ((List.map eB ((Arr.rep 256 false)).l).flatten ++ [bv false, iv 0, iv 0])) rfl rfl ?_;refine i_ h (fun h=>?_) fun h=>?_
 ·refine wn_ 2 h fun h=>?_;refine vp_ (aw (cs := ([iv 0] ++ ((List.map eB ((Arr.rep 256 false)).l).flatten ++ [bv false, iv 0, iv 11]))) aQ.h rfl (by refine ao ([iv 0] ++ ((List.map eB ((Arr.rep 256 false)).l).flatten ++ [bv false, iv 0])) [iv 0] [] sq_ sl_ sl_ sl_ rfl rfl ?_; exact congrArg some sq_)) ?_
  refine aC 0 [] ([iv 0] ++ ((List.map eB ((Arr.rep 256 false)).l).flatten ++ [bv false, iv 0, iv 0])) [] ([iv 0] ++ ((List.map eB ((Arr.rep 256 false)).l).flatten ++ [bv false, iv 0, iv 11])) ae.h rfl rfl rfl rfl rfl ?_;exact rl_ h hg
 refine z0_ ql h fun y11 h=>?_;refine wn_ 4 h fun h=>?_;refine ax (fun σ=>∃ x30, it x2 x1 y11 x30 r ∧ σ=⟨[(0, sb x1), (1, iv x2), (4, pw b4), (5, iv y11), (28, bv x30)], [⟨b4, 148, ([iv 0] ++ ((List.map eB ((Arr.rep 256 false)).l).flatten ++ [bv false, iv 0, iv 0]))⟩], []⟩) ?_ ?_
 ·refine x_ h fun y31 h=>?_;refine ks_ 25 h (fun h=>?_) fun h=>?_
  ·exact m_ h
  exact m_ h
 rintro _ ⟨x30,h,rfl⟩;refine i_ h (fun h=>?_) fun h=>?_
 ·refine wn_ 4 h fun h=>?_;refine vp_ (aw (cs := ([iv 10] ++ ((List.map eB ((Arr.rep 256 false)).l).flatten ++ [bv false, iv ((x2 + 2)), iv 0]))) aQ.h rfl (by refine ao [] [iv 0] (((List.map eB ((Arr.rep 256 false)).l).flatten ++ [bv false, iv 0, iv 0])) sq_ sl_ sl_ sl_ rfl rfl ?_; refine ao ([iv 10] ++ ((List.map eB ((Arr.rep 256 false)).l).flatten ++ [bv false])) [iv 0] [iv 0] sq_ sl_ sl_ sl_ rfl rfl ?_; exact congrArg some sq_)) ?_
  refine aC 0 [] ([iv 0] ++ ((List.map eB ((Arr.rep 256 false)).l).flatten ++ [bv false, iv 0, iv 0])) [] ([iv 10] ++ ((List.map eB ((Arr.rep 256 false)).l).flatten ++ [bv false, iv ((x2 + 2)), iv 0])) ae.h rfl rfl rfl rfl rfl ?_;exact rl_ h hg
 refine wn_ 3 h fun h=>?_;refine ax (fun σ=>∃ x71, ky x2 x1 y11 x71 r ∧ σ=⟨[(0, sb x1), (1, iv x2), (4, pw b4), (5, iv y11), (48, bv x71)], [⟨b4, 148, ([iv 0] ++ ((List.map eB ((Arr.rep 256 false)).l).flatten ++ [bv false, iv 0, iv 0]))⟩], []⟩) ?_ ?_
 ·refine x_ h fun y72 h=>?_;refine ks_ 37 h (fun h=>?_) fun h=>?_
  ·exact m_ h
  refine ks_ 40 h (fun h=>?_) fun h=>?_
  ·refine ks_ 44 h (fun h=>?_) fun h=>?_
   ·exact m_ h
   exact m_ h
  exact m_ h
 rintro _ ⟨x71,h,rfl⟩;refine i_ h (fun h=>?_) fun h=>?_
 ·refine x_ h fun y82 h=>?_;refine wn_ 4 h fun h=>?_;refine vp_ (aw (cs := ([iv ((y82.toNat : Int))] ++ ((List.map eB ((Arr.rep 256 false)).l).flatten ++ [bv false, iv ((x2 + 1)), iv 0]))) aQ.h rfl (by refine ao [] [iv 0] (((List.map eB ((Arr.rep 256 false)).l).flatten ++ [bv false, iv 0, iv 0])) sq_ sl_ sl_ sl_ rfl rfl ?_; refine ao ([iv ((y82.toNat : Int))] ++ ((List.map eB ((Arr.rep 256 false)).l).flatten ++ [bv false])) [iv 0] [iv 0] sq_ sl_ sl_ sl_ rfl rfl ?_; exact congrArg some sq_)) ?_
  refine aC 0 [] ([iv 0] ++ ((List.map eB ((Arr.rep 256 false)).l).flatten ++ [bv false, iv 0, iv 0])) [] ([iv ((y82.toNat : Int))] ++ ((List.map eB ((Arr.rep 256 false)).l).flatten ++ [bv false, iv ((x2 + 1)), iv 0])) ae.h rfl rfl rfl rfl rfl ?_;exact rl_ h hg
 refine wn_ 9 h fun h=>?_;refine ax (fun σ=>∃ x262, fw x1 y11 x2 x262 r ∧ σ=⟨[(0, sb x1), (1, iv x2), (4, pw b4), (5, iv y11), (6, iv x262)], [⟨b4, 148, ([iv 0] ++ ((List.map eB ((Arr.rep 256 false)).l).flatten ++ [bv false, iv 0, iv 0]))⟩], []⟩) ?_ ?_
 ·refine na ?_;obtain ⟨Inv,⟨m0,hI⟩,hS⟩ := lq_ h;refine lp_ hI (fun σ m=>∃ x321, Inv x321 m ∧ σ=⟨[(0, sb x1), (1, iv x2), (4, pw b4), (5, iv y11), (6, iv x321)], [⟨b4, 148, ([iv 0] ++ ((List.map eB ((Arr.rep 256 false)).l).flatten ++ [bv false, iv 0, iv 0]))⟩], []⟩) ?_
  rintro _ m ⟨x321,hI,rfl⟩;obtain ⟨ag4,hag4,h⟩ := cu hS hI;refine ax (fun σ=>∃ x405 x406 x407 x408 x409 x410 x411, iq x321 ag4 x405 x406 x407 x408 x409 x410 x411 r ∧ σ=⟨[(0, sb x1), (1, iv x2), (4, pw b4), (5, iv y11), (6, iv x321), (64, sb x1), (65, iv x321), (66, .el [uv x405]), (67, uv x406), (68, iv x407), (69, iv y11), (70, bv x408), (71, bv x409), (77, bv x410), (78, bv x411)], [⟨b4, 148, ([iv 0] ++ ((List.map eB ((Arr.rep 256 false)).l).flatten ++ [bv false, iv 0, iv 0]))⟩], []⟩) ?_ ?_
  ·refine is_ 63 h (fun h=>?_) fun h=>?_
   ·refine x_ h fun y427 h=>?_;refine is_ 71 h (fun h=>?_) fun h=>?_
    ·refine z0_ ql h fun y434 h=>?_;refine i_ h (fun h=>?_) fun h=>?_
     ·exact m_ h
     exact m_ h
    exact m_ h
   exact m_ h
  rintro _ ⟨x405,x406,x407,x408,x409,x410,x411,h,rfl⟩;exact g_ h hag4
 rintro _ ⟨x262,h,rfl⟩;refine i_ h (fun h=>?_) fun h=>?_
 ·refine wn_ 2 h fun h=>?_;refine vp_ (aw (cs := ([iv 0] ++ ((List.map eB ((Arr.rep 256 false)).l).flatten ++ [bv false, iv 0, iv 11]))) aQ.h rfl (by refine ao ([iv 0] ++ ((List.map eB ((Arr.rep 256 false)).l).flatten ++ [bv false, iv 0])) [iv 0] [] sq_ sl_ sl_ sl_ rfl rfl ?_; exact congrArg some sq_)) ?_
  refine aC 0 [] ([iv 0] ++ ((List.map eB ((Arr.rep 256 false)).l).flatten ++ [bv false, iv 0, iv 0])) [] ([iv 0] ++ ((List.map eB ((Arr.rep 256 false)).l).flatten ++ [bv false, iv 0, iv 11])) ae.h rfl rfl rfl rfl rfl ?_;exact rl_ h hg
 refine wn_ 6 h fun h=>?_;refine vp_ (aw (cs := ([iv 0] ++ ((List.map eB ((Arr.rep 256 false)).l).flatten ++ [bv false, iv ((x262 + 2)), iv 0]))) aQ.h rfl (by refine ao ([iv 0] ++ ((List.map eB ((Arr.rep 256 false)).l).flatten ++ [bv false])) [iv 0] [iv 0] sq_ sl_ sl_ sl_ rfl rfl ?_; exact congrArg some sq_)) ?_
 refine aN ar.h rfl rfl fun b7 => ?_;refine bA 0 ([iv 0] ++ ((List.map eB ((Arr.rep 256 false)).l).flatten ++ [bv false, iv 0, iv 0])) rfl rfl ?_;refine aC 0 [] ([iv 0] ++ ((List.map eB ((Arr.rep 256 false)).l).flatten ++ [bv false, iv 0, iv 0])) [] ([iv 0] ++ ((List.map eB ((Arr.rep 256 false)).l).flatten ++ [bv false, iv ((x262 + 2)), iv 0])) ae.h rfl rfl rfl rfl rfl ?_
 refine i_ h (fun h=>?_) fun h=>?_
 ·refine i_ h (fun h=>?_) fun h=>?_
  ·refine wn_ 2 h fun h=>?_;refine vp_ (aw (cs := ([iv 0] ++ ((List.map eB ((Arr.rep 256 false)).l).flatten ++ [bv false, iv 0, iv 12]))) aQ.h rfl (by refine ao ([iv 0] ++ ((List.map eB ((Arr.rep 256 false)).l).flatten ++ [bv false, iv 0])) [iv 0] [] sq_ sl_ sl_ sl_ rfl rfl ?_; exact congrArg some sq_)) ?_
   refine aC 1 [] ([iv 0] ++ ((List.map eB ((Arr.rep 256 false)).l).flatten ++ [bv false, iv 0, iv 0])) [] ([iv 0] ++ ((List.map eB ((Arr.rep 256 false)).l).flatten ++ [bv false, iv 0, iv 12])) ae.h rfl rfl rfl rfl rfl ?_;exact rl_ h hg
  refine x_ h fun y466 h=>?_;refine wn_ 8 h fun h=>?_;refine v_ (an 0 [] ([iv ((y466.toNat : Int))] ++ ((List.map eB ((Arr.rep 256 false)).l).flatten ++ [bv false, iv ((x262 + 2)), iv 0])) [] sq_ sl_ sl_ (aq sl_) ae.h rfl rfl) ?_;refine aC 1 [] ([iv 0] ++ ((List.map eB ((Arr.rep 256 false)).l).flatten ++ [bv false, iv 0, iv 0])) [] ([iv ((y466.toNat : Int))] ++ ((List.map eB ((Arr.rep 256 false)).l).flatten ++ [bv false, iv ((x262 + 2)), iv 0])) ae.h rfl rfl rfl rfl rfl ?_
  exact rl_ h hg
 refine wn_ 5 h fun h=>?_;refine aC 0 ([iv 0] ++ (List.map eB ((Arr.rep 256 false)).l).flatten) [bv false] [iv ((x262 + 2)), iv 0] ([iv 0] ++ ((List.map eB ((Arr.rep 256 false)).l).flatten ++ [bv true, iv ((x262 + 2)), iv 0])) ae.h rfl rfl rfl rfl rfl ?_;refine wn_ 9 h fun h=>?_;obtain ⟨Inv,⟨m0,hI⟩,hS⟩ := lq_ h
 refine lp_ hI (fun σ m=>∃ x579 f580, Inv (x579, f580) m ∧ σ=⟨[(0, sb x1), (1, iv x2), (4, pw b4), (6, iv x262), (7, pw b7), (8, iv x579)], [⟨b7, 148, ([iv 0] ++ ((List.map eB f580.l).flatten ++ [bv true, iv ((x262 + 2)), iv 0]))⟩, ⟨b4, 148, ([iv 0] ++ ((List.map eB ((Arr.rep 256 false)).l).flatten ++ [bv false, iv 0, iv 0]))⟩], []⟩) ?_
 rintro _ m ⟨x579,f580,hI,rfl⟩;obtain ⟨ag6,hag6,h⟩ := cu hS hI;refine i_ h (fun h=>?_) fun h=>?_
 ·refine wn_ 11 h fun h=>?_;refine v_ (oy (bs := ((x1.take (x262 : Int).toNat).drop ((x2 + 2) : Int).toNat)) ai.h ai.h ai.h rfl rfl rfl (fun _ h => by injection h with h; exact h.symm)) ?_;refine mv_ ?_;obtain ⟨c627, h626, h⟩ := h;refine vp_ (eU h626 ai.h ai.h rfl) ?_;refine z0_ EZ h fun y629 h=>?_;refine i_ h (fun h=>?_) fun h=>?_
  ·refine wn_ 2 h fun h=>?_;refine vp_ (aw (cs := ([iv 0] ++ ((List.map eB ((Arr.rep 256 false)).l).flatten ++ [bv false, iv 0, iv 12]))) aQ.h rfl (by refine ao ([iv 0] ++ ((List.map eB ((Arr.rep 256 false)).l).flatten ++ [bv false, iv 0])) [iv 0] [] sq_ sl_ sl_ sl_ rfl rfl ?_; exact congrArg some sq_)) ?_
   refine aC 1 [] ([iv 0] ++ ((List.map eB ((Arr.rep 256 false)).l).flatten ++ [bv false, iv 0, iv 0])) [] ([iv 0] ++ ((List.map eB ((Arr.rep 256 false)).l).flatten ++ [bv false, iv 0, iv 12])) ae.h rfl rfl rfl rfl rfl ?_;exact rl_ h hg
  refine wn_ 6 h fun h=>?_;obtain ⟨h632, h⟩ := h;obtain ⟨y633, h632b, h⟩ := h;refine vp_ (aA h632 ai.h ae.h rfl rfl) ?_;refine dO (f := eB) (a := f580) (k := 1) (off := 0) (i := (x579 : Int).toNat) 0 [iv 0] [bv true, iv ((x262 + 2)), iv 0] y629.1 h632b sq_ so_ (by decide) ae.h rfl rfl rfl rfl sl_ rfl rfl ?_;refine bA 0 ([iv 0] ++ ((List.map eB ((Arr.set f580 (x579 : Int).toNat y629.1)).l).flatten ++ [bv true, iv ((x262 + 2)), iv 0])) rfl sq_ ?_
  exact g_ h hag6
 refine wn_ 7 h fun h=>?_;refine v_ (an 0 [] ([iv 0] ++ ((List.map eB f580.l).flatten ++ [bv true, iv ((x262 + 2)), iv 0])) [] sq_ sl_ sl_ (aq sl_) ae.h rfl rfl) ?_;refine aC 1 [] ([iv 0] ++ ((List.map eB ((Arr.rep 256 false)).l).flatten ++ [bv false, iv 0, iv 0])) [] ([iv 0] ++ ((List.map eB f580.l).flatten ++ [bv true, iv ((x262 + 2)), iv 0])) ae.h rfl rfl rfl rfl rfl ?_
 exact rl_ h hg
def jl (iv180:Int) (ag1:(Int×T7t)→Prop) (f249:Arr 4 (UInt64)) (_r:T7t):Prop:=
 InR (iv180 - 1)∧ag1 ((iv180 - 1),f249)
def lF (inv1:Arr 256 (Bool)) (ag1:(Int×T7t)→Prop) (iv180:Int) (f181:Arr 4 (UInt64)) (r:T7t):Prop:=
 ((0≤iv180→(64:Int)≠0∧InR ((iv180:Int).tdiv (64))∧(64:Int)≠0∧InR ((iv180:Int).tdiv (64))∧(0≤(((iv180:Int).tdiv (64)):Int)∧(((iv180:Int).tdiv (64)):Int)<4)∧∃ y253:UInt64,f181.l[(((iv180:Int).tdiv (64)):Int).toNat]? =some y253∧∃ c255:UInt64,(c255.toNat:Int)=IntKind.u64.wrap ((y253.toNat:Int) * 2)∧(0≤(((iv180:Int).tdiv (64)):Int)∧(((iv180:Int).tdiv (64)):Int)<4)∧∃ y257:UInt64,f181.l[(((iv180:Int).tdiv (64)):Int).toNat]? =some y257∧(0≤(iv180:Int)∧(iv180:Int)<256)∧∃ y259:Bool,inv1.l[(iv180:Int).toNat]? =some y259∧((y259=true→(64:Int)≠0∧InR ((iv180:Int).tdiv (64))∧(64:Int)≠0∧InR ((iv180:Int).tdiv (64))∧(0≤(((iv180:Int).tdiv (64)):Int)∧(((iv180:Int).tdiv (64)):Int)<4)∧∃ y264:UInt64,((Arr.set f181 (((iv180:Int).tdiv (64)):Int).toNat c255)).l[(((iv180:Int).tdiv (64)):Int).toNat]? =some y264∧∃ c266:UInt64,(c266.toNat:Int)=IntKind.u64.wrap ((y264.toNat:Int)+1)∧(0≤(((iv180:Int).tdiv (64)):Int)∧(((iv180:Int).tdiv (64)):Int)<4)∧∃ y268:UInt64,((Arr.set f181 (((iv180:Int).tdiv (64)):Int).toNat c255)).l[(((iv180:Int).tdiv (64)):Int).toNat]? =some y268∧jl iv180 ag1 (Arr.set ((Arr.set f181 (((iv180:Int).tdiv (64)):Int).toNat c255)) (((iv180:Int).tdiv (64)):Int).toNat c266) r)∧(¬ (y259=true)→jl iv180 ag1 (Arr.set f181 (((iv180:Int).tdiv (64)):Int).toNat c255) r)))∧(¬ (0≤iv180)→r=f181))
def jA (inv1:Arr 256 (Bool)) (r:T7t):Prop:=
 ba (fun ag1 s=>lF inv1 ag1 s.1 s.2 r) (255,(Arr.rep 4 (0:UInt64)))
set_option maxHeartbeats 4000000 in
theorem E0 ⦃inv1: Arr 256 (Bool)⦄ ⦃r: T7t⦄ (h: jA inv1 r) : Cn Tryz.prog 117 [.agg ((List.map eB inv1.l).flatten)] [] [] (Ret (.agg ((List.map ew r.l).flatten))) := by
 refine al Tryz.func117 rfl rfl (by kernel_rfl) fun g hg=>?_;simp only [Tryz.ntmps117,av];refine wn_ 2 h fun h=>?_;refine cK rfl rfl rfl rfl fun b1 => ?_;refine aN ar.h rfl rfl fun b2 => ?_;refine bA 0 ((List.map ew ((Arr.rep 4 (0 : UInt64))).l).flatten) rfl rfl ?_;refine wn_ 4 h fun h=>?_;refine aN ar.h rfl rfl fun b3 => ?_;refine bA 0 ((List.map ew ((Arr.rep 4 (0 : UInt64))).l).flatten) rfl rfl ?_
 refine wn_ 9 h fun h=>?_;obtain ⟨Inv,⟨m0,hI⟩,hS⟩ := lq_ h;refine lp_ hI (fun σ m=>∃ iv180 f181, Inv (iv180, f181) m ∧ σ=⟨[(1, pw b1), (2, pw b2), (3, pw b3), (4, iv iv180)], [⟨b3, 41, ((List.map ew f181.l).flatten)⟩, ⟨b2, 41, ((List.map ew ((Arr.rep 4 (0 : UInt64))).l).flatten)⟩, ⟨b1, 146, ((List.map eB inv1.l).flatten)⟩], []⟩) ?_
 rintro _ m ⟨iv180,f181,hI,rfl⟩;obtain ⟨ag1,hag1,h⟩ := cu hS hI;refine i_ h (fun h=>?_) fun h=>?_
 ·refine wn_ 2 h fun h=>?_;refine ax (fun σ=>∃ f249, jl iv180 ag1 f249 r ∧ σ=⟨[(1, pw b1), (2, pw b2), (3, pw b3), (4, iv iv180)], [⟨b3, 41, ((List.map ew f249.l).flatten)⟩, ⟨b2, 41, ((List.map ew ((Arr.rep 4 (0 : UInt64))).l).flatten)⟩, ⟨b1, 146, ((List.map eB inv1.l).flatten)⟩], []⟩) ?_ ?_
  ·refine wn_ 4 h fun h=>?_;obtain ⟨h250, h⟩ := h;obtain ⟨h250r, h⟩ := h;refine vp_ (kz h250 (kA h250r.1 h250r.2).symm rfl rfl rfl) ?_;refine mv_ ?_;obtain ⟨h251, h⟩ := h;obtain ⟨h251r, h⟩ := h;refine vp_ (kz h251 (kA h251r.1 h251r.2).symm rfl rfl rfl) ?_;obtain ⟨h252, h⟩ := h;obtain ⟨y253, h252b, h⟩ := h;refine vp_ (aA h252 ai.h ae.h rfl rfl) ?_;refine v_ (dH (f := ew) (a := f181) (k := 1) (off := 0) (i := (((iv180 : Int).tdiv (64)) : Int).toNat) 0 [] [] h252b sq_ so_ (by decide) rfl ae.h rfl rfl) ?_
   obtain ⟨c255, h254, h⟩ := h;refine vp_ (fe h254 rfl rfl rfl) ?_;obtain ⟨h256, h⟩ := h;obtain ⟨y257, h256b, h⟩ := h;refine vp_ (aA h256 ai.h ae.h rfl rfl) ?_;refine dO (f := ew) (a := f181) (k := 1) (off := 0) (i := (((iv180 : Int).tdiv (64)) : Int).toNat) 0 [] [] c255 h256b sq_ so_ (by decide) ae.h rfl rfl rfl rfl sl_ rfl rfl ?_;refine bA 0 ((List.map ew ((Arr.set f181 (((iv180 : Int).tdiv (64)) : Int).toNat c255)).l).flatten) rfl sq_ ?_
   refine wn_ 5 h fun h=>?_;obtain ⟨h258, h⟩ := h;obtain ⟨y259, h258b, h⟩ := h;refine vp_ (aA h258 ai.h ae.h rfl rfl) ?_;refine v_ (dH (f := eB) (a := inv1) (k := 1) (off := 0) (i := (iv180 : Int).toNat) 2 [] [] h258b sq_ so_ (by decide) rfl ae.h rfl rfl) ?_;refine i_ h (fun h=>?_) fun h=>?_
   ·refine wn_ 2 h fun h=>?_;obtain ⟨h261, h⟩ := h;obtain ⟨h261r, h⟩ := h;refine vp_ (kz h261 (kA h261r.1 h261r.2).symm rfl rfl rfl) ?_;refine mv_ ?_;obtain ⟨h262, h⟩ := h;obtain ⟨h262r, h⟩ := h;refine vp_ (kz h262 (kA h262r.1 h262r.2).symm rfl rfl rfl) ?_;obtain ⟨h263, h⟩ := h;obtain ⟨y264, h263b, h⟩ := h;refine vp_ (aA h263 ai.h ae.h rfl rfl) ?_;refine v_ (dH (f := ew) (a := (Arr.set f181 (((iv180 : Int).tdiv (64)) : Int).toNat c255)) (k := 1) (off := 0) (i := (((iv180 : Int).tdiv (64)) : Int).toNat) 0 [] [] h263b sq_ so_ (by decide) rfl ae.h rfl rfl) ?_
    obtain ⟨c266, h265, h⟩ := h;refine vp_ (fe h265 rfl rfl rfl) ?_;obtain ⟨h267, h⟩ := h;obtain ⟨y268, h267b, h⟩ := h;refine vp_ (aA h267 ai.h ae.h rfl rfl) ?_;refine dO (f := ew) (a := (Arr.set f181 (((iv180 : Int).tdiv (64)) : Int).toNat c255)) (k := 1) (off := 0) (i := (((iv180 : Int).tdiv (64)) : Int).toNat) 0 [] [] c266 h267b sq_ so_ (by decide) ae.h rfl rfl rfl rfl sl_ rfl rfl ?_
    refine bA 0 ((List.map ew ((Arr.set ((Arr.set f181 (((iv180 : Int).tdiv (64)) : Int).toNat c255)) (((iv180 : Int).tdiv (64)) : Int).toNat c266)).l).flatten) rfl sq_ ?_;exact m_ h
   exact m_ h
  rintro _ ⟨f249,h,rfl⟩;exact g_ h hag1
 refine wn_ 7 h fun h=>?_;refine v_ (an 0 [] ((List.map ew f181.l).flatten) [] sq_ sl_ sl_ (aq (aE (by rfl))) ae.h rfl rfl) ?_;refine aC 1 [] ((List.map ew ((Arr.rep 4 (0 : UInt64))).l).flatten) [] ((List.map ew f181.l).flatten) ae.h rfl rfl rfl rfl rfl ?_;exact rl_ h hg
end Go.Proofs.YtnbceeholnkfeaaGreatDoor
