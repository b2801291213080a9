/- What functions' texts ask for, and the walks that show it (printed by a program). -/
import Derived.Test.YtnbceeholnkfeaaGreatDoorGKp2
namespace Go.Proofs.YtnbceeholnkfeaaGreatDoor
def ie (x1:List UInt8) (x340:Int) (f342:Arr 4 (UInt64)) (ag4:(Int×Bool×T7t)→Prop) (r:T7t×Int×Int):Prop:=
 ∃ y496:T7t×Int×Int,nc x1 x340 y496∧((¬ (y496.2.2=0)→r=((Arr.rep 4 (0:UInt64)),0,y496.2.2))∧(¬ (¬ (y496.2.2=0))→∃ y502:T7t,mM ([f342,y496.1]) y502∧ag4 (y496.2.1,false,y502)))
def lR (x340:Int) (f490:Arr 4 (UInt64)) (r:T7t×Int×Int):Prop:=
 InR (x340+1)∧r=(f490,(x340+1),0)
def lS (x1:List UInt8) (x29:Bool) (ag4:(Int×Bool×T7t)→Prop) (x340:Int) (x341:Bool) (f342:Arr 4 (UInt64)) (r:T7t×Int×Int):Prop:=
 ((x340<(x1.length:Int)→0≤(x340:Int)∧∃ y482:UInt8,x1[(x340:Int).toNat]? =some y482∧(((y482.toNat:Int)=93→((¬ (x341=true)→((x29=true→∃ y493:T7t,je f342 y493∧lR x340 y493 r)∧(¬ (x29=true)→lR x340 f342 r)))∧(¬ (¬ (x341=true))→ie x1 x340 f342 ag4 r)))∧(¬ ((y482.toNat:Int)=93)→ie x1 x340 f342 ag4 r)))∧(¬ (x340<(x1.length:Int))→ie x1 x340 f342 ag4 r))
def lT (x1:List UInt8) (x29:Bool) (x38:Int) (r:T7t×Int×Int):Prop:=
 ba (fun ag4 s=>lS x1 x29 ag4 s.1 s.2.1 s.2.2 r) (x38,true,(Arr.rep 4 (0:UInt64)))
def lU (x2:Int) (x1:List UInt8) (x29:Bool) (r:T7t×Int×Int):Prop:=
 ((x29=true→InR (x2+1)∧lT x1 x29 (x2+1) r)∧(¬ (x29=true)→lT x1 x29 x2 r))
def lV (x2:Int) (x1:List UInt8) (x17:Bool) (r:T7t×Int×Int):Prop:=
 ((x17=true→r=((Arr.rep 4 (0:UInt64)),0,1))∧(¬ (x17=true)→((x2<(x1.length:Int)→0≤(x2:Int)∧∃ y33:UInt8,x1[(x2:Int).toNat]? =some y33∧lU x2 x1 (decide ((y33.toNat:Int)=94)) r)∧(¬ (x2<(x1.length:Int))→lU x2 x1 false r))))
def iZ (x1:List UInt8) (x2:Int) (r:T7t×Int×Int):Prop:=
 lV x2 x1 ((decide (x2<0)) || (decide ((x1.length:Int)<x2))) r
set_option maxHeartbeats 4000000 in
theorem xp ⦃x1: List UInt8⦄ ⦃x2: Int⦄ ⦃r: T7t × Int × Int⦄ (h: iZ x1 x2 r) : Cn Tryz.prog 91 [sb x1, iv x2] [] [] fun rr bx tk=>rr=.tup [.agg ((List.map ew r.1.l).flatten), iv r.2.1, iv r.2.2] ∧ bx=[] ∧ tk=[] := by
 refine al Tryz.func91 rfl rfl (by kernel_rfl) fun g hg=>?_;simp only [Tryz.ntmps91,av];unfold iZ at h;refine wn_ 2 h fun h=>?_;refine aN ar.h rfl rfl fun b4 => ?_;refine bA 0 ((List.map ew ((Arr.rep 4 (0 : UInt64))).l).flatten) rfl rfl ?_;refine wn_ 5 h fun h=>?_;refine ax (fun σ=>∃ x17, lV x2 x1 x17 r ∧ σ=⟨[(0, sb x1), (1, iv x2), (4, pw b4), (20, bv x17)], [⟨b4, 41, ((List.map ew ((Arr.rep 4 (0 : UInt64))).l).flatten)⟩], []⟩) ?_ ?_
 ·refine ks_ 15 h (fun h=>?_) fun h=>?_
  ·exact m_ h
  exact m_ h
 rintro _ ⟨x17,h,rfl⟩;refine i_ h (fun h=>?_) fun h=>?_
 ·refine wn_ 2 h fun h=>?_;refine vp_ (bX (cs := ((List.map ew ((Arr.rep 4 (0 : UInt64))).l).flatten)) ai.h ae.h ar.h rfl (by rfl)) ?_;refine aC 0 [] ((List.map ew ((Arr.rep 4 (0 : UInt64))).l).flatten) [] ((List.map ew ((Arr.rep 4 (0 : UInt64))).l).flatten) ae.h rfl rfl rfl rfl rfl ?_;exact rl_ h hg
 refine wn_ 2 h fun h=>?_;refine ax (fun σ=>∃ x29, lU x2 x1 x29 r ∧ σ=⟨[(0, sb x1), (1, iv x2), (4, pw b4), (7, bv x29)], [⟨b4, 41, ((List.map ew ((Arr.rep 4 (0 : UInt64))).l).flatten)⟩], []⟩) ?_ ?_
 ·refine is_ 26 h (fun h=>?_) fun h=>?_
  ·refine x_ h fun y33 h=>?_;exact m_ h
  exact m_ h
 rintro _ ⟨x29,h,rfl⟩;refine ax (fun σ=>∃ x38, lT x1 x29 x38 r ∧ σ=⟨[(0, sb x1), (1, iv x38), (4, pw b4), (7, bv x29)], [⟨b4, 41, ((List.map ew ((Arr.rep 4 (0 : UInt64))).l).flatten)⟩], []⟩) ?_ ?_
 ·refine i_ h (fun h=>?_) fun h=>?_
  ·exact m_ h
  exact m_ h
 rintro _ ⟨x38,h,rfl⟩;refine wn_ 2 h fun h=>?_;refine aN ar.h rfl rfl fun b8 => ?_;refine bA 0 ((List.map ew ((Arr.rep 4 (0 : UInt64))).l).flatten) rfl rfl ?_;refine wn_ 9 h fun h=>?_;obtain ⟨Inv,⟨m0,hI⟩,hS⟩ := lq_ h;refine lp_ hI (fun σ m=>∃ x340 x341 f342, Inv (x340, x341, f342) m ∧ σ=⟨[(0, sb x1), (1, iv x340), (4, pw b4), (7, bv x29), (8, pw b8), (9, bv x341)], [⟨b8, 41, ((List.map ew f342.l).flatten)⟩, ⟨b4, 41, ((List.map ew ((Arr.rep 4 (0 : UInt64))).l).flatten)⟩], []⟩) ?_
 rintro _ m ⟨x340,x341,f342,hI,rfl⟩;obtain ⟨ag4,hag4,h⟩ := cu hS hI;refine wn_ 2 h fun h=>?_;refine ax (fun σ=>ie x1 x340 f342 ag4 r ∧ σ=⟨[(0, sb x1), (1, iv x340), (4, pw b4), (7, bv x29), (8, pw b8)], [⟨b8, 41, ((List.map ew f342.l).flatten)⟩, ⟨b4, 41, ((List.map ew ((Arr.rep 4 (0 : UInt64))).l).flatten)⟩], []⟩) ?_ ?_
 ·refine is_ 40 h (fun h=>?_) fun h=>?_
  ·refine x_ h fun y482 h=>?_;refine is_ 47 h (fun h=>?_) fun h=>?_
   ·refine i_ h (fun h=>?_) fun h=>?_
    ·refine wn_ 7 h fun h=>?_;refine ax (fun σ=>∃ f490, lR x340 f490 r ∧ σ=⟨[(1, iv x340), (4, pw b4), (8, pw b8)], [⟨b8, 41, ((List.map ew f490.l).flatten)⟩, ⟨b4, 41, ((List.map ew ((Arr.rep 4 (0 : UInt64))).l).flatten)⟩], []⟩) ?_ ?_
     ·refine i_ h (fun h=>?_) fun h=>?_
      ·refine nY ?_;refine v_ (an 0 [] ((List.map ew f342.l).flatten) [] sq_ sl_ sl_ (aq (aE (by rfl))) ae.h rfl rfl) ?_;refine z0_ xm h fun y493 h=>?_;refine aC 0 [] ((List.map ew f342.l).flatten) [] ((List.map ew y493.l).flatten) ae.h rfl rfl rfl rfl rfl ?_;exact m_ h
      exact m_ h
     rintro _ ⟨f490,h,rfl⟩;refine wn_ 2 h fun h=>?_;refine v_ (an 0 [] ((List.map ew f490.l).flatten) [] sq_ sl_ sl_ (aq (aE (by rfl))) ae.h rfl rfl) ?_;refine wn_ 2 h fun h=>?_;refine aC 1 [] ((List.map ew ((Arr.rep 4 (0 : UInt64))).l).flatten) [] ((List.map ew f490.l).flatten) ae.h rfl rfl rfl rfl rfl ?_;exact rl_ h hg
    exact m_ h
   exact m_ h
  exact m_ h
 rintro _ ⟨h,rfl⟩;refine z0_ F5 h fun y496 h=>?_;refine wn_ 4 h fun h=>?_;refine aN ar.h rfl rfl fun b10 => ?_;refine bA 0 ((List.map ew ((Arr.rep 4 (0 : UInt64))).l).flatten) rfl rfl ?_;refine aC 0 [] ((List.map ew ((Arr.rep 4 (0 : UInt64))).l).flatten) [] ((List.map ew y496.1.l).flatten) ae.h rfl rfl rfl rfl rfl ?_;refine i_ h (fun h=>?_) fun h=>?_
 ·refine wn_ 2 h fun h=>?_;refine vp_ (bX (cs := ((List.map ew ((Arr.rep 4 (0 : UInt64))).l).flatten)) ai.h ae.h ar.h rfl (by rfl)) ?_;refine mv_ ?_;refine aC 2 [] ((List.map ew ((Arr.rep 4 (0 : UInt64))).l).flatten) [] ((List.map ew ((Arr.rep 4 (0 : UInt64))).l).flatten) ae.h rfl rfl rfl rfl rfl ?_;exact rl_ h hg
 refine wn_ 3 h fun h=>?_;refine v_ (an 1 [] ((List.map ew f342.l).flatten) [] sq_ sl_ sl_ (aq (aE (by rfl))) ae.h rfl rfl) ?_;refine v_ (an 0 [] ((List.map ew y496.1.l).flatten) [] sq_ sl_ sl_ (aq (aE (by rfl))) ae.h rfl rfl) ?_;refine mO (f := bB) [f342, y496.1] ai.h ar.h rfl (.cons rfl (mz (aE (by rfl))) rfl rfl (.cons rfl (mz (aE (by rfl))) rfl rfl .nil)) wr_ rfl rfl rfl rfl fun s64 => ?_
 refine z0_ F6 h fun y502 h=>?_;refine mv_ ?_;refine aC 1 [] ((List.map ew f342.l).flatten) [] ((List.map ew y502.l).flatten) ae.h rfl rfl rfl rfl rfl ?_;exact g_ h hag4
def kT (x2:Int) (x193:Int) (x194:Int) (x195:Bool) (r:Int×Int×Int):Prop:=
 ((x194=x2→r=(0,0,9))∧(¬ (x194=x2)→((x195=true→r=(0,0,3))∧(¬ (x195=true)→r=(x193,x194,0)))))
def nf (x251:Int) (ag3:(Int×Int×Bool)→Prop) (x350:Bool) (x360:Int) (_r:Int×Int×Int):Prop:=
 InR (x251+1)∧ag3 (x360,(x251+1),x350)
def kU (x250:Int) (c342:UInt8) (x251:Int) (ag3:(Int×Int×Bool)→Prop) (x350:Bool) (r:Int×Int×Int):Prop:=
 ((¬ (x350=true)→InR (x250 * 10)∧InR ((x250 * 10)+(c342.toNat:Int))∧nf x251 ag3 x350 ((x250 * 10)+(c342.toNat:Int)) r)∧(¬ (¬ (x350=true))→nf x251 ag3 x350 x250 r))
def pJ (x1:List UInt8) (x3:Int) (x2:Int) (ag3:(Int×Int×Bool)→Prop) (x250:Int) (x251:Int) (x252:Bool) (r:Int×Int×Int):Prop:=
 ((x251<(x1.length:Int)→0≤(x251:Int)∧∃ y334:UInt8,x1[(x251:Int).toNat]? =some y334∧∃ y337:Bool,ep y334 y337∧((y337=true→0≤(x251:Int)∧∃ y339:UInt8,x1[(x251:Int).toNat]? =some y339∧∃ c342:UInt8,(c342.toNat:Int)=IntKind.u8.wrap ((y339.toNat:Int) - 48)∧((x252=true→kU x250 c342 x251 ag3 true r)∧(¬ (x252=true)→InR (x3 - (c342.toNat:Int))∧(10:Int)≠0∧InR (((x3 - (c342.toNat:Int)):Int).tdiv (10))∧kU x250 c342 x251 ag3 ((decide ((((x3 - (c342.toNat:Int)):Int).tdiv (10))<x250)) || (decide (x3<(c342.toNat:Int)))) r)))∧(¬ (y337=true)→kT x2 x250 x251 x252 r)))∧(¬ (x251<(x1.length:Int))→kT x2 x250 x251 x252 r))
def ng (x1:List UInt8) (x3:Int) (x2:Int) (x18:Bool) (r:Int×Int×Int):Prop:=
 ((x18=true→r=(0,0,1))∧(¬ (x18=true)→ba (fun ag3 s=>pJ x1 x3 x2 ag3 s.1 s.2.1 s.2.2 r) (0,x2,false)))
def fX (x1:List UInt8) (x2:Int) (x3:Int) (r:Int×Int×Int):Prop:=
 ng x1 x3 x2 ((decide (x2<0)) || (decide ((x1.length:Int)<x2))) r
set_option maxHeartbeats 4000000 in
theorem xq ⦃x1: List UInt8⦄ ⦃x2: Int⦄ ⦃x3: Int⦄ ⦃r: Int × Int × Int⦄ (h: fX x1 x2 x3 r) : Cn Tryz.prog 94 [sb x1, iv x2, iv x3] [] [] fun rr bx tk=>rr=.tup [iv r.1, iv r.2.1, iv r.2.2] ∧ bx=[] ∧ tk=[] := by
 refine al Tryz.func94 rfl rfl (by kernel_rfl) fun g hg=>?_;simp only [Tryz.ntmps94,av];unfold fX at h;refine wn_ 8 h fun h=>?_;refine ax (fun σ=>∃ x18, ng x1 x3 x2 x18 r ∧ σ=⟨[(0, sb x1), (1, iv x2), (2, iv x3), (6, iv 0), (18, bv x18)], [], []⟩) ?_ ?_
 ·refine ks_ 13 h (fun h=>?_) fun h=>?_
  ·exact m_ h
  exact m_ h
 rintro _ ⟨x18,h,rfl⟩;refine i_ h (fun h=>?_) fun h=>?_
 ·exact r_ h hg
 refine wn_ 13 h fun h=>?_;refine ax (fun σ=>∃ x193 x194 x195, kT x2 x193 x194 x195 r ∧ σ=⟨[(1, iv x2), (6, iv x193), (7, iv x194), (9, bv x195)], [], []⟩) ?_ ?_
 ·refine na ?_;obtain ⟨Inv,⟨m0,hI⟩,hS⟩ := lq_ h;refine lp_ hI (fun σ m=>∃ x250 x251 x252, Inv (x250, x251, x252) m ∧ σ=⟨[(0, sb x1), (1, iv x2), (2, iv x3), (6, iv x250), (7, iv x251), (9, bv x252)], [], []⟩) ?_;rintro _ m ⟨x250,x251,x252,hI,rfl⟩;obtain ⟨ag3,hag3,h⟩ := cu hS hI;refine is_ 24 h (fun h=>?_) fun h=>?_
  ·refine x_ h fun y334 h=>?_;refine z0_ xn h fun y337 h=>?_;refine i_ h (fun h=>?_) fun h=>?_
   ·refine x_ h fun y339 h=>?_;refine v_ (cU ae.h rfl rfl rfl) ?_;obtain ⟨c342, h341, h⟩ := h;refine vp_ (fe h341 rfl rfl rfl) ?_;refine wn_ 4 h fun h=>?_;refine ax (fun σ=>∃ x350, kU x250 c342 x251 ag3 x350 r ∧ σ=⟨[(0, sb x1), (1, iv x2), (2, iv x3), (6, iv x250), (7, iv x251), (9, bv x350), (10, iv ((c342.toNat : Int))), (25, sb x1), (26, iv x251), (27, .el [uv y334]), (28, uv y334), (29, bv y337)], [], []⟩) ?_ ?_
    ·refine is_ 38 h (fun h=>?_) fun h=>?_
     ·exact m_ h
     refine wn_ 4 h fun h=>?_;obtain ⟨h353, h⟩ := h;obtain ⟨h353r, h⟩ := h;refine vp_ (kz h353 (kA h353r.1 h353r.2).symm rfl rfl rfl) ?_;refine ks_ 46 h (fun h=>?_) fun h=>?_
     ·exact m_ h
     exact m_ h
    rintro _ ⟨x350,h,rfl⟩;refine ax (fun σ=>∃ x360, nf x251 ag3 x350 x360 r ∧ σ=⟨[(0, sb x1), (1, iv x2), (2, iv x3), (6, iv x360), (7, iv x251), (9, bv x350), (25, sb x1), (26, iv x251), (27, .el [uv y334]), (28, uv y334), (29, bv y337)], [], []⟩) ?_ ?_
    ·refine i_ h (fun h=>?_) fun h=>?_
     ·exact m_ h
     exact m_ h
    rintro _ ⟨x360,h,rfl⟩;exact g_ h hag3
   exact m_ h
  exact m_ h
 rintro _ ⟨x193,x194,x195,h,rfl⟩;refine i_ h (fun h=>?_) fun h=>?_
 ·exact r_ h hg
 refine i_ h (fun h=>?_) fun h=>?_
 ·exact r_ h hg
 exact r_ h hg
def gE (o1:T0t×(List UInt8)×Int×Int×T5t) (a3:Int) (lo4:Int) (hi5:Int) (r:Int×T1t):Prop:=
 ∃ y7:Int×T1t,bC o1 (4,a3,0,lo4,hi5,0,(Arr.rep 4 (0:UInt64))) y7∧r=(y7.1,y7.2)
set_option maxHeartbeats 4000000 in
theorem D1 ⦃o1: T0t × (List UInt8) × Int × Int × T5t⦄ ⦃a3: Int⦄ ⦃lo4: Int⦄ ⦃hi5: Int⦄ ⦃r: Int × T1t⦄ (h: gE o1 a3 lo4 hi5 r) (bx0: Nat) (ia2: Option (Nat × Nat)) : Cn Tryz.prog 93 [pw bx0, iv a3, iv lo4, iv hi5] [⟨bx0, 59, ([.sl 10 (some ia2) (List.map aa o1.1.1), iv o1.1.2, sb o1.2.1, iv o1.2.2.1, iv o1.2.2.2.1] ++ (List.map eB o1.2.2.2.2.l).flatten)⟩] [⟨ia2, 43, 10, o1.1.1.length⟩] fun rr bx tk=>∃ j1, rr=iv r.1 ∧ bx=[⟨bx0, 59, ([.sl 10 (some j1) (List.map aa r.2.1.1), iv r.2.1.2, sb r.2.2.1, iv r.2.2.2.1, iv r.2.2.2.2.1] ++ (List.map eB r.2.2.2.2.2.l).flatten)⟩] ∧ tk=[⟨j1, 43, 10, r.2.1.1.length⟩] := by
 refine al Tryz.func93 rfl rfl (by kernel_rfl) fun g hg=>?_;simp only [Tryz.ntmps93,av];refine wn_ 11 h fun h=>?_;refine vp_ (aw (cs := ([iv 4, iv a3, iv 0, iv lo4, iv hi5, iv 0] ++ (List.map ew ((Arr.rep 4 (0 : UInt64))).l).flatten)) aQ.h rfl (by refine ao [] [iv 0] ([iv 0, iv 0, iv 0, iv 0, iv 0] ++ (List.map ew ((Arr.rep 4 (0 : UInt64))).l).flatten) sq_ sl_ sl_ sl_ rfl rfl ?_; refine ao [iv 4] [iv 0] ([iv 0, iv 0, iv 0, iv 0] ++ (List.map ew ((Arr.rep 4 (0 : UInt64))).l).flatten) sq_ sl_ sl_ sl_ rfl rfl ?_; refine ao [iv 4, iv a3, iv 0] [iv 0] ([iv 0, iv 0] ++ (List.map ew ((Arr.rep 4 (0 : UInt64))).l).flatten) sq_ sl_ sl_ sl_ rfl rfl ?_; refine ao [iv 4, iv a3, iv 0, iv lo4] [iv 0] ([iv 0] ++ (List.map ew ((Arr.rep 4 (0 : UInt64))).l).flatten) sq_ sl_ sl_ sl_ rfl rfl ?_; exact congrArg some sq_)) ?_
 refine c1_ pH h fun y7 i8 h=>?_;exact r_ h hg
def e9 (o1:T0t×(List UInt8)×Int×Int×T5t) (x45:Int) (x3:Int) (y9:Int×Int×Int) (x46:Int) (x107:Bool) (r:Int×T1t):Prop:=
 ((x107=true→∃ y120:Int×T1t,bg o1 13 y120∧r=(y120.1,y120.2))∧(¬ (x107=true)→InR (x45+1)∧∃ y124:Int×T1t,gE (o1.1,o1.2.1,(x45+1),o1.2.2.2.1,o1.2.2.2.2) x3 y9.1 x46 y124∧∃ y127:Int×T1t,bS y124.2 y124.1 y127∧r=(y127.1,y127.2)))
def dQ (o1:T0t×(List UInt8)×Int×Int×T5t) (x3:Int) (y9:Int×Int×Int) (x45:Int) (x46:Int) (r:Int×T1t):Prop:=
 (((o1.2.1.length:Int)≤x45→e9 o1 x45 x3 y9 x46 true r)∧(¬ ((o1.2.1.length:Int)≤x45)→0≤(x45:Int)∧∃ y111:UInt8,o1.2.1[(x45:Int).toNat]? =some y111∧e9 o1 x45 x3 y9 x46 ((!(decide ((y111.toNat:Int)=125))) || ((!(decide (x46=(-1)))) && (decide (x46<y9.1)))) r))
def fa (y9:Int×Int×Int) (o1:T0t×(List UInt8)×Int×Int×T5t) (x3:Int) (x53:Bool) (r:Int×T1t):Prop:=
 ((x53=true→InR (y9.2.1+1)∧∃ y63:Int×Int×Int,fX o1.2.1 (y9.2.1+1) 255 y63∧((y63.2.2=0→dQ o1 x3 y9 y63.2.1 y63.1 r)∧(¬ (y63.2.2=0)→((y63.2.2=9→InR (y9.2.1+1)∧dQ o1 x3 y9 (y9.2.1+1) (-1) r)∧(¬ (y63.2.2=9)→∃ y70:Int×T1t,bg o1 13 y70∧r=(y70.1,y70.2))))))∧(¬ (x53=true)→dQ o1 x3 y9 y9.2.1 y9.1 r))
def ig (o1:T0t×(List UInt8)×Int×Int×T5t) (x3:Int) (r:Int×T1t):Prop:=
 InR (o1.2.2.1+1)∧∃ y9:Int×Int×Int,fX o1.2.1 (o1.2.2.1+1) 255 y9∧((¬ (y9.2.2=0)→∃ y18:Int×T1t,bg o1 13 y18∧r=(y18.1,y18.2))∧(¬ (¬ (y9.2.2=0))→((y9.2.1<(o1.2.1.length:Int)→0≤(y9.2.1:Int)∧∃ y57:UInt8,o1.2.1[(y9.2.1:Int).toNat]? =some y57∧fa y9 o1 x3 (decide ((y57.toNat:Int)=44)) r)∧(¬ (y9.2.1<(o1.2.1.length:Int))→fa y9 o1 x3 false r))))
set_option maxHeartbeats 4000000 in
theorem F7 ⦃o1: T0t × (List UInt8) × Int × Int × T5t⦄ ⦃x3: Int⦄ ⦃r: Int × T1t⦄ (h: ig o1 x3 r) (bx0: Nat) (ia2: Option (Nat × Nat)) : Cn Tryz.prog 107 [pw bx0, iv x3] [⟨bx0, 59, ([.sl 10 (some ia2) (List.map aa o1.1.1), iv o1.1.2, sb o1.2.1, iv o1.2.2.1, iv o1.2.2.2.1] ++ (List.map eB o1.2.2.2.2.l).flatten)⟩] [⟨ia2, 43, 10, o1.1.1.length⟩] fun rr bx tk=>∃ j1, rr=iv r.1 ∧ bx=[⟨bx0, 59, ([.sl 10 (some j1) (List.map aa r.2.1.1), iv r.2.1.2, sb r.2.2.1, iv r.2.2.2.1, iv r.2.2.2.2.1] ++ (List.map eB r.2.2.2.2.2.l).flatten)⟩] ∧ tk=[⟨j1, 43, 10, r.2.1.1.length⟩] := by
 refine al Tryz.func107 rfl rfl (by kernel_rfl) fun g hg=>?_;simp only [Tryz.ntmps107,av];refine wn_ 6 h fun h=>?_;refine az (m := 17) (by kernel_rfl) rfl ?_;obtain ⟨h7, h⟩ := h;obtain ⟨y9, h8, h⟩ := h;refine o_ [0,1,2,4,5,6,7,8,3] ?_;refine aG (i := 9) (by kernel_rfl) rfl ?_;refine cM xq h8 ?_;refine o_ [10,11,12,13,14,15,16] ?_;refine aB (by kernel_rfl) ?_;refine i_ h (fun h=>?_) fun h=>?_
 ·refine c1_ lO h fun y18 i19 h=>?_;exact r_ h hg
 refine wn_ 8 h fun h=>?_;refine ax (fun σ=>∃ x45 x46, dQ o1 x3 y9 x45 x46 r ∧ σ=⟨[(0, pw bx0), (1, iv x3), (5, iv y9.1), (6, iv x45), (8, iv x46)], [⟨bx0, 59, ([.sl 10 (some ia2) (List.map aa o1.1.1), iv o1.1.2, sb o1.2.1, iv o1.2.2.1, iv o1.2.2.2.1] ++ (List.map eB o1.2.2.2.2.l).flatten)⟩], [⟨ia2, 43, 10, o1.1.1.length⟩]⟩) ?_ ?_
 ·refine ax (fun σ=>∃ x53, fa y9 o1 x3 x53 r ∧ σ=⟨[(0, pw bx0), (1, iv x3), (5, iv y9.1), (6, iv y9.2.1), (8, iv y9.1), (47, bv x53)], [⟨bx0, 59, ([.sl 10 (some ia2) (List.map aa o1.1.1), iv o1.1.2, sb o1.2.1, iv o1.2.2.1, iv o1.2.2.2.1] ++ (List.map eB o1.2.2.2.2.l).flatten)⟩], [⟨ia2, 43, 10, o1.1.1.length⟩]⟩) ?_ ?_
  ·refine is_ 38 h (fun h=>?_) fun h=>?_
   ·refine x_ h fun y57 h=>?_;exact m_ h
   exact m_ h
  rintro _ ⟨x53,h,rfl⟩;refine i_ h (fun h=>?_) fun h=>?_
  ·refine z0_ xq h fun y63 h=>?_;refine i_ h (fun h=>?_) fun h=>?_
   ·exact m_ h
   refine i_ h (fun h=>?_) fun h=>?_
   ·exact m_ h
   refine c1_ lO h fun y70 i71 h=>?_;exact r_ h hg
  exact m_ h
 rintro _ ⟨x45,x46,h,rfl⟩;refine fh ?_;refine ax (fun σ=>∃ x107, e9 o1 x45 x3 y9 x46 x107 r ∧ σ=⟨[(0, pw bx0), (1, iv x3), (5, iv y9.1), (6, iv x45), (8, iv x46), (95, bv x107)], [⟨bx0, 59, ([.sl 10 (some ia2) (List.map aa o1.1.1), iv o1.1.2, sb o1.2.1, iv o1.2.2.1, iv o1.2.2.2.1] ++ (List.map eB o1.2.2.2.2.l).flatten)⟩], [⟨ia2, 43, 10, o1.1.1.length⟩]⟩) ?_ ?_
 ·refine is_ 77 h (fun h=>?_) fun h=>?_
  ·exact m_ h
  refine x_ h fun y111 h=>?_;refine ks_ 87 h (fun h=>?_) fun h=>?_
  ·exact m_ h
  refine ks_ 90 h (fun h=>?_) fun h=>?_
  ·exact m_ h
  exact m_ h
 rintro _ ⟨x107,h,rfl⟩;refine i_ h (fun h=>?_) fun h=>?_
 ·refine c1_ lO h fun y120 i121 h=>?_;exact r_ h hg
 refine c1_ D1 h fun y124 i125 h=>?_;refine c1_ oN h fun y127 i128 h=>?_;exact r_ h hg
def er (o1:T0t×(List UInt8)×Int×Int×T5t) (k3:Int) (lo17:Int) (hi18:Int) (r:Int×T1t):Prop:=
 InR (o1.2.2.1+1)∧∃ y34:Int×T1t,gE (o1.1,o1.2.1,(o1.2.2.1+1),o1.2.2.2.1,o1.2.2.2.2) k3 lo17 hi18 y34∧∃ y37:Int×T1t,bS y34.2 y34.1 y37∧r=(y37.1,y37.2)
def ji (o1:T0t×(List UInt8)×Int×Int×T5t) (k3:Int) (r:Int×T1t):Prop:=
 0≤(o1.2.2.1:Int)∧∃ y21:UInt8,o1.2.1[(o1.2.2.1:Int).toNat]? =some y21∧(((y21.toNat:Int)=43→er o1 k3 1 (-1) r)∧(¬ ((y21.toNat:Int)=43)→(((y21.toNat:Int)=63→er o1 k3 0 1 r)∧(¬ ((y21.toNat:Int)=63)→(((y21.toNat:Int)=123→∃ y30:Int×T1t,ig o1 k3 y30∧r=(y30.1,y30.2))∧(¬ ((y21.toNat:Int)=123)→er o1 k3 0 (-1) r))))))
set_option maxHeartbeats 4000000 in
theorem F8 ⦃o1: T0t × (List UInt8) × Int × Int × T5t⦄ ⦃k3: Int⦄ ⦃r: Int × T1t⦄ (h: ji o1 k3 r) (bx0: Nat) (ia2: Option (Nat × Nat)) : Cn Tryz.prog 88 [pw bx0, iv k3] [⟨bx0, 59, ([.sl 10 (some ia2) (List.map aa o1.1.1), iv o1.1.2, sb o1.2.1, iv o1.2.2.1, iv o1.2.2.2.1] ++ (List.map eB o1.2.2.2.2.l).flatten)⟩] [⟨ia2, 43, 10, o1.1.1.length⟩] fun rr bx tk=>∃ j1, rr=iv r.1 ∧ bx=[⟨bx0, 59, ([.sl 10 (some j1) (List.map aa r.2.1.1), iv r.2.1.2, sb r.2.2.1, iv r.2.2.2.1, iv r.2.2.2.2.1] ++ (List.map eB r.2.2.2.2.2.l).flatten)⟩] ∧ tk=[⟨j1, 43, 10, r.2.1.1.length⟩] := by
 refine al Tryz.func88 rfl rfl (by kernel_rfl) fun g hg=>?_;simp only [Tryz.ntmps88,av];refine wn_ 11 h fun h=>?_;refine ax (fun σ=>∃ lo17 hi18, er o1 k3 lo17 hi18 r ∧ σ=⟨[(0, pw bx0), (1, iv k3), (5, iv lo17), (6, iv hi18)], [⟨bx0, 59, ([.sl 10 (some ia2) (List.map aa o1.1.1), iv o1.1.2, sb o1.2.1, iv o1.2.2.1, iv o1.2.2.2.1] ++ (List.map eB o1.2.2.2.2.l).flatten)⟩], [⟨ia2, 43, 10, o1.1.1.length⟩]⟩) ?_ ?_
 ·refine fh ?_;refine az (m := 10) (by kernel_rfl) rfl ?_;obtain ⟨h22a, h⟩ := h;obtain ⟨y21, h22b, h⟩ := h;refine o_ [0,1,2,4,5,6,3,7] ?_;refine pl_ 8 rfl (aJ h22a h22b ai.h ae.h rfl rfl) ?_;refine o_ [9] ?_;refine aB (by kernel_rfl) ?_;refine i_ h (fun h=>?_) fun h=>?_
  ·exact m_ h
  refine i_ h (fun h=>?_) fun h=>?_
  ·exact m_ h
  refine i_ h (fun h=>?_) fun h=>?_
  ·refine c1_ F7 h fun y30 i31 h=>?_;exact r_ h hg
  exact m_ h
 rintro _ ⟨lo17,hi18,h,rfl⟩;refine c1_ D1 h fun y34 i35 h=>?_;refine c1_ oN h fun y37 i38 h=>?_;exact r_ h hg
def lx (o1:T0t×(List UInt8)×Int×Int×T5t) (r:Int×T1t):Prop:=
 ((9≤o1.1.2→r=((-1),o1))∧(¬ (9≤o1.1.2)→InR (o1.1.2+1)∧r=((o1.1.2+1),((o1.1.1,(o1.1.2+1)),o1.2.1,o1.2.2.1,o1.2.2.2.1,o1.2.2.2.2))))
set_option maxHeartbeats 4000000 in
theorem F9 ⦃o1: T0t × (List UInt8) × Int × Int × T5t⦄ ⦃r: Int × T1t⦄ (h: lx o1 r) (bx0: Nat) (ia2: Option (Nat × Nat)) : Cn Tryz.prog 125 [pw bx0] [⟨bx0, 59, ([.sl 10 (some ia2) (List.map aa o1.1.1), iv o1.1.2, sb o1.2.1, iv o1.2.2.1, iv o1.2.2.2.1] ++ (List.map eB o1.2.2.2.2.l).flatten)⟩] [⟨ia2, 43, 10, o1.1.1.length⟩] fun rr bx tk=>∃ j1, rr=iv r.1 ∧ bx=[⟨bx0, 59, ([.sl 10 (some j1) (List.map aa r.2.1.1), iv r.2.1.2, sb r.2.2.1, iv r.2.2.2.1, iv r.2.2.2.2.1] ++ (List.map eB r.2.2.2.2.2.l).flatten)⟩] ∧ tk=[⟨j1, 43, 10, r.2.1.1.length⟩] := by
 refine al Tryz.func125 rfl rfl (by kernel_rfl) fun g hg=>?_;simp only [Tryz.ntmps125,av];refine i_ h (fun h=>?_) fun h=>?_
 ·exact r_ h hg
 exact r_ h hg
def kV (o1:T0t×(List UInt8)×Int×Int×T5t) (gv3:Int) (a4:Int) (r:Int×T1t):Prop:=
 ∃ y6:Int×T1t,bC o1 (5,a4,0,0,0,gv3,(Arr.rep 4 (0:UInt64))) y6∧r=(y6.1,y6.2)
set_option maxHeartbeats 4000000 in
theorem Ga ⦃o1: T0t × (List UInt8) × Int × Int × T5t⦄ ⦃gv3: Int⦄ ⦃a4: Int⦄ ⦃r: Int × T1t⦄ (h: kV o1 gv3 a4 r) (bx0: Nat) (ia2: Option (Nat × Nat)) : Cn Tryz.prog 126 [pw bx0, iv gv3, iv a4] [⟨bx0, 59, ([.sl 10 (some ia2) (List.map aa o1.1.1), iv o1.1.2, sb o1.2.1, iv o1.2.2.1, iv o1.2.2.2.1] ++ (List.map eB o1.2.2.2.2.l).flatten)⟩] [⟨ia2, 43, 10, o1.1.1.length⟩] fun rr bx tk=>∃ j1, rr=iv r.1 ∧ bx=[⟨bx0, 59, ([.sl 10 (some j1) (List.map aa r.2.1.1), iv r.2.1.2, sb r.2.2.1, iv r.2.2.2.1, iv r.2.2.2.2.1] ++ (List.map eB r.2.2.2.2.2.l).flatten)⟩] ∧ tk=[⟨j1, 43, 10, r.2.1.1.length⟩] := by
 refine al Tryz.func126 rfl rfl (by kernel_rfl) fun g hg=>?_;simp only [Tryz.ntmps126,av];refine wn_ 10 h fun h=>?_;refine vp_ (aw (cs := ([iv 5, iv a4, iv 0, iv 0, iv 0, iv gv3] ++ (List.map ew ((Arr.rep 4 (0 : UInt64))).l).flatten)) aQ.h rfl (by refine ao [] [iv 0] ([iv 0, iv 0, iv 0, iv 0, iv 0] ++ (List.map ew ((Arr.rep 4 (0 : UInt64))).l).flatten) sq_ sl_ sl_ sl_ rfl rfl ?_; refine ao [iv 5] [iv 0] ([iv 0, iv 0, iv 0, iv 0] ++ (List.map ew ((Arr.rep 4 (0 : UInt64))).l).flatten) sq_ sl_ sl_ sl_ rfl rfl ?_; refine ao [iv 5, iv a4, iv 0, iv 0, iv 0] [iv 0] ((List.map ew ((Arr.rep 4 (0 : UInt64))).l).flatten) sq_ sl_ sl_ sl_ rfl rfl ?_; exact congrArg some sq_)) ?_
 refine c1_ pH h fun y6 i7 h=>?_;exact r_ h hg
def dT (f66:List T4t) (f68:Int) (f69:List UInt8) (f70:Int) (f71:Int) (f72:Arr 10 (Bool)) (l64:List Int) (x115:Bool) (r:Int×T1t):Prop:=
 ((x115=true→∃ y121:Int×T1t,bg ((f66,f68),f69,f70,f71,f72) 14 y121∧r=(y121.1,y121.2))∧(¬ (x115=true)→∃ y124:Int×T1t,jx ((f66,f68),f69,f70,f71,f72) l64 y124∧∃ y127:Int×T1t,bS y124.2 y124.1 y127∧r=(y127.1,y127.2)))
def ja (c_q0q:T1t→(Bool)→(Int×T1t)→Prop) (inner3:Bool) (ag1:AA→Prop) (l64:List Int) (f66:List T4t) (f68:Int) (f69:List UInt8) (f70:Int) (f71:Int) (f72:Arr 10 (Bool)) (r:Int×T1t):Prop:=
 ∃ y89:Bool,cD ((f66,f68),f69,f70,f71,f72) (124:UInt8) y89∧((y89=true→InR (f70+1)∧∃ y93:Int×T1t,c_q0q ((f66,f68),f69,(f70+1),f71,f72) inner3 y93∧ef (l64.length+([y93.1]).length) 8∧ag1 ((l64++[y93.1]),y93.2.1.1,y93.2.1.2,y93.2.2.1,y93.2.2.2.1,y93.2.2.2.2.1,y93.2.2.2.2.2))∧(¬ (y89=true)→((¬ (f71=0)→r=((-1),((f66,f68),f69,f70,f71,f72)))∧(¬ (¬ (f71=0))→((inner3=true→∃ y118:Bool,cD ((f66,f68),f69,f70,f71,f72) (41:UInt8) y118∧dT f66 f68 f69 f70 f71 f72 l64 (!y118) r)∧(¬ (inner3=true)→dT f66 f68 f69 f70 f71 f72 l64 false r))))))
def jo (_c_q1q:T1t→(Bool)→(Int×T1t)→Prop) (c_q0q:T1t→(Bool)→(Int×T1t)→Prop) (_c_q2q:T1t→(Int×T1t)→Prop) (_c_q3q:T1t→(Int×T1t)→Prop) (_c_q4q:T1t→(Int×T1t)→Prop) (o1:T0t×(List UInt8)×Int×Int×T5t) (inner3:Bool) (r:Int×T1t):Prop:=
 ∃ y5:Int×T1t,c_q0q o1 inner3 y5∧ba (fun ag1 s=>ja c_q0q inner3 ag1 s.1 s.2.1 s.2.2.1 s.2.2.2.1 s.2.2.2.2.1 s.2.2.2.2.2.1 s.2.2.2.2.2.2 r) ([y5.1],y5.2.1.1,y5.2.1.2,y5.2.2.1,y5.2.2.2.1,y5.2.2.2.2.1,y5.2.2.2.2.2)
def cI (c_q2q:T1t→(Int×T1t)→Prop) (f195:List T4t) (f197:Int) (f198:List UInt8) (f199:Int) (f200:Int) (f201:Arr 10 (Bool)) (l193:List Int) (ag1:AA→Prop) (x276:Bool) (r:Int×T1t):Prop:=
 ((x276=true→∃ y288:Int×T1t,c_q2q ((f195,f197),f198,f199,f200,f201) y288∧ef (l193.length+([y288.1]).length) 8∧ag1 ((l193++[y288.1]),y288.2.1.1,y288.2.1.2,y288.2.2.1,y288.2.2.2.1,y288.2.2.2.2.1,y288.2.2.2.2.2))∧(¬ (x276=true)→((¬ (f200=0)→r=((-1),((f195,f197),f198,f199,f200,f201)))∧(¬ (¬ (f200=0))→(((l193.length:Int)=0→∃ y306:Int×T1t,bg ((f195,f197),f198,f199,f200,f201) 15 y306∧r=(y306.1,y306.2))∧(¬ ((l193.length:Int)=0)→∃ y309:Int×T1t,jw ((f195,f197),f198,f199,f200,f201) l193 y309∧∃ y312:Int×T1t,bS y309.2 y309.1 y312∧r=(y312.1,y312.2)))))))
def kW (inner3:Bool) (c_q2q:T1t→(Int×T1t)→Prop) (ag1:AA→Prop) (l193:List Int) (f195:List T4t) (f197:Int) (f198:List UInt8) (f199:Int) (f200:Int) (f201:Arr 10 (Bool)) (r:Int×T1t):Prop:=
 ∃ y278:Bool,hO ((f195,f197),f198,f199,f200,f201) y278∧((y278=true→∃ y281:Bool,cD ((f195,f197),f198,f199,f200,f201) (124:UInt8) y281∧((¬ (y281=true)→((inner3=true→∃ y285:Bool,cD ((f195,f197),f198,f199,f200,f201) (41:UInt8) y285∧cI c_q2q f195 f197 f198 f199 f200 f201 l193 ag1 (!y285) r)∧(¬ (inner3=true)→cI c_q2q f195 f197 f198 f199 f200 f201 l193 ag1 true r)))∧(¬ (¬ (y281=true))→cI c_q2q f195 f197 f198 f199 f200 f201 l193 ag1 false r)))∧(¬ (y278=true)→cI c_q2q f195 f197 f198 f199 f200 f201 l193 ag1 false r))
def ly (_c_q1q:T1t→(Bool)→(Int×T1t)→Prop) (_c_q0q:T1t→(Bool)→(Int×T1t)→Prop) (c_q2q:T1t→(Int×T1t)→Prop) (_c_q3q:T1t→(Int×T1t)→Prop) (_c_q4q:T1t→(Int×T1t)→Prop) (o1:T0t×(List UInt8)×Int×Int×T5t) (inner3:Bool) (r:Int×T1t):Prop:=
 ba (fun ag1 s=>kW inner3 c_q2q ag1 s.1 s.2.1 s.2.2.1 s.2.2.2.1 s.2.2.2.2.1 s.2.2.2.2.2.1 s.2.2.2.2.2.2 r) (([]:List Int),o1.1.1,o1.1.2,o1.2.1,o1.2.2.1,o1.2.2.2.1,o1.2.2.2.2)
def dN (f263:List T4t) (f265:Int) (f266:List UInt8) (f267:Int) (f268:Int) (f269:Arr 10 (Bool)) (k262:Int) (ag1:(Int×(List T4t)×Int×(List UInt8)×Int×Int×T5t)→Prop) (x356:Bool) (r:Int×T1t):Prop:=
 ((x356=true→∃ y370:Int×T1t,ji ((f263,f265),f266,f267,f268,f269) k262 y370∧ag1 (y370.1,y370.2.1.1,y370.2.1.2,y370.2.2.1,y370.2.2.2.1,y370.2.2.2.2.1,y370.2.2.2.2.2))∧(¬ (x356=true)→r=(k262,((f263,f265),f266,f267,f268,f269))))
def lz (ag1:(Int×(List T4t)×Int×(List UInt8)×Int×Int×T5t)→Prop) (k262:Int) (f263:List T4t) (f265:Int) (f266:List UInt8) (f267:Int) (f268:Int) (f269:Arr 10 (Bool)) (r:Int×T1t):Prop:=
 ∃ y358:Bool,cD ((f263,f265),f266,f267,f268,f269) (42:UInt8) y358∧((y358=true→dN f263 f265 f266 f267 f268 f269 k262 ag1 true r)∧(¬ (y358=true)→∃ y361:Bool,cD ((f263,f265),f266,f267,f268,f269) (43:UInt8) y361∧((y361=true→dN f263 f265 f266 f267 f268 f269 k262 ag1 true r)∧(¬ (y361=true)→∃ y364:Bool,cD ((f263,f265),f266,f267,f268,f269) (63:UInt8) y364∧((y364=true→dN f263 f265 f266 f267 f268 f269 k262 ag1 true r)∧(¬ (y364=true)→∃ y367:Bool,cD ((f263,f265),f266,f267,f268,f269) (123:UInt8) y367∧dN f263 f265 f266 f267 f268 f269 k262 ag1 y367 r))))))
def mt (_c_q1q:T1t→(Bool)→(Int×T1t)→Prop) (_c_q0q:T1t→(Bool)→(Int×T1t)→Prop) (_c_q2q:T1t→(Int×T1t)→Prop) (c_q3q:T1t→(Int×T1t)→Prop) (_c_q4q:T1t→(Int×T1t)→Prop) (o1:T0t×(List UInt8)×Int×Int×T5t) (r:Int×T1t):Prop:=
 0≤(o1.2.2.1:Int)∧∃ y27:UInt8,o1.2.1[(o1.2.2.1:Int).toNat]? =some y27∧(((y27.toNat:Int)=94→InR (o1.2.2.1+1)∧∃ y33:Int×T1t,mq (o1.1,o1.2.1,(o1.2.2.1+1),o1.2.2.2.1,o1.2.2.2.2) y33∧∃ y36:Int×T1t,bS y33.2 y33.1 y36∧r=(y36.1,y36.2))∧(¬ ((y27.toNat:Int)=94)→(((y27.toNat:Int)=36→InR (o1.2.2.1+1)∧∃ y42:Int×T1t,mr (o1.1,o1.2.1,(o1.2.2.1+1),o1.2.2.2.1,o1.2.2.2.2) y42∧∃ y45:Int×T1t,bS y42.2 y42.1 y45∧r=(y45.1,y45.2))∧(¬ ((y27.toNat:Int)=36)→∃ y48:Int×T1t,c_q3q o1 y48∧ba (fun ag1 s=>lz ag1 s.1 s.2.1 s.2.2.1 s.2.2.2.1 s.2.2.2.2.1 s.2.2.2.2.2.1 s.2.2.2.2.2.2 r) (y48.1,y48.2.1.1,y48.2.1.2,y48.2.2.1,y48.2.2.2.1,y48.2.2.2.2.1,y48.2.2.2.2.2)))))
def dn (o1:T0t×(List UInt8)×Int×Int×T5t) (y5:UInt8) (c_q4q:T1t→(Int×T1t)→Prop) (x83:Bool) (r:Int×T1t):Prop:=
 ((x83=true→∃ y93:Int×T1t,bg o1 13 y93∧r=(y93.1,y93.2))∧(¬ (x83=true)→(((y5.toNat:Int)=41→∃ y98:Int×T1t,bg o1 14 y98∧r=(y98.1,y98.2))∧(¬ ((y5.toNat:Int)=41)→(((y5.toNat:Int)=40→∃ y103:Int×T1t,c_q4q o1 y103∧r=(y103.1,y103.2))∧(¬ ((y5.toNat:Int)=40)→(((y5.toNat:Int)=92→∃ y108:Int×T1t,jh o1 y108∧r=(y108.1,y108.2))∧(¬ ((y5.toNat:Int)=92)→(((y5.toNat:Int)=46→∃ y113:T7t,je (Arr.rep 4 (0:UInt64)) y113∧∃ y115:Int×T1t,eS o1 1 y113 y115∧r=(y115.1,y115.2))∧(¬ ((y5.toNat:Int)=46)→(((y5.toNat:Int)=91→InR (o1.2.2.1+1)∧∃ y125:T7t×Int×Int,iZ o1.2.1 (o1.2.2.1+1) y125∧((¬ (y125.2.2=0)→∃ y135:Int×T1t,bg o1 y125.2.2 y135∧r=(y135.1,y135.2))∧(¬ (¬ (y125.2.2=0))→InR (y125.2.1 - o1.2.2.1)∧∃ y143:Int×T1t,eS o1 (y125.2.1 - o1.2.2.1) y125.1 y143∧r=(y143.1,y143.2))))∧(¬ ((y5.toNat:Int)=91)→∃ y146:T7t,gA ([y5]) y146∧∃ y148:Int×T1t,eS o1 1 y146 y148∧r=(y148.1,y148.2)))))))))))))
def mQ (_c_q1q:T1t→(Bool)→(Int×T1t)→Prop) (_c_q0q:T1t→(Bool)→(Int×T1t)→Prop) (_c_q2q:T1t→(Int×T1t)→Prop) (_c_q3q:T1t→(Int×T1t)→Prop) (c_q4q:T1t→(Int×T1t)→Prop) (o1:T0t×(List UInt8)×Int×Int×T5t) (r:Int×T1t):Prop:=
 0≤(o1.2.2.1:Int)∧∃ y5:UInt8,o1.2.1[(o1.2.2.1:Int).toNat]? =some y5∧(((y5.toNat:Int)=42→dn o1 y5 c_q4q (decide ((y5.toNat:Int)=42)) r)∧(¬ ((y5.toNat:Int)=42)→(((y5.toNat:Int)=43→dn o1 y5 c_q4q (decide ((y5.toNat:Int)=43)) r)∧(¬ ((y5.toNat:Int)=43)→(((y5.toNat:Int)=63→dn o1 y5 c_q4q (decide ((y5.toNat:Int)=63)) r)∧(¬ ((y5.toNat:Int)=63)→dn o1 y5 c_q4q (decide ((y5.toNat:Int)=123)) r))))))
def mu (c_q1q:T1t→(Bool)→(Int×T1t)→Prop) (_c_q0q:T1t→(Bool)→(Int×T1t)→Prop) (_c_q2q:T1t→(Int×T1t)→Prop) (_c_q3q:T1t→(Int×T1t)→Prop) (_c_q4q:T1t→(Int×T1t)→Prop) (o1:T0t×(List UInt8)×Int×Int×T5t) (r:Int×T1t):Prop:=
 ∃ y4:Int×T1t,lx o1 y4∧((y4.1<0→∃ y14:Int×T1t,bg y4.2 17 y14∧r=(y14.1,y14.2))∧(¬ (y4.1<0)→InR (y4.2.2.2.1+1)∧∃ y18:Int×T1t,c_q1q (y4.2.1,y4.2.2.1,(y4.2.2.2.1+1),y4.2.2.2.2.1,y4.2.2.2.2.2) true y18∧((¬ (y18.2.2.2.2.1=0)→r=((-1),y18.2))∧(¬ (¬ (y18.2.2.2.2.1=0))→InR (y18.2.2.2.1+1)∧(0≤(y4.1:Int)∧(y4.1:Int)<10)∧∃ y26:Bool,y18.2.2.2.2.2.l[(y4.1:Int).toNat]? =some y26∧∃ y28:Int×T1t,kV (y18.2.1,y18.2.2.1,(y18.2.2.2.1+1),y18.2.2.2.2.1,(Arr.set y18.2.2.2.2.2 (y4.1:Int).toNat true)) y4.1 y18.1 y28∧∃ y31:Int×T1t,bS y28.2 y28.1 y31∧r=(y31.1,y31.2)))))
def eH (S1:Nat→T1t→(Bool)→(Int×T1t)→Prop) (S2:Nat→T1t→(Bool)→(Int×T1t)→Prop) (S3:Nat→T1t→(Int×T1t)→Prop) (S4:Nat→T1t→(Int×T1t)→Prop) (S5:Nat→T1t→(Int×T1t)→Prop):Prop:=
 (∀ (m:Nat) (o1:T0t×(List UInt8)×Int×Int×T5t) (inner3:Bool) (r:Int×T1t),S1 m o1 inner3 r→jo (fun a0 a1 r=>∃ m',m'<m∧S1 m' a0 a1 r) (fun a0 a1 r=>∃ m',m'<m∧S2 m' a0 a1 r) (fun a0 r=>∃ m',m'<m∧S3 m' a0 r) (fun a0 r=>∃ m',m'<m∧S4 m' a0 r) (fun a0 r=>∃ m',m'<m∧S5 m' a0 r) o1 inner3 r)∧(∀ (m:Nat) (o1:T0t×(List UInt8)×Int×Int×T5t) (inner3:Bool) (r:Int×T1t),S2 m o1 inner3 r→ly (fun a0 a1 r=>∃ m',m'<m∧S1 m' a0 a1 r) (fun a0 a1 r=>∃ m',m'<m∧S2 m' a0 a1 r) (fun a0 r=>∃ m',m'<m∧S3 m' a0 r) (fun a0 r=>∃ m',m'<m∧S4 m' a0 r) (fun a0 r=>∃ m',m'<m∧S5 m' a0 r) o1 inner3 r)∧(∀ (m:Nat) (o1:T0t×(List UInt8)×Int×Int×T5t) (r:Int×T1t),S3 m o1 r→mt (fun a0 a1 r=>∃ m',m'<m∧S1 m' a0 a1 r) (fun a0 a1 r=>∃ m',m'<m∧S2 m' a0 a1 r) (fun a0 r=>∃ m',m'<m∧S3 m' a0 r) (fun a0 r=>∃ m',m'<m∧S4 m' a0 r) (fun a0 r=>∃ m',m'<m∧S5 m' a0 r) o1 r)∧(∀ (m:Nat) (o1:T0t×(List UInt8)×Int×Int×T5t) (r:Int×T1t),S4 m o1 r→mQ (fun a0 a1 r=>∃ m',m'<m∧S1 m' a0 a1 r) (fun a0 a1 r=>∃ m',m'<m∧S2 m' a0 a1 r) (fun a0 r=>∃ m',m'<m∧S3 m' a0 r) (fun a0 r=>∃ m',m'<m∧S4 m' a0 r) (fun a0 r=>∃ m',m'<m∧S5 m' a0 r) o1 r)∧(∀ (m:Nat) (o1:T0t×(List UInt8)×Int×Int×T5t) (r:Int×T1t),S5 m o1 r→mu (fun a0 a1 r=>∃ m',m'<m∧S1 m' a0 a1 r) (fun a0 a1 r=>∃ m',m'<m∧S2 m' a0 a1 r) (fun a0 r=>∃ m',m'<m∧S3 m' a0 r) (fun a0 r=>∃ m',m'<m∧S4 m' a0 r) (fun a0 r=>∃ m',m'<m∧S5 m' a0 r) o1 r)
def jp (o1:T0t×(List UInt8)×Int×Int×T5t) (inner3:Bool) (r:Int×T1t):Prop:=∃ (S1:Nat→T1t→(Bool)→(Int×T1t)→Prop) (S2:Nat→T1t→(Bool)→(Int×T1t)→Prop) (S3:Nat→T1t→(Int×T1t)→Prop) (S4:Nat→T1t→(Int×T1t)→Prop) (S5:Nat→T1t→(Int×T1t)→Prop),eH S1 S2 S3 S4 S5∧∃ m:Nat,S1 m o1 inner3 r
abbrev bK (c:T1t→(Bool)→(Int×T1t)→Prop):Prop:=∀ ⦃o1:T0t×(List UInt8)×Int×Int×T5t⦄ ⦃inner3:Bool⦄ ⦃r:Int×T1t⦄,c o1 inner3 r→∀ (bx0:Nat) (ia2:Option (Nat×Nat)),Cn Tryz.prog 24 [pw bx0,bv inner3] [⟨bx0,59,([.sl 10 (some ia2) (List.map aa o1.1.1),iv o1.1.2,sb o1.2.1,iv o1.2.2.1,iv o1.2.2.2.1]++(List.map eB o1.2.2.2.2.l).flatten)⟩] [⟨ia2,43,10,o1.1.1.length⟩] fun rr bx tk=>∃ j1,rr=iv r.1∧bx=[⟨bx0,59,([.sl 10 (some j1) (List.map aa r.2.1.1),iv r.2.1.2,sb r.2.2.1,iv r.2.2.2.1,iv r.2.2.2.2.1]++(List.map eB r.2.2.2.2.2.l).flatten)⟩]∧tk=[⟨j1,43,10,r.2.1.1.length⟩]
abbrev cY (c:T1t→(Bool)→(Int×T1t)→Prop):Prop:=∀ ⦃o1:T0t×(List UInt8)×Int×Int×T5t⦄ ⦃inner3:Bool⦄ ⦃r:Int×T1t⦄,c o1 inner3 r→∀ (bx0:Nat) (ia2:Option (Nat×Nat)),Cn Tryz.prog 40 [pw bx0,bv inner3] [⟨bx0,59,([.sl 10 (some ia2) (List.map aa o1.1.1),iv o1.1.2,sb o1.2.1,iv o1.2.2.1,iv o1.2.2.2.1]++(List.map eB o1.2.2.2.2.l).flatten)⟩] [⟨ia2,43,10,o1.1.1.length⟩] fun rr bx tk=>∃ j1,rr=iv r.1∧bx=[⟨bx0,59,([.sl 10 (some j1) (List.map aa r.2.1.1),iv r.2.1.2,sb r.2.2.1,iv r.2.2.2.1,iv r.2.2.2.2.1]++(List.map eB r.2.2.2.2.2.l).flatten)⟩]∧tk=[⟨j1,43,10,r.2.1.1.length⟩]
abbrev dp (c:T1t→(Int×T1t)→Prop):Prop:=∀ ⦃o1:T0t×(List UInt8)×Int×Int×T5t⦄ ⦃r:Int×T1t⦄,c o1 r→∀ (bx0:Nat) (ia2:Option (Nat×Nat)),Cn Tryz.prog 66 [pw bx0] [⟨bx0,59,([.sl 10 (some ia2) (List.map aa o1.1.1),iv o1.1.2,sb o1.2.1,iv o1.2.2.1,iv o1.2.2.2.1]++(List.map eB o1.2.2.2.2.l).flatten)⟩] [⟨ia2,43,10,o1.1.1.length⟩] fun rr bx tk=>∃ j1,rr=iv r.1∧bx=[⟨bx0,59,([.sl 10 (some j1) (List.map aa r.2.1.1),iv r.2.1.2,sb r.2.2.1,iv r.2.2.2.1,iv r.2.2.2.2.1]++(List.map eB r.2.2.2.2.2.l).flatten)⟩]∧tk=[⟨j1,43,10,r.2.1.1.length⟩]
abbrev dE (c:T1t→(Int×T1t)→Prop):Prop:=∀ ⦃o1:T0t×(List UInt8)×Int×Int×T5t⦄ ⦃r:Int×T1t⦄,c o1 r→∀ (bx0:Nat) (ia2:Option (Nat×Nat)),Cn Tryz.prog 87 [pw bx0] [⟨bx0,59,([.sl 10 (some ia2) (List.map aa o1.1.1),iv o1.1.2,sb o1.2.1,iv o1.2.2.1,iv o1.2.2.2.1]++(List.map eB o1.2.2.2.2.l).flatten)⟩] [⟨ia2,43,10,o1.1.1.length⟩] fun rr bx tk=>∃ j1,rr=iv r.1∧bx=[⟨bx0,59,([.sl 10 (some j1) (List.map aa r.2.1.1),iv r.2.1.2,sb r.2.2.1,iv r.2.2.2.1,iv r.2.2.2.2.1]++(List.map eB r.2.2.2.2.2.l).flatten)⟩]∧tk=[⟨j1,43,10,r.2.1.1.length⟩]
abbrev dq (c:T1t→(Int×T1t)→Prop):Prop:=∀ ⦃o1:T0t×(List UInt8)×Int×Int×T5t⦄ ⦃r:Int×T1t⦄,c o1 r→∀ (bx0:Nat) (ia2:Option (Nat×Nat)),Cn Tryz.prog 104 [pw bx0] [⟨bx0,59,([.sl 10 (some ia2) (List.map aa o1.1.1),iv o1.1.2,sb o1.2.1,iv o1.2.2.1,iv o1.2.2.2.1]++(List.map eB o1.2.2.2.2.l).flatten)⟩] [⟨ia2,43,10,o1.1.1.length⟩] fun rr bx tk=>∃ j1,rr=iv r.1∧bx=[⟨bx0,59,([.sl 10 (some j1) (List.map aa r.2.1.1),iv r.2.1.2,sb r.2.2.1,iv r.2.2.2.1,iv r.2.2.2.2.1]++(List.map eB r.2.2.2.2.2.l).flatten)⟩]∧tk=[⟨j1,43,10,r.2.1.1.length⟩]
set_option maxHeartbeats 4000000 in
theorem lW {c_q1q} {c_q0q} {c_q2q} {c_q3q} {c_q4q} (_kc_ere_parser_alternatives: bK c_q1q) (kc_ere_parser_branch: cY c_q0q) (_kc_ere_parser_piece: dp c_q2q) (_kc_ere_parser_atom: dE c_q3q) (_kc_ere_parser_group: dq c_q4q) : bK (jo c_q1q c_q0q c_q2q c_q3q c_q4q) := by
 intro o1 inner3 r h bx0 ia2;refine al Tryz.func24 rfl rfl (by kernel_rfl) fun g hg=>?_;simp only [Tryz.ntmps24,av];refine c1_ kc_ere_parser_branch h fun y5 i6 h=>?_;refine aM (f := ei) [y5.1] ai.h ar.h rfl rfl wr_ rfl rfl rfl rfl fun s9 => ?_;refine wn_ 5 h fun h=>?_;obtain ⟨Inv,⟨m0,hI⟩,hS⟩ := lq_ h;refine lp_ hI (fun σ m=>∃ l64 f66 f68 f69 f70 f71 f72 i65 i67, Inv (l64, f66, f68, f69, f70, f71, f72) m ∧ σ=⟨[(0, pw bx0), (1, bv inner3), (5, .sl 1 (some i65) (List.map ei l64))], [⟨bx0, 59, ([.sl 10 (some i67) (List.map aa f66), iv f68, sb f69, iv f70, iv f71] ++ (List.map eB f72.l).flatten)⟩], [⟨i65, 3, 1, l64.length⟩, ⟨i67, 43, 10, f66.length⟩]⟩) ?_
 rintro _ m ⟨l64,f66,f68,f69,f70,f71,f72,i65,i67,hI,rfl⟩;obtain ⟨ag1,hag1,h⟩ := cu hS hI;refine c0_ pI h fun y89 h=>?_;refine i_ h (fun h=>?_) fun h=>?_
 ·refine c1_ kc_ere_parser_branch h fun y93 i94 h=>?_;refine aM (f := ei) [y93.1] ai.h ar.h rfl rfl wr_ rfl rfl rfl rfl fun s23 => ?_;obtain ⟨h95, h⟩ := h;refine dv (l := l64) (l2 := [y93.1]) 2 h95 ai.h ar.h rfl rfl rfl (.refl _) rfl rfl rfl fun i96 => ?_;refine wn_ 3 h fun h=>?_;obtain ⟨m', hm, hI⟩ := hag1 _ h;exact jW ⟨(l64 ++ [y93.1]), y93.2.1.1, y93.2.1.2, y93.2.2.1, y93.2.2.2.1, y93.2.2.2.2.1, y93.2.2.2.2.2, i96, i94, hI, rfl⟩ hm ⟨lk_, by refine SubM.trans (SubM.mvT 1 rfl) ?_; refine SubM.trans (SubM.mvT 2 rfl) ?_; (simp only [List.eraseIdx]); exact sm_⟩
 refine i_ h (fun h=>?_) fun h=>?_
 ·exact r_ h hg
 refine wn_ 3 h fun h=>?_;refine ax (fun σ=>∃ x115, dT f66 f68 f69 f70 f71 f72 l64 x115 r ∧ σ=⟨[(0, pw bx0), (5, .sl 1 (some i65) (List.map ei l64)), (35, bv x115)], [⟨bx0, 59, ([.sl 10 (some i67) (List.map aa f66), iv f68, sb f69, iv f70, iv f71] ++ (List.map eB f72.l).flatten)⟩], [⟨i67, 43, 10, f66.length⟩, ⟨i65, 3, 1, l64.length⟩]⟩) ?_ ?_
 ·refine is_ 31 h (fun h=>?_) fun h=>?_
  ·refine c0_ pI h fun y118 h=>?_;exact m_ h
  exact m_ h
 rintro _ ⟨x115,h,rfl⟩;refine i_ h (fun h=>?_) fun h=>?_
 ·refine c1_ lO h fun y121 i122 h=>?_;exact r_ h hg
 refine c1_ FU h fun y124 i125 h=>?_;refine c1_ oN h fun y127 i128 h=>?_;exact r_ h hg
set_option maxHeartbeats 4000000 in
theorem nH {c_q1q} {c_q0q} {c_q2q} {c_q3q} {c_q4q} (_kc_ere_parser_alternatives: bK c_q1q) (_kc_ere_parser_branch: cY c_q0q) (kc_ere_parser_piece: dp c_q2q) (_kc_ere_parser_atom: dE c_q3q) (_kc_ere_parser_group: dq c_q4q) : cY (ly c_q1q c_q0q c_q2q c_q3q c_q4q) := by
 intro o1 inner3 r h bx0 ia2;refine al Tryz.func40 rfl rfl (by kernel_rfl) fun g hg=>?_;simp only [Tryz.ntmps40,av];refine wn_ 12 h fun h=>?_;obtain ⟨Inv,⟨m0,hI⟩,hS⟩ := lq_ h;refine lp_ hI (fun σ m=>∃ l193 f195 f197 f198 f199 f200 f201 i194 i196, Inv (l193, f195, f197, f198, f199, f200, f201) m ∧ σ=⟨[(0, pw bx0), (1, bv inner3), (5, .sl 1 (some i194) (List.map ei l193))], [⟨bx0, 59, ([.sl 10 (some i196) (List.map aa f195), iv f197, sb f198, iv f199, iv f200] ++ (List.map eB f201.l).flatten)⟩], [⟨i194, 3, 1, l193.length⟩, ⟨i196, 43, 10, f195.length⟩]⟩) ?_
 rintro _ m ⟨l193,f195,f197,f198,f199,f200,f201,i194,i196,hI,rfl⟩;obtain ⟨ag1,hag1,h⟩ := cu hS hI;refine fh ?_;refine ax (fun σ=>∃ x276, cI c_q2q f195 f197 f198 f199 f200 f201 l193 ag1 x276 r ∧ σ=⟨[(0, pw bx0), (1, bv inner3), (5, .sl 1 (some i194) (List.map ei l193)), (20, bv x276)], [⟨bx0, 59, ([.sl 10 (some i196) (List.map aa f195), iv f197, sb f198, iv f199, iv f200] ++ (List.map eB f201.l).flatten)⟩], [⟨i196, 43, 10, f195.length⟩, ⟨i194, 3, 1, l193.length⟩]⟩) ?_ ?_
 ·refine c0_ DW h fun y278 h=>?_;refine is_ 8 h (fun h=>?_) fun h=>?_
  ·refine c0_ pI h fun y281 h=>?_;refine is_ 13 h (fun h=>?_) fun h=>?_
   ·refine is_ 15 h (fun h=>?_) fun h=>?_
    ·refine c0_ pI h fun y285 h=>?_;exact m_ h
    exact m_ h
   exact m_ h
  exact m_ h
 rintro _ ⟨x276,h,rfl⟩;refine i_ h (fun h=>?_) fun h=>?_
 ·refine c1_ kc_ere_parser_piece h fun y288 i289 h=>?_;refine aM (f := ei) [y288.1] ai.h ar.h rfl rfl wr_ rfl rfl rfl rfl fun s24 => ?_;obtain ⟨h290, h⟩ := h;refine dv (l := l193) (l2 := [y288.1]) 2 h290 ai.h ar.h rfl rfl rfl (.refl _) rfl rfl rfl fun i291 => ?_;refine wn_ 3 h fun h=>?_;obtain ⟨m', hm, hI⟩ := hag1 _ h;exact jW ⟨(l193 ++ [y288.1]), y288.2.1.1, y288.2.1.2, y288.2.2.1, y288.2.2.2.1, y288.2.2.2.2.1, y288.2.2.2.2.2, i291, i289, hI, rfl⟩ hm ⟨lk_, by refine SubM.trans (SubM.mvT 1 rfl) ?_; refine SubM.trans (SubM.mvT 2 rfl) ?_; (simp only [List.eraseIdx]); exact sm_⟩
 refine i_ h (fun h=>?_) fun h=>?_
 ·exact r_ h hg
 refine i_ h (fun h=>?_) fun h=>?_
 ·refine c1_ lO h fun y306 i307 h=>?_;exact r_ h hg
 refine c1_ FT h fun y309 i310 h=>?_;refine c1_ oN h fun y312 i313 h=>?_;exact r_ h hg
set_option maxHeartbeats 4000000 in
theorem n8 {c_q1q} {c_q0q} {c_q2q} {c_q3q} {c_q4q} (_kc_ere_parser_alternatives: bK c_q1q) (_kc_ere_parser_branch: cY c_q0q) (_kc_ere_parser_piece: dp c_q2q) (kc_ere_parser_atom: dE c_q3q) (_kc_ere_parser_group: dq c_q4q) : dp (mt c_q1q c_q0q c_q2q c_q3q c_q4q) := by
 intro o1 r h bx0 ia2;refine al Tryz.func66 rfl rfl (by kernel_rfl) fun g hg=>?_;simp only [Tryz.ntmps66,av];refine wn_ 7 h fun h=>?_;refine az (m := 10) (by kernel_rfl) rfl ?_;obtain ⟨h28a, h⟩ := h;obtain ⟨y27, h28b, h⟩ := h;refine o_ [0,1,2,4,5,6,3,7] ?_;refine pl_ 8 rfl (aJ h28a h28b ai.h ae.h rfl rfl) ?_;refine o_ [9] ?_;refine aB (by kernel_rfl) ?_;refine i_ h (fun h=>?_) fun h=>?_
 ·refine c1_ FV h fun y33 i34 h=>?_;refine c1_ oN h fun y36 i37 h=>?_;exact r_ h hg
 refine i_ h (fun h=>?_) fun h=>?_
 ·refine c1_ FW h fun y42 i43 h=>?_;refine c1_ oN h fun y45 i46 h=>?_;exact r_ h hg
 refine c1_ kc_ere_parser_atom h fun y48 i49 h=>?_;refine wn_ 5 h fun h=>?_;obtain ⟨Inv,⟨m0,hI⟩,hS⟩ := lq_ h;refine lp_ hI (fun σ m=>∃ k262 f263 f265 f266 f267 f268 f269 i264, Inv (k262, f263, f265, f266, f267, f268, f269) m ∧ σ=⟨[(0, pw bx0), (3, iv k262)], [⟨bx0, 59, ([.sl 10 (some i264) (List.map aa f263), iv f265, sb f266, iv f267, iv f268] ++ (List.map eB f269.l).flatten)⟩], [⟨i264, 43, 10, f263.length⟩]⟩) ?_
 rintro _ m ⟨k262,f263,f265,f266,f267,f268,f269,i264,hI,rfl⟩;obtain ⟨ag1,hag1,h⟩ := cu hS hI;refine fh ?_;refine ax (fun σ=>∃ x356, dN f263 f265 f266 f267 f268 f269 k262 ag1 x356 r ∧ σ=⟨[(0, pw bx0), (3, iv k262), (59, bv x356)], [⟨bx0, 59, ([.sl 10 (some i264) (List.map aa f263), iv f265, sb f266, iv f267, iv f268] ++ (List.map eB f269.l).flatten)⟩], [⟨i264, 43, 10, f263.length⟩]⟩) ?_ ?_
 ·refine c0_ pI h fun y358 h=>?_;refine is_ 48 h (fun h=>?_) fun h=>?_
  ·exact m_ h
  refine c0_ pI h fun y361 h=>?_;refine is_ 52 h (fun h=>?_) fun h=>?_
  ·exact m_ h
  refine c0_ pI h fun y364 h=>?_;refine is_ 56 h (fun h=>?_) fun h=>?_
  ·exact m_ h
  refine c0_ pI h fun y367 h=>?_;exact m_ h
 rintro _ ⟨x356,h,rfl⟩;refine i_ h (fun h=>?_) fun h=>?_
 ·refine c1_ F8 h fun y370 i371 h=>?_;exact g_ h hag1
 exact r_ h hg
set_option maxHeartbeats 4000000 in
theorem oO {c_q1q} {c_q0q} {c_q2q} {c_q3q} {c_q4q} (_kc_ere_parser_alternatives: bK c_q1q) (_kc_ere_parser_branch: cY c_q0q) (_kc_ere_parser_piece: dp c_q2q) (_kc_ere_parser_atom: dE c_q3q) (kc_ere_parser_group: dq c_q4q) : dE (mQ c_q1q c_q0q c_q2q c_q3q c_q4q) := by
 intro o1 r h bx0 ia2;refine al Tryz.func87 rfl rfl (by kernel_rfl) fun g hg=>?_;simp only [Tryz.ntmps87,av];refine wn_ 6 h fun h=>?_;refine az (m := 11) (by kernel_rfl) rfl ?_;obtain ⟨h6a, h⟩ := h;obtain ⟨y5, h6b, h⟩ := h;refine o_ [0,1,2,4,5,6,3,7] ?_;refine pl_ 8 rfl (aJ h6a h6b ai.h ae.h rfl rfl) ?_;refine o_ [9,10] ?_;refine aB (by kernel_rfl) ?_;refine wn_ 8 h fun h=>?_
 refine ax (fun σ=>∃ x83, dn o1 y5 c_q4q x83 r ∧ σ=⟨[(0, pw bx0), (3, uv y5), (17, uv y5), (18, bv x83)], [⟨bx0, 59, ([.sl 10 (some ia2) (List.map aa o1.1.1), iv o1.1.2, sb o1.2.1, iv o1.2.2.1, iv o1.2.2.2.1] ++ (List.map eB o1.2.2.2.2.l).flatten)⟩], [⟨ia2, 43, 10, o1.1.1.length⟩]⟩) ?_ ?_
 ·refine i_ h (fun h=>?_) fun h=>?_
  ·exact m_ h
  refine i_ h (fun h=>?_) fun h=>?_
  ·exact m_ h
  refine i_ h (fun h=>?_) fun h=>?_
  ·exact m_ h
  exact m_ h
 rintro _ ⟨x83,h,rfl⟩;refine i_ h (fun h=>?_) fun h=>?_
 ·refine c1_ lO h fun y93 i94 h=>?_;exact r_ h hg
 refine i_ h (fun h=>?_) fun h=>?_
 ·refine c1_ lO h fun y98 i99 h=>?_;exact r_ h hg
 refine i_ h (fun h=>?_) fun h=>?_
 ·refine c1_ kc_ere_parser_group h fun y103 i104 h=>?_;exact r_ h hg
 refine i_ h (fun h=>?_) fun h=>?_
 ·refine c1_ FZ h fun y108 i109 h=>?_;exact r_ h hg
 refine i_ h (fun h=>?_) fun h=>?_
 ·refine wn_ 3 h fun h=>?_;refine vp_ (bX (cs := ((List.map ew ((Arr.rep 4 (0 : UInt64))).l).flatten)) ai.h ae.h ar.h rfl (by rfl)) ?_;refine z0_ xm h fun y113 h=>?_;refine c1_ xo h fun y115 i116 h=>?_;exact r_ h hg
 refine i_ h (fun h=>?_) fun h=>?_
 ·refine fh ?_;refine az (m := 18) (by kernel_rfl) rfl ?_;obtain ⟨h123, h⟩ := h;obtain ⟨y125, h124, h⟩ := h;refine ff 3 #[true, true, true, true, true, true, true, true, true, true, true, true, true, true, true, false, false, false] (fun σ=>∃ b4, σ=⟨[(0, pw bx0), (4, pw b4), (56, .agg ((List.map ew y125.1.l).flatten)), (57, iv y125.2.1), (58, iv y125.2.2)], [⟨b4, 41, ((List.map ew ((Arr.rep 4 (0 : UInt64))).l).flatten)⟩, ⟨bx0, 59, ([.sl 10 (some ia2) (List.map aa o1.1.1), iv o1.1.2, sb o1.2.1, iv o1.2.2.1, iv o1.2.2.2.1] ++ (List.map eB o1.2.2.2.2.l).flatten)⟩], [⟨ia2, 43, 10, o1.1.1.length⟩]⟩) ?_ (fun key126=>?_)
  ·rintro _ ⟨b4,rfl⟩;refine aG (i := 15) (by kernel_rfl) rfl ?_;refine jI 0 [] ((List.map ew ((Arr.rep 4 (0 : UInt64))).l).flatten) [] ((List.map ew y125.1.l).flatten) ae.h rfl rfl rfl rfl rfl ?_;refine o_ [16,17] ?_;refine aB (by kernel_rfl) ?_;refine i_ h (fun h=>?_) fun h=>?_
   ·refine c1_ lO h fun y135 i136 h=>?_;exact r_ h hg
   refine wn_ 3 h fun h=>?_;refine az (m := 10) (by kernel_rfl) rfl ?_;obtain ⟨h141, h⟩ := h;obtain ⟨y143, h142, h⟩ := h;refine o_ [0,1,2,3,4,5,6] ?_;refine en 7 [] rfl (an 0 [] ((List.map ew y125.1.l).flatten) [] sq_ sl_ sl_ (aq (aE (by rfl))) ae.h rfl rfl) rfl rfl (by kernel_rfl) (by kernel_rfl) (by kernel_rfl) (fun _ _ _ _ h => h) ?_;refine aG (i := 8) (by kernel_rfl) rfl ?_
   refine rx xo h142 fun i144=>?_;refine o_ [9] ?_;refine aB (by kernel_rfl) ?_;exact r_ h hg
  refine o_ [0,1,2,4,5,6,7,8,3] ?_;refine cv (is := [9, 14]) (by kernel_rfl) (by simp) ?_;intro i hi; simp only [List.mem_cons, List.not_mem_nil, or_false] at hi; rcases hi with rfl | rfl
  ·refine ⟨_, rfl, ?_⟩;refine cM xp h124 ?_;refine o_ [10,11,12,13] ?_;refine aG (i := 14) (by kernel_rfl) rfl ?_;refine iV ar.h rfl rfl fun b4 => ?_;refine rv 0 ((List.map ew ((Arr.rep 4 (0 : UInt64))).l).flatten) rfl rfl ?_;exact bm key126 ⟨b4, rfl⟩ ⟨lk_, sm_⟩ rfl (by kernel_rfl)
  ·refine ⟨_, rfl, ?_⟩;refine iV ar.h rfl rfl fun b4 => ?_;refine rv 0 ((List.map ew ((Arr.rep 4 (0 : UInt64))).l).flatten) rfl rfl ?_;refine aG (i := 9) (by kernel_rfl) rfl ?_;refine cM xp h124 ?_;refine o_ [10,11,12,13] ?_;exact bm key126 ⟨b4, rfl⟩ ⟨lk_, sm_⟩ rfl (by kernel_rfl)
 refine wn_ 7 h fun h=>?_;refine aM (f := eb) [y5] ai.h ar.h rfl rfl wr_ rfl rfl rfl rfl fun s75 => ?_;refine z0_ s6 h fun y146 h=>?_;refine c1_ xo h fun y148 i149 h=>?_;exact r_ h hg
set_option maxHeartbeats 4000000 in
theorem n9 {c_q1q} {c_q0q} {c_q2q} {c_q3q} {c_q4q} (kc_ere_parser_alternatives: bK c_q1q) (_kc_ere_parser_branch: cY c_q0q) (_kc_ere_parser_piece: dp c_q2q) (_kc_ere_parser_atom: dE c_q3q) (_kc_ere_parser_group: dq c_q4q) : dq (mu c_q1q c_q0q c_q2q c_q3q c_q4q) := by
 intro o1 r h bx0 ia2;refine al Tryz.func104 rfl rfl (by kernel_rfl) fun g hg=>?_;simp only [Tryz.ntmps104,av];refine c1_ F9 h fun y4 i5 h=>?_;refine i_ h (fun h=>?_) fun h=>?_
 ·refine c1_ lO h fun y14 i15 h=>?_;exact r_ h hg
 refine c1_ kc_ere_parser_alternatives h fun y18 i19 h=>?_;refine i_ h (fun h=>?_) fun h=>?_
 ·exact r_ h hg
 refine wn_ 20 h fun h=>?_;obtain ⟨h25, h⟩ := h;obtain ⟨y26, h25b, h⟩ := h;refine vp_ (aA h25 ai.h ae.h rfl rfl) ?_;refine dO (f := eB) (a := y18.2.2.2.2.2) (k := 1) (off := 0) (i := (y4.1 : Int).toNat) 0 [.sl 10 (some i19) (List.map aa y18.2.1.1), iv y18.2.1.2, sb y18.2.2.1, iv ((y18.2.2.2.1 + 1)), iv y18.2.2.2.2.1] [] true h25b sq_ so_ (by decide) ae.h rfl rfl rfl rfl sl_ rfl rfl ?_
 refine bA 0 ([.sl 10 (some i19) (List.map aa y18.2.1.1), iv y18.2.1.2, sb y18.2.2.1, iv ((y18.2.2.2.1 + 1)), iv y18.2.2.2.2.1] ++ (List.map eB ((Arr.set y18.2.2.2.2.2 (y4.1 : Int).toNat true)).l).flatten) rfl sq_ ?_;refine c1_ Ga h fun y28 i29 h=>?_;refine c1_ oN h fun y31 i32 h=>?_;exact r_ h hg
set_option maxHeartbeats 4000000 in
theorem Gb {S1: Nat → T1t → (Bool) → (Int × T1t) → Prop} {S2: Nat → T1t → (Bool) → (Int × T1t) → Prop} {S3: Nat → T1t → (Int × T1t) → Prop} {S4: Nat → T1t → (Int × T1t) → Prop} {S5: Nat → T1t → (Int × T1t) → Prop} (H: eH S1 S2 S3 S4 S5) (m: Nat) : bK (S1 m) ∧ cY (S2 m) ∧ dp (S3 m) ∧ dE (S4 m) ∧ dq (S5 m) := by
 induction m using Nat.strongRecOn with
 | _ m ih => exact ⟨fun _ _ _ h=>lW (fun _ _ r ⟨m',hm,h⟩=>(ih m' hm).1 h) (fun _ _ r ⟨m',hm,h⟩=>(ih m' hm).2.1 h) (fun _ r ⟨m',hm,h⟩=>(ih m' hm).2.2.1 h) (fun _ r ⟨m',hm,h⟩=>(ih m' hm).2.2.2.1 h) (fun _ r ⟨m',hm,h⟩=>(ih m' hm).2.2.2.2 h) (H.1 m _ _ _ h), fun _ _ _ h=>nH (fun _ _ r ⟨m',hm,h⟩=>(ih m' hm).1 h) (fun _ _ r ⟨m',hm,h⟩=>(ih m' hm).2.1 h) (fun _ r ⟨m',hm,h⟩=>(ih m' hm).2.2.1 h) (fun _ r ⟨m',hm,h⟩=>(ih m' hm).2.2.2.1 h) (fun _ r ⟨m',hm,h⟩=>(ih m' hm).2.2.2.2 h) (H.2.1 m _ _ _ h), fun _ _ h=>n8 (fun _ _ r ⟨m',hm,h⟩=>(ih m' hm).1 h) (fun _ _ r ⟨m',hm,h⟩=>(ih m' hm).2.1 h) (fun _ r ⟨m',hm,h⟩=>(ih m' hm).2.2.1 h) (fun _ r ⟨m',hm,h⟩=>(ih m' hm).2.2.2.1 h) (fun _ r ⟨m',hm,h⟩=>(ih m' hm).2.2.2.2 h) (H.2.2.1 m _ _ h), fun _ _ h=>oO (fun _ _ r ⟨m',hm,h⟩=>(ih m' hm).1 h) (fun _ _ r ⟨m',hm,h⟩=>(ih m' hm).2.1 h) (fun _ r ⟨m',hm,h⟩=>(ih m' hm).2.2.1 h) (fun _ r ⟨m',hm,h⟩=>(ih m' hm).2.2.2.1 h) (fun _ r ⟨m',hm,h⟩=>(ih m' hm).2.2.2.2 h) (H.2.2.2.1 m _ _ h), fun _ _ h=>n9 (fun _ _ r ⟨m',hm,h⟩=>(ih m' hm).1 h) (fun _ _ r ⟨m',hm,h⟩=>(ih m' hm).2.1 h) (fun _ r ⟨m',hm,h⟩=>(ih m' hm).2.2.1 h) (fun _ r ⟨m',hm,h⟩=>(ih m' hm).2.2.2.1 h) (fun _ r ⟨m',hm,h⟩=>(ih m' hm).2.2.2.2 h) (H.2.2.2.2 m _ _ h)⟩
theorem Gc:bK jp:=fun _ _ _ ⟨_,_,_,_,_,H,m,h⟩=>(Gb H m).1 h
def fY (sv1:List T4t) (r:(List T4t)):Prop:=
 ∀ bv6:Bool,(sv1≠[]→bv6=false)→((bv6=true→r=([]:List T4t))∧(¬ (bv6=true)→ef ((([]:List T4t)).length+sv1.length) 80∧r=(([]:List T4t)++sv1)))
set_option maxHeartbeats 4000000 in
theorem pK ⦃sv1: List T4t⦄ ⦃r: (List T4t)⦄ (h: fY sv1 r) : Cn Tryz.prog 45 [.sl 10 none (List.map aa sv1)] [] [] (xx 10 43 aa r) := by
 refine al Tryz.func45 rfl rfl (by kernel_rfl) fun g hg=>?_;simp only [Tryz.ntmps45,av];refine wn_ 9 h fun h=>?_;refine D9 3 rfl fun A5 c5 hA5 => ?_;refine vp_ (yM ai.h rfl rfl) ?_;obtain ⟨bv6, hb5⟩ : ∃ b : Bool, A5.isNone = b := ⟨_, rfl⟩;replace h := h bv6 (fun q => hb5 ▸ hA5 q);refine lg 4 (b' := bv6) (by rw [hb5]) rfl ?_;refine i_ h (fun h=>?_) fun h=>?_
 ·exact r_ h hg
 refine wn_ 4 h fun h=>?_;refine mO (f := aa) ([] : List T4t) ai.h ar.h rfl .nil wr_ rfl rfl rfl rfl fun s5 => ?_;refine mv_ ?_;obtain ⟨h8, h⟩ := h;refine dv (l := ([] : List T4t)) (l2 := sv1) 0 h8 ai.h ar.h rfl rfl rfl (.refl _) rfl rfl rfl fun i9 => ?_;exact r_ h hg
def gF (root3:Int) (o1:T0t×(List UInt8)×Int×Int×T5t) (x18:Bool) (r:T0t×Bool):Prop:=
 ((x18=true→r=((([]:List T4t),0),false))∧(¬ (x18=true)→InR (root3+1)∧(0≤((root3+1):Int)∧((root3+1):Int)≤(o1.1.1.length:Int))∧∃ y34:(List T4t),fY (o1.1.1.take ((root3+1):Int).toNat) y34∧∃ y41:Bool,fk (y34,o1.1.2) y41∧((¬ (y41=true)→r=((([]:List T4t),0),false))∧(¬ (¬ (y41=true))→r=((y34,o1.1.2),true)))))
def hP (o1:T0t×(List UInt8)×Int×Int×T5t) (root3:Int) (r:T0t×Bool):Prop:=
 gF root3 o1 ((decide (root3<0)) || (decide ((o1.1.1.length:Int)≤root3))) r
set_option maxHeartbeats 4000000 in
theorem Gd ⦃o1: T0t × (List UInt8) × Int × Int × T5t⦄ ⦃root3: Int⦄ ⦃r: T0t × Bool⦄ (h: hP o1 root3 r) (bx0: Nat) (ia2: Option (Nat × Nat)) : Cn Tryz.prog 25 [pw bx0, iv root3] [⟨bx0, 59, ([.sl 10 (some ia2) (List.map aa o1.1.1), iv o1.1.2, sb o1.2.1, iv o1.2.2.1, iv o1.2.2.2.1] ++ (List.map eB o1.2.2.2.2.l).flatten)⟩] [⟨ia2, 43, 10, o1.1.1.length⟩] fun rr bx tk=>rr=.tup [.agg [.sl 10 none (List.map aa r.1.1), iv r.1.2], bv r.2] ∧ bx=[⟨bx0, 59, ([.sl 10 (some ia2) (List.map aa o1.1.1), iv o1.1.2, sb o1.2.1, iv o1.2.2.1, iv o1.2.2.2.1] ++ (List.map eB o1.2.2.2.2.l).flatten)⟩] ∧ tk=[⟨ia2, 43, 10, o1.1.1.length⟩] := by
 refine al Tryz.func25 rfl rfl (by kernel_rfl) fun g hg=>?_;simp only [Tryz.ntmps25,av];unfold hP at h;refine wn_ 2 h fun h=>?_;refine aN ar.h rfl rfl fun b4 => ?_;refine wn_ 4 h fun h=>?_;refine ax (fun σ=>∃ x18, gF root3 o1 x18 r ∧ σ=⟨[(0, pw bx0), (1, iv root3), (4, pw b4), (17, bv x18)], [⟨b4, 26, [.v (.slice none 0 0), iv 0]⟩, ⟨bx0, 59, ([.sl 10 (some ia2) (List.map aa o1.1.1), iv o1.1.2, sb o1.2.1, iv o1.2.2.1, iv o1.2.2.2.1] ++ (List.map eB o1.2.2.2.2.l).flatten)⟩], [⟨ia2, 43, 10, o1.1.1.length⟩]⟩) ?_ ?_
 ·refine ks_ 9 h (fun h=>?_) fun h=>?_
  ·exact m_ h
  exact m_ h
 rintro _ ⟨x18,h,rfl⟩;refine i_ h (fun h=>?_) fun h=>?_
 ·refine wn_ 2 h fun h=>?_;refine vp_ (aw aQ.h rfl rfl) ?_;exact rl_ h hg
 refine wn_ 3 h fun h=>?_;refine az (m := 15) (by kernel_rfl) rfl ?_;obtain ⟨h31, h⟩ := h;obtain ⟨h32, h⟩ := h;obtain ⟨y34, h33, h⟩ := h;refine ff 1 #[true, true, true, true, true, true, true, true, true, true, true, true, true, true, false] (fun σ=>∃ b6 i35, σ=⟨[(4, pw b4), (6, pw b6), (31, .agg [.sl 10 (some i35) (List.map aa y34), iv o1.1.2])], [⟨b6, 26, [.v (.slice none 0 0), iv 0]⟩, ⟨b4, 26, [.v (.slice none 0 0), iv 0]⟩, ⟨bx0, 59, ([.sl 10 (some ia2) (List.map aa o1.1.1), iv o1.1.2, sb o1.2.1, iv o1.2.2.1, iv o1.2.2.2.1] ++ (List.map eB o1.2.2.2.2.l).flatten)⟩], [⟨i35, 43, 10, y34.length⟩, ⟨ia2, 43, 10, o1.1.1.length⟩]⟩) ?_ (fun key36=>?_)
 ·rintro _ ⟨b6,i35,rfl⟩;refine aG (i := 14) (by kernel_rfl) rfl ?_;refine cx 0 ae.h rfl rfl rfl rfl rfl rfl rfl ?_;refine aB (by kernel_rfl) ?_;refine z0_ k8_ h fun y41 h=>?_;refine i_ h (fun h=>?_) fun h=>?_
  ·refine wn_ 2 h fun h=>?_;refine vp_ (aw aQ.h rfl rfl) ?_;exact rl_ h hg
  exact rl_ h hg
 refine ff 2 #[true, true, true, true, true, true, true, true, true, true, true, true, true, false, false] (fun σ=>∃ i35, σ=⟨[(4, pw b4), (31, .agg [.sl 10 (some i35) (List.map aa y34), iv o1.1.2])], [⟨b4, 26, [.v (.slice none 0 0), iv 0]⟩, ⟨bx0, 59, ([.sl 10 (some ia2) (List.map aa o1.1.1), iv o1.1.2, sb o1.2.1, iv o1.2.2.1, iv o1.2.2.2.1] ++ (List.map eB o1.2.2.2.2.l).flatten)⟩], [⟨i35, 43, 10, y34.length⟩, ⟨ia2, 43, 10, o1.1.1.length⟩]⟩) ?_ (fun key43=>?_)
 ·rintro _ ⟨i35,rfl⟩;refine aG (i := 13) (by kernel_rfl) rfl ?_;refine iV ar.h rfl rfl fun b6 => ?_;exact bm key36 ⟨b6, i35, rfl⟩ ⟨lk_, sm_⟩ rfl (by kernel_rfl)
 refine o_ [0,1,2,4,5,8,9,10,3] ?_;refine pl_ 6 rfl (oR h32 ai.h ae.h rfl rfl) ?_;refine cv (is := [7, 11, 13]) (by kernel_rfl) (by simp) ?_;intro i hi; simp only [List.mem_cons, List.not_mem_nil, or_false] at hi; rcases hi with rfl | rfl | rfl
 ·refine ⟨_, rfl, ?_⟩;refine pW pK h33 fun i35=>?_;refine o_ [11] ?_;refine pl_ 12 rfl (aw aQ.h rfl rfl) ?_;exact bm key43 ⟨i35, rfl⟩ ⟨lk_, sm_⟩ rfl (by kernel_rfl)
 ·refine ⟨_, rfl, ?_⟩;refine wv_ (aK 1 ae.h rfl rfl rfl rfl) ?_;refine cv (is := [7, 13]) (by kernel_rfl) (by simp) ?_;intro i hi; simp only [List.mem_cons, List.not_mem_nil, or_false] at hi; rcases hi with rfl | rfl
  ·refine ⟨_, rfl, ?_⟩;refine pW pK h33 fun i35=>?_;refine pl_ 12 rfl (aw aQ.h rfl rfl) ?_;exact bm key43 ⟨i35, rfl⟩ ⟨lk_, sm_⟩ rfl (by kernel_rfl)
  ·refine ⟨_, rfl, ?_⟩;refine iV ar.h rfl rfl fun b6 => ?_;refine aG (i := 7) (by kernel_rfl) rfl ?_;refine pW pK h33 fun i35=>?_;refine pl_ 12 rfl (aw aQ.h rfl rfl) ?_;exact bm key36 ⟨b6, i35, rfl⟩ ⟨lk_, sm_⟩ rfl (by kernel_rfl)
 ·refine ⟨_, rfl, ?_⟩;refine iV ar.h rfl rfl fun b6 => ?_;refine eG [⟨11, 30, iv o1.1.2⟩] 3 ?_;refine bl 7 (by kernel_rfl) rfl (.cons rfl rfl rfl (fun _ => rfl) (fun _ => aK 2 ae.h rfl rfl rfl rfl) .nil) fun D l td hR => ?_;refine pW pK h33 fun i35=>?_;refine fg hR ?_;refine cw (l' := #[true, true, true, true, true, true, true, true, true, true, true, true, false, true, false]) (by kernel_rfl) (.cons rfl rfl rfl (fun _ => rfl) (fun _ => aK 2 ae.h rfl rfl rfl rfl) .nil) (by kernel_rfl) rfl (by kernel_rfl) (by kernel_rfl) ?_
  simp only [List.nil_append, List.cons_append, List.map_cons, List.map_nil];refine pl_ 12 rfl (aw aQ.h rfl rfl) ?_;exact bm key36 ⟨b6, i35, rfl⟩ ⟨lk_, sm_⟩ rfl (by kernel_rfl)
def nh (root11:Int) (f12:List T4t) (f14:Int) (f15:List UInt8) (f16:Int) (f17:Int) (f18:Arr 10 (Bool)) (r:T0t×Int×Int):Prop:=
 ∃ y29:T0t×Bool,hP ((f12,f14),f15,f16,f17,f18) root11 y29∧((¬ (f17=0)→r=((([]:List T4t),0),f16,f17))∧(¬ (¬ (f17=0))→((¬ (y29.2=true)→r=((([]:List T4t),0),f16,8))∧(¬ (¬ (y29.2=true))→r=(y29.1,0,0)))))
def jX (bv1:List UInt8) (r:T0t×Int×Int):Prop:=
 (((bv1.length:Int)=0→∃ y23:Int×T1t,iJ ((([]:List T4t),0),bv1,0,0,(Arr.rep 10 false)) y23∧nh y23.1 y23.2.1.1 y23.2.1.2 y23.2.2.1 y23.2.2.2.1 y23.2.2.2.2.1 y23.2.2.2.2.2 r)∧(¬ ((bv1.length:Int)=0)→∃ y26:Int×T1t,jp ((([]:List T4t),0),bv1,0,0,(Arr.rep 10 false)) false y26∧nh y26.1 y26.2.1.1 y26.2.1.2 y26.2.2.1 y26.2.2.2.1 y26.2.2.2.2.1 y26.2.2.2.2.2 r))
set_option maxRecDepth 100000 in
set_option maxHeartbeats 4000000 in
theorem Ge ⦃bv1: List UInt8⦄ ⦃r: T0t × Int × Int⦄ (h: jX bv1 r) : Cn Tryz.prog 15 [sb bv1] [] [] fun rr bx tk=>rr=.tup [.agg [.sl 10 none (List.map aa r.1.1), iv r.1.2], iv r.2.1, iv r.2.2] ∧ bx=[] ∧ tk=[] := by
 refine al Tryz.func15 rfl rfl (by kernel_rfl) fun g hg=>?_;simp only [Tryz.ntmps15,av];refine wn_ 2 h fun h=>?_;refine aN ar.h rfl rfl fun b2 => ?_;refine wn_ 7 h fun h=>?_;refine vp_ (aw (cs := ([.v (.slice none 0 0), iv 0, sb bv1, iv 0, iv 0] ++ (List.map eB ((Arr.rep 10 false)).l).flatten)) aQ.h rfl (by refine ao [.v (.slice none 0 0), iv 0] [.v (.slice none 0 0)] ([iv 0, iv 0] ++ (List.map eB ((Arr.rep 10 false)).l).flatten) sq_ sl_ sl_ sl_ rfl rfl ?_; exact congrArg some sq_)) ?_
 refine cK rfl rfl rfl rfl fun b11 => ?_;refine wn_ 8 h fun h=>?_;refine ax (fun σ=>∃ root11 f12 f14 f15 f16 f17 f18 i13, nh root11 f12 f14 f15 f16 f17 f18 r ∧ σ=⟨[(2, pw b2), (5, pw b11), (6, iv root11)], [⟨b11, 59, ([.sl 10 (some i13) (List.map aa f12), iv f14, sb f15, iv f16, iv f17] ++ (List.map eB f18.l).flatten)⟩, ⟨b2, 26, [.v (.slice none 0 0), iv 0]⟩], [⟨i13, 43, 10, f12.length⟩]⟩) ?_ ?_
 ·refine i_ h (fun h=>?_) fun h=>?_
  ·refine c1_ DV h fun y23 i24 h=>?_;exact m_ h
  refine c1_ Gc h fun y26 i27 h=>?_;exact m_ h
 rintro _ ⟨root11,f12,f14,f15,f16,f17,f18,i13,h,rfl⟩;refine c0_ Gd h fun y29 h=>?_;refine wn_ 3 h fun h=>?_;refine aN ar.h rfl rfl fun b7 => ?_;refine i_ h (fun h=>?_) fun h=>?_
 ·refine fh ?_;refine az (m := 12) (by kernel_rfl) rfl ?_;refine ff 0 #[true, true, true, true, true, true, true, true, true, true, true, true] (fun σ=>σ=⟨[(2, pw b2), (3, iv f16), (4, iv f17)], [⟨b2, 26, [.v (.slice none 0 0), iv 0]⟩], []⟩) ?_ (fun key38=>?_)
  ·rintro _ rfl;refine aB (by kernel_rfl) ?_;exact rl_ h hg
  refine pl_ 0 rfl (aw aQ.h rfl rfl) ?_;refine o_ [1,2,3,5,6,7] ?_;refine cv (is := [4, 8, 9]) (by kernel_rfl) (by simp) ?_;intro i hi; simp only [List.mem_cons, List.not_mem_nil, or_false] at hi; rcases hi with rfl | rfl | rfl
  ·refine ⟨_, rfl, ?_⟩;refine wv_ (aK 1 ae.h rfl rfl rfl rfl) ?_;refine eG [⟨8, 43, iv f17⟩] 3 ?_;refine bl 9 (by kernel_rfl) rfl (.cons rfl rfl rfl (fun _ => rfl) (fun _ => aK 1 ae.h rfl rfl rfl rfl) .nil) fun D l td hR => ?_;refine cx 2 ae.h rfl rfl rfl rfl rfl rfl rfl ?_;refine ek hR ?_;refine nX 10 (by kernel_rfl) rfl (fun _ => iF rfl) (fun _ => rfl) rfl (by kernel_rfl) (fun _ _ _ _ h => h) ?_
   refine cw (l' := #[true, true, true, true, true, true, true, true, true, true, true, false]) (by kernel_rfl) (.cons rfl rfl rfl (fun _ => rfl) (fun _ => aK 1 ae.h rfl rfl rfl rfl) .nil) (by kernel_rfl) rfl (by kernel_rfl) (by kernel_rfl) ?_;simp only [List.nil_append, List.cons_append, List.map_cons, List.map_nil];refine o_ [11] ?_;exact bm key38 rfl ⟨lk_, sm_⟩ rfl (by kernel_rfl)
  ·refine ⟨_, rfl, ?_⟩;refine wv_ (aK 1 ae.h rfl rfl rfl rfl) ?_;refine eG [⟨4, 39, iv f16⟩] 3 ?_;refine bl 9 (by kernel_rfl) rfl (.cons rfl rfl rfl (fun _ => rfl) (fun _ => aK 1 ae.h rfl rfl rfl rfl) .nil) fun D l td hR => ?_;refine cx 2 ae.h rfl rfl rfl rfl rfl rfl rfl ?_;refine ek hR ?_;refine cw (l' := #[true, true, true, true, true, true, true, true, true, true, false, false]) (by kernel_rfl) (.cons rfl rfl rfl (fun _ => rfl) (fun _ => aK 1 ae.h rfl rfl rfl rfl) .nil) (by kernel_rfl) rfl (by kernel_rfl) (by kernel_rfl) ?_
   simp only [List.nil_append, List.cons_append, List.map_cons, List.map_nil];refine o_ [10,11] ?_;exact bm key38 rfl ⟨lk_, sm_⟩ rfl (by kernel_rfl)
  ·refine ⟨_, rfl, ?_⟩;refine cx 2 ae.h rfl rfl rfl rfl rfl rfl rfl ?_;refine o_ [4,10,8,11] ?_;exact bm key38 rfl ⟨lk_, sm_⟩ rfl (by kernel_rfl)
 refine i_ h (fun h=>?_) fun h=>?_
 ·refine fh ?_;refine az (m := 8) (by kernel_rfl) rfl ?_;refine pl_ 0 rfl (aw aQ.h rfl rfl) ?_;refine o_ [1,2,3] ?_;refine eG [⟨4, 51, iv f16⟩] 3 ?_;refine bl 5 (by kernel_rfl) rfl (.cons rfl rfl rfl (fun _ => rfl) (fun _ => aK 1 ae.h rfl rfl rfl rfl) .nil) fun D l td hR => ?_;refine cx 2 ae.h rfl rfl rfl rfl rfl rfl rfl ?_;refine ek hR ?_;refine cw (l' := #[true, true, true, true, true, true, false, false]) (by kernel_rfl) (.cons rfl rfl rfl (fun _ => rfl) (fun _ => aK 1 ae.h rfl rfl rfl rfl) .nil) (by kernel_rfl) rfl (by kernel_rfl) (by kernel_rfl) ?_
  simp only [List.nil_append, List.cons_append, List.map_cons, List.map_nil];refine o_ [6,7] ?_;refine aB (by kernel_rfl) ?_;exact rl_ h hg
 exact rl_ h hg
def bT (o1:T0t×(List UInt8)×Int×T5t) (sv3:ByteArray) (r:Bool):Prop:=
 InR ((o1.2.1.length:Int) - o1.2.2.1)∧(((sv3.size:Int)≤((o1.2.1.length:Int) - o1.2.2.1)→InR (o1.2.2.1+(sv3.size:Int))∧(0≤(o1.2.2.1:Int)∧(o1.2.2.1:Int)≤((o1.2.2.1+(sv3.size:Int)):Int)∧((o1.2.2.1+(sv3.size:Int)):Int)≤(o1.2.1.length:Int))∧r=(((⟨(((o1.2.1.take ((o1.2.2.1+(sv3.size:Int)):Int).toNat).drop (o1.2.2.1:Int).toNat)).toArray⟩:ByteArray)).toList==sv3.toList))∧(¬ ((sv3.size:Int)≤((o1.2.1.length:Int) - o1.2.2.1))→r=false))
set_option maxHeartbeats 4000000 in
theorem oP ⦃o1: T0t × (List UInt8) × Int × T5t⦄ ⦃sv3: ByteArray⦄ ⦃r: Bool⦄ (h: bT o1 sv3 r) (bx0: Nat) (ia2: Option (Nat × Nat)) : Cn Tryz.prog 46 [pw bx0, .v (.string sv3)] [⟨bx0, 66, ([.sl 10 (some ia2) (List.map aa o1.1.1), iv o1.1.2, sb o1.2.1, iv o1.2.2.1] ++ (List.map eB o1.2.2.2.l).flatten)⟩] [⟨ia2, 43, 10, o1.1.1.length⟩] fun rr bx tk=>rr=bv r ∧ bx=[⟨bx0, 66, ([.sl 10 (some ia2) (List.map aa o1.1.1), iv o1.1.2, sb o1.2.1, iv o1.2.2.1] ++ (List.map eB o1.2.2.2.l).flatten)⟩] ∧ tk=[⟨ia2, 43, 10, o1.1.1.length⟩] := by
 refine al Tryz.func46 rfl rfl (by kernel_rfl) fun g hg=>?_;simp only [Tryz.ntmps46,av];refine wn_ 6 h fun h=>?_;refine az (m := 35) (by kernel_rfl) rfl ?_;obtain ⟨h15, h⟩ := h;refine o_ [0,1,2,5,6,7,10,11,3,4,8,9,12,13] ?_;refine ip_ 18 h (fun h=>?_) fun h=>?_
 ·obtain ⟨h20, h⟩ := h;obtain ⟨h21, h⟩ := h;refine o_ [14,15,16,18,19,20,22,23,24,26,27,31,25,28,17,21] ?_;refine pl_ 29 rfl (sc h21 ai.h ae.h rfl rfl rfl) ?_;refine aG (i := 30) (by kernel_rfl) rfl ?_;refine wv_ (oy (bs := ((o1.2.1.take ((o1.2.2.1 + (sv3.size : Int)) : Int).toNat).drop (o1.2.2.1 : Int).toNat)) ai.h ai.h ai.h rfl rfl rfl (fun _ h => by injection h with h; exact h.symm)) ?_
  refine o_ [32,33,34] ?_;refine aB (by kernel_rfl) ?_;exact r_ h hg
 refine o_ [14,15,16,17,18,19,20,21,22,23,24,25,26,27,28,29,30,31,32,33,34] ?_;refine aB (by kernel_rfl) ?_;exact r_ h hg
def bI (o1:T0t×(List UInt8)×Int×T5t) (nv3:Int×Int×Int×Int×Int×Int×T7t) (r:Int×T3t):Prop:=
 ((1000≤(o1.1.1.length:Int)→r=((-1),o1))∧(¬ (1000≤(o1.1.1.length:Int))→∃ y28:Bool,iX nv3 (o1.1.1.length:Int) o1.1.2 y28∧((¬ (y28=true)→r=((-1),o1))∧(¬ (¬ (y28=true))→ef (o1.1.1.length+([nv3]).length) 80∧InR ((((o1.1.1++[nv3])).length:Int) - 1)∧r=(((((o1.1.1++[nv3])).length:Int) - 1),(((o1.1.1++[nv3]),o1.1.2),o1.2.1,o1.2.2.1,o1.2.2.2))))))
set_option maxHeartbeats 4000000 in
theorem pL ⦃o1: T0t × (List UInt8) × Int × T5t⦄ ⦃nv3: Int × Int × Int × Int × Int × Int × T7t⦄ ⦃r: Int × T3t⦄ (h: bI o1 nv3 r) (bx0: Nat) (ia2: Option (Nat × Nat)) : Cn Tryz.prog 39 [pw bx0, .agg (aa nv3)] [⟨bx0, 66, ([.sl 10 (some ia2) (List.map aa o1.1.1), iv o1.1.2, sb o1.2.1, iv o1.2.2.1] ++ (List.map eB o1.2.2.2.l).flatten)⟩] [⟨ia2, 43, 10, o1.1.1.length⟩] fun rr bx tk=>∃ j1, rr=iv r.1 ∧ bx=[⟨bx0, 66, ([.sl 10 (some j1) (List.map aa r.2.1.1), iv r.2.1.2, sb r.2.2.1, iv r.2.2.2.1] ++ (List.map eB r.2.2.2.2.l).flatten)⟩] ∧ tk=[⟨j1, 43, 10, r.2.1.1.length⟩] := by
 refine al Tryz.func39 rfl rfl (by kernel_rfl) fun g hg=>?_;simp only [Tryz.ntmps39,av];refine wn_ 2 h fun h=>?_;refine cK rfl rfl rfl rfl fun b3 => ?_;refine wn_ 5 h fun h=>?_;refine az (m := 20) (by kernel_rfl) rfl ?_;refine o_ [0,1,2,3,4,5,6] ?_;refine ip_ 11 h (fun h=>?_) fun h=>?_
 ·refine o_ [7,8,9,10,11,12,13,14,15,16,17,18,19] ?_;refine aB (by kernel_rfl) ?_;exact r_ h hg
 obtain ⟨y28, h27, h⟩ := h;refine o_ [8,9,10,13,14,15] ?_;refine en 7 [11, 12, 16] rfl (an 0 [] (aa nv3) [] sq_ sl_ sl_ (aq sl_) ae.h rfl rfl) rfl rfl (by kernel_rfl) (by kernel_rfl) (by kernel_rfl) (fun _ _ _ _ h => h) ?_
 refine o_ [11,12,16] ?_;refine aG (i := 17) (by kernel_rfl) rfl ?_;refine cM k7_ h27 ?_;refine o_ [18,19] ?_;refine aB (by kernel_rfl) ?_;refine i_ h (fun h=>?_) fun h=>?_
 ·exact r_ h hg
 refine wn_ 3 h fun h=>?_;refine az (m := 11) (by kernel_rfl) rfl ?_;obtain ⟨h32, h⟩ := h;refine o_ [0,1,2,3,4] ?_;refine en 5 [] rfl (an 0 [] (aa nv3) [] sq_ sl_ sl_ (aq sl_) ae.h rfl rfl) rfl rfl (by kernel_rfl) (by kernel_rfl) (by kernel_rfl) (fun _ _ _ _ h => h) ?_
 refine aG (i := 6) (by kernel_rfl) rfl ?_;refine eF (f := aa) [nv3] ai.h ar.h rfl (.cons rfl (mz sl_) rfl rfl .nil) wr_ rfl rfl rfl rfl fun s31 => ?_;refine aG (i := 7) (by kernel_rfl) rfl ?_;refine ko (l := o1.1.1) (l2 := [nv3]) 1 h32 ai.h ar.h rfl rfl rfl (.refl _) rfl rfl rfl fun i33 => ?_;refine o_ [8,9] ?_;refine aG (i := 10) (by kernel_rfl) rfl ?_
 refine cx 1 ae.h rfl rfl rfl rfl rfl rfl rfl ?_;refine aB (by kernel_rfl) ?_;exact r_ h hg
def ii (o1:T0t×(List UInt8)×Int×T5t) (r:Int×T3t):Prop:=
 ∃ y4:Int×T3t,bI o1 (7,0,0,0,0,0,(Arr.rep 4 (0:UInt64))) y4∧r=(y4.1,y4.2)
set_option maxHeartbeats 4000000 in
theorem Gf ⦃o1: T0t × (List UInt8) × Int × T5t⦄ ⦃r: Int × T3t⦄ (h: ii o1 r) (bx0: Nat) (ia2: Option (Nat × Nat)) : Cn Tryz.prog 47 [pw bx0] [⟨bx0, 66, ([.sl 10 (some ia2) (List.map aa o1.1.1), iv o1.1.2, sb o1.2.1, iv o1.2.2.1] ++ (List.map eB o1.2.2.2.l).flatten)⟩] [⟨ia2, 43, 10, o1.1.1.length⟩] fun rr bx tk=>∃ j1, rr=iv r.1 ∧ bx=[⟨bx0, 66, ([.sl 10 (some j1) (List.map aa r.2.1.1), iv r.2.1.2, sb r.2.2.1, iv r.2.2.2.1] ++ (List.map eB r.2.2.2.2.l).flatten)⟩] ∧ tk=[⟨j1, 43, 10, r.2.1.1.length⟩] := by
 refine al Tryz.func47 rfl rfl (by kernel_rfl) fun g hg=>?_;simp only [Tryz.ntmps47,av];refine wn_ 8 h fun h=>?_;refine vp_ (aw (cs := ([iv 7, iv 0, iv 0, iv 0, iv 0, iv 0] ++ (List.map ew ((Arr.rep 4 (0 : UInt64))).l).flatten)) aQ.h rfl (by refine ao [] [iv 0] ([iv 0, iv 0, iv 0, iv 0, iv 0] ++ (List.map ew ((Arr.rep 4 (0 : UInt64))).l).flatten) sq_ sl_ sl_ sl_ rfl rfl ?_; exact congrArg some sq_)) ?_
 refine c1_ pL h fun y4 i5 h=>?_;exact r_ h hg
end Go.Proofs.YtnbceeholnkfeaaGreatDoor
