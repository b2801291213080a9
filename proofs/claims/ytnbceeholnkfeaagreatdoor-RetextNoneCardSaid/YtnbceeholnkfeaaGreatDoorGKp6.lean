/- What functions' texts ask for, and the walks that show it (printed by a program). -/
import Derived.Test.YtnbceeholnkfeaaGreatDoorGKp5
namespace Go.Proofs.YtnbceeholnkfeaaGreatDoor
def gP (x6063:Int) (ag3:re→Prop) (x8402:Int) (f8403:Arr 256 (Bool)) (_r:T7t×Int×Int):Prop:=
 InR (x6063+1)∧ag3 (x8402,(x6063+1),f8403)
def bw (x8972:Int) (ag8:(Int×(Arr 256 (Bool)))→Prop) (f9053:Arr 256 (Bool)) (_r:T7t×Int×Int):Prop:=
 InR (x8972+1)∧ag8 ((x8972+1),f9053)
def gQ (y8405:T9t) (x6063:Int) (ag3:re→Prop) (ag8:(Int×(Arr 256 (Bool)))→Prop) (x8972:Int) (f8973:Arr 256 (Bool)) (r:T7t×Int×Int):Prop:=
 ((x8972<256→(0≤(x8972:Int)∧(x8972:Int)<256)∧∃ y9055:Bool,f8973.l[(x8972:Int).toNat]? =some y9055∧((y9055=true→(0≤(x8972:Int)∧(x8972:Int)<256)∧∃ y9058:Bool,f8973.l[(x8972:Int).toNat]? =some y9058∧bw x8972 ag8 (Arr.set f8973 (x8972:Int).toNat true) r)∧(¬ (y9055=true)→((y8405.2.2.1=true→(0≤(x8972:Int)∧(x8972:Int)<256)∧∃ y9061:Bool,y8405.2.1.l[(x8972:Int).toNat]? =some y9061∧((y9061=true→(0≤(x8972:Int)∧(x8972:Int)<256)∧∃ y9064:Bool,f8973.l[(x8972:Int).toNat]? =some y9064∧bw x8972 ag8 (Arr.set f8973 (x8972:Int).toNat true) r)∧(¬ (y9061=true)→((¬ (y8405.2.2.1=true)→(0≤(x8972:Int)∧(x8972:Int)<256)∧∃ y9068:Bool,f8973.l[(x8972:Int).toNat]? =some y9068∧bw x8972 ag8 (Arr.set f8973 (x8972:Int).toNat ((decide (x8972=y8405.1)))) r)∧(¬ (¬ (y8405.2.2.1=true))→(0≤(x8972:Int)∧(x8972:Int)<256)∧∃ y9070:Bool,f8973.l[(x8972:Int).toNat]? =some y9070∧bw x8972 ag8 (Arr.set f8973 (x8972:Int).toNat false) r)))))∧(¬ (y8405.2.2.1=true)→((¬ (y8405.2.2.1=true)→(0≤(x8972:Int)∧(x8972:Int)<256)∧∃ y9074:Bool,f8973.l[(x8972:Int).toNat]? =some y9074∧bw x8972 ag8 (Arr.set f8973 (x8972:Int).toNat ((decide (x8972=y8405.1)))) r)∧(¬ (¬ (y8405.2.2.1=true))→(0≤(x8972:Int)∧(x8972:Int)<256)∧∃ y9076:Bool,f8973.l[(x8972:Int).toNat]? =some y9076∧bw x8972 ag8 (Arr.set f8973 (x8972:Int).toNat false) r)))))))∧(¬ (x8972<256)→gP x6063 ag3 y8405.2.2.2.1 f8973 r))
def gp (y9082:T9t) (x6063:Int) (ag3:re→Prop) (ag11:(Int×(Arr 256 (Bool)))→Prop) (x9129:Int) (f9130:Arr 256 (Bool)) (r:T7t×Int×Int):Prop:=
 ((x9129≤y9082.1→(0≤(x9129:Int)∧(x9129:Int)<256)∧∃ y9143:Bool,f9130.l[(x9129:Int).toNat]? =some y9143∧InR (x9129+1)∧ag11 ((x9129+1),(Arr.set f9130 (x9129:Int).toNat true)))∧(¬ (x9129≤y9082.1)→gP x6063 ag3 y9082.2.2.2.1 f9130 r))
def jS (y9082:T9t) (x6063:Int) (ag3:re→Prop) (y8405:T9t) (f6064:Arr 256 (Bool)) (x9095:Bool) (r:T7t×Int×Int):Prop:=
 ((x9095=true→r=((Arr.rep 4 (0:UInt64)),0,3))∧(¬ (x9095=true)→ba (fun ag11 s=>gp y9082 x6063 ag3 ag11 s.1 s.2 r) (y8405.1,f6064)))
def fb (y8405:T9t) (x6063:Int) (ag3:re→Prop) (f6064:Arr 256 (Bool)) (x1:List UInt8) (x8752:Bool) (r:T7t×Int×Int):Prop:=
 ((x8752=true→ba (fun ag8 s=>gQ y8405 x6063 ag3 ag8 s.1 s.2 r) (0,f6064))∧(¬ (x8752=true)→((y8405.2.2.1=true→r=((Arr.rep 4 (0:UInt64)),0,3))∧(¬ (y8405.2.2.1=true)→InR (y8405.2.2.2.1+1)∧∃ y9082:T9t,fQ x1 (y8405.2.2.2.1+1) y9082∧((¬ (y9082.2.2.2.2=0)→r=((Arr.rep 4 (0:UInt64)),0,y9082.2.2.2.2))∧(¬ (¬ (y9082.2.2.2.2=0))→jS y9082 x6063 ag3 y8405 f6064 (y9082.2.2.1 || (decide (y9082.1<y8405.1))) r))))))
def fc (x1:List UInt8) (x6062:Int) (x6063:Int) (ag3:re→Prop) (f6064:Arr 256 (Bool)) (r:T7t×Int×Int):Prop:=
 ∃ y8405:T9t,fQ x1 x6062 y8405∧((¬ (y8405.2.2.2.2=0)→r=((Arr.rep 4 (0:UInt64)),0,y8405.2.2.2.2))∧(¬ (¬ (y8405.2.2.2.2=0))→∃ y8754:Int,cq x1 y8405.2.2.2.1 y8754∧((¬ (y8754=45)→fb y8405 x6063 ag3 f6064 x1 true r)∧(¬ (¬ (y8754=45))→InR (y8405.2.2.2.1+1)∧∃ y8759:Int,cq x1 (y8405.2.2.2.1+1) y8759∧fb y8405 x6063 ag3 f6064 x1 (decide (y8759=93)) r))))
def gR (y24:Int) (x6062:Int) (ag5:(Int×(Arr 256 (Bool)))→Prop) (x7636:Int) (f7637:Arr 256 (Bool)) (r:T7t×Int×Int):Prop:=
 ((x7636<256→(0≤(x7636:Int)∧(x7636:Int)<256)∧∃ y7653:Bool,f7637.l[(x7636:Int).toNat]? =some y7653∧(0≤(x7636:Int)∧(x7636:Int)<256)∧∃ y7656:Bool,f7637.l[(x7636:Int).toNat]? =some y7656∧InR (x7636+1)∧ag5 ((x7636+1),(Arr.set f7637 (x7636:Int).toNat ((!(y7653==(decide (y24=94))))))))∧(¬ (x7636<256)→∃ y7659:T7t,jA f7637 y7659∧InR (x6062+1)∧r=(y7659,(x6062+1),0)))
def gS (x1:List UInt8) (y24:Int) (ag3:re→Prop) (x6062:Int) (x6063:Int) (f6064:Arr 256 (Bool)) (r:T7t×Int×Int):Prop:=
 ((x6063=0→fc x1 x6062 x6063 ag3 f6064 r)∧(¬ (x6063=0)→∃ y7591:Int,cq x1 x6062 y7591∧((¬ (y7591=93)→fc x1 x6062 x6063 ag3 f6064 r)∧(¬ (¬ (y7591=93))→ba (fun ag5 s=>gR y24 x6062 ag5 s.1 s.2 r) (0,f6064)))))
def gT (x1:List UInt8) (y24:Int) (x28:Int) (r:T7t×Int×Int):Prop:=
 ba (fun ag3 s=>gS x1 y24 ag3 s.1 s.2.1 s.2.2 r) (x28,0,(Arr.rep 256 false))
def gU (x1:List UInt8) (x2:Int) (x17:Bool) (r:T7t×Int×Int):Prop:=
 ((x17=true→r=((Arr.rep 4 (0:UInt64)),0,1))∧(¬ (x17=true)→∃ y24:Int,cq x1 x2 y24∧((y24=94→InR (x2+1)∧gT x1 y24 (x2+1) r)∧(¬ (y24=94)→gT x1 y24 x2 r))))
def fx (x1:List UInt8) (x2:Int) (r:T7t×Int×Int):Prop:=
 gU x1 x2 ((decide (x2<0)) || (decide ((x1.length:Int)<x2))) r
set_option maxRecDepth 100000 in
set_option maxHeartbeats 4000000 in
theorem BS ⦃x1: List UInt8⦄ ⦃x2: Int⦄ ⦃r: T7t × Int × Int⦄ (h: fx x1 x2 r) : Cn Tryz.prog 96 [sb x1, iv x2] [] [] fun rr bx tk=>rr=.tup [.agg ((List.map ew r.1.l).flatten), iv r.2.1, iv r.2.2] ∧ bx=[] ∧ tk=[] := by
 refine al Tryz.func96 rfl rfl (by kernel_rfl) fun g hg=>?_;simp only [Tryz.ntmps96,av];unfold fx at h;refine wn_ 2 h fun h=>?_;refine aN ar.h rfl rfl fun b4 => ?_;refine bA 0 ((List.map ew ((Arr.rep 4 (0 : UInt64))).l).flatten) rfl rfl ?_;refine wn_ 5 h fun h=>?_;refine ax (fun σ=>∃ x17, gU x1 x2 x17 r ∧ σ=⟨[(0, sb x1), (1, iv x2), (4, pw b4), (22, bv x17)], [⟨b4, 41, ((List.map ew ((Arr.rep 4 (0 : UInt64))).l).flatten)⟩], []⟩) ?_ ?_
 ·refine ks_ 17 h (fun h=>?_) fun h=>?_
  ·exact m_ h
  exact m_ h
 rintro _ ⟨x17,h,rfl⟩;refine i_ h (fun h=>?_) fun h=>?_
 ·refine wn_ 2 h fun h=>?_;refine vp_ (bX (cs := ((List.map ew ((Arr.rep 4 (0 : UInt64))).l).flatten)) ai.h ae.h ar.h rfl (by rfl)) ?_;refine aC 0 [] ((List.map ew ((Arr.rep 4 (0 : UInt64))).l).flatten) [] ((List.map ew ((Arr.rep 4 (0 : UInt64))).l).flatten) ae.h rfl rfl rfl rfl rfl ?_;exact rl_ h hg
 refine z0_ ql h fun y24 h=>?_;refine wn_ 4 h fun h=>?_;refine ax (fun σ=>∃ x28, gT x1 y24 x28 r ∧ σ=⟨[(0, sb x1), (1, iv x28), (4, pw b4), (7, bv (decide (y24 = 94)))], [⟨b4, 41, ((List.map ew ((Arr.rep 4 (0 : UInt64))).l).flatten)⟩], []⟩) ?_ ?_
 ·refine i_ h (fun h=>?_) fun h=>?_
  ·exact m_ h
  exact m_ h
 rintro _ ⟨x28,h,rfl⟩;refine wn_ 2 h fun h=>?_;refine aN ar.h rfl rfl fun b8 => ?_;refine bA 0 ((List.map eB ((Arr.rep 256 false)).l).flatten) rfl rfl ?_;refine wn_ 9 h fun h=>?_;obtain ⟨Inv,⟨m0,hI⟩,hS⟩ := lq_ h;refine lp_ hI (fun σ m=>∃ x6062 x6063 f6064, Inv (x6062, x6063, f6064) m ∧ σ=⟨[(0, sb x1), (1, iv x6062), (4, pw b4), (7, bv (decide (y24 = 94))), (8, pw b8), (9, iv x6063)], [⟨b8, 146, ((List.map eB f6064.l).flatten)⟩, ⟨b4, 41, ((List.map ew ((Arr.rep 4 (0 : UInt64))).l).flatten)⟩], []⟩) ?_
 rintro _ m ⟨x6062,x6063,f6064,hI,rfl⟩;obtain ⟨ag3,hag3,h⟩ := cu hS hI;refine ax (fun σ=>fc x1 x6062 x6063 ag3 f6064 r ∧ σ=⟨[(0, sb x1), (1, iv x6062), (4, pw b4), (7, bv (decide (y24 = 94))), (8, pw b8), (9, iv x6063)], [⟨b8, 146, ((List.map eB f6064.l).flatten)⟩, ⟨b4, 41, ((List.map ew ((Arr.rep 4 (0 : UInt64))).l).flatten)⟩], []⟩) ?_ ?_
 ·refine is_ 33 h (fun h=>?_) fun h=>?_
  ·exact m_ h
  refine z0_ ql h fun y7591 h=>?_;refine i_ h (fun h=>?_) fun h=>?_
  ·exact m_ h
  refine wn_ 12 h fun h=>?_;obtain ⟨Inv,⟨m0,hI⟩,hS⟩ := lq_ h;refine lp_ hI (fun σ m=>∃ x7636 f7637, Inv (x7636, f7637) m ∧ σ=⟨[(1, iv x6062), (4, pw b4), (7, bv (decide (y24 = 94))), (8, pw b8), (14, iv x7636)], [⟨b8, 146, ((List.map eB f7637.l).flatten)⟩, ⟨b4, 41, ((List.map ew ((Arr.rep 4 (0 : UInt64))).l).flatten)⟩], []⟩) ?_
  rintro _ m ⟨x7636,f7637,hI,rfl⟩;obtain ⟨ag5,hag5,h⟩ := cu hS hI;refine i_ h (fun h=>?_) fun h=>?_
  ·refine wn_ 7 h fun h=>?_;obtain ⟨h7652, h⟩ := h;obtain ⟨y7653, h7652b, h⟩ := h;refine vp_ (aA h7652 ai.h ae.h rfl rfl) ?_;refine v_ (dH (f := eB) (a := f7637) (k := 1) (off := 0) (i := (x7636 : Int).toNat) 0 [] [] h7652b sq_ so_ (by decide) rfl ae.h rfl rfl) ?_;refine wn_ 2 h fun h=>?_;obtain ⟨h7655, h⟩ := h;obtain ⟨y7656, h7655b, h⟩ := h;refine vp_ (aA h7655 ai.h ae.h rfl rfl) ?_
   refine dO (f := eB) (a := f7637) (k := 1) (off := 0) (i := (x7636 : Int).toNat) 0 [] [] (!(y7653 == (decide (y24 = 94)))) h7655b sq_ so_ (by decide) ae.h rfl rfl rfl rfl sl_ rfl rfl ?_;refine bA 0 ((List.map eB ((Arr.set f7637 (x7636 : Int).toNat ((!(y7653 == (decide (y24 = 94))))))).l).flatten) rfl sq_ ?_;exact g_ h hag5
  refine wn_ 7 h fun h=>?_;refine v_ (an 0 [] ((List.map eB f7637.l).flatten) [] sq_ sl_ sl_ (aq (aE (by rfl))) ae.h rfl rfl) ?_;refine z0_ E0 h fun y7659 h=>?_;refine wn_ 2 h fun h=>?_;refine aC 1 [] ((List.map ew ((Arr.rep 4 (0 : UInt64))).l).flatten) [] ((List.map ew y7659.l).flatten) ae.h rfl rfl rfl rfl rfl ?_;exact rl_ h hg
 rintro _ ⟨h,rfl⟩;refine ax (fun σ=>∃ x8402 f8403, gP x6063 ag3 x8402 f8403 r ∧ σ=⟨[(0, sb x1), (1, iv x8402), (4, pw b4), (7, bv (decide (y24 = 94))), (8, pw b8), (9, iv x6063)], [⟨b8, 146, ((List.map eB f8403.l).flatten)⟩, ⟨b4, 41, ((List.map ew ((Arr.rep 4 (0 : UInt64))).l).flatten)⟩], []⟩) ?_ ?_
 ·refine z0_ BR h fun y8405 h=>?_;refine aN ar.h rfl rfl fun b10 => ?_;refine bA 0 ([iv 0] ++ ((List.map eB ((Arr.rep 256 false)).l).flatten ++ [bv false, iv 0, iv 0])) rfl rfl ?_;refine aC 0 [] ([iv 0] ++ ((List.map eB ((Arr.rep 256 false)).l).flatten ++ [bv false, iv 0, iv 0])) [] ([iv y8405.1] ++ ((List.map eB y8405.2.1.l).flatten ++ [bv y8405.2.2.1, iv y8405.2.2.2.1, iv y8405.2.2.2.2])) ae.h rfl rfl rfl rfl rfl ?_
  refine wn_ 6 h fun h=>?_;refine v_ (an 0 ([iv y8405.1] ++ ((List.map eB y8405.2.1.l).flatten ++ [bv y8405.2.2.1, iv y8405.2.2.2.1])) [iv y8405.2.2.2.2] [] sq_ sl_ sl_ rfl ae.h rfl rfl) ?_;refine i_ h (fun h=>?_) fun h=>?_
  ·refine fh ?_;refine az (m := 6) (by kernel_rfl) rfl ?_;refine pl_ 0 rfl (bX (cs := ((List.map ew ((Arr.rep 4 (0 : UInt64))).l).flatten)) ai.h ae.h ar.h rfl (by rfl)) ?_;refine o_ [1] ?_;refine eG [⟨2, 49, iv y8405.2.2.2.2⟩] 3 ?_;refine bl 3 (by kernel_rfl) rfl (.cons rfl rfl rfl (fun _ => rfl) (fun _ => an 0 ([iv y8405.1] ++ ((List.map eB y8405.2.1.l).flatten ++ [bv y8405.2.2.1, iv y8405.2.2.2.1])) [iv y8405.2.2.2.2] [] sq_ sl_ sl_ rfl ae.h rfl rfl) .nil) fun D l td hR => ?_
   refine jI 2 [] ((List.map ew ((Arr.rep 4 (0 : UInt64))).l).flatten) [] ((List.map ew ((Arr.rep 4 (0 : UInt64))).l).flatten) ae.h rfl rfl rfl rfl rfl ?_;refine ek hR ?_;refine nX 4 (by kernel_rfl) rfl (fun _ => iF rfl) (fun _ => rfl) rfl (by kernel_rfl) (fun _ _ _ _ h => h) ?_;refine cw (l' := #[true, true, true, true, true, false]) (by kernel_rfl) (.cons rfl rfl rfl (fun _ => rfl) (fun _ => an 0 ([iv y8405.1] ++ ((List.map eB y8405.2.1.l).flatten ++ [bv y8405.2.2.1, iv y8405.2.2.2.1])) [iv y8405.2.2.2.2] [] sq_ sl_ sl_ rfl ae.h rfl rfl) .nil) (by kernel_rfl) rfl (by kernel_rfl) (by kernel_rfl) ?_
   simp only [List.nil_append, List.cons_append, List.map_cons, List.map_nil];refine o_ [5] ?_;refine aB (by kernel_rfl) ?_;exact rl_ h hg
  refine wn_ 3 h fun h=>?_;refine ax (fun σ=>∃ x8752, fb y8405 x6063 ag3 f6064 x1 x8752 r ∧ σ=⟨[(0, sb x1), (4, pw b4), (7, bv (decide (y24 = 94))), (8, pw b8), (9, iv x6063), (10, pw b10), (62, bv x8752)], [⟨b10, 148, ([iv y8405.1] ++ ((List.map eB y8405.2.1.l).flatten ++ [bv y8405.2.2.1, iv y8405.2.2.2.1, iv y8405.2.2.2.2]))⟩, ⟨b8, 146, ((List.map eB f6064.l).flatten)⟩, ⟨b4, 41, ((List.map ew ((Arr.rep 4 (0 : UInt64))).l).flatten)⟩], []⟩) ?_ ?_
  ·refine wn_ 3 h fun h=>?_;refine v_ (an 0 ([iv y8405.1] ++ ((List.map eB y8405.2.1.l).flatten ++ [bv y8405.2.2.1])) [iv y8405.2.2.2.1] [iv y8405.2.2.2.2] sq_ sl_ sl_ rfl ae.h rfl rfl) ?_;refine z0_ ql h fun y8754 h=>?_;refine is_ 55 h (fun h=>?_) fun h=>?_
   ·exact m_ h
   refine wn_ 2 h fun h=>?_;refine v_ (an 0 ([iv y8405.1] ++ ((List.map eB y8405.2.1.l).flatten ++ [bv y8405.2.2.1])) [iv y8405.2.2.2.1] [iv y8405.2.2.2.2] sq_ sl_ sl_ rfl ae.h rfl rfl) ?_;refine z0_ ql h fun y8759 h=>?_;exact m_ h
  rintro _ ⟨x8752,h,rfl⟩;refine i_ h (fun h=>?_) fun h=>?_
  ·refine wn_ 7 h fun h=>?_;obtain ⟨Inv,⟨m0,hI⟩,hS⟩ := lq_ h;refine lp_ hI (fun σ m=>∃ x8972 f8973, Inv (x8972, f8973) m ∧ σ=⟨[(0, sb x1), (4, pw b4), (7, bv (decide (y24 = 94))), (8, pw b8), (9, iv x6063), (10, pw b10), (11, iv x8972)], [⟨b10, 148, ([iv y8405.1] ++ ((List.map eB y8405.2.1.l).flatten ++ [bv y8405.2.2.1, iv y8405.2.2.2.1, iv y8405.2.2.2.2]))⟩, ⟨b8, 146, ((List.map eB f8973.l).flatten)⟩, ⟨b4, 41, ((List.map ew ((Arr.rep 4 (0 : UInt64))).l).flatten)⟩], []⟩) ?_
   rintro _ m ⟨x8972,f8973,hI,rfl⟩;obtain ⟨ag8,hag8,h⟩ := cu hS hI;refine i_ h (fun h=>?_) fun h=>?_
   ·refine wn_ 2 h fun h=>?_;refine ax (fun σ=>∃ f9053, bw x8972 ag8 f9053 r ∧ σ=⟨[(0, sb x1), (4, pw b4), (7, bv (decide (y24 = 94))), (8, pw b8), (9, iv x6063), (10, pw b10), (11, iv x8972)], [⟨b10, 148, ([iv y8405.1] ++ ((List.map eB y8405.2.1.l).flatten ++ [bv y8405.2.2.1, iv y8405.2.2.2.1, iv y8405.2.2.2.2]))⟩, ⟨b8, 146, ((List.map eB f9053.l).flatten)⟩, ⟨b4, 41, ((List.map ew ((Arr.rep 4 (0 : UInt64))).l).flatten)⟩], []⟩) ?_ ?_
    ·refine wn_ 4 h fun h=>?_;obtain ⟨h9054, h⟩ := h;obtain ⟨y9055, h9054b, h⟩ := h;refine vp_ (aA h9054 ai.h ae.h rfl rfl) ?_;refine v_ (dH (f := eB) (a := f8973) (k := 1) (off := 0) (i := (x8972 : Int).toNat) 1 [] [] h9054b sq_ so_ (by decide) rfl ae.h rfl rfl) ?_;refine is_ 71 h (fun h=>?_) fun h=>?_
     ·refine wn_ 20 h fun h=>?_;obtain ⟨h9057, h⟩ := h;obtain ⟨y9058, h9057b, h⟩ := h;refine vp_ (aA h9057 ai.h ae.h rfl rfl) ?_;refine dO (f := eB) (a := f8973) (k := 1) (off := 0) (i := (x8972 : Int).toNat) 1 [] [] true h9057b sq_ so_ (by decide) ae.h rfl rfl rfl rfl sl_ rfl rfl ?_;refine bA 1 ((List.map eB ((Arr.set f8973 (x8972 : Int).toNat true)).l).flatten) rfl sq_ ?_
      exact m_ h
     refine vp_ (cd bE.h rfl) ?_;refine v_ (an 0 ([iv y8405.1] ++ (List.map eB y8405.2.1.l).flatten) [bv y8405.2.2.1] [iv y8405.2.2.2.1, iv y8405.2.2.2.2] sq_ sl_ sl_ rfl ae.h rfl rfl) ?_;refine is_ 74 h (fun h=>?_) fun h=>?_
     ·refine wn_ 2 h fun h=>?_;obtain ⟨h9060, h⟩ := h;obtain ⟨y9061, h9060b, h⟩ := h;refine vp_ (aA h9060 ai.h ae.h rfl rfl) ?_;refine v_ (dH (f := eB) (a := y8405.2.1) (k := 1) (off := 0) (i := (x8972 : Int).toNat) 0 [iv y8405.1] [bv y8405.2.2.1, iv y8405.2.2.2.1, iv y8405.2.2.2.2] h9060b sq_ so_ (by decide) rfl ae.h rfl rfl) ?_;refine is_ 81 h (fun h=>?_) fun h=>?_
      ·refine wn_ 10 h fun h=>?_;obtain ⟨h9063, h⟩ := h;obtain ⟨y9064, h9063b, h⟩ := h;refine vp_ (aA h9063 ai.h ae.h rfl rfl) ?_;refine dO (f := eB) (a := f8973) (k := 1) (off := 0) (i := (x8972 : Int).toNat) 1 [] [] true h9063b sq_ so_ (by decide) ae.h rfl rfl rfl rfl sl_ rfl rfl ?_;refine bA 1 ((List.map eB ((Arr.set f8973 (x8972 : Int).toNat true)).l).flatten) rfl sq_ ?_
       exact m_ h
      refine vp_ (cd bE.h rfl) ?_;refine v_ (an 0 ([iv y8405.1] ++ (List.map eB y8405.2.1.l).flatten) [bv y8405.2.2.1] [iv y8405.2.2.2.1, iv y8405.2.2.2.2] sq_ sl_ sl_ rfl ae.h rfl rfl) ?_;refine is_ 85 h (fun h=>?_) fun h=>?_
      ·refine wn_ 6 h fun h=>?_;obtain ⟨h9067, h⟩ := h;obtain ⟨y9068, h9067b, h⟩ := h;refine vp_ (aA h9067 ai.h ae.h rfl rfl) ?_;refine dO (f := eB) (a := f8973) (k := 1) (off := 0) (i := (x8972 : Int).toNat) 1 [] [] (decide (x8972 = y8405.1)) h9067b sq_ so_ (by decide) ae.h rfl rfl rfl rfl sl_ rfl rfl ?_;refine bA 1 ((List.map eB ((Arr.set f8973 (x8972 : Int).toNat ((decide (x8972 = y8405.1))))).l).flatten) rfl sq_ ?_
       exact m_ h
      refine wn_ 6 h fun h=>?_;obtain ⟨h9069, h⟩ := h;obtain ⟨y9070, h9069b, h⟩ := h;refine vp_ (aA h9069 ai.h ae.h rfl rfl) ?_;refine dO (f := eB) (a := f8973) (k := 1) (off := 0) (i := (x8972 : Int).toNat) 1 [] [] false h9069b sq_ so_ (by decide) ae.h rfl rfl rfl rfl sl_ rfl rfl ?_;refine bA 1 ((List.map eB ((Arr.set f8973 (x8972 : Int).toNat false)).l).flatten) rfl sq_ ?_
      exact m_ h
     refine wn_ 8 h fun h=>?_;refine v_ (an 0 ([iv y8405.1] ++ (List.map eB y8405.2.1.l).flatten) [bv y8405.2.2.1] [iv y8405.2.2.2.1, iv y8405.2.2.2.2] sq_ sl_ sl_ rfl ae.h rfl rfl) ?_;refine is_ 85 h (fun h=>?_) fun h=>?_
     ·refine wn_ 6 h fun h=>?_;obtain ⟨h9073, h⟩ := h;obtain ⟨y9074, h9073b, h⟩ := h;refine vp_ (aA h9073 ai.h ae.h rfl rfl) ?_;refine dO (f := eB) (a := f8973) (k := 1) (off := 0) (i := (x8972 : Int).toNat) 1 [] [] (decide (x8972 = y8405.1)) h9073b sq_ so_ (by decide) ae.h rfl rfl rfl rfl sl_ rfl rfl ?_;refine bA 1 ((List.map eB ((Arr.set f8973 (x8972 : Int).toNat ((decide (x8972 = y8405.1))))).l).flatten) rfl sq_ ?_
      exact m_ h
     refine wn_ 6 h fun h=>?_;obtain ⟨h9075, h⟩ := h;obtain ⟨y9076, h9075b, h⟩ := h;refine vp_ (aA h9075 ai.h ae.h rfl rfl) ?_;refine dO (f := eB) (a := f8973) (k := 1) (off := 0) (i := (x8972 : Int).toNat) 1 [] [] false h9075b sq_ so_ (by decide) ae.h rfl rfl rfl rfl sl_ rfl rfl ?_;refine bA 1 ((List.map eB ((Arr.set f8973 (x8972 : Int).toNat false)).l).flatten) rfl sq_ ?_
     exact m_ h
    rintro _ ⟨f9053,h,rfl⟩;exact g_ h hag8
   refine wn_ 8 h fun h=>?_;refine v_ (an 0 ([iv y8405.1] ++ ((List.map eB y8405.2.1.l).flatten ++ [bv y8405.2.2.1])) [iv y8405.2.2.2.1] [iv y8405.2.2.2.2] sq_ sl_ sl_ rfl ae.h rfl rfl) ?_;exact m_ h
  refine wn_ 6 h fun h=>?_;refine v_ (an 0 ([iv y8405.1] ++ (List.map eB y8405.2.1.l).flatten) [bv y8405.2.2.1] [iv y8405.2.2.2.1, iv y8405.2.2.2.2] sq_ sl_ sl_ rfl ae.h rfl rfl) ?_;refine i_ h (fun h=>?_) fun h=>?_
  ·refine wn_ 2 h fun h=>?_;refine vp_ (bX (cs := ((List.map ew ((Arr.rep 4 (0 : UInt64))).l).flatten)) ai.h ae.h ar.h rfl (by rfl)) ?_;refine aC 2 [] ((List.map ew ((Arr.rep 4 (0 : UInt64))).l).flatten) [] ((List.map ew ((Arr.rep 4 (0 : UInt64))).l).flatten) ae.h rfl rfl rfl rfl rfl ?_;exact rl_ h hg
  refine wn_ 6 h fun h=>?_;refine v_ (an 0 ([iv y8405.1] ++ ((List.map eB y8405.2.1.l).flatten ++ [bv y8405.2.2.1])) [iv y8405.2.2.2.1] [iv y8405.2.2.2.2] sq_ sl_ sl_ rfl ae.h rfl rfl) ?_;refine z0_ BR h fun y9082 h=>?_;refine aN ar.h rfl rfl fun b12 => ?_;refine bA 0 ([iv 0] ++ ((List.map eB ((Arr.rep 256 false)).l).flatten ++ [bv false, iv 0, iv 0])) rfl rfl ?_
  refine aC 0 [] ([iv 0] ++ ((List.map eB ((Arr.rep 256 false)).l).flatten ++ [bv false, iv 0, iv 0])) [] ([iv y9082.1] ++ ((List.map eB y9082.2.1.l).flatten ++ [bv y9082.2.2.1, iv y9082.2.2.2.1, iv y9082.2.2.2.2])) ae.h rfl rfl rfl rfl rfl ?_;refine wn_ 6 h fun h=>?_;refine v_ (an 0 ([iv y9082.1] ++ ((List.map eB y9082.2.1.l).flatten ++ [bv y9082.2.2.1, iv y9082.2.2.2.1])) [iv y9082.2.2.2.2] [] sq_ sl_ sl_ rfl ae.h rfl rfl) ?_
  refine i_ h (fun h=>?_) fun h=>?_
  ·refine fh ?_;refine az (m := 6) (by kernel_rfl) rfl ?_;refine pl_ 0 rfl (bX (cs := ((List.map ew ((Arr.rep 4 (0 : UInt64))).l).flatten)) ai.h ae.h ar.h rfl (by rfl)) ?_;refine o_ [1] ?_;refine eG [⟨2, 108, iv y9082.2.2.2.2⟩] 3 ?_;refine bl 3 (by kernel_rfl) rfl (.cons rfl rfl rfl (fun _ => rfl) (fun _ => an 0 ([iv y9082.1] ++ ((List.map eB y9082.2.1.l).flatten ++ [bv y9082.2.2.1, iv y9082.2.2.2.1])) [iv y9082.2.2.2.2] [] sq_ sl_ sl_ rfl ae.h rfl rfl) .nil) fun D l td hR => ?_
   refine jI 3 [] ((List.map ew ((Arr.rep 4 (0 : UInt64))).l).flatten) [] ((List.map ew ((Arr.rep 4 (0 : UInt64))).l).flatten) ae.h rfl rfl rfl rfl rfl ?_;refine ek hR ?_;refine nX 4 (by kernel_rfl) rfl (fun _ => iF rfl) (fun _ => rfl) rfl (by kernel_rfl) (fun _ _ _ _ h => h) ?_;refine cw (l' := #[true, true, true, true, true, false]) (by kernel_rfl) (.cons rfl rfl rfl (fun _ => rfl) (fun _ => an 0 ([iv y9082.1] ++ ((List.map eB y9082.2.1.l).flatten ++ [bv y9082.2.2.1, iv y9082.2.2.2.1])) [iv y9082.2.2.2.2] [] sq_ sl_ sl_ rfl ae.h rfl rfl) .nil) (by kernel_rfl) rfl (by kernel_rfl) (by kernel_rfl) ?_
   simp only [List.nil_append, List.cons_append, List.map_cons, List.map_nil];refine o_ [5] ?_;refine aB (by kernel_rfl) ?_;exact rl_ h hg
  refine wn_ 3 h fun h=>?_;refine ax (fun σ=>∃ x9095, jS y9082 x6063 ag3 y8405 f6064 x9095 r ∧ σ=⟨[(0, sb x1), (4, pw b4), (7, bv (decide (y24 = 94))), (8, pw b8), (9, iv x6063), (10, pw b10), (12, pw b12), (117, bv x9095)], [⟨b12, 148, ([iv y9082.1] ++ ((List.map eB y9082.2.1.l).flatten ++ [bv y9082.2.2.1, iv y9082.2.2.2.1, iv y9082.2.2.2.2]))⟩, ⟨b10, 148, ([iv y8405.1] ++ ((List.map eB y8405.2.1.l).flatten ++ [bv y8405.2.2.1, iv y8405.2.2.2.1, iv y8405.2.2.2.2]))⟩, ⟨b8, 146, ((List.map eB f6064.l).flatten)⟩, ⟨b4, 41, ((List.map ew ((Arr.rep 4 (0 : UInt64))).l).flatten)⟩], []⟩) ?_ ?_
  ·refine wn_ 2 h fun h=>?_;refine v_ (an 0 ([iv y9082.1] ++ (List.map eB y9082.2.1.l).flatten) [bv y9082.2.2.1] [iv y9082.2.2.2.1, iv y9082.2.2.2.2] sq_ sl_ sl_ rfl ae.h rfl rfl) ?_;refine ks_ 111 h (fun h=>?_) fun h=>?_
   ·exact m_ h
   exact m_ h
  rintro _ ⟨x9095,h,rfl⟩;refine i_ h (fun h=>?_) fun h=>?_
  ·refine wn_ 2 h fun h=>?_;refine vp_ (bX (cs := ((List.map ew ((Arr.rep 4 (0 : UInt64))).l).flatten)) ai.h ae.h ar.h rfl (by rfl)) ?_;refine aC 3 [] ((List.map ew ((Arr.rep 4 (0 : UInt64))).l).flatten) [] ((List.map ew ((Arr.rep 4 (0 : UInt64))).l).flatten) ae.h rfl rfl rfl rfl rfl ?_;exact rl_ h hg
  refine wn_ 11 h fun h=>?_;obtain ⟨Inv,⟨m0,hI⟩,hS⟩ := lq_ h;refine lp_ hI (fun σ m=>∃ x9129 f9130, Inv (x9129, f9130) m ∧ σ=⟨[(0, sb x1), (4, pw b4), (7, bv (decide (y24 = 94))), (8, pw b8), (9, iv x6063), (12, pw b12), (13, iv x9129)], [⟨b12, 148, ([iv y9082.1] ++ ((List.map eB y9082.2.1.l).flatten ++ [bv y9082.2.2.1, iv y9082.2.2.2.1, iv y9082.2.2.2.2]))⟩, ⟨b8, 146, ((List.map eB f9130.l).flatten)⟩, ⟨b4, 41, ((List.map ew ((Arr.rep 4 (0 : UInt64))).l).flatten)⟩], []⟩) ?_
  rintro _ m ⟨x9129,f9130,hI,rfl⟩;obtain ⟨ag11,hag11,h⟩ := cu hS hI;refine i_ h (fun h=>?_) fun h=>?_
  ·refine wn_ 6 h fun h=>?_;obtain ⟨h9142, h⟩ := h;obtain ⟨y9143, h9142b, h⟩ := h;refine vp_ (aA h9142 ai.h ae.h rfl rfl) ?_;refine dO (f := eB) (a := f9130) (k := 1) (off := 0) (i := (x9129 : Int).toNat) 1 [] [] true h9142b sq_ so_ (by decide) ae.h rfl rfl rfl rfl sl_ rfl rfl ?_;refine bA 1 ((List.map eB ((Arr.set f9130 (x9129 : Int).toNat true)).l).flatten) rfl sq_ ?_;exact g_ h hag11
  refine wn_ 7 h fun h=>?_;refine v_ (an 0 ([iv y9082.1] ++ ((List.map eB y9082.2.1.l).flatten ++ [bv y9082.2.2.1])) [iv y9082.2.2.2.1] [iv y9082.2.2.2.2] sq_ sl_ sl_ rfl ae.h rfl rfl) ?_;exact m_ h
 rintro _ ⟨x8402,f8403,h,rfl⟩;exact g_ h hag3
def cr (o1:(List UInt8)×Int×Int×T0t×T5t) (r:Int×T2t):Prop:=
 InR (o1.2.1+1)∧∃ y9:T7t×Int×Int,fx o1.1 (o1.2.1+1) y9∧((¬ (y9.2.2=0)→r=(0,(o1.1,o1.2.1,y9.2.2,o1.2.2.2.1,o1.2.2.2.2)))∧(¬ (¬ (y9.2.2=0))→∃ y16:Int×T2t,ap (o1.1,y9.2.1,o1.2.2.1,o1.2.2.2.1,o1.2.2.2.2) (1,0,0,0,0,0,y9.1) y16∧r=(y16.1,y16.2)))
set_option maxHeartbeats 4000000 in
theorem BT ⦃o1: (List UInt8) × Int × Int × T0t × T5t⦄ ⦃r: Int × T2t⦄ (h: cr o1 r) (bx0: Nat) (ia2: Option (Nat × Nat)) : Cn Tryz.prog 73 [pw bx0] [⟨bx0, 76, ([sb o1.1, iv o1.2.1, iv o1.2.2.1, .sl 10 (some ia2) (List.map aa o1.2.2.2.1.1), iv o1.2.2.2.1.2] ++ (List.map eB o1.2.2.2.2.l).flatten)⟩] [⟨ia2, 43, 10, o1.2.2.2.1.1.length⟩] fun rr bx tk=>∃ j1, rr=iv r.1 ∧ bx=[⟨bx0, 76, ([sb r.2.1, iv r.2.2.1, iv r.2.2.2.1, .sl 10 (some j1) (List.map aa r.2.2.2.2.1.1), iv r.2.2.2.2.1.2] ++ (List.map eB r.2.2.2.2.2.l).flatten)⟩] ∧ tk=[⟨j1, 43, 10, r.2.2.2.2.1.1.length⟩] := by
 refine al Tryz.func73 rfl rfl (by kernel_rfl) fun g hg=>?_;simp only [Tryz.ntmps73,av];refine wn_ 6 h fun h=>?_;refine az (m := 18) (by kernel_rfl) rfl ?_;obtain ⟨h7, h⟩ := h;obtain ⟨y9, h8, h⟩ := h;refine ff 3 #[true, true, true, true, true, true, true, true, true, true, true, true, true, true, true, false, false, false] (fun σ=>∃ b3, σ=⟨[(0, pw bx0), (3, pw b3), (17, .agg ((List.map ew y9.1.l).flatten)), (18, iv y9.2.1), (19, iv y9.2.2)], [⟨b3, 41, ((List.map ew ((Arr.rep 4 (0 : UInt64))).l).flatten)⟩, ⟨bx0, 76, ([sb o1.1, iv o1.2.1, iv o1.2.2.1, .sl 10 (some ia2) (List.map aa o1.2.2.2.1.1), iv o1.2.2.2.1.2] ++ (List.map eB o1.2.2.2.2.l).flatten)⟩], [⟨ia2, 43, 10, o1.2.2.2.1.1.length⟩]⟩) ?_ (fun key10=>?_)
 ·rintro _ ⟨b3,rfl⟩;refine aG (i := 15) (by kernel_rfl) rfl ?_;refine jI 0 [] ((List.map ew ((Arr.rep 4 (0 : UInt64))).l).flatten) [] ((List.map ew y9.1.l).flatten) ae.h rfl rfl rfl rfl rfl ?_;refine o_ [16,17] ?_;refine aB (by kernel_rfl) ?_;refine i_ h (fun h=>?_) fun h=>?_
  ·exact r_ h hg
  refine wn_ 14 h fun h=>?_;refine v_ (an 0 [] ((List.map ew y9.1.l).flatten) [] sq_ sl_ sl_ (aq (aE (by rfl))) ae.h rfl rfl) ?_;refine vp_ (aw (cs := ([iv 1, iv 0, iv 0, iv 0, iv 0, iv 0] ++ (List.map ew y9.1.l).flatten)) aQ.h rfl (by refine ao [] [iv 0] ([iv 0, iv 0, iv 0, iv 0, iv 0] ++ (List.map ew ((Arr.rep 4 (0 : UInt64))).l).flatten) sq_ sl_ sl_ sl_ rfl rfl ?_; refine ao [iv 1, iv 0, iv 0, iv 0, iv 0, iv 0] ((List.map ew ((Arr.rep 4 (0 : UInt64))).l).flatten) [] sq_ sl_ sl_ sl_ rfl rfl ?_; exact congrArg some sq_)) ?_
  refine c1_ iQ h fun y16 i17 h=>?_;exact r_ h hg
 refine o_ [0,1,2,4,5,6,7,8,3] ?_;refine cv (is := [9, 14]) (by kernel_rfl) (by simp) ?_;intro i hi; simp only [List.mem_cons, List.not_mem_nil, or_false] at hi; rcases hi with rfl | rfl
 ·refine ⟨_, rfl, ?_⟩;refine cM BS h8 ?_;refine o_ [10,11,12,13] ?_;refine aG (i := 14) (by kernel_rfl) rfl ?_;refine iV ar.h rfl rfl fun b3 => ?_;refine rv 0 ((List.map ew ((Arr.rep 4 (0 : UInt64))).l).flatten) rfl rfl ?_;exact bm key10 ⟨b3, rfl⟩ ⟨lk_, sm_⟩ rfl (by kernel_rfl)
 ·refine ⟨_, rfl, ?_⟩;refine iV ar.h rfl rfl fun b3 => ?_;refine rv 0 ((List.map ew ((Arr.rep 4 (0 : UInt64))).l).flatten) rfl rfl ?_;refine aG (i := 9) (by kernel_rfl) rfl ?_;refine cM BS h8 ?_;refine o_ [10,11,12,13] ?_;exact bm key10 ⟨b3, rfl⟩ ⟨lk_, sm_⟩ rfl (by kernel_rfl)
def gj (r:T7t):Prop:=
 r=(Arr.set (Arr.set (Arr.set (Arr.set (Arr.rep 4 (0:UInt64)) 0 (18446744073709551615:UInt64)) 1 (18446744073709551615:UInt64)) 2 (18446744073709551615:UInt64)) 3 (18446744073709551615:UInt64))
set_option maxHeartbeats 4000000 in
theorem BU ⦃r: T7t⦄ (h: gj r) : Cn Tryz.prog 74 [] [] [] (Ret (.agg ((List.map ew r.l).flatten))) := by
 refine al Tryz.func74 rfl rfl (by kernel_rfl) fun g hg=>?_;simp only [Tryz.ntmps74,av];refine wn_ 2 h fun h=>?_;refine aN ar.h rfl rfl fun b0 => ?_;refine bA 0 ((List.map ew ((Arr.rep 4 (0 : UInt64))).l).flatten) rfl rfl ?_;refine wn_ 4 h fun h=>?_;refine vp_ (bX (cs := ((List.map ew ((Arr.set (Arr.set (Arr.set (Arr.set (Arr.rep 4 (0 : UInt64)) 0 (18446744073709551615 : UInt64)) 1 (18446744073709551615 : UInt64)) 2 (18446744073709551615 : UInt64)) 3 (18446744073709551615 : UInt64))).l).flatten)) ai.h ae.h ar.h rfl (by rfl)) ?_
 refine aC 0 [] ((List.map ew ((Arr.rep 4 (0 : UInt64))).l).flatten) [] ((List.map ew ((Arr.set (Arr.set (Arr.set (Arr.set (Arr.rep 4 (0 : UInt64)) 0 (18446744073709551615 : UInt64)) 1 (18446744073709551615 : UInt64)) 2 (18446744073709551615 : UInt64)) 3 (18446744073709551615 : UInt64))).l).flatten) ae.h rfl rfl rfl rfl rfl ?_;exact rl_ h hg
def lc (x259:Int) (x258:Int) (x507:Bool) (r:Int×Int×Int):Prop:=
 ((x507=true→r=(0,0,3))∧(¬ (x507=true)→r=(x259,x258,0)))
def dA (x2:Int) (x3:Int) (x258:Int) (x259:Int) (x260:Bool) (r:Int×Int×Int):Prop:=
 ((x258=x2→r=(0,0,9))∧(¬ (x258=x2)→lc x259 x258 (x260 || (decide (x3<x259))) r))
def fR (x338:Int) (ag3:(Int×Int×Bool)→Prop) (x478:Int) (x479:Bool) (_r:Int×Int×Int):Prop:=
 InR (x338+1)∧ag3 ((x338+1),x478,x479)
def ld (x338:Int) (ag3:(Int×Int×Bool)→Prop) (x339:Int) (y460:UInt8) (x340:Bool) (x485:Bool) (r:Int×Int×Int):Prop:=
 ((x485=true→fR x338 ag3 x339 true r)∧(¬ (x485=true)→InR (x339 * 10)∧InR ((x339 * 10)+((y460.toNat:Int) - 48))∧fR x338 ag3 ((x339 * 10)+((y460.toNat:Int) - 48)) x340 r))
def lf (x1:List UInt8) (x2:Int) (x3:Int) (ag3:(Int×Int×Bool)→Prop) (x338:Int) (x339:Int) (x340:Bool) (r:Int×Int×Int):Prop:=
 ((x338<(x1.length:Int)→0≤(x338:Int)∧∃ y452:UInt8,x1[(x338:Int).toNat]? =some y452∧((48≤(y452.toNat:Int)→0≤(x338:Int)∧∃ y456:UInt8,x1[(x338:Int).toNat]? =some y456∧(((y456.toNat:Int)≤57→0≤(x338:Int)∧∃ y460:UInt8,x1[(x338:Int).toNat]? =some y460∧InR ((y460.toNat:Int) - 48)∧ld x338 ag3 x339 y460 x340 ((decide (922337203685477580<x339)) || ((decide (x339=922337203685477580)) && (decide (7<((y460.toNat:Int) - 48))))) r)∧(¬ ((y456.toNat:Int)≤57)→dA x2 x3 x338 x339 x340 r)))∧(¬ (48≤(y452.toNat:Int))→dA x2 x3 x338 x339 x340 r)))∧(¬ (x338<(x1.length:Int))→dA x2 x3 x338 x339 x340 r))
def iR (x1:List UInt8) (x2:Int) (x3:Int) (x18:Bool) (r:Int×Int×Int):Prop:=
 ((x18=true→r=(0,0,1))∧(¬ (x18=true)→ba (fun ag3 s=>lf x1 x2 x3 ag3 s.1 s.2.1 s.2.2 r) (x2,0,false)))
def eN (x1:List UInt8) (x2:Int) (x3:Int) (r:Int×Int×Int):Prop:=
 iR x1 x2 x3 ((decide (x2<0)) || (decide ((x1.length:Int)<x2))) r
set_option maxHeartbeats 4000000 in
theorem BV ⦃x1: List UInt8⦄ ⦃x2: Int⦄ ⦃x3: Int⦄ ⦃r: Int × Int × Int⦄ (h: eN x1 x2 x3 r) : Cn Tryz.prog 97 [sb x1, iv x2, iv x3] [] [] fun rr bx tk=>rr=.tup [iv r.1, iv r.2.1, iv r.2.2] ∧ bx=[] ∧ tk=[] := by
 refine al Tryz.func97 rfl rfl (by kernel_rfl) fun g hg=>?_;simp only [Tryz.ntmps97,av];unfold eN at h;refine wn_ 8 h fun h=>?_;refine ax (fun σ=>∃ x18, iR x1 x2 x3 x18 r ∧ σ=⟨[(0, sb x1), (1, iv x2), (2, iv x3), (20, bv x18)], [], []⟩) ?_ ?_
 ·refine ks_ 15 h (fun h=>?_) fun h=>?_
  ·exact m_ h
  exact m_ h
 rintro _ ⟨x18,h,rfl⟩;refine i_ h (fun h=>?_) fun h=>?_
 ·exact r_ h hg
 refine wn_ 18 h fun h=>?_;refine ax (fun σ=>∃ x258 x259 x260, dA x2 x3 x258 x259 x260 r ∧ σ=⟨[(1, iv x2), (2, iv x3), (9, iv x258), (10, iv x259), (11, bv x260)], [], []⟩) ?_ ?_
 ·refine na ?_;obtain ⟨Inv,⟨m0,hI⟩,hS⟩ := lq_ h;refine lp_ hI (fun σ m=>∃ x338 x339 x340, Inv (x338, x339, x340) m ∧ σ=⟨[(0, sb x1), (1, iv x2), (2, iv x3), (9, iv x338), (10, iv x339), (11, bv x340)], [], []⟩) ?_;rintro _ m ⟨x338,x339,x340,hI,rfl⟩;obtain ⟨ag3,hag3,h⟩ := cu hS hI;refine is_ 26 h (fun h=>?_) fun h=>?_
  ·refine x_ h fun y452 h=>?_;refine is_ 33 h (fun h=>?_) fun h=>?_
   ·refine x_ h fun y456 h=>?_;refine i_ h (fun h=>?_) fun h=>?_
    ·refine x_ h fun y460 h=>?_;refine wn_ 6 h fun h=>?_;refine ax (fun σ=>∃ x478 x479, fR x338 ag3 x478 x479 r ∧ σ=⟨[(0, sb x1), (1, iv x2), (2, iv x3), (9, iv x338), (10, iv x478), (11, bv x479), (27, sb x1), (28, iv x338), (29, .el [uv y452]), (30, uv y452), (31, .v (.bool (decide (48 ≤ (y452.toNat : Int))))), (34, sb x1), (35, iv x338), (36, .el [uv y456]), (37, uv y456), (38, .v (.bool (decide ((y456.toNat : Int) ≤ 57))))], [], []⟩) ?_ ?_
     ·refine ax (fun σ=>∃ x485, ld x338 ag3 x339 y460 x340 x485 r ∧ σ=⟨[(0, sb x1), (1, iv x2), (2, iv x3), (9, iv x338), (10, iv x339), (11, bv x340), (12, iv (((y460.toNat : Int) - 48))), (27, sb x1), (28, iv x338), (29, .el [uv y452]), (30, uv y452), (31, .v (.bool (decide (48 ≤ (y452.toNat : Int))))), (34, sb x1), (35, iv x338), (36, .el [uv y456]), (37, uv y456), (38, .v (.bool (decide ((y456.toNat : Int) ≤ 57)))), (55, bv x485)], [], []⟩) ?_ ?_
      ·refine ks_ 48 h (fun h=>?_) fun h=>?_
       ·exact m_ h
       refine ks_ 51 h (fun h=>?_) fun h=>?_
       ·exact m_ h
       exact m_ h
      rintro _ ⟨x485,h,rfl⟩;refine i_ h (fun h=>?_) fun h=>?_
      ·exact m_ h
      exact m_ h
     rintro _ ⟨x478,x479,h,rfl⟩;exact g_ h hag3
    exact m_ h
   exact m_ h
  exact m_ h
 rintro _ ⟨x258,x259,x260,h,rfl⟩;refine i_ h (fun h=>?_) fun h=>?_
 ·exact r_ h hg
 refine wn_ 3 h fun h=>?_;refine ax (fun σ=>∃ x507, lc x259 x258 x507 r ∧ σ=⟨[(9, iv x258), (10, iv x259), (70, bv x507)], [], []⟩) ?_ ?_
 ·refine ks_ 66 h (fun h=>?_) fun h=>?_
  ·exact m_ h
  exact m_ h
 rintro _ ⟨x507,h,rfl⟩;refine i_ h (fun h=>?_) fun h=>?_
 ·exact r_ h hg
 exact r_ h hg
def dX (y40:Int×Int×Int) (y5:Int×Int×Int) (x58:Bool) (r:Int×Int×Int×Bool):Prop:=
 ((x58=true→r=(0,0,0,false))∧(¬ (x58=true)→((¬ (y40.2.2=0)→InR (y5.2.1+1)∧r=(y5.1,(-1),(y5.2.1+1),true))∧(¬ (¬ (y40.2.2=0))→r=(y5.1,y40.1,y40.2.1,true)))))
def cJ (y5:Int×Int×Int) (o1:(List UInt8)×Int×Int×T0t×T5t) (x30:Bool) (r:Int×Int×Int×Bool):Prop:=
 ((x30=true→r=(y5.1,y5.1,y5.2.1,true))∧(¬ (x30=true)→InR (y5.2.1+1)∧∃ y40:Int×Int×Int,eN o1.1 (y5.2.1+1) 255 y40∧dX y40 y5 ((decide (y40.2.2=3)) || ((decide (y40.2.2=0)) && (decide (y40.1<y5.1)))) r))
def cP (o1:(List UInt8)×Int×Int×T0t×T5t) (x3:Int) (r:Int×Int×Int×Bool):Prop:=
 ∃ y5:Int×Int×Int,eN o1.1 x3 255 y5∧((¬ (y5.2.2=0)→r=(0,0,0,false))∧(¬ (¬ (y5.2.2=0))→(((o1.1.length:Int)≤y5.2.1→cJ y5 o1 true r)∧(¬ ((o1.1.length:Int)≤y5.2.1)→0≤(y5.2.1:Int)∧∃ y34:UInt8,o1.1[(y5.2.1:Int).toNat]? =some y34∧cJ y5 o1 (!(decide ((y34.toNat:Int)=44))) r))))
set_option maxHeartbeats 4000000 in
theorem BW ⦃o1: (List UInt8) × Int × Int × T0t × T5t⦄ ⦃x3: Int⦄ ⦃r: Int × Int × Int × Bool⦄ (h: cP o1 x3 r) (bx0: Nat) (ia2: Option (Nat × Nat)) : Cn Tryz.prog 75 [pw bx0, iv x3] [⟨bx0, 76, ([sb o1.1, iv o1.2.1, iv o1.2.2.1, .sl 10 (some ia2) (List.map aa o1.2.2.2.1.1), iv o1.2.2.2.1.2] ++ (List.map eB o1.2.2.2.2.l).flatten)⟩] [⟨ia2, 43, 10, o1.2.2.2.1.1.length⟩] fun rr bx tk=>rr=.tup [iv r.1, iv r.2.1, iv r.2.2.1, bv r.2.2.2] ∧ bx=[⟨bx0, 76, ([sb o1.1, iv o1.2.1, iv o1.2.2.1, .sl 10 (some ia2) (List.map aa o1.2.2.2.1.1), iv o1.2.2.2.1.2] ++ (List.map eB o1.2.2.2.2.l).flatten)⟩] ∧ tk=[⟨ia2, 43, 10, o1.2.2.2.1.1.length⟩] := by
 refine al Tryz.func75 rfl rfl (by kernel_rfl) fun g hg=>?_;simp only [Tryz.ntmps75,av];refine z0_ BV h fun y5 h=>?_;refine i_ h (fun h=>?_) fun h=>?_
 ·exact r_ h hg
 refine wn_ 3 h fun h=>?_;refine ax (fun σ=>∃ x30, cJ y5 o1 x30 r ∧ σ=⟨[(0, pw bx0), (8, iv y5.1), (9, iv y5.2.1), (42, bv x30)], [⟨bx0, 76, ([sb o1.1, iv o1.2.1, iv o1.2.2.1, .sl 10 (some ia2) (List.map aa o1.2.2.2.1.1), iv o1.2.2.2.1.2] ++ (List.map eB o1.2.2.2.2.l).flatten)⟩], [⟨ia2, 43, 10, o1.2.2.2.1.1.length⟩]⟩) ?_ ?_
 ·refine is_ 33 h (fun h=>?_) fun h=>?_
  ·exact m_ h
  refine x_ h fun y34 h=>?_;exact m_ h
 rintro _ ⟨x30,h,rfl⟩;refine i_ h (fun h=>?_) fun h=>?_
 ·exact r_ h hg
 refine z0_ BV h fun y40 h=>?_;refine wn_ 10 h fun h=>?_;refine ax (fun σ=>∃ x58, dX y40 y5 x58 r ∧ σ=⟨[(8, iv y5.1), (9, iv y5.2.1), (11, iv y40.1), (12, iv y40.2.1), (13, iv y40.2.2), (67, bv x58)], [⟨bx0, 76, ([sb o1.1, iv o1.2.1, iv o1.2.2.1, .sl 10 (some ia2) (List.map aa o1.2.2.2.1.1), iv o1.2.2.2.1.2] ++ (List.map eB o1.2.2.2.2.l).flatten)⟩], [⟨ia2, 43, 10, o1.2.2.2.1.1.length⟩]⟩) ?_ ?_
 ·refine ks_ 59 h (fun h=>?_) fun h=>?_
  ·exact m_ h
  refine ks_ 62 h (fun h=>?_) fun h=>?_
  ·exact m_ h
  exact m_ h
 rintro _ ⟨x58,h,rfl⟩;refine i_ h (fun h=>?_) fun h=>?_
 ·exact r_ h hg
 refine i_ h (fun h=>?_) fun h=>?_
 ·exact r_ h hg
 exact r_ h hg
end Go.Proofs.YtnbceeholnkfeaaGreatDoor
