/- What functions' texts ask for, and the walks that show it (printed by a program). -/
import Derived.Test.YtnbceeholnkfeaaGreatDoorSq
import Derived.Test.YtnbceeholnkfeaaGreatDoorFl
import Derived.Test.YtnbceeholnkfeaaGreatDoorCv
namespace Go.Proofs.YtnbceeholnkfeaaGreatDoor
abbrev T0t:Type:=((List (Int×Int×Int×Int×Int×Int×(Arr 4 (UInt64))))×Int)
abbrev T1t:Type:=(T0t×(List UInt8)×Int×Int×(Arr 10 (Bool)))
abbrev T2t:Type:=((List UInt8)×Int×Int×T0t×(Arr 10 (Bool)))
abbrev T3t:Type:=(T0t×(List UInt8)×Int×(Arr 10 (Bool)))
abbrev T4t:Type:=(Int×Int×Int×Int×Int×Int×(Arr 4 (UInt64)))
abbrev T5t:Type:=(Arr 10 (Bool))
abbrev T6t:Type:=(Int×(List (Int×Int))×T3t)
abbrev T7t:Type:=(Arr 4 (UInt64))
abbrev T8t:Type:=(List (Int×Int))
abbrev T9t:Type:=(Int×(Arr 256 (Bool))×Bool×Int×Int)
abbrev ra:Type:=((List Int)×(List UInt8)×Int×Int×(List T4t)×Int×T5t)
abbrev rc:Type:=(Int×(List UInt8)×Int×Int×(List T4t)×Int×T5t)
abbrev mE:Type:=(UInt8×T7t×Bool×Int)
abbrev re:Type:=(Int×Int×(Arr 256 (Bool)))
abbrev AA:Type:=((List Int)×(List T4t)×Int×(List UInt8)×Int×Int×T5t)
abbrev aa (x:Int×Int×Int×Int×Int×Int×T7t):List Sd:=([.v (.int .i64 x.1),.v (.int .i64 x.2.1),.v (.int .i64 x.2.2.1),.v (.int .i64 x.2.2.2.1),.v (.int .i64 x.2.2.2.2.1),.v (.int .i64 x.2.2.2.2.2.1)]++(List.map ew x.2.2.2.2.2.2.l).flatten)
instance:dR aa 10:=⟨fun _=>sl_⟩
abbrev bB (x:Arr 4 (UInt64)):List Sd:=((List.map ew x.l).flatten)
instance:dR bB 4:=⟨fun _=>sl_⟩
set_option synthInstance.maxSize 4000 in
instance:DecidableEq T4t:=inferInstance
set_option synthInstance.maxSize 4000 in
set_option maxRecDepth 20000 in
theorem uU:EqC Tryz.prog 43 aa true 3:=⟨by
 rintro d hd ⟨x0,x1,x2,x3,x4,x5,x6⟩ ⟨y0,y1,y2,y3,y4,y5,y6⟩ R w _ _ ⟨us,rfl,hu,hu1⟩ ⟨vs,rfl,hv,hv1⟩ W
 obtain ⟨d,rfl,hd'⟩:=nU hd
 have h7:=CA (P:=Tryz.prog) d us vs W
 have h6:=kj (P:=Tryz.prog) (fd:=({ name:= "Set",type:=41,offset:=6,embedded:=false,tag:= "",pkgPath:= "",byteOffset:=48 }:Field)) (f:=bB) (ag:=true) (x:=x6) (y:=y6) hu hu1 hv hv1 (by decide) ae.h (lK (t:=41) (e:=39) (f:=ew) ai.h ae.h (by kernel_rfl) inferInstance (fun _=>rfl)) (show 2≤d by omega) (dL (pre:=[iv x0,iv x1,iv x2,iv x3,iv x4,iv x5]) (mid:=((List.map ew x6.l).flatten)) (post:=[]) sq_ sl_ sl_ (aq sl_)) (dL (pre:=[iv y0,iv y1,iv y2,iv y3,iv y4,iv y5]) (mid:=((List.map ew y6.l).flatten)) (post:=[]) sq_ sl_ sl_ (aq sl_)) h7
 have h5:=kj (P:=Tryz.prog) (fd:=({ name:= "Group",type:=3,offset:=5,embedded:=false,tag:= "",pkgPath:= "",byteOffset:=40 }:Field)) (f:=ei) (ag:=false) (x:=x5) (y:=y5) hu hu1 hv hv1 (by decide) ae.h inferInstance (show 1≤d by omega) (dL (pre:=[iv x0,iv x1,iv x2,iv x3,iv x4]) (mid:=[iv x5]) (post:=((List.map ew x6.l).flatten)) sq_ sl_ sl_ rfl) (dL (pre:=[iv y0,iv y1,iv y2,iv y3,iv y4]) (mid:=[iv y5]) (post:=((List.map ew y6.l).flatten)) sq_ sl_ sl_ rfl) h6
 have h4:=kj (P:=Tryz.prog) (fd:=({ name:= "Hi",type:=3,offset:=4,embedded:=false,tag:= "",pkgPath:= "",byteOffset:=32 }:Field)) (f:=ei) (ag:=false) (x:=x4) (y:=y4) hu hu1 hv hv1 (by decide) ae.h inferInstance (show 1≤d by omega) (dL (pre:=[iv x0,iv x1,iv x2,iv x3]) (mid:=[iv x4]) (post:=([iv x5]++(List.map ew x6.l).flatten)) sq_ sl_ sl_ rfl) (dL (pre:=[iv y0,iv y1,iv y2,iv y3]) (mid:=[iv y4]) (post:=([iv y5]++(List.map ew y6.l).flatten)) sq_ sl_ sl_ rfl) h5
 have h3:=kj (P:=Tryz.prog) (fd:=({ name:= "Lo",type:=3,offset:=3,embedded:=false,tag:= "",pkgPath:= "",byteOffset:=24 }:Field)) (f:=ei) (ag:=false) (x:=x3) (y:=y3) hu hu1 hv hv1 (by decide) ae.h inferInstance (show 1≤d by omega) (dL (pre:=[iv x0,iv x1,iv x2]) (mid:=[iv x3]) (post:=([iv x4,iv x5]++(List.map ew x6.l).flatten)) sq_ sl_ sl_ rfl) (dL (pre:=[iv y0,iv y1,iv y2]) (mid:=[iv y3]) (post:=([iv y4,iv y5]++(List.map ew y6.l).flatten)) sq_ sl_ sl_ rfl) h4
 have h2:=kj (P:=Tryz.prog) (fd:=({ name:= "B",type:=3,offset:=2,embedded:=false,tag:= "",pkgPath:= "",byteOffset:=16 }:Field)) (f:=ei) (ag:=false) (x:=x2) (y:=y2) hu hu1 hv hv1 (by decide) ae.h inferInstance (show 1≤d by omega) (dL (pre:=[iv x0,iv x1]) (mid:=[iv x2]) (post:=([iv x3,iv x4,iv x5]++(List.map ew x6.l).flatten)) sq_ sl_ sl_ rfl) (dL (pre:=[iv y0,iv y1]) (mid:=[iv y2]) (post:=([iv y3,iv y4,iv y5]++(List.map ew y6.l).flatten)) sq_ sl_ sl_ rfl) h3
 have h1:=kj (P:=Tryz.prog) (fd:=({ name:= "A",type:=3,offset:=1,embedded:=false,tag:= "",pkgPath:= "",byteOffset:=8 }:Field)) (f:=ei) (ag:=false) (x:=x1) (y:=y1) hu hu1 hv hv1 (by decide) ae.h inferInstance (show 1≤d by omega) (dL (pre:=[iv x0]) (mid:=[iv x1]) (post:=([iv x2,iv x3,iv x4,iv x5]++(List.map ew x6.l).flatten)) sq_ sl_ sl_ rfl) (dL (pre:=[iv y0]) (mid:=[iv y1]) (post:=([iv y2,iv y3,iv y4,iv y5]++(List.map ew y6.l).flatten)) sq_ sl_ sl_ rfl) h2
 have h0:=kj (P:=Tryz.prog) (fd:=({ name:= "Kind",type:=3,offset:=0,embedded:=false,tag:= "",pkgPath:= "",byteOffset:=0 }:Field)) (f:=ei) (ag:=false) (x:=x0) (y:=y0) hu hu1 hv hv1 (by decide) ae.h inferInstance (show 1≤d by omega) (dL (pre:=[]) (mid:=[iv x0]) (post:=([iv x1,iv x2,iv x3,iv x4,iv x5]++(List.map ew x6.l).flatten)) sq_ sl_ sl_ rfl) (dL (pre:=[]) (mid:=[iv y0]) (post:=([iv y1,iv y2,iv y3,iv y4,iv y5]++(List.map ew y6.l).flatten)) sq_ sl_ sl_ rfl) h1
 have hf:(Tryz.prog.fieldsOf 43).toList=[({ name:= "Kind",type:=3,offset:=0,embedded:=false,tag:= "",pkgPath:= "",byteOffset:=0 }:Field),({ name:= "A",type:=3,offset:=1,embedded:=false,tag:= "",pkgPath:= "",byteOffset:=8 }:Field),({ name:= "B",type:=3,offset:=2,embedded:=false,tag:= "",pkgPath:= "",byteOffset:=16 }:Field),({ name:= "Lo",type:=3,offset:=3,embedded:=false,tag:= "",pkgPath:= "",byteOffset:=24 }:Field),({ name:= "Hi",type:=3,offset:=4,embedded:=false,tag:= "",pkgPath:= "",byteOffset:=32 }:Field),({ name:= "Group",type:=3,offset:=5,embedded:=false,tag:= "",pkgPath:= "",byteOffset:=40 }:Field),({ name:= "Set",type:=41,offset:=6,embedded:=false,tag:= "",pkgPath:= "",byteOffset:=48 }:Field)]:=by kernel_rfl
 rw [← hf] at h0
 refine ((run_equalIn_struct W d 43 us vs (by kernel_rfl) (by kernel_rfl)).trans h0).trans ?_
 congr 1;rw [Bool.eq_iff_iff];simp only [Bool.and_true,Bool.and_eq_true,decide_eq_true_eq,Prod.mk.injEq]⟩
def aO:List (Int×Int)→List Sd
 | []=>[]
 | x :: _=>[iv x.1,iv x.2]
def cX (c1:UInt8) (r:T7t):Prop:=
 (64:Int)≠0∧∃ c3:UInt8,(c3.toNat:Int)=IntKind.u8.wrap (((c1.toNat:Int)).tdiv 64)∧(64:Int)≠0∧∃ c5:UInt8,(c5.toNat:Int)=(((c1.toNat:Int)).tmod 64)∧(0:Int)≤(c5.toNat:Int)∧∃ c7:UInt64,(c7.toNat:Int)=IntKind.u64.wrap ((1:Int) * 2 ^ (min ((c5.toNat:Int):Int).toNat IntKind.u64.bits))∧(0≤((c3.toNat:Int):Int)∧((c3.toNat:Int):Int)<4)∧∃ y9:UInt64,((Arr.rep 4 (0:UInt64))).l[((c3.toNat:Int):Int).toNat]? =some y9∧r=(Arr.set ((Arr.rep 4 (0:UInt64))) ((c3.toNat:Int):Int).toNat c7)
set_option maxHeartbeats 4000000 in
theorem k0_ ⦃c1: UInt8⦄ ⦃r: T7t⦄ (h: cX c1 r) : Cn Tryz.prog 14 [uv c1] [] [] (Ret (.agg ((List.map ew r.l).flatten))) := by
 refine al Tryz.func14 rfl rfl (by kernel_rfl) fun g hg=>?_;simp only [Tryz.ntmps14,av];refine wn_ 2 h fun h=>?_;refine aN ar.h rfl rfl fun b2 => ?_;refine bA 0 ((List.map ew ((Arr.rep 4 (0 : UInt64))).l).flatten) rfl rfl ?_;refine wn_ 4 h fun h=>?_;refine aN ar.h rfl rfl fun b3 => ?_;refine bA 0 ((List.map ew ((Arr.rep 4 (0 : UInt64))).l).flatten) rfl rfl ?_;refine wn_ 5 h fun h=>?_
 obtain ⟨h2, h⟩ := h;obtain ⟨c3, h2r, h⟩ := h;refine vp_ (kz h2 h2r rfl rfl rfl) ?_;refine mv_ ?_;obtain ⟨h4, h⟩ := h;obtain ⟨c5, h4r, h⟩ := h;refine vp_ (s7 h4 h4r rfl rfl rfl) ?_;obtain ⟨h6, h⟩ := h;obtain ⟨c7, h6r, h⟩ := h;refine vp_ (wC h6 h6r rfl rfl) ?_;obtain ⟨h8, h⟩ := h;obtain ⟨y9, h8b, h⟩ := h;refine vp_ (aA h8 ai.h ae.h rfl rfl) ?_;refine dO (f := ew) (a := (Arr.rep 4 (0 : UInt64))) (k := 1) (off := 0) (i := ((c3.toNat : Int) : Int).toNat) 0 [] [] c7 h8b sq_ so_ (by decide) ae.h rfl rfl rfl rfl sl_ rfl rfl ?_
 refine bA 0 ((List.map ew ((Arr.set ((Arr.rep 4 (0 : UInt64))) ((c3.toNat : Int) : Int).toNat c7)).l).flatten) rfl sq_ ?_;refine wn_ 4 h fun h=>?_;refine v_ (an 0 [] ((List.map ew ((Arr.set ((Arr.rep 4 (0 : UInt64))) ((c3.toNat : Int) : Int).toNat c7)).l).flatten) [] sq_ sl_ sl_ (aq (aE (by rfl))) ae.h rfl rfl) ?_;refine aC 1 [] ((List.map ew ((Arr.rep 4 (0 : UInt64))).l).flatten) [] ((List.map ew ((Arr.set ((Arr.rep 4 (0 : UInt64))) ((c3.toNat : Int) : Int).toNat c7)).l).flatten) ae.h rfl rfl rfl rfl rfl ?_
 exact rl_ h hg
def eE (nv1:Int×Int×Int×Int×Int×Int×T7t) (f19:Int) (f20:Int) (f21:Int) (f22:Int) (f23:Int) (f24:Arr 4 (UInt64)) (r:T4t):Prop:=
 r=(nv1.1,f19,f20,f21,f22,f23,f24)
def j5 (nv1:Int×Int×Int×Int×Int×Int×T7t) (x30:Bool) (r:T4t):Prop:=
 ((x30=true→eE nv1 nv1.2.1 nv1.2.2.1 0 0 0 (Arr.rep 4 (0:UInt64)) r)∧(¬ (x30=true)→((nv1.1=4→eE nv1 nv1.2.1 0 nv1.2.2.2.1 nv1.2.2.2.2.1 0 (Arr.rep 4 (0:UInt64)) r)∧(¬ (nv1.1=4)→((nv1.1=5→eE nv1 nv1.2.1 0 0 0 nv1.2.2.2.2.2.1 (Arr.rep 4 (0:UInt64)) r)∧(¬ (nv1.1=5)→((nv1.1=6→eE nv1 0 0 0 0 nv1.2.2.2.2.2.1 (Arr.rep 4 (0:UInt64)) r)∧(¬ (nv1.1=6)→eE nv1 0 0 0 0 0 (Arr.rep 4 (0:UInt64)) r))))))))
def kP (nv1:Int×Int×Int×Int×Int×Int×T7t) (r:T4t):Prop:=
 ((nv1.1=1→eE nv1 0 0 0 0 0 nv1.2.2.2.2.2.2 r)∧(¬ (nv1.1=1)→((nv1.1=2→j5 nv1 (decide (nv1.1=2)) r)∧(¬ (nv1.1=2)→j5 nv1 (decide (nv1.1=3)) r))))
set_option maxHeartbeats 4000000 in
theorem k1_ ⦃nv1: Int × Int × Int × Int × Int × Int × T7t⦄ ⦃r: T4t⦄ (h: kP nv1 r) : Cn Tryz.prog 56 [.agg (aa nv1)] [] [] (Ret (.agg (aa r))) := by
 refine al Tryz.func56 rfl rfl (by kernel_rfl) fun g hg=>?_;simp only [Tryz.ntmps56,av];refine wn_ 2 h fun h=>?_;refine cK rfl rfl rfl rfl fun b1 => ?_;refine aN ar.h rfl rfl fun b2 => ?_;refine bA 0 ([iv 0, iv 0, iv 0, iv 0, iv 0, iv 0] ++ (List.map ew ((Arr.rep 4 (0 : UInt64))).l).flatten) rfl rfl ?_;refine wn_ 6 h fun h=>?_
 refine vp_ (aw (cs := ([iv nv1.1, iv 0, iv 0, iv 0, iv 0, iv 0] ++ (List.map ew ((Arr.rep 4 (0 : UInt64))).l).flatten)) aQ.h rfl (by refine ao [] [iv 0] ([iv 0, iv 0, iv 0, iv 0, iv 0] ++ (List.map ew ((Arr.rep 4 (0 : UInt64))).l).flatten) sq_ sl_ sl_ sl_ rfl rfl ?_; exact congrArg some sq_)) ?_
 refine aN ar.h rfl rfl fun b3 => ?_;refine bA 0 ([iv 0, iv 0, iv 0, iv 0, iv 0, iv 0] ++ (List.map ew ((Arr.rep 4 (0 : UInt64))).l).flatten) rfl rfl ?_;refine aC 0 [] ([iv 0, iv 0, iv 0, iv 0, iv 0, iv 0] ++ (List.map ew ((Arr.rep 4 (0 : UInt64))).l).flatten) [] ([iv nv1.1, iv 0, iv 0, iv 0, iv 0, iv 0] ++ (List.map ew ((Arr.rep 4 (0 : UInt64))).l).flatten) ae.h rfl rfl rfl rfl rfl ?_
 refine wn_ 2 h fun h=>?_;refine ax (fun σ=>∃ f19 f20 f21 f22 f23 f24, eE nv1 f19 f20 f21 f22 f23 f24 r ∧ σ=⟨[(2, pw b2), (3, pw b3)], [⟨b3, 43, ([iv nv1.1, iv f19, iv f20, iv f21, iv f22, iv f23] ++ (List.map ew f24.l).flatten)⟩, ⟨b2, 43, ([iv 0, iv 0, iv 0, iv 0, iv 0, iv 0] ++ (List.map ew ((Arr.rep 4 (0 : UInt64))).l).flatten)⟩], []⟩) ?_ ?_
 ·refine i_ h (fun h=>?_) fun h=>?_
  ·refine wn_ 2 h fun h=>?_;refine v_ (an 2 [iv nv1.1, iv nv1.2.1, iv nv1.2.2.1, iv nv1.2.2.2.1, iv nv1.2.2.2.2.1, iv nv1.2.2.2.2.2.1] ((List.map ew nv1.2.2.2.2.2.2.l).flatten) [] sq_ sl_ sl_ (aq (aE (by rfl))) ae.h rfl rfl) ?_;refine vp_ (cd bE.h rfl) ?_;refine aC 0 [iv nv1.1, iv 0, iv 0, iv 0, iv 0, iv 0] ((List.map ew ((Arr.rep 4 (0 : UInt64))).l).flatten) [] ([iv nv1.1, iv 0, iv 0, iv 0, iv 0, iv 0] ++ (List.map ew nv1.2.2.2.2.2.2.l).flatten) ae.h rfl rfl rfl rfl rfl ?_
   exact m_ h
  refine ax (fun σ=>∃ x30, j5 nv1 x30 r ∧ σ=⟨[(1, pw b1), (2, pw b2), (3, pw b3), (8, iv nv1.1), (14, bv x30)], [⟨b3, 43, ([iv nv1.1, iv 0, iv 0, iv 0, iv 0, iv 0] ++ (List.map ew ((Arr.rep 4 (0 : UInt64))).l).flatten)⟩, ⟨b2, 43, ([iv 0, iv 0, iv 0, iv 0, iv 0, iv 0] ++ (List.map ew ((Arr.rep 4 (0 : UInt64))).l).flatten)⟩, ⟨b1, 43, (aa nv1)⟩], []⟩) ?_ ?_
  ·refine i_ h (fun h=>?_) fun h=>?_
   ·exact m_ h
   exact m_ h
  rintro _ ⟨x30,h,rfl⟩;refine i_ h (fun h=>?_) fun h=>?_
  ·refine az (m := 8) (by kernel_rfl) rfl ?_;refine o_ [0,2,1,4] ?_;refine eG [⟨3, 20, iv nv1.2.2.1⟩] 3 ?_;refine bl 5 (by kernel_rfl) rfl (.cons rfl rfl rfl (fun _ => rfl) (fun _ => aK 2 ae.h rfl rfl rfl rfl) .nil) fun D l td hR => ?_;refine cx 0 ae.h rfl rfl rfl rfl rfl rfl rfl ?_;refine ek hR ?_;refine cw (l' := #[true, true, true, true, true, true, false, false]) (by kernel_rfl) (.cons rfl rfl rfl (fun _ => rfl) (fun _ => aK 2 ae.h rfl rfl rfl rfl) .nil) (by kernel_rfl) rfl (by kernel_rfl) (by kernel_rfl) ?_
   simp only [List.nil_append, List.cons_append, List.map_cons, List.map_nil];refine o_ [6] ?_;refine aG (i := 7) (by kernel_rfl) rfl ?_;refine cx 0 ae.h rfl rfl rfl rfl rfl rfl rfl ?_;refine aB (by kernel_rfl) ?_;exact m_ h
  refine i_ h (fun h=>?_) fun h=>?_
  ·refine az (m := 12) (by kernel_rfl) rfl ?_;refine ff 1 #[true, true, true, true, true, true, true, true, true, true, true, false] (fun σ=>σ=⟨[(2, pw b2), (3, pw b3), (30, iv nv1.2.2.2.2.1), (33, .v (.pointer (some ⟨b3, 4, none⟩)))], [⟨b3, 43, ([iv nv1.1, iv nv1.2.1, iv 0, iv nv1.2.2.2.1, iv 0, iv 0] ++ (List.map ew ((Arr.rep 4 (0 : UInt64))).l).flatten)⟩, ⟨b2, 43, ([iv 0, iv 0, iv 0, iv 0, iv 0, iv 0] ++ (List.map ew ((Arr.rep 4 (0 : UInt64))).l).flatten)⟩], []⟩) ?_ (fun key37=>?_)
   ·rintro _ rfl;refine aG (i := 11) (by kernel_rfl) rfl ?_;refine cx 0 ae.h rfl rfl rfl rfl rfl rfl rfl ?_;refine aB (by kernel_rfl) ?_;exact m_ h
   refine o_ [0,2,4,1,6] ?_;refine cv (is := [3, 5, 7]) (by kernel_rfl) (by simp) ?_;intro i hi; simp only [List.mem_cons, List.not_mem_nil, or_false] at hi; rcases hi with rfl | rfl | rfl
   ·refine ⟨_, rfl, ?_⟩;refine wv_ (aK 2 ae.h rfl rfl rfl rfl) ?_;refine eG [⟨5, 30, iv nv1.2.2.2.2.1⟩] 5 ?_;refine bl 7 (by kernel_rfl) rfl (.cons rfl rfl rfl (fun _ => rfl) (fun _ => aK 2 ae.h rfl rfl rfl rfl) .nil) fun D l td hR => ?_;refine cx 0 ae.h rfl rfl rfl rfl rfl rfl rfl ?_;refine ek hR ?_;refine nX 8 (by kernel_rfl) rfl (fun _ => cd bE.h rfl) (fun _ => rfl) rfl (by kernel_rfl) (fun _ _ _ _ h => h) ?_
    refine bl 9 (by kernel_rfl) rfl (.cons rfl rfl rfl (fun _ => rfl) (fun _ => aK 2 ae.h rfl rfl rfl rfl) .nil) fun D l td hR => ?_;refine cx 0 ae.h rfl rfl rfl rfl rfl rfl rfl ?_;refine ek hR ?_;refine cw (l' := #[true, true, true, true, true, true, true, true, true, true, false, false]) (by kernel_rfl) (.cons rfl rfl rfl (fun _ => rfl) (fun _ => aK 2 ae.h rfl rfl rfl rfl) .nil) (by kernel_rfl) rfl (by kernel_rfl) (by kernel_rfl) ?_
    simp only [List.nil_append, List.cons_append, List.map_cons, List.map_nil];refine o_ [10] ?_;exact bm key37 rfl ⟨lk_, sm_⟩ rfl (by kernel_rfl)
   ·refine ⟨_, rfl, ?_⟩;refine wv_ (aK 2 ae.h rfl rfl rfl rfl) ?_;refine eG [⟨3, 28, iv nv1.2.2.2.1⟩] 5 ?_;refine bl 7 (by kernel_rfl) rfl (.cons rfl rfl rfl (fun _ => rfl) (fun _ => aK 2 ae.h rfl rfl rfl rfl) .nil) fun D l td hR => ?_;refine cx 0 ae.h rfl rfl rfl rfl rfl rfl rfl ?_;refine ek hR ?_;refine cw (l' := #[true, true, true, true, true, true, true, true, false, false, false, false]) (by kernel_rfl) (.cons rfl rfl rfl (fun _ => rfl) (fun _ => aK 2 ae.h rfl rfl rfl rfl) .nil) (by kernel_rfl) rfl (by kernel_rfl) (by kernel_rfl) ?_
    simp only [List.nil_append, List.cons_append, List.map_cons, List.map_nil];refine o_ [8] ?_;refine aG (i := 9) (by kernel_rfl) rfl ?_;refine cx 0 ae.h rfl rfl rfl rfl rfl rfl rfl ?_;refine o_ [10] ?_;exact bm key37 rfl ⟨lk_, sm_⟩ rfl (by kernel_rfl)
   ·refine ⟨_, rfl, ?_⟩;refine cx 0 ae.h rfl rfl rfl rfl rfl rfl rfl ?_;refine o_ [3,8] ?_;refine eG [⟨5, 30, iv nv1.2.2.2.2.1⟩] 3 ?_;refine bl 9 (by kernel_rfl) rfl (.cons rfl rfl rfl (fun _ => rfl) (fun _ => aK 2 ae.h rfl rfl rfl rfl) .nil) fun D l td hR => ?_;refine cx 0 ae.h rfl rfl rfl rfl rfl rfl rfl ?_;refine ek hR ?_;refine cw (l' := #[true, true, true, true, true, true, true, true, true, true, false, false]) (by kernel_rfl) (.cons rfl rfl rfl (fun _ => rfl) (fun _ => aK 2 ae.h rfl rfl rfl rfl) .nil) (by kernel_rfl) rfl (by kernel_rfl) (by kernel_rfl) ?_
    simp only [List.nil_append, List.cons_append, List.map_cons, List.map_nil];refine o_ [10] ?_;exact bm key37 rfl ⟨lk_, sm_⟩ rfl (by kernel_rfl)
  refine i_ h (fun h=>?_) fun h=>?_
  ·refine az (m := 8) (by kernel_rfl) rfl ?_;refine o_ [0,2,1,4] ?_;refine eG [⟨3, 39, iv nv1.2.2.2.2.2.1⟩] 3 ?_;refine bl 5 (by kernel_rfl) rfl (.cons rfl rfl rfl (fun _ => rfl) (fun _ => aK 2 ae.h rfl rfl rfl rfl) .nil) fun D l td hR => ?_;refine cx 0 ae.h rfl rfl rfl rfl rfl rfl rfl ?_;refine ek hR ?_;refine cw (l' := #[true, true, true, true, true, true, false, false]) (by kernel_rfl) (.cons rfl rfl rfl (fun _ => rfl) (fun _ => aK 2 ae.h rfl rfl rfl rfl) .nil) (by kernel_rfl) rfl (by kernel_rfl) (by kernel_rfl) ?_
   simp only [List.nil_append, List.cons_append, List.map_cons, List.map_nil];refine o_ [6] ?_;refine aG (i := 7) (by kernel_rfl) rfl ?_;refine cx 0 ae.h rfl rfl rfl rfl rfl rfl rfl ?_;refine aB (by kernel_rfl) ?_;exact m_ h
  refine i_ h (fun h=>?_) fun h=>?_
  ·exact m_ h
  exact m_ h
 rintro _ ⟨f19,f20,f21,f22,f23,f24,h,rfl⟩;refine wn_ 2 h fun h=>?_;refine v_ (an 0 [] ([iv nv1.1, iv f19, iv f20, iv f21, iv f22, iv f23] ++ (List.map ew f24.l).flatten) [] sq_ sl_ sl_ (aq sl_) ae.h rfl rfl) ?_;refine aC 1 [] ([iv 0, iv 0, iv 0, iv 0, iv 0, iv 0] ++ (List.map ew ((Arr.rep 4 (0 : UInt64))).l).flatten) [] ([iv nv1.1, iv f19, iv f20, iv f21, iv f22, iv f23] ++ (List.map ew f24.l).flatten) ae.h rfl rfl rfl rfl rfl ?_
 exact rl_ h hg
def j6 (nv1:Int×Int×Int×Int×Int×Int×T7t) (x29:Bool) (r:(List Int)):Prop:=
 ((x29=true→r=[nv1.2.1])∧(¬ (x29=true)→r=([]:List Int)))
def j8 (nv1:Int×Int×Int×Int×Int×Int×T7t) (x21:Bool) (r:(List Int)):Prop:=
 ((x21=true→r=[nv1.2.1,nv1.2.2.1])∧(¬ (x21=true)→((nv1.1=4→j6 nv1 (decide (nv1.1=4)) r)∧(¬ (nv1.1=4)→j6 nv1 (decide (nv1.1=5)) r))))
def ju (nv1:Int×Int×Int×Int×Int×Int×T7t) (r:(List Int)):Prop:=
 ((nv1.1=2→j8 nv1 (decide (nv1.1=2)) r)∧(¬ (nv1.1=2)→j8 nv1 (decide (nv1.1=3)) r))
set_option maxHeartbeats 4000000 in
theorem k2_ ⦃nv1: Int × Int × Int × Int × Int × Int × T7t⦄ ⦃r: (List Int)⦄ (h: ju nv1 r) : Cn Tryz.prog 32 [.agg (aa nv1)] [] [] (xx 1 3 ei r) := by
 refine al Tryz.func32 rfl rfl (by kernel_rfl) fun g hg=>?_;simp only [Tryz.ntmps32,av];refine wn_ 2 h fun h=>?_;refine cK rfl rfl rfl rfl fun b1 => ?_;refine wn_ 11 h fun h=>?_;refine ax (fun σ=>∃ x21, j8 nv1 x21 r ∧ σ=⟨[(1, pw b1), (4, iv nv1.1), (5, bv x21)], [⟨b1, 43, (aa nv1)⟩], []⟩) ?_ ?_
 ·refine i_ h (fun h=>?_) fun h=>?_
  ·exact m_ h
  exact m_ h
 rintro _ ⟨x21,h,rfl⟩;refine i_ h (fun h=>?_) fun h=>?_
 ·refine wn_ 6 h fun h=>?_;refine aM (f := ei) [nv1.2.1, nv1.2.2.1] ai.h ar.h rfl rfl wr_ rfl rfl rfl rfl fun s12 => ?_;exact r_ h hg
 refine ax (fun σ=>∃ x29, j6 nv1 x29 r ∧ σ=⟨[(1, pw b1), (13, bv x29)], [⟨b1, 43, (aa nv1)⟩], []⟩) ?_ ?_
 ·refine i_ h (fun h=>?_) fun h=>?_
  ·exact m_ h
  exact m_ h
 rintro _ ⟨x29,h,rfl⟩;refine i_ h (fun h=>?_) fun h=>?_
 ·refine wn_ 4 h fun h=>?_;refine aM (f := ei) [nv1.2.1] ai.h ar.h rfl rfl wr_ rfl rfl rfl rfl fun s18 => ?_;exact r_ h hg
 exact r_ h hg
def km (o1:Int) (k2:Int) (r:Bool):Prop:=
 ((k2<0→r=true)∧(¬ (k2<0)→r=(decide (o1≤k2))))
set_option maxHeartbeats 4000000 in
theorem k3_ ⦃o1: Int⦄ ⦃k2: Int⦄ ⦃r: Bool⦄ (h: km o1 k2 r) (bx0: Nat) : Cn Tryz.prog 58 [iv k2, pw bx0] [⟨bx0, 3, [iv o1]⟩] [] fun rr bx tk=>rr=bv r ∧ bx=[⟨bx0, 3, [iv o1]⟩] ∧ tk=[] := by
 refine al Tryz.func58 rfl rfl (by kernel_rfl) fun g hg=>?_;simp only [Tryz.ntmps58,av];refine is_ 6 h (fun h=>?_) fun h=>?_
 ·exact r_ h hg
 exact r_ h hg
def pn (sv2:List Int) (o1:Int) (ag1:(Int)→Prop) (x62:Int) (r:Int):Prop:=
 ((x62<(sv2.length:Int)→0≤(x62:Int)∧∃ y85:Int,sv2[(x62:Int).toNat]? =some y85∧∃ y88:Bool,km o1 y85 y88∧((y88=true→r=x62)∧(¬ (y88=true)→InR (x62+1)∧ag1 (x62+1))))∧(¬ (x62<(sv2.length:Int))→r=(-1)))
def gz (o1:Int) (sv2:List Int) (r:Int):Prop:=
 ba (fun ag1 s=>pn sv2 o1 ag1 s r) 0
set_option maxHeartbeats 4000000 in
theorem k4_ ⦃o1: Int⦄ ⦃sv2: List Int⦄ ⦃r: Int⦄ (h: gz o1 sv2 r) (bx0: Nat) : Cn Tryz.prog 76 [.sl 1 none (List.map ei sv2), .v (.func (.func 58) #[] #[.pointer (some ⟨bx0, 0, none⟩)])] [⟨bx0, 3, [iv o1]⟩] [] fun rr bx tk=>rr=iv r ∧ bx=[⟨bx0, 3, [iv o1]⟩] ∧ tk=[] := by
 refine al Tryz.func76 rfl rfl (by kernel_rfl) fun g hg=>?_;simp only [Tryz.ntmps76,av];refine wn_ 14 h fun h=>?_;obtain ⟨Inv,⟨m0,hI⟩,hS⟩ := lq_ h;refine lp_ hI (fun σ m=>∃ x62, Inv x62 m ∧ σ=⟨[(0, .sl 1 none (List.map ei sv2)), (1, .v (.func (.func 58) #[] #[.pointer (some ⟨bx0, 0, none⟩)])), (7, iv ((sv2.length : Int))), (8, iv x62)], [⟨bx0, 3, [iv o1]⟩], []⟩) ?_
 rintro _ m ⟨x62,hI,rfl⟩;obtain ⟨ag1,hag1,h⟩ := cu hS hI;refine i_ h (fun h=>?_) fun h=>?_
 ·refine x_ h fun y85 h=>?_;refine v_ (cU ae.h rfl rfl rfl) ?_;obtain ⟨y88, h87, h⟩ := h;refine DR (sa := [iv y85]) (Fb := []) (Ft := []) ((k3_ h87 bx0).c) Tryz.func58 (by kernel_rfl) rfl rfl (.cons rfl (.refl _) .nil) rfl sm_ rfl rfl ?_;rintro _ _ _ ⟨rfl, rfl, rfl⟩;simp only [List.nil_append, List.cons_append];refine i_ h (fun h=>?_) fun h=>?_
  ·exact r_ h hg
  exact g_ h hag1
 exact r_ h hg
def hZ (o1:Int) (sv2:List Int) (r:Bool):Prop:=
 ∃ y4:Int,gz o1 sv2 y4∧r=(decide (0≤y4))
set_option maxHeartbeats 4000000 in
theorem k5_ ⦃o1: Int⦄ ⦃sv2: List Int⦄ ⦃r: Bool⦄ (h: hZ o1 sv2 r) (bx0: Nat) : Cn Tryz.prog 57 [.sl 1 none (List.map ei sv2), .v (.func (.func 58) #[] #[.pointer (some ⟨bx0, 0, none⟩)])] [⟨bx0, 3, [iv o1]⟩] [] fun rr bx tk=>rr=bv r ∧ bx=[⟨bx0, 3, [iv o1]⟩] ∧ tk=[] := by
 refine al Tryz.func57 rfl rfl (by kernel_rfl) fun g hg=>?_;simp only [Tryz.ntmps57,av];refine c0_ k4_ h fun y4 h=>?_;exact r_ h hg
def nw (x12:Bool) (r:Bool):Prop:=
 r=x12
def lL (lo1:Int) (hi2:Int) (r:Bool):Prop:=
 nw ((decide (0≤lo1)) && ((decide (lo1≤255)) && ((decide (hi2=(-1))) || ((decide (lo1≤hi2)) && (decide (hi2≤255)))))) r
set_option maxHeartbeats 4000000 in
theorem k6_ ⦃lo1: Int⦄ ⦃hi2: Int⦄ ⦃r: Bool⦄ (h: lL lo1 hi2 r) : Cn Tryz.prog 59 [iv lo1, iv hi2] [] [] (Ret (bv r)) := by
 refine al Tryz.func59 rfl rfl (by kernel_rfl) fun g hg=>?_;simp only [Tryz.ntmps59,av];unfold lL at h;refine wn_ 5 h fun h=>?_;refine ax (fun σ=>∃ x12, nw x12 r ∧ σ=⟨[(4, bv x12)], [], []⟩) ?_ ?_
 ·refine ks_ 7 h (fun h=>?_) fun h=>?_
  ·refine ks_ 11 h (fun h=>?_) fun h=>?_
   ·refine ks_ 14 h (fun h=>?_) fun h=>?_
    ·exact m_ h
    refine ks_ 18 h (fun h=>?_) fun h=>?_
    ·exact m_ h
    exact m_ h
   exact m_ h
  exact m_ h
 rintro _ ⟨x12,h,rfl⟩;exact r_ h hg
def lM (nv1:Int×Int×Int×Int×Int×Int×T7t) (groups3:Int) (x85:Bool) (r:Bool):Prop:=
 ((x85=true→((1≤nv1.2.2.2.2.2.1→r=(decide (nv1.2.2.2.2.2.1≤groups3)))∧(¬ (1≤nv1.2.2.2.2.2.1)→r=false)))∧(¬ (x85=true)→r=true))
def lN (nv1:Int×Int×Int×Int×Int×Int×T7t) (groups3:Int) (x76:Bool) (r:Bool):Prop:=
 ((x76=true→r=false)∧(¬ (x76=true)→lM nv1 groups3 ((decide (nv1.1=5)) || (decide (nv1.1=6))) r))
def ia (nv1:Int×Int×Int×Int×Int×Int×T7t) (atv2:Int) (groups3:Int) (x57:Bool) (r:Bool):Prop:=
 ((x57=true→r=false)∧(¬ (x57=true)→∃ y67:(List Int),ju nv1 y67∧∃ y70:Bool,hZ atv2 y67 y70∧((y70=true→r=false)∧(¬ (y70=true)→((nv1.1=4→∃ y80:Bool,lL nv1.2.2.2.1 nv1.2.2.2.2.1 y80∧lN nv1 groups3 (!y80) r)∧(¬ (nv1.1=4)→lN nv1 groups3 false r))))))
def iX (nv1:Int×Int×Int×Int×Int×Int×T7t) (atv2:Int) (groups3:Int) (r:Bool):Prop:=
 ((nv1.1<0→ia nv1 atv2 groups3 true r)∧(¬ (nv1.1<0)→((8<nv1.1→ia nv1 atv2 groups3 true r)∧(¬ (8<nv1.1)→∃ y63:T4t,kP nv1 y63∧ia nv1 atv2 groups3 (!(decide ((nv1:Int×Int×Int×Int×Int×Int×T7t)=y63))) r))))
set_option maxHeartbeats 4000000 in
theorem k7_ ⦃nv1: Int × Int × Int × Int × Int × Int × T7t⦄ ⦃atv2: Int⦄ ⦃groups3: Int⦄ ⦃r: Bool⦄ (h: iX nv1 atv2 groups3 r) : Cn Tryz.prog 31 [.agg (aa nv1), iv atv2, iv groups3] [] [] (Ret (bv r)) := by
 refine al Tryz.func31 rfl rfl (by kernel_rfl) fun g hg=>?_;simp only [Tryz.ntmps31,av];refine wn_ 2 h fun h=>?_;refine cK rfl rfl rfl rfl fun b3 => ?_;refine cK rfl rfl rfl rfl fun b4 => ?_;refine wn_ 5 h fun h=>?_;refine ax (fun σ=>∃ x57, ia nv1 atv2 groups3 x57 r ∧ σ=⟨[(2, iv groups3), (3, pw b3), (4, pw b4), (7, bv x57)], [⟨b4, 3, [iv atv2]⟩, ⟨b3, 43, (aa nv1)⟩], []⟩) ?_ ?_
 ·refine az (m := 15) (by kernel_rfl) rfl ?_;refine o_ [0,1,2,3] ?_;refine ip_ 11 h (fun h=>?_) fun h=>?_
  ·refine o_ [4,5,6,7,8,9,10,11,12,13,14] ?_;refine aB (by kernel_rfl) ?_;exact m_ h
  refine o_ [4,5,6,7,8] ?_;refine ip_ 16 h (fun h=>?_) fun h=>?_
  ·refine o_ [9,10,11,12,13,14] ?_;refine aB (by kernel_rfl) ?_;exact m_ h
  obtain ⟨y63, h62, h⟩ := h;refine en 10 [9] rfl (an 1 [] (aa nv1) [] sq_ sl_ sl_ (aq sl_) ae.h rfl rfl) rfl rfl (by kernel_rfl) (by kernel_rfl) (by kernel_rfl) (fun _ _ _ _ h => h) ?_
  refine eG [⟨9, 17, .agg (aa nv1)⟩] 4 ?_;refine bl 11 (by kernel_rfl) rfl (.cons rfl rfl rfl (fun _ => rfl) (fun _ => an 1 [] (aa nv1) [] sq_ sl_ sl_ (aq sl_) ae.h rfl rfl) .nil) fun D l td hR => ?_
  refine cM k1_ h62 ?_;refine fg hR ?_;refine cw (l' := #[true, true, true, true, true, true, true, true, true, true, true, true, false, false, false]) (by kernel_rfl) (.cons rfl rfl rfl (fun _ => rfl) (fun _ => an 1 [] (aa nv1) [] sq_ sl_ sl_ (aq sl_) ae.h rfl rfl) .nil) (by kernel_rfl) rfl (by kernel_rfl) (by kernel_rfl) ?_
  simp only [List.nil_append, List.cons_append, List.map_cons, List.map_nil];refine pl_ 12 rfl (kl (f := aa) (a := nv1) (b := y63) uU (by decide) (by kernel_rfl) ev_ ev_) ?_;refine o_ [13,14] ?_;refine aB (by kernel_rfl) ?_;exact m_ h
 rintro _ ⟨x57,h,rfl⟩;refine i_ h (fun h=>?_) fun h=>?_
 ·exact r_ h hg
 refine wn_ 2 h fun h=>?_;refine v_ (an 1 [] (aa nv1) [] sq_ sl_ sl_ (aq sl_) ae.h rfl rfl) ?_;refine z1_ k2_ h fun y67 i68 h=>?_;refine vp_ (uP rfl) ?_;refine c0_ k5_ h fun y70 h=>?_
 refine i_ h (fun h=>?_) fun h=>?_
 ·exact r_ h hg
 refine ax (fun σ=>∃ x76, lN nv1 groups3 x76 r ∧ σ=⟨[(2, iv groups3), (3, pw b3), (27, bv x76)], [⟨b3, 43, (aa nv1)⟩], []⟩) ?_ ?_
 ·refine is_ 31 h (fun h=>?_) fun h=>?_
  ·refine z0_ k6_ h fun y80 h=>?_;exact m_ h
  exact m_ h
 rintro _ ⟨x76,h,rfl⟩;refine i_ h (fun h=>?_) fun h=>?_
 ·exact r_ h hg
 refine ax (fun σ=>∃ x85, lM nv1 groups3 x85 r ∧ σ=⟨[(2, iv groups3), (3, pw b3), (39, bv x85)], [⟨b3, 43, (aa nv1)⟩], []⟩) ?_ ?_
 ·refine ks_ 43 h (fun h=>?_) fun h=>?_
  ·exact m_ h
  exact m_ h
 rintro _ ⟨x85,h,rfl⟩;refine i_ h (fun h=>?_) fun h=>?_
 ·refine is_ 51 h (fun h=>?_) fun h=>?_
  ·exact r_ h hg
  exact r_ h hg
 exact r_ h hg
def o8 (y1213:(List Int)) (y1162:Int×Int×Int×Int×Int×Int×T7t) (f856:Arr 10 (Int)) (x854:Int) (ag2:(Int×(List Int)×(Arr 10 (Int)))→Prop) (ag3:(Int×(List Int))→Prop) (x1228:Int) (l1229:List Int) (_r:Bool):Prop:=
 ((x1228<(y1213.length:Int)→0≤(x1228:Int)∧∃ y1245:Int,y1213[(x1228:Int).toNat]? =some y1245∧0≤(y1245:Int)∧∃ y1247:Int,l1229[(y1245:Int).toNat]? =some y1247∧InR (y1247+1)∧0≤(y1245:Int)∧∃ y1250:Int,l1229[(y1245:Int).toNat]? =some y1250∧InR (x1228+1)∧ag3 ((x1228+1),(l1229.set (y1245:Int).toNat (y1247+1))))∧(¬ (x1228<(y1213.length:Int))→((y1162.1=5→(0≤(y1162.2.2.2.2.2.1:Int)∧(y1162.2.2.2.2.2.1:Int)<10)∧∃ y1257:Int,f856.l[(y1162.2.2.2.2.2.1:Int).toNat]? =some y1257∧InR (y1257+1)∧(0≤(y1162.2.2.2.2.2.1:Int)∧(y1162.2.2.2.2.2.1:Int)<10)∧∃ y1260:Int,f856.l[(y1162.2.2.2.2.2.1:Int).toNat]? =some y1260∧InR (x854+1)∧ag2 ((x854+1),l1229,(Arr.set f856 (y1162.2.2.2.2.2.1:Int).toNat ((y1257+1)))))∧(¬ (y1162.1=5)→InR (x854+1)∧ag2 ((x854+1),l1229,f856)))))
def o9 (x1:(List T4t)×Int) (f856:Arr 10 (Int)) (ag5:(Int)→Prop) (x1398:Int) (r:Bool):Prop:=
 ((x1398<((((x1.2+1):Int).toNat - (1:Int).toNat:Nat):Int)→(0≤(x1398:Int)∧(x1398:Int)<((((x1.2+1):Int).toNat - (1:Int).toNat:Nat):Int))∧∃ y1418:Int,f856.l[((((1:Int).toNat+(x1398:Int).toNat:Nat):Int):Int).toNat]? =some y1418∧((¬ (y1418=1)→r=false)∧(¬ (¬ (y1418=1))→InR (x1398+1)∧ag5 (x1398+1))))∧(¬ (x1398<((((x1.2+1):Int).toNat - (1:Int).toNat:Nat):Int))→r=true))
def pa (l855:List Int) (x1:(List T4t)×Int) (f856:Arr 10 (Int)) (ag4:(Int)→Prop) (x1318:Int) (r:Bool):Prop:=
 ((x1318<(((l855.take (((x1.1.length:Int) - 1):Int).toNat).length:Nat):Int)→0≤(x1318:Int)∧∃ y1338:Int,((l855.take (((x1.1.length:Int) - 1):Int).toNat))[(x1318:Int).toNat]? =some y1338∧((¬ (y1338=1)→r=false)∧(¬ (¬ (y1338=1))→InR (x1318+1)∧ag4 (x1318+1))))∧(¬ (x1318<(((l855.take (((x1.1.length:Int) - 1):Int).toNat).length:Nat):Int))→InR (x1.2+1)∧(0:Int)≤1∧(0:Int)≤(x1.2+1)∧((1:Int).toNat≤((x1.2+1):Int).toNat∧((x1.2+1):Int).toNat≤10∧(1:Int).toNat<10)∧ba (fun ag5 s=>o9 x1 f856 ag5 s r) 0))
def pb (x1:(List T4t)×Int) (ag2:(Int×(List Int)×(Arr 10 (Int)))→Prop) (x854:Int) (l855:List Int) (f856:Arr 10 (Int)) (r:Bool):Prop:=
 ((x854<(x1.1.length:Int)→0≤(x854:Int)∧∃ y1162:Int×Int×Int×Int×Int×Int×T7t,x1.1[(x854:Int).toNat]? =some y1162∧∃ y1168:Bool,iX y1162 x854 x1.2 y1168∧((¬ (y1168=true)→r=false)∧(¬ (¬ (y1168=true))→∃ y1213:(List Int),ju y1162 y1213∧ba (fun ag3 s=>o8 y1213 y1162 f856 x854 ag2 ag3 s.1 s.2 r) (0,l855))))∧(¬ (x854<(x1.1.length:Int))→InR ((x1.1.length:Int) - 1)∧(0≤(((x1.1.length:Int) - 1):Int)∧(((x1.1.length:Int) - 1):Int)≤((l855.length:Nat):Int))∧ba (fun ag4 s=>pa l855 x1 f856 ag4 s r) 0))
def mF (x1:(List T4t)×Int) (x26:Bool) (r:Bool):Prop:=
 ((x26=true→r=false)∧(¬ (x26=true)→sk ((x1.1.length:Int)) ((x1.1.length:Int)) 8∧ba (fun ag2 s=>pb x1 ag2 s.1 s.2.1 s.2.2 r) (0,(List.replicate ((x1.1.length:Int):Int).toNat 0),(Arr.rep 10 0))))
def fk (x1:(List T4t)×Int) (r:Bool):Prop:=
 mF x1 ((decide ((x1.1.length:Int)<1)) || ((decide (1000<(x1.1.length:Int))) || ((decide (x1.2<0)) || (decide (9<x1.2))))) r
set_option maxRecDepth 100000 in
set_option maxHeartbeats 4000000 in
theorem k8_ ⦃x1: (List T4t) × Int⦄ ⦃r: Bool⦄ (h: fk x1 r) : Cn Tryz.prog 19 [.agg [.sl 10 none (List.map aa x1.1), iv x1.2]] [] [] (Ret (bv r)) := by
 refine al Tryz.func19 rfl rfl (by kernel_rfl) fun g hg=>?_;simp only [Tryz.ntmps19,av];unfold fk at h;refine wn_ 2 h fun h=>?_;refine cK rfl rfl rfl rfl fun b1 => ?_;refine wn_ 12 h fun h=>?_;refine ax (fun σ=>∃ x26, mF x1 x26 r ∧ σ=⟨[(1, pw b1), (3, iv ((x1.1.length : Int))), (32, bv x26)], [⟨b1, 26, [.sl 10 none (List.map aa x1.1), iv x1.2]⟩], []⟩) ?_ ?_
 ·refine ks_ 19 h (fun h=>?_) fun h=>?_
  ·exact m_ h
  refine ks_ 23 h (fun h=>?_) fun h=>?_
  ·exact m_ h
  refine ks_ 28 h (fun h=>?_) fun h=>?_
  ·exact m_ h
  exact m_ h
 rintro _ ⟨x26,h,rfl⟩;refine i_ h (fun h=>?_) fun h=>?_
 ·exact r_ h hg
 refine wn_ 5 h fun h=>?_;obtain ⟨h35, h⟩ := h;refine CN (f := ei) 0 h35 ai.h ar.h (.refl _) rfl rfl rfl rfl fun i36 => ?_;refine wn_ 5 h fun h=>?_;refine aN ar.h rfl rfl fun b5 => ?_;refine bA 0 ((List.map ei ((Arr.rep 10 0)).l).flatten) rfl rfl ?_;refine wn_ 12 h fun h=>?_;obtain ⟨Inv,⟨m0,hI⟩,hS⟩ := lq_ h;refine lp_ hI (fun σ m=>∃ x854 l855 f856, Inv (x854, l855, f856) m ∧ σ=⟨[(1, pw b1), (3, iv ((x1.1.length : Int))), (4, .rb i36 l855.length), (5, pw b5), (36, .sl 10 none (List.map aa x1.1)), (37, iv ((x1.1.length : Int))), (38, iv x854)], [⟨b5, 79, ((List.map ei f856.l).flatten)⟩, rbx i36 3 1 (List.map ei l855), ⟨b1, 26, [.sl 10 none (List.map aa x1.1), iv x1.2]⟩], []⟩) ?_
 rintro _ m ⟨x854,l855,f856,hI,rfl⟩;obtain ⟨ag2,hag2,h⟩ := cu hS hI;refine i_ h (fun h=>?_) fun h=>?_
 ·refine x_ h fun y1162 h=>?_;refine v_ (jD (aa y1162) [] sq_ sl_ (aq sl_) ae.h rfl) ?_;refine aN ar.h rfl rfl fun b7 => ?_;refine bA 0 ([iv 0, iv 0, iv 0, iv 0, iv 0, iv 0] ++ (List.map ew ((Arr.rep 4 (0 : UInt64))).l).flatten) rfl rfl ?_
  refine as_ ?_;refine aC 0 [] ([iv 0, iv 0, iv 0, iv 0, iv 0, iv 0] ++ (List.map ew ((Arr.rep 4 (0 : UInt64))).l).flatten) [] (aa y1162) ae.h rfl rfl rfl rfl rfl ?_
  refine wn_ 5 h fun h=>?_;refine v_ (an 0 [] (aa y1162) [] sq_ sl_ sl_ (aq sl_) ae.h rfl rfl) ?_;refine z0_ k7_ h fun y1168 h=>?_;refine i_ h (fun h=>?_) fun h=>?_
  ·refine wn_ 12 h fun h=>?_;replace h := h.symm;subst h;exact rY (bx' := []) (tk' := []) hg rfl rfl (.refl _) sm_ ⟨rfl, rfl, rfl⟩
  refine wn_ 5 h fun h=>?_;refine v_ (an 0 [] (aa y1162) [] sq_ sl_ sl_ (aq sl_) ae.h rfl rfl) ?_;refine z1_ k2_ h fun y1213 i1214 h=>?_;refine wn_ 5 h fun h=>?_;obtain ⟨Inv,⟨m0,hI⟩,hS⟩ := lq_ h
  refine lp_ hI (fun σ m=>∃ x1228 l1229, Inv (x1228, l1229) m ∧ σ=⟨[(1, pw b1), (3, iv ((x1.1.length : Int))), (4, .rb i36 l1229.length), (5, pw b5), (7, pw b7), (36, .sl 10 none (List.map aa x1.1)), (37, iv ((x1.1.length : Int))), (38, iv x854), (50, .sl 1 (some i1214) (List.map ei y1213)), (51, iv ((y1213.length : Int))), (52, iv x1228)], [⟨b7, 43, (aa y1162)⟩, ⟨b5, 79, ((List.map ei f856.l).flatten)⟩, rbx i36 3 1 (List.map ei l1229), ⟨b1, 26, [.sl 10 none (List.map aa x1.1), iv x1.2]⟩], [⟨i1214, 3, 1, y1213.length⟩]⟩) ?_
  rintro _ m ⟨x1228,l1229,hI,rfl⟩;obtain ⟨ag3,hag3,h⟩ := cu hS hI;refine i_ h (fun h=>?_) fun h=>?_
  ·refine x_ h fun y1245 h=>?_;refine wn_ 7 h fun h=>?_;obtain ⟨h1248a, h⟩ := h;obtain ⟨y1247, h1248b, h⟩ := h;refine vp_ (lk rfl h1248a h1248b ai.h ae.h rfl rfl) ?_;refine v_ (tJ (f := ei) (k := 1) (off := 0) (i := (y1245 : Int).toNat) 2 h1248b rfl (by decide) rfl ae.h rfl rfl) ?_;refine wn_ 1 h fun h=>?_;obtain ⟨h1251a, h⟩ := h;obtain ⟨y1250, h1251b, h⟩ := h;refine vp_ (lk rfl h1251a h1251b ai.h ae.h rfl rfl) ?_
   refine AQ (f := ei) (k := 1) (off := 0) (i := (y1245 : Int).toNat) 2 (y1247 + 1) h1251b rfl (by decide) ae.h rfl rfl rfl rfl sl_ (.refl _) rfl ?_;refine wn_ 7 h fun h=>?_;obtain ⟨m', hm, hI⟩ := hag3 _ h;exact jW ⟨(x1228 + 1), (l1229.set (y1245 : Int).toNat (y1247 + 1)), hI, rfl⟩ hm ⟨(.cons rfl (.refl _) (.cons rfl (.refl _) (.cons rfl (.eq (by first | rfl | simp)) lk_))), by exact sm_⟩
  refine i_ h (fun h=>?_) fun h=>?_
  ·refine wn_ 3 h fun h=>?_;obtain ⟨h1256, h⟩ := h;obtain ⟨y1257, h1256b, h⟩ := h;refine vp_ (aA h1256 ai.h ae.h rfl rfl) ?_;refine v_ (dH (f := ei) (a := f856) (k := 1) (off := 0) (i := (y1162.2.2.2.2.2.1 : Int).toNat) 1 [] [] h1256b sq_ so_ (by decide) rfl ae.h rfl rfl) ?_;refine wn_ 1 h fun h=>?_;obtain ⟨h1259, h⟩ := h;obtain ⟨y1260, h1259b, h⟩ := h;refine vp_ (aA h1259 ai.h ae.h rfl rfl) ?_
   refine dO (f := ei) (a := f856) (k := 1) (off := 0) (i := (y1162.2.2.2.2.2.1 : Int).toNat) 1 [] [] (y1257 + 1) h1259b sq_ so_ (by decide) ae.h rfl rfl rfl rfl sl_ rfl rfl ?_;refine bA 1 ((List.map ei ((Arr.set f856 (y1162.2.2.2.2.2.1 : Int).toNat ((y1257 + 1)))).l).flatten) rfl sq_ ?_;refine wn_ 7 h fun h=>?_;obtain ⟨m', hm, hI⟩ := hag2 _ h;exact jW ⟨(x854 + 1), l1229, (Arr.set f856 (y1162.2.2.2.2.2.1 : Int).toNat ((y1257 + 1))), hI, rfl⟩ hm ⟨(.cons rfl (.refl _) (.cons rfl (.refl _) (.cons rfl (.eq (by first | rfl | simp)) lk_))), by exact sm_⟩
  refine wn_ 7 h fun h=>?_;obtain ⟨m', hm, hI⟩ := hag2 _ h;exact jW ⟨(x854 + 1), l1229, f856, hI, rfl⟩ hm ⟨(.cons rfl (.refl _) (.cons rfl (.refl _) (.cons rfl (.eq (by first | rfl | simp)) lk_))), by exact sm_⟩
 refine wn_ 11 h fun h=>?_;obtain ⟨h1304, h⟩ := h;refine vp_ (vb h1304 ai.h ae.h rfl rfl) ?_;refine CO (f := ei) (l := l855) 1 73 76 (((x1.1.length : Int) - 1) : Int).toNat rfl (by have := h1304; first | omega | (simp at this ⊢; done) | (simp at this ⊢; omega)) rfl rfl rfl ?_;refine wn_ 5 h fun h=>?_;obtain ⟨Inv,⟨m0,hI⟩,hS⟩ := lq_ h;refine lp_ hI (fun σ m=>∃ x1318, Inv x1318 m ∧ σ=⟨[(1, pw b1), (5, pw b5), (76, .rb i36 ((l855.take (((x1.1.length : Int) - 1) : Int).toNat).length)), (77, iv ((((l855.take (((x1.1.length : Int) - 1) : Int).toNat).length : Nat) : Int))), (78, iv x1318)], [⟨b5, 79, ((List.map ei f856.l).flatten)⟩, rbx i36 3 1 (List.map ei ((l855.take (((x1.1.length : Int) - 1) : Int).toNat))), ⟨b1, 26, [.sl 10 none (List.map aa x1.1), iv x1.2]⟩], []⟩) ?_
 rintro _ m ⟨x1318,hI,rfl⟩;obtain ⟨ag4,hag4,h⟩ := cu hS hI;refine i_ h (fun h=>?_) fun h=>?_
 ·refine wn_ 6 h fun h=>?_;obtain ⟨h1339a, h⟩ := h;obtain ⟨y1338, h1339b, h⟩ := h;refine vp_ (lk (by simp) h1339a h1339b ai.h ae.h rfl rfl) ?_;refine v_ (tJ (f := ei) (k := 1) (off := 0) (i := (x1318 : Int).toNat) 1 h1339b rfl (by decide) rfl ae.h rfl rfl) ?_;refine i_ h (fun h=>?_) fun h=>?_
  ·refine wn_ 11 h fun h=>?_;replace h := h.symm;subst h;exact rY (bx' := []) (tk' := []) hg rfl rfl (.refl _) sm_ ⟨rfl, rfl, rfl⟩
  refine wn_ 7 h fun h=>?_;obtain ⟨m', hm, hI⟩ := hag4 _ h;exact jW ⟨(x1318 + 1), hI, rfl⟩ hm ⟨(.cons rfl (.refl _) (.cons rfl (.refl _) (.cons rfl (.eq (by first | rfl | simp)) lk_))), by exact sm_⟩
 refine wn_ 11 h fun h=>?_;obtain ⟨h1384a, h⟩ := h;obtain ⟨h1384b, h⟩ := h;obtain ⟨h1384, h⟩ := h;refine vp_ (wb h1384 ai.h ae.h rfl (Bd.int_ h1384a rfl) (Bd.int_ h1384b rfl)) ?_;refine vp_ (AR ai.h rfl) ?_;refine wn_ 4 h fun h=>?_;obtain ⟨Inv,⟨m0,hI⟩,hS⟩ := lq_ h;refine lp_ hI (fun σ m=>∃ x1398, Inv x1398 m ∧ σ=⟨[(88, .v (.slice (some ⟨b5, 0 + (1 : Int).toNat * 1, none⟩) (((x1.2 + 1) : Int).toNat - (1 : Int).toNat) (10 - (1 : Int).toNat))), (89, iv (((((x1.2 + 1) : Int).toNat - (1 : Int).toNat : Nat) : Int))), (90, iv x1398)], [⟨b5, 79, ((List.map ei f856.l).flatten)⟩], []⟩) ?_
 rintro _ m ⟨x1398,hI,rfl⟩;obtain ⟨ag5,hag5,h⟩ := cu hS hI;refine i_ h (fun h=>?_) fun h=>?_
 ·refine wn_ 6 h fun h=>?_;obtain ⟨h1419, h⟩ := h;obtain ⟨y1418, h1419b, h⟩ := h;refine vp_ (te h1419 ai.h ae.h rfl rfl) ?_;refine v_ (dH (f := ei) (a := f856) (k := 1) (off := 0) (i := ((((1 : Int).toNat + (x1398 : Int).toNat : Nat) : Int) : Int).toNat) 0 [] [] h1419b sq_ so_ (by decide) rfl ae.h rfl rfl) ?_;refine i_ h (fun h=>?_) fun h=>?_
  ·exact r_ h hg
  exact g_ h hag5
 exact r_ h hg
def fW (sv1:Arr 4 (UInt64)) (c2:UInt8) (r:Bool):Prop:=
 (64:Int)≠0∧∃ c4:UInt8,(c4.toNat:Int)=IntKind.u8.wrap (((c2.toNat:Int)).tdiv 64)∧(0≤((c4.toNat:Int):Int)∧((c4.toNat:Int):Int)<4)∧∃ y6:UInt64,sv1.l[((c4.toNat:Int):Int).toNat]? =some y6∧(64:Int)≠0∧∃ c8:UInt8,(c8.toNat:Int)=(((c2.toNat:Int)).tmod 64)∧(0:Int)≤(c8.toNat:Int)∧∃ c10:UInt64,(c10.toNat:Int)=((y6.toNat:Int):Int).fdiv (2 ^ (min ((c8.toNat:Int):Int).toNat IntKind.u64.bits))∧∃ c12:UInt64,(c12.toNat:Int)=IntKind.u64.wrap (BitVec.ofInt IntKind.u64.bits (c10.toNat:Int) &&& BitVec.ofInt IntKind.u64.bits (1)).toNat∧r=(decide ((c12.toNat:Int)=1))
set_option maxHeartbeats 4000000 in
theorem k9_ ⦃sv1: Arr 4 (UInt64)⦄ ⦃c2: UInt8⦄ ⦃r: Bool⦄ (h: fW sv1 c2 r) : Cn Tryz.prog 77 [.agg ((List.map ew sv1.l).flatten), uv c2] [] [] (Ret (bv r)) := by
 refine al Tryz.func77 rfl rfl (by kernel_rfl) fun g hg=>?_;simp only [Tryz.ntmps77,av];refine wn_ 2 h fun h=>?_;refine cK rfl rfl rfl rfl fun b2 => ?_;refine wn_ 6 h fun h=>?_;obtain ⟨h3, h⟩ := h;obtain ⟨c4, h3r, h⟩ := h;refine vp_ (kz h3 h3r rfl rfl rfl) ?_;obtain ⟨h5, h⟩ := h;obtain ⟨y6, h5b, h⟩ := h;refine vp_ (aA h5 ai.h ae.h rfl rfl) ?_;refine v_ (dH (f := ew) (a := sv1) (k := 1) (off := 0) (i := ((c4.toNat : Int) : Int).toNat) 0 [] [] h5b sq_ so_ (by decide) rfl ae.h rfl rfl) ?_
 refine mv_ ?_;obtain ⟨h7, h⟩ := h;obtain ⟨c8, h7r, h⟩ := h;refine vp_ (s7 h7 h7r rfl rfl rfl) ?_;obtain ⟨h9, h⟩ := h;obtain ⟨c10, h9r, h⟩ := h;refine vp_ (lY h9 h9r rfl rfl) ?_;obtain ⟨c12, h11, h⟩ := h;refine vp_ (fe h11 rfl rfl rfl) ?_;exact r_ h hg
def nZ (sv1:Arr 4 (UInt64)) (ag1:((List UInt8)×Int)→Prop) (out97:List UInt8) (x99:Int) (r:(List UInt8)):Prop:=
 ((x99<256→∃ c136:UInt8,(c136.toNat:Int)=IntKind.u8.wrap x99∧∃ y138:Bool,fW sv1 c136 y138∧((y138=true→∃ c141:UInt8,(c141.toNat:Int)=IntKind.u8.wrap x99∧ef (out97.length+([c141]).length) 1∧InR (x99+1)∧ag1 ((out97++[c141]),(x99+1)))∧(¬ (y138=true)→InR (x99+1)∧ag1 (out97,(x99+1)))))∧(¬ (x99<256)→r=out97))
def ka (sv1:Arr 4 (UInt64)) (r:(List UInt8)):Prop:=
 ba (fun ag1 s=>nZ sv1 ag1 s.1 s.2 r) (([]:List UInt8),0)
set_option maxHeartbeats 4000000 in
theorem DT ⦃sv1: Arr 4 (UInt64)⦄ ⦃r: (List UInt8)⦄ (h: ka sv1 r) : Cn Tryz.prog 60 [.agg ((List.map ew sv1.l).flatten)] [] [] (xx 1 5 eb r) := by
 refine al Tryz.func60 rfl rfl (by kernel_rfl) fun g hg=>?_;simp only [Tryz.ntmps60,av];refine wn_ 2 h fun h=>?_;refine cK rfl rfl rfl rfl fun b1 => ?_;refine wn_ 15 h fun h=>?_;obtain ⟨Inv,⟨m0,hI⟩,hS⟩ := lq_ h;refine lp_ hI (fun σ m=>∃ out97 x99 i98, Inv (out97, x99) m ∧ σ=⟨[(1, pw b1), (3, .sl 1 (some i98) (List.map eb out97)), (5, iv x99)], [⟨b1, 41, ((List.map ew sv1.l).flatten)⟩], [⟨i98, 5, 1, out97.length⟩]⟩) ?_
 rintro _ m ⟨out97,x99,i98,hI,rfl⟩;obtain ⟨ag1,hag1,h⟩ := cu hS hI;refine i_ h (fun h=>?_) fun h=>?_
 ·refine wn_ 12 h fun h=>?_;refine v_ (an 0 [] ((List.map ew sv1.l).flatten) [] sq_ sl_ sl_ (aq (aE (by rfl))) ae.h rfl rfl) ?_;refine mv_ ?_;obtain ⟨c136, h135, h⟩ := h;refine vp_ (eU h135 ai.h ai.h rfl) ?_;refine z0_ k9_ h fun y138 h=>?_;refine i_ h (fun h=>?_) fun h=>?_
  ·refine wn_ 3 h fun h=>?_;obtain ⟨c141, h140, h⟩ := h;refine vp_ (eU h140 ai.h ai.h rfl) ?_;refine aM (f := eb) [c141] ai.h ar.h rfl rfl wr_ rfl rfl rfl rfl fun s15 => ?_;obtain ⟨h142, h⟩ := h;refine dv (l := out97) (l2 := [c141]) 1 h142 ai.h ar.h rfl rfl rfl (.refl _) rfl rfl rfl fun i143 => ?_;exact g_ h hag1
  exact g_ h hag1
 exact r_ h hg
def f5 (sv1:ByteArray) (c2:UInt8) (r:Int):Prop:=
 r=(uH sv1.data.toList c2)
set_option maxHeartbeats 4000000 in
theorem FJ ⦃sv1: ByteArray⦄ ⦃c2: UInt8⦄ ⦃r: Int⦄ (h: f5 sv1 c2 r) : Cn Tryz.prog 98 [.v (.string sv1), uv c2] [] [] (Ret (iv r)) := by
 refine al Tryz.func98 rfl rfl (by kernel_rfl) fun g hg=>?_;simp only [Tryz.ntmps98,av];refine wn_ 9 h fun h=>?_;refine vp_ (CF Tryz.func118 (by kernel_rfl) (by kernel_rfl) (by kernel_rfl) (by kernel_rfl) rfl rfl) ?_;exact r_ h hg
def lv (sv1:ByteArray) (c2:UInt8) (r:Int):Prop:=
 ∃ y4:Int,f5 sv1 c2 y4∧r=y4
set_option maxHeartbeats 4000000 in
theorem FK ⦃sv1: ByteArray⦄ ⦃c2: UInt8⦄ ⦃r: Int⦄ (h: lv sv1 c2 r) : Cn Tryz.prog 78 [.v (.string sv1), uv c2] [] [] (Ret (iv r)) := by
 refine al Tryz.func78 rfl rfl (by kernel_rfl) fun g hg=>?_;simp only [Tryz.ntmps78,av];refine z0_ FJ h fun y4 h=>?_;exact r_ h hg
def eo (c2:UInt8) (special5:ByteArray) (r:ByteArray):Prop:=
 (((c2.toNat:Int)=10→r=(⟨#[92,110]⟩:ByteArray))∧(¬ ((c2.toNat:Int)=10)→∃ y19:Int,lv special5 c2 y19∧((0≤y19→InR ((((⟨#[92]⟩:ByteArray)).size:Int)+(((⟨([c2]).toArray⟩:ByteArray)).size:Int))∧r=(((⟨#[92]⟩:ByteArray))++((⟨([c2]).toArray⟩:ByteArray))))∧(¬ (0≤y19)→r=(⟨([c2]).toArray⟩:ByteArray)))))
def gk (w1:Bool) (c2:UInt8) (r:ByteArray):Prop:=
 ((w1=true→InR ((((⟨#[46,91,92,42,94,36]⟩:ByteArray)).size:Int)+(((⟨#[40,41,124,43,63,123]⟩:ByteArray)).size:Int))∧eo c2 (((⟨#[46,91,92,42,94,36]⟩:ByteArray))++((⟨#[40,41,124,43,63,123]⟩:ByteArray))) r)∧(¬ (w1=true)→eo c2 (⟨#[46,91,92,42,94,36]⟩:ByteArray) r))
set_option maxHeartbeats 4000000 in
theorem FM ⦃w1: Bool⦄ ⦃c2: UInt8⦄ ⦃r: ByteArray⦄ (h: gk w1 c2 r) : Cn Tryz.prog 61 [.agg [bv w1], uv c2] [] [] (Ret (.v (.string r))) := by
 refine al Tryz.func61 rfl rfl (by kernel_rfl) fun g hg=>?_;simp only [Tryz.ntmps61,av];refine wn_ 2 h fun h=>?_;refine cK rfl rfl rfl rfl fun b2 => ?_;refine wn_ 8 h fun h=>?_;refine ax (fun σ=>∃ special5, eo c2 special5 r ∧ σ=⟨[(1, uv c2), (5, .v (.string special5))], [], []⟩) ?_ ?_
 ·refine i_ h (fun h=>?_) fun h=>?_
  ·refine wn_ 2 h fun h=>?_;obtain ⟨h7, h⟩ := h;refine vp_ (jO h7 rfl rfl) ?_;exact m_ h
  exact m_ h
 rintro _ ⟨special5,h,rfl⟩;refine i_ h (fun h=>?_) fun h=>?_
 ·exact r_ h hg
 refine z0_ FK h fun y19 h=>?_;refine i_ h (fun h=>?_) fun h=>?_
 ·refine wn_ 3 h fun h=>?_;refine aM (f := eb) [c2] ai.h ar.h rfl rfl wr_ rfl rfl rfl rfl fun s19 => ?_;refine v_ (oy (bs := [c2]) ai.h ai.h ai.h rfl rfl rfl (fun _ h => by injection h with h; exact h.symm)) ?_;obtain ⟨h23, h⟩ := h;refine vp_ (jO h23 rfl rfl) ?_;exact r_ h hg
 refine wn_ 6 h fun h=>?_;refine aM (f := eb) [c2] ai.h ar.h rfl rfl wr_ rfl rfl rfl rfl fun s23 => ?_;refine v_ (oy (bs := [c2]) ai.h ai.h ai.h rfl rfl rfl (fun _ h => by injection h with h; exact h.symm)) ?_;exact r_ h hg
def eI (x1:UInt64) (r:Int):Prop:=
 (0:Int)≤1∧∃ c3:UInt64,(c3.toNat:Int)=((x1.toNat:Int):Int).fdiv (2 ^ (min (1:Int).toNat IntKind.u64.bits))∧∃ c5:UInt64,(c5.toNat:Int)=IntKind.u64.wrap (BitVec.ofInt IntKind.u64.bits (c3.toNat:Int) &&& BitVec.ofInt IntKind.u64.bits (6148914691236517205)).toNat∧∃ c7:UInt64,(c7.toNat:Int)=IntKind.u64.wrap (BitVec.ofInt IntKind.u64.bits (x1.toNat:Int) &&& BitVec.ofInt IntKind.u64.bits (6148914691236517205)).toNat∧∃ c9:UInt64,(c9.toNat:Int)=IntKind.u64.wrap ((c5.toNat:Int)+(c7.toNat:Int))∧(0:Int)≤2∧∃ c11:UInt64,(c11.toNat:Int)=((c9.toNat:Int):Int).fdiv (2 ^ (min (2:Int).toNat IntKind.u64.bits))∧∃ c13:UInt64,(c13.toNat:Int)=IntKind.u64.wrap (BitVec.ofInt IntKind.u64.bits (c11.toNat:Int) &&& BitVec.ofInt IntKind.u64.bits (3689348814741910323)).toNat∧∃ c15:UInt64,(c15.toNat:Int)=IntKind.u64.wrap (BitVec.ofInt IntKind.u64.bits (c9.toNat:Int) &&& BitVec.ofInt IntKind.u64.bits (3689348814741910323)).toNat∧∃ c17:UInt64,(c17.toNat:Int)=IntKind.u64.wrap ((c13.toNat:Int)+(c15.toNat:Int))∧(0:Int)≤4∧∃ c19:UInt64,(c19.toNat:Int)=((c17.toNat:Int):Int).fdiv (2 ^ (min (4:Int).toNat IntKind.u64.bits))∧∃ c21:UInt64,(c21.toNat:Int)=IntKind.u64.wrap ((c19.toNat:Int)+(c17.toNat:Int))∧∃ c23:UInt64,(c23.toNat:Int)=IntKind.u64.wrap (BitVec.ofInt IntKind.u64.bits (c21.toNat:Int) &&& BitVec.ofInt IntKind.u64.bits (1085102592571150095)).toNat∧(0:Int)≤8∧∃ c25:UInt64,(c25.toNat:Int)=((c23.toNat:Int):Int).fdiv (2 ^ (min (8:Int).toNat IntKind.u64.bits))∧∃ c27:UInt64,(c27.toNat:Int)=IntKind.u64.wrap ((c23.toNat:Int)+(c25.toNat:Int))∧(0:Int)≤16∧∃ c29:UInt64,(c29.toNat:Int)=((c27.toNat:Int):Int).fdiv (2 ^ (min (16:Int).toNat IntKind.u64.bits))∧∃ c31:UInt64,(c31.toNat:Int)=IntKind.u64.wrap ((c27.toNat:Int)+(c29.toNat:Int))∧(0:Int)≤32∧∃ c33:UInt64,(c33.toNat:Int)=((c31.toNat:Int):Int).fdiv (2 ^ (min (32:Int).toNat IntKind.u64.bits))∧∃ c35:UInt64,(c35.toNat:Int)=IntKind.u64.wrap ((c31.toNat:Int)+(c33.toNat:Int))∧∃ z37:Int,z37=IntKind.i64.wrap ((c35.toNat:Int))∧∃ c39:Int,c39=IntKind.i64.wrap (BitVec.ofInt IntKind.i64.bits (z37) &&& BitVec.ofInt IntKind.i64.bits (127)).toNat∧r=c39
set_option maxHeartbeats 4000000 in
theorem FN ⦃x1: UInt64⦄ ⦃r: Int⦄ (h: eI x1 r) : Cn Tryz.prog 99 [.v (.int .u64 ((x1.toNat : Int)))] [] [] (Ret (iv r)) := by
 refine al Tryz.func99 rfl rfl (by kernel_rfl) fun g hg=>?_;simp only [Tryz.ntmps99,av];refine wn_ 8 h fun h=>?_;obtain ⟨h2, h⟩ := h;obtain ⟨c3, h2r, h⟩ := h;refine vp_ (lY h2 h2r rfl rfl) ?_;obtain ⟨c5, h4, h⟩ := h;refine vp_ (fe h4 rfl rfl rfl) ?_;refine mv_ ?_;obtain ⟨c7, h6, h⟩ := h;refine vp_ (fe h6 rfl rfl rfl) ?_;obtain ⟨c9, h8, h⟩ := h;refine vp_ (fe h8 rfl rfl rfl) ?_;refine wn_ 6 h fun h=>?_
 obtain ⟨h10, h⟩ := h;obtain ⟨c11, h10r, h⟩ := h;refine vp_ (lY h10 h10r rfl rfl) ?_;obtain ⟨c13, h12, h⟩ := h;refine vp_ (fe h12 rfl rfl rfl) ?_;refine mv_ ?_;obtain ⟨c15, h14, h⟩ := h;refine vp_ (fe h14 rfl rfl rfl) ?_;obtain ⟨c17, h16, h⟩ := h;refine vp_ (fe h16 rfl rfl rfl) ?_;refine wn_ 6 h fun h=>?_;obtain ⟨h18, h⟩ := h;obtain ⟨c19, h18r, h⟩ := h;refine vp_ (lY h18 h18r rfl rfl) ?_
 refine mv_ ?_;obtain ⟨c21, h20, h⟩ := h;refine vp_ (fe h20 rfl rfl rfl) ?_;obtain ⟨c23, h22, h⟩ := h;refine vp_ (fe h22 rfl rfl rfl) ?_;refine wn_ 7 h fun h=>?_;obtain ⟨h24, h⟩ := h;obtain ⟨c25, h24r, h⟩ := h;refine vp_ (lY h24 h24r rfl rfl) ?_;obtain ⟨c27, h26, h⟩ := h;refine vp_ (fe h26 rfl rfl rfl) ?_;refine wn_ 7 h fun h=>?_;obtain ⟨h28, h⟩ := h;obtain ⟨c29, h28r, h⟩ := h;refine vp_ (lY h28 h28r rfl rfl) ?_
 obtain ⟨c31, h30, h⟩ := h;refine vp_ (fe h30 rfl rfl rfl) ?_;refine wn_ 7 h fun h=>?_;obtain ⟨h32, h⟩ := h;obtain ⟨c33, h32r, h⟩ := h;refine vp_ (lY h32 h32r rfl rfl) ?_;obtain ⟨c35, h34, h⟩ := h;refine vp_ (fe h34 rfl rfl rfl) ?_;refine wn_ 6 h fun h=>?_;obtain ⟨z37, h36, h⟩ := h;refine vp_ (eU h36 ai.h ai.h rfl) ?_;obtain ⟨c39, h38, h⟩ := h;refine vp_ (fe h38 rfl rfl rfl) ?_
 exact r_ h hg
def n4 (sv1:Arr 4 (UInt64)) (ag1:(Int×Int)→Prop) (nv40:Int) (x41:Int) (r:Int):Prop:=
 ((x41<4→(0≤(x41:Int)∧(x41:Int)<4)∧∃ y55:UInt64,sv1.l[(x41:Int).toNat]? =some y55∧∃ y57:Int,eI y55 y57∧InR (nv40+y57)∧InR (x41+1)∧ag1 ((nv40+y57),(x41+1)))∧(¬ (x41<4)→r=nv40))
def mG (sv1:Arr 4 (UInt64)) (r:Int):Prop:=
 ba (fun ag1 s=>n4 sv1 ag1 s.1 s.2 r) (0,0)
set_option maxHeartbeats 4000000 in
theorem FO ⦃sv1: Arr 4 (UInt64)⦄ ⦃r: Int⦄ (h: mG sv1 r) : Cn Tryz.prog 79 [.agg ((List.map ew sv1.l).flatten)] [] [] (Ret (iv r)) := by
 refine al Tryz.func79 rfl rfl (by kernel_rfl) fun g hg=>?_;simp only [Tryz.ntmps79,av];refine wn_ 2 h fun h=>?_;refine cK rfl rfl rfl rfl fun b1 => ?_;refine wn_ 11 h fun h=>?_;refine v_ (an 0 [] ((List.map ew sv1.l).flatten) [] sq_ sl_ sl_ (aq (aE (by rfl))) ae.h rfl rfl) ?_;refine wn_ 4 h fun h=>?_;obtain ⟨Inv,⟨m0,hI⟩,hS⟩ := lq_ h;refine lp_ hI (fun σ m=>∃ nv40 x41, Inv (nv40, x41) m ∧ σ=⟨[(3, iv nv40), (6, .agg ((List.map ew sv1.l).flatten)), (7, iv x41)], [], []⟩) ?_
 rintro _ m ⟨nv40,x41,hI,rfl⟩;obtain ⟨ag1,hag1,h⟩ := cu hS hI;refine i_ h (fun h=>?_) fun h=>?_
 ·refine wn_ 6 h fun h=>?_;obtain ⟨h54, h⟩ := h;obtain ⟨y55, h54b, h⟩ := h;refine vp_ (xR (f := ew) (a := sv1) [] h54 h54b sq_ rfl ai.h ae.h rfl rfl) ?_;refine z0_ FN h fun y57 h=>?_;exact g_ h hag1
 exact r_ h hg
def ib (sv1:Arr 4 (UInt64)) (c2:UInt8) (r:T7t):Prop:=
 (64:Int)≠0∧∃ c4:UInt8,(c4.toNat:Int)=IntKind.u8.wrap (((c2.toNat:Int)).tdiv 64)∧(0≤((c4.toNat:Int):Int)∧((c4.toNat:Int):Int)<4)∧∃ y6:UInt64,sv1.l[((c4.toNat:Int):Int).toNat]? =some y6∧(64:Int)≠0∧∃ c8:UInt8,(c8.toNat:Int)=(((c2.toNat:Int)).tmod 64)∧(0:Int)≤(c8.toNat:Int)∧∃ c10:UInt64,(c10.toNat:Int)=IntKind.u64.wrap ((1:Int) * 2 ^ (min ((c8.toNat:Int):Int).toNat IntKind.u64.bits))∧∃ c12:UInt64,(c12.toNat:Int)=IntKind.u64.wrap (BitVec.ofInt IntKind.u64.bits (y6.toNat:Int) ||| BitVec.ofInt IntKind.u64.bits (c10.toNat:Int)).toNat∧(0≤((c4.toNat:Int):Int)∧((c4.toNat:Int):Int)<4)∧∃ y14:UInt64,sv1.l[((c4.toNat:Int):Int).toNat]? =some y14∧r=(Arr.set sv1 ((c4.toNat:Int):Int).toNat c12)
set_option maxHeartbeats 4000000 in
theorem AB ⦃sv1: Arr 4 (UInt64)⦄ ⦃c2: UInt8⦄ ⦃r: T7t⦄ (h: ib sv1 c2 r) : Cn Tryz.prog 100 [.agg ((List.map ew sv1.l).flatten), uv c2] [] [] (Ret (.agg ((List.map ew r.l).flatten))) := by
 refine al Tryz.func100 rfl rfl (by kernel_rfl) fun g hg=>?_;simp only [Tryz.ntmps100,av];refine wn_ 2 h fun h=>?_;refine cK rfl rfl rfl rfl fun b2 => ?_;refine aN ar.h rfl rfl fun b4 => ?_;refine bA 0 ((List.map ew ((Arr.rep 4 (0 : UInt64))).l).flatten) rfl rfl ?_;refine wn_ 5 h fun h=>?_;obtain ⟨h3, h⟩ := h;obtain ⟨c4, h3r, h⟩ := h;refine vp_ (kz h3 h3r rfl rfl rfl) ?_;obtain ⟨h5, h⟩ := h
 obtain ⟨y6, h5b, h⟩ := h;refine vp_ (aA h5 ai.h ae.h rfl rfl) ?_;refine v_ (dH (f := ew) (a := sv1) (k := 1) (off := 0) (i := ((c4.toNat : Int) : Int).toNat) 1 [] [] h5b sq_ so_ (by decide) rfl ae.h rfl rfl) ?_;refine mv_ ?_;obtain ⟨h7, h⟩ := h;obtain ⟨c8, h7r, h⟩ := h;refine vp_ (s7 h7 h7r rfl rfl rfl) ?_;obtain ⟨h9, h⟩ := h;obtain ⟨c10, h9r, h⟩ := h;refine vp_ (wC h9 h9r rfl rfl) ?_
 obtain ⟨c12, h11, h⟩ := h;refine vp_ (fe h11 rfl rfl rfl) ?_;obtain ⟨h13, h⟩ := h;obtain ⟨y14, h13b, h⟩ := h;refine vp_ (aA h13 ai.h ae.h rfl rfl) ?_;refine dO (f := ew) (a := sv1) (k := 1) (off := 0) (i := ((c4.toNat : Int) : Int).toNat) 1 [] [] c12 h13b sq_ so_ (by decide) ae.h rfl rfl rfl rfl sl_ rfl rfl ?_;refine bA 1 ((List.map ew ((Arr.set sv1 ((c4.toNat : Int) : Int).toNat c12)).l).flatten) rfl sq_ ?_
 refine wn_ 4 h fun h=>?_;refine v_ (an 1 [] ((List.map ew ((Arr.set sv1 ((c4.toNat : Int) : Int).toNat c12)).l).flatten) [] sq_ sl_ sl_ (aq (aE (by rfl))) ae.h rfl rfl) ?_;refine aC 0 [] ((List.map ew ((Arr.rep 4 (0 : UInt64))).l).flatten) [] ((List.map ew ((Arr.set sv1 ((c4.toNat : Int) : Int).toNat c12)).l).flatten) ae.h rfl rfl rfl rfl rfl ?_;exact rl_ h hg
def qO (l1:List UInt8) (ag1:(Int×T7t)→Prop) (x38:Int) (f39:Arr 4 (UInt64)) (r:T7t):Prop:=
 ((x38<(l1.length:Int)→0≤(x38:Int)∧∃ y51:UInt8,l1[(x38:Int).toNat]? =some y51∧∃ y54:T7t,ib f39 y51 y54∧InR (x38+1)∧ag1 ((x38+1),y54))∧(¬ (x38<(l1.length:Int))→r=f39))
def gA (l1:List UInt8) (r:T7t):Prop:=
 ba (fun ag1 s=>qO l1 ag1 s.1 s.2 r) (0,(Arr.rep 4 (0:UInt64)))
set_option maxHeartbeats 4000000 in
theorem s6 ⦃l1: List UInt8⦄ ⦃r: T7t⦄ (h: gA l1 r) : Cn Tryz.prog 80 [sb l1] [] [] (Ret (.agg ((List.map ew r.l).flatten))) := by
 refine al Tryz.func80 rfl rfl (by kernel_rfl) fun g hg=>?_;simp only [Tryz.ntmps80,av];refine wn_ 2 h fun h=>?_;refine aN ar.h rfl rfl fun b2 => ?_;refine bA 0 ((List.map ew ((Arr.rep 4 (0 : UInt64))).l).flatten) rfl rfl ?_;refine wn_ 4 h fun h=>?_;refine aN ar.h rfl rfl fun b3 => ?_;refine bA 0 ((List.map ew ((Arr.rep 4 (0 : UInt64))).l).flatten) rfl rfl ?_;refine wn_ 11 h fun h=>?_
 obtain ⟨Inv,⟨m0,hI⟩,hS⟩ := lq_ h;refine lp_ hI (fun σ m=>∃ x38 f39, Inv (x38, f39) m ∧ σ=⟨[(2, pw b2), (3, pw b3), (6, sb l1), (7, iv ((l1.length : Int))), (8, iv x38)], [⟨b3, 41, ((List.map ew f39.l).flatten)⟩, ⟨b2, 41, ((List.map ew ((Arr.rep 4 (0 : UInt64))).l).flatten)⟩], []⟩) ?_;rintro _ m ⟨x38,f39,hI,rfl⟩
 obtain ⟨ag1,hag1,h⟩ := cu hS hI;refine i_ h (fun h=>?_) fun h=>?_
 ·refine x_ h fun y51 h=>?_;refine wn_ 5 h fun h=>?_;refine v_ (an 0 [] ((List.map ew f39.l).flatten) [] sq_ sl_ sl_ (aq (aE (by rfl))) ae.h rfl rfl) ?_;refine z0_ AB h fun y54 h=>?_;refine aC 0 [] ((List.map ew f39.l).flatten) [] ((List.map ew y54.l).flatten) ae.h rfl rfl rfl rfl rfl ?_;exact g_ h hag1
 refine wn_ 7 h fun h=>?_;refine v_ (an 0 [] ((List.map ew f39.l).flatten) [] sq_ sl_ sl_ (aq (aE (by rfl))) ae.h rfl rfl) ?_;refine aC 1 [] ((List.map ew ((Arr.rep 4 (0 : UInt64))).l).flatten) [] ((List.map ew f39.l).flatten) ae.h rfl rfl rfl rfl rfl ?_;exact rl_ h hg
def pG (ag1:(Int×T7t)→Prop) (x44:Int) (f45:Arr 4 (UInt64)) (r:T7t):Prop:=
 ((x44<4→(0≤(x44:Int)∧(x44:Int)<4)∧∃ y60:UInt64,f45.l[(x44:Int).toNat]? =some y60∧∃ c62:UInt64,(c62.toNat:Int)=IntKind.u64.wrap (BitVec.ofInt IntKind.u64.bits IntKind.u64.max ^^^ BitVec.ofInt IntKind.u64.bits (y60.toNat:Int)).toNat∧(0≤(x44:Int)∧(x44:Int)<4)∧∃ y64:UInt64,f45.l[(x44:Int).toNat]? =some y64∧InR (x44+1)∧ag1 ((x44+1),(Arr.set f45 (x44:Int).toNat c62)))∧(¬ (x44<4)→r=f45))
def je (sv1:Arr 4 (UInt64)) (r:T7t):Prop:=
 ba (fun ag1 s=>pG ag1 s.1 s.2 r) (0,sv1)
set_option maxHeartbeats 4000000 in
theorem xm ⦃sv1: Arr 4 (UInt64)⦄ ⦃r: T7t⦄ (h: je sv1 r) : Cn Tryz.prog 81 [.agg ((List.map ew sv1.l).flatten)] [] [] (Ret (.agg ((List.map ew r.l).flatten))) := by
 refine al Tryz.func81 rfl rfl (by kernel_rfl) fun g hg=>?_;simp only [Tryz.ntmps81,av];refine wn_ 2 h fun h=>?_;refine cK rfl rfl rfl rfl fun b1 => ?_;refine aN ar.h rfl rfl fun b2 => ?_;refine bA 0 ((List.map ew ((Arr.rep 4 (0 : UInt64))).l).flatten) rfl rfl ?_;refine wn_ 9 h fun h=>?_;obtain ⟨Inv,⟨m0,hI⟩,hS⟩ := lq_ h;refine lp_ hI (fun σ m=>∃ x44 f45, Inv (x44, f45) m ∧ σ=⟨[(1, pw b1), (2, pw b2), (4, iv x44)], [⟨b2, 41, ((List.map ew ((Arr.rep 4 (0 : UInt64))).l).flatten)⟩, ⟨b1, 41, ((List.map ew f45.l).flatten)⟩], []⟩) ?_
 rintro _ m ⟨x44,f45,hI,rfl⟩;obtain ⟨ag1,hag1,h⟩ := cu hS hI;refine i_ h (fun h=>?_) fun h=>?_
 ·refine wn_ 13 h fun h=>?_;obtain ⟨h59, h⟩ := h;obtain ⟨y60, h59b, h⟩ := h;refine vp_ (aA h59 ai.h ae.h rfl rfl) ?_;refine v_ (dH (f := ew) (a := f45) (k := 1) (off := 0) (i := (x44 : Int).toNat) 1 [] [] h59b sq_ so_ (by decide) rfl ae.h rfl rfl) ?_;obtain ⟨c62, h61, h⟩ := h;refine vp_ (CB h61 rfl) ?_;obtain ⟨h63, h⟩ := h;obtain ⟨y64, h63b, h⟩ := h;refine vp_ (aA h63 ai.h ae.h rfl rfl) ?_
  refine dO (f := ew) (a := f45) (k := 1) (off := 0) (i := (x44 : Int).toNat) 1 [] [] c62 h63b sq_ so_ (by decide) ae.h rfl rfl rfl rfl sl_ rfl rfl ?_;refine bA 1 ((List.map ew ((Arr.set f45 (x44 : Int).toNat c62)).l).flatten) rfl sq_ ?_;exact g_ h hag1
 refine wn_ 7 h fun h=>?_;refine v_ (an 1 [] ((List.map ew f45.l).flatten) [] sq_ sl_ sl_ (aq (aE (by rfl))) ae.h rfl rfl) ?_;refine aC 0 [] ((List.map ew ((Arr.rep 4 (0 : UInt64))).l).flatten) [] ((List.map ew f45.l).flatten) ae.h rfl rfl rfl rfl rfl ?_;exact rl_ h hg
def fB (x342:Int) (ag4:((List UInt8)×Int)→Prop) (x340:List UInt8) (y436:UInt8) (x447:Bool) (_r:(List UInt8)):Prop:=
 ((x447=true→InR (x342+1)∧ag4 (x340,(x342+1)))∧(¬ (x447=true)→(((y436.toNat:Int)=10→ef (x340.length+([(92:UInt8),(110:UInt8)]).length) 1∧InR (x342+1)∧ag4 ((x340++[(92:UInt8),(110:UInt8)]),(x342+1)))∧(¬ ((y436.toNat:Int)=10)→ef (x340.length+([y436]).length) 1∧InR (x342+1)∧ag4 ((x340++[y436]),(x342+1))))))
def pc (x487:List UInt8) (f36:Arr 4 (UInt64)) (ag8:((List UInt8)×Int)→Prop) (x588:List UInt8) (x590:Int) (r:(List UInt8)):Prop:=
 ((x590<(x487.length:Int)→0≤(x590:Int)∧∃ y620:UInt8,x487[(x590:Int).toNat]? =some y620∧∃ y623:Bool,fW f36 y620 y623∧((y623=true→ef (x588.length+([y620]).length) 1∧InR (x590+1)∧ag8 ((x588++[y620]),(x590+1)))∧(¬ (y623=true)→InR (x590+1)∧ag8 (x588,(x590+1)))))∧(¬ (x590<(x487.length:Int))→ef (x588.length+([(93:UInt8)]).length) 1∧r=(x588++[(93:UInt8)])))
def kc (f36:Arr 4 (UInt64)) (x340:List UInt8) (x487:List UInt8) (r:(List UInt8)):Prop:=
 ba (fun ag8 s=>pc x487 f36 ag8 s.1 s.2 r) (x340,0)
def iY (f36:Arr 4 (UInt64)) (x340:List UInt8) (x496:Bool) (r:(List UInt8)):Prop:=
 ((x496=true→kc f36 x340 ([(45:UInt8),(94:UInt8)]) r)∧(¬ (x496=true)→kc f36 x340 ([(91:UInt8),(92:UInt8),(94:UInt8),(45:UInt8)]) r))
def pd (y275:(List UInt8)) (f36:Arr 4 (UInt64)) (ag4:((List UInt8)×Int)→Prop) (x340:List UInt8) (x342:Int) (r:(List UInt8)):Prop:=
 ((x342<(y275.length:Int)→0≤(x342:Int)∧∃ y436:UInt8,y275[(x342:Int).toNat]? =some y436∧(((y436.toNat:Int)=93→fB x342 ag4 x340 y436 (decide ((y436.toNat:Int)=93)) r)∧(¬ ((y436.toNat:Int)=93)→(((y436.toNat:Int)=91→fB x342 ag4 x340 y436 (decide ((y436.toNat:Int)=91)) r)∧(¬ ((y436.toNat:Int)=91)→(((y436.toNat:Int)=92→fB x342 ag4 x340 y436 (decide ((y436.toNat:Int)=92)) r)∧(¬ ((y436.toNat:Int)=92)→(((y436.toNat:Int)=94→fB x342 ag4 x340 y436 (decide ((y436.toNat:Int)=94)) r)∧(¬ ((y436.toNat:Int)=94)→fB x342 ag4 x340 y436 (decide ((y436.toNat:Int)=45)) r)))))))))∧(¬ (x342<(y275.length:Int))→(((x340.length:Int)=1→∃ y501:Bool,fW f36 (91:UInt8) y501∧((¬ (y501=true)→∃ y504:Bool,fW f36 (92:UInt8) y504∧iY f36 x340 (!y504) r)∧(¬ (¬ (y501=true))→iY f36 x340 false r)))∧(¬ ((x340.length:Int)=1)→iY f36 x340 false r))))
def kd (f36:Arr 4 (UInt64)) (x74:List UInt8) (r:(List UInt8)):Prop:=
 ∃ y275:(List UInt8),ka f36 y275∧ba (fun ag4 s=>pd y275 f36 ag4 s.1 s.2 r) (x74,0)
def ke (x34:List UInt8) (f36:Arr 4 (UInt64)) (r:(List UInt8)):Prop:=
 ∃ y77:Bool,fW f36 (93:UInt8) y77∧((y77=true→ef (x34.length+([(93:UInt8)]).length) 1∧kd f36 (x34++[(93:UInt8)]) r)∧(¬ (y77=true)→kd f36 x34 r))
def gt (x1:Arr 4 (UInt64)) (x51:Bool) (r:(List UInt8)):Prop:=
 ((x51=true→ef (([(91:UInt8)]).length+([(94:UInt8)]).length) 1∧∃ y68:T7t,je x1 y68∧ke ([(91:UInt8)]++[(94:UInt8)]) y68 r)∧(¬ (x51=true)→ke ([(91:UInt8)]) x1 r))
def nb (x1:Arr 4 (UInt64)) (r:(List UInt8)):Prop:=
 ∃ y38:Int,mG x1 y38∧((y38=0→gt x1 true r)∧(¬ (y38=0)→((128<y38→((y38<256→gt x1 true r)∧(¬ (y38<256)→∃ y59:T7t,gA ([(94:UInt8)]) y59∧gt x1 (decide ((x1:Arr 4 (UInt64))=y59)) r)))∧(¬ (128<y38)→∃ y62:T7t,gA ([(94:UInt8)]) y62∧gt x1 (decide ((x1:Arr 4 (UInt64))=y62)) r))))
set_option maxHeartbeats 4000000 in
theorem FQ ⦃x1: Arr 4 (UInt64)⦄ ⦃r: (List UInt8)⦄ (h: nb x1 r) : Cn Tryz.prog 62 [.agg ((List.map ew x1.l).flatten)] [] [] (xx 1 5 eb r) := by
 refine al Tryz.func62 rfl rfl (by kernel_rfl) fun g hg=>?_;simp only [Tryz.ntmps62,av];refine wn_ 2 h fun h=>?_;refine cK rfl rfl rfl rfl fun b1 => ?_;refine wn_ 5 h fun h=>?_;refine aM (f := eb) [(91 : UInt8)] ai.h ar.h rfl rfl wr_ rfl rfl rfl rfl fun s10 => ?_;refine wn_ 3 h fun h=>?_;refine ax (fun σ=>∃ x34 f36 i35, ke x34 f36 r ∧ σ=⟨[(1, pw b1), (3, .sl 1 (some i35) (List.map eb x34))], [⟨b1, 41, ((List.map ew f36.l).flatten)⟩], [⟨i35, 5, 1, x34.length⟩]⟩) ?_ ?_
 ·refine wn_ 2 h fun h=>?_;refine v_ (an 0 [] ((List.map ew x1.l).flatten) [] sq_ sl_ sl_ (aq (aE (by rfl))) ae.h rfl rfl) ?_;refine z0_ FO h fun y38 h=>?_;refine wn_ 3 h fun h=>?_;refine ax (fun σ=>∃ x51, gt x1 x51 r ∧ σ=⟨[(1, pw b1), (3, .sl 1 (some (some (s10, 1))) (List.map eb ([(91 : UInt8)]))), (28, bv x51)], [⟨b1, 41, ((List.map ew x1.l).flatten)⟩], [⟨(some (s10, 1)), 5, 1, ([(91 : UInt8)]).length⟩]⟩) ?_ ?_
  ·refine az (m := 16) (by kernel_rfl) rfl ?_;refine o_ [0,1,2] ?_;refine ip_ 15 h (fun h=>?_) fun h=>?_
   ·refine o_ [3,4,5,6,7,8,9,10,11,12,13,14,15] ?_;refine aB (by kernel_rfl) ?_;exact m_ h
   refine o_ [3,4,5] ?_;refine ip_ 18 h (fun h=>?_) fun h=>?_
   ·refine o_ [6,7,8,9,10] ?_;refine ip_ 23 h (fun h=>?_) fun h=>?_
    ·refine o_ [11,12,13,14,15] ?_;refine aB (by kernel_rfl) ?_;exact m_ h
    obtain ⟨y59, h58, h⟩ := h;refine eG [⟨11, 24, .agg ((List.map ew x1.l).flatten)⟩] 4 ?_;refine bl 12 (by kernel_rfl) rfl (.cons rfl rfl rfl (fun _ => rfl) (fun _ => an 0 [] ((List.map ew x1.l).flatten) [] sq_ sl_ sl_ (aq (aE (by rfl))) ae.h rfl rfl) .nil) fun D l td hR => ?_;refine eA (f := eb) [(94 : UInt8)] ai.h ar.h rfl rfl wr_ rfl rfl rfl rfl fun s25 => ?_
    refine fg hR ?_;refine bl 13 (by kernel_rfl) rfl (.cons rfl rfl rfl (fun _ => rfl) (fun _ => an 0 [] ((List.map ew x1.l).flatten) [] sq_ sl_ sl_ (aq (aE (by rfl))) ae.h rfl rfl) .nil) fun D l td hR => ?_;refine cM s6 h58 ?_;refine fg hR ?_;refine cw (l' := #[true, true, true, true, true, true, true, true, true, true, true, true, true, true, false, false]) (by kernel_rfl) (.cons rfl rfl rfl (fun _ => rfl) (fun _ => an 0 [] ((List.map ew x1.l).flatten) [] sq_ sl_ sl_ (aq (aE (by rfl))) ae.h rfl rfl) .nil) (by kernel_rfl) rfl (by kernel_rfl) (by kernel_rfl) ?_
    simp only [List.nil_append, List.cons_append, List.map_cons, List.map_nil];refine pl_ 14 rfl (uF (f := bB) (a := x1) (b := y59) (lK (t := 41) (e := 39) (f := ew) ai.h ae.h (by kernel_rfl) inferInstance (fun _ => rfl)) (by decide) (by kernel_rfl) ev_ ev_) ?_;refine o_ [15] ?_;refine aB (by kernel_rfl) ?_;exact m_ h
   obtain ⟨y62, h61, h⟩ := h;refine o_ [6,7,8,9,10] ?_;refine eG [⟨11, 24, .agg ((List.map ew x1.l).flatten)⟩] 4 ?_;refine bl 12 (by kernel_rfl) rfl (.cons rfl rfl rfl (fun _ => rfl) (fun _ => an 0 [] ((List.map ew x1.l).flatten) [] sq_ sl_ sl_ (aq (aE (by rfl))) ae.h rfl rfl) .nil) fun D l td hR => ?_;refine eA (f := eb) [(94 : UInt8)] ai.h ar.h rfl rfl wr_ rfl rfl rfl rfl fun s25 => ?_
   refine fg hR ?_;refine bl 13 (by kernel_rfl) rfl (.cons rfl rfl rfl (fun _ => rfl) (fun _ => an 0 [] ((List.map ew x1.l).flatten) [] sq_ sl_ sl_ (aq (aE (by rfl))) ae.h rfl rfl) .nil) fun D l td hR => ?_;refine cM s6 h61 ?_;refine fg hR ?_;refine cw (l' := #[true, true, true, true, true, true, true, true, true, true, true, true, true, true, false, false]) (by kernel_rfl) (.cons rfl rfl rfl (fun _ => rfl) (fun _ => an 0 [] ((List.map ew x1.l).flatten) [] sq_ sl_ sl_ (aq (aE (by rfl))) ae.h rfl rfl) .nil) (by kernel_rfl) rfl (by kernel_rfl) (by kernel_rfl) ?_
   simp only [List.nil_append, List.cons_append, List.map_cons, List.map_nil];refine pl_ 14 rfl (uF (f := bB) (a := x1) (b := y62) (lK (t := 41) (e := 39) (f := ew) ai.h ae.h (by kernel_rfl) inferInstance (fun _ => rfl)) (by decide) (by kernel_rfl) ev_ ev_) ?_;refine o_ [15] ?_;refine aB (by kernel_rfl) ?_;exact m_ h
  rintro _ ⟨x51,h,rfl⟩;refine i_ h (fun h=>?_) fun h=>?_
  ·refine az (m := 7) (by kernel_rfl) rfl ?_;obtain ⟨h65, h⟩ := h;obtain ⟨y68, h67, h⟩ := h;refine o_ [0] ?_;refine eG [⟨3, 32, .agg ((List.map ew x1.l).flatten)⟩] 5 ?_;refine bl 1 (by kernel_rfl) rfl (.cons rfl rfl rfl (fun _ => rfl) (fun _ => an 0 [] ((List.map ew x1.l).flatten) [] sq_ sl_ sl_ (aq (aE (by rfl))) ae.h rfl rfl) .nil) fun D l td hR => ?_;refine eA (f := eb) [(94 : UInt8)] ai.h ar.h rfl rfl wr_ rfl rfl rfl rfl fun s30 => ?_
   refine fg hR ?_;refine bl 2 (by kernel_rfl) rfl (.cons rfl rfl rfl (fun _ => rfl) (fun _ => an 0 [] ((List.map ew x1.l).flatten) [] sq_ sl_ sl_ (aq (aE (by rfl))) ae.h rfl rfl) .nil) fun D l td hR => ?_;refine ko (l := [(91 : UInt8)]) (l2 := [(94 : UInt8)]) 1 h65 ai.h ar.h rfl rfl rfl (.refl _) rfl rfl rfl fun i66 => ?_;refine fg hR ?_;refine cw (l' := #[true, true, true, true, false, false, false]) (by kernel_rfl) (.cons rfl rfl rfl (fun _ => rfl) (fun _ => an 0 [] ((List.map ew x1.l).flatten) [] sq_ sl_ sl_ (aq (aE (by rfl))) ae.h rfl rfl) .nil) (by kernel_rfl) rfl (by kernel_rfl) (by kernel_rfl) ?_
   simp only [List.nil_append, List.cons_append, List.map_cons, List.map_nil];refine aG (i := 4) (by kernel_rfl) rfl ?_;refine cM xm h67 ?_;refine o_ [5] ?_;refine aG (i := 6) (by kernel_rfl) rfl ?_;refine jI 0 [] ((List.map ew x1.l).flatten) [] ((List.map ew y68.l).flatten) ae.h rfl rfl rfl rfl rfl ?_;refine aB (by kernel_rfl) ?_;exact m_ h
  exact m_ h
 rintro _ ⟨x34,f36,i35,h,rfl⟩;refine ax (fun σ=>∃ x74 i75, kd f36 x74 r ∧ σ=⟨[(1, pw b1), (3, .sl 1 (some i75) (List.map eb x74))], [⟨b1, 41, ((List.map ew f36.l).flatten)⟩], [⟨i75, 5, 1, x74.length⟩]⟩) ?_ ?_
 ·refine wn_ 2 h fun h=>?_;refine v_ (an 0 [] ((List.map ew f36.l).flatten) [] sq_ sl_ sl_ (aq (aE (by rfl))) ae.h rfl rfl) ?_;refine z0_ k9_ h fun y77 h=>?_;refine i_ h (fun h=>?_) fun h=>?_
  ·refine wn_ 2 h fun h=>?_;refine aM (f := eb) [(93 : UInt8)] ai.h ar.h rfl rfl wr_ rfl rfl rfl rfl fun s37 => ?_;obtain ⟨h79, h⟩ := h;refine dv (l := x34) (l2 := [(93 : UInt8)]) 1 h79 ai.h ar.h rfl rfl rfl (.refl _) rfl rfl rfl fun i80 => ?_;exact m_ h
  exact m_ h
 rintro _ ⟨x74,i75,h,rfl⟩;refine wn_ 3 h fun h=>?_;refine v_ (an 0 [] ((List.map ew f36.l).flatten) [] sq_ sl_ sl_ (aq (aE (by rfl))) ae.h rfl rfl) ?_;refine z1_ DT h fun y275 i276 h=>?_;refine wn_ 5 h fun h=>?_;obtain ⟨Inv,⟨m0,hI⟩,hS⟩ := lq_ h;refine lp_ hI (fun σ m=>∃ x340 x342 i341, Inv (x340, x342) m ∧ σ=⟨[(1, pw b1), (3, .sl 1 (some i341) (List.map eb x340)), (40, .sl 1 (some i276) (List.map eb y275)), (41, iv ((y275.length : Int))), (42, iv x342)], [⟨b1, 41, ((List.map ew f36.l).flatten)⟩], [⟨i276, 5, 1, y275.length⟩, ⟨i341, 5, 1, x340.length⟩]⟩) ?_
 rintro _ m ⟨x340,x342,i341,hI,rfl⟩;obtain ⟨ag4,hag4,h⟩ := cu hS hI;refine i_ h (fun h=>?_) fun h=>?_
 ·refine x_ h fun y436 h=>?_;refine wn_ 10 h fun h=>?_;refine ax (fun σ=>∃ x447, fB x342 ag4 x340 y436 x447 r ∧ σ=⟨[(1, pw b1), (3, .sl 1 (some i341) (List.map eb x340)), (6, uv y436), (40, .sl 1 (some i276) (List.map eb y275)), (41, iv ((y275.length : Int))), (42, iv x342), (46, uv y436), (51, bv x447)], [⟨b1, 41, ((List.map ew f36.l).flatten)⟩], [⟨i276, 5, 1, y275.length⟩, ⟨i341, 5, 1, x340.length⟩]⟩) ?_ ?_
  ·refine i_ h (fun h=>?_) fun h=>?_
   ·exact m_ h
   refine i_ h (fun h=>?_) fun h=>?_
   ·exact m_ h
   refine i_ h (fun h=>?_) fun h=>?_
   ·exact m_ h
   refine i_ h (fun h=>?_) fun h=>?_
   ·exact m_ h
   exact m_ h
  rintro _ ⟨x447,h,rfl⟩;refine i_ h (fun h=>?_) fun h=>?_
  ·exact g_ h hag4
  refine i_ h (fun h=>?_) fun h=>?_
  ·refine wn_ 2 h fun h=>?_;refine aM (f := eb) [(92 : UInt8), (110 : UInt8)] ai.h ar.h rfl rfl wr_ rfl rfl rfl rfl fun s60 => ?_;obtain ⟨h461, h⟩ := h;refine dv (l := x340) (l2 := [(92 : UInt8), (110 : UInt8)]) 2 h461 ai.h ar.h rfl rfl rfl (.refl _) rfl rfl rfl fun i462 => ?_;exact g_ h hag4
  refine wn_ 3 h fun h=>?_;refine aM (f := eb) [y436] ai.h ar.h rfl rfl wr_ rfl rfl rfl rfl fun s49 => ?_;obtain ⟨h464, h⟩ := h;refine dv (l := x340) (l2 := [y436]) 2 h464 ai.h ar.h rfl rfl rfl (.refl _) rfl rfl rfl fun i465 => ?_;exact g_ h hag4
 refine wn_ 7 h fun h=>?_;refine aM (f := eb) [(91 : UInt8), (92 : UInt8), (94 : UInt8), (45 : UInt8)] ai.h ar.h rfl rfl wr_ rfl rfl rfl rfl fun s63 => ?_;refine xl 0 ai.h ai.h rfl rfl rfl rfl ?_;refine wn_ 3 h fun h=>?_;refine ax (fun σ=>∃ x487, kc f36 x340 x487 r ∧ σ=⟨[(1, pw b1), (3, .sl 1 (some i341) (List.map eb x340)), (7, sb x487)], [⟨b1, 41, ((List.map ew f36.l).flatten)⟩], [⟨i341, 5, 1, x340.length⟩]⟩) ?_ ?_
 ·refine ax (fun σ=>∃ x496, iY f36 x340 x496 r ∧ σ=⟨[(1, pw b1), (3, .sl 1 (some i341) (List.map eb x340)), (7, .sl 1 none (List.map eb ([(91 : UInt8), (92 : UInt8), (94 : UInt8), (45 : UInt8)]))), (77, bv x496)], [⟨b1, 41, ((List.map ew f36.l).flatten)⟩], [⟨i341, 5, 1, x340.length⟩]⟩) ?_ ?_
  ·refine is_ 68 h (fun h=>?_) fun h=>?_
   ·refine v_ (an 0 [] ((List.map ew f36.l).flatten) [] sq_ sl_ sl_ (aq (aE (by rfl))) ae.h rfl rfl) ?_;refine z0_ k9_ h fun y501 h=>?_;refine is_ 73 h (fun h=>?_) fun h=>?_
    ·refine v_ (an 0 [] ((List.map ew f36.l).flatten) [] sq_ sl_ sl_ (aq (aE (by rfl))) ae.h rfl rfl) ?_;refine z0_ k9_ h fun y504 h=>?_;exact m_ h
    exact m_ h
   exact m_ h
  rintro _ ⟨x496,h,rfl⟩;refine i_ h (fun h=>?_) fun h=>?_
  ·refine nY ?_;refine aM (f := eb) [(45 : UInt8), (94 : UInt8)] ai.h ar.h rfl rfl wr_ rfl rfl rfl rfl fun s78 => ?_;refine xl 0 ai.h ai.h rfl rfl rfl rfl ?_;exact m_ h
  exact m_ h
 rintro _ ⟨x487,h,rfl⟩;refine wn_ 9 h fun h=>?_;obtain ⟨Inv,⟨m0,hI⟩,hS⟩ := lq_ h;refine lp_ hI (fun σ m=>∃ x588 x590 i589, Inv (x588, x590) m ∧ σ=⟨[(1, pw b1), (3, .sl 1 (some i589) (List.map eb x588)), (80, sb x487), (81, iv ((x487.length : Int))), (82, iv x590)], [⟨b1, 41, ((List.map ew f36.l).flatten)⟩], [⟨i589, 5, 1, x588.length⟩]⟩) ?_
 rintro _ m ⟨x588,x590,i589,hI,rfl⟩;obtain ⟨ag8,hag8,h⟩ := cu hS hI;refine i_ h (fun h=>?_) fun h=>?_
 ·refine x_ h fun y620 h=>?_;refine wn_ 6 h fun h=>?_;refine v_ (an 0 [] ((List.map ew f36.l).flatten) [] sq_ sl_ sl_ (aq (aE (by rfl))) ae.h rfl rfl) ?_;refine z0_ k9_ h fun y623 h=>?_;refine i_ h (fun h=>?_) fun h=>?_
  ·refine wn_ 3 h fun h=>?_;refine aM (f := eb) [y620] ai.h ar.h rfl rfl wr_ rfl rfl rfl rfl fun s91 => ?_;obtain ⟨h625, h⟩ := h;refine dv (l := x588) (l2 := [y620]) 1 h625 ai.h ar.h rfl rfl rfl (.refl _) rfl rfl rfl fun i626 => ?_;exact g_ h hag8
  exact g_ h hag8
 refine wn_ 8 h fun h=>?_;refine aM (f := eb) [(93 : UInt8)] ai.h ar.h rfl rfl wr_ rfl rfl rfl rfl fun s95 => ?_;obtain ⟨h629, h⟩ := h;refine dv (l := x588) (l2 := [(93 : UInt8)]) 1 h629 ai.h ar.h rfl rfl rfl (.refl _) rfl rfl rfl fun i630 => ?_;exact r_ h hg
def ge (w1:Bool) (sv2:Arr 4 (UInt64)) (r:ByteArray):Prop:=
 ∃ y20:(List UInt8),ka sv2 y20∧(((y20.length:Int)=1→0≤(0:Int)∧∃ y29:UInt8,y20[(0:Int).toNat]? =some y29∧∃ y32:ByteArray,gk w1 y29 y32∧r=y32)∧(¬ ((y20.length:Int)=1)→(((y20.length:Int)=256→r=(⟨#[46]⟩:ByteArray))∧(¬ ((y20.length:Int)=256)→∃ y36:(List UInt8),nb sv2 y36∧r=(⟨y36.toArray⟩:ByteArray)))))
set_option maxHeartbeats 4000000 in
theorem FR ⦃w1: Bool⦄ ⦃sv2: Arr 4 (UInt64)⦄ ⦃r: ByteArray⦄ (h: ge w1 sv2 r) : Cn Tryz.prog 33 [.agg [bv w1], .agg ((List.map ew sv2.l).flatten)] [] [] (Ret (.v (.string r))) := by
 refine al Tryz.func33 rfl rfl (by kernel_rfl) fun g hg=>?_;simp only [Tryz.ntmps33,av];refine wn_ 2 h fun h=>?_;refine cK rfl rfl rfl rfl fun b2 => ?_;refine cK rfl rfl rfl rfl fun b3 => ?_;refine wn_ 6 h fun h=>?_;refine v_ (an 0 [] ((List.map ew sv2.l).flatten) [] sq_ sl_ sl_ (aq (aE (by rfl))) ae.h rfl rfl) ?_;refine z1_ DT h fun y20 i21 h=>?_;refine i_ h (fun h=>?_) fun h=>?_
 ·refine fh ?_;refine az (m := 6) (by kernel_rfl) rfl ?_;obtain ⟨h30a, h⟩ := h;obtain ⟨y29, h30b, h⟩ := h;obtain ⟨y32, h31, h⟩ := h;refine o_ [1] ?_;refine pl_ 2 rfl (aJ h30a h30b ai.h ae.h rfl rfl) ?_;refine o_ [0,3] ?_;refine aG (i := 4) (by kernel_rfl) rfl ?_;refine cM FM h31 ?_;refine o_ [5] ?_;refine aB (by kernel_rfl) ?_;exact r_ h hg
 refine i_ h (fun h=>?_) fun h=>?_
 ·exact r_ h hg
 refine wn_ 5 h fun h=>?_;refine v_ (an 0 [] ((List.map ew sv2.l).flatten) [] sq_ sl_ sl_ (aq (aE (by rfl))) ae.h rfl rfl) ?_;refine z1_ FQ h fun y36 i37 h=>?_;refine v_ (oy (bs := y36) ai.h ai.h ai.h rfl rfl rfl (fun _ h => by injection h with h; exact h.symm)) ?_;exact r_ h hg
def fC (sep1:ByteArray) (l2:List ByteArray) (r:ByteArray):Prop:=
 ∃ y4:ByteArray,oh l2 sep1 y4∧r=y4
set_option maxHeartbeats 4000000 in
theorem uV ⦃sep1: ByteArray⦄ ⦃l2: List ByteArray⦄ ⦃r: ByteArray⦄ (h: fC sep1 l2 r) : Cn Tryz.prog 34 [.v (.string sep1), .sl 1 none (List.map es l2)] [] [] (Ret (.v (.string r))) := by
 refine al Tryz.func34 rfl rfl (by kernel_rfl) fun g hg=>?_;simp only [Tryz.ntmps34,av];refine wn_ 9 h fun h=>?_;obtain ⟨y4, h3, h⟩ := h;refine uO (rh l2 sep1 _ h3) Tryz.func63 (by kernel_rfl) rfl (.cons rfl (.refl _) (.cons rfl (.refl _) .nil)) rfl rfl ?_;exact r_ h hg
def jv (nv1:Int) (r:ByteArray):Prop:=
 ∃ y3:ByteArray,og nv1 y3∧r=y3
set_option maxHeartbeats 4000000 in
theorem AC ⦃nv1: Int⦄ ⦃r: ByteArray⦄ (h: jv nv1 r) : Cn Tryz.prog 37 [iv nv1] [] [] (Ret (.v (.string r))) := by
 refine al Tryz.func37 rfl rfl (by kernel_rfl) fun g hg=>?_;simp only [Tryz.ntmps37,av];refine wn_ 8 h fun h=>?_;obtain ⟨y3, h2, h⟩ := h;refine uO (rg nv1 _ h2) Tryz.func64 (by kernel_rfl) rfl (.cons rfl (.refl _) .nil) rfl rfl ?_;exact r_ h hg
def dz (w1:Bool) (sv2:ByteArray) (r:ByteArray):Prop:=
 ((w1=true→r=sv2)∧(¬ (w1=true)→InR ((((⟨#[92]⟩:ByteArray)).size:Int)+(sv2.size:Int))∧r=(((⟨#[92]⟩:ByteArray))++sv2)))
set_option maxHeartbeats 4000000 in
theorem mH ⦃w1: Bool⦄ ⦃sv2: ByteArray⦄ ⦃r: ByteArray⦄ (h: dz w1 sv2 r) : Cn Tryz.prog 36 [.agg [bv w1], .v (.string sv2)] [] [] (Ret (.v (.string r))) := by
 refine al Tryz.func36 rfl rfl (by kernel_rfl) fun g hg=>?_;simp only [Tryz.ntmps36,av];refine wn_ 2 h fun h=>?_;refine cK rfl rfl rfl rfl fun b2 => ?_;refine i_ h (fun h=>?_) fun h=>?_
 ·exact r_ h hg
 refine wn_ 5 h fun h=>?_;obtain ⟨h5, h⟩ := h;refine vp_ (jO h5 rfl rfl) ?_;exact r_ h hg
def dP (w1:Bool) (sv23:ByteArray) (r:ByteArray):Prop:=
 ∃ y49:ByteArray,dz w1 (⟨#[123]⟩:ByteArray) y49∧InR ((y49.size:Int)+(sv23.size:Int))∧∃ y52:ByteArray,dz w1 (⟨#[125]⟩:ByteArray) y52∧InR ((((y49++sv23)).size:Int)+(y52.size:Int))∧r=(((y49++sv23))++y52)
def gM (hi3:Int) (y5:ByteArray) (w1:Bool) (lo2:Int) (x27:Bool) (r:ByteArray):Prop:=
 ((x27=true→r=(⟨#[42]⟩:ByteArray))∧(¬ (x27=true)→((hi3=(-1)→InR ((y5.size:Int)+(((⟨#[44]⟩:ByteArray)).size:Int))∧dP w1 (y5++((⟨#[44]⟩:ByteArray))) r)∧(¬ (hi3=(-1))→((¬ (hi3=lo2)→∃ y38:ByteArray,jv hi3 y38∧InR ((((⟨#[44]⟩:ByteArray)).size:Int)+(y38.size:Int))∧InR ((y5.size:Int)+(((((⟨#[44]⟩:ByteArray))++y38)).size:Int))∧dP w1 (y5++((((⟨#[44]⟩:ByteArray))++y38))) r)∧(¬ (¬ (hi3=lo2))→dP w1 y5 r))))))
def ic (w1:Bool) (lo2:Int) (hi3:Int) (r:ByteArray):Prop:=
 ∃ y5:ByteArray,jv lo2 y5∧gM hi3 y5 w1 lo2 ((decide (lo2=0)) && (decide (hi3=(-1)))) r
set_option maxHeartbeats 4000000 in
theorem DU ⦃w1: Bool⦄ ⦃lo2: Int⦄ ⦃hi3: Int⦄ ⦃r: ByteArray⦄ (h: ic w1 lo2 hi3 r) : Cn Tryz.prog 35 [.agg [bv w1], iv lo2, iv hi3] [] [] (Ret (.v (.string r))) := by
 refine al Tryz.func35 rfl rfl (by kernel_rfl) fun g hg=>?_;simp only [Tryz.ntmps35,av];refine wn_ 2 h fun h=>?_;refine cK rfl rfl rfl rfl fun b3 => ?_;refine z0_ AC h fun y5 h=>?_;refine wn_ 3 h fun h=>?_;refine ax (fun σ=>∃ sv23, dP w1 sv23 r ∧ σ=⟨[(3, pw b3), (7, .v (.string sv23))], [⟨b3, 49, [bv w1]⟩], []⟩) ?_ ?_
 ·refine na ?_;refine ax (fun σ=>∃ x27, gM hi3 y5 w1 lo2 x27 r ∧ σ=⟨[(1, iv lo2), (2, iv hi3), (3, pw b3), (7, .v (.string y5)), (10, bv x27)], [⟨b3, 49, [bv w1]⟩], []⟩) ?_ ?_
  ·refine ks_ 13 h (fun h=>?_) fun h=>?_
   ·exact m_ h
   exact m_ h
  rintro _ ⟨x27,h,rfl⟩;refine i_ h (fun h=>?_) fun h=>?_
  ·exact r_ h hg
  refine i_ h (fun h=>?_) fun h=>?_
  ·refine wn_ 2 h fun h=>?_;obtain ⟨h34, h⟩ := h;refine vp_ (jO h34 rfl rfl) ?_;exact m_ h
  refine i_ h (fun h=>?_) fun h=>?_
  ·refine z0_ AC h fun y38 h=>?_;obtain ⟨h39, h⟩ := h;refine vp_ (jO h39 rfl rfl) ?_;obtain ⟨h40, h⟩ := h;refine vp_ (jO h40 rfl rfl) ?_;exact m_ h
  exact m_ h
 rintro _ ⟨sv23,h,rfl⟩;refine fh ?_;refine az (m := 8) (by kernel_rfl) rfl ?_;obtain ⟨y49, h48, h⟩ := h;obtain ⟨h50, h⟩ := h;obtain ⟨y52, h51, h⟩ := h;obtain ⟨h53, h⟩ := h;refine ff 3 #[true, true, true, true, true, false, false, false] (fun σ=>σ=⟨[(34, .v (.string ((y49 ++ sv23)))), (35, .agg [bv w1])], [], []⟩) ?_ (fun key54=>?_)
 ·rintro _ rfl;refine aG (i := 5) (by kernel_rfl) rfl ?_;refine cM mH h51 ?_;refine pl_ 6 rfl (jO h53 rfl rfl) ?_;refine o_ [7] ?_;refine aB (by kernel_rfl) ?_;exact r_ h hg
 refine o_ [2,0] ?_;refine cv (is := [1, 4]) (by kernel_rfl) (by simp) ?_;intro i hi; simp only [List.mem_cons, List.not_mem_nil, or_false] at hi; rcases hi with rfl | rfl
 ·refine ⟨_, rfl, ?_⟩;refine cM mH h48 ?_;refine pl_ 3 rfl (jO h50 rfl rfl) ?_;refine o_ [4] ?_;exact bm key54 rfl ⟨lk_, sm_⟩ rfl (by kernel_rfl)
 ·refine ⟨_, rfl, ?_⟩;refine wv_ (aK 0 ae.h rfl rfl rfl rfl) ?_;refine aG (i := 1) (by kernel_rfl) rfl ?_;refine cM mH h48 ?_;refine pl_ 3 rfl (jO h50 rfl rfl) ?_;exact bm key54 rfl ⟨lk_, sm_⟩ rfl (by kernel_rfl)
end Go.Proofs.YtnbceeholnkfeaaGreatDoor
