/- What functions' texts ask for, and the walks that show it (printed by a program). -/
import Derived.Test.YtnbceeholnkfeaaGreatDoorGKp4
namespace Go.Proofs.YtnbceeholnkfeaaGreatDoor
def gT (y213: ByteArray) (x232: Bool) (r: (List UInt8)×Bool) : Prop:=
 ((x232 = true→r = (([] : List UInt8),false))∧(¬ (x232 = true)→r = (y213.data.toList,true)))
def nt (x1: (List T4t)×Int) (x2: Bool) (ag1: ((List ByteArray)×Int×Int)→Prop) (x143: List ByteArray) (x145: Int) (x146: Int) (r: (List UInt8)×Bool) : Prop:=
 ((x146 < (x1.1.length : Int)→0≤(x146 : Int)∧∃ y196 : Int×Int×Int×Int×Int×Int×T7t,x1.1[(x146 : Int).toNat]? = some y196∧∃ y199 : ByteArray,ii x2 y196 x143 y199∧InR (x145 + (y199.size : Int))∧((16777216 < (x145 + (y199.size : Int))→r = (([] : List UInt8),false))∧(¬ (16777216 < (x145 + (y199.size : Int)))→eu (x143.length + ([y199]).length) 16∧InR (x146 + 1)∧ag1 ((x143++[y199]),(x145 + (y199.size : Int)),(x146 + 1)))))∧(¬ (x146 < (x1.1.length : Int))→InR ((x143.length : Int) - 1)∧0≤(((x143.length : Int) - 1) : Int)∧∃ y213 : ByteArray,x143[(((x143.length : Int) - 1) : Int).toNat]? = some y213∧y213.size≤maxLen∧∃ y217 : T0t×Int×Int,dg y213.data.toList x2 y217∧((¬ (y217.2.2 = 0)→gT y213 true r)∧(¬ (¬ (y217.2.2 = 0))→∃ y236 : Bool,lz y217.1 x1 y236∧gT y213 (!y236) r))))
def fc (x1: (List T4t)×Int) (x2: Bool) (r: (List UInt8)×Bool) : Prop:=
 ∃ y7 : Bool,eO x1 y7∧((¬ (y7 = true)→r = (([] : List UInt8),false))∧(¬ (¬ (y7 = true))→aR (fun ag1 s=>nt x1 x2 ag1 s.1 s.2.1 s.2.2 r) (([] : List ByteArray),0,0)))
set_option maxHeartbeats 4000000 in
theorem BK ⦃x1: (List T4t) × Int⦄ ⦃x2: Bool⦄ ⦃r: (List UInt8) × Bool⦄ (h: fc x1 x2 r) : Cn Tryz.prog 11 [.agg [.sl 10 none (List.map aa x1.1), iv x1.2], bv x2] [] [] fun rr bx tk=>rr=.tup [sb r.1, bv r.2] ∧ bx=[] ∧ tk=[] := by
 refine aj Tryz.func11 rfl rfl (by kernel_rfl) fun g hg=>?_;simp only [Tryz.ntmps11,au];refine wn_ 2 h fun h=>?_;refine cr rfl rfl rfl rfl fun b2 => ?_;refine z0_ k8_ h fun y7 h=>?_;refine i_ h (fun h=>?_) fun h=>?_
 ·exact r_ h hg
 refine wn_ 5 h fun h=>?_;refine vp_ (av aO.h rfl rfl) ?_;refine aL ar.h rfl rfl fun b6 => ?_;refine wn_ 23 h fun h=>?_;obtain ⟨Inv,⟨m0,hI⟩,hS⟩ := lq_ h;refine lp_ hI (fun σ m=>∃ x143 x145 x146 i144, Inv (x143, x145, x146) m ∧ σ=⟨[(1, bv x2), (2, pw b2), (6, pw b6), (7, .sl 1 (some i144) (List.map es x143)), (8, iv x145), (22, .sl 10 none (List.map aa x1.1)), (23, iv ((x1.1.length : Int))), (24, iv x146)], [⟨b6, 49, [bv x2]⟩, ⟨b2, 26, [.sl 10 none (List.map aa x1.1), iv x1.2]⟩], [⟨i144, 9, 1, x143.length⟩]⟩) ?_
 rintro _ m ⟨x143,x145,x146,i144,hI,rfl⟩;obtain ⟨ag1,hag1,h⟩ := bS hS hI;refine i_ h (fun h=>?_) fun h=>?_
 ·refine x_ h fun y196 h=>?_;refine v_ (ge (aa y196) [] sq_ sl_ (ao sl_) ae.h rfl) ?_;refine aL ar.h rfl rfl fun b10 => ?_;refine bg 0 ([iv 0, iv 0, iv 0, iv 0, iv 0, iv 0] ++ (List.map ew ((Arr.rep 4 (0 : UInt64))).l).flatten) rfl rfl ?_
  refine aB 0 [] ([iv 0, iv 0, iv 0, iv 0, iv 0, iv 0] ++ (List.map ew ((Arr.rep 4 (0 : UInt64))).l).flatten) [] (aa y196) ae.h rfl rfl rfl rfl rfl ?_
  refine wn_ 5 h fun h=>?_;refine v_ (al 0 [] (aa y196) [] sq_ sl_ sl_ (ao sl_) ae.h rfl rfl) ?_;refine z0_ Do h fun y199 h=>?_;refine i_ h (fun h=>?_) fun h=>?_
  ·exact r_ h hg
  refine wn_ 5 h fun h=>?_;refine aM (f := es) [y199] ah.h ar.h rfl rfl wr_ rfl rfl rfl rfl fun s40 => ?_;obtain ⟨h208, h⟩ := h;refine dX (l := x143) (l2 := [y199]) 1 h208 ah.h ar.h rfl rfl rfl (.refl _) rfl rfl rfl fun i209 => ?_;exact g_ h hag1
 refine x_ h fun y213 h=>?_;refine v_ (cB ae.h rfl rfl rfl) ?_;obtain ⟨h215, h⟩ := h;refine zY h215 ah.h ah.h ah.h rfl rfl rfl ?_;refine z0_ BJ h fun y217 h=>?_;refine wn_ 4 h fun h=>?_;refine aL ar.h rfl rfl fun b13 => ?_;refine wn_ 6 h fun h=>?_;refine aw (fun σ=>∃ x232, gT y213 x232 r ∧ σ=⟨[(12, sb y213.data.toList), (64, bv x232)], [], []⟩) ?_ ?_
 ·refine is_ 59 h (fun h=>?_) fun h=>?_
  ·exact m_ h
  refine z0_ DZ h fun y236 h=>?_;exact m_ h
 rintro _ ⟨x232,h,rfl⟩;refine i_ h (fun h=>?_) fun h=>?_
 ·exact r_ h hg
 exact r_ h hg
def io (x354: Bool) (r: Bool) : Prop:=
 r = x354
def ip (x1: Int×Int×Int×Int×Int×Int×T7t) (x304: Bool) (r: Bool) : Prop:=
 ((x304 = true→r = false)∧(¬ (x304 = true)→((¬ (x1.1 = 4)→((x1.2.2.2.1 = 0→r = (decide (x1.2.2.2.2.1 = 0)))∧(¬ (x1.2.2.2.1 = 0)→r = false)))∧(¬ (¬ (x1.1 = 4))→io ((decide (0≤x1.2.2.2.1)) && ((decide (x1.2.2.2.1≤255)) && ((decide (x1.2.2.2.2.1 = (-1))) || ((decide (x1.2.2.2.1≤x1.2.2.2.2.1)) && (decide (x1.2.2.2.2.1≤255)))))) r))))
def iq (x1: Int×Int×Int×Int×Int×Int×T7t) (x21: Bool) (x3: Int) (x180: Bool) (r: Bool) : Prop:=
 ((x180 = true→r = false)∧(¬ (x180 = true)→ip x1 (bif x21 then ((decide (x1.2.2.2.2.2.1 < 1)) || ((decide (x3 < x1.2.2.2.2.2.1)) || (bif (!x21) then ((!(decide (x1.2.2.2.2.2.1 = 0))) || ((!(decide (x1.1 = 1))) && (!(decide ((x1.2.2.2.2.2.2 : Arr 4 (UInt64)) = (Arr.rep 4 (0 : UInt64))))))) else ((!(decide (x1.1 = 1))) && (!(decide ((x1.2.2.2.2.2.2 : Arr 4 (UInt64)) = (Arr.rep 4 (0 : UInt64))))))))) else (bif (!x21) then ((!(decide (x1.2.2.2.2.2.1 = 0))) || ((!(decide (x1.1 = 1))) && (!(decide ((x1.2.2.2.2.2.2 : Arr 4 (UInt64)) = (Arr.rep 4 (0 : UInt64))))))) else ((!(decide (x1.1 = 1))) && (!(decide ((x1.2.2.2.2.2.2 : Arr 4 (UInt64)) = (Arr.rep 4 (0 : UInt64)))))))) r))
def fo (x1: Int×Int×Int×Int×Int×Int×T7t) (x3: Int) (x7: Bool) (x2: Int) (x14: Bool) (x21: Bool) (r: Bool) : Prop:=
 iq x1 x21 x3 ((decide (x1.1 < 0)) || ((decide (8 < x1.1)) || (bif x7 then ((decide (x1.2.1 < 0)) || ((decide (x2≤x1.2.1)) || (bif (!x7) then ((!(decide (x1.2.1 = 0))) || (bif x14 then ((decide (x1.2.2.1 < 0)) || ((decide (x2≤x1.2.2.1)) || ((!x14) && (!(decide (x1.2.2.1 = 0)))))) else ((!x14) && (!(decide (x1.2.2.1 = 0)))))) else (bif x14 then ((decide (x1.2.2.1 < 0)) || ((decide (x2≤x1.2.2.1)) || ((!x14) && (!(decide (x1.2.2.1 = 0)))))) else ((!x14) && (!(decide (x1.2.2.1 = 0)))))))) else (bif (!x7) then ((!(decide (x1.2.1 = 0))) || (bif x14 then ((decide (x1.2.2.1 < 0)) || ((decide (x2≤x1.2.2.1)) || ((!x14) && (!(decide (x1.2.2.1 = 0)))))) else ((!x14) && (!(decide (x1.2.2.1 = 0)))))) else (bif x14 then ((decide (x1.2.2.1 < 0)) || ((decide (x2≤x1.2.2.1)) || ((!x14) && (!(decide (x1.2.2.1 = 0)))))) else ((!x14) && (!(decide (x1.2.2.1 = 0))))))))) r
def fp (x1: Int×Int×Int×Int×Int×Int×T7t) (x3: Int) (x7: Bool) (x2: Int) (x14: Bool) (r: Bool) : Prop:=
 fo x1 x3 x7 x2 x14 ((decide (x1.1 = 5)) || (decide (x1.1 = 6))) r
def fq (x1: Int×Int×Int×Int×Int×Int×T7t) (x3: Int) (x2: Int) (x7: Bool) (r: Bool) : Prop:=
 fp x1 x3 x7 x2 ((decide (x1.1 = 2)) || (decide (x1.1 = 3))) r
def dx (x1: Int×Int×Int×Int×Int×Int×T7t) (x2: Int) (x3: Int) (r: Bool) : Prop:=
 fq x1 x3 x2 ((decide (2≤x1.1)) && (decide (x1.1≤5))) r
set_option maxHeartbeats 4000000 in
theorem zp ⦃x1: Int × Int × Int × Int × Int × Int × T7t⦄ ⦃x2: Int⦄ ⦃x3: Int⦄ ⦃r: Bool⦄ (h: dx x1 x2 x3 r) : Cn Tryz.prog 22 [.agg (aa x1), iv x2, iv x3] [] [] (Ret (bv r)) := by
 refine aj Tryz.func22 rfl rfl (by kernel_rfl) fun g hg=>?_;simp only [Tryz.ntmps22,au];unfold dx at h;refine wn_ 2 h fun h=>?_;refine cr rfl rfl rfl rfl fun b3 => ?_;refine wn_ 3 h fun h=>?_;refine aw (fun σ=>∃ x7, fq x1 x3 x2 x7 r ∧ σ=⟨[(1, iv x2), (2, iv x3), (3, pw b3), (7, bv x7)], [⟨b3, 43, (aa x1)⟩], []⟩) ?_ ?_
 ·refine ks_ 13 h (fun h=>?_) fun h=>?_
  ·exact m_ h
  exact m_ h
 rintro _ ⟨x7,h,rfl⟩;unfold fq at h;refine aw (fun σ=>∃ x14, fp x1 x3 x7 x2 x14 r ∧ σ=⟨[(1, iv x2), (2, iv x3), (3, pw b3), (7, bv x7), (8, bv x14)], [⟨b3, 43, (aa x1)⟩], []⟩) ?_ ?_
 ·refine ks_ 21 h (fun h=>?_) fun h=>?_
  ·exact m_ h
  exact m_ h
 rintro _ ⟨x14,h,rfl⟩;unfold fp at h;refine aw (fun σ=>∃ x21, fo x1 x3 x7 x2 x14 x21 r ∧ σ=⟨[(1, iv x2), (2, iv x3), (3, pw b3), (7, bv x7), (8, bv x14), (9, bv x21)], [⟨b3, 43, (aa x1)⟩], []⟩) ?_ ?_
 ·refine ks_ 29 h (fun h=>?_) fun h=>?_
  ·exact m_ h
  exact m_ h
 rintro _ ⟨x21,h,rfl⟩;unfold fo at h;refine eN ?_;refine aw (fun σ=>∃ x180, iq x1 x21 x3 x180 r ∧ σ=⟨[(2, iv x3), (3, pw b3), (9, bv x21), (87, bv x180)], [⟨b3, 43, (aa x1)⟩], []⟩) ?_ ?_
 ·refine ks_ 37 h (fun h=>?_) fun h=>?_
  ·exact m_ h
  refine ks_ 42 h (fun h=>?_) fun h=>?_
  ·exact m_ h
  refine ks_ 44 h (fun h=>?_) fun h=>?_
  ·refine ks_ 48 h (fun h=>?_) fun h=>?_
   ·exact m_ h
   refine ks_ 56 h (fun h=>?_) fun h=>?_
   ·exact m_ h
   refine ks_ 59 h (fun h=>?_) fun h=>?_
   ·refine ks_ 65 h (fun h=>?_) fun h=>?_
    ·exact m_ h
    refine ks_ 67 h (fun h=>?_) fun h=>?_
    ·refine ks_ 71 h (fun h=>?_) fun h=>?_
     ·exact m_ h
     refine ks_ 79 h (fun h=>?_) fun h=>?_
     ·exact m_ h
     refine ks_ 82 h (fun h=>?_) fun h=>?_
     ·exact m_ h
     exact m_ h
    refine ks_ 82 h (fun h=>?_) fun h=>?_
    ·exact m_ h
    exact m_ h
   refine ks_ 67 h (fun h=>?_) fun h=>?_
   ·refine ks_ 71 h (fun h=>?_) fun h=>?_
    ·exact m_ h
    refine ks_ 79 h (fun h=>?_) fun h=>?_
    ·exact m_ h
    refine ks_ 82 h (fun h=>?_) fun h=>?_
    ·exact m_ h
    exact m_ h
   refine ks_ 82 h (fun h=>?_) fun h=>?_
   ·exact m_ h
   exact m_ h
  refine ks_ 59 h (fun h=>?_) fun h=>?_
  ·refine ks_ 65 h (fun h=>?_) fun h=>?_
   ·exact m_ h
   refine ks_ 67 h (fun h=>?_) fun h=>?_
   ·refine ks_ 71 h (fun h=>?_) fun h=>?_
    ·exact m_ h
    refine ks_ 79 h (fun h=>?_) fun h=>?_
    ·exact m_ h
    refine ks_ 82 h (fun h=>?_) fun h=>?_
    ·exact m_ h
    exact m_ h
   refine ks_ 82 h (fun h=>?_) fun h=>?_
   ·exact m_ h
   exact m_ h
  refine ks_ 67 h (fun h=>?_) fun h=>?_
  ·refine ks_ 71 h (fun h=>?_) fun h=>?_
   ·exact m_ h
   refine ks_ 79 h (fun h=>?_) fun h=>?_
   ·exact m_ h
   refine ks_ 82 h (fun h=>?_) fun h=>?_
   ·exact m_ h
   exact m_ h
  refine ks_ 82 h (fun h=>?_) fun h=>?_
  ·exact m_ h
  exact m_ h
 rintro _ ⟨x180,h,rfl⟩;refine i_ h (fun h=>?_) fun h=>?_
 ·exact r_ h hg
 refine wn_ 3 h fun h=>?_;refine aw (fun σ=>∃ x304, ip x1 x304 r ∧ σ=⟨[(3, pw b3), (119, bv x304)], [⟨b3, 43, (aa x1)⟩], []⟩) ?_ ?_
 ·refine ks_ 89 h (fun h=>?_) fun h=>?_
  ·refine ks_ 93 h (fun h=>?_) fun h=>?_
   ·exact m_ h
   refine ks_ 100 h (fun h=>?_) fun h=>?_
   ·exact m_ h
   refine ks_ 103 h (fun h=>?_) fun h=>?_
   ·refine ks_ 109 h (fun h=>?_) fun h=>?_
    ·exact m_ h
    refine ks_ 113 h (fun h=>?_) fun h=>?_
    ·refine vp_ (bO bq.h rfl) ?_;refine v_ (al 0 [iv x1.1, iv x1.2.1, iv x1.2.2.1, iv x1.2.2.2.1, iv x1.2.2.2.2.1, iv x1.2.2.2.2.2.1] ((List.map ew x1.2.2.2.2.2.2.l).flatten) [] sq_ sl_ sl_ (ao (aD (by rfl))) ae.h rfl rfl) ?_;refine vp_ (bL (cs := ((List.map ew ((Arr.rep 4 (0 : UInt64))).l).flatten)) ah.h ae.h ar.h rfl (by rfl)) ?_
     refine vp_ (jO (f := bm) (a := x1.2.2.2.2.2.2) (b := (Arr.rep 4 (0 : UInt64))) (kV (t := 41) (e := 39) (f := ew) ah.h ae.h (by kernel_rfl) inferInstance (fun _ => rfl)) (by decide) (by kernel_rfl) ev_ ev_) ?_;exact m_ h
    exact m_ h
   refine ks_ 113 h (fun h=>?_) fun h=>?_
   ·refine vp_ (bO bq.h rfl) ?_;refine v_ (al 0 [iv x1.1, iv x1.2.1, iv x1.2.2.1, iv x1.2.2.2.1, iv x1.2.2.2.2.1, iv x1.2.2.2.2.2.1] ((List.map ew x1.2.2.2.2.2.2.l).flatten) [] sq_ sl_ sl_ (ao (aD (by rfl))) ae.h rfl rfl) ?_;refine vp_ (bL (cs := ((List.map ew ((Arr.rep 4 (0 : UInt64))).l).flatten)) ah.h ae.h ar.h rfl (by rfl)) ?_
    refine vp_ (jO (f := bm) (a := x1.2.2.2.2.2.2) (b := (Arr.rep 4 (0 : UInt64))) (kV (t := 41) (e := 39) (f := ew) ah.h ae.h (by kernel_rfl) inferInstance (fun _ => rfl)) (by decide) (by kernel_rfl) ev_ ev_) ?_;exact m_ h
   exact m_ h
  refine ks_ 103 h (fun h=>?_) fun h=>?_
  ·refine ks_ 109 h (fun h=>?_) fun h=>?_
   ·exact m_ h
   refine ks_ 113 h (fun h=>?_) fun h=>?_
   ·refine vp_ (bO bq.h rfl) ?_;refine v_ (al 0 [iv x1.1, iv x1.2.1, iv x1.2.2.1, iv x1.2.2.2.1, iv x1.2.2.2.2.1, iv x1.2.2.2.2.2.1] ((List.map ew x1.2.2.2.2.2.2.l).flatten) [] sq_ sl_ sl_ (ao (aD (by rfl))) ae.h rfl rfl) ?_;refine vp_ (bL (cs := ((List.map ew ((Arr.rep 4 (0 : UInt64))).l).flatten)) ah.h ae.h ar.h rfl (by rfl)) ?_
    refine vp_ (jO (f := bm) (a := x1.2.2.2.2.2.2) (b := (Arr.rep 4 (0 : UInt64))) (kV (t := 41) (e := 39) (f := ew) ah.h ae.h (by kernel_rfl) inferInstance (fun _ => rfl)) (by decide) (by kernel_rfl) ev_ ev_) ?_;exact m_ h
   exact m_ h
  refine ks_ 113 h (fun h=>?_) fun h=>?_
  ·refine vp_ (bO bq.h rfl) ?_;refine v_ (al 0 [iv x1.1, iv x1.2.1, iv x1.2.2.1, iv x1.2.2.2.1, iv x1.2.2.2.2.1, iv x1.2.2.2.2.2.1] ((List.map ew x1.2.2.2.2.2.2.l).flatten) [] sq_ sl_ sl_ (ao (aD (by rfl))) ae.h rfl rfl) ?_;refine vp_ (bL (cs := ((List.map ew ((Arr.rep 4 (0 : UInt64))).l).flatten)) ah.h ae.h ar.h rfl (by rfl)) ?_
   refine vp_ (jO (f := bm) (a := x1.2.2.2.2.2.2) (b := (Arr.rep 4 (0 : UInt64))) (kV (t := 41) (e := 39) (f := ew) ah.h ae.h (by kernel_rfl) inferInstance (fun _ => rfl)) (by decide) (by kernel_rfl) ev_ ev_) ?_;exact m_ h
  exact m_ h
 rintro _ ⟨x304,h,rfl⟩;refine i_ h (fun h=>?_) fun h=>?_
 ·exact r_ h hg
 refine i_ h (fun h=>?_) fun h=>?_
 ·refine is_ 126 h (fun h=>?_) fun h=>?_
  ·exact r_ h hg
  exact r_ h hg
 refine wn_ 2 h fun h=>?_;refine aw (fun σ=>∃ x354, io x354 r ∧ σ=⟨[(6, bv x354)], [], []⟩) ?_ ?_
 ·refine ks_ 134 h (fun h=>?_) fun h=>?_
  ·refine ks_ 139 h (fun h=>?_) fun h=>?_
   ·refine ks_ 143 h (fun h=>?_) fun h=>?_
    ·exact m_ h
    refine ks_ 149 h (fun h=>?_) fun h=>?_
    ·exact m_ h
    exact m_ h
   exact m_ h
  exact m_ h
 rintro _ ⟨x354,h,rfl⟩;exact r_ h hg
def hP (o1: (List UInt8)×Int×Int×T0t×T5t) (nv3: Int×Int×Int×Int×Int×Int×T7t) (r: Int×T2t) : Prop:=
 ((1000≤(o1.2.2.2.1.1.length : Int)→r = ((-1),o1))∧(¬ (1000≤(o1.2.2.2.1.1.length : Int))→∃ y28 : Bool,dx nv3 (o1.2.2.2.1.1.length : Int) o1.2.2.2.1.2 y28∧((¬ (y28 = true)→r = ((-1),o1))∧(¬ (¬ (y28 = true))→eu ((([] : List T4t)).length + o1.2.2.2.1.1.length) 80∧eu (((([] : List T4t)++o1.2.2.2.1.1)).length + ([nv3]).length) 80∧InR (((((([] : List T4t)++o1.2.2.2.1.1)++[nv3])).length : Int) - 1)∧r = ((((((([] : List T4t)++o1.2.2.2.1.1)++[nv3])).length : Int) - 1),(o1.1,o1.2.1,o1.2.2.1,(((([] : List T4t)++o1.2.2.2.1.1)++[nv3]),o1.2.2.2.1.2),o1.2.2.2.2))))))
set_option maxHeartbeats 4000000 in
theorem CE ⦃o1: (List UInt8) × Int × Int × T0t × T5t⦄ ⦃nv3: Int × Int × Int × Int × Int × Int × T7t⦄ ⦃r: Int × T2t⦄ (h: hP o1 nv3 r) (bx0: Nat) (ia2: Option (Nat × Nat)) : Cn Tryz.prog 51 [.v (.pointer (some ⟨bx0, 3, none⟩)), .agg (aa nv3)] [⟨bx0, 76, ([sb o1.1, iv o1.2.1, iv o1.2.2.1, .sl 10 (some ia2) (List.map aa o1.2.2.2.1.1), iv o1.2.2.2.1.2] ++ (List.map eB o1.2.2.2.2.l).flatten)⟩] [⟨ia2, 43, 10, o1.2.2.2.1.1.length⟩] fun rr bx tk=>∃ j1, rr=iv r.1 ∧ bx=[⟨bx0, 76, ([sb r.2.1, iv r.2.2.1, iv r.2.2.2.1, .sl 10 (some j1) (List.map aa r.2.2.2.2.1.1), iv r.2.2.2.2.1.2] ++ (List.map eB r.2.2.2.2.2.l).flatten)⟩] ∧ tk=[⟨j1, 43, 10, r.2.2.2.2.1.1.length⟩] := by
 refine aj Tryz.func51 rfl rfl (by kernel_rfl) fun g hg=>?_;simp only [Tryz.ntmps51,au];refine wn_ 2 h fun h=>?_;refine cr rfl rfl rfl rfl fun b3 => ?_;refine wn_ 5 h fun h=>?_;refine ay (m := 20) (by kernel_rfl) rfl ?_;refine o_ [0,1,2,3,4,5,6] ?_;refine ip_ 11 h (fun h=>?_) fun h=>?_
 ·refine o_ [7,8,9,10,11,12,13,14,15,16,17,18,19] ?_;refine az (by kernel_rfl) ?_;exact r_ h hg
 obtain ⟨y28, h27, h⟩ := h;refine o_ [8,9,10,13,14,15] ?_;refine cU 7 [11, 12, 16] rfl (al 0 [] (aa nv3) [] sq_ sl_ sl_ (ao sl_) ae.h rfl rfl) rfl rfl (by kernel_rfl) (by kernel_rfl) (by kernel_rfl) (fun _ _ _ _ h => h) ?_
 refine o_ [11,12,16] ?_;refine aE (i := 17) (by kernel_rfl) rfl ?_;refine cw zp h27 ?_;refine o_ [18,19] ?_;refine az (by kernel_rfl) ?_;refine i_ h (fun h=>?_) fun h=>?_
 ·exact r_ h hg
 refine wn_ 3 h fun h=>?_;refine ay (m := 13) (by kernel_rfl) rfl ?_;obtain ⟨h38, h⟩ := h;obtain ⟨h40, h⟩ := h;refine eL 4 #[true, true, true, true, true, true, true, true, true, false, false, false, false] (fun σ=>∃ i39 s33, σ=⟨[(0, .v (.pointer (some ⟨bx0, 3, none⟩))), (25, .v (.pointer (some ⟨bx0, 3, none⟩))), (31, .sl 10 (some i39) (List.map aa ((([] : List T4t) ++ o1.2.2.2.1.1)))), (33, .sl 10 (some (some (s33, 1))) (List.map aa ([nv3])))], [⟨bx0, 76, ([sb o1.1, iv o1.2.1, iv o1.2.2.1, .sl 10 (some ia2) (List.map aa o1.2.2.2.1.1), iv o1.2.2.2.1.2] ++ (List.map eB o1.2.2.2.2.l).flatten)⟩], [⟨(some (s33, 1)), 43, 10, ([nv3]).length⟩, ⟨i39, 43, 10, ((([] : List T4t) ++ o1.2.2.2.1.1)).length⟩, ⟨ia2, 43, 10, o1.2.2.2.1.1.length⟩]⟩) ?_ (fun key42=>?_)
 ·rintro _ ⟨i39,s33,rfl⟩;refine aE (i := 9) (by kernel_rfl) rfl ?_;refine jR (l := (([] : List T4t) ++ o1.2.2.2.1.1)) (l2 := [nv3]) 1 h40 ah.h ar.h rfl rfl rfl (.refl _) rfl rfl rfl fun i41 => ?_;refine o_ [10,11] ?_;refine aE (i := 12) (by kernel_rfl) rfl ?_;refine cj 0 ae.h rfl rfl rfl rfl rfl rfl rfl ?_;refine az (by kernel_rfl) ?_
  exact r_ h hg
 refine eL 5 #[true, true, true, true, true, true, true, true, false, false, false, false, false] (fun σ=>∃ i39, σ=⟨[(0, .v (.pointer (some ⟨bx0, 3, none⟩))), (25, .v (.pointer (some ⟨bx0, 3, none⟩))), (31, .sl 10 (some i39) (List.map aa ((([] : List T4t) ++ o1.2.2.2.1.1)))), (32, .agg (aa nv3))], [⟨bx0, 76, ([sb o1.1, iv o1.2.1, iv o1.2.2.1, .sl 10 (some ia2) (List.map aa o1.2.2.2.1.1), iv o1.2.2.2.1.2] ++ (List.map eB o1.2.2.2.2.l).flatten)⟩], [⟨i39, 43, 10, ((([] : List T4t) ++ o1.2.2.2.1.1)).length⟩, ⟨ia2, 43, 10, o1.2.2.2.1.1.length⟩]⟩) ?_ (fun key45=>?_)
 ·rintro _ ⟨i39,rfl⟩;refine aE (i := 8) (by kernel_rfl) rfl ?_;refine d7 (f := aa) [nv3] ah.h ar.h rfl (.cons rfl (lM sl_) rfl rfl .nil) wr_ rfl rfl rfl rfl fun s33 => ?_;exact ba key42 ⟨i39, s33, rfl⟩ ⟨lk_, sm_⟩ rfl (by kernel_rfl)
 refine eL 5 #[true, true, true, true, true, true, false, true, true, false, false, false, false] (fun σ=>∃ s26 s33, σ=⟨[(0, .v (.pointer (some ⟨bx0, 3, none⟩))), (25, .v (.pointer (some ⟨bx0, 3, none⟩))), (26, .sl 10 (some (some (s26, 0))) (List.map aa (([] : List T4t)))), (30, .sl 10 (some ia2) (List.map aa o1.2.2.2.1.1)), (33, .sl 10 (some (some (s33, 1))) (List.map aa ([nv3])))], [⟨bx0, 76, ([sb o1.1, iv o1.2.1, iv o1.2.2.1, .sl 10 (some ia2) (List.map aa o1.2.2.2.1.1), iv o1.2.2.2.1.2] ++ (List.map eB o1.2.2.2.2.l).flatten)⟩], [⟨(some (s33, 1)), 43, 10, ([nv3]).length⟩, ⟨(some (s26, 0)), 43, 10, (([] : List T4t)).length⟩, ⟨ia2, 43, 10, o1.2.2.2.1.1.length⟩]⟩) ?_ (fun key46=>?_)
 ·rintro _ ⟨s26,s33,rfl⟩;refine aE (i := 6) (by kernel_rfl) rfl ?_;refine jR (l := ([] : List T4t)) (l2 := o1.2.2.2.1.1) 1 h38 ah.h ar.h rfl rfl rfl (.refl _) rfl rfl rfl fun i39 => ?_;exact ba key42 ⟨i39, s33, rfl⟩ ⟨lk_, sm_⟩ rfl (by kernel_rfl)
 refine eL 6 #[true, true, true, true, true, true, false, true, false, false, false, false, false] (fun σ=>∃ s26, σ=⟨[(0, .v (.pointer (some ⟨bx0, 3, none⟩))), (25, .v (.pointer (some ⟨bx0, 3, none⟩))), (26, .sl 10 (some (some (s26, 0))) (List.map aa (([] : List T4t)))), (30, .sl 10 (some ia2) (List.map aa o1.2.2.2.1.1)), (32, .agg (aa nv3))], [⟨bx0, 76, ([sb o1.1, iv o1.2.1, iv o1.2.2.1, .sl 10 (some ia2) (List.map aa o1.2.2.2.1.1), iv o1.2.2.2.1.2] ++ (List.map eB o1.2.2.2.2.l).flatten)⟩], [⟨(some (s26, 0)), 43, 10, (([] : List T4t)).length⟩, ⟨ia2, 43, 10, o1.2.2.2.1.1.length⟩]⟩) ?_ (fun key47=>?_)
 ·rintro _ ⟨s26,rfl⟩;refine cg (is := [6, 8]) (by kernel_rfl) (by simp) ?_;intro i hi; simp only [List.mem_cons, List.not_mem_nil, or_false] at hi; rcases hi with rfl | rfl
  ·refine ⟨_, rfl, ?_⟩;refine jR (l := ([] : List T4t)) (l2 := o1.2.2.2.1.1) 0 h38 ah.h ar.h rfl rfl rfl (.refl _) rfl rfl rfl fun i39 => ?_;exact ba key45 ⟨i39, rfl⟩ ⟨lk_, sm_⟩ rfl (by kernel_rfl)
  ·refine ⟨_, rfl, ?_⟩;refine d7 (f := aa) [nv3] ah.h ar.h rfl (.cons rfl (lM sl_) rfl rfl .nil) wr_ rfl rfl rfl rfl fun s33 => ?_;exact ba key46 ⟨s26, s33, rfl⟩ ⟨lk_, sm_⟩ rfl (by kernel_rfl)
 refine o_ [0,2,3,4,5] ?_;refine cg (is := [1, 7]) (by kernel_rfl) (by simp) ?_;intro i hi; simp only [List.mem_cons, List.not_mem_nil, or_false] at hi; rcases hi with rfl | rfl
 ·refine ⟨_, rfl, ?_⟩;refine d7 (f := aa) ([] : List T4t) ah.h ar.h rfl .nil wr_ rfl rfl rfl rfl fun s26 => ?_;refine cg (is := [6, 7]) (by kernel_rfl) (by simp) ?_;intro i hi; simp only [List.mem_cons, List.not_mem_nil, or_false] at hi; rcases hi with rfl | rfl
  ·refine ⟨_, rfl, ?_⟩;refine jR (l := ([] : List T4t)) (l2 := o1.2.2.2.1.1) 0 h38 ah.h ar.h rfl rfl rfl (.refl _) rfl rfl rfl fun i39 => ?_;refine cU 7 [] rfl (al 0 [] (aa nv3) [] sq_ sl_ sl_ (ao sl_) ae.h rfl rfl) rfl rfl (by kernel_rfl) (by kernel_rfl) (by kernel_rfl) (fun _ _ _ _ h => h) ?_
   exact ba key45 ⟨i39, rfl⟩ ⟨lk_, sm_⟩ rfl (by kernel_rfl)
  ·refine ⟨_, rfl, ?_⟩;refine wv_ (al 0 [] (aa nv3) [] sq_ sl_ sl_ (ao sl_) ae.h rfl rfl) ?_;exact ba key47 ⟨s26, rfl⟩ ⟨lk_, sm_⟩ rfl (by kernel_rfl)
 ·refine ⟨_, rfl, ?_⟩;refine wv_ (al 0 [] (aa nv3) [] sq_ sl_ sl_ (ao sl_) ae.h rfl rfl) ?_;refine cg (is := [1, 8]) (by kernel_rfl) (by simp) ?_;intro i hi; simp only [List.mem_cons, List.not_mem_nil, or_false] at hi; rcases hi with rfl | rfl
  ·refine ⟨_, rfl, ?_⟩;refine d7 (f := aa) ([] : List T4t) ah.h ar.h rfl .nil wr_ rfl rfl rfl rfl fun s26 => ?_;exact ba key47 ⟨s26, rfl⟩ ⟨lk_, sm_⟩ rfl (by kernel_rfl)
  ·refine ⟨_, rfl, ?_⟩;refine d7 (f := aa) [nv3] ah.h ar.h rfl (.cons rfl (lM sl_) rfl rfl .nil) wr_ rfl rfl rfl rfl fun s33 => ?_;refine aE (i := 1) (by kernel_rfl) rfl ?_;refine d7 (f := aa) ([] : List T4t) ah.h ar.h rfl .nil wr_ rfl rfl rfl rfl fun s26 => ?_;exact ba key46 ⟨s26, s33, rfl⟩ ⟨lk_, by refine SubM.trans (SubM.mvT 2 rfl) ?_; refine SubM.trans (SubM.mvT 1 rfl) ?_; refine SubM.trans (SubM.mvT 2 rfl) ?_; (simp only [List.eraseIdx]); exact sm_⟩ rfl (by kernel_rfl)
def ap (o1: (List UInt8)×Int×Int×T0t×T5t) (nv3: Int×Int×Int×Int×Int×Int×T7t) (r: Int×T2t) : Prop:=
 ((¬ (o1.2.2.1 = 0)→r = (0,o1))∧(¬ (¬ (o1.2.2.1 = 0))→∃ y12 : Int×T2t,hP o1 nv3 y12∧((y12.1 < 0→r = (y12.1,(y12.2.1,y12.2.2.1,8,y12.2.2.2.2.1,y12.2.2.2.2.2)))∧(¬ (y12.1 < 0)→r = (y12.1,y12.2)))))
set_option maxHeartbeats 4000000 in
theorem ir ⦃o1: (List UInt8) × Int × Int × T0t × T5t⦄ ⦃nv3: Int × Int × Int × Int × Int × Int × T7t⦄ ⦃r: Int × T2t⦄ (h: ap o1 nv3 r) (bx0: Nat) (ia2: Option (Nat × Nat)) : Cn Tryz.prog 27 [pw bx0, .agg (aa nv3)] [⟨bx0, 76, ([sb o1.1, iv o1.2.1, iv o1.2.2.1, .sl 10 (some ia2) (List.map aa o1.2.2.2.1.1), iv o1.2.2.2.1.2] ++ (List.map eB o1.2.2.2.2.l).flatten)⟩] [⟨ia2, 43, 10, o1.2.2.2.1.1.length⟩] fun rr bx tk=>∃ j1, rr=iv r.1 ∧ bx=[⟨bx0, 76, ([sb r.2.1, iv r.2.2.1, iv r.2.2.2.1, .sl 10 (some j1) (List.map aa r.2.2.2.2.1.1), iv r.2.2.2.2.1.2] ++ (List.map eB r.2.2.2.2.2.l).flatten)⟩] ∧ tk=[⟨j1, 43, 10, r.2.2.2.2.1.1.length⟩] := by
 refine aj Tryz.func27 rfl rfl (by kernel_rfl) fun g hg=>?_;simp only [Tryz.ntmps27,au];refine wn_ 2 h fun h=>?_;refine cr rfl rfl rfl rfl fun b3 => ?_;refine i_ h (fun h=>?_) fun h=>?_
 ·exact r_ h hg
 refine wn_ 3 h fun h=>?_;refine ay (m := 6) (by kernel_rfl) rfl ?_;obtain ⟨y12, h11, h⟩ := h;refine o_ [0,1,2] ?_;refine cU 3 [] rfl (al 0 [] (aa nv3) [] sq_ sl_ sl_ (ao sl_) ae.h rfl rfl) rfl rfl (by kernel_rfl) (by kernel_rfl) (by kernel_rfl) (fun _ _ _ _ h => h) ?_
 refine aE (i := 4) (by kernel_rfl) rfl ?_;refine qk CE h11 fun i13=>?_;refine o_ [5] ?_;refine az (by kernel_rfl) ?_;refine i_ h (fun h=>?_) fun h=>?_
 ·exact r_ h hg
 exact r_ h hg
def dV (o1: (List UInt8)×Int×Int×T0t×T5t) (r: T0t×Int×Int) : Prop:=
 ((¬ (o1.2.2.1 = 0)→r = ((([] : List T4t),0),o1.2.1,o1.2.2.1))∧(¬ (¬ (o1.2.2.1 = 0))→r = (o1.2.2.2.1,0,0)))
set_option maxHeartbeats 4000000 in
theorem vH ⦃o1: (List UInt8) × Int × Int × T0t × T5t⦄ ⦃r: T0t × Int × Int⦄ (h: dV o1 r) (bx0: Nat) (ia2: Option (Nat × Nat)) : Cn Tryz.prog 28 [pw bx0] [⟨bx0, 76, ([sb o1.1, iv o1.2.1, iv o1.2.2.1, .sl 10 (some ia2) (List.map aa o1.2.2.2.1.1), iv o1.2.2.2.1.2] ++ (List.map eB o1.2.2.2.2.l).flatten)⟩] [⟨ia2, 43, 10, o1.2.2.2.1.1.length⟩] fun rr bx tk=>rr=.tup [.agg [.sl 10 none (List.map aa r.1.1), iv r.1.2], iv r.2.1, iv r.2.2] ∧ bx=[⟨bx0, 76, ([sb o1.1, iv o1.2.1, iv o1.2.2.1, .sl 10 (some ia2) (List.map aa o1.2.2.2.1.1), iv o1.2.2.2.1.2] ++ (List.map eB o1.2.2.2.2.l).flatten)⟩] ∧ tk=[⟨ia2, 43, 10, o1.2.2.2.1.1.length⟩] := by
 refine aj Tryz.func28 rfl rfl (by kernel_rfl) fun g hg=>?_;simp only [Tryz.ntmps28,au];refine wn_ 2 h fun h=>?_;refine aL ar.h rfl rfl fun b2 => ?_;refine i_ h (fun h=>?_) fun h=>?_
 ·refine eN ?_;refine ay (m := 12) (by kernel_rfl) rfl ?_;refine eL 0 #[true, true, true, true, true, true, true, true, true, true, true, true] (fun σ=>σ=⟨[(2, pw b2), (3, iv o1.2.1), (4, iv o1.2.2.1)], [⟨b2, 26, [.v (.slice none 0 0), iv 0]⟩, ⟨bx0, 76, ([sb o1.1, iv o1.2.1, iv o1.2.2.1, .sl 10 (some ia2) (List.map aa o1.2.2.2.1.1), iv o1.2.2.2.1.2] ++ (List.map eB o1.2.2.2.2.l).flatten)⟩], [⟨ia2, 43, 10, o1.2.2.2.1.1.length⟩]⟩) ?_ (fun key10=>?_)
  ·rintro _ rfl;refine az (by kernel_rfl) ?_;exact rl_ h hg
  refine pl_ 0 rfl (av aO.h rfl rfl) ?_;refine o_ [1,2,3,5,6,7] ?_;refine cg (is := [4, 8, 9]) (by kernel_rfl) (by simp) ?_;intro i hi; simp only [List.mem_cons, List.not_mem_nil, or_false] at hi; rcases hi with rfl | rfl | rfl
  ·refine ⟨_, rfl, ?_⟩;refine wv_ (aJ 1 ae.h rfl rfl rfl rfl) ?_;refine d8 [⟨8, 18, iv o1.2.2.1⟩] 3 ?_;refine a8 9 (by kernel_rfl) rfl (.cons rfl rfl rfl (fun _ => rfl) (fun _ => aJ 1 ae.h rfl rfl rfl rfl) .nil) fun D l td hR => ?_;refine cj 0 ae.h rfl rfl rfl rfl rfl rfl rfl ?_;refine dQ hR ?_;refine nf 10 (by kernel_rfl) rfl (fun _ => ia rfl) (fun _ => rfl) rfl (by kernel_rfl) (fun _ _ _ _ h => h) ?_
   refine ci (l' := #[true, true, true, true, true, true, true, true, true, true, true, false]) (by kernel_rfl) (.cons rfl rfl rfl (fun _ => rfl) (fun _ => aJ 1 ae.h rfl rfl rfl rfl) .nil) (by kernel_rfl) rfl (by kernel_rfl) (by kernel_rfl) ?_;simp only [List.nil_append, List.cons_append, List.map_cons, List.map_nil];refine o_ [11] ?_;exact ba key10 rfl ⟨lk_, sm_⟩ rfl (by kernel_rfl)
  ·refine ⟨_, rfl, ?_⟩;refine wv_ (aJ 1 ae.h rfl rfl rfl rfl) ?_;refine d8 [⟨4, 14, iv o1.2.1⟩] 3 ?_;refine a8 9 (by kernel_rfl) rfl (.cons rfl rfl rfl (fun _ => rfl) (fun _ => aJ 1 ae.h rfl rfl rfl rfl) .nil) fun D l td hR => ?_;refine cj 0 ae.h rfl rfl rfl rfl rfl rfl rfl ?_;refine dQ hR ?_;refine ci (l' := #[true, true, true, true, true, true, true, true, true, true, false, false]) (by kernel_rfl) (.cons rfl rfl rfl (fun _ => rfl) (fun _ => aJ 1 ae.h rfl rfl rfl rfl) .nil) (by kernel_rfl) rfl (by kernel_rfl) (by kernel_rfl) ?_
   simp only [List.nil_append, List.cons_append, List.map_cons, List.map_nil];refine o_ [10,11] ?_;exact ba key10 rfl ⟨lk_, sm_⟩ rfl (by kernel_rfl)
  ·refine ⟨_, rfl, ?_⟩;refine cj 0 ae.h rfl rfl rfl rfl rfl rfl rfl ?_;refine o_ [4,10,8,11] ?_;exact ba key10 rfl ⟨lk_, sm_⟩ rfl (by kernel_rfl)
 refine wn_ 3 h fun h=>?_;refine ay (m := 14) (by kernel_rfl) rfl ?_;refine o_ [0,1,2,3,5,6,7,8,4,9] ?_;refine pl_ 10 rfl (av aO.h rfl rfl) ?_;refine aE (i := 11) (by kernel_rfl) rfl ?_;refine cj 0 ae.h rfl rfl rfl rfl rfl rfl rfl ?_;refine o_ [12,13] ?_;refine az (by kernel_rfl) ?_;exact rl_ h hg
def ai (o1: (List UInt8)×Int×Int×T0t×T5t) (k3: Int) (r: Int) : Prop:=
 InR (o1.2.1 + k3)∧(((o1.2.1 + k3) < 0→r = (-1))∧(¬ ((o1.2.1 + k3) < 0)→InR (o1.2.1 + k3)∧(((o1.1.length : Int)≤(o1.2.1 + k3)→r = (-1))∧(¬ ((o1.1.length : Int)≤(o1.2.1 + k3))→InR (o1.2.1 + k3)∧0≤((o1.2.1 + k3) : Int)∧∃ y35 : UInt8,o1.1[((o1.2.1 + k3) : Int).toNat]? = some y35∧r = (y35.toNat : Int)))))
set_option maxHeartbeats 4000000 in
theorem ec ⦃o1: (List UInt8) × Int × Int × T0t × T5t⦄ ⦃k3: Int⦄ ⦃r: Int⦄ (h: ai o1 k3 r) (bx0: Nat) (ia2: Option (Nat × Nat)) : Cn Tryz.prog 52 [pw bx0, iv k3] [⟨bx0, 76, ([sb o1.1, iv o1.2.1, iv o1.2.2.1, .sl 10 (some ia2) (List.map aa o1.2.2.2.1.1), iv o1.2.2.2.1.2] ++ (List.map eB o1.2.2.2.2.l).flatten)⟩] [⟨ia2, 43, 10, o1.2.2.2.1.1.length⟩] fun rr bx tk=>rr=iv r ∧ bx=[⟨bx0, 76, ([sb o1.1, iv o1.2.1, iv o1.2.2.1, .sl 10 (some ia2) (List.map aa o1.2.2.2.1.1), iv o1.2.2.2.1.2] ++ (List.map eB o1.2.2.2.2.l).flatten)⟩] ∧ tk=[⟨ia2, 43, 10, o1.2.2.2.1.1.length⟩] := by
 refine aj Tryz.func52 rfl rfl (by kernel_rfl) fun g hg=>?_;simp only [Tryz.ntmps52,au];refine wn_ 7 h fun h=>?_;refine ay (m := 21) (by kernel_rfl) rfl ?_;obtain ⟨h23, h⟩ := h;refine o_ [0,1,2,4,3,5,6,7] ?_;refine ip_ 12 h (fun h=>?_) fun h=>?_
 ·refine o_ [8,9,10,11,12,13,14,15,16,17,18,19,20] ?_;refine az (by kernel_rfl) ?_;exact r_ h hg
 obtain ⟨h26, h⟩ := h;refine o_ [8,9,10,12,14,15,16,11,13,17,18,19,20] ?_;refine az (by kernel_rfl) ?_;refine i_ h (fun h=>?_) fun h=>?_
 ·exact r_ h hg
 refine wn_ 3 h fun h=>?_;refine ay (m := 14) (by kernel_rfl) rfl ?_;obtain ⟨h34, h⟩ := h;obtain ⟨h36a, h⟩ := h;obtain ⟨y35, h36b, h⟩ := h;refine o_ [0,1,2,4,5,6,8,7,9,3] ?_;refine pl_ 10 rfl (aI h36a h36b ah.h ae.h rfl rfl) ?_;refine o_ [11,12,13] ?_;refine az (by kernel_rfl) ?_;exact r_ h hg
def hU (l3: List Int) (ag1: (Int×Int×(List UInt8)×Int×Int×(List T4t)×Int×T5t)→Prop) (k75: Int) (iv76: Int) (f77: List UInt8) (f78: Int) (f79: Int) (f80: List T4t) (f82: Int) (f83: Arr 10 (Bool)) (r: Int×T2t) : Prop:=
 ((iv76 < (l3.length : Int)→0≤(iv76 : Int)∧∃ y102 : Int,l3[(iv76 : Int).toNat]? = some y102∧∃ y105 : Int×T2t,ap (f77,f78,f79,(f80,f82),f83) (2,k75,y102,0,0,0,(Arr.rep 4 (0 : UInt64))) y105∧InR (iv76 + 1)∧ag1 (y105.1,(iv76 + 1),y105.2.1,y105.2.2.1,y105.2.2.2.1,y105.2.2.2.2.1.1,y105.2.2.2.2.1.2,y105.2.2.2.2.2))∧(¬ (iv76 < (l3.length : Int))→r = (k75,(f77,f78,f79,(f80,f82),f83))))
def cx (o1: (List UInt8)×Int×Int×T0t×T5t) (l3: List Int) (r: Int×T2t) : Prop:=
 (((l3.length : Int) = 0→∃ y14 : Int×T2t,ap o1 (0,0,0,0,0,0,(Arr.rep 4 (0 : UInt64))) y14∧r = (y14.1,y14.2))∧(¬ ((l3.length : Int) = 0)→0≤(0 : Int)∧∃ y16 : Int,l3[(0 : Int).toNat]? = some y16∧aR (fun ag1 s=>hU l3 ag1 s.1 s.2.1 s.2.2.1 s.2.2.2.1 s.2.2.2.2.1 s.2.2.2.2.2.1 s.2.2.2.2.2.2.1 s.2.2.2.2.2.2.2 r) (y16,1,o1.1,o1.2.1,o1.2.2.1,o1.2.2.2.1.1,o1.2.2.2.1.2,o1.2.2.2.2)))
set_option maxHeartbeats 4000000 in
theorem zq ⦃o1: (List UInt8) × Int × Int × T0t × T5t⦄ ⦃l3: List Int⦄ ⦃r: Int × T2t⦄ (h: cx o1 l3 r) (bx0: Nat) (ia2: Option (Nat × Nat)) : Cn Tryz.prog 54 [pw bx0, .sl 1 none (List.map ei l3)] [⟨bx0, 76, ([sb o1.1, iv o1.2.1, iv o1.2.2.1, .sl 10 (some ia2) (List.map aa o1.2.2.2.1.1), iv o1.2.2.2.1.2] ++ (List.map eB o1.2.2.2.2.l).flatten)⟩] [⟨ia2, 43, 10, o1.2.2.2.1.1.length⟩] fun rr bx tk=>∃ j1, rr=iv r.1 ∧ bx=[⟨bx0, 76, ([sb r.2.1, iv r.2.2.1, iv r.2.2.2.1, .sl 10 (some j1) (List.map aa r.2.2.2.2.1.1), iv r.2.2.2.2.1.2] ++ (List.map eB r.2.2.2.2.2.l).flatten)⟩] ∧ tk=[⟨j1, 43, 10, r.2.2.2.2.1.1.length⟩] := by
 refine aj Tryz.func54 rfl rfl (by kernel_rfl) fun g hg=>?_;simp only [Tryz.ntmps54,au];refine i_ h (fun h=>?_) fun h=>?_
 ·refine wn_ 3 h fun h=>?_;refine vp_ (av (cs := ([iv 0, iv 0, iv 0, iv 0, iv 0, iv 0] ++ (List.map ew ((Arr.rep 4 (0 : UInt64))).l).flatten)) aO.h rfl (by exact congrArg some sq_)) ?_;refine c1_ ir h fun y14 i15 h=>?_;exact r_ h hg
 refine x_ h fun y16 h=>?_;refine wn_ 11 h fun h=>?_;obtain ⟨Inv,⟨m0,hI⟩,hS⟩ := lq_ h;refine lp_ hI (fun σ m=>∃ k75 iv76 f77 f78 f79 f80 f82 f83 i81, Inv (k75, iv76, f77, f78, f79, f80, f82, f83) m ∧ σ=⟨[(0, pw bx0), (1, .sl 1 none (List.map ei l3)), (5, iv k75), (6, iv iv76)], [⟨bx0, 76, ([sb f77, iv f78, iv f79, .sl 10 (some i81) (List.map aa f80), iv f82] ++ (List.map eB f83.l).flatten)⟩], [⟨i81, 43, 10, f80.length⟩]⟩) ?_
 rintro _ m ⟨k75,iv76,f77,f78,f79,f80,f82,f83,i81,hI,rfl⟩;obtain ⟨ag1,hag1,h⟩ := bS hS hI;refine i_ h (fun h=>?_) fun h=>?_
 ·refine x_ h fun y102 h=>?_;refine v_ (cB ae.h rfl rfl rfl) ?_;refine vp_ (av (cs := ([iv 2, iv k75, iv y102, iv 0, iv 0, iv 0] ++ (List.map ew ((Arr.rep 4 (0 : UInt64))).l).flatten)) aO.h rfl (by refine am [] [iv 0] ([iv 0, iv 0, iv 0, iv 0, iv 0] ++ (List.map ew ((Arr.rep 4 (0 : UInt64))).l).flatten) sq_ sl_ sl_ sl_ rfl rfl ?_; refine am [iv 2] [iv 0] ([iv 0, iv 0, iv 0, iv 0] ++ (List.map ew ((Arr.rep 4 (0 : UInt64))).l).flatten) sq_ sl_ sl_ sl_ rfl rfl ?_; refine am [iv 2, iv k75] [iv 0] ([iv 0, iv 0, iv 0] ++ (List.map ew ((Arr.rep 4 (0 : UInt64))).l).flatten) sq_ sl_ sl_ sl_ rfl rfl ?_; exact congrArg some sq_)) ?_
  refine c1_ ir h fun y105 i106 h=>?_;exact g_ h hag1
 exact r_ h hg
def fJ (iv176: Int) (ag1: (Int)→Prop) (_r: Bool) : Prop:=
 InR (iv176 + 2)∧ag1 (iv176 + 2)
def ox (row1: ByteArray) (c2: UInt8) (ag1: (Int)→Prop) (iv176: Int) (r: Bool) : Prop:=
 InR (iv176 + 1)∧(((iv176 + 1) < (row1.size : Int)→0≤(iv176 : Int)∧∃ c254 : UInt8,row1[(iv176 : Int).toNat]? = some c254∧(((c254.toNat : Int)≤(c2.toNat : Int)→InR (iv176 + 1)∧0≤((iv176 + 1) : Int)∧∃ c259 : UInt8,row1[((iv176 + 1) : Int).toNat]? = some c259∧(((c2.toNat : Int)≤(c259.toNat : Int)→r = true)∧(¬ ((c2.toNat : Int)≤(c259.toNat : Int))→fJ iv176 ag1 r)))∧(¬ ((c254.toNat : Int)≤(c2.toNat : Int))→fJ iv176 ag1 r)))∧(¬ ((iv176 + 1) < (row1.size : Int))→r = false))
def be (row1: ByteArray) (c2: UInt8) (r: Bool) : Prop:=
 aR (fun ag1 s=>ox row1 c2 ag1 s r) 0
set_option maxHeartbeats 4000000 in
theorem mO ⦃row1: ByteArray⦄ ⦃c2: UInt8⦄ ⦃r: Bool⦄ (h: be row1 c2 r) : Cn Tryz.prog 114 [.v (.string row1), uv c2] [] [] (Ret (bv r)) := by
 refine aj Tryz.func114 rfl rfl (by kernel_rfl) fun g hg=>?_;simp only [Tryz.ntmps114,au];refine wn_ 12 h fun h=>?_;obtain ⟨Inv,⟨m0,hI⟩,hS⟩ := lq_ h;refine lp_ hI (fun σ m=>∃ iv176, Inv iv176 m ∧ σ=⟨[(0, .v (.string row1)), (1, uv c2), (5, iv iv176)], [], []⟩) ?_;rintro _ m ⟨iv176,hI,rfl⟩;obtain ⟨ag1,hag1,h⟩ := bS hS hI;refine i_ h (fun h=>?_) fun h=>?_
 ·refine wn_ 2 h fun h=>?_;refine aw (fun σ=>fJ iv176 ag1 r ∧ σ=⟨[(0, .v (.string row1)), (1, uv c2), (5, iv iv176)], [], []⟩) ?_ ?_
  ·refine x_ h fun c254 h=>?_;refine is_ 18 h (fun h=>?_) fun h=>?_
   ·refine x_ h fun c259 h=>?_;refine i_ h (fun h=>?_) fun h=>?_
    ·exact r_ h hg
    exact m_ h
   exact m_ h
  rintro _ ⟨h,rfl⟩;exact g_ h hag1
 exact r_ h hg
def gU (c1: Int) (r: Bool) : Prop:=
 ((0≤c1→∃ c11 : UInt8,(c11.toNat : Int) = IntKind.u8.wrap c1∧∃ y13 : Bool,be (⟨#[65,90,97,122,48,57]⟩: ByteArray) c11 y13∧r = y13)∧(¬ (0≤c1)→r = false))
set_option maxHeartbeats 4000000 in
theorem CF ⦃c1: Int⦄ ⦃r: Bool⦄ (h: gU c1 r) : Cn Tryz.prog 95 [iv c1] [] [] (Ret (bv r)) := by
 refine aj Tryz.func95 rfl rfl (by kernel_rfl) fun g hg=>?_;simp only [Tryz.ntmps95,au];refine is_ 5 h (fun h=>?_) fun h=>?_
 ·refine mv_ ?_;obtain ⟨c11, h10, h⟩ := h;refine vp_ (et h10 ah.h ah.h rfl) ?_;refine z0_ mO h fun y13 h=>?_;exact r_ h hg
 exact r_ h hg
def cL (o1: (List UInt8)×Int×Int×T0t×T5t) (x77: Int) (r: Int×T2t) : Prop:=
 InR (o1.2.1 + 2)∧∃ c82 : UInt8,(c82.toNat : Int) = IntKind.u8.wrap x77∧∃ y84 : T7t,cE c82 y84∧∃ y86 : Int×T2t,ap (o1.1,(o1.2.1 + 2),o1.2.2.1,o1.2.2.2.1,o1.2.2.2.2) (1,0,0,0,0,0,y84) y86∧r = (y86.1,y86.2)
def ca (o1: (List UInt8)×Int×Int×T0t×T5t) (y4: Int) (x67: Bool) (r: Int×T2t) : Prop:=
 ((x67 = true→r = (0,(o1.1,o1.2.1,10,o1.2.2.2.1,o1.2.2.2.2)))∧(¬ (x67 = true)→((y4 = 110→cL o1 10 r)∧(¬ (y4 = 110)→cL o1 y4 r))))
def f9 (y4: Int) (o1: (List UInt8)×Int×Int×T0t×T5t) (x29: Bool) (r: Int×T2t) : Prop:=
 ((x29 = true→InR (y4 - 48)∧(0≤((y4 - 48) : Int)∧((y4 - 48) : Int) < 10)∧∃ y40 : Bool,o1.2.2.2.2.l[((y4 - 48) : Int).toNat]? = some y40∧((¬ (y40 = true)→r = (0,(o1.1,o1.2.1,16,o1.2.2.2.1,o1.2.2.2.2)))∧(¬ (¬ (y40 = true))→InR (o1.2.1 + 2)∧InR (y4 - 48)∧∃ y45 : Int×T2t,ap (o1.1,(o1.2.1 + 2),o1.2.2.1,o1.2.2.2.1,o1.2.2.2.2) (6,0,0,0,0,(y4 - 48),(Arr.rep 4 (0 : UInt64))) y45∧r = (y45.1,y45.2))))∧(¬ (x29 = true)→((y4 < 0→ca o1 y4 true r)∧(¬ (y4 < 0)→∃ y71 : Bool,gU y4 y71∧ca o1 y4 (y71 && (!(decide (y4 = 110)))) r))))
def aW (o1: (List UInt8)×Int×Int×T0t×T5t) (r: Int×T2t) : Prop:=
 ∃ y4 : Int,ai o1 1 y4∧f9 y4 o1 ((decide (49≤y4)) && (decide (y4≤57))) r
set_option maxHeartbeats 4000000 in
theorem zt ⦃o1: (List UInt8) × Int × Int × T0t × T5t⦄ ⦃r: Int × T2t⦄ (h: aW o1 r) (bx0: Nat) (ia2: Option (Nat × Nat)) : Cn Tryz.prog 72 [pw bx0] [⟨bx0, 76, ([sb o1.1, iv o1.2.1, iv o1.2.2.1, .sl 10 (some ia2) (List.map aa o1.2.2.2.1.1), iv o1.2.2.2.1.2] ++ (List.map eB o1.2.2.2.2.l).flatten)⟩] [⟨ia2, 43, 10, o1.2.2.2.1.1.length⟩] fun rr bx tk=>∃ j1, rr=iv r.1 ∧ bx=[⟨bx0, 76, ([sb r.2.1, iv r.2.2.1, iv r.2.2.2.1, .sl 10 (some j1) (List.map aa r.2.2.2.2.1.1), iv r.2.2.2.2.1.2] ++ (List.map eB r.2.2.2.2.2.l).flatten)⟩] ∧ tk=[⟨j1, 43, 10, r.2.2.2.2.1.1.length⟩] := by
 refine aj Tryz.func72 rfl rfl (by kernel_rfl) fun g hg=>?_;simp only [Tryz.ntmps72,au];refine c0_ ec h fun y4 h=>?_;refine wn_ 4 h fun h=>?_;refine aw (fun σ=>∃ x29, f9 y4 o1 x29 r ∧ σ=⟨[(0, pw bx0), (3, iv y4), (11, bv x29)], [⟨bx0, 76, ([sb o1.1, iv o1.2.1, iv o1.2.2.1, .sl 10 (some ia2) (List.map aa o1.2.2.2.1.1), iv o1.2.2.2.1.2] ++ (List.map eB o1.2.2.2.2.l).flatten)⟩], [⟨ia2, 43, 10, o1.2.2.2.1.1.length⟩]⟩) ?_ ?_
 ·refine ks_ 8 h (fun h=>?_) fun h=>?_
  ·exact m_ h
  exact m_ h
 rintro _ ⟨x29,h,rfl⟩;refine i_ h (fun h=>?_) fun h=>?_
 ·refine wn_ 8 h fun h=>?_;obtain ⟨h39, h⟩ := h;obtain ⟨y40, h39b, h⟩ := h;refine vp_ (aA h39 ah.h ae.h rfl rfl) ?_;refine v_ (dr (f := eB) (a := o1.2.2.2.2) (k := 1) (off := 0) (i := ((y4 - 48) : Int).toNat) 0 [sb o1.1, iv o1.2.1, iv o1.2.2.1, .sl 10 (some ia2) (List.map aa o1.2.2.2.1.1), iv o1.2.2.2.1.2] [] h39b sq_ so_ (by decide) rfl ae.h rfl rfl) ?_
  refine i_ h (fun h=>?_) fun h=>?_
  ·exact r_ h hg
  refine wn_ 20 h fun h=>?_;refine vp_ (av (cs := ([iv 6, iv 0, iv 0, iv 0, iv 0, iv ((y4 - 48))] ++ (List.map ew ((Arr.rep 4 (0 : UInt64))).l).flatten)) aO.h rfl (by refine am [] [iv 0] ([iv 0, iv 0, iv 0, iv 0, iv 0] ++ (List.map ew ((Arr.rep 4 (0 : UInt64))).l).flatten) sq_ sl_ sl_ sl_ rfl rfl ?_; refine am [iv 6, iv 0, iv 0, iv 0, iv 0] [iv 0] ((List.map ew ((Arr.rep 4 (0 : UInt64))).l).flatten) sq_ sl_ sl_ sl_ rfl rfl ?_; exact congrArg some sq_)) ?_
  refine c1_ ir h fun y45 i46 h=>?_;exact r_ h hg
 refine wn_ 3 h fun h=>?_;refine aw (fun σ=>∃ x67, ca o1 y4 x67 r ∧ σ=⟨[(0, pw bx0), (3, iv y4), (45, bv x67)], [⟨bx0, 76, ([sb o1.1, iv o1.2.1, iv o1.2.2.1, .sl 10 (some ia2) (List.map aa o1.2.2.2.1.1), iv o1.2.2.2.1.2] ++ (List.map eB o1.2.2.2.2.l).flatten)⟩], [⟨ia2, 43, 10, o1.2.2.2.1.1.length⟩]⟩) ?_ ?_
 ·refine is_ 38 h (fun h=>?_) fun h=>?_
  ·exact m_ h
  refine z0_ CF h fun y71 h=>?_;refine ks_ 41 h (fun h=>?_) fun h=>?_
  ·exact m_ h
  exact m_ h
 rintro _ ⟨x67,h,rfl⟩;refine i_ h (fun h=>?_) fun h=>?_
 ·exact r_ h hg
 refine wn_ 2 h fun h=>?_;refine aw (fun σ=>∃ x77, cL o1 x77 r ∧ σ=⟨[(0, pw bx0), (3, iv x77)], [⟨bx0, 76, ([sb o1.1, iv o1.2.1, iv o1.2.2.1, .sl 10 (some ia2) (List.map aa o1.2.2.2.1.1), iv o1.2.2.2.1.2] ++ (List.map eB o1.2.2.2.2.l).flatten)⟩], [⟨ia2, 43, 10, o1.2.2.2.1.1.length⟩]⟩) ?_ ?_
 ·refine i_ h (fun h=>?_) fun h=>?_
  ·exact m_ h
  exact m_ h
 rintro _ ⟨x77,h,rfl⟩;refine wn_ 17 h fun h=>?_;obtain ⟨c82, h81, h⟩ := h;refine vp_ (et h81 ah.h ah.h rfl) ?_;refine z0_ k0_ h fun y84 h=>?_;refine vp_ (av (cs := ([iv 1, iv 0, iv 0, iv 0, iv 0, iv 0] ++ (List.map ew y84.l).flatten)) aO.h rfl (by refine am [] [iv 0] ([iv 0, iv 0, iv 0, iv 0, iv 0] ++ (List.map ew ((Arr.rep 4 (0 : UInt64))).l).flatten) sq_ sl_ sl_ sl_ rfl rfl ?_; refine am [iv 1, iv 0, iv 0, iv 0, iv 0, iv 0] ((List.map ew ((Arr.rep 4 (0 : UInt64))).l).flatten) [] sq_ sl_ sl_ sl_ rfl rfl ?_; exact congrArg some sq_)) ?_
 refine c1_ ir h fun y86 i87 h=>?_;exact r_ h hg
def cb (bv1: List UInt8) (iv2: Int) (r: Int) : Prop:=
 ((iv2 < 0→r = (-1))∧(¬ (iv2 < 0)→(((bv1.length : Int)≤iv2→r = (-1))∧(¬ ((bv1.length : Int)≤iv2)→0≤(iv2 : Int)∧∃ y21 : UInt8,bv1[(iv2 : Int).toNat]? = some y21∧r = (y21.toNat : Int)))))
set_option maxHeartbeats 4000000 in
theorem pd ⦃bv1: List UInt8⦄ ⦃iv2: Int⦄ ⦃r: Int⦄ (h: cb bv1 iv2 r) : Cn Tryz.prog 115 [sb bv1, iv iv2] [] [] (Ret (iv r)) := by
 refine aj Tryz.func115 rfl rfl (by kernel_rfl) fun g hg=>?_;simp only [Tryz.ntmps115,au];refine is_ 7 h (fun h=>?_) fun h=>?_
 ·exact r_ h hg
 refine i_ h (fun h=>?_) fun h=>?_
 ·exact r_ h hg
 refine x_ h fun y21 h=>?_;exact r_ h hg
def gb (x1: ByteArray) (x2: UInt8) (r: Bool×Bool) : Prop:=
 (((x1.toList == ((⟨#[117,112,112,101,114]⟩: ByteArray)).toList) = true→∃ y88 : Bool,be (⟨#[65,90]⟩: ByteArray) x2 y88∧r = (y88,true))∧(¬ ((x1.toList == ((⟨#[117,112,112,101,114]⟩: ByteArray)).toList) = true)→(((x1.toList == ((⟨#[108,111,119,101,114]⟩: ByteArray)).toList) = true→∃ y92 : Bool,be (⟨#[97,122]⟩: ByteArray) x2 y92∧r = (y92,true))∧(¬ ((x1.toList == ((⟨#[108,111,119,101,114]⟩: ByteArray)).toList) = true)→(((x1.toList == ((⟨#[100,105,103,105,116]⟩: ByteArray)).toList) = true→∃ y96 : Bool,be (⟨#[48,57]⟩: ByteArray) x2 y96∧r = (y96,true))∧(¬ ((x1.toList == ((⟨#[100,105,103,105,116]⟩: ByteArray)).toList) = true)→(((x1.toList == ((⟨#[97,108,112,104,97]⟩: ByteArray)).toList) = true→∃ y100 : Bool,be (⟨#[65,90,97,122]⟩: ByteArray) x2 y100∧r = (y100,true))∧(¬ ((x1.toList == ((⟨#[97,108,112,104,97]⟩: ByteArray)).toList) = true)→(((x1.toList == ((⟨#[97,108,110,117,109]⟩: ByteArray)).toList) = true→∃ y104 : Bool,be (⟨#[65,90,97,122,48,57]⟩: ByteArray) x2 y104∧r = (y104,true))∧(¬ ((x1.toList == ((⟨#[97,108,110,117,109]⟩: ByteArray)).toList) = true)→(((x1.toList == ((⟨#[98,108,97,110,107]⟩: ByteArray)).toList) = true→(((x2.toNat : Int) = 32→r = (true,true))∧(¬ ((x2.toNat : Int) = 32)→r = ((decide ((x2.toNat : Int) = 9)),true))))∧(¬ ((x1.toList == ((⟨#[98,108,97,110,107]⟩: ByteArray)).toList) = true)→(((x1.toList == ((⟨#[115,112,97,99,101]⟩: ByteArray)).toList) = true→(((x2.toNat : Int) = 32→r = (true,true))∧(¬ ((x2.toNat : Int) = 32)→((9≤(x2.toNat : Int)→r = ((decide ((x2.toNat : Int)≤13)),true))∧(¬ (9≤(x2.toNat : Int))→r = (false,true))))))∧(¬ ((x1.toList == ((⟨#[115,112,97,99,101]⟩: ByteArray)).toList) = true)→(((x1.toList == ((⟨#[99,110,116,114,108]⟩: ByteArray)).toList) = true→(((x2.toNat : Int)≤31→r = (true,true))∧(¬ ((x2.toNat : Int)≤31)→r = ((decide ((x2.toNat : Int) = 127)),true))))∧(¬ ((x1.toList == ((⟨#[99,110,116,114,108]⟩: ByteArray)).toList) = true)→(((x1.toList == ((⟨#[103,114,97,112,104]⟩: ByteArray)).toList) = true→((33≤(x2.toNat : Int)→r = ((decide ((x2.toNat : Int)≤126)),true))∧(¬ (33≤(x2.toNat : Int))→r = (false,true))))∧(¬ ((x1.toList == ((⟨#[103,114,97,112,104]⟩: ByteArray)).toList) = true)→(((x1.toList == ((⟨#[112,114,105,110,116]⟩: ByteArray)).toList) = true→((32≤(x2.toNat : Int)→r = ((decide ((x2.toNat : Int)≤126)),true))∧(¬ (32≤(x2.toNat : Int))→r = (false,true))))∧(¬ ((x1.toList == ((⟨#[112,114,105,110,116]⟩: ByteArray)).toList) = true)→(((x1.toList == ((⟨#[112,117,110,99,116]⟩: ByteArray)).toList) = true→((33≤(x2.toNat : Int)→(((x2.toNat : Int)≤126→∃ y162 : Bool,be (⟨#[65,90,97,122,48,57]⟩: ByteArray) x2 y162∧r = ((!y162),true))∧(¬ ((x2.toNat : Int)≤126)→r = (false,true))))∧(¬ (33≤(x2.toNat : Int))→r = (false,true))))∧(¬ ((x1.toList == ((⟨#[112,117,110,99,116]⟩: ByteArray)).toList) = true)→(((x1.toList == ((⟨#[120,100,105,103,105,116]⟩: ByteArray)).toList) = true→∃ y166 : Bool,be (⟨#[48,57,65,70,97,102]⟩: ByteArray) x2 y166∧r = (y166,true))∧(¬ ((x1.toList == ((⟨#[120,100,105,103,105,116]⟩: ByteArray)).toList) = true)→r = (false,false)))))))))))))))))))))))))
set_option maxHeartbeats 4000000 in
theorem CG ⦃x1: ByteArray⦄ ⦃x2: UInt8⦄ ⦃r: Bool × Bool⦄ (h: gb x1 x2 r) : Cn Tryz.prog 136 [.v (.string x1), uv x2] [] [] fun rr bx tk=>rr=.tup [bv r.1, bv r.2] ∧ bx=[] ∧ tk=[] := by
 refine aj Tryz.func136 rfl rfl (by kernel_rfl) fun g hg=>?_;simp only [Tryz.ntmps136,au];refine i_ h (fun h=>?_) fun h=>?_
 ·refine z0_ mO h fun y88 h=>?_;exact r_ h hg
 refine i_ h (fun h=>?_) fun h=>?_
 ·refine z0_ mO h fun y92 h=>?_;exact r_ h hg
 refine i_ h (fun h=>?_) fun h=>?_
 ·refine z0_ mO h fun y96 h=>?_;exact r_ h hg
 refine i_ h (fun h=>?_) fun h=>?_
 ·refine z0_ mO h fun y100 h=>?_;exact r_ h hg
 refine i_ h (fun h=>?_) fun h=>?_
 ·refine z0_ mO h fun y104 h=>?_;exact r_ h hg
 refine i_ h (fun h=>?_) fun h=>?_
 ·refine is_ 31 h (fun h=>?_) fun h=>?_
  ·exact r_ h hg
  exact r_ h hg
 refine i_ h (fun h=>?_) fun h=>?_
 ·refine is_ 39 h (fun h=>?_) fun h=>?_
  ·exact r_ h hg
  refine is_ 42 h (fun h=>?_) fun h=>?_
  ·exact r_ h hg
  exact r_ h hg
 refine i_ h (fun h=>?_) fun h=>?_
 ·refine is_ 51 h (fun h=>?_) fun h=>?_
  ·exact r_ h hg
  exact r_ h hg
 refine i_ h (fun h=>?_) fun h=>?_
 ·refine is_ 59 h (fun h=>?_) fun h=>?_
  ·exact r_ h hg
  exact r_ h hg
 refine i_ h (fun h=>?_) fun h=>?_
 ·refine is_ 67 h (fun h=>?_) fun h=>?_
  ·exact r_ h hg
  exact r_ h hg
 refine i_ h (fun h=>?_) fun h=>?_
 ·refine is_ 75 h (fun h=>?_) fun h=>?_
  ·refine is_ 79 h (fun h=>?_) fun h=>?_
   ·refine z0_ mO h fun y162 h=>?_;exact r_ h hg
   exact r_ h hg
  exact r_ h hg
 refine i_ h (fun h=>?_) fun h=>?_
 ·refine z0_ mO h fun y166 h=>?_;exact r_ h hg
 exact r_ h hg
def gV (x2: Int) (x262: Int) (x1: List UInt8) (ag6: (Int×(Arr 256 (Bool)))→Prop) (x579: Int) (f580: Arr 256 (Bool)) (r: T9t) : Prop:=
 ((x579 < 256→InR (x2 + 2)∧(0≤((x2 + 2) : Int)∧((x2 + 2) : Int)≤(x262 : Int)∧(x262 : Int)≤(x1.length : Int))∧∃ c627 : UInt8,(c627.toNat : Int) = IntKind.u8.wrap x579∧∃ y629 : Bool×Bool,gb (⟨(((x1.take (x262 : Int).toNat).drop ((x2 + 2) : Int).toNat)).toArray⟩: ByteArray) c627 y629∧((¬ (y629.2 = true)→r = (0,(Arr.rep 256 false),false,0,12))∧(¬ (¬ (y629.2 = true))→(0≤(x579 : Int)∧(x579 : Int) < 256)∧∃ y633 : Bool,f580.l[(x579 : Int).toNat]? = some y633∧InR (x579 + 1)∧ag6 ((x579 + 1),(Arr.set f580 (x579 : Int).toNat y629.1)))))∧(¬ (x579 < 256)→r = (0,f580,true,(x262 + 2),0)))
def eX (x1: List UInt8) (y11: Int) (x2: Int) (x262: Int) (r: T9t) : Prop:=
 (((x1.length : Int)≤x262→r = (0,(Arr.rep 256 false),false,0,11))∧(¬ ((x1.length : Int)≤x262)→InR (x262 + 2)∧((¬ (y11 = 58)→InR (x2 + 3)∧((¬ (x262 = (x2 + 3))→r = (0,(Arr.rep 256 false),false,0,12))∧(¬ (¬ (x262 = (x2 + 3)))→InR (x2 + 2)∧0≤((x2 + 2) : Int)∧∃ y466 : UInt8,x1[((x2 + 2) : Int).toNat]? = some y466∧r = ((y466.toNat : Int),(Arr.rep 256 false),false,(x262 + 2),0))))∧(¬ (¬ (y11 = 58))→aR (fun ag6 s=>gV x2 x262 x1 ag6 s.1 s.2 r) (0,(Arr.rep 256 false))))))
def gW (x321: Int) (ag4: (Int)→Prop) (_x405: UInt8) (_x406: UInt8) (_x407: Int) (_x408: Bool) (_x409: Bool) (_x410: Bool) (_x411: Bool) (_r: T9t) : Prop:=
 InR (x321 + 1)∧ag4 (x321 + 1)
def gX (x1: List UInt8) (y11: Int) (x2: Int) (ag4: (Int)→Prop) (x321: Int) (r: T9t) : Prop:=
 ((x321 < (x1.length : Int)→0≤(x321 : Int)∧∃ y427 : UInt8,x1[(x321 : Int).toNat]? = some y427∧(((y427.toNat : Int) = y11→InR (x321 + 1)∧∃ y434 : Int,cb x1 (x321 + 1) y434∧((¬ (y434 = 93)→gW x321 ag4 y427 y427 (y427.toNat : Int) (decide ((y427.toNat : Int) = y11)) true (decide (y434 = 93)) (!(decide (y434 = 93))) r)∧(¬ (¬ (y434 = 93))→eX x1 y11 x2 x321 r)))∧(¬ ((y427.toNat : Int) = y11)→gW x321 ag4 y427 y427 (y427.toNat : Int) (decide ((y427.toNat : Int) = y11)) false false true r)))∧(¬ (x321 < (x1.length : Int))→eX x1 y11 x2 x321 r))
def jX (x2: Int) (x1: List UInt8) (y11: Int) (x71: Bool) (r: T9t) : Prop:=
 ((x71 = true→0≤(x2 : Int)∧∃ y82 : UInt8,x1[(x2 : Int).toNat]? = some y82∧InR (x2 + 1)∧r = ((y82.toNat : Int),(Arr.rep 256 false),false,(x2 + 1),0))∧(¬ (x71 = true)→InR (x2 + 2)∧aR (fun ag4 s=>gX x1 y11 x2 ag4 s r) (x2 + 2)))
def gY (x2: Int) (x1: List UInt8) (y11: Int) (x30: Bool) (r: T9t) : Prop:=
 ((x30 = true→InR (x2 + 2)∧r = (10,(Arr.rep 256 false),false,(x2 + 2),0))∧(¬ (x30 = true)→0≤(x2 : Int)∧∃ y72 : UInt8,x1[(x2 : Int).toNat]? = some y72∧jX x2 x1 y11 ((!(decide ((y72.toNat : Int) = 91))) || ((!(decide (y11 = 58))) && ((!(decide (y11 = 46))) && (!(decide (y11 = 61)))))) r))
def ft (x1: List UInt8) (x2: Int) (r: T9t) : Prop:=
 (((x1.length : Int)≤x2→r = (0,(Arr.rep 256 false),false,0,11))∧(¬ ((x1.length : Int)≤x2)→InR (x2 + 1)∧∃ y11 : Int,cb x1 (x2 + 1) y11∧0≤(x2 : Int)∧∃ y31 : UInt8,x1[(x2 : Int).toNat]? = some y31∧gY x2 x1 y11 ((decide ((y31.toNat : Int) = 92)) && (decide (y11 = 110))) r))
set_option maxRecDepth 100000 in
set_option maxHeartbeats 4000000 in
theorem zu ⦃x1: List UInt8⦄ ⦃x2: Int⦄ ⦃r: T9t⦄ (h: ft x1 x2 r) : Cn Tryz.prog 116 [sb x1, iv x2] [] [] (Ret (.agg ([iv r.1] ++ ((List.map eB r.2.1.l).flatten ++ [bv r.2.2.1, iv r.2.2.2.1, iv r.2.2.2.2])))) := by
 refine aj Tryz.func116 rfl rfl (by kernel_rfl) fun g hg=>?_;simp only [Tryz.ntmps116,au];refine wn_ 2 h fun h=>?_;refine aL ar.h rfl rfl fun b4 => ?_;refine bg 0 ([iv 0] ++ ((List.map eB ((Arr.rep 256 false)).l).flatten ++ [bv false, iv 0, iv 0])) rfl rfl ?_;refine i_ h (fun h=>?_) fun h=>?_
 ·refine wn_ 2 h fun h=>?_;refine vp_ (av (cs := ([iv 0] ++ ((List.map eB ((Arr.rep 256 false)).l).flatten ++ [bv false, iv 0, iv 11]))) aO.h rfl (by refine am ([iv 0] ++ ((List.map eB ((Arr.rep 256 false)).l).flatten ++ [bv false, iv 0])) [iv 0] [] sq_ sl_ sl_ sl_ rfl rfl ?_; exact congrArg some sq_)) ?_
  refine aB 0 [] ([iv 0] ++ ((List.map eB ((Arr.rep 256 false)).l).flatten ++ [bv false, iv 0, iv 0])) [] ([iv 0] ++ ((List.map eB ((Arr.rep 256 false)).l).flatten ++ [bv false, iv 0, iv 11])) ae.h rfl rfl rfl rfl rfl ?_;exact rl_ h hg
 refine z0_ pd h fun y11 h=>?_;refine wn_ 4 h fun h=>?_;refine aw (fun σ=>∃ x30, gY x2 x1 y11 x30 r ∧ σ=⟨[(0, sb x1), (1, iv x2), (4, pw b4), (5, iv y11), (28, bv x30)], [⟨b4, 148, ([iv 0] ++ ((List.map eB ((Arr.rep 256 false)).l).flatten ++ [bv false, iv 0, iv 0]))⟩], []⟩) ?_ ?_
 ·refine x_ h fun y31 h=>?_;refine ks_ 25 h (fun h=>?_) fun h=>?_
  ·exact m_ h
  exact m_ h
 rintro _ ⟨x30,h,rfl⟩;refine i_ h (fun h=>?_) fun h=>?_
 ·refine wn_ 4 h fun h=>?_;refine vp_ (av (cs := ([iv 10] ++ ((List.map eB ((Arr.rep 256 false)).l).flatten ++ [bv false, iv ((x2 + 2)), iv 0]))) aO.h rfl (by refine am [] [iv 0] (((List.map eB ((Arr.rep 256 false)).l).flatten ++ [bv false, iv 0, iv 0])) sq_ sl_ sl_ sl_ rfl rfl ?_; refine am ([iv 10] ++ ((List.map eB ((Arr.rep 256 false)).l).flatten ++ [bv false])) [iv 0] [iv 0] sq_ sl_ sl_ sl_ rfl rfl ?_; exact congrArg some sq_)) ?_
  refine aB 0 [] ([iv 0] ++ ((List.map eB ((Arr.rep 256 false)).l).flatten ++ [bv false, iv 0, iv 0])) [] ([iv 10] ++ ((List.map eB ((Arr.rep 256 false)).l).flatten ++ [bv false, iv ((x2 + 2)), iv 0])) ae.h rfl rfl rfl rfl rfl ?_;exact rl_ h hg
 refine wn_ 3 h fun h=>?_;refine aw (fun σ=>∃ x71, jX x2 x1 y11 x71 r ∧ σ=⟨[(0, sb x1), (1, iv x2), (4, pw b4), (5, iv y11), (48, bv x71)], [⟨b4, 148, ([iv 0] ++ ((List.map eB ((Arr.rep 256 false)).l).flatten ++ [bv false, iv 0, iv 0]))⟩], []⟩) ?_ ?_
 ·refine x_ h fun y72 h=>?_;refine ks_ 37 h (fun h=>?_) fun h=>?_
  ·exact m_ h
  refine ks_ 40 h (fun h=>?_) fun h=>?_
  ·refine ks_ 44 h (fun h=>?_) fun h=>?_
   ·exact m_ h
   exact m_ h
  exact m_ h
 rintro _ ⟨x71,h,rfl⟩;refine i_ h (fun h=>?_) fun h=>?_
 ·refine x_ h fun y82 h=>?_;refine wn_ 4 h fun h=>?_;refine vp_ (av (cs := ([iv ((y82.toNat : Int))] ++ ((List.map eB ((Arr.rep 256 false)).l).flatten ++ [bv false, iv ((x2 + 1)), iv 0]))) aO.h rfl (by refine am [] [iv 0] (((List.map eB ((Arr.rep 256 false)).l).flatten ++ [bv false, iv 0, iv 0])) sq_ sl_ sl_ sl_ rfl rfl ?_; refine am ([iv ((y82.toNat : Int))] ++ ((List.map eB ((Arr.rep 256 false)).l).flatten ++ [bv false])) [iv 0] [iv 0] sq_ sl_ sl_ sl_ rfl rfl ?_; exact congrArg some sq_)) ?_
  refine aB 0 [] ([iv 0] ++ ((List.map eB ((Arr.rep 256 false)).l).flatten ++ [bv false, iv 0, iv 0])) [] ([iv ((y82.toNat : Int))] ++ ((List.map eB ((Arr.rep 256 false)).l).flatten ++ [bv false, iv ((x2 + 1)), iv 0])) ae.h rfl rfl rfl rfl rfl ?_;exact rl_ h hg
 refine wn_ 9 h fun h=>?_;refine aw (fun σ=>∃ x262, eX x1 y11 x2 x262 r ∧ σ=⟨[(0, sb x1), (1, iv x2), (4, pw b4), (5, iv y11), (6, iv x262)], [⟨b4, 148, ([iv 0] ++ ((List.map eB ((Arr.rep 256 false)).l).flatten ++ [bv false, iv 0, iv 0]))⟩], []⟩) ?_ ?_
 ·refine mq ?_;obtain ⟨Inv,⟨m0,hI⟩,hS⟩ := lq_ h;refine lp_ hI (fun σ m=>∃ x321, Inv x321 m ∧ σ=⟨[(0, sb x1), (1, iv x2), (4, pw b4), (5, iv y11), (6, iv x321)], [⟨b4, 148, ([iv 0] ++ ((List.map eB ((Arr.rep 256 false)).l).flatten ++ [bv false, iv 0, iv 0]))⟩], []⟩) ?_
  rintro _ m ⟨x321,hI,rfl⟩;obtain ⟨ag4,hag4,h⟩ := bS hS hI;refine aw (fun σ=>∃ x405 x406 x407 x408 x409 x410 x411, gW x321 ag4 x405 x406 x407 x408 x409 x410 x411 r ∧ σ=⟨[(0, sb x1), (1, iv x2), (4, pw b4), (5, iv y11), (6, iv x321), (64, sb x1), (65, iv x321), (66, .el [uv x405]), (67, uv x406), (68, iv x407), (69, iv y11), (70, bv x408), (71, bv x409), (77, bv x410), (78, bv x411)], [⟨b4, 148, ([iv 0] ++ ((List.map eB ((Arr.rep 256 false)).l).flatten ++ [bv false, iv 0, iv 0]))⟩], []⟩) ?_ ?_
  ·refine is_ 63 h (fun h=>?_) fun h=>?_
   ·refine x_ h fun y427 h=>?_;refine is_ 71 h (fun h=>?_) fun h=>?_
    ·refine z0_ pd h fun y434 h=>?_;refine i_ h (fun h=>?_) fun h=>?_
     ·exact m_ h
     exact m_ h
    exact m_ h
   exact m_ h
  rintro _ ⟨x405,x406,x407,x408,x409,x410,x411,h,rfl⟩;exact g_ h hag4
 rintro _ ⟨x262,h,rfl⟩;refine i_ h (fun h=>?_) fun h=>?_
 ·refine wn_ 2 h fun h=>?_;refine vp_ (av (cs := ([iv 0] ++ ((List.map eB ((Arr.rep 256 false)).l).flatten ++ [bv false, iv 0, iv 11]))) aO.h rfl (by refine am ([iv 0] ++ ((List.map eB ((Arr.rep 256 false)).l).flatten ++ [bv false, iv 0])) [iv 0] [] sq_ sl_ sl_ sl_ rfl rfl ?_; exact congrArg some sq_)) ?_
  refine aB 0 [] ([iv 0] ++ ((List.map eB ((Arr.rep 256 false)).l).flatten ++ [bv false, iv 0, iv 0])) [] ([iv 0] ++ ((List.map eB ((Arr.rep 256 false)).l).flatten ++ [bv false, iv 0, iv 11])) ae.h rfl rfl rfl rfl rfl ?_;exact rl_ h hg
 refine wn_ 6 h fun h=>?_;refine vp_ (av (cs := ([iv 0] ++ ((List.map eB ((Arr.rep 256 false)).l).flatten ++ [bv false, iv ((x262 + 2)), iv 0]))) aO.h rfl (by refine am ([iv 0] ++ ((List.map eB ((Arr.rep 256 false)).l).flatten ++ [bv false])) [iv 0] [iv 0] sq_ sl_ sl_ sl_ rfl rfl ?_; exact congrArg some sq_)) ?_
 refine aL ar.h rfl rfl fun b7 => ?_;refine bg 0 ([iv 0] ++ ((List.map eB ((Arr.rep 256 false)).l).flatten ++ [bv false, iv 0, iv 0])) rfl rfl ?_;refine aB 0 [] ([iv 0] ++ ((List.map eB ((Arr.rep 256 false)).l).flatten ++ [bv false, iv 0, iv 0])) [] ([iv 0] ++ ((List.map eB ((Arr.rep 256 false)).l).flatten ++ [bv false, iv ((x262 + 2)), iv 0])) ae.h rfl rfl rfl rfl rfl ?_
 refine i_ h (fun h=>?_) fun h=>?_
 ·refine i_ h (fun h=>?_) fun h=>?_
  ·refine wn_ 2 h fun h=>?_;refine vp_ (av (cs := ([iv 0] ++ ((List.map eB ((Arr.rep 256 false)).l).flatten ++ [bv false, iv 0, iv 12]))) aO.h rfl (by refine am ([iv 0] ++ ((List.map eB ((Arr.rep 256 false)).l).flatten ++ [bv false, iv 0])) [iv 0] [] sq_ sl_ sl_ sl_ rfl rfl ?_; exact congrArg some sq_)) ?_
   refine aB 1 [] ([iv 0] ++ ((List.map eB ((Arr.rep 256 false)).l).flatten ++ [bv false, iv 0, iv 0])) [] ([iv 0] ++ ((List.map eB ((Arr.rep 256 false)).l).flatten ++ [bv false, iv 0, iv 12])) ae.h rfl rfl rfl rfl rfl ?_;exact rl_ h hg
  refine x_ h fun y466 h=>?_;refine wn_ 8 h fun h=>?_;refine v_ (al 0 [] ([iv ((y466.toNat : Int))] ++ ((List.map eB ((Arr.rep 256 false)).l).flatten ++ [bv false, iv ((x262 + 2)), iv 0])) [] sq_ sl_ sl_ (ao sl_) ae.h rfl rfl) ?_;refine aB 1 [] ([iv 0] ++ ((List.map eB ((Arr.rep 256 false)).l).flatten ++ [bv false, iv 0, iv 0])) [] ([iv ((y466.toNat : Int))] ++ ((List.map eB ((Arr.rep 256 false)).l).flatten ++ [bv false, iv ((x262 + 2)), iv 0])) ae.h rfl rfl rfl rfl rfl ?_
  exact rl_ h hg
 refine wn_ 5 h fun h=>?_;refine aB 0 ([iv 0] ++ (List.map eB ((Arr.rep 256 false)).l).flatten) [bv false] [iv ((x262 + 2)), iv 0] ([iv 0] ++ ((List.map eB ((Arr.rep 256 false)).l).flatten ++ [bv true, iv ((x262 + 2)), iv 0])) ae.h rfl rfl rfl rfl rfl ?_;refine wn_ 9 h fun h=>?_;obtain ⟨Inv,⟨m0,hI⟩,hS⟩ := lq_ h
 refine lp_ hI (fun σ m=>∃ x579 f580, Inv (x579, f580) m ∧ σ=⟨[(0, sb x1), (1, iv x2), (4, pw b4), (6, iv x262), (7, pw b7), (8, iv x579)], [⟨b7, 148, ([iv 0] ++ ((List.map eB f580.l).flatten ++ [bv true, iv ((x262 + 2)), iv 0]))⟩, ⟨b4, 148, ([iv 0] ++ ((List.map eB ((Arr.rep 256 false)).l).flatten ++ [bv false, iv 0, iv 0]))⟩], []⟩) ?_
 rintro _ m ⟨x579,f580,hI,rfl⟩;obtain ⟨ag6,hag6,h⟩ := bS hS hI;refine i_ h (fun h=>?_) fun h=>?_
 ·refine wn_ 11 h fun h=>?_;refine v_ (nz (bs := ((x1.take (x262 : Int).toNat).drop ((x2 + 2) : Int).toNat)) ah.h ah.h ah.h rfl rfl rfl (fun _ h => by injection h with h; exact h.symm)) ?_;refine mv_ ?_;obtain ⟨c627, h626, h⟩ := h;refine vp_ (et h626 ah.h ah.h rfl) ?_;refine z0_ CG h fun y629 h=>?_;refine i_ h (fun h=>?_) fun h=>?_
  ·refine wn_ 2 h fun h=>?_;refine vp_ (av (cs := ([iv 0] ++ ((List.map eB ((Arr.rep 256 false)).l).flatten ++ [bv false, iv 0, iv 12]))) aO.h rfl (by refine am ([iv 0] ++ ((List.map eB ((Arr.rep 256 false)).l).flatten ++ [bv false, iv 0])) [iv 0] [] sq_ sl_ sl_ sl_ rfl rfl ?_; exact congrArg some sq_)) ?_
   refine aB 1 [] ([iv 0] ++ ((List.map eB ((Arr.rep 256 false)).l).flatten ++ [bv false, iv 0, iv 0])) [] ([iv 0] ++ ((List.map eB ((Arr.rep 256 false)).l).flatten ++ [bv false, iv 0, iv 12])) ae.h rfl rfl rfl rfl rfl ?_;exact rl_ h hg
  refine wn_ 6 h fun h=>?_;obtain ⟨h632, h⟩ := h;obtain ⟨y633, h632b, h⟩ := h;refine vp_ (aA h632 ah.h ae.h rfl rfl) ?_;refine dy (f := eB) (a := f580) (k := 1) (off := 0) (i := (x579 : Int).toNat) 0 [iv 0] [bv true, iv ((x262 + 2)), iv 0] y629.1 h632b sq_ so_ (by decide) ae.h rfl rfl rfl rfl sl_ rfl rfl ?_;refine bg 0 ([iv 0] ++ ((List.map eB ((Arr.set f580 (x579 : Int).toNat y629.1)).l).flatten ++ [bv true, iv ((x262 + 2)), iv 0])) rfl sq_ ?_
  exact g_ h hag6
 refine wn_ 7 h fun h=>?_;refine v_ (al 0 [] ([iv 0] ++ ((List.map eB f580.l).flatten ++ [bv true, iv ((x262 + 2)), iv 0])) [] sq_ sl_ sl_ (ao sl_) ae.h rfl rfl) ?_;refine aB 1 [] ([iv 0] ++ ((List.map eB ((Arr.rep 256 false)).l).flatten ++ [bv false, iv 0, iv 0])) [] ([iv 0] ++ ((List.map eB f580.l).flatten ++ [bv true, iv ((x262 + 2)), iv 0])) ae.h rfl rfl rfl rfl rfl ?_
 exact rl_ h hg
def iO (iv180: Int) (ag1: (Int×T7t)→Prop) (f249: Arr 4 (UInt64)) (_r: T7t) : Prop:=
 InR (iv180 - 1)∧ag1 ((iv180 - 1),f249)
def kS (inv1: Arr 256 (Bool)) (ag1: (Int×T7t)→Prop) (iv180: Int) (f181: Arr 4 (UInt64)) (r: T7t) : Prop:=
 ((0≤iv180→(64 : Int)≠0∧InR ((iv180 : Int).tdiv (64))∧(64 : Int)≠0∧InR ((iv180 : Int).tdiv (64))∧(0≤(((iv180 : Int).tdiv (64)) : Int)∧(((iv180 : Int).tdiv (64)) : Int) < 4)∧∃ y253 : UInt64,f181.l[(((iv180 : Int).tdiv (64)) : Int).toNat]? = some y253∧∃ c255 : UInt64,(c255.toNat : Int) = IntKind.u64.wrap ((y253.toNat : Int) * 2)∧(0≤(((iv180 : Int).tdiv (64)) : Int)∧(((iv180 : Int).tdiv (64)) : Int) < 4)∧∃ y257 : UInt64,f181.l[(((iv180 : Int).tdiv (64)) : Int).toNat]? = some y257∧(0≤(iv180 : Int)∧(iv180 : Int) < 256)∧∃ y259 : Bool,inv1.l[(iv180 : Int).toNat]? = some y259∧((y259 = true→(64 : Int)≠0∧InR ((iv180 : Int).tdiv (64))∧(64 : Int)≠0∧InR ((iv180 : Int).tdiv (64))∧(0≤(((iv180 : Int).tdiv (64)) : Int)∧(((iv180 : Int).tdiv (64)) : Int) < 4)∧∃ y264 : UInt64,((Arr.set f181 (((iv180 : Int).tdiv (64)) : Int).toNat c255)).l[(((iv180 : Int).tdiv (64)) : Int).toNat]? = some y264∧∃ c266 : UInt64,(c266.toNat : Int) = IntKind.u64.wrap ((y264.toNat : Int) + 1)∧(0≤(((iv180 : Int).tdiv (64)) : Int)∧(((iv180 : Int).tdiv (64)) : Int) < 4)∧∃ y268 : UInt64,((Arr.set f181 (((iv180 : Int).tdiv (64)) : Int).toNat c255)).l[(((iv180 : Int).tdiv (64)) : Int).toNat]? = some y268∧iO iv180 ag1 (Arr.set ((Arr.set f181 (((iv180 : Int).tdiv (64)) : Int).toNat c255)) (((iv180 : Int).tdiv (64)) : Int).toNat c266) r)∧(¬ (y259 = true)→iO iv180 ag1 (Arr.set f181 (((iv180 : Int).tdiv (64)) : Int).toNat c255) r)))∧(¬ (0≤iv180)→r = f181))
def je (inv1: Arr 256 (Bool)) (r: T7t) : Prop:=
 aR (fun ag1 s=>kS inv1 ag1 s.1 s.2 r) (255,(Arr.rep 4 (0 : UInt64)))
set_option maxHeartbeats 4000000 in
theorem CH ⦃inv1: Arr 256 (Bool)⦄ ⦃r: T7t⦄ (h: je inv1 r) : Cn Tryz.prog 117 [.agg ((List.map eB inv1.l).flatten)] [] [] (Ret (.agg ((List.map ew r.l).flatten))) := by
 refine aj Tryz.func117 rfl rfl (by kernel_rfl) fun g hg=>?_;simp only [Tryz.ntmps117,au];refine wn_ 2 h fun h=>?_;refine cr rfl rfl rfl rfl fun b1 => ?_;refine aL ar.h rfl rfl fun b2 => ?_;refine bg 0 ((List.map ew ((Arr.rep 4 (0 : UInt64))).l).flatten) rfl rfl ?_;refine wn_ 4 h fun h=>?_;refine aL ar.h rfl rfl fun b3 => ?_;refine bg 0 ((List.map ew ((Arr.rep 4 (0 : UInt64))).l).flatten) rfl rfl ?_
 refine wn_ 9 h fun h=>?_;obtain ⟨Inv,⟨m0,hI⟩,hS⟩ := lq_ h;refine lp_ hI (fun σ m=>∃ iv180 f181, Inv (iv180, f181) m ∧ σ=⟨[(1, pw b1), (2, pw b2), (3, pw b3), (4, iv iv180)], [⟨b3, 41, ((List.map ew f181.l).flatten)⟩, ⟨b2, 41, ((List.map ew ((Arr.rep 4 (0 : UInt64))).l).flatten)⟩, ⟨b1, 146, ((List.map eB inv1.l).flatten)⟩], []⟩) ?_
 rintro _ m ⟨iv180,f181,hI,rfl⟩;obtain ⟨ag1,hag1,h⟩ := bS hS hI;refine i_ h (fun h=>?_) fun h=>?_
 ·refine wn_ 2 h fun h=>?_;refine aw (fun σ=>∃ f249, iO iv180 ag1 f249 r ∧ σ=⟨[(1, pw b1), (2, pw b2), (3, pw b3), (4, iv iv180)], [⟨b3, 41, ((List.map ew f249.l).flatten)⟩, ⟨b2, 41, ((List.map ew ((Arr.rep 4 (0 : UInt64))).l).flatten)⟩, ⟨b1, 146, ((List.map eB inv1.l).flatten)⟩], []⟩) ?_ ?_
  ·refine wn_ 4 h fun h=>?_;obtain ⟨h250, h⟩ := h;obtain ⟨h250r, h⟩ := h;refine vp_ (jY h250 (jZ h250r.1 h250r.2).symm rfl rfl rfl) ?_;refine mv_ ?_;obtain ⟨h251, h⟩ := h;obtain ⟨h251r, h⟩ := h;refine vp_ (jY h251 (jZ h251r.1 h251r.2).symm rfl rfl rfl) ?_;obtain ⟨h252, h⟩ := h;obtain ⟨y253, h252b, h⟩ := h;refine vp_ (aA h252 ah.h ae.h rfl rfl) ?_;refine v_ (dr (f := ew) (a := f181) (k := 1) (off := 0) (i := (((iv180 : Int).tdiv (64)) : Int).toNat) 0 [] [] h252b sq_ so_ (by decide) rfl ae.h rfl rfl) ?_
   obtain ⟨c255, h254, h⟩ := h;refine vp_ (eK h254 rfl rfl rfl) ?_;obtain ⟨h256, h⟩ := h;obtain ⟨y257, h256b, h⟩ := h;refine vp_ (aA h256 ah.h ae.h rfl rfl) ?_;refine dy (f := ew) (a := f181) (k := 1) (off := 0) (i := (((iv180 : Int).tdiv (64)) : Int).toNat) 0 [] [] c255 h256b sq_ so_ (by decide) ae.h rfl rfl rfl rfl sl_ rfl rfl ?_;refine bg 0 ((List.map ew ((Arr.set f181 (((iv180 : Int).tdiv (64)) : Int).toNat c255)).l).flatten) rfl sq_ ?_
   refine wn_ 5 h fun h=>?_;obtain ⟨h258, h⟩ := h;obtain ⟨y259, h258b, h⟩ := h;refine vp_ (aA h258 ah.h ae.h rfl rfl) ?_;refine v_ (dr (f := eB) (a := inv1) (k := 1) (off := 0) (i := (iv180 : Int).toNat) 2 [] [] h258b sq_ so_ (by decide) rfl ae.h rfl rfl) ?_;refine i_ h (fun h=>?_) fun h=>?_
   ·refine wn_ 2 h fun h=>?_;obtain ⟨h261, h⟩ := h;obtain ⟨h261r, h⟩ := h;refine vp_ (jY h261 (jZ h261r.1 h261r.2).symm rfl rfl rfl) ?_;refine mv_ ?_;obtain ⟨h262, h⟩ := h;obtain ⟨h262r, h⟩ := h;refine vp_ (jY h262 (jZ h262r.1 h262r.2).symm rfl rfl rfl) ?_;obtain ⟨h263, h⟩ := h;obtain ⟨y264, h263b, h⟩ := h;refine vp_ (aA h263 ah.h ae.h rfl rfl) ?_;refine v_ (dr (f := ew) (a := (Arr.set f181 (((iv180 : Int).tdiv (64)) : Int).toNat c255)) (k := 1) (off := 0) (i := (((iv180 : Int).tdiv (64)) : Int).toNat) 0 [] [] h263b sq_ so_ (by decide) rfl ae.h rfl rfl) ?_
    obtain ⟨c266, h265, h⟩ := h;refine vp_ (eK h265 rfl rfl rfl) ?_;obtain ⟨h267, h⟩ := h;obtain ⟨y268, h267b, h⟩ := h;refine vp_ (aA h267 ah.h ae.h rfl rfl) ?_;refine dy (f := ew) (a := (Arr.set f181 (((iv180 : Int).tdiv (64)) : Int).toNat c255)) (k := 1) (off := 0) (i := (((iv180 : Int).tdiv (64)) : Int).toNat) 0 [] [] c266 h267b sq_ so_ (by decide) ae.h rfl rfl rfl rfl sl_ rfl rfl ?_
    refine bg 0 ((List.map ew ((Arr.set ((Arr.set f181 (((iv180 : Int).tdiv (64)) : Int).toNat c255)) (((iv180 : Int).tdiv (64)) : Int).toNat c266)).l).flatten) rfl sq_ ?_;exact m_ h
   exact m_ h
  rintro _ ⟨f249,h,rfl⟩;exact g_ h hag1
 refine wn_ 7 h fun h=>?_;refine v_ (al 0 [] ((List.map ew f181.l).flatten) [] sq_ sl_ sl_ (ao (aD (by rfl))) ae.h rfl rfl) ?_;refine aB 1 [] ((List.map ew ((Arr.rep 4 (0 : UInt64))).l).flatten) [] ((List.map ew f181.l).flatten) ae.h rfl rfl rfl rfl rfl ?_;exact rl_ h hg
end Go.Proofs.YtnbceeholnkfeaaGreatDoor
