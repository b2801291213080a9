/- Taken over from other chapters' plain texts. -/
import Derived.Test.YtnbceeholnkfeaaGreatDoorBrS
import Derived.Test.YtnbceeholnkfeaaGreatDoorPl
import Derived.Test.YtnbceeholnkfeaaGreatDoorEpA
namespace Go.Proofs.YtnbceeholnkfeaaGreatDoor
theorem vn (row:ByteArray) (c:UInt8) (r:Bool) (n:Nat) (hs:row.size=2 * n) (hn:n≤100) (hr:r=true↔∃ k,k<n∧∃ a b,row[2 * k]? =some a∧row[2 * k+1]? =some b∧a.toNat≤c.toNat∧c.toNat≤b.toNat):bo row c r:=by
 refine ct (fun st m=>∃ k:Nat,k≤n∧m=n - k∧st=2 * (k:Int)∧∀ j,j<k→∀ a b,row[2 * j]? =some a→row[2 * j+1]? =some b→¬ (a.toNat≤c.toNat∧c.toNat≤b.toNat)) n ⟨0,by omega,rfl,rfl,fun j hj=>absurd hj (by omega)⟩ ?_
 rintro st m ⟨k,hk,rfl,rfl,hno⟩
 refine au (by omega) (ab (fun h1=>?_) fun h1=>?_)
 ·have hx:=getElem?_pos row (2 * k) (by show 2 * k<row.size;omega)
  have hy:=getElem?_pos row (2 * k+1) (by show 2 * k+1<row.size;omega)
  have e1:(2 * (k:Int)).toNat=2 * k:=by omega
  have e2:(2 * (k:Int)+1).toNat=2 * k+1:=by omega
  have go:¬ ((row[2 * k]'(by show 2 * k<row.size;omega)).toNat≤c.toNat∧c.toNat≤(row[2 * k+1]'(by show 2 * k+1<row.size;omega)).toNat)→gi (2 * (k:Int)) (fun s'=>∃ m',m'<n - k∧∃ k:Nat,k≤n∧m'=n - k∧s'=2 * (k:Int)∧∀ j,j<k→∀ a b,row[2 * j]? =some a→row[2 * j+1]? =some b→¬ (a.toNat≤c.toNat∧c.toNat≤b.toNat)) r:=by
   intro hn'
   refine au (by omega) ⟨n - (k+1),by omega,k+1,by omega,rfl,by omega,?_⟩
   intro j hj a b ha hb
   by_cases hjk:j=k
   ·subst hjk
    rw [hx] at ha;rw [hy] at hb
    rw [← Option.some.inj ha,← Option.some.inj hb];exact hn'
   ·exact hno j (by omega) a b ha hb
  refine ⟨by omega,_,by rw [e1];exact hx,ab (fun h2=>?_) fun h2=>go (by omega)⟩
  refine au (by omega) ⟨by omega,_,by rw [e2];exact hy,ab (fun h3=>?_) fun h3=>go (by omega)⟩
  exact hr.2 ⟨k,by omega,_,_,hx,hy,by omega,by omega⟩
 ·cases r with
  | false=>rfl
  | true=>
   obtain ⟨j,hj,a,b,ha,hb,h2⟩:=hr.1 rfl
   exact absurd h2 (hno j (by omega) a b ha hb)
theorem in1 (a b c:UInt8):bo ⟨#[a,b]⟩ c (decide (a.toNat≤c.toNat∧c.toNat≤b.toNat)):=by
 refine vn _ _ _ 1 rfl (by omega) ?_
 rw [decide_eq_true_eq]
 constructor
 ·intro h;exact ⟨0,by omega,a,b,rfl,rfl,h⟩
 ·rintro ⟨k,hk,x,y,hx,hy,h⟩
  obtain rfl:k=0:=by omega
  obtain rfl:a=x:=Option.some.inj hx
  obtain rfl:b=y:=Option.some.inj hy
  exact h
theorem in2 (a b a' b' c:UInt8):bo ⟨#[a,b,a',b']⟩ c (decide ((a.toNat≤c.toNat∧c.toNat≤b.toNat)∨(a'.toNat≤c.toNat∧c.toNat≤b'.toNat))):=by
 refine vn _ _ _ 2 rfl (by omega) ?_
 rw [decide_eq_true_eq]
 constructor
 ·rintro (h | h)
  ·exact ⟨0,by omega,a,b,rfl,rfl,h⟩
  ·exact ⟨1,by omega,a',b',rfl,rfl,h⟩
 ·rintro ⟨k,hk,x,y,hx,hy,h⟩
  have hk':k=0∨k=1:=by omega
  rcases hk' with rfl | rfl
  ·obtain rfl:a=x:=Option.some.inj hx
   obtain rfl:b=y:=Option.some.inj hy
   exact .inl h
  ·obtain rfl:a'=x:=Option.some.inj hx
   obtain rfl:b'=y:=Option.some.inj hy
   exact .inr h
theorem in3 (a b a' b' a'' b'' c:UInt8):bo ⟨#[a,b,a',b',a'',b'']⟩ c (decide ((a.toNat≤c.toNat∧c.toNat≤b.toNat)∨(a'.toNat≤c.toNat∧c.toNat≤b'.toNat)∨(a''.toNat≤c.toNat∧c.toNat≤b''.toNat))):=by
 refine vn _ _ _ 3 rfl (by omega) ?_
 rw [decide_eq_true_eq]
 constructor
 ·rintro (h | h | h)
  ·exact ⟨0,by omega,a,b,rfl,rfl,h⟩
  ·exact ⟨1,by omega,a',b',rfl,rfl,h⟩
  ·exact ⟨2,by omega,a'',b'',rfl,rfl,h⟩
 ·rintro ⟨k,hk,x,y,hx,hy,h⟩
  have hk':k=0∨k=1∨k=2:=by omega
  rcases hk' with rfl | rfl | rfl
  ·obtain rfl:a=x:=Option.some.inj hx
   obtain rfl:b=y:=Option.some.inj hy
   exact .inl h
  ·obtain rfl:a'=x:=Option.some.inj hx
   obtain rfl:b'=y:=Option.some.inj hy
   exact .inr (.inl h)
  ·obtain rfl:a''=x:=Option.some.inj hx
   obtain rfl:b''=y:=Option.some.inj hy
   exact .inr (.inr h)
theorem Ej (x:ByteArray) (c:UInt8):gI x c (isS x c.toNat):=by
 unfold gI isS
 refine ⟨fun h=>?_,fun h=>?_⟩
 ·rw [if_pos h]
  exact ⟨_,in1 _ _ _,rfl⟩
 rw [if_neg h]
 refine ⟨fun h=>?_,fun h=>?_⟩
 ·rw [if_pos h]
  exact ⟨_,in1 _ _ _,rfl⟩
 rw [if_neg h]
 refine ⟨fun h=>?_,fun h=>?_⟩
 ·rw [if_pos h]
  exact ⟨_,in1 _ _ _,rfl⟩
 rw [if_neg h]
 refine ⟨fun h=>?_,fun h=>?_⟩
 ·rw [if_pos h]
  exact ⟨_,in2 _ _ _ _ _,rfl⟩
 rw [if_neg h]
 refine ⟨fun h=>?_,fun h=>?_⟩
 ·rw [if_pos h]
  exact ⟨_,in3 _ _ _ _ _ _ _,rfl⟩
 rw [if_neg h]
 refine ⟨fun h=>?_,fun h=>?_⟩
 ·rw [if_pos h]
  simp only [iG,decide_eq_decide,decide_eq_true_eq,decide_eq_false_iff_not]
  omega
 rw [if_neg h]
 refine ⟨fun h=>?_,fun h=>?_⟩
 ·rw [if_pos h]
  simp only [iG,decide_eq_decide,decide_eq_true_eq,decide_eq_false_iff_not]
  omega
 rw [if_neg h]
 refine ⟨fun h=>?_,fun h=>?_⟩
 ·rw [if_pos h]
  simp only [iG,decide_eq_decide,decide_eq_true_eq,decide_eq_false_iff_not]
  omega
 rw [if_neg h]
 refine ⟨fun h=>?_,fun h=>?_⟩
 ·rw [if_pos h]
  simp only [iG,decide_eq_decide,decide_eq_true_eq,decide_eq_false_iff_not]
  omega
 rw [if_neg h]
 refine ⟨fun h=>?_,fun h=>?_⟩
 ·rw [if_pos h]
  simp only [iG,decide_eq_decide,decide_eq_true_eq,decide_eq_false_iff_not]
  omega
 rw [if_neg h]
 refine ⟨fun h=>?_,fun h=>?_⟩
 ·rw [if_pos h]
  refine ⟨fun h1=>⟨fun h2=>⟨_,in3 _ _ _ _ _ _ _,?_⟩,fun h2=>?_⟩,fun h1=>?_⟩
  ·rw [iG,← decide_not,decide_eq_decide]
   show _↔¬ ((65≤c.toNat∧c.toNat≤90)∨(97≤c.toNat∧c.toNat≤122)∨(48≤c.toNat∧c.toNat≤57))
   omega
  ·rw [iG,decide_eq_false_iff_not];omega
  ·rw [iG,decide_eq_false_iff_not];omega
 rw [if_neg h]
 refine ⟨fun h=>?_,fun h=>?_⟩
 ·rw [if_pos h]
  exact ⟨_,in3 _ _ _ _ _ _ _,rfl⟩
 rw [if_neg h]
theorem mY (s:ay) (c:Nat) (hc:c<256):aS (fI s) c= !aS s c:=by
 have h1:c / 64<s.l.length:=by rw [s.len];omega
 unfold aS fI
 simp only [List.getD_eq_getElem?_getD,List.getElem?_map,List.getElem?_eq_getElem h1,Option.map_some,Option.getD_some,UInt64.toNat_not]
 rw [show UInt64.size - 1 - (s.l[c / 64]).toNat=2 ^ 64 - ((s.l[c / 64]).toNat+1) by simp [UInt64.size],Nat.testBit_two_pow_sub_succ (s.l[c / 64]).toNat_lt,decide_eq_true (by omega),Bool.true_and]
theorem tj (W e:Nat) (hW:W<18446744073709551616) (he:64≤e):W / 2 ^ e=0:=
 Nat.div_eq_of_lt (Nat.lt_of_lt_of_le hW (Nat.pow_le_pow_right (by decide) he:2 ^ 64≤2 ^ e))
def oY (f:Arr 256 Bool) (c:Nat):Bool:=f.l.getD c false
def A2 (F g:ay) (n:Nat):Prop:=∀ w,w<4→∃ y,g.l[w]? =some y∧y.toNat=(F.l.getD w 0).toNat / 2 ^ (n - 64 * w)
theorem tT {F f g:ay} {k:Nat} {c:UInt64} (hk:k<256) (hI:A2 F f (k+1)) (hc:c.toNat=(F.l.getD (k / 64) 0).toNat / 2 ^ (k % 64)) (hg:∀ w:Nat,g.l[w]? =(f.l.set (k / 64) c)[w]?):A2 F g k:=by
 intro w hw
 rw [hg,List.getElem?_set]
 by_cases h:k / 64=w
 ·rw [if_pos h,if_pos (by rw [f.len];omega)]
  refine ⟨c,rfl,?_⟩
  rw [hc,h,show k - 64 * w=k % 64 by omega]
 ·rw [if_neg h]
  obtain ⟨y,hy,hv⟩:=hI w hw
  refine ⟨y,hy,?_⟩
  rw [hv]
  rcases (by omega:w<k / 64∨k / 64<w) with h1 | h1
  ·rw [tj _ _ (UInt64.toNat_lt _) (by omega),tj _ _ (UInt64.toNat_lt _) (by omega)]
  ·rw [show k+1 - 64 * w=0 by omega,show k - 64 * w=0 by omega]
theorem Ek (f:Arr 256 Bool):jA f (kJ (oY f) 256):=by
 generalize hF:kJ (oY f) 256=F
 have hmem:∀ d,d<256→aS F d=oY f d:=fun d hd=>by rw [← hF,oG _ _ _ (by omega) hd,decide_eq_true (by omega),Bool.true_and]
 refine ct (fun st m=>∃ n:Nat,n≤256∧m=n∧st.1=(n:Int) - 1∧A2 F st.2 n) 256 ⟨256,by omega,rfl,rfl,fun w hw=>⟨0,?_,?_⟩⟩ ?_
 ·show (List.replicate 4 (0:UInt64))[w]? =_
  rw [List.getElem?_replicate,if_pos hw]
 ·rw [tj _ _ (UInt64.toNat_lt _) (by omega)];rfl
 rintro ⟨i,g⟩ m ⟨n,h1,rfl,h3,hI⟩
 simp only at h3 hI
 subst h3
 show lF f _ ((m:Int) - 1) g F
 refine ab (fun h=>?_) fun h=>?_
 ·obtain ⟨k,rfl⟩:∃ k,m=k+1:=⟨m - 1,by omega⟩
  have hz:((k+1:Nat):Int) - 1=(k:Int):=by omega
  have h2:(k:Int).tdiv 64=((k / 64:Nat):Int):=td _ 64
  obtain ⟨y,hy,hv⟩:=hI (k / 64) (by omega)
  rw [show k+1 - 64 * (k / 64)=k % 64+1 by omega] at hv
  have hb:=hmem k (by omega)
  have hq:(F.l.getD (k / 64) 0).toNat / 2 ^ (k % 64)=2 * y.toNat+if oY f k=true then 1 else 0:=by
   rw [← hb,hv,Nat.pow_succ,← Nat.div_div_eq_div_mul]
   unfold aS
   rw [tb]
   generalize (F.l.getD (k / 64) 0).toNat / 2 ^ (k % 64)=Q
   by_cases h9:Q % 2=1
   ·rw [decide_eq_true h9,if_pos rfl];omega
   ·rw [decide_eq_false h9,if_neg (by decide)];omega
  have hle:(F.l.getD (k / 64) 0).toNat / 2 ^ (k % 64)<18446744073709551616:=Nat.lt_of_le_of_lt (Nat.div_le_self _ _) (UInt64.toNat_lt _)
  rw [hq] at hle
  rw [hz,h2]
  have hgl:=g.len
  refine ⟨by decide,au (by omega) ⟨by decide,au (by omega) ⟨by omega,y,by rw [Int.toNat_natCast];exact hy,?_⟩⟩⟩
  refine sj (by omega) fun c hc=>⟨by omega,y,by rw [Int.toNat_natCast];exact hy,atA (by omega) (by omega) fun z hz'=>?_⟩
  rw [Int.toNat_natCast] at hz'
  have hzb:oY f k=z:=by unfold oY;rw [List.getD_eq_getElem?_getD,hz'];rfl
  rw [hzb] at hq hle
  rw [Int.toNat_natCast]
  refine ab (fun h6=>?_) fun h6=>?_
  ·rw [if_pos h6] at hq hle
   have hcs:(Arr.set g (k / 64) c).l[k / 64]? =some c:=by
    show (g.l.set (k / 64) c)[k / 64]? =some c
    rw [List.getElem?_set,if_pos rfl,if_pos (by omega)]
   refine ⟨by decide,au (by omega) ⟨by decide,au (by omega) ⟨by omega,c,hcs,sj (by omega) fun c2 hc2=>⟨by omega,c,hcs,?_⟩⟩⟩⟩
   refine au (by omega) ⟨k,by omega,k,by omega,rfl,rfl,tT (by omega) hI (c:=c2) (by rw [hq];omega) fun w=>?_⟩
   show ((g.l.set (k / 64) c).set (k / 64) c2)[w]? =_
   rw [List.set_set]
  ·rw [if_neg h6] at hq hle
   exact au (by omega) ⟨k,by omega,k,by omega,rfl,rfl,tT (by omega) hI (c:=c) (by rw [hq];omega) fun w=>rfl⟩
 ·obtain rfl:m=0:=by omega
  apply Arr.ext
  apply List.ext_getElem?
  intro w
  by_cases hw:w<4
  ·obtain ⟨y,hy,hv⟩:=hI w hw
   rw [show 0 - 64 * w=0 by omega,Nat.pow_zero,Nat.div_one] at hv
   rw [hy]
   have:F.l[w]? =some (F.l.getD w 0):=by
    rw [List.getD_eq_getElem?_getD,List.getElem?_eq_getElem (by rw [F.len];exact hw)];rfl
   rw [this,UInt64.toNat_inj.1 hv]
  ·rw [List.getElem?_eq_none (by rw [F.len];omega),List.getElem?_eq_none (by rw [g.len];omega)]
set_option maxHeartbeats 1000000 in
theorem zm (n:ND) (a g:Int):eM n a g (aP n a g):=by
 obtain ⟨k,A,B,lo,hi,gr,s⟩:=n
 unfold eM fP fO fN iP iO iN
 have hk:k<0∨8<k∨k=0∨k=1∨k=2∨k=3∨k=4∨k=5∨k=6∨k=7∨k=8:=by omega
 by_cases hs:s=Arr.rep 4 (0:UInt64)
 all_goals
  rcases hk with h | h | rfl | rfl | rfl | rfl | rfl | rfl | rfl | rfl | rfl
  ·have h':¬ 0≤k:=by omega
   simp [aP,h,h']
  ·have h':¬ k≤8:=by omega
   simp [aP,h,h']
  all_goals simp [aP,jc,aY,db,aj,hs]
  all_goals first | done | skip
  all_goals grind
set_option synthInstance.maxSize 4000 in
theorem xQ (a b:List (Int×Int×Int×Int×Int×Int×(Arr 4 (UInt64)))) (g g':Int) (hl:a.length≤1000000):fS (a,g) (b,g') (decide (g=g'∧a=b)):=by
 refine ab (fun h=>?_) fun h0=>ab (fun h=>?_) fun h=>?_
 ·exact decide_eq_false fun e:g=g'∧a=b=>h e.1
 ·exact decide_eq_false fun e:g=g'∧a=b=>h (by rw [e.2])
 ·have hg:g=g':=Decidable.of_not_not h0
  have hlen:a.length=b.length:=by simp only at h;omega
  refine ct (fun st m=>∃ k:Nat,k≤a.length∧m=a.length - k∧st=(k:Int)∧a.take k=b.take k) _ ⟨0,by omega,rfl,rfl,rfl⟩ ?_
  rintro st m ⟨k,hk,rfl,rfl,h2⟩
  refine ab (fun h3=>?_) fun h3=>?_
  ·simp only at h3
   refine at_ (by omega) (by simpa using h3) fun x hx=>at_ (by omega) (by simp only;omega) fun y hy=>?_
   rw [Int.toNat_natCast] at hx hy
   simp only at hx hy
   refine ab (fun h4=>?_) fun h4=>?_
   ·refine decide_eq_false fun e:g=g'∧a=b=>h4 ?_
    rw [e.2,hy] at hx
    exact (Option.some.inj hx).symm
   ·have hxy:x=y:=Decidable.of_not_not h4
    refine au (by omega) ⟨a.length - (k+1),by omega,k+1,by omega,rfl,by simp,?_⟩
    rw [List.take_add_one,List.take_add_one,h2,hx,hy,hxy]
  ·simp only at h3
   rw [List.take_of_length_le (by omega),List.take_of_length_le (by omega)] at h2
   exact decide_eq_true (p:=g=g'∧a=b) ⟨hg,h2⟩
theorem nk (c:UInt8):cX c (ofS [c]):=by
 have hc:=c.toNat_lt
 have h1:(c.toNat:Int).tdiv 64=((c.toNat / 64:Nat):Int):=td _ 64
 have h2:(c.toNat:Int).tmod 64=((c.toNat % 64:Nat):Int):=tm _ 64
 unfold cX
 rw [h1,h2]
 refine ⟨by decide,iu (by omega) fun c4 h4=>⟨by decide,xA (by omega) fun c8 h8=>⟨by omega,?_⟩⟩⟩
 have hmin:min ((c8.toNat:Int):Int).toNat IntKind.u64.bits=c.toNat % 64:=by show min _ 64=_;omega
 have hp:2 ^ (c.toNat % 64)≤2 ^ 63:=Nat.pow_le_pow_right (by decide) (by omega)
 have hz:(1:Int) * 2 ^ (c.toNat % 64)=((2 ^ (c.toNat % 64):Nat):Int):=by simp
 rw [hmin,hz]
 show ∃ c7:UInt64,_∧_∧∃ y9,_∧mg (Arr.rep 4 0) c.toNat=_
 unfold mg
 generalize hq:2 ^ (c.toNat % 64)=q at hp
 refine sj (by omega) fun c10 h10=>atA (by omega) (by omega) fun y hy=>?_
 rw [show ((c4.toNat:Int):Int).toNat=c.toNat / 64 by omega] at hy ⊢
 rw [show UInt64.ofNat q=c10 from UInt64.toNat_inj.1 (by rw [UInt64.toNat_ofNat_of_lt' (by simp [UInt64.size];omega)];omega)]
 have hg:(Arr.rep 4 (0:UInt64)).l.getD (c.toNat / 64) 0=0:=by
  obtain h | h | h | h:c.toNat / 64=0∨c.toNat / 64=1∨c.toNat / 64=2∨c.toNat / 64=3:=by omega
  all_goals rw [h];rfl
 rw [hg,Ci]
theorem vo (c:UInt8):io (c.toNat:Int) (lI c.toNat):=by
 have hcl:=c.toNat_lt
 refine ab (fun _=>iu (by omega) fun d hd=>?_) fun h=>absurd (by omega) h
 obtain rfl:d=c:=cj hd
 exact ⟨_,in3 65 90 97 122 48 57 d,rfl⟩
end Go.Proofs.YtnbceeholnkfeaaGreatDoor
namespace Go.Proofs.YtnbceeholnkfeaaGreatDoor
abbrev pT:=Arr 256 Bool
def bZ (g:Nat→Bool):pT:=⟨(List.range 256).map g,by simp⟩
theorem ox (g:Nat→Bool) {d:Nat} (h:d<256):(bZ g).l[d]? =some (g d):=by
 show ((List.range 256).map g)[d]? =_
 rw [List.getElem?_map,List.getElem?_range h];rfl
theorem fE {g h:Nat→Bool} (e:∀ d,d<256→g d=h d):bZ g=bZ h:=Arr.ext (List.map_congr_left fun d hd=>e d (List.mem_range.1 hd))
theorem oX (g:Nat→Bool) (k:Nat) (v:Bool):Arr.set (bZ g) k v=bZ (fun d=>if d=k then v else g d):=by
 refine Arr.ext (List.ext_getElem? fun d=>?_)
 show (((List.range 256).map g).set k v)[d]? =((List.range 256).map fun e=>if e=k then v else g e)[d]?
 by_cases hd:d<256
 ·rw [List.getElem?_map,List.getElem?_range hd,List.getElem?_set]
  by_cases hk:k=d
  ·subst hk
   rw [if_pos rfl,if_pos (by simpa using hd)];simp
  ·rw [if_neg hk,List.getElem?_map,List.getElem?_range hd]
   have:¬ d=k:=fun e=>hk e.symm
   simp [this]
 ·rw [List.getElem?_eq_none (by simp;omega),List.getElem?_eq_none (by simp;omega)]
theorem Eg:(Arr.rep 256 false:pT)=bZ fun _=>false:=Arr.ext (by
 show List.replicate 256 false=(List.range 256).map fun _=>false
 rw [List.map_const',List.length_range])
theorem xO:bZ (aS z4)=(Arr.rep 256 false:pT):=by rw [Eg];exact fE fun d hd=>lH d hd
def atB (b:List UInt8) (i:Nat):Int:=match b[i]? with
 | some c=>(c.toNat:Int)
 | none=>-1
theorem sq (b:List UInt8) (i:Nat):cq b (i:Int) (atB b i):=by
 unfold atB
 refine ab (fun h=>by omega) fun _=>ab (fun h=>?_) fun h=>?_
 ·rw [List.getElem?_eq_none (by omega)]
 ·have hl:i<b.length:=by omega
  rw [List.getElem?_eq_getElem hl]
  exact ⟨by omega,b[i],by rw [Int.toNat_natCast];exact List.getElem?_eq_getElem hl,rfl⟩
theorem ti (b:List UInt8) (i:Nat) {z:Int} (hz:z=(i:Int)):cq b z (atB b i):=by subst hz;exact sq b i
abbrev RIt:=Int×pT×Bool×Int×Int
def rk (p:Nat):Except Int It→RIt
 | .error e=>(0,Arr.rep 256 false,false,0,e)
 | .ok x=>((x.1.toNat:Int),bZ (aS x.2.1),x.2.2.1,((p+x.2.2.2:Nat):Int),0)
theorem Eh (b:List UInt8) (i:Nat) (n:Nat) (hn:0<n):atB b i=(n:Int)↔((b.drop i).headD 0).toNat=n:=by
 unfold atB
 cases h:b[i]? with
 | none=>
  rw [List.drop_eq_nil_of_le (List.getElem?_eq_none_iff.1 h)]
  constructor
  ·intro e;have e:(-1:Int)=n:=e;omega
  ·intro e;have e:(0:UInt8).toNat=n:=e;have:(0:UInt8).toNat=0:=rfl;omega
 | some c=>
  rw [bY h]
  show ((c.toNat:Int)=n)↔(c.toNat=n)
  omega
theorem xP (b:List UInt8) (p i:Nat) (hb:b.length≤40000000) (hi:p+2+i≤b.length):ba (fun ag6 s=>ip (p:Int) ((p+2+i:Nat):Int) b ag6 s.1 s.2
  (rk p (if (isS (kI (b.drop (p+2)) i) 0).2=true then .ok (0,kJ (fun c=>(isS (kI (b.drop (p+2)) i) c).1) 256,true,i+4) else .error 12))) (0,Arr.rep 256 false):=by
 have hname:(⟨((b.take ((p+2+i:Nat):Int).toNat).drop ((p:Int)+2).toNat).toArray⟩:ByteArray)=kI (b.drop (p+2)) i:=by
  unfold kI
  rw [Int.toNat_natCast,show ((p:Int)+2).toNat=p+2 by omega,List.drop_take,show p+2+i - (p+2)=i by omega]
 generalize kI (b.drop (p+2)) i=x at hname ⊢
 refine ct (fun st m=>∃ c:Nat,c≤256∧m=256 - c∧st=((c:Int),bZ (fun d=>decide (d<c) && (isS x d).1))∧(c=0∨(isS x 0).2=true)) _ ⟨0,by omega,rfl,?_,.inl rfl⟩ ?_
 ·rw [Eg]
  refine Prod.ext rfl (fE fun d _=>?_)
  rw [decide_eq_false (by omega)];rfl
 rintro _ m ⟨c,hc,rfl,rfl,h4⟩
 show ip _ _ _ _ (c:Int) _ _
 refine ab (fun h=>?_) fun h=>?_
 ·refine au (by omega) ⟨⟨by omega,by omega,by omega⟩,iu (by omega) fun y hy=>⟨isS x y.toNat,by rw [hname];exact Ej x y,?_⟩⟩
  have hyc:y.toNat=c:=by omega
  rw [hyc]
  refine ab (fun h6=>?_) fun h6=>⟨⟨by omega,by omega⟩,decide (c<c) && (isS x c).1,?_,au (by omega) ⟨256 - (c+1),by omega,c+1,by omega,rfl,?_,.inr ?_⟩⟩
  ·rw [pz] at h6
   rw [if_neg h6];rfl
  ·rw [Int.toNat_natCast];exact ox _ (by omega)
  ·refine Prod.ext (by simp) ?_
   show Arr.set _ (c:Int).toNat _=_
   rw [Int.toNat_natCast,oX]
   refine fE fun d hd=>?_
   by_cases hdc:d=c
   ·subst hdc;simp
   ·rw [if_neg hdc,show decide (d<c+1)=decide (d<c) by rw [decide_eq_decide];omega]
  ·rw [pz] at h6;exact Decidable.not_not.1 h6
 ·have h6:(isS x 0).2=true:=h4.resolve_left (by omega)
  rw [if_pos h6]
  show (((0:UInt8).toNat:Int),bZ (aS (kJ (fun c=>(isS x c).1) 256)),true,((p+(i+4):Nat):Int),(0:Int))=_
  refine Prod.ext rfl (Prod.ext (fE fun d hd=>?_) (Prod.ext rfl (Prod.ext ?_ rfl)))
  ·rw [oG _ _ _ (by omega) hd,decide_eq_true (by omega),decide_eq_true (by omega)]
  ·show _=((p+2+i:Nat):Int)+2
   show ((p+(i+4):Nat):Int)=_
   omega
theorem tR (b:List UInt8) (p k:Nat) (two:UInt8) (hb:b.length≤40000000) (hk:p+2≤k) (hk2:k≤b.length)
  (hidx:if k=b.length then Lib.index (b.drop (p+2)) [two,93]<0 else Lib.index (b.drop (p+2)) [two,93]=((k - (p+2):Nat):Int)):fw b (two.toNat:Int) (p:Int) (k:Int) (rk p (hY two (b.drop (p+2)))):=by
 unfold hY
 refine ab (fun h=>?_) fun h=>au (by omega) ?_
 ·rw [if_pos (by omega)] at hidx
  rw [if_pos hidx];rfl
 ·rw [if_neg (by omega)] at hidx
  obtain ⟨i,rfl⟩:∃ i,k=p+2+i:=⟨k - (p+2),by omega⟩
  rw [show p+2+i - (p+2)=i by omega] at hidx
  rw [hidx,if_neg (by omega),Int.toNat_natCast]
  refine ab (fun h2=>au (by omega) (ab (fun h3=>?_) fun h3=>?_)) fun h2=>?_
  ·rw [if_neg (by omega),if_neg (by omega)];rfl
  ·obtain rfl:i=1:=by omega
   rw [if_neg (by omega),if_pos rfl]
   obtain ⟨y,hy⟩:∃ y,b[p+2]? =some y:=⟨_,List.getElem?_eq_getElem (by omega)⟩
   refine au (by omega) ⟨by omega,y,by rw [show ((p:Int)+2).toNat=p+2 by omega];exact hy,?_⟩
   rw [bY hy]
   show (((y.toNat:Nat):Int),bZ (aS z4),false,((p+5:Nat):Int),(0:Int))=_
   rw [xO]
   refine Prod.ext rfl (Prod.ext rfl (Prod.ext rfl (Prod.ext ?_ rfl)))
   show ((p+5:Nat):Int)=((p+2+1:Nat):Int)+2
   omega
  ·rw [if_pos (by omega)]
   exact xP b p i hb (by omega)
theorem qC (t:List UInt8) (two:UInt8) (i:Nat):Lib.occAt t [two,93] i=true↔t[i]? =some two∧t[i+1]? =some 93:=by
 constructor
 ·intro h
  exact ⟨Lib.occAt_head rfl h,Lib.occAt_second rfl h⟩
 ·rintro ⟨h1,h2⟩
  have hl:=(List.getElem?_eq_some_iff.1 h2).1
  rw [Lib.occAt_iff_take _ _ _ (by simp;omega),bY h1,bY h2]
  simp
theorem A1 (b:List UInt8) (p:Nat) (two:UInt8) (hb:b.length≤40000000) (hp:p+2≤b.length):
  ba (fun ag4 s=>ir b (two.toNat:Int) (p:Int) ag4 s (rk p (hY two (b.drop (p+2))))) ((p:Int)+2):=by
 refine ct (fun st m=>∃ i:Nat,p+2+i≤b.length∧m=b.length - (p+2+i)∧st=((p+2+i:Nat):Int)∧∀ j,j<i→Lib.occAt (b.drop (p+2)) [two,93] j=false) _ ⟨0,by omega,rfl,by omega,fun j hj=>by omega⟩ ?_
 rintro _ m ⟨i,hi,rfl,rfl,hno⟩
 show ir _ _ _ _ ((p+2+i:Nat):Int) _
 have hat:∀ j,(b.drop (p+2))[j]? =b[p+2+j]?:=fun j=>by rw [List.getElem?_drop]
 have hspec:=Lib.index_spec (b.drop (p+2)) [two,93]
 have next:Lib.occAt (b.drop (p+2)) [two,93] i=false→∀ j,j<i+1→Lib.occAt (b.drop (p+2)) [two,93] j=false:=fun h j hj=>by
  rcases (by omega:j<i∨j=i) with h1 | rfl
  ·exact hno j h1
  ·exact h
 refine ab (fun h=>?_) fun h=>?_
 ·obtain ⟨y,hy⟩:∃ y,b[p+2+i]? =some y:=⟨_,List.getElem?_eq_getElem (by omega)⟩
  refine ⟨by omega,y,by rw [Int.toNat_natCast];exact hy,ab (fun h1=>au (by omega) ⟨_,ti b (p+2+i+1) (by omega),ab (fun h2=>?_) fun h2=>?_⟩) fun h1=>?_⟩
  ·refine au (by omega) ⟨b.length - (p+2+(i+1)),by omega,i+1,by omega,rfl,by omega,next ?_⟩
   rw [Bool.eq_false_iff]
   intro ho
   have:=((qC _ _ _).1 ho).2
   rw [hat] at this
   refine h2 ?_
   unfold atB
   rw [show p+2+i+1=p+2+(i+1) by omega,this];rfl
  ·have h2:=Decidable.not_not.1 h2
   have hy2:b[p+2+i+1]? =some 93:=by
    unfold atB at h2
    cases hc:b[p+2+i+1]? with
    | none=>rw [hc] at h2;exact absurd h2 (by show ¬ (-1:Int)=93;decide)
    | some c=>
     rw [hc] at h2
     have h2:(c.toNat:Int)=93:=h2
     rw [show c=93 from UInt8.toNat_inj.1 (by show c.toNat=93;omega)]
   have hl:=(List.getElem?_eq_some_iff.1 hy2).1
   have hyt:y=two:=cj h1
   subst hyt
   have ho:Lib.occAt (b.drop (p+2)) [y,93] i=true:=(qC _ _ _).2 ⟨by rw [hat];exact hy,by rw [hat];exact hy2⟩
   refine tR b p (p+2+i) y hb (by omega) (by omega) ?_
   rw [if_neg (by omega)]
   rcases hspec with ⟨_,h3⟩| ⟨k,h3,h4,h5,h6⟩
   ·have:=h3 i (by rw [List.length_drop];omega)
    rw [ho] at this;cases this
   ·rw [h3]
    rcases (by omega:k<i∨k=i∨i<k) with h7 | rfl | h7
    ·rw [hno k h7] at h5;cases h5
    ·congr 1;omega
    ·have:=h6 i h7
     rw [ho] at this;cases this
  ·refine au (by omega) ⟨b.length - (p+2+(i+1)),by omega,i+1,by omega,rfl,by omega,next ?_⟩
   rw [Bool.eq_false_iff]
   intro ho
   have:=((qC _ _ _).1 ho).1
   rw [hat,hy] at this
   injection this with this
   subst this
   exact h1 rfl
 ·have hpl:p+2+i=b.length:=by omega
  refine tR b p (p+2+i) two hb (by omega) (by omega) ?_
  rw [if_pos hpl]
  rcases hspec with ⟨h3,_⟩| ⟨k,h3,h4,h5,h6⟩
  ·rw [h3];decide
  ·exfalso
   have h7:=(List.getElem?_eq_some_iff.1 ((qC _ _ _).1 h5).2).1
   rw [List.length_drop] at h7
   rw [hno k (by omega)] at h5;cases h5
theorem vi (b:List UInt8) (p:Nat) (hb:b.length≤40000000):fQ b (p:Int) (rk p (eZ (b.drop p))):=by
 refine ab (fun h=>?_) fun h=>au (by omega) ⟨_,ti b (p+1) (by omega),by omega,?_⟩
 ·rw [List.drop_eq_nil_of_le (by omega)];rfl
 obtain ⟨x,hx⟩:∃ x,b[p]? =some x:=⟨_,List.getElem?_eq_getElem (by omega)⟩
 refine ⟨x,by rw [Int.toNat_natCast];exact hx,?_⟩
 rw [bY hx]
 show it _ _ _ _ (rk p (gZ x ((b.drop (p+1)).headD 0) (b.drop (p+1))))
 have hm:=fun n hn=>Eh b (p+1) n hn
 generalize htw:(b.drop (p+1)).headD 0=two at hm ⊢
 have m110:=hm 110 (by decide);have m58:=hm 58 (by decide);have m46:=hm 46 (by decide);have m61:=hm 61 (by decide)
 have hd1:(b.drop (p+1)).drop 1=b.drop (p+2):=by rw [List.drop_drop]
 unfold gZ
 refine ab (fun h1=>au (by omega) ?_) fun h1=>⟨by omega,x,by rw [Int.toNat_natCast];exact hx,?_⟩
 ·simp only [Bool.and_eq_true,decide_eq_true_eq] at h1
  rw [if_neg (by omega),if_pos ⟨by omega,m110.1 h1.2⟩]
  show (((10:UInt8).toNat:Int),bZ (aS z4),false,((p+2:Nat):Int),(0:Int))=_
  rw [xO];rfl
 ·have h1:¬ (x.toNat=92∧two.toNat=110):=fun ⟨e1,e2⟩=>h1 (by
   simp only [Bool.and_eq_true,decide_eq_true_eq];exact ⟨by omega,m110.2 e2⟩)
  refine ab (fun h2=>⟨by omega,x,by rw [Int.toNat_natCast];exact hx,au (by omega) ?_⟩) fun h2=>au (by omega) ?_
  ·simp only [Bool.or_eq_true,Bool.and_eq_true,Bool.not_eq_true',decide_eq_false_iff_not] at h2
   rw [if_neg (fun ⟨e1,e2⟩=>by
    rcases h2 with h2 | h2
    ·omega
    ·rcases e2 with e2 | e2 | e2
     ·exact h2.1 (m58.2 e2)
     ·exact h2.2.1 (m46.2 e2)
     ·exact h2.2.2 (m61.2 e2)),if_neg h1]
   show ((x.toNat:Int),bZ (aS z4),false,((p+1:Nat):Int),(0:Int))=_
   rw [xO];rfl
  ·simp only [Bool.or_eq_true,Bool.and_eq_true,Bool.not_eq_true',decide_eq_false_iff_not] at h2
   have h91:x.toNat=91:=by
    by_cases e:x.toNat=91
    ·exact e
    ·exact absurd (.inl (by omega)) h2
   have hth:two.toNat=58∨two.toNat=46∨two.toNat=61:=by
    by_cases e:two.toNat=58∨two.toNat=46∨two.toNat=61
    ·exact e
    ·exact absurd (.inr ⟨fun q=>e (.inl (m58.1 q)),fun q=>e (.inr (.inl (m46.1 q))),fun q=>e (.inr (.inr (m61.1 q)))⟩) h2
   have hl:p+2≤b.length:=by
    rcases Nat.lt_or_ge (p+1) b.length with hl | hl
    ·exact hl
    ·rw [List.drop_eq_nil_of_le hl] at htw
     subst htw
     have:(List.headD ([]:List UInt8) 0).toNat=0:=rfl
     omega
   rw [if_pos ⟨h91,hth⟩,hd1,(hm two.toNat (by omega)).2 rfl]
   exact A1 b p two hb hl
end Go.Proofs.YtnbceeholnkfeaaGreatDoor
namespace Go.Proofs.YtnbceeholnkfeaaGreatDoor
theorem vj (n g:Nat→Bool) (c:Nat) (v:Bool) (hv:v=n c):bZ (fun d=>if d=c then v else if d<c then n d else g d)=bZ (fun d=>if d<c+1 then n d else g d):=fE fun d _=>by
 subst hv
 by_cases h1:d=c
 ·subst h1;rw [if_pos rfl,if_pos (by omega)]
 ·rw [if_neg h1]
  by_cases h2:d<c
  ·rw [if_pos h2,if_pos (by omega)]
  ·rw [if_neg h2,if_neg (by omega)]
theorem wL (n g:Nat→Bool) (c:Nat) (hc:256≤c):bZ (fun d=>if d<c then n d else g d)=bZ n:=fE fun d hd=>by rw [if_pos (by omega)]
theorem vk (n g:Nat→Bool):bZ (fun d=>if d<0 then n d else g d)=bZ g:=fE fun d hd=>by rw [if_neg (by omega)]
theorem CV (C:Int) (h:Nat→Bool) (cl:Bool) (nx e:Int) (k:Int) (hk:0≤k∧k≤500000000) (g:Nat→Bool) (ag3:Int×Int×pT→Prop) (r:ay×Int×Int)
  (hag:ag3 (nx,k+1,bZ (fun d=>g d || ((cl && h d) || (!cl && decide ((d:Int)=C)))))):ba (fun ag8 s=>gQ (C,bZ h,cl,nx,e) k ag3 ag8 s.1 s.2 r) (0,bZ g):=by
 refine ct (fun st m=>∃ c:Nat,c≤256∧m=256 - c∧st=((c:Int),bZ (fun d=>if d<c then (g d || ((cl && h d) || (!cl && decide ((d:Int)=C)))) else g d))) _ ⟨0,by omega,rfl,Prod.ext rfl (vk _ _).symm⟩ ?_
 rintro _ m ⟨c,hc,rfl,rfl⟩
 show gQ _ _ _ _ (c:Int) _ _
 refine ab (fun hlt=>?_) fun hlt=>?_
 ·have hA:∀ {f:Nat→Bool},(bZ f).l[(c:Int).toNat]? =some (f c):=fun {f}=>by rw [Int.toNat_natCast];exact ox _ (by omega)
  have hin:(0:Int)≤(c:Int)∧(c:Int)<256:=⟨by omega,by omega⟩
  have hg:(if c<c then (g c || ((cl && h c) || (!cl && decide ((c:Int)=C)))) else g c)=g c:=if_neg (by omega)
  have next:∀ v:Bool,v=(g c || ((cl && h c) || (!cl && decide ((c:Int)=C))))→bw (c:Int) (fun s'=>∃ m',m'<256 - c∧∃ c:Nat,c≤256∧m'=256 - c∧s'=((c:Int),bZ (fun d=>if d<c then (g d || ((cl && h d) || (!cl && decide ((d:Int)=C)))) else g d)))
    (Arr.set (bZ (fun d=>if d<c then (g d || ((cl && h d) || (!cl && decide ((d:Int)=C)))) else g d)) (c:Int).toNat v) r:=fun v hv=>by
   refine au (by omega) ⟨256 - (c+1),by omega,c+1,by omega,rfl,Prod.ext (by simp) ?_⟩
   show Arr.set _ _ _=_
   rw [Int.toNat_natCast,oX]
   exact vj (fun d=>g d || ((cl && h d) || (!cl && decide ((d:Int)=C)))) g c v hv
  refine ⟨hin,_,hA,?_⟩
  rw [hg]
  refine ab (fun h1=>⟨hin,_,hA,next true (by rw [h1];rfl)⟩) fun h1=>?_
  have h1:=Bool.eq_false_iff.2 h1
  have last:∀ b:Bool,b=cl→(b=true→h c=false)→((¬ (b=true)→(0≤(c:Int)∧(c:Int)<256)∧∃ y9068:Bool,(bZ (fun d=>if d<c then (g d || ((cl && h d) || (!cl && decide ((d:Int)=C)))) else g d)).l[(c:Int).toNat]? =some y9068∧bw (c:Int) (fun s'=>∃ m',m'<256 - c∧∃ c:Nat,c≤256∧m'=256 - c∧s'=((c:Int),bZ (fun d=>if d<c then (g d || ((cl && h d) || (!cl && decide ((d:Int)=C)))) else g d))) (Arr.set (bZ (fun d=>if d<c then (g d || ((cl && h d) || (!cl && decide ((d:Int)=C)))) else g d)) (c:Int).toNat ((decide ((c:Int)=C)))) r)∧(¬ (¬ (b=true))→(0≤(c:Int)∧(c:Int)<256)∧∃ y9070:Bool,(bZ (fun d=>if d<c then (g d || ((cl && h d) || (!cl && decide ((d:Int)=C)))) else g d)).l[(c:Int).toNat]? =some y9070∧bw (c:Int) (fun s'=>∃ m',m'<256 - c∧∃ c:Nat,c≤256∧m'=256 - c∧s'=((c:Int),bZ (fun d=>if d<c then (g d || ((cl && h d) || (!cl && decide ((d:Int)=C)))) else g d))) (Arr.set (bZ (fun d=>if d<c then (g d || ((cl && h d) || (!cl && decide ((d:Int)=C)))) else g d)) (c:Int).toNat false) r)):=fun b hb hh=>by
   subst hb
   refine ab (fun h2=>⟨hin,_,hA,next _ ?_⟩) fun h2=>⟨hin,_,hA,next _ ?_⟩
   ·rw [h1,Bool.eq_false_iff.2 h2];simp
   ·rw [h1,Decidable.not_not.1 h2,hh (Decidable.not_not.1 h2)];rfl
  refine ab (fun h2=>⟨hin,_,hA,ab (fun h3=>⟨hin,_,hA,next true ?_⟩) fun h3=>last cl rfl fun _=>Bool.eq_false_iff.2 h3⟩) fun h2=>last cl rfl fun e=>absurd e h2
  have h2:cl=true:=h2
  rw [h2,h3];simp
 ·have:c=256:=by omega
  subst this
  rw [wL _ _ _ (Nat.le_refl _)]
  exact au (by omega) hag
theorem zl (x y:Nat) (hx:x≤y) (hy:y<256) (h:pT) (cl:Bool) (nx e:Int) (k:Int) (hk:0≤k∧k≤500000000) (g:Nat→Bool) (ag3:Int×Int×pT→Prop) (r:ay×Int×Int)
  (hag:ag3 (nx,k+1,bZ (fun d=>g d || decide (x≤d∧d≤y)))):ba (fun ag11 s=>gp ((y:Int),h,cl,nx,e) k ag3 ag11 s.1 s.2 r) ((x:Int),bZ g):=by
 refine ct (fun st m=>∃ c:Nat,x≤c∧c≤y+1∧m=257 - c∧st=((c:Int),bZ (fun d=>g d || decide (x≤d∧d<c)))) _ ⟨x,by omega,by omega,rfl,Prod.ext rfl (fE fun d _=>by rw [decide_eq_false (by omega)];simp)⟩ ?_
 rintro _ m ⟨c,hc1,hc2,rfl,rfl⟩
 show gp _ _ _ _ (c:Int) _ _
 refine ab (fun hlt=>?_) fun hlt=>?_
 ·have hlt:(c:Int)≤(y:Int):=hlt
  refine ⟨⟨by omega,by omega⟩,_,by rw [Int.toNat_natCast];exact ox _ (by omega),au (by omega) ⟨257 - (c+1),by omega,c+1,by omega,by omega,rfl,Prod.ext (by simp) ?_⟩⟩
  show Arr.set _ _ _=_
  rw [Int.toNat_natCast,oX]
  refine fE fun d hd=>?_
  by_cases h1:d=c
  ·subst h1;rw [if_pos rfl,decide_eq_true (p:=x≤d∧d<d+1) ⟨hc1,by omega⟩];simp
  ·rw [if_neg h1,show decide (x≤d∧d<c+1)=decide (x≤d∧d<c) by rw [decide_eq_decide];omega]
 ·have hlt:¬ (c:Int)≤(y:Int):=hlt
  refine au (by omega) ?_
  have:bZ (fun d=>g d || decide (x≤d∧d<c))=bZ (fun d=>g d || decide (x≤d∧d≤y)):=fE fun d _=>by rw [show decide (x≤d∧d<c)=decide (x≤d∧d≤y) by rw [decide_eq_decide];omega]
  rw [this];exact hag
theorem CW (y24:Int) (f:ay) (i:Nat) (hi:i≤500000000):ba (fun ag5 s=>gR y24 (i:Int) ag5 s.1 s.2 (if decide (y24=94)=true then fI f else f,((i+1:Nat):Int),0)) (0,bZ (aS f)):=by
 refine ct (fun st m=>∃ c:Nat,c≤256∧m=256 - c∧st=((c:Int),bZ (fun d=>if d<c then !(aS f d==decide (y24=94)) else aS f d))) _ ⟨0,by omega,rfl,Prod.ext rfl (vk _ _).symm⟩ ?_
 rintro _ m ⟨c,hc,rfl,rfl⟩
 show gR _ _ _ (c:Int) _ _
 refine ab (fun hlt=>?_) fun hlt=>?_
 ·have hA:∀ {f:Nat→Bool},(bZ f).l[(c:Int).toNat]? =some (f c):=fun {f}=>by rw [Int.toNat_natCast];exact ox _ (by omega)
  refine ⟨⟨by omega,by omega⟩,_,hA,⟨by omega,by omega⟩,_,hA,au (by omega) ⟨256 - (c+1),by omega,c+1,by omega,rfl,Prod.ext (by simp) ?_⟩⟩
  show Arr.set _ _ _=_
  rw [Int.toNat_natCast,oX]
  refine vj (fun d=>!(aS f d==decide (y24=94))) (aS f) c _ ?_
  rw [if_neg (by omega)]
 ·have:c=256:=by omega
  subst this
  rw [wL _ _ _ (Nat.le_refl _)]
  refine ⟨_,Ek _,au (by omega) ?_⟩
  refine Prod.ext ?_ (Prod.ext (by simp) rfl)
  show (if decide (y24=94)=true then fI f else f)=kJ (oY (bZ fun d=>!(aS f d==decide (y24=94)))) 256
  symm
  refine qf fun d hd=>?_
  have hb:oY (bZ fun d=>!(aS f d==decide (y24=94))) d= !(aS f d==decide (y24=94)):=by
   unfold oY
   rw [List.getD_eq_getElem?_getD,ox _ hd];rfl
  rw [hb]
  by_cases h9:y24=94
  ·rw [decide_eq_true h9,if_pos rfl,mY _ _ hd];cases aS f d <;> rfl
  ·rw [decide_eq_false h9,if_neg (by decide)];cases aS f d <;> rfl
theorem Ei (b:List UInt8) (q:Nat):isD (b.drop q)=(decide (atB b q=45) && decide (atB b (q+1)≠93)):=by
 unfold atB
 cases h:b[q]? with
 | none=>rw [List.drop_eq_nil_of_le (List.getElem?_eq_none_iff.1 h)];rfl
 | some c=>
  rw [bY h]
  show (decide (c.toNat=45) && _)=(decide ((c.toNat:Int)=45) && _)
  rw [show decide ((c.toNat:Int)=45)=decide (c.toNat=45) by rw [decide_eq_decide];omega]
  congr 1
  cases h2:b[q+1]? with
  | none=>rw [List.drop_eq_nil_of_le (List.getElem?_eq_none_iff.1 h2)];rfl
  | some d=>
   rw [bY h2]
   show decide (d.toNat≠93)=decide ((d.toNat:Int)≠93)
   rw [decide_eq_decide];omega
theorem un2 (f u:ay) (d:Nat) (hd:d<256):aS (unS [f,u]) d=(aS f d || aS u d):=by rw [yo _ _ hd];simp
theorem vl (b:List UInt8) (y24:Int) (a0:Nat) (hb:b.length≤40000000) (h0:a0≤b.length):ba (fun ag3 s=>gS b y24 ag3 s.1 s.2.1 s.2.2 (oD (decide (y24=94)) a0 (dj ((b.drop a0).length+1) true (b.drop a0) z4 0))) ((a0:Int),0,Arr.rep 256 false):=by
 refine ct (fun (st:Int×Int×pT) m=>∃ (n l k:Nat) (f:ay),m=n∧a0+l≤b.length∧b.length - (a0+l)<n∧k+n≤200000000∧st=(((a0+l:Nat):Int),(k:Int),bZ (aS f))∧dj n (decide (k=0)) (b.drop (a0+l)) f l=dj ((b.drop a0).length+1) true (b.drop a0) z4 0) ((b.drop a0).length+1) ⟨(b.drop a0).length+1,0,0,z4,rfl,by omega,by rw [List.length_drop];omega,by rw [List.length_drop];omega,Prod.ext rfl (Prod.ext rfl xO.symm),rfl⟩ ?_
 rintro _ n ⟨_,l,k,f,rfl,hl,hn,hkn,rfl,hr⟩
 show gS b y24 _ ((a0+l:Nat):Int) (k:Int) (bZ (aS f)) _
 obtain ⟨n,rfl⟩:∃ j,n=j+1:=⟨n - 1,by omega⟩
 generalize hW:dj ((b.drop a0).length+1) true (b.drop a0) z4 0=W at hr ⊢
 rw [gy] at hr
 have hj4:¬ (decide (k=0)=false∧mB (b.drop (a0+l))=true)→fc b ((a0+l:Nat):Int) (k:Int) (fun s'=>∃ m',m'<n+1∧∃ (n l k:Nat) (f:ay),m'=n∧a0+l≤b.length∧b.length - (a0+l)<n∧k+n≤200000000∧s'=(((a0+l:Nat):Int),(k:Int),bZ (aS f))∧dj n (decide (k=0)) (b.drop (a0+l)) f l=W) (bZ (aS f)) (oD (decide (y24=94)) a0 W):=fun h=>by
  rw [if_neg h] at hr
  unfold gc at hr
  refine ⟨_,vi b (a0+l) hb,?_⟩
  cases hx:eZ (b.drop (a0+l)) with
  | error e=>
   rw [hx] at hr
   rw [← hr]
   exact ab (fun _=>rfl) fun h=>absurd (ku hx) h
  | ok x=>
   rw [hx] at hr
   dsimp only at hr
   have hlen:=jq hx
   rw [List.length_drop] at hlen
   have hnx:((a0+l+x.2.2.2:Nat):Int)+1=((a0+l+x.2.2.2+1:Nat):Int):=by omega
   have hD:=Ei b (a0+l+x.2.2.2)
   refine ab (fun h=>absurd rfl h) fun _=>⟨_,sq b (a0+l+x.2.2.2),?_⟩
   unfold jL at hr
   rw [List.drop_drop] at hr
   have hplain:isD (b.drop (a0+l+x.2.2.2))=false→fb (rk (a0+l) (.ok x)) (k:Int) (fun s'=>∃ m',m'<n+1∧∃ (n l k:Nat) (f:ay),m'=n∧a0+l≤b.length∧b.length - (a0+l)<n∧k+n≤200000000∧s'=(((a0+l:Nat):Int),(k:Int),bZ (aS f))∧dj n (decide (k=0)) (b.drop (a0+l)) f l=W) (bZ (aS f)) b true (oD (decide (y24=94)) a0 W):=fun hd=>by
    rw [if_pos hd] at hr
    refine ab (fun _=>?_) fun h=>absurd rfl h
    refine CV _ (aS x.2.1) x.2.2.1 _ _ _ ⟨by omega,by omega⟩ (aS f) _ _ ?_
    refine ⟨n,by omega,n,l+x.2.2.2,k+1,unS [f,if x.2.2.1=true then x.2.1 else ofS [x.1]],rfl,by omega,by omega,by omega,?_,?_⟩
    ·refine Prod.ext ?_ (Prod.ext (by simp) (fE fun d hd=>?_))
     ·show ((a0+l+x.2.2.2:Nat):Int)=((a0+(l+x.2.2.2):Nat):Int)
      omega
     ·rw [un2 _ _ d hd]
      cases hc:x.2.2.1 with
      | true=>simp
      | false=>
       simp only [Bool.false_eq_true,if_false,Bool.false_and,Bool.false_or,Bool.not_false,Bool.true_and]
       rw [rN _ _ hd]
       simp only [List.any_cons,List.any_nil,Bool.or_false]
       congr 1
       rw [decide_eq_decide];omega
    ·rw [show decide (k+1=0)=false from decide_eq_false (by omega),← Nat.add_assoc]
     rw [← hr]
     cases hc:x.2.2.1 with
     | true=>simp [List.drop_drop]
     | false=>simp [List.drop_drop]
   refine ab (fun h1=>hplain ?_) fun h1=>au (by show -9223372036854775808≤((a0+l+x.2.2.2:Nat):Int)+1∧((a0+l+x.2.2.2:Nat):Int)+1≤_;omega) ⟨_,ti b (a0+l+x.2.2.2+1) hnx,?_⟩
   ·rw [hD,decide_eq_false h1];rfl
   have h1:=Decidable.not_not.1 h1
   by_cases h2:atB b (a0+l+x.2.2.2+1)=93
   ·rw [decide_eq_true h2]
    exact hplain (by rw [hD,decide_eq_false (p:=_≠_) (by simpa using h2),Bool.and_false])
   ·rw [decide_eq_false h2]
    have hd:isD (b.drop (a0+l+x.2.2.2))=true:=by rw [hD,decide_eq_true h1,decide_eq_true h2];rfl
    rw [if_neg (by rw [hd];decide)] at hr
    refine ab (fun h=>by cases h) fun _=>ab (fun h3=>?_) fun h3=>au (by show -9223372036854775808≤((a0+l+x.2.2.2:Nat):Int)+1∧((a0+l+x.2.2.2:Nat):Int)+1≤_;omega) ?_
    ·have h3:x.2.2.1=true:=h3
     rw [if_pos h3] at hr
     rw [← hr];rfl
    ·have h3:¬ x.2.2.1=true:=h3
     rw [if_neg h3,List.drop_drop,show a0+l+(x.2.2.2+1)=a0+l+x.2.2.2+1 by omega] at hr
     refine ⟨rk (a0+l+x.2.2.2+1) (eZ (b.drop (a0+l+x.2.2.2+1))),by rw [show (rk (a0+l) (.ok x)).2.2.2.1+1=((a0+l+x.2.2.2+1:Nat):Int) from hnx];exact vi b _ hb,?_⟩
     cases hy:eZ (b.drop (a0+l+x.2.2.2+1)) with
     | error e=>
      rw [hy] at hr
      rw [← hr]
      exact ab (fun _=>rfl) fun h=>absurd (ku hy) h
     | ok y=>
      rw [hy] at hr
      dsimp only at hr
      have hlen2:=jq hy
      rw [List.length_drop] at hlen2
      have hy8:=y.1.toNat_lt
      refine ab (fun h=>absurd rfl h) fun _=>ab (fun h4=>?_) fun h4=>?_
      ·have h4:(y.2.2.1 || decide ((y.1.toNat:Int)<(x.1.toNat:Int)))=true:=h4
       simp only [Bool.or_eq_true,decide_eq_true_eq] at h4
       rw [if_pos (by rcases h4 with h4 | h4;exact .inl h4;exact .inr (by omega))] at hr
       rw [← hr];rfl
      ·have h4:¬ (y.2.2.1 || decide ((y.1.toNat:Int)<(x.1.toNat:Int)))=true:=h4
       simp only [Bool.or_eq_true,decide_eq_true_eq] at h4
       rw [if_neg (fun e=>h4 (by rcases e with e | e;exact .inl e;exact .inr (by omega)))] at hr
       refine zl x.1.toNat y.1.toNat (by omega) hy8 _ _ _ _ _ ⟨by omega,by omega⟩ (aS f) _ _ ?_
       refine ⟨n,by omega,n,l+(x.2.2.2+1+y.2.2.2),k+1,unS [f,zZ x.1 y.1],rfl,by omega,by omega,by omega,?_,?_⟩
       ·refine Prod.ext ?_ (Prod.ext (by simp) (fE fun d hd=>?_))
        ·show ((a0+l+x.2.2.2+1+y.2.2.2:Nat):Int)=((a0+(l+(x.2.2.2+1+y.2.2.2)):Nat):Int)
         omega
        ·rw [un2 _ _ d hd,oG _ _ _ (by omega) hd,decide_eq_true (show d<256 from hd),Bool.true_and]
       ·rw [show decide (k+1=0)=false from decide_eq_false (by omega),← hr,← Nat.add_assoc]
        simp only [List.drop_drop]
 have hh93:mB (b.drop (a0+l))=true↔atB b (a0+l)=93:=by
  unfold atB
  cases hc:b[a0+l]? with
  | none=>
   rw [List.drop_eq_nil_of_le (List.getElem?_eq_none_iff.1 hc)]
   exact ⟨fun e=>(by cases e),fun e=>absurd e (by show ¬ (-1:Int)=93;decide)⟩
  | some c=>
   rw [bY hc]
   show decide (c.toNat=93)=true↔(c.toNat:Int)=93
   rw [decide_eq_true_eq];omega
 refine ab (fun h1=>hj4 fun h=>?_) fun h1=>⟨_,sq b (a0+l),ab (fun h2=>hj4 fun h=>h2 (hh93.1 h.2)) fun h2=>?_⟩
 ·have:=of_decide_eq_false h.1;omega
 ·rw [if_pos ⟨decide_eq_false (by omega),hh93.2 (Decidable.not_not.1 h2)⟩] at hr
  rw [← hr]
  exact CW y24 f (a0+l) (by omega)
theorem tS (b:List UInt8) (p:Nat) (hb:b.length≤40000000) (hp:p≤b.length):fx b (p:Int) (bn b p):=by
 have h94:uf (b.drop p)=decide (atB b p=94):=by
  unfold atB
  cases hc:b[p]? with
  | none=>rw [List.drop_eq_nil_of_le (List.getElem?_eq_none_iff.1 hc)];rfl
  | some c=>
   rw [bY hc]
   show decide (c.toNat=94)=decide ((c.toNat:Int)=94)
   rw [decide_eq_decide];omega
 show gU b (p:Int) _ _
 rw [show ((decide ((p:Int)<0)) || (decide ((b.length:Int)<(p:Int))))=false from by
  rw [Bool.or_eq_false_iff,decide_eq_false_iff_not,decide_eq_false_iff_not];omega]
 unfold bn
 rw [h94]
 refine ab (fun h=>by cases h) fun _=>⟨_,sq b p,ab (fun h=>au (by omega) ?_) fun h=>?_⟩
 ·rw [if_pos (decide_eq_true h)]
  have hl:p+1≤b.length:=by
   rcases Nat.lt_or_ge p b.length with h1 | h1
   ·exact h1
   ·unfold atB at h
    rw [List.getElem?_eq_none h1] at h
    exact absurd h (by show ¬ (-1:Int)=94;decide)
  have:=vl b (atB b p) (p+1) hb hl
  rw [decide_eq_true h] at this
  exact this
 ·rw [if_neg (by rw [decide_eq_false h];decide)]
  have:=vl b (atB b p) p hb hp
  rw [decide_eq_false h] at this
  exact this
end Go.Proofs.YtnbceeholnkfeaaGreatDoor
