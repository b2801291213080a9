/- Taken over from other chapters' plain texts. -/
import Derived.Test.YtnbceeholnkfeaaGreatDoorPl
import Derived.Test.YtnbceeholnkfeaaGreatDoorGK
namespace Go.Proofs.YtnbceeholnkfeaaGreatDoor
abbrev ay:=Arr 4 UInt64
def aS (s:ay) (c:Nat):Bool:=(s.l.getD (c / 64) 0).toNat.testBit (c % 64)
theorem tb (x k:Nat):x.testBit k=decide (x / 2 ^ k % 2=1):=Nat.testBit_eq_decide_div_mod_eq
theorem DA {s:ay} {c:Nat} {y:UInt64} (hy:s.l[c / 64]? =some y):aS s c=decide (y.toNat / 2 ^ (c % 64) % 2=1):=by
 unfold aS
 rw [List.getD_eq_getElem?_getD,hy,tb];rfl
def fI (s:ay):ay:=⟨s.l.map (~~~ ·),by rw [List.length_map];exact s.len⟩
def orS (s u:ay):ay:=⟨List.zipWith (· ||| ·) s.l u.l,by rw [List.length_zipWith,s.len,u.len];rfl⟩
theorem Ch (y:UInt64):(18446744073709551615:UInt64) ^^^ y= ~~~ y:=by
 apply UInt64.toBitVec_inj.1
 rw [UInt64.toBitVec_xor,UInt64.toBitVec_not,show (18446744073709551615:UInt64).toBitVec=BitVec.allOnes 64 from rfl,BitVec.allOnes_xor]
theorem rM (s:ay):je s (fI s):=by
 refine ct (fun st m=>∃ k,k≤4∧m=4 - k∧st.1=(k:Int)∧st.2.l=(s.l.take k).map (~~~ ·)++s.l.drop k) 4 ⟨0,by omega,rfl,rfl,by simp⟩ ?_
 rintro ⟨x,f⟩ m ⟨k,hk,rfl,h1,h2⟩
 simp only at h1 h2
 subst h1
 show pG _ (k:Int) f _
 refine ab (fun h3=>?_) fun h3=>?_
 ·have hk4:k<s.l.length:=by rw [s.len];omega
  have hf:f.l[k]? =some s.l[k]:=by rw [h2,List.getElem?_append_right (by simp;omega),List.length_map,List.length_take,Nat.min_eq_left (by omega),Nat.sub_self,List.getElem?_drop,Nat.add_zero,List.getElem?_eq_getElem hk4]
  refine atA (by omega) (by omega) fun y hy=>?_
  rw [Int.toNat_natCast,hf] at hy
  injection hy with hy
  refine E6 (a:=18446744073709551615) (b:=y) ?_
  refine atA (by omega) (by omega) fun y' hy'=>au (by omega) ⟨4 - (k+1),by omega,k+1,by omega,rfl,by simp,?_⟩
  show f.l.set ((k:Int).toNat) _=_
  have hml:(List.map (fun x:UInt64=>~~~ x) (s.l.take k)).length=k:=by rw [List.length_map,List.length_take];omega
  rw [Int.toNat_natCast,h2,Ch,← hy,List.set_append_right _ _ (by omega),hml,Nat.sub_self,List.drop_eq_getElem_cons hk4,List.set_cons_zero,List.take_add_one,List.getElem?_eq_getElem hk4,List.map_append,List.append_assoc]
  rfl
 ·obtain rfl:k=4:=by omega
  refine Arr.ext ?_
  show List.map _ s.l=f.l
  rw [h2,List.take_of_length_le (by rw [s.len];omega),List.drop_eq_nil_of_le (by rw [s.len];omega),List.append_nil]
def mg (s:ay) (c:Nat):ay:=Arr.set s (c / 64) (s.l.getD (c / 64) 0 ||| UInt64.ofNat (2 ^ (c % 64)))
theorem sL (s:ay) (c:UInt8):ib s c (mg s c.toNat):=by
 have hc:=c.toNat_lt
 have h1:(c.toNat:Int).tdiv 64=((c.toNat / 64:Nat):Int):=td _ 64
 have h2:(c.toNat:Int).tmod 64=((c.toNat % 64:Nat):Int):=tm _ 64
 unfold ib
 rw [h1,h2]
 refine ⟨by decide,iu (by omega) fun c4 h4=>atA (by omega) (by omega) fun y hy=>⟨by decide,xA (by omega) fun c8 h8=>⟨by omega,?_⟩⟩⟩
 have hmin:min ((c8.toNat:Int):Int).toNat IntKind.u64.bits=c.toNat % 64:=by show min _ 64=_;omega
 rw [show ((c4.toNat:Int):Int).toNat=c.toNat / 64 by omega] at hy ⊢
 have hp:2 ^ (c.toNat % 64)≤2 ^ 63:=Nat.pow_le_pow_right (by decide) (by omega)
 have hz:(1:Int) * 2 ^ (c.toNat % 64)=((2 ^ (c.toNat % 64):Nat):Int):=by simp
 rw [hmin,hz]
 have hg:s.l.getD (c.toNat / 64) 0=y:=by rw [List.getD_eq_getElem?_getD,hy];rfl
 unfold mg
 rw [hg]
 generalize 2 ^ (c.toNat % 64)=q at hp
 refine sj (by omega) fun c10 h10=>Eb ⟨⟨by omega,by omega⟩,y,hy,?_⟩
 rw [show UInt64.ofNat q=c10 from UInt64.toNat_inj.1 (by rw [UInt64.toNat_ofNat_of_lt' (by simp [UInt64.size];omega)];omega)]
def ofS (l:List UInt8):ay:=l.foldl (fun s c=>mg s c.toNat) (Arr.rep 4 0)
theorem z7 {l:List UInt8} {k:Nat} {c:UInt8} (h:l[k]? =some c):ofS (l.take (k+1))=mg (ofS (l.take k)) c.toNat:=by
 unfold ofS
 rw [List.take_add_one,h,List.foldl_append];rfl
theorem oE (l:List UInt8) (hl:l.length≤1000000):gA l (ofS l):=by
 refine ct (fun st m=>∃ k,k≤l.length∧m=l.length - k∧st.1=(k:Int)∧st.2=ofS (l.take k)) _ ⟨0,by omega,rfl,rfl,rfl⟩ ?_
 rintro ⟨x,f⟩ m ⟨k,hk,rfl,h1,h2⟩
 simp only at h1 h2
 subst h1;subst h2
 show qO l _ (k:Int) _ _
 refine ab (fun h3=>?_) fun h3=>?_
 ·refine at_ (by omega) (by omega) fun y hy=>⟨_,sL _ _,au (by omega) ⟨l.length - (k+1),by omega,k+1,by omega,rfl,by simp,?_⟩⟩
  rw [Int.toNat_natCast] at hy
  exact (z7 hy).symm
 ·rw [List.take_of_length_le (by omega)]
theorem yn (u:ay) (x:Int) (ag1:Int×ay→Prop) (f:ay) (r:ay) (hx:0≤x∧x≤1000) (h:ag1 (x+1,orS f u)):ba (fun ag2 s=>lQ u x ag1 ag2 s.1 s.2 r) (0,f):=by
 refine ct (fun st m=>∃ k,k≤4∧m=4 - k∧st.1=(k:Int)∧st.2.l=List.zipWith (· ||| ·) (f.l.take k) (u.l.take k)++f.l.drop k) 4 ⟨0,by omega,rfl,rfl,by simp⟩ ?_
 rintro ⟨y,g⟩ m ⟨k,hk,rfl,h1,h2⟩
 simp only at h1 h2
 subst h1
 show lQ u x ag1 _ (k:Int) g _
 refine ab (fun h3=>?_) fun h3=>?_
 ·have hf4:k<f.l.length:=by rw [f.len];omega
  have hu4:k<u.l.length:=by rw [u.len];omega
  have hml:(List.zipWith (· ||| ·) (f.l.take k) (u.l.take k)).length=k:=by rw [List.length_zipWith,List.length_take,List.length_take];omega
  have hg:g.l[k]? =some f.l[k]:=by rw [h2,List.getElem?_append_right (by omega),hml,Nat.sub_self,List.getElem?_drop,Nat.add_zero,List.getElem?_eq_getElem hf4]
  refine atA (by omega) (by omega) fun a ha=>atA (by omega) (by omega) fun b hb=>Eb (atA (by omega) (by omega) fun c hc=>au (by omega) ⟨4 - (k+1),by omega,k+1,by omega,rfl,by simp,?_⟩)
  rw [Int.toNat_natCast,hg] at ha
  rw [Int.toNat_natCast,List.getElem?_eq_getElem hu4] at hb
  injection ha with ha
  injection hb with hb
  show g.l.set ((k:Int).toNat) _=_
  rw [Int.toNat_natCast,h2,← ha,← hb,List.set_append_right _ _ (by omega),hml,Nat.sub_self,List.drop_eq_getElem_cons hf4,List.set_cons_zero,List.take_add_one,List.take_add_one,List.getElem?_eq_getElem hf4,List.getElem?_eq_getElem hu4,List.zipWith_append (by rw [List.length_take,List.length_take];omega),List.append_assoc]
  rfl
 ·obtain rfl:k=4:=by omega
  have:g=orS f u:=by
   apply Arr.ext
   show g.l=List.zipWith _ f.l u.l
   rw [h2,List.take_of_length_le (by rw [f.len];omega),List.take_of_length_le (by rw [u.len];omega),List.drop_eq_nil_of_le (by rw [f.len];omega),List.append_nil]
  subst this
  exact ⟨⟨by omega,by omega⟩,h⟩
def unS (l:List ay):ay:=l.foldl orS (Arr.rep 4 0)
theorem z8 {l:List ay} {k:Nat} {u:ay} (h:l[k]? =some u):unS (l.take (k+1))=orS (unS (l.take k)) u:=by
 unfold unS
 rw [List.take_add_one,h,List.foldl_append];rfl
theorem Aa (l:List ay) (hl:l.length≤100):mM l (unS l):=by
 refine ct (fun st m=>∃ k,k≤l.length∧m=l.length - k∧st.1=(k:Int)∧st.2=unS (l.take k)) _ ⟨0,by omega,rfl,rfl,rfl⟩ ?_
 rintro ⟨x,f⟩ m ⟨k,hk,rfl,h1,h2⟩
 simp only at h1 h2
 subst h1;subst h2
 show n7 l _ (k:Int) _ _
 refine ab (fun h3=>?_) fun h3=>?_
 ·refine at_ (by omega) (by omega) fun u hu=>yn _ _ _ _ _ (by omega) ⟨l.length - (k+1),by omega,k+1,by omega,rfl,by simp,?_⟩
  rw [Int.toNat_natCast] at hu
  exact (z8 hu).symm
 ·rw [List.take_of_length_le (by omega)]
theorem DB (s u:ay) (c:Nat) (hc:c<256):aS (orS s u) c=(aS s c || aS u c):=by
 have h1:c / 64<s.l.length:=by rw [s.len];omega
 have h2:c / 64<u.l.length:=by rw [u.len];omega
 unfold aS orS
 simp only [List.getD_eq_getElem?_getD,List.getElem?_zipWith,List.getElem?_eq_getElem h1,List.getElem?_eq_getElem h2,Option.getD_some,UInt64.toNat_or,Nat.testBit_or]
theorem yo (l:List ay) (c:Nat) (hc:c<256):aS (unS l) c=l.any (aS · c):=by
 have h:∀ (l:List ay) (s:ay),aS (l.foldl orS s) c=(aS s c || l.any (aS · c)):=by
  intro l
  induction l with
  | nil=>intro s;simp
  | cons u l ih=>intro s;rw [List.foldl_cons,ih,DB _ _ _ hc,List.any_cons,Bool.or_assoc]
 unfold unS
 rw [h]
 have:aS (Arr.rep 4 0) c=false:=by
  unfold aS
  rw [List.getD_eq_getElem?_getD]
  show (((List.replicate 4 (0:UInt64))[c / 64]?).getD 0).toNat.testBit _=false
  rw [List.getElem?_replicate,if_pos (by omega)]
  simp
 rw [this,Bool.false_or]
theorem Ci (u:UInt64):(0:UInt64) ||| u=u:=UInt64.toNat_inj.1 (by rw [UInt64.toNat_or];exact Nat.zero_or _)
theorem DC (w:UInt64) (k j:Nat) (hk:k<64):(w ||| UInt64.ofNat (2 ^ k)).toNat.testBit j=(w.toNat.testBit j || decide (k=j)):=by
 have hp:2 ^ k≤2 ^ 63:=Nat.pow_le_pow_right (by decide) (by omega)
 rw [UInt64.toNat_or,Nat.testBit_or,UInt64.toNat_ofNat_of_lt' (by simp [UInt64.size];omega),Nat.testBit_two_pow]
theorem oF (s:ay) (c d:Nat) (hc:c<256) (hd:d<256):aS (mg s c) d=(aS s d || decide (c=d)):=by
 have hcl:c / 64<s.l.length:=by rw [s.len];omega
 unfold aS mg
 simp only [Arr.set,List.getD_eq_getElem?_getD,List.getElem?_set]
 by_cases h:c / 64=d / 64
 ·rw [if_pos h,if_pos hcl,Option.getD_some,DC _ _ _ (by omega),h]
  congr 1
  rw [decide_eq_decide]
  omega
 ·rw [if_neg h,decide_eq_false (fun e=>h (by rw [e])),Bool.or_false]
theorem rN (l:List UInt8) (d:Nat) (hd:d<256):aS (ofS l) d=l.any (fun c=>decide (c.toNat=d)):=by
 have h:∀ (l:List UInt8) (s:ay),aS (l.foldl (fun s c=>mg s c.toNat) s) d=(aS s d || l.any (fun c=>decide (c.toNat=d))):=by
  intro l
  induction l with
  | nil=>intro s;simp
  | cons c l ih=>intro s;rw [List.foldl_cons,ih,oF _ _ _ (c.toNat_lt) hd,List.any_cons,Bool.or_assoc]
 unfold ofS
 rw [h]
 have:aS (Arr.rep 4 0) d=false:=by
  unfold aS
  rw [List.getD_eq_getElem?_getD]
  show (((List.replicate 4 (0:UInt64))[d / 64]?).getD 0).toNat.testBit _=false
  rw [List.getElem?_replicate,if_pos (by omega)]
  simp
 rw [this,Bool.false_or]
theorem mX {s u:ay} (h:∀ c,c<256→aS s c=aS u c):s=u:=by
 apply Arr.ext
 apply List.ext_getElem (by rw [s.len,u.len])
 intro i h1 h2
 have hi:i<4:=by rw [s.len] at h1;exact h1
 apply UInt64.toNat_inj.1
 apply Nat.eq_of_testBit_eq
 intro j
 by_cases hj:j<64
 ·have:=h (64 * i+j) (by omega)
  unfold aS at this
  rw [show (64 * i+j) / 64=i by omega,show (64 * i+j) % 64=j by omega] at this
  simpa [List.getD_eq_getElem?_getD,List.getElem?_eq_getElem h1,List.getElem?_eq_getElem h2] using this
 ·have hb:∀ w:UInt64,w.toNat.testBit j=false:=fun w=>Nat.testBit_lt_two_pow (Nat.lt_of_lt_of_le w.toNat_lt (Nat.pow_le_pow_right (by decide) (by omega)))
  rw [hb,hb]
def isS (x:ByteArray) (n:Nat):Bool×Bool:=
 if (x.toList==((⟨#[117,112,112,101,114]⟩:ByteArray)).toList)=true then (decide (65≤n∧n≤90),true) else
 if (x.toList==((⟨#[108,111,119,101,114]⟩:ByteArray)).toList)=true then (decide (97≤n∧n≤122),true) else
 if (x.toList==((⟨#[100,105,103,105,116]⟩:ByteArray)).toList)=true then (decide (48≤n∧n≤57),true) else
 if (x.toList==((⟨#[97,108,112,104,97]⟩:ByteArray)).toList)=true then (decide ((65≤n∧n≤90)∨(97≤n∧n≤122)),true) else
 if (x.toList==((⟨#[97,108,110,117,109]⟩:ByteArray)).toList)=true then (decide ((65≤n∧n≤90)∨(97≤n∧n≤122)∨(48≤n∧n≤57)),true) else
 if (x.toList==((⟨#[98,108,97,110,107]⟩:ByteArray)).toList)=true then (decide (n=32∨n=9),true) else
 if (x.toList==((⟨#[115,112,97,99,101]⟩:ByteArray)).toList)=true then (decide (n=32∨(9≤n∧n≤13)),true) else
 if (x.toList==((⟨#[99,110,116,114,108]⟩:ByteArray)).toList)=true then (decide (n≤31∨n=127),true) else
 if (x.toList==((⟨#[103,114,97,112,104]⟩:ByteArray)).toList)=true then (decide (33≤n∧n≤126),true) else
 if (x.toList==((⟨#[112,114,105,110,116]⟩:ByteArray)).toList)=true then (decide (32≤n∧n≤126),true) else
 if (x.toList==((⟨#[112,117,110,99,116]⟩:ByteArray)).toList)=true then (decide ((33≤n∧n≤126)∧¬ ((65≤n∧n≤90)∨(97≤n∧n≤122)∨(48≤n∧n≤57))),true) else
 if (x.toList==((⟨#[120,100,105,103,105,116]⟩:ByteArray)).toList)=true then (decide ((48≤n∧n≤57)∨(65≤n∧n≤70)∨(97≤n∧n≤102)),true) else
 (false,false)
theorem jM (c lo hi:UInt8) (r:Bool):cV c lo hi r↔r=decide (lo.toNat≤c.toNat∧c.toNat≤hi.toNat):=by
 unfold cV
 constructor
 ·rintro ⟨h1,h2⟩
  by_cases h:(lo.toNat:Int)≤(c.toNat:Int)
  ·rw [h1 h,decide_eq_decide];omega
  ·rw [h2 h,eq_comm,decide_eq_false_iff_not];omega
 ·rintro rfl
  refine ⟨fun h=>?_,fun h=>?_⟩
  ·rw [decide_eq_decide];omega
  ·rw [decide_eq_false_iff_not];omega
theorem pr (c:UInt8) (r:Bool):fq c r↔r=decide (65≤c.toNat∧c.toNat≤90):=by
 unfold fq
 simp only [jM,exists_eq_left];rfl
theorem pu (c:UInt8) (r:Bool):ft c r↔r=decide (97≤c.toNat∧c.toNat≤122):=by
 unfold ft
 simp only [jM,exists_eq_left];rfl
theorem nv (c:UInt8) (r:Bool):ep c r↔r=decide (48≤c.toNat∧c.toNat≤57):=by
 unfold ep
 simp only [jM,exists_eq_left];rfl
theorem pv (c:UInt8) (r:Bool):fu c r↔r=decide (33≤c.toNat∧c.toNat≤126):=by
 unfold fu
 simp only [jM,exists_eq_left];rfl
theorem DD (p q:Prop) [Decidable p] [Decidable q] (r:Bool):((decide p=true→r=true)∧(¬ (decide p=true)→r=decide q))↔r=decide (p∨q):=by
 by_cases hp:p <;> by_cases hq:q <;> simp [hp,hq]
theorem tC (c:UInt8) (r:Bool):gB c r↔r=decide ((48≤c.toNat∧c.toNat≤57)∨(65≤c.toNat∧c.toNat≤90)∨(97≤c.toNat∧c.toNat≤122)):=by
 unfold gB
 simp only [nv,pr,pu,exists_eq_left,DD]
theorem tD (c:UInt8) (r:Bool):gC c r↔r=decide (c.toNat=32∨c.toNat=9):=by
 unfold gC
 by_cases h:(c.toNat:Int)=32
 ·have h1:c.toNat=32:=by omega
  simp [h1]
 ·have h1:¬ c.toNat=32:=by omega
  simp only [h,not_false_eq_true,true_implies,false_implies,true_and,h1,false_or]
  constructor <;> (intro e;rw [e,decide_eq_decide];omega)
theorem iG (a b:Bool):((a,true)=(b,true))↔a=b:=by simp
theorem uw (x:ByteArray) (c:UInt8):jP x c (isS x c.toNat):=by
 have hA:(10:UInt8).toNat=10:=rfl
 have hB:(13:UInt8).toNat=13:=rfl
 have hC:(65:UInt8).toNat=65:=rfl
 have hD:(70:UInt8).toNat=70:=rfl
 have hE:(97:UInt8).toNat=97:=rfl
 have hF:(102:UInt8).toNat=102:=rfl
 unfold jP isS
 refine ⟨fun h=>?_,fun h=>?_⟩
 ·rw [if_pos h]
  exact ⟨_,(pr _ _).2 rfl,rfl⟩
 rw [if_neg h]
 refine ⟨fun h=>?_,fun h=>?_⟩
 ·rw [if_pos h]
  exact ⟨_,(pu _ _).2 rfl,rfl⟩
 rw [if_neg h]
 refine ⟨fun h=>?_,fun h=>?_⟩
 ·rw [if_pos h]
  exact ⟨_,(nv _ _).2 rfl,rfl⟩
 rw [if_neg h]
 refine ⟨fun h=>?_,fun h=>?_⟩
 ·rw [if_pos h]
  simp only [pr,pu,exists_eq_left,iG,decide_eq_decide,decide_eq_true_eq]
  omega
 rw [if_neg h]
 refine ⟨fun h=>?_,fun h=>?_⟩
 ·rw [if_pos h]
  exact ⟨_,(tC _ _).2 rfl,by rw [iG,decide_eq_decide];omega⟩
 rw [if_neg h]
 refine ⟨fun h=>?_,fun h=>?_⟩
 ·rw [if_pos h]
  exact ⟨_,(tD _ _).2 rfl,rfl⟩
 rw [if_neg h]
 refine ⟨fun h=>?_,fun h=>?_⟩
 ·rw [if_pos h]
  simp only [tD,jM,hA,hB,exists_eq_left,iG,decide_eq_decide,decide_eq_true_eq]
  omega
 rw [if_neg h]
 refine ⟨fun h=>?_,fun h=>?_⟩
 ·rw [if_pos h]
  simp only [iG,decide_eq_decide,decide_eq_true_eq]
  omega
 rw [if_neg h]
 refine ⟨fun h=>?_,fun h=>?_⟩
 ·rw [if_pos h]
  exact ⟨_,(pv _ _).2 rfl,rfl⟩
 rw [if_neg h]
 refine ⟨fun h=>?_,fun h=>?_⟩
 ·rw [if_pos h]
  simp only [pv,exists_eq_left,iG,decide_eq_decide,decide_eq_true_eq]
  omega
 rw [if_neg h]
 refine ⟨fun h=>?_,fun h=>?_⟩
 ·rw [if_pos h]
  simp only [pv,tC,← decide_not,decide_eq_false_iff_not,exists_eq_left,iG,decide_eq_decide,decide_eq_true_eq]
  omega
 rw [if_neg h]
 refine ⟨fun h=>?_,fun h=>?_⟩
 ·rw [if_pos h]
  simp only [nv,jM,hC,hD,hE,hF,exists_eq_left,iG,decide_eq_decide,decide_eq_true_eq]
  omega
 rw [if_neg h]
theorem pz (x:ByteArray) (n:Nat):(isS x n).2=(isS x 0).2:=by
 unfold isS
 by_cases h:(x.toList==((⟨#[117,112,112,101,114]⟩:ByteArray)).toList)=true
 ·rw [if_pos h,if_pos h]
 rw [if_neg h,if_neg h]
 clear h
 by_cases h:(x.toList==((⟨#[108,111,119,101,114]⟩:ByteArray)).toList)=true
 ·rw [if_pos h,if_pos h]
 rw [if_neg h,if_neg h]
 clear h
 by_cases h:(x.toList==((⟨#[100,105,103,105,116]⟩:ByteArray)).toList)=true
 ·rw [if_pos h,if_pos h]
 rw [if_neg h,if_neg h]
 clear h
 by_cases h:(x.toList==((⟨#[97,108,112,104,97]⟩:ByteArray)).toList)=true
 ·rw [if_pos h,if_pos h]
 rw [if_neg h,if_neg h]
 clear h
 by_cases h:(x.toList==((⟨#[97,108,110,117,109]⟩:ByteArray)).toList)=true
 ·rw [if_pos h,if_pos h]
 rw [if_neg h,if_neg h]
 clear h
 by_cases h:(x.toList==((⟨#[98,108,97,110,107]⟩:ByteArray)).toList)=true
 ·rw [if_pos h,if_pos h]
 rw [if_neg h,if_neg h]
 clear h
 by_cases h:(x.toList==((⟨#[115,112,97,99,101]⟩:ByteArray)).toList)=true
 ·rw [if_pos h,if_pos h]
 rw [if_neg h,if_neg h]
 clear h
 by_cases h:(x.toList==((⟨#[99,110,116,114,108]⟩:ByteArray)).toList)=true
 ·rw [if_pos h,if_pos h]
 rw [if_neg h,if_neg h]
 clear h
 by_cases h:(x.toList==((⟨#[103,114,97,112,104]⟩:ByteArray)).toList)=true
 ·rw [if_pos h,if_pos h]
 rw [if_neg h,if_neg h]
 clear h
 by_cases h:(x.toList==((⟨#[112,114,105,110,116]⟩:ByteArray)).toList)=true
 ·rw [if_pos h,if_pos h]
 rw [if_neg h,if_neg h]
 clear h
 by_cases h:(x.toList==((⟨#[112,117,110,99,116]⟩:ByteArray)).toList)=true
 ·rw [if_pos h,if_pos h]
 rw [if_neg h,if_neg h]
 clear h
 by_cases h:(x.toList==((⟨#[120,100,105,103,105,116]⟩:ByteArray)).toList)=true
 ·rw [if_pos h,if_pos h]
 rw [if_neg h,if_neg h]
theorem EH (x:ByteArray) (n:Nat) (h0:(isS x 0).2=false):(isS x n).1=false:=by
 rw [← pz x n] at h0
 revert h0
 unfold isS
 by_cases h:(x.toList==((⟨#[117,112,112,101,114]⟩:ByteArray)).toList)=true
 ·rw [if_pos h];intro h0;cases h0
 rw [if_neg h]
 clear h
 by_cases h:(x.toList==((⟨#[108,111,119,101,114]⟩:ByteArray)).toList)=true
 ·rw [if_pos h];intro h0;cases h0
 rw [if_neg h]
 clear h
 by_cases h:(x.toList==((⟨#[100,105,103,105,116]⟩:ByteArray)).toList)=true
 ·rw [if_pos h];intro h0;cases h0
 rw [if_neg h]
 clear h
 by_cases h:(x.toList==((⟨#[97,108,112,104,97]⟩:ByteArray)).toList)=true
 ·rw [if_pos h];intro h0;cases h0
 rw [if_neg h]
 clear h
 by_cases h:(x.toList==((⟨#[97,108,110,117,109]⟩:ByteArray)).toList)=true
 ·rw [if_pos h];intro h0;cases h0
 rw [if_neg h]
 clear h
 by_cases h:(x.toList==((⟨#[98,108,97,110,107]⟩:ByteArray)).toList)=true
 ·rw [if_pos h];intro h0;cases h0
 rw [if_neg h]
 clear h
 by_cases h:(x.toList==((⟨#[115,112,97,99,101]⟩:ByteArray)).toList)=true
 ·rw [if_pos h];intro h0;cases h0
 rw [if_neg h]
 clear h
 by_cases h:(x.toList==((⟨#[99,110,116,114,108]⟩:ByteArray)).toList)=true
 ·rw [if_pos h];intro h0;cases h0
 rw [if_neg h]
 clear h
 by_cases h:(x.toList==((⟨#[103,114,97,112,104]⟩:ByteArray)).toList)=true
 ·rw [if_pos h];intro h0;cases h0
 rw [if_neg h]
 clear h
 by_cases h:(x.toList==((⟨#[112,114,105,110,116]⟩:ByteArray)).toList)=true
 ·rw [if_pos h];intro h0;cases h0
 rw [if_neg h]
 clear h
 by_cases h:(x.toList==((⟨#[112,117,110,99,116]⟩:ByteArray)).toList)=true
 ·rw [if_pos h];intro h0;cases h0
 rw [if_neg h]
 clear h
 by_cases h:(x.toList==((⟨#[120,100,105,103,105,116]⟩:ByteArray)).toList)=true
 ·rw [if_pos h];intro h0;cases h0
 rw [if_neg h]
 clear h
 intro _;rfl
def kJ (p:Nat→Bool):Nat→ay
 | 0=>Arr.rep 4 0
 | k+1=>if p k=true then mg (kJ p k) k else kJ p k
theorem lH (d:Nat) (hd:d<256):aS (Arr.rep 4 0) d=false:=by
 unfold aS
 rw [List.getD_eq_getElem?_getD]
 show (((List.replicate 4 (0:UInt64))[d / 64]?).getD 0).toNat.testBit _=false
 rw [List.getElem?_replicate,if_pos (by omega)]
 simp
theorem oG (p:Nat→Bool) (k d:Nat) (hk:k≤256) (hd:d<256):aS (kJ p k) d=(decide (d<k) && p d):=by
 induction k with
 | zero=>rw [decide_eq_false (by omega),Bool.false_and];exact lH d hd
 | succ k ih=>
  have ih:=ih (by omega)
  unfold kJ
  by_cases h:p k=true
  ·rw [if_pos h,oF _ _ _ (by omega) hd,ih]
   by_cases h1:d=k
   ·subst h1;rw [decide_eq_true (p:=d<d+1) (by omega),h];simp
   ·rw [decide_eq_false (p:=k=d) (by omega),Bool.or_false,show decide (d<k+1)=decide (d<k) by rw [decide_eq_decide];omega]
  ·rw [if_neg h,ih]
   by_cases h1:d=k
   ·subst h1;rw [Bool.eq_false_iff.2 h];simp
   ·rw [show decide (d<k+1)=decide (d<k) by rw [decide_eq_decide];omega]
theorem qf {s:ay} {p:Nat→Bool} (h:∀ d,d<256→aS s d=p d):kJ p 256=s:=by
 apply mX
 intro d hd
 rw [oG _ _ _ (by omega) hd,decide_eq_true (by omega),Bool.true_and,h d hd]
theorem Ab (a b:UInt8):mK a b (kJ (fun c=>decide (a.toNat≤c∧c≤b.toNat)) 256):=by
 have hb:=b.toNat_lt
 have ha:=a.toNat_lt
 refine ct (fun st m=>∃ c:Nat,a.toNat≤c∧c≤256∧m=257 - c∧st.1=(c:Int)∧(c=a.toNat∨c≤b.toNat+1)∧∀ d,d<256→aS st.2 d=decide (a.toNat≤d∧d<c)) _ ⟨a.toNat,by omega,by omega,rfl,rfl,.inl rfl,fun d hd=>by rw [lH d hd,eq_comm,decide_eq_false_iff_not];omega⟩ ?_
 rintro ⟨x,f⟩ m ⟨c,h1,h2,rfl,h3,h4,h5⟩
 simp only at h3 h5
 subst h3
 show n6 b _ (c:Int) f _
 refine ab (fun h=>?_) fun h=>?_
 ·refine iu (by omega) fun y hy=>⟨_,sL f y,au (by omega) ⟨257 - (c+1),by omega,c+1,by omega,by omega,rfl,by simp,.inr (by omega),fun d hd=>?_⟩⟩
  have hyc:y.toNat=c:=by omega
  rw [oF _ _ _ (by omega) hd,h5 d hd,hyc,Bool.eq_iff_iff,Bool.or_eq_true,decide_eq_true_eq,decide_eq_true_eq,decide_eq_true_eq]
  omega
 ·refine qf fun d hd=>?_
  rw [h5 d hd,decide_eq_decide]
  omega
theorem Ac (x:ByteArray):mI x (kJ (fun c=>(isS x c).1) 256,(isS x 0).2):=by
 refine ct (fun st m=>∃ c:Nat,c≤256∧m=256 - c∧st.1=(c:Int)∧(c=0∨(isS x 0).2=true)∧∀ d,d<256→aS st.2 d=(decide (d<c) && (isS x d).1)) _ ⟨0,by omega,rfl,rfl,.inl rfl,fun d hd=>by rw [lH d hd,decide_eq_false (by omega),Bool.false_and]⟩ ?_
 rintro ⟨i,f⟩ m ⟨c,h1,rfl,h3,h4,h5⟩
 simp only at h3 h5
 subst h3
 show n5 x _ (c:Int) f _
 refine ab (fun h=>?_) fun h=>?_
 ·refine iu (by omega) fun y hy=>⟨_,uw x y,ab (fun h6=>?_) fun h6=>?_⟩
  ·rw [pz] at h6
   have h7:=Bool.eq_false_iff.2 h6
   rw [h7]
   congr 1
   refine qf fun d hd=>?_
   rw [EH x d h7];exact lH d hd
  ·rw [pz,Decidable.not_not] at h6
   have hyc:y.toNat=c:=by omega
   rw [hyc]
   refine ab (fun h7=>?_) fun h7=>?_
   ·refine iu (by omega) fun z hz=>⟨_,sL f z,au (by omega) ⟨256 - (c+1),by omega,c+1,by omega,rfl,by simp,.inr h6,fun d hd=>?_⟩⟩
    have hzc:z.toNat=c:=by omega
    rw [oF _ _ _ (by omega) hd,h5 d hd,hzc]
    by_cases h8:d=c
    ·subst h8;rw [decide_eq_true (p:=d<d+1) (by omega),h7];simp
    ·rw [decide_eq_false (p:=c=d) (by omega),Bool.or_false,show decide (d<c+1)=decide (d<c) by rw [decide_eq_decide];omega]
   ·refine au (by omega) ⟨256 - (c+1),by omega,c+1,by omega,rfl,by simp,.inr h6,fun d hd=>?_⟩
    rw [h5 d hd]
    by_cases h8:d=c
    ·subst h8;rw [Bool.eq_false_iff.2 h7];simp
    ·rw [show decide (d<c+1)=decide (d<c) by rw [decide_eq_decide];omega]
 ·have h6:(isS x 0).2=true:=h4.resolve_left (by omega)
  rw [h6]
  congr 1
  refine qf fun d hd=>?_
  rw [h5 d hd,decide_eq_true (by omega),Bool.true_and]
theorem cj {a b:UInt8} (h:(a.toNat:Int)=(b.toNat:Int)):a=b:=UInt8.toNat_inj.1 (by omega)
end Go.Proofs.YtnbceeholnkfeaaGreatDoor
namespace Go.Proofs.YtnbceeholnkfeaaGreatDoor
abbrev z4:ay:=Arr.rep 4 (0:UInt64)
abbrev It:=UInt8×ay×Bool×Nat
abbrev ItR:=(UInt8×ay×Bool×Int)×Int
def kI (t:List UInt8) (k:Nat):ByteArray:=⟨(t.take k).toArray⟩
def hY (two:UInt8) (t:List UInt8):Except Int It:=
 if Lib.index t [two,93]<0 then .error 11
 else if two.toNat=58 then
  (if (isS (kI t (Lib.index t [two,93]).toNat) 0).2=true then .ok (0,kJ (fun c=>(isS (kI t (Lib.index t [two,93]).toNat) c).1) 256,true,(Lib.index t [two,93]).toNat+4) else .error 12)
 else if (Lib.index t [two,93]).toNat=1 then .ok (t.headD 0,z4,false,5) else .error 12
def gZ (x two:UInt8) (t:List UInt8):Except Int It:=
 if x.toNat=91∧(two.toNat=58∨two.toNat=46∨two.toNat=61) then hY two (t.drop 1)
 else if x.toNat=92∧two.toNat=110 then .ok (10,z4,false,2)
 else .ok (x,z4,false,1)
def eZ:List UInt8→Except Int It
 | []=>.error 11
 | x :: t=>gZ x (t.headD 0) t
def itR (at_:Nat):Except Int It→ItR
 | .error e=>((0,z4,false,0),e)
 | .ok x=>((x.1,x.2.1,x.2.2.1,((at_+x.2.2.2:Nat):Int)),0)
theorem bY {l:List UInt8} {k:Nat} {x:UInt8} (h:l[k]? =some x):l.drop k=x :: l.drop (k+1):=by
 obtain ⟨h1,h2⟩:=List.getElem?_eq_some_iff.1 h
 rw [List.drop_eq_getElem_cons h1,h2]
theorem ym (b:List UInt8) (at_:Nat) (two:UInt8) (hb:b.length≤40000000) (h:b[at_+1]? =some two):mJ b (at_:Int) (itR at_ (hY two (b.drop (at_+2)))):=by
 obtain ⟨hlt,_⟩:=List.getElem?_eq_some_iff.1 h
 have e2:((at_:Int)+2).toNat=at_+2:=by omega
 have hroom:=Lib.index_room (b.drop (at_+2)) [two,93]
 unfold hY
 refine au (by omega) ⟨by omega,two,by rw [show ((at_:Int)+1).toNat=at_+1 from by omega];exact h,au (by omega) ⟨⟨by omega,by omega⟩,Lib.index (b.drop (at_+2)) [two,93],?_,?_⟩⟩
 ·rw [e2]
  exact ⟨⟨by rw [List.length_drop];omega,by simp,by simp⟩,rfl⟩
 ·generalize hk:Lib.index (b.drop (at_+2)) [two,93]=k at hroom
  refine ab (fun h1=>?_) fun h1=>?_
  ·rw [if_pos h1];rfl
  ·have hr:=hroom (by omega)
   rw [List.length_drop] at hr
   simp only [List.length_cons,List.length_nil] at hr
   have hname:(b.take (((at_:Int)+2)+k).toNat).drop ((at_:Int)+2).toNat=(b.drop (at_+2)).take k.toNat:=by
    rw [e2,List.drop_take,show (((at_:Int)+2)+k).toNat - (at_+2)=k.toNat from by omega]
   rw [hname,if_neg h1]
   refine au (by omega) (au (by omega) (au (by omega) ⟨⟨by omega,by omega,by omega⟩,au (by omega) (au (by omega) (ab (fun h2=>?_) fun h2=>?_))⟩))
   ·rw [if_pos (by omega)]
    refine ⟨_,Ac (kI (b.drop (at_+2)) k.toNat),ab (fun h3=>?_) fun h3=>?_⟩
    ·rw [if_neg h3];rfl
    ·rw [if_pos (Decidable.of_not_not h3)]
     refine Prod.ext (Prod.ext rfl (Prod.ext rfl (Prod.ext rfl ?_))) rfl
     show ((at_+(k.toNat+4):Nat):Int)=(at_:Int)+k+4
     omega
   ·rw [if_neg (by omega)]
    have hlen:(((b.drop (at_+2)).take k.toNat).length:Int)=k:=by
     rw [List.length_take,List.length_drop];omega
    rw [hlen]
    refine ab (fun h3=>?_) fun h3=>?_
    ·rw [if_neg (by omega)];rfl
    ·have hk1:k=1:=by omega
     subst hk1
     obtain ⟨x,hx⟩:∃ x,b[at_+2]? =some x:=⟨_,List.getElem?_eq_getElem (by omega)⟩
     rw [bY hx]
     refine ⟨by omega,x,rfl,?_⟩
     rw [if_pos (show Int.toNat 1=1 from rfl)]
     refine Prod.ext (Prod.ext rfl (Prod.ext rfl (Prod.ext rfl ?_))) rfl
     show ((at_+5:Nat):Int)=(at_:Int)+1+4
     omega
theorem uu (b:List UInt8) (at_:Nat) (hb:b.length≤40000000) (hat:at_≤80000000):jy b (at_:Int) (itR at_ (eZ (b.drop at_))):=by
 refine ab (fun h=>?_) fun h=>?_
 ·rw [List.drop_eq_nil_of_le (by omega)];rfl
 ·obtain ⟨x,hx⟩:∃ x,b[at_]? =some x:=⟨_,List.getElem?_eq_getElem (by omega)⟩
  have hx0:b[(at_:Int).toNat]? =some x:=by rw [Int.toNat_natCast];exact hx
  rw [bY hx]
  have key:∀ two:UInt8,(b.drop (at_+1)).headD 0=two→(b[at_+1]? =some two∨two=0)→gu (at_:Int) b two (itR at_ (gZ x two (b.drop (at_+1)))):=by
   intro two _ htwo
   refine ⟨by omega,x,hx0,?_⟩
   unfold gZ
   by_cases h1:x.toNat=91∧(two.toNat=58∨two.toNat=46∨two.toNat=61)
   ·rw [if_pos h1,show ((decide ((x.toNat:Int)=91)) && ((decide ((two.toNat:Int)=58)) || ((decide ((two.toNat:Int)=46)) || (decide ((two.toNat:Int)=61)))))=true from by
     simp only [Bool.and_eq_true,Bool.or_eq_true,decide_eq_true_eq];omega]
    have htw:b[at_+1]? =some two:=by
     rcases htwo with h | h
     ·exact h
     ·rw [h] at h1;exact absurd h1.2 (by decide)
    rw [List.drop_drop]
    exact ab (fun _=>⟨_,ym b at_ two hb htw,rfl⟩) fun h=>absurd rfl h
   ·rw [if_neg h1,show ((decide ((x.toNat:Int)=91)) && ((decide ((two.toNat:Int)=58)) || ((decide ((two.toNat:Int)=46)) || (decide ((two.toNat:Int)=61)))))=false from by
     rw [Bool.eq_false_iff]
     intro h
     simp only [Bool.and_eq_true,Bool.or_eq_true,decide_eq_true_eq] at h
     exact h1 (by omega)]
    refine ab (fun h=>by cases h) fun _=>⟨by omega,x,hx0,?_⟩
    by_cases h2:x.toNat=92∧two.toNat=110
    ·rw [if_pos h2,show ((decide ((x.toNat:Int)=92)) && (decide ((two.toNat:Int)=110)))=true from by
      simp only [Bool.and_eq_true,decide_eq_true_eq];omega]
     exact ab (fun _=>au (by omega) rfl) fun h=>absurd rfl h
    ·rw [if_neg h2,show ((decide ((x.toNat:Int)=92)) && (decide ((two.toNat:Int)=110)))=false from by
      rw [Bool.eq_false_iff]
      intro h
      simp only [Bool.and_eq_true,decide_eq_true_eq] at h
      exact h2 (by omega)]
     exact ab (fun h=>by cases h) fun _=>⟨by omega,x,hx0,au (by omega) rfl⟩
  refine au (by omega) (ab (fun h1=>?_) fun h1=>?_)
  ·obtain ⟨two,htwo⟩:∃ x,b[at_+1]? =some x:=⟨_,List.getElem?_eq_getElem (by omega)⟩
   refine au (by omega) ⟨by omega,two,by rw [show ((at_:Int)+1).toNat=at_+1 from by omega];exact htwo,?_⟩
   show gu _ _ _ (itR at_ (gZ x ((b.drop (at_+1)).headD 0) _))
   have:=bY htwo
   rw [show (b.drop (at_+1)).headD 0=two from by rw [this];rfl]
   exact key two (by rw [this];rfl) (Or.inl htwo)
  ·have:b.drop (at_+1)=[]:=List.drop_eq_nil_of_le (by omega)
   show gu _ _ _ (itR at_ (gZ x ((b.drop (at_+1)).headD 0) _))
   rw [show (b.drop (at_+1)).headD 0=0 from by rw [this];rfl]
   exact key 0 (by rw [this];rfl) (Or.inr rfl)
def isD:List UInt8→Bool
 | []=>false
 | x :: r=>decide (x.toNat=45) && (match r with | []=>true | y :: _=>decide (y.toNat≠93))
theorem Cf (b:List UInt8) (at_:Nat) (hb:b.length≤40000000) (hat:at_≤120000000):lP b (at_:Int) (isD (b.drop at_)):=by
 refine ab (fun h=>?_) fun h=>?_
 ·obtain ⟨x,hx⟩:∃ x,b[at_]? =some x:=⟨_,List.getElem?_eq_getElem (by omega)⟩
  have hx0:b[(at_:Int).toNat]? =some x:=by rw [Int.toNat_natCast];exact hx
  rw [bY hx]
  refine ⟨by omega,x,hx0,ab (fun h1=>au (by omega) (ab (fun h2=>?_) fun h2=>?_)) fun h1=>?_⟩
  ·rw [List.drop_eq_nil_of_le (by omega)]
   show (decide (x.toNat=45) && true)=true
   rw [decide_eq_true (by omega)];rfl
  ·obtain ⟨y,hy⟩:∃ x,b[at_+1]? =some x:=⟨_,List.getElem?_eq_getElem (by omega)⟩
   refine au (by omega) ⟨by omega,y,by rw [show ((at_:Int)+1).toNat=at_+1 from by omega];exact hy,?_⟩
   rw [bY hy]
   show (decide (x.toNat=45) && decide (y.toNat≠93))= !(decide ((y.toNat:Int)=93))
   rw [decide_eq_true (show x.toNat=45 by omega),Bool.true_and]
   by_cases h3:y.toNat=93
   ·rw [decide_eq_false (by omega),decide_eq_true (by omega)];rfl
   ·rw [decide_eq_true (by omega),decide_eq_false (by omega)];rfl
  ·show (decide (x.toNat=45) && _)=false
   rw [decide_eq_false (by omega)];rfl
 ·rw [List.drop_eq_nil_of_le (by omega)];rfl
abbrev zZ (a c:UInt8):ay:=kJ (fun d=>decide (a.toNat≤d∧d≤c.toNat)) 256
def jL (t:List UInt8) (x:It):Except Int (ay×Nat):=
 if isD (t.drop x.2.2.2)=false then (if x.2.2.1=true then .ok (x.2.1,x.2.2.2) else .ok (ofS [x.1],x.2.2.2))
 else if x.2.2.1=true then .error 3
 else match eZ (t.drop (x.2.2.2+1)) with
  | .error e=>.error e
  | .ok y=>if y.2.2.1=true∨y.1.toNat<x.1.toNat then .error 3 else .ok (zZ x.1 y.1,x.2.2.2+1+y.2.2.2)
def gc (t:List UInt8):Except Int (ay×Nat):=match eZ t with
 | .error e=>.error e
 | .ok x=>jL t x
theorem xa {two:UInt8} {t:List UInt8} {x:It} (h:hY two t= .ok x):1≤x.2.2.2∧x.2.2.2≤t.length+2:=by
 have hroom:=Lib.index_room t [two,93]
 simp only [List.length_cons,List.length_nil] at hroom
 unfold hY at h
 split at h
 ·cases h
 ·split at h
  ·split at h
   ·injection h with h;subst h;simp only;omega
   ·cases h
  ·split at h
   ·injection h with h;subst h;simp only;omega
   ·cases h
theorem jq {t:List UInt8} {x:It} (h:eZ t= .ok x):1≤x.2.2.2∧x.2.2.2≤t.length:=by
 cases t with
 | nil=>cases h
 | cons a t=>
  have h:gZ a (t.headD 0) t= .ok x:=h
  unfold gZ at h
  rw [List.length_cons]
  split at h
  ·rename_i h1
   have:=xa h
   cases t with
   | nil=>exact absurd h1.2 (by decide)
   | cons y t=>rw [List.length_drop,List.length_cons] at this;rw [List.length_cons];omega
  ·split at h
   ·rename_i h1
    injection h with h;subst h
    cases t with
    | nil=>exact absurd h1.2 (by decide)
    | cons y t=>rw [List.length_cons];simp only;omega
   ·injection h with h;subst h;simp only;omega
theorem ku {t:List UInt8} {e:Int} (h:eZ t= .error e):e≠0:=by
 cases t with
 | nil=>injection h with h;subst h;decide
 | cons a t=>
  have h:gZ a (t.headD 0) t= .error e:=h
  unfold gZ hY at h
  split at h
  ·split at h
   ·injection h with h;subst h;decide
   ·split at h
    ·split at h
     ·cases h
     ·injection h with h;subst h;decide
    ·split at h
     ·cases h
     ·injection h with h;subst h;decide
  ·split at h <;> cases h
theorem tA {t:List UInt8} {s:ay} {l:Nat} (h:gc t= .ok (s,l)):1≤l∧l≤t.length:=by
 unfold gc at h
 cases hr:eZ t with
 | error e=>rw [hr] at h;cases h
 | ok x=>
  rw [hr] at h
  have h:jL t x= .ok (s,l):=h
  have h1:=jq hr
  unfold jL at h
  split at h
  ·split at h <;> (injection h with h;injection h with _ h;omega)
  ·split at h
   ·cases h
   ·cases hr2:eZ (t.drop (x.2.2.2+1)) with
    | error e=>rw [hr2] at h;cases h
    | ok y=>
     rw [hr2] at h
     simp only at h
     have h2:=jq hr2
     rw [List.length_drop] at h2
     split at h
     ·cases h
     ·injection h with h;injection h with _ h;omega
theorem tB {t:List UInt8} {e:Int} (h:gc t= .error e):e≠0:=by
 unfold gc at h
 cases hr:eZ t with
 | error e=>rw [hr] at h;injection h with h;subst h;exact ku hr
 | ok x=>
  rw [hr] at h
  have h:jL t x= .error e:=h
  unfold jL at h
  split at h
  ·split at h <;> cases h
  ·split at h
   ·injection h with h;subst h;decide
   ·cases hr2:eZ (t.drop (x.2.2.2+1)) with
    | error e=>rw [hr2] at h;injection h with h;subst h;exact ku hr2
    | ok y=>
     rw [hr2] at h
     simp only at h
     split at h
     ·injection h with h;subst h;decide
     ·cases h
def ptR (at_:Nat):Except Int (ay×Nat)→ay×Int×Int
 | .error e=>(z4,0,e)
 | .ok x=>(x.1,((at_+x.2:Nat):Int),0)
theorem Cg (b:List UInt8) (at_:Nat) (hb:b.length≤40000000) (hat:at_≤b.length):nc b (at_:Int) (ptR at_ (gc (b.drop at_))):=by
 refine ⟨_,uu b at_ hb (by omega),?_⟩
 unfold gc
 cases hr:eZ (b.drop at_) with
 | error e=>exact ab (fun _=>rfl) fun h=>absurd (ku hr) h
 | ok x=>
  have hl:=jq hr
  rw [List.length_drop] at hl
  refine ab (fun h=>absurd rfl h) fun _=>⟨_,Cf b (at_+x.2.2.2) hb (by omega),?_⟩
  show _∧_
  rw [← List.drop_drop]
  unfold jL
  refine ab (fun h1=>?_) fun h1=>?_
  ·have h1:isD ((b.drop at_).drop x.2.2.2)=false:=by simpa using h1
   simp only
   rw [if_pos h1]
   refine ab (fun h2=>?_) fun h2=>⟨_,oE [x.1] (by simp),?_⟩
   ·have h2:x.2.2.1=true:=h2
    rw [if_pos h2];rfl
   ·have h2:¬ x.2.2.1=true:=h2
    rw [if_neg h2];rfl
  ·have h1:¬ isD ((b.drop at_).drop x.2.2.2)=false:=by simpa using h1
   simp only
   rw [if_neg h1]
   refine ab (fun h2=>?_) fun h2=>?_
   ·have h2:x.2.2.1=true:=h2
    rw [if_pos h2];rfl
   ·have h2:¬ x.2.2.1=true:=h2
    rw [if_neg h2]
    have hrd:=uu b (at_+(x.2.2.2+1)) hb (by omega)
    rw [← List.drop_drop] at hrd
    refine au (by show _≤((at_+x.2.2.2:Nat):Int)+1∧((at_+x.2.2.2:Nat):Int)+1≤_;omega) ⟨_,by
     show jy b (((at_+x.2.2.2:Nat):Int)+1) _
     rw [show ((at_+x.2.2.2:Nat):Int)+1=((at_+(x.2.2.2+1):Nat):Int) from by omega]
     exact hrd,?_⟩
    cases hr2:eZ ((b.drop at_).drop (x.2.2.2+1)) with
    | error e=>exact ab (fun _=>rfl) fun h=>absurd (ku hr2) h
    | ok y=>
     refine ab (fun h=>absurd rfl h) fun _=>?_
     show mL _ _ (y.2.2.1 || (decide ((y.1.toNat:Int)<(x.1.toNat:Int)))) (ptR at_ (if y.2.2.1=true∨y.1.toNat<x.1.toNat then .error 3 else .ok (zZ x.1 y.1,x.2.2.2+1+y.2.2.2)))
     by_cases h3:y.2.2.1=true∨y.1.toNat<x.1.toNat
     ·rw [if_pos h3,show (y.2.2.1 || (decide ((y.1.toNat:Int)<(x.1.toNat:Int))))=true from by
       rw [Bool.or_eq_true,decide_eq_true_eq]
       rcases h3 with h | h
       ·exact Or.inl h
       ·exact Or.inr (by omega)]
      exact ab (fun _=>rfl) fun h=>absurd rfl h
     ·rw [if_neg h3,show (y.2.2.1 || (decide ((y.1.toNat:Int)<(x.1.toNat:Int))))=false from by
       rw [Bool.eq_false_iff]
       intro h
       rw [Bool.or_eq_true,decide_eq_true_eq] at h
       rcases h with h | h
       ·exact h3 (Or.inl h)
       ·exact h3 (Or.inr (by omega))]
      refine ab (fun h=>by cases h) fun _=>⟨_,Ab x.1 y.1,?_⟩
      refine Prod.ext rfl (Prod.ext ?_ rfl)
      show ((at_+(x.2.2.2+1+y.2.2.2):Nat):Int)=((at_+(x.2.2.2+1)+y.2.2.2:Nat):Int)
      omega
end Go.Proofs.YtnbceeholnkfeaaGreatDoor
namespace Go.Proofs.YtnbceeholnkfeaaGreatDoor
def mB:List UInt8→Bool
 | []=>false
 | x :: _=>decide (x.toNat=93)
def uf:List UInt8→Bool
 | []=>false
 | x :: _=>decide (x.toNat=94)
def dj:Nat→Bool→List UInt8→ay→Nat→Except Int (ay×Nat)
 | 0,_,_,_,_=>.error 11
 | n+1,first,t,s,len=>if first=false∧mB t=true then .ok (s,len+1) else match gc t with
  | .error e=>.error e
  | .ok x=>dj n false (t.drop x.2) (unS [s,x.1]) (len+x.2)
theorem gy (n:Nat) (first:Bool) (t:List UInt8) (s:ay) (len:Nat):dj (n+1) first t s len=if first=false∧mB t=true then .ok (s,len+1) else match gc t with
  | .error e=>.error e
  | .ok x=>dj n false (t.drop x.2) (unS [s,x.1]) (len+x.2):=rfl
def oD (no:Bool) (at_:Nat):Except Int (ay×Nat)→ay×Int×Int
 | .error e=>(z4,0,e)
 | .ok x=>(if no=true then fI x.1 else x.1,((at_+x.2:Nat):Int),0)
def bn (b:List UInt8) (at_:Nat):ay×Int×Int:=
 if uf (b.drop at_)=true then oD true (at_+1) (dj ((b.drop (at_+1)).length+1) true (b.drop (at_+1)) z4 0)
 else oD false at_ (dj ((b.drop at_).length+1) true (b.drop at_) z4 0)
theorem qS (b:List UInt8) (no:Bool) (a0:Nat) (hb:b.length≤40000000) (h0:a0≤b.length):ba (fun ag4 st=>lS b no ag4 st.1 st.2.1 st.2.2 (oD no a0 (dj ((b.drop a0).length+1) true (b.drop a0) z4 0))) ((a0:Int),true,z4):=by
 refine ct (fun (st:Int×Bool×ay) m=>∃ (n l:Nat) (first:Bool) (f:ay),m=n∧a0+l≤b.length∧b.length - (a0+l)<n∧st=(((a0+l:Nat):Int),first,f)∧dj n first (b.drop (a0+l)) f l=dj ((b.drop a0).length+1) true (b.drop a0) z4 0) ((b.drop a0).length+1) ⟨(b.drop a0).length+1,0,true,z4,rfl,by omega,by rw [List.length_drop];omega,rfl,rfl⟩ ?_
 rintro _ n ⟨_,l,first,f,rfl,hl,hn,rfl,hr⟩
 show lS b no _ ((a0+l:Nat):Int) first f _
 obtain ⟨n,rfl⟩:∃ j,n=j+1:=⟨n - 1,by omega⟩
 generalize hW:dj ((b.drop a0).length+1) true (b.drop a0) z4 0=W at hr ⊢
 rw [gy] at hr
 have hj5:¬ (first=false∧mB (b.drop (a0+l))=true)→ie b ((a0+l:Nat):Int) f (fun s'=>∃ m',m'<n+1∧∃ (n l:Nat) (first:Bool) (f:ay),m'=n∧a0+l≤b.length∧b.length - (a0+l)<n∧s'=(((a0+l:Nat):Int),first,f)∧dj n first (b.drop (a0+l)) f l=W) (oD no a0 W):=fun h=>by
  rw [if_neg h] at hr
  refine ⟨_,Cg b (a0+l) hb hl,?_⟩
  cases hp:gc (b.drop (a0+l)) with
  | error e=>
   rw [hp] at hr
   rw [← hr]
   exact ab (fun _=>rfl) fun h=>absurd (tB hp) h
  | ok x=>
   rw [hp] at hr
   have hlen:=tA (s:=x.1) (l:=x.2) hp
   rw [List.length_drop] at hlen
   refine ab (fun h=>absurd rfl h) fun _=>⟨_,Aa [f,x.1] (by simp),n,by omega,n,l+x.2,false,unS [f,x.1],rfl,by omega,by omega,?_,?_⟩
   ·refine Prod.ext ?_ rfl
    show ((a0+l+x.2:Nat):Int)=((a0+(l+x.2):Nat):Int)
    omega
   ·rw [← hr]
    simp only
    rw [List.drop_drop,Nat.add_assoc]
 refine ab (fun h1=>?_) fun h1=>?_
 ·obtain ⟨x,hx⟩:∃ x,b[a0+l]? =some x:=⟨_,List.getElem?_eq_getElem (by omega)⟩
  have hd:=bY hx
  refine ⟨by omega,x,by rw [Int.toNat_natCast];exact hx,ab (fun h2=>ab (fun h3=>?_) fun h3=>?_) fun h2=>?_⟩
  ·have hf:first=false:=by simpa using h3
   rw [if_pos ⟨hf,by rw [hd];exact decide_eq_true (by omega)⟩] at hr
   rw [← hr]
   refine ab (fun h4=>⟨_,rM f,au (by omega) ?_⟩) fun h4=>au (by omega) ?_
   ·show (if no=true then fI f else f,((a0+(l+1):Nat):Int),(0:Int))=(fI f,((a0+l:Nat):Int)+1,0)
    rw [if_pos h4];rfl
   ·show (if no=true then fI f else f,((a0+(l+1):Nat):Int),(0:Int))=(f,((a0+l:Nat):Int)+1,0)
    rw [if_neg h4];rfl
  ·refine hj5 fun h=>h3 ?_
   rw [h.1];exact Bool.false_ne_true
  ·refine hj5 fun h=>h2 ?_
   have:=h.2
   rw [hd] at this
   have:=of_decide_eq_true this
   omega
 ·refine hj5 fun h=>?_
  have:=h.2
  rw [List.drop_eq_nil_of_le (by omega)] at this
  cases this
theorem ut (b:List UInt8) (at_:Nat) (hb:b.length≤40000000) (h0:at_≤b.length):iZ b (at_:Int) (bn b at_):=by
 show lV (at_:Int) b _ _
 rw [show ((decide ((at_:Int)<0)) || (decide ((b.length:Int)<(at_:Int))))=false from by
  rw [Bool.or_eq_false_iff,decide_eq_false_iff_not,decide_eq_false_iff_not];omega]
 unfold bn
 refine ab (fun h=>by cases h) fun _=>ab (fun h1=>?_) fun h1=>?_
 ·obtain ⟨x,hx⟩:∃ x,b[at_]? =some x:=⟨_,List.getElem?_eq_getElem (by omega)⟩
  have hd:=bY hx
  refine ⟨by omega,x,by rw [Int.toNat_natCast];exact hx,?_⟩
  by_cases h2:x.toNat=94
  ·rw [decide_eq_true (show (x.toNat:Int)=94 by omega),if_pos (by rw [hd];exact decide_eq_true h2)]
   refine ab (fun _=>au (by omega) ?_) fun h=>absurd rfl h
   have:=qS b true (at_+1) hb (by omega)
   exact this
  ·rw [decide_eq_false (show ¬ (x.toNat:Int)=94 by omega),if_neg (by rw [hd];show ¬ decide (x.toNat=94)=true;rw [decide_eq_false h2];exact Bool.false_ne_true)]
   exact ab (fun h=>by cases h) fun _=>qS b false at_ hb h0
 ·rw [if_neg (by rw [List.drop_eq_nil_of_le (by omega)];exact Bool.false_ne_true)]
  exact ab (fun h=>by cases h) fun _=>qS b false at_ hb h0
end Go.Proofs.YtnbceeholnkfeaaGreatDoor
namespace Go.Proofs.YtnbceeholnkfeaaGreatDoor
theorem lG {t u:List UInt8} {m:Nat} (h:u.take m=t.take m) {i:Nat} (hi:i<m):u[i]? =t[i]?:=by
 have:=congrArg (fun l=>l[i]?) h
 simpa [List.getElem?_take,hi] using this
theorem mS {t u:List UInt8} {m k:Nat} (h:u.take m=t.take m) (hk:k≤m):(u.drop k).take (m - k)=(t.drop k).take (m - k):=by
 rw [List.take_drop,List.take_drop,show k+(m - k)=m from by omega,h]
theorem uq {t u:List UInt8} {m k:Nat} (h:u.take m=t.take m) (hk:k≤m):u.take k=t.take k:=by
 have:=congrArg (List.take k) h
 rwa [List.take_take,List.take_take,Nat.min_eq_left hk] at this
theorem ks {t u:List UInt8} {m:Nat} (h:u.take m=t.take m) (hm:m≤t.length):m≤u.length:=by
 have:=congrArg List.length h
 rw [List.length_take,List.length_take] at this
 omega
theorem tz {t u sub:List UInt8} {m i:Nat} (h:u.take m=t.take m) (hm:m≤t.length) (hi:i+sub.length≤m):Lib.occAt u sub i=Lib.occAt t sub i:=by
 rw [Lib.occAt_iff_take _ _ _ (by have:=ks h hm;omega),Lib.occAt_iff_take _ _ _ (by omega)]
 have:=mS (uq h hi) (show i≤i+sub.length by omega)
 rw [show i+sub.length - i=sub.length from by omega] at this
 rw [this]
theorem vW {t u sub:List UInt8} {m:Nat} (h:u.take m=t.take m) (hm:m≤t.length) (h0:0≤Lib.index t sub) (hs:Lib.index t sub+sub.length≤m):Lib.index u sub=Lib.index t sub:=by
 rcases Lib.index_spec t sub with h1 | ⟨i,h1,h2,h3,h4⟩
 ·omega
 ·rw [h1] at hs ⊢
  have hu:=ks h hm
  refine Lib.index_first (by omega) (by rw [tz h hm (by omega)];exact h3) fun j hj=>?_
  rw [tz h hm (by omega)]
  exact h4 j hj
theorem vX {t u:List UInt8} {two:UInt8} {m:Nat} {x:It} (h:u.take m=t.take m) (hm:m≤t.length) (hx:hY two t= .ok x) (hl:x.2.2.2≤m+2):hY two u= .ok x:=by
 unfold hY at hx
 split at hx
 ·cases hx
 ·rename_i h1
  have h1:0≤Lib.index t [two,93]:=by omega
  have hlen:Lib.index t [two,93]+4≤(m:Int)+2:=by
   split at hx
   ·split at hx
    ·injection hx with hx;subst hx;simp only at hl;omega
    ·cases hx
   ·split at hx
    ·injection hx with hx;subst hx;simp only at hl;omega
    ·cases hx
  have hi:=vW (sub:=[two,93]) h hm h1 (by simp only [List.length_cons,List.length_nil];omega)
  have hn:kI u (Lib.index t [two,93]).toNat=kI t (Lib.index t [two,93]).toNat:=by
   unfold kI
   rw [uq h (by omega)]
  have hh:(Lib.index t [two,93]).toNat=1→u.headD 0=t.headD 0:=fun h2=>by
   have:=lG h (show 0<m by omega)
   rw [List.headD_eq_head?_getD,List.headD_eq_head?_getD,List.head?_eq_getElem?,List.head?_eq_getElem?,this]
  unfold hY
  rw [hi,hn,if_neg (by omega)]
  split at hx
  ·rename_i h2
   rw [if_pos h2]
   exact hx
  ·rename_i h2
   rw [if_neg h2]
   split at hx
   ·rename_i h3
    rw [if_pos h3,hh h3];exact hx
   ·cases hx
theorem rJ {t u:List UInt8} {m:Nat} {x:It} (h:u.take m=t.take m) (hm:m≤t.length) (hx:eZ t= .ok x) (hl:x.2.2.2+1≤m):eZ u= .ok x:=by
 have hx1:=jq hx
 have hu:=ks h hm
 obtain ⟨a,b,t,rfl⟩:∃ a b r,t=a :: b :: r:=by
  match t,hm with
  | [],h=>rw [List.length_nil] at h;omega
  | [a],h=>rw [List.length_singleton] at h;omega
  | a :: b :: r,_=>exact ⟨a,b,r,rfl⟩
 obtain ⟨a',b',u,rfl⟩:∃ a b r,u=a :: b :: r:=by
  match u,hu with
  | [],h=>rw [List.length_nil] at h;omega
  | [a],h=>rw [List.length_singleton] at h;omega
  | a :: b :: r,_=>exact ⟨a,b,r,rfl⟩
 have e0:=lG h (show 0<m by omega)
 have e1:=lG h (show 1<m by omega)
 simp at e0 e1
 subst e0 e1
 have hx:gZ a' b' (b' :: t)= .ok x:=hx
 show gZ a' b' (b' :: u)= .ok x
 unfold gZ at hx ⊢
 split at hx
 ·rename_i h1
  rw [if_pos h1]
  have:=mS h (show 2≤m by omega)
  simp only [List.drop_succ_cons,List.drop_zero] at this hx ⊢
  refine vX this ?_ hx (by omega)
  simp only [List.length_cons] at hm
  omega
 ·rename_i h1
  rw [if_neg h1]
  split at hx
  ·rename_i h2;rw [if_pos h2];exact hx
  ·rename_i h2;rw [if_neg h2];exact hx
theorem rK {t u:List UInt8} {m l:Nat} (h:u.take m=t.take m) (hm:m≤t.length) (hl:l+2≤m∨(l+1≤m∧mB (t.drop l)=true)):isD (u.drop l)=isD (t.drop l):=by
 have hu:=ks h hm
 obtain ⟨x,hx⟩:∃ x,t[l]? =some x:=⟨_,List.getElem?_eq_getElem (by omega)⟩
 have hx':u[l]? =some x:=by rw [lG h (by omega),hx]
 rw [bY hx,bY hx']
 rw [bY hx] at hl
 rcases hl with hl | ⟨_,hl⟩
 ·obtain ⟨y,hy⟩:∃ x,t[l+1]? =some x:=⟨_,List.getElem?_eq_getElem (by omega)⟩
  have hy':u[l+1]? =some y:=by rw [lG h (by omega),hy]
  rw [bY hy,bY hy']
  rfl
 ·have hl:x.toNat=93:=of_decide_eq_true hl
  have:∀ r,isD (x :: r)=false:=fun r=>by
   show (decide (x.toNat=45) && _)=false
   rw [decide_eq_false (show ¬ x.toNat=45 by omega)];rfl
  rw [this,this]
theorem w7 {t u:List UInt8} {m l:Nat} {s:ay} (h:u.take m=t.take m) (hm:m≤t.length) (hp:gc t= .ok (s,l)) (hl:l+2≤m∨(l+1≤m∧mB (t.drop l)=true)):gc u= .ok (s,l):=by
 unfold gc at hp
 cases hr:eZ t with
 | error e=>rw [hr] at hp;cases hp
 | ok x=>
  rw [hr] at hp
  have hp:jL t x= .ok (s,l):=hp
  have hxl:x.2.2.2≤l∧(isD (t.drop x.2.2.2)=false→x.2.2.2=l)∧(isD (t.drop x.2.2.2)=true→x.2.2.2+2≤l):=by
   unfold jL at hp
   split at hp
   ·rename_i h1
    have:x.2.2.2=l:=by split at hp <;> (injection hp with hp;injection hp)
    exact ⟨by omega,fun _=>this,fun h=>by rw [h1] at h;cases h⟩
   ·rename_i h1
    split at hp
    ·cases hp
    ·cases hr2:eZ (t.drop (x.2.2.2+1)) with
     | error e=>rw [hr2] at hp;cases hp
     | ok y=>
      rw [hr2] at hp
      simp only at hp
      have h2:=jq hr2
      split at hp
      ·cases hp
      ·injection hp with hp
       injection hp with _ hp
       exact ⟨by omega,fun h=>absurd h h1,fun _=>by omega⟩
  have hru:=rJ h hm hr (by omega)
  have hdu:isD (u.drop x.2.2.2)=isD (t.drop x.2.2.2):=by
   by_cases hd:isD (t.drop x.2.2.2)=false
   ·have e:=hxl.2.1 hd
    exact rK h hm (by rw [e];exact hl)
   ·exact rK h hm (Or.inl (by have:=hxl.2.2 (by simpa using hd);omega))
  unfold gc
  rw [hru]
  show jL u x=_
  unfold jL at hp ⊢
  rw [hdu]
  split at hp
  ·rename_i h1;rw [if_pos h1];exact hp
  ·rename_i h1
   rw [if_neg h1]
   split at hp
   ·cases hp
   ·rename_i h2
    rw [if_neg h2]
    cases hr2:eZ (t.drop (x.2.2.2+1)) with
    | error e=>rw [hr2] at hp;cases hp
    | ok y=>
     rw [hr2] at hp
     simp only at hp
     have hyl:x.2.2.2+1+y.2.2.2=l:=by
      split at hp
      ·cases hp
      ·injection hp with hp;injection hp
     have:=rJ (mS h (show x.2.2.2+1≤m by omega)) (by rw [List.length_drop];omega) hr2 (by omega)
     rw [this]
     exact hp
theorem ur {t u:List UInt8} {m:Nat} (h:u.take m=t.take m) (hm:m≤t.length) (h1:1≤m):mB u=mB t:=by
 have hu:=ks h hm
 have e:=lG h (show 0<m by omega)
 cases t with
 | nil=>rw [List.length_nil] at hm;omega
 | cons a t=>
  cases u with
  | nil=>rw [List.length_nil] at hu;omega
  | cons b u=>simp at e;subst e;rfl
theorem rL (n:Nat):∀ (first:Bool) (t:List UInt8) (s:ay) (len:Nat) (S:ay) (L:Nat),dj n first t s len= .ok (S,L)→
  len+1≤L∧L - len≤t.length∧(L=len+1→mB t=true)∧∀ (u:List UInt8) (n':Nat),L - len≤n'→u.take (L - len)=t.take (L - len)→dj n' first u s len= .ok (S,L):=by
 induction n with
 | zero=>intro first t s len S L h;cases h
 | succ n ih=>
  intro first t s len S L h
  rw [gy] at h
  by_cases h1:first=false∧mB t=true
  ·rw [if_pos h1] at h
   injection h with h
   injection h with h2 h3
   subst h2 h3
   have htl:1≤t.length:=by
    cases t with
    | nil=>exact absurd h1.2 (by decide)
    | cons a t=>rw [List.length_cons];omega
   refine ⟨by omega,by omega,fun _=>h1.2,fun u n' hn hu=>?_⟩
   obtain ⟨n',rfl⟩:∃ j,n'=j+1:=⟨n' - 1,by omega⟩
   rw [gy,if_pos ⟨h1.1,by rw [ur hu (by omega) (by omega)];exact h1.2⟩]
  ·rw [if_neg h1] at h
   cases hp:gc t with
   | error e=>rw [hp] at h;cases h
   | ok x=>
    rw [hp] at h
    simp only at h
    have hxl:=tA (s:=x.1) (l:=x.2) hp
    obtain ⟨k1,k2,k3,k4⟩:=ih _ _ _ _ _ _ h
    rw [List.length_drop] at k2
    refine ⟨by omega,by omega,fun e=>by omega,fun u n' hn hu=>?_⟩
    obtain ⟨n',rfl⟩:∃ j,n'=j+1:=⟨n' - 1,by omega⟩
    have hpu:=w7 hu (by omega) (s:=x.1) (l:=x.2) hp (by
     by_cases e:L=len+x.2+1
     ·exact Or.inr ⟨by omega,k3 e⟩
     ·exact Or.inl (by omega))
    rw [gy,ur hu (by omega) (by omega),if_neg h1,hpu]
    simp only
    refine k4 _ _ (by omega) ?_
    have:=mS hu (show x.2≤L - len by omega)
    rwa [show L - len - x.2=L - (len+x.2) from by omega] at this
theorem zY (n:Nat):∀ (first:Bool) (t:List UInt8) (s:ay) (len:Nat) (e:Int),dj n first t s len= .error e→e≠0:=by
 induction n with
 | zero=>intro first t s len e h;injection h with h;subst h;decide
 | succ n ih=>
  intro first t s len e h
  rw [gy] at h
  split at h
  ·cases h
  ·cases hp:gc t with
   | error e'=>rw [hp] at h;injection h with h;subst h;exact tB hp
   | ok x=>rw [hp] at h;exact ih _ _ _ _ _ h
theorem w9 (t:List UInt8) (S:ay) (L:Nat) (h:dj (t.length+1) true t z4 0= .ok (S,L)):1≤L∧L≤t.length∧(∀ u:List UInt8,u.take L=t.take L→dj (u.length+1) true u z4 0= .ok (S,L))∧∀ m,m<L→∃ e,dj ((t.take m).length+1) true (t.take m) z4 0= .error e:=by
 obtain ⟨k1,k2,_,k4⟩:=rL _ _ _ _ _ _ _ h
 refine ⟨by omega,by omega,fun u hu=>?_,fun m hm=>?_⟩
 ·have:=ks hu (by omega)
  exact k4 u _ (by omega) (by rwa [Nat.sub_zero])
 ·cases hq:dj ((t.take m).length+1) true (t.take m) z4 0 with
  | error e=>exact ⟨e,rfl⟩
  | ok y=>
   obtain ⟨q1,q2,_,q4⟩:=rL _ _ _ _ _ y.1 y.2 hq
   rw [List.length_take] at q2
   have:=q4 t (t.length+1) (by omega) (by rw [List.take_take,Nat.min_eq_left (by omega)])
   rw [h] at this
   injection this with this
   injection this with _ this
   omega
end Go.Proofs.YtnbceeholnkfeaaGreatDoor
