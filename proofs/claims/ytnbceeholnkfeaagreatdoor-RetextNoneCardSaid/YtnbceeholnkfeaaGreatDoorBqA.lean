/- Basic regular expressions: what the parser's functions compute, in plain terms. -/
import Derived.Test.YtnbceeholnkfeaaGreatDoorPl
import Derived.Test.YtnbceeholnkfeaaGreatDoorBrS
import Derived.Test.YtnbceeholnkfeaaGreatDoorEpA
namespace Go.Proofs.YtnbceeholnkfeaaGreatDoor
abbrev PS:=(List ND×Int)×List UInt8×Int×Arr 10 Bool
abbrev RS:=Int×List (Int×Int)×PS
def Pz.ps (b:List UInt8) (s:Pz):PS:=((s.L,(s.g:Int)),b,(s.p:Int),s.cl)
abbrev Res:=Int×List (Int×Int)×Pz
def rs (b:List UInt8) (r:Res):RS:=(r.1,r.2.1,r.2.2.ps b)
def okR (x:Int×Pz):Res:=(x.1,[],x.2)
def noR (s:Pz) (e:Int):Res:=(0,[((s.p:Int),e)],s)
def kF (c:UInt8) (s:Pz):Res:=okR (ah (cn (ofS [c])) (adv s 1))
theorem ml (b:List UInt8) (n:ND) (s:Pz):bI (s.ps b) n ((ah n s).1,(ah n s).2.ps b):=by
 unfold ah
 refine ab (fun h=>?_) fun h=>?_
 ·have h:(1000:Int)≤(s.L.length:Int):=h
  rw [if_pos (by omega)]
 ·have h:¬ (1000:Int)≤(s.L.length:Int):=h
  rw [if_neg (by omega)]
  refine ⟨_,pZ n s.L.length s.g,ab (fun h1=>?_) fun h1=>?_⟩
  ·rw [if_neg h1]
  ·have h1:=Decidable.not_not.1 h1
   rw [if_pos h1]
   refine dD (by show s.L.length+1≤_;omega) (by omega) (au ?_ ?_)
   ·show -9223372036854775808≤((s.L++[n]).length:Int) - 1∧((s.L++[n]).length:Int) - 1≤9223372036854775807
    simp;omega
   ·have:((s.L++[n]).length:Int) - 1=(s.L.length:Int):=by simp
    show _=(((s.L++[n]).length:Int) - 1,_)
    rw [this];rfl
theorem Dv (b:List UInt8) (s:Pz):ii (s.ps b) ((ah (7,0,0,0,0,0,aj) s).1,(ah (7,0,0,0,0,0,aj) s).2.ps b):=⟨_,ml b _ s,rfl⟩
theorem Dw (b:List UInt8) (s:Pz):ik (s.ps b) ((ah (8,0,0,0,0,0,aj) s).1,(ah (8,0,0,0,0,0,aj) s).2.ps b):=⟨_,ml b _ s,rfl⟩
theorem up (b:List UInt8) (S:ay) (s:Pz):ea (s.ps b) S ((ah (cn S) s).1,(ah (cn S) s).2.ps b):=⟨_,ml b _ s,rfl⟩
theorem yj (b:List UInt8) (a lo hi:Int) (s:Pz):fv (s.ps b) a lo hi ((ah (4,a,0,lo,hi,0,aj) s).1,(ah (4,a,0,lo,hi,0,aj) s).2.ps b):=⟨_,ml b _ s,rfl⟩
theorem Cd (b:List UInt8) (g:Int) (s:Pz):gO (s.ps b) g ((ah (6,0,0,0,0,g,aj) s).1,(ah (6,0,0,0,0,g,aj) s).2.ps b):=⟨_,ml b _ s,rfl⟩
theorem zW (b:List UInt8) (g a:Int) (s:Pz):gm (s.ps b) g a ((ah (5,a,0,0,0,g,aj) s).1,(ah (5,a,0,0,0,g,aj) s).2.ps b):=⟨_,ml b _ s,rfl⟩
theorem rH (b:List UInt8) (c:UInt8) (s:Pz) (hp:s.p≤500000000):eT (s.ps b) c ((kF c s).1,(kF c s).2.2.ps b):=
 au (by show -9223372036854775808≤(s.p:Int)+1∧(s.p:Int)+1≤9223372036854775807;omega) ⟨_,oE [c] (by simp),_,up b _ (adv s 1),rfl⟩
theorem Ce (b:List UInt8) (kind:Int) (x:Int) (t:List Int) (s:Pz) (ht:t.length≤500000000):¬ (x<0)→¬ ((s.L.length:Int)≤x)→
  gN (s.ps b) kind (x :: t) ((bf kind t x s).1,(bf kind t x s).2.ps b):=fun h0 h1=>by
 refine ⟨by decide,x,rfl,ab (fun h=>absurd h h0) fun _=>⟨by decide,x,rfl,ab (fun h=>absurd h h1) fun _=>⟨by decide,x,rfl,⟨by decide,by show (1:Int)≤((t.length+1:Nat):Int);omega⟩,?_⟩⟩⟩
 refine ct (fun (st:Int×Int×List ND×Int×List UInt8×Int×Arr 10 Bool) m=>∃ (k:Nat) (at_:Int) (s':Pz),k≤t.length∧m=t.length - k∧st=(at_,(k:Int),s'.L,(s'.g:Int),b,(s'.p:Int),s'.cl)∧bf kind (t.drop k) at_ s'=bf kind t x s) t.length ⟨0,x,s,by omega,rfl,rfl,rfl⟩ ?_
 rintro _ m ⟨k,at_,s',hk,rfl,rfl,he⟩
 show jR (x :: t) kind _ at_ (k:Int) s'.L (s'.g:Int) b (s'.p:Int) s'.cl _
 refine ab (fun h=>?_) fun h=>?_
 ·have h:(k:Int)<(t.length:Int):=h
  obtain ⟨y,hy⟩:∃ y,t[k]? =some y:=⟨t[k]'(by omega),List.getElem?_eq_getElem (by omega)⟩
  have hd:t.drop k=y :: t.drop (k+1):=nO hy
  rw [hd] at he
  refine ⟨by omega,y,hy,ab (fun h2=>?_) fun h2=>?_⟩
  ·rw [← he,cG,if_pos h2];rfl
  ·rw [cG,if_neg h2] at he
   refine ⟨_,ml b _ s',au (by omega) ⟨t.length - (k+1),by omega,k+1,_,(ah (kind,at_,y,0,0,0,aj) s').2,by omega,rfl,rfl,he⟩⟩
 ·have h:¬ (k:Int)<(t.length:Int):=h
  obtain rfl:k=t.length:=by omega
  rw [List.drop_length] at he
  rw [← he];rfl
theorem Dx (b:List UInt8) (l:List Int) (s:Pz) (hl:l.length≤500000000):ij (s.ps b) l ((bd l s).1,(bd l s).2.ps b):=by
 cases l with
 | nil=>exact ab (fun _=>⟨_,⟨_,ml b _ s,rfl⟩,rfl⟩) fun h=>absurd rfl h
 | cons x t=>
  refine ab (fun h=>absurd h (by simp;omega)) fun _=>?_
  rw [gL]
  by_cases h0:x<0
  ·rw [if_pos (.inl h0)]
   exact ⟨_,⟨by decide,x,rfl,ab (fun _=>rfl) fun h=>absurd h0 h⟩,rfl⟩
  ·by_cases h1:(s.L.length:Int)≤x
   ·rw [if_pos (.inr h1)]
    exact ⟨_,⟨by decide,x,rfl,ab (fun h=>absurd h h0) fun _=>⟨by decide,x,rfl,ab (fun _=>rfl) fun h=>absurd h1 h⟩⟩,rfl⟩
   ·rw [if_neg (by omega)]
    exact ⟨_,Ce b 2 x t s (by simp at hl;omega) h0 h1,rfl⟩
theorem wj (l:List UInt8):(⟨l.toArray⟩:ByteArray).toList=l:=by rw [ByteArray.toList_eq]
theorem kG (b:List UInt8) (s:Pz) (l:List UInt8) (hb:b.length≤40000000) (hp:s.p≤b.length) (hl:l.length≤100):bT (s.ps b) ⟨l.toArray⟩ (aI b s.p l):=by
 have hsz:(((⟨l.toArray⟩:ByteArray).size:Nat):Int)=(l.length:Int):=rfl
 unfold bT
 rw [hsz]
 refine au (by show -9223372036854775808≤(b.length:Int) - (s.p:Int)∧(b.length:Int) - (s.p:Int)≤9223372036854775807;omega) (ab (fun h=>?_) fun h=>?_)
 ·have h:(l.length:Int)≤(b.length:Int) - (s.p:Int):=h
  refine au (by show -9223372036854775808≤(s.p:Int)+(l.length:Int)∧(s.p:Int)+(l.length:Int)≤9223372036854775807;omega) ⟨⟨by show (0:Int)≤(s.p:Int);omega,by show (s.p:Int)≤(s.p:Int)+(l.length:Int);omega,by show (s.p:Int)+(l.length:Int)≤(b.length:Int);omega⟩,?_⟩
  have e1:((b.take ((s.p:Int)+(l.length:Int)).toNat).drop ((s.p:Int)).toNat)=(b.drop s.p).take l.length:=by
   rw [show ((s.p:Int)+(l.length:Int)).toNat=s.p+l.length by omega,show ((s.p:Int)).toNat=s.p by omega,List.drop_take]
   congr 1;omega
  show aI b s.p l=((⟨((b.take ((s.p:Int)+(l.length:Int)).toNat).drop ((s.p:Int)).toNat).toArray⟩:ByteArray).toList==(⟨l.toArray⟩:ByteArray).toList)
  rw [e1,wj,wj]
  unfold aI
  by_cases hx:(b.drop s.p).take l.length=l
  ·rw [decide_eq_true hx,hx];simp
  ·rw [decide_eq_false hx]
   exact (beq_eq_false_iff_ne.2 hx).symm
 ·have h:¬ (l.length:Int)≤(b.length:Int) - (s.p:Int):=h
  refine decide_eq_false (fun h2=>?_)
  have:=congrArg List.length h2
  rw [List.length_take,List.length_drop] at this
  omega
end Go.Proofs.YtnbceeholnkfeaaGreatDoor
namespace Go.Proofs.YtnbceeholnkfeaaGreatDoor
def fG (b:List UInt8) (p:Nat):Bool:=decide (p+1=b.length) || aI b p [36,92,41]
def dV (b:List UInt8) (k lo hi:Int) (s:Pz) (at_:Nat):Res:=
 if (!(aI b at_ [92,125]) || (!(decide (hi= -1)) && decide (hi<lo)))=true then (0,[((s.p:Int),13)],{ s with p:=at_ })
 else okR (ah (4,k,0,lo,hi,0,aj) { s with p:=at_+2 })
def aR (b:List UInt8) (k:Int) (s:Pz):Res:=
 if aI b s.p [42]=true then okR (ah (4,k,0,0,-1,0,aj) (adv s 1))
 else if (am b (s.p+2)).2.2≠0 then noR s 13
 else if b[(am b (s.p+2)).2.1.toNat]? =some 44 then
  (if (am b ((am b (s.p+2)).2.1.toNat+1)).2.2=0 then dV b k (am b (s.p+2)).1 (am b ((am b (s.p+2)).2.1.toNat+1)).1 s (am b ((am b (s.p+2)).2.1.toNat+1)).2.1.toNat
  else if (am b ((am b (s.p+2)).2.1.toNat+1)).2.2=9 then dV b k (am b (s.p+2)).1 (-1) s ((am b (s.p+2)).2.1.toNat+1)
  else noR s 13)
 else dV b k (am b (s.p+2)).1 (am b (s.p+2)).1 s (am b (s.p+2)).2.1.toNat
def cb (b:List UInt8) (k:Int) (w:List (Int×Int)) (s:Pz):Bool:=w.isEmpty && (decide (0≤k) && (aI b s.p [42] || aI b s.p [92,123]))
def dI (k:Int) (w:List (Int×Int)) (s:Pz):Res:=(k,if (w.isEmpty && decide (k<0))=true then [((s.p:Int),8)] else w,s)
def aL (b:List UInt8):Nat→Int→List (Int×Int)→Pz→Res
 | 0,k,w,s=>dI k w s
 | n+1,k,w,s=>if cb b k w s=true then aL b n (aR b k s).1 (aR b k s).2.1 (aR b k s).2.2 else dI k w s
def jn (b:List UInt8) (r:Res):Res:=aL b (b.length+1) r.1 r.2.1 r.2.2
inductive Job where
 | branch (inner:Bool) (s:Pz)
 | loop (inner:Bool) (l:List Int) (first:Bool) (s:Pz)
 | piece (first:Bool) (s:Pz)
 | atom (s:Pz)
 | escape (s:Pz)
 | group (s:Pz)
def fo (b:List UInt8) (inner:Bool) (l:List Int) (s:Pz):Res:=
 if (inner==decide ((s.p:Int)=(b.length:Int)))=true then noR s 14
 else if (bd l s).1<0 then noR (bd l s).2 8 else okR (bd l s)
def go (b:List UInt8):Nat→Job→Option Res
 | 0,_=>none
 | n+1,.branch inner s=>
  if aI b s.p [94]=true then
   (if (ah (7,0,0,0,0,0,aj) (adv s 1)).1<0 then some (noR (ah (7,0,0,0,0,0,aj) (adv s 1)).2 8)
   else go b n (.loop inner [(ah (7,0,0,0,0,0,aj) (adv s 1)).1] true (ah (7,0,0,0,0,0,aj) (adv s 1)).2))
  else go b n (.loop inner [] true s)
 | n+1,.loop inner l first s=>
  if s.p<b.length∧aI b s.p [92,41]=false then
   (match go b n (.piece first s) with
   | none=>none
   | some (k,w,s')=>if w.isEmpty=true then go b n (.loop inner (l++[k]) false s') else some (0,w,s'))
  else some (fo b inner l s)
 | n+1,.piece first s=>
  if first=true∧aI b s.p [92,123]=true then some (noR s 13)
  else if first=true∧aI b s.p [42]=true then some (jn b (kF 42 s))
  else (go b n (.atom s)).map (jn b)
 | n+1,.atom s=>match b[s.p]? with
  | none=>none
  | some c=>if c.toNat=92 then go b n (.escape s)
   else if c.toNat=46 then some (okR (ah (cn (fI z4)) (adv s 1)))
   else if c.toNat=91 then (if (bn b (s.p+1)).2.2=0 then some (okR (ah (cn (bn b (s.p+1)).1) { s with p:=(bn b (s.p+1)).2.1.toNat })) else some (noR s (bn b (s.p+1)).2.2))
   else if c.toNat=36∧fG b s.p=true then some (okR (ah (8,0,0,0,0,0,aj) (adv s 1)))
   else some (kF c s)
 | n+1,.escape s=>match b[s.p+1]? with
  | none=>some (noR s 10)
  | some c=>if c.toNat=40 then go b n (.group s)
   else if 49≤c.toNat∧c.toNat≤57 then (if s.cl.l[c.toNat - 48]? =some true then some (okR (ah (6,0,0,0,0,(c.toNat:Int) - 48,aj) (adv s 2))) else some (noR s 16))
   else if c.toNat=110 then some (kF 10 (adv s 1))
   else if lI c.toNat=true then some (noR s 10)
   else some (kF c (adv s 1))
 | n+1,.group s=>
  if 9≤s.g then some (noR s 17)
  else match go b n (.branch true { s with g:=s.g+1,p:=s.p+2 }) with
   | none=>none
   | some (k,w,s')=>if w.isEmpty=true then some (okR (ah (5,k,0,0,0,((s.g+1:Nat):Int),aj) { s' with p:=s'.p+2,cl:=Arr.set s'.cl (s.g+1) true })) else some (0,w,s')
end Go.Proofs.YtnbceeholnkfeaaGreatDoor
namespace Go.Proofs.YtnbceeholnkfeaaGreatDoor
theorem di {b:List UInt8} {p:Nat} {l:List UInt8} (h:aI b p l=true) (hl:l≠[]):p+l.length≤b.length:=by
 have h:=congrArg List.length (of_decide_eq_true h)
 rw [List.length_take,List.length_drop] at h
 have:l.length≠0:=by simpa using hl
 omega
def At (b:List UInt8) (p:Nat) (s:Pz):Prop:=p≤s.p∧s.p≤b.length∧s.g≤9
theorem m7 {b:List UInt8} {n:ND} {s:Pz} {p:Nat} (h:At b p s):At b p (okR (ah n s)).2.2:=by
 obtain ⟨h1,h2,_⟩:=eK n s
 show p≤(ah n s).2.p∧(ah n s).2.p≤b.length∧(ah n s).2.g≤9
 rw [h1,h2];exact h
theorem sI {b:List UInt8} {k lo hi:Int} {s:Pz} {a p:Nat} (hp:p≤a) (hg:s.g≤9) (h:(dV b k lo hi s a).2.1=[]):At b p (dV b k lo hi s a).2.2:=by
 unfold dV at h ⊢
 split at h
 ·cases h
 ·rename_i h1
  rw [if_neg h1]
  have h2:aI b a [92,125]=true:=by
   cases hh:aI b a [92,125] with
   | true=>rfl
   | false=>rw [hh] at h1;exact absurd rfl h1
  have:=di h2 (by simp)
  exact m7 ⟨by show p≤a+2;omega,this,hg⟩
theorem kr {b:List UInt8} {k:Int} {s:Pz} (hp:s.p≤b.length) (hg:s.g≤9) (hm:aI b s.p [42]=true∨aI b s.p [92,123]=true) (h:(aR b k s).2.1=[]):At b (s.p+1) (aR b k s).2.2:=by
 unfold aR at h ⊢
 by_cases h1:aI b s.p [42]=true
 ·rw [if_pos h1] at h ⊢
  exact m7 ⟨Nat.le_refl _,di h1 (by simp),hg⟩
 ·rw [if_neg h1] at h ⊢
  have hp2:s.p+2≤b.length:=di (hm.resolve_left h1) (by simp)
  by_cases h2:(am b (s.p+2)).2.2≠0
  ·rw [if_pos h2] at h;cases h
  ·rw [if_neg h2] at h ⊢
   obtain ⟨q,hq,hq1,hq2⟩:=eQ (Decidable.not_not.1 h2) hp2
   rw [hq,Int.toNat_natCast] at h ⊢
   by_cases h3:b[q]? =some 44
   ·rw [if_pos h3] at h ⊢
    have hql:q<b.length:=(List.getElem?_eq_some_iff.1 h3).1
    by_cases h4:(am b (q+1)).2.2=0
    ·rw [if_pos h4] at h ⊢
     obtain ⟨z,hz,hz1,hz2⟩:=eQ h4 hql
     rw [hz,Int.toNat_natCast] at h ⊢
     exact sI (by omega) hg h
    ·rw [if_neg h4] at h ⊢
     by_cases h5:(am b (q+1)).2.2=9
     ·rw [if_pos h5] at h ⊢
      exact sI (by omega) hg h
     ·rw [if_neg h5] at h;cases h
   ·rw [if_neg h3] at h ⊢
    exact sI (by omega) hg h
theorem oC {b:List UInt8} {k:Int} {w:List (Int×Int)} {s:Pz} (h:cb b k w s=true):w=[]∧0≤k∧(aI b s.p [42]=true∨aI b s.p [92,123]=true):=by
 unfold cb at h
 simp only [Bool.and_eq_true,Bool.or_eq_true,decide_eq_true_eq,List.isEmpty_iff] at h
 exact h
theorem wk {b:List UInt8}:∀ (n:Nat) (k:Int) (w:List (Int×Int)) (s:Pz) (p:Nat),(w=[]→At b p s)→(aL b n k w s).2.1=[]→At b p (aL b n k w s).2.2:=by
 have hend:∀ (k:Int) (w:List (Int×Int)) (s:Pz) (p:Nat),(w=[]→At b p s)→(dI k w s).2.1=[]→At b p (dI k w s).2.2:=fun k w s p hs h=>by
  refine hs ?_
  unfold dI at h
  dsimp only at h
  split at h
  ·cases h
  ·exact h
 intro n
 induction n with
 | zero=>exact hend
 | succ n ih=>
  intro k w s p hs h
  unfold aL at h ⊢
  split at h
  ·rename_i h1
   rw [if_pos h1]
   obtain ⟨hw,_,hm⟩:=oC h1
   obtain ⟨a1,a2,a3⟩:=hs hw
   exact ih _ _ _ p (fun hr=>by obtain ⟨c1,c2,c3⟩:=kr a2 a3 hm hr;exact ⟨by omega,c2,c3⟩) h
  ·rename_i h1
   rw [if_neg h1]
   exact hend k w s p hs h
def Job.s:Job→Pz
 | .branch _ s | .loop _ _ _ s | .piece _ s | .atom s | .escape s | .group s=>s
def jJ (b:List UInt8) (j:Job):Prop:=j.s.p≤b.length∧j.s.g≤9∧match j with | .group s=>s.p+2≤b.length | .escape s=>s.p+1≤b.length | _=>True
def Dy (b:List UInt8) (j:Job) (s:Pz):Prop:=match j with
 | .branch inner _ | .loop inner _ _ _=>if inner=true then aI b s.p [92,41]=true else s.p=b.length
 | _=>j.s.p+1≤s.p
theorem jK (b:List UInt8):∀ (n:Nat) (j:Job) (r:Res),go b n j=some r→jJ b j→r.2.1=[]→At b j.s.p r.2.2∧Dy b j r.2.2:=by
 intro n
 induction n with
 | zero=>intro j r h;cases h
 | succ n ih=>
  intro j r h hj hw
  obtain ⟨j1,j2,j3⟩:=hj
  cases j with
  | branch inner s=>
   have j1:s.p≤b.length:=j1
   have j2:s.g≤9:=j2
   unfold go at h
   split at h
   ·rename_i h1
    have hl:=di h1 (by simp)
    split at h
    ·cases h;cases hw
    ·obtain ⟨a1,a2,_⟩:=eK (7,0,0,0,0,0,aj) (adv s 1)
     obtain ⟨⟨c1,c2⟩,c3⟩:=ih _ r h ⟨by show (ah _ (adv s 1)).2.p≤_;rw [a1];exact hl,by show (ah _ (adv s 1)).2.g≤_;rw [a2];exact j2,trivial⟩ hw
     have c1:(ah _ (adv s 1)).2.p≤_:=c1
     rw [a1] at c1
     exact ⟨⟨by show s.p≤_;have:(adv s 1).p=s.p+1:=rfl;omega,c2⟩,c3⟩
   ·exact ih (.loop inner [] true s) r h ⟨j1,j2,trivial⟩ hw
  | loop inner l first s=>
   have j1:s.p≤b.length:=j1
   have j2:s.g≤9:=j2
   unfold go at h
   split at h
   ·cases hg:go b n (.piece first s) with
    | none=>rw [hg] at h;cases h
    | some q=>
     obtain ⟨k,w,s'⟩:=q
     rw [hg] at h
     dsimp only at h
     split at h
     ·rename_i hwe
      obtain ⟨⟨c1,c2,c3⟩,_⟩:=ih _ _ hg ⟨j1,j2,trivial⟩ (List.isEmpty_iff.1 hwe)
      obtain ⟨⟨d1,d2⟩,d3⟩:=ih _ r h ⟨c2,c3,trivial⟩ hw
      exact ⟨⟨Nat.le_trans c1 d1,d2⟩,d3⟩
     ·rename_i hwe
      cases h
      exact absurd (List.isEmpty_iff.2 hw) hwe
   ·rename_i h1
    injection h with h
    subst h
    unfold fo at hw ⊢
    split at hw
    ·cases hw
    ·rename_i h2
     rw [if_neg h2]
     split at hw
     ·cases hw
     ·rename_i h3
      rw [if_neg h3]
      obtain ⟨a1,a2,_⟩:=mo l s
      refine ⟨⟨by show s.p≤(bd l s).2.p;omega,by show (bd l s).2.p≤_;omega,by show (bd l s).2.g≤_;omega⟩,?_⟩
      show if inner=true then aI b (bd l s).2.p [92,41]=true else (bd l s).2.p=b.length
      rw [a1]
      cases inner with
      | true=>
       rw [if_pos rfl]
       cases hh:aI b s.p [92,41] with
       | true=>rfl
       | false=>
        refine absurd ?_ h2
        rw [decide_eq_true (by have:¬ s.p<b.length:=fun hl=>h1 ⟨hl,hh⟩;omega)];rfl
      | false=>
       rw [if_neg (by simp)]
       by_cases hp:(s.p:Int)=(b.length:Int)
       ·omega
       ·refine absurd ?_ h2
        rw [decide_eq_false hp];rfl
  | piece first s=>
   have j1:s.p≤b.length:=j1
   have j2:s.g≤9:=j2
   unfold go at h
   split at h
   ·cases h;cases hw
   ·split at h
    ·rename_i h1
     injection h with h
     subst h
     have:=di h1.2 (by simp)
     obtain ⟨c1,c2⟩:=wk (b:=b) (b.length+1) (kF 42 s).1 (kF 42 s).2.1 (kF 42 s).2.2 (s.p+1) (fun _=>m7 ⟨Nat.le_refl _,this,j2⟩) hw
     exact ⟨⟨by show s.p≤_;exact Nat.le_trans (Nat.le_succ _) c1,c2⟩,c1⟩
    ·cases hg:go b n (.atom s) with
     | none=>rw [hg] at h;cases h
     | some q=>
      rw [hg] at h
      injection h with h
      subst h
      obtain ⟨c1,c2⟩:=wk (b:=b) (b.length+1) q.1 q.2.1 q.2.2 (s.p+1) (fun hq=>by obtain ⟨⟨_,d2⟩,d3⟩:=ih _ q hg ⟨j1,j2,trivial⟩ hq;exact ⟨d3,d2⟩) hw
      exact ⟨⟨by show s.p≤_;exact Nat.le_trans (Nat.le_succ _) c1,c2⟩,c1⟩
  | atom s=>
   have j1:s.p≤b.length:=j1
   have j2:s.g≤9:=j2
   unfold go at h
   cases hc:b[s.p]? with
   | none=>rw [hc] at h;cases h
   | some c=>
    rw [hc] at h
    dsimp only at h
    have hl:s.p<b.length:=(List.getElem?_eq_some_iff.1 hc).1
    have hone:∀ (n:ND) (q:Nat),s.p+1≤q→q≤b.length→At b s.p (okR (ah n { s with p:=q })).2.2∧s.p+1≤(okR (ah n { s with p:=q })).2.2.p:=fun n q h1 h2=>by
     have:=m7 (b:=b) (n:=n) (s:={ s with p:=q }) (p:=s.p+1) ⟨h1,h2,j2⟩
     exact ⟨⟨Nat.le_trans (Nat.le_succ _) this.1,this.2⟩,this.1⟩
    split at h
    ·exact ih (.escape s) r h ⟨j1,j2,hl⟩ hw
    ·split at h
     ·injection h with h;subst h;exact hone _ _ (Nat.le_refl _) hl
     ·split at h
      ·split at h
       ·rename_i h0
        injection h with h;subst h
        obtain ⟨q,hq,hq1,hq2⟩:=fJ h0 hl
        exact hone _ _ (by rw [hq];omega) (by rw [hq];omega)
       ·injection h with h;subst h;cases hw
      ·split at h
       ·injection h with h;subst h;exact hone _ _ (Nat.le_refl _) hl
       ·injection h with h;subst h;exact hone _ _ (Nat.le_refl _) hl
  | escape s=>
   have j1:s.p≤b.length:=j1
   have j2:s.g≤9:=j2
   unfold go at h
   cases hc:b[s.p+1]? with
   | none=>rw [hc] at h;injection h with h;subst h;cases hw
   | some c=>
    rw [hc] at h
    dsimp only at h
    have hl:s.p+1<b.length:=(List.getElem?_eq_some_iff.1 hc).1
    have hone:∀ (n:ND) (q:Nat),s.p+1≤q→q≤b.length→At b s.p (okR (ah n { s with p:=q })).2.2∧s.p+1≤(okR (ah n { s with p:=q })).2.2.p:=fun n q h1 h2=>by
     have:=m7 (b:=b) (n:=n) (s:={ s with p:=q }) (p:=s.p+1) ⟨h1,h2,j2⟩
     exact ⟨⟨Nat.le_trans (Nat.le_succ _) this.1,this.2⟩,this.1⟩
    split at h
    ·exact ih (.group s) r h ⟨j1,j2,hl⟩ hw
    ·split at h
     ·split at h
      ·injection h with h;subst h;exact hone _ _ (by omega) hl
      ·injection h with h;subst h;cases hw
     ·split at h
      ·injection h with h;subst h;exact hone _ (s.p+1+1) (by omega) hl
      ·split at h
       ·injection h with h;subst h;cases hw
       ·injection h with h;subst h;exact hone _ (s.p+1+1) (by omega) hl
  | group s=>
   have j1:s.p≤b.length:=j1
   have j2:s.g≤9:=j2
   have j3:s.p+2≤b.length:=j3
   unfold go at h
   split at h
   ·injection h with h;subst h;cases hw
   ·rename_i h9
    cases hg:go b n (.branch true { s with g:=s.g+1,p:=s.p+2 }) with
    | none=>rw [hg] at h;cases h
    | some q=>
     obtain ⟨k,w,s'⟩:=q
     rw [hg] at h
     dsimp only at h
     split at h
     ·rename_i hwe
      injection h with h
      subst h
      obtain ⟨⟨c1,c2,c3⟩,c4⟩:=ih _ _ hg ⟨j3,by show s.g+1≤9;omega,trivial⟩ (List.isEmpty_iff.1 hwe)
      have c1:s.p+2≤s'.p:=c1
      have c4:aI b s'.p [92,41]=true:=c4
      have c5:s'.p+2≤b.length:=di c4 (by simp)
      have:=m7 (b:=b) (n:=(5,k,0,0,0,((s.g+1:Nat):Int),aj)) (s:={ s' with p:=s'.p+2,cl:=Arr.set s'.cl (s.g+1) true }) (p:=s.p+1) ⟨by show s.p+1≤s'.p+2;omega,c5,c3⟩
      exact ⟨⟨Nat.le_trans (Nat.le_succ _) this.1,this.2⟩,this.1⟩
     ·rename_i hwe
      injection h with h
      subst h
      exact absurd (List.isEmpty_iff.2 hw) hwe
end Go.Proofs.YtnbceeholnkfeaaGreatDoor
