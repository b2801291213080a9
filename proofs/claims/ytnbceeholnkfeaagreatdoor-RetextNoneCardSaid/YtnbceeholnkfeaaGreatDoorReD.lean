/- What was read has a text, which is read as it: both kinds; a basic one has no branches beside each other. -/
import Derived.Test.YtnbceeholnkfeaaGreatDoorReA
import Derived.Test.YtnbceeholnkfeaaGreatDoorRdD
namespace Go.Proofs.YtnbceeholnkfeaaGreatDoor
theorem A0 {b:List UInt8} (hb:b.length≤100) {n:Nat} {q:R9} (hq:go9 b n (.alts false pz0)=some q) (hw:q.2.1=0):
  ∃ τ,bU (q.2.2.L,(q.2.2.g:Int)) true (τ,true)∧bp τ true ((q.2.2.L,(q.2.2.g:Int)),0,0):=by
 have hj:dW b (.alts false pz0):=⟨Nat.zero_le _,Nat.zero_le _⟩
 have hrd:l9 b (.alts false pz0) q:=Ef b n _ q hq hj hw
 obtain ⟨τ,c1,c2,c3,c4,c5,c0,c6⟩:=hrd
 obtain ⟨⟨_,a2,_⟩,hcnt,_⟩:At9 b 0 q.2.2∧q.2.2.L.length+1+2 * 0≤0+2 * q.2.2.p∧_:=ej b _ _ _ hq hj hw
 have c4:τ.length≤600 * (q.2.2.p - 0):=c4
 have c5:Gw true (600 * (q.2.2.p - 0)) [] q.2.2.L:=c5
 obtain ⟨f1,f2,f3,f4⟩:=oK hq hw
 have hτl:τ.length≤60000:=by omega
 obtain ⟨m,hm⟩:=c6 τ 0 [] (by rw [List.append_nil];rfl) ⟨(fun h=>by cases h),fun _=>rfl⟩
 have hm:go9 τ m (.alts false pz0)=some (q.1,0,{ q.2.2 with p:=0+τ.length }):=hm
 have hs:eY (aT true q.2.2.L)≤16777216:=by
  have h1:=ze (gv (B':=60000) (by omega) c5)
  have h2:q.2.2.L.length * 60000≤200 * 60000:=Nat.mul_le_mul_right _ (by omega)
  omega
 have hlast:(aT true q.2.2.L)[q.2.2.L.length - 1]? =some τ:=by
  rw [← c1,f2]
  unfold tx0 at0
  rw [show ((q.2.2.L.length:Int) - 1).toNat=q.2.2.L.length - 1 by omega,List.getElem?_eq_getElem (by rw [gK];omega)];rfl
 have hp:=pD τ (by omega) c0 _ _ hm
 have hr:=wD τ (by omega) c0 _ _ hm (.inr rfl)
 exact ⟨τ,rA f1 hs hlast (li hp),lh hr⟩
theorem xN:bU ([(0,0,0,0,0,0,aj)],0) true ([],true):=
 rA (by kernel_rfl) (by decide) rfl (li rV)
theorem vh (b:List UInt8) (x:Bool) (hb:b.length≤80∨(b.length≤100∧x=true)):∃ z:RE,bp b x z∧z.1.1.length≤1000∧(z.2.2=0→∃ τ,bU z.1 x (τ,true)∧bp τ x (z.1,0,0)):=by
 obtain ⟨z,z1,z2,z3,z4,z5,z6⟩:=tH b x (by omega)
 cases x with
 | false=>
  obtain ⟨n,q,hq,rfl,hw⟩:=z5 rfl
  refine ⟨_,z4 (.inl (by omega)),z2,fun h=>?_⟩
  have hw:=hw h
  have e:kH q=((q.2.2.L,(q.2.2.g:Int)),0,0):=by unfold kH;rw [hw]
  rw [e]
  exact AY (hb.resolve_right fun h=>by cases h.2) hq hw
 | true=>
  by_cases h0:b=[]
  ·subst h0
   exact ⟨_,lh rj,by decide,fun _=>⟨[],xN,lh rj⟩⟩
  ·obtain ⟨n,q,hq,rfl,hw⟩:=z6 rfl h0
   refine ⟨_,z4 (.inl (by omega)),z2,fun h=>?_⟩
   have hw:=hw h
   have e:jg q=((q.2.2.L,(q.2.2.g:Int)),0,0):=by unfold jg;rw [if_neg (fun h=>h hw)]
   rw [e]
   exact A0 (by omega) hq hw
end Go.Proofs.YtnbceeholnkfeaaGreatDoor
