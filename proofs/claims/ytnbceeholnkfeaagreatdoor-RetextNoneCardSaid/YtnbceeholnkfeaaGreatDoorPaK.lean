/- Both kinds of regular expressions are read as the document says; the document's example. -/
import Derived.Test.YtnbceeholnkfeaaGreatDoorZkS
import Derived.Test.YtnbceeholnkfeaaGreatDoorPop
import Derived.Test.YtnbceeholnkfeaaGreatDoorPbA
namespace Go.Proofs.YtnbceeholnkfeaaGreatDoor
theorem AL (b:List UInt8) (q:R9):eu (fr9 b q) (jg q):=by
 unfold jg
 refine ab (fun h=>?_) fun h=>?_
 ·have h:q.2.1≠0:=h
  rw [if_pos h];rfl
 ·have h:q.2.1=0:=Decidable.not_not.1 h
  rw [if_neg (fun e=>e h)];rfl
theorem AM (b:List UInt8) (hb:b.length<1001):∃ q,go9 b 8000 (.alts false pz0)=some q:=yx b 8000 (.alts false pz0) ⟨Nat.zero_le _,Nat.zero_le _⟩ (by show 7 * (b.length - 0)+6≤8000;omega)
theorem GB:ClI pz0:=fun d hd=>by
 have hd:(List.replicate 10 false)[d]? =some true:=hd
 have:=List.mem_of_getElem? hd
 simp at this
theorem wD (b:List UInt8) (hbb:b.length≤40000000) (h0:b≠[]) (n:Nat) (q:R9) (hq:go9 b n (.alts false pz0)=some q) (hw:b.length≤400∨q.2.1=0):du b (jg q):=by
 have hl:b.length≠0:=fun e=>h0 (List.length_eq_zero_iff.1 e)
 obtain ⟨⟨k,h1,_⟩,_⟩:=CD b (by omega) n _ q hq ⟨Nat.zero_le _,Nat.zero_le _⟩ ⟨hw.imp (fun hb=>by show 0+2 * (b.length - 0)+0≤1000;omega) id,GB,[],0,dx [] 0 (by simp)⟩
 rw [← tt1] at h1
 obtain ⟨m,_,h1⟩:=h1
 refine ab (fun h=>by omega) fun _=>⟨(k,fr9 b q),⟨R1,R2,R3,R4,R5,wt,m,h1⟩,jg q,AL b q,rfl⟩
theorem rj:du [] (([(0,0,0,0,0,0,aj)],0),0,0):=by
 refine ab (fun _=>⟨_,sW (b:=[]) (nd:=(0,0,0,0,0,0,aj)) (s:=pz0) 0 (by decide),(([(0,0,0,0,0,0,aj)],0),0,0),?_,rfl⟩) fun h=>absurd rfl h
 exact ab (fun h=>absurd rfl h) fun _=>rfl
theorem pP (b:List UInt8) (hb:b.length≤40000000) (n:Nat) (q:Res) (hq:go b n (.branch false pz0)=some q):fy b (kH q):=by
 have hj:jJ b (.branch false pz0):=⟨Nat.zero_le _,Nat.zero_le _,trivial⟩
 obtain ⟨k,h1,h2⟩:=vV b hb n _ q hq hj (by show (0:Nat)≤1000;omega)
 rw [← tt4] at h1
 obtain ⟨m,_,h1⟩:=h1
 refine ⟨(k,iU b q),⟨R1,R2,R3,R4,R5,wt,m,h1⟩,kH q,?_,rfl⟩
 obtain ⟨k0,w,s⟩:=q
 rcases h2 with ⟨h2,_⟩| ⟨y,h2,h3⟩
 ·have h2:w=[]:=h2
  subst h2
  exact ab (fun h=>absurd rfl h) fun _=>rfl
 ·have h2:w=[y]:=h2
  subst h2
  exact ab (fun _=>rfl) fun h=>absurd h3 h
theorem u2 (l:List ND) (g:Int) (h:l.length≤1000000):fS (l,g) (l,g) true:=by
 have:=xQ l l g g h
 simpa using this
theorem oS {b:List UInt8} {z:RE} (h:fy b z):bp b false z:=ab (fun h=>by cases h) fun _=>⟨z,h,rfl⟩
theorem lh {b:List UInt8} {z:RE} (h:du b z):bp b true z:=ab (fun _=>⟨z,h,rfl⟩) fun h=>absurd rfl h
theorem oT {b:List UInt8} {z:RE} (h:mh b z):cW b false z:=ab (fun h=>by cases h) fun _=>⟨z,h,rfl⟩
theorem li {b:List UInt8} {z:RE} (h:jX b z):cW b true z:=ab (fun _=>⟨z,h,rfl⟩) fun h=>absurd rfl h
def si:ByteArray:=⟨#[92,42]⟩
def nA:List ND:=[(1,0,0,0,0,0,ofS [42])]
theorem AN:ge false (ofS [42]) si:=by
 have e:be (ofS [42]) 256=[42]:=by kernel_rfl
 have hb:=rC (ofS [42])
 rw [e] at hb
 refine ⟨[42],hb,ab (fun _=>⟨Int.le_refl _,42,rfl,si,?_,rfl⟩) fun h=>absurd rfl h⟩
 refine ab (fun h=>by cases h) fun _=>ab (fun h=>absurd h (by decide)) fun _=>⟨_,⟨_,rfl,rfl⟩,ab (fun _=>au (by decide) rfl) fun h=>absurd ?_ h⟩
 decide
theorem yP {z:RE} (hp:cW [92,42] false z) (hz:z=((nA,0),0,0)):bU (nA,0) false ([92,42],true):=by
 have hr:=nt nA 0
 rw [show eC nA 0=true by kernel_rfl] at hr
 refine ⟨true,hr,ab (fun h=>absurd rfl h) fun _=>?_⟩
 refine ct (fun (st:List ByteArray×Int×Int) m=>(m=1∧st=([],0,0))∨(m=0∧st=([si],2,1))) 1 (.inl ⟨rfl,rfl⟩) ?_
 rintro _ m (⟨rfl,rfl⟩| ⟨rfl,rfl⟩)
 ·refine ab (fun _=>⟨Int.le_refl _,(1,0,0,0,0,0,ofS [42]),rfl,si,ab (fun _=>⟨_,AN,rfl⟩) fun h=>absurd rfl h,au (by decide) (ab (fun h=>absurd h (by decide)) fun _=>dD (by decide) (by decide) (au (by decide) ⟨0,by decide,.inr ⟨rfl,rfl⟩⟩))⟩) fun h=>absurd ?_ h
  decide
 ·refine ab (fun h=>absurd h (by decide)) fun _=>au (by decide) ⟨by decide,si,rfl,by decide,z,hp,ab (fun h=>absurd ?_ h) fun _=>⟨true,?_,ab (fun h=>by cases h) fun _=>rfl⟩⟩
  ·rw [hz]
  ·rw [hz]
   refine ab (fun _=>⟨true,?_,rfl⟩) fun h=>absurd rfl h
   have:=u3 nA nA (by decide)
   rwa [decide_eq_true rfl] at this
theorem ol:ci true:=by
 obtain ⟨q,h⟩:=yi [92,42] 100 (.branch false pz0) ⟨Nat.zero_le _,Nat.zero_le _,trivial⟩ trivial (by decide) (by decide)
 obtain ⟨q1,h1⟩:=AM [97,124,98] (by decide)
 have e:(go [92,42] 100 (.branch false pz0)).map (fun q=>decide (kH q=((nA,0),0,0)))=some true:=by kernel_rfl
 have e1:(go9 [97,124,98] 8000 (.alts false pz0)).map (fun q=>(decide ((jg q).2.2=0) && decide (((jg q).1.1.length:Int)=3)))=some true:=by kernel_rfl
 rw [h] at e;rw [h1] at e1
 simp only [Option.map_some,Option.some.injEq,Bool.and_eq_true,decide_eq_true_eq] at e e1
 refine ⟨_,nk 42,([92,42],true),yP (oT (pq _ (by decide) 100 (by decide) q h)) e,jg q1,li (pD _ (by decide) (by decide) _ q1 h1),ab (fun _=>⟨true,?_,?_⟩) fun h=>absurd rfl h⟩
 ·refine ⟨kH q,oS (pP _ (by decide) 100 q h),ab (fun _=>⟨true,?_,rfl⟩) fun h=>absurd (by rw [e]) h⟩
  rw [e]
  exact u2 nA 0 (by decide)
 ·show true=_
  rw [decide_eq_true e1.1,decide_eq_true e1.2];rfl
theorem tH (b:List UInt8) (x:Bool) (hb:b.length≤16777216):∃ z:RE,cW b x z∧z.1.1.length≤1000∧(z.2.2=0→z.2.1=0)∧(b.length≤400∨z.2.2=0→bp b x z)
  ∧(x=false→∃ n q,go b n (.branch false pz0)=some q∧z=kH q∧(z.2.2=0→q.2.1=[]))∧(x=true→b≠[]→∃ n q,go9 b n (.alts false pz0)=some q∧z=jg q∧(z.2.2=0→q.2.1=0)):=by
 cases x with
 | false=>
  obtain ⟨q,hq⟩:=yi b (6 * b.length+5) (.branch false pz0) ⟨Nat.zero_le _,Nat.zero_le _,trivial⟩ trivial (by show 6 * (b.length - 0)+5≤_;omega) (by omega)
  refine ⟨kH q,oT (pq b (by omega) _ (by omega) q hq),?_,?_,fun _=>oS (pP b (by omega) _ q hq),fun _=>⟨_,q,hq,rfl,?_⟩,fun h=>by cases h⟩
  ·unfold kH
   split
   ·rename_i hw
    exact (pp hq hw).2.2.2
   ·exact Nat.zero_le _
  ·obtain ⟨_,_,hsm⟩:=vV b (by omega) _ _ q hq ⟨Nat.zero_le _,Nat.zero_le _,trivial⟩ (by show (0:Nat)≤1000;omega)
   unfold kH
   rcases hsm with h | ⟨y,h1,h2⟩
   ·rw [h.1];exact fun _=>rfl
   ·rw [h1];exact fun h=>absurd h h2
  ·obtain ⟨_,_,hsm⟩:=vV b (by omega) _ _ q hq ⟨Nat.zero_le _,Nat.zero_le _,trivial⟩ (by show (0:Nat)≤1000;omega)
   rcases hsm with h | ⟨y,h1,h2⟩
   ·exact fun _=>h.1
   ·unfold kH
    rw [h1];exact fun h=>absurd h h2
 | true=>
  by_cases h0:b=[]
  ·subst h0
   exact ⟨_,li rV,by decide,fun _=>rfl,fun _=>lh rj,(fun h=>by cases h),fun _ h=>absurd rfl h⟩
  ·obtain ⟨q,hq⟩:=yx b (7 * b.length+6) (.alts false pz0) ⟨Nat.zero_le _,Nat.zero_le _⟩ (by show 7 * (b.length - 0)+6≤_;omega)
   refine ⟨jg q,li (pD b (by omega) h0 _ q hq),?_,?_,fun h=>lh (wD b (by omega) h0 _ q hq (h.imp id fun h=>?_)),(fun h=>by cases h),fun _ _=>⟨_,q,hq,rfl,fun h=>Decidable.not_not.1 fun hw=>by unfold jg at h;rw [if_pos hw] at h;exact hw h⟩⟩
   ·unfold jg
    by_cases hw:q.2.1=0
    ·rw [if_neg (fun h=>h hw)];exact (oK hq hw).2.2.2
    ·rw [if_pos hw];exact Nat.zero_le _
   ·unfold jg
    by_cases hw:q.2.1=0
    ·rw [if_neg (fun h=>h hw)];exact fun _=>rfl
    ·rw [if_pos hw];exact fun h=>absurd h hw
   ·refine Decidable.not_not.1 fun hw=>?_
    unfold jg at h
    rw [if_pos hw] at h
    exact hw h
end Go.Proofs.YtnbceeholnkfeaaGreatDoor
