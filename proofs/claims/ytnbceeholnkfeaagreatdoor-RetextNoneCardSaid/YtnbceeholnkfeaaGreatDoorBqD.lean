/- The parser of basic regular expressions computes that function. -/
import Derived.Test.YtnbceeholnkfeaaGreatDoorBqA
import Derived.Test.YtnbceeholnkfeaaGreatDoorLt
namespace Go.Proofs.YtnbceeholnkfeaaGreatDoor
theorem zX (b:List UInt8) (s:Pz) (hb:b.length≤40000000) (hp:s.p≤b.length):jz (s.ps b) (fG b s.p):=by
 refine ⟨iH (by show (0:Int)≤(s.p:Int)+1;omega) (by show (s.p:Int)+1≤_;omega),ab (fun h=>?_) fun h=>?_⟩
 ·have h:(s.p:Int)+1=(b.length:Int):=h
  unfold fG;rw [decide_eq_true (by omega)];rfl
 ·have h:¬ (s.p:Int)+1=(b.length:Int):=h
  refine ⟨_,kG b s [36,92,41] hb hp (by simp),?_⟩
  unfold fG;rw [decide_eq_false (by omega)];rfl
theorem sJ (b:List UInt8) (k:Int) (y:Int×Int×Int) (hi:Int) (s:Pz) (a:Nat) (hb:b.length≤40000000) (ha:a≤b.length):
  fK (s.ps b) [((s.p:Int),13)] k y (a:Int) hi (rs b (dV b k y.1 hi s a)):=by
 refine ⟨_,kG b { s with p:=a } [92,125] hb ha (by simp),?_⟩
 unfold dV
 refine ab (fun h=>?_) fun h=>?_
 ·rw [if_pos h];rfl
 ·rw [if_neg h]
  exact ⟨iH (by omega) (by omega),_,yj b k y.1 hi { s with p:=a+2 },rfl⟩
theorem yk (b:List UInt8) (k:Int) (s:Pz) (hb:b.length≤40000000) (hp:s.p≤b.length) (hm:aI b s.p [42]=true∨aI b s.p [92,123]=true):jj (s.ps b) k (rs b (aR b k s)):=by
 refine ⟨_,kG b s [42] hb hp (by simp),?_⟩
 unfold aR
 refine ab (fun h1=>?_) fun h1=>?_
 ·rw [if_pos h1]
  exact ⟨iH (by show (0:Int)≤(s.p:Int)+1;omega) (by show (s.p:Int)+1≤_;omega),_,yj b k 0 (-1) (adv s 1),rfl⟩
 ·rw [if_neg h1]
  have hp2:s.p+2≤b.length:=di (hm.resolve_left h1) (by simp)
  refine ⟨_,rfl,iH (by show (0:Int)≤(s.p:Int)+2;omega) (by show (s.p:Int)+2≤_;omega),_,rT b (s.p+2) hb hp2,ab (fun h2=>?_) fun h2=>?_⟩
  ·rw [if_pos h2];rfl
  ·rw [if_neg h2]
   obtain ⟨q,hq,hq1,hq2⟩:=eQ (Decidable.not_not.1 h2) hp2
   rw [hq,Int.toNat_natCast]
   have hno:¬ b[q]? =some 44→fL (am b (s.p+2)) (s.ps b) [((s.p:Int),13)] k false (rs b (dV b k (am b (s.p+2)).1 (am b (s.p+2)).1 s q)):=fun _=>by
    refine ab (fun h=>by cases h) fun _=>?_
    rw [hq]
    exact sJ b k _ _ s q hb hq2
   refine ab (fun h3=>?_) fun h3=>?_
   ·have h3:(q:Int)<(b.length:Int):=h3
    obtain ⟨c,hc⟩:∃ c,b[q]? =some c:=⟨b[q]'(by omega),List.getElem?_eq_getElem (by omega)⟩
    refine ⟨by omega,c,hc,?_⟩
    by_cases h4:c=44
    ·subst h4
     rw [if_pos hc,show decide ((((44:UInt8).toNat:Nat):Int)=44)=true from rfl]
     refine ab (fun _=>?_) fun h=>absurd rfl h
     rw [hq]
     refine ⟨iH (by omega) (by omega),_,rT b (q+1) hb (by omega),ab (fun h5=>?_) fun h5=>?_⟩
     ·rw [if_pos h5]
      obtain ⟨z,hz,hz1,hz2⟩:=eQ h5 (by omega)
      rw [hz,Int.toNat_natCast]
      refine ⟨iH (by omega) (by omega),iH (by omega) (by omega),?_⟩
      rw [show (z:Int) - 1+1=(z:Int) by omega]
      exact sJ b k _ _ s z hb hz2
     ·rw [if_neg h5]
      refine ab (fun h6=>?_) fun h6=>?_
      ·rw [if_neg h6];rfl
      ·rw [if_pos (Decidable.not_not.1 h6)]
       exact ⟨iH (by omega) (by omega),sJ b k _ _ s (q+1) hb (by omega)⟩
    ·have hne:¬ b[q]? =some 44:=fun h=>h4 (Option.some.inj (hc.symm.trans h))
     rw [if_neg hne,decide_eq_false (fun h=>h4 (UInt8.toNat_inj.1 (by show c.toNat=44;omega)))]
     exact hno hne
   ·have h3:¬ (q:Int)<(b.length:Int):=h3
    have hne:¬ b[q]? =some 44:=fun h=>by have:=(List.getElem?_eq_some_iff.1 h).1;omega
    rw [if_neg hne]
    exact hno hne
theorem rI (b:List UInt8) (n:Nat) (k:Int) (w:List (Int×Int)) (s:Pz):aL b (n+1) k w s=if cb b k w s=true then aL b n (aR b k s).1 (aR b k s).2.1 (aR b k s).2.2 else dI k w s:=rfl
theorem wl (b:List UInt8) (r:Res) (hb:b.length≤40000000) (h:r.2.1=[]→r.2.2.p≤b.length∧r.2.2.g≤9):gf r.1 r.2.1 r.2.2.L (r.2.2.g:Int) b (r.2.2.p:Int) r.2.2.cl (rs b (jn b r)):=by
 obtain ⟨k,w,s⟩:=r
 dsimp only at h
 refine ct (fun (st:Int×List (Int×Int)×List ND×Int×List UInt8×Int×Arr 10 Bool) n=>∃ (k':Int) (w':List (Int×Int)) (s':Pz),st=(k',w',s'.L,(s'.g:Int),b,(s'.p:Int),s'.cl)∧(w'=[]→s'.p≤b.length∧s'.g≤9)∧(w'=[]→b.length<n+s'.p)∧1≤n∧aL b n k' w' s'=jn b (k,w,s)) (b.length+1) ⟨k,w,s,rfl,h,fun _=>by omega,by omega,rfl⟩ ?_
 rintro _ n ⟨k',w',s',rfl,hs,hn,hn1,he⟩
 show lC _ k' w' s'.L (s'.g:Int) b (s'.p:Int) s'.cl _
 obtain ⟨n,rfl⟩:∃ j,n=j+1:=⟨n - 1,by omega⟩
 rw [rI] at he
 generalize hW:jn b (k,w,s)=W at he
 have hend:cb b k' w' s'=false→cZ s'.L (s'.g:Int) b (s'.p:Int) s'.cl k' (fun st=>∃ m',m'<n+1∧∃ (k':Int) (w':List (Int×Int)) (s':Pz),st=(k',w',s'.L,(s'.g:Int),b,(s'.p:Int),s'.cl)∧(w'=[]→s'.p≤b.length∧s'.g≤9)∧(w'=[]→b.length<m'+s'.p)∧1≤m'∧aL b m' k' w' s'=W) w' false (rs b W):=fun hm=>by
  rw [if_neg (by rw [hm];simp)] at he
  refine ab (fun h=>by cases h) fun _=>?_
  rw [← he]
  refine ab (fun h5=>?_) fun h5=>?_
  ·refine ⟨_,rfl,?_⟩
   show (k',(if (w'.isEmpty && decide (k'<0))=true then [((s'.p:Int),(8:Int))] else w'),_)=(k',_,_)
   rw [if_pos h5];rfl
  ·show (k',(if (w'.isEmpty && decide (k'<0))=true then [((s'.p:Int),(8:Int))] else w'),_)=(k',_,_)
   rw [if_neg h5];rfl
 refine ab (fun h1=>?_) fun h1=>?_
 ·have hw:w'=[]:=List.isEmpty_iff.1 h1
  obtain ⟨hp,hg⟩:=hs hw
  have hn:=hn hw
  refine ab (fun h2=>?_) fun h2=>?_
  ·have hgo:aI b s'.p [42]=true∨aI b s'.p [92,123]=true→cZ s'.L (s'.g:Int) b (s'.p:Int) s'.cl k' (fun st=>∃ m',m'<n+1∧∃ (k':Int) (w':List (Int×Int)) (s':Pz),st=(k',w',s'.L,(s'.g:Int),b,(s'.p:Int),s'.cl)∧(w'=[]→s'.p≤b.length∧s'.g≤9)∧(w'=[]→b.length<m'+s'.p)∧1≤m'∧aL b m' k' w' s'=W) w' true (rs b W):=fun hm=>by
    have hmore:cb b k' w' s'=true:=by
     unfold cb
     rw [h1,decide_eq_true h2]
     rcases hm with h | h <;> rw [h] <;> simp
    rw [if_pos hmore] at he
    refine ab (fun _=>?_) fun h=>absurd rfl h
    have hpl:s'.p+1≤b.length:=by rcases hm with h | h <;> have:=di h (by simp) <;> simp at this <;> omega
    refine ⟨_,yk b k' s' hb hp hm,n,by omega,(aR b k' s').1,(aR b k' s').2.1,(aR b k' s').2.2,rfl,fun hr=>?_,fun hr=>?_,by omega,he⟩
    ·obtain ⟨_,c2,c3⟩:=kr hp hg hm hr
     exact ⟨c2,c3⟩
    ·obtain ⟨c1,_,_⟩:=kr hp hg hm hr
     omega
   refine ⟨_,kG b s' [42] hb hp (by simp),ab (fun h3=>hgo (.inl h3)) fun h3=>⟨_,kG b s' [92,123] hb hp (by simp),?_⟩⟩
   cases h4:aI b s'.p [92,123] with
   | true=>exact hgo (.inr h4)
   | false=>
    refine hend ?_
    unfold cb
    rw [h4,show aI b s'.p [42]=false by simpa using h3];simp
  ·refine hend ?_
   unfold cb
   rw [decide_eq_false h2];simp
 ·refine hend ?_
  unfold cb
  rw [show w'.isEmpty=false by simpa using h1];rfl
def SJ (b:List UInt8) (m:Nat) (j:Job) (o:PS) (r:RS):Prop:=m≤500000000∧∃ q,o=j.s.ps b∧jJ b j∧go b m j=some q∧r=rs b q
def S1 (b:List UInt8) (m:Nat) (o:PS) (x:Bool) (r:RS):Prop:=∃ s,SJ b m (.branch x s) o r
def S2 (b:List UInt8) (m:Nat) (o:PS) (x:Bool) (r:RS):Prop:=∃ s,SJ b m (.piece x s) o r
def S3 (b:List UInt8) (m:Nat) (o:PS) (r:RS):Prop:=∃ s,SJ b m (.atom s) o r
def S4 (b:List UInt8) (m:Nat) (o:PS) (r:RS):Prop:=∃ s,SJ b m (.escape s) o r
def S5 (b:List UInt8) (m:Nat) (o:PS) (r:RS):Prop:=∃ s,SJ b m (.group s) o r
theorem w6 (b:List UInt8) (x:Bool) (l:List Int) (s:Pz) (hl:l.length≤500000000):et x l s.L (s.g:Int) b (s.p:Int) s.cl (rs b (fo b x l s)):=by
 unfold fo
 refine ab (fun h=>?_) fun h=>?_
 ·rw [if_pos h]
  exact ⟨_,rfl,rfl⟩
 ·rw [if_neg h]
  refine ⟨_,Dx b l s hl,ab (fun h1=>?_) fun h1=>?_⟩
  ·rw [if_pos h1]
   exact ⟨_,rfl,rfl⟩
  ·rw [if_neg h1];rfl
theorem wm (b:List UInt8) (hb:b.length≤40000000) (m:Nat) (hm:m<500000000) (x:Bool) (l0:List Int) (s0:Pz) (q:Res) (hl0:l0.length≤1) (h0:jJ b (.loop x l0 true s0)) (hq:go b m (.loop x l0 true s0)=some q):
  fM (fun a0 a1 r=>∃ m',m'<m+1∧S2 b m' a0 a1 r) x l0 s0.L (s0.g:Int) b (s0.p:Int) s0.cl (rs b q):=by
 refine ct (fun (st:List Int×Bool×List ND×Int×List UInt8×Int×Arr 10 Bool) n=>∃ (l:List Int) (f:Bool) (s:Pz),n≤m∧l.length+n≤500000000∧st=(l,f,s.L,(s.g:Int),b,(s.p:Int),s.cl)∧jJ b (.loop x l f s)∧go b n (.loop x l f s)=some q) m ⟨l0,true,s0,Nat.le_refl _,by omega,rfl,h0,hq⟩ ?_
 rintro _ n ⟨l,f,s,hn,hln,rfl,hj,hg⟩
 obtain ⟨j1,j2,_⟩:=hj
 have j1:s.p≤b.length:=j1
 have j2:s.g≤9:=j2
 show kY _ x _ l f s.L (s.g:Int) b (s.p:Int) s.cl _
 cases n with
 | zero=>cases hg
 | succ n=>
  unfold go at hg
  have hend:¬ (s.p<b.length∧aI b s.p [92,41]=false)→et x l s.L (s.g:Int) b (s.p:Int) s.cl (rs b q):=fun h=>by
   rw [if_neg h] at hg
   injection hg with hg
   subst hg
   exact w6 b x l s (by omega)
  refine ab (fun h1=>⟨_,kG b s [92,41] hb j1 (by simp),ab (fun h2=>?_) fun h2=>?_⟩) fun h1=>?_
  ·have h1:(s.p:Int)<(b.length:Int):=h1
   rw [if_pos ⟨by omega,by simpa using h2⟩] at hg
   cases hp:go b n (.piece f s) with
   | none=>rw [hp] at hg;cases hg
   | some y=>
    obtain ⟨k,w,s'⟩:=y
    rw [hp] at hg
    dsimp only at hg
    refine ⟨_,⟨n,by omega,s,by omega,_,rfl,⟨j1,j2,trivial⟩,hp,rfl⟩,ab (fun h3=>?_) fun h3=>?_⟩
    ·have h3:¬ w.isEmpty=true:=h3
     rw [if_neg h3] at hg
     injection hg with hg
     subst hg
     rfl
    ·have h3:w.isEmpty=true:=Decidable.not_not.1 h3
     rw [if_pos h3] at hg
     obtain ⟨⟨_,c2,c3⟩,_⟩:=jK b n _ _ hp ⟨j1,j2,trivial⟩ (List.isEmpty_iff.1 h3)
     refine dD (by show l.length+1≤_;omega) (by omega) ⟨n,by omega,l++[k],false,s',by omega,?_,rfl,⟨c2,c3,trivial⟩,hg⟩
     rw [List.length_append];show l.length+1+n≤_;omega
  ·exact hend fun h=>h2 (by rw [h.2];simp)
  ·have h1:¬ (s.p:Int)<(b.length:Int):=h1
   exact hend fun h=>by omega
theorem Dz (b:List UInt8) (hb:b.length≤40000000):gn (S1 b) (S2 b) (S3 b) (S4 b) (S5 b):=by
 refine ⟨?_,?_,?_,?_,?_⟩
 ·rintro m _ x _ ⟨s,hm,q,rfl,⟨j1,j2,_⟩,hg,rfl⟩
  have j1:s.p≤b.length:=j1
  have j2:s.g≤9:=j2
  cases m with
  | zero=>cases hg
  | succ m=>
   unfold go at hg
   refine ⟨_,kG b s [94] hb j1 (by simp),ab (fun h1=>?_) fun h1=>?_⟩
   ·rw [if_pos h1] at hg
    have hl:=di h1 (by simp)
    have hl:s.p+1≤b.length:=hl
    obtain ⟨a1,a2,_⟩:=eK (7,0,0,0,0,0,aj) (adv s 1)
    refine ⟨iH (by show (0:Int)≤(s.p:Int)+1;omega) (by show (s.p:Int)+1≤_;omega),_,Dv b (adv s 1),dD (by simp) (by omega) ⟨by decide,_,rfl,ab (fun h2=>?_) fun h2=>?_⟩⟩
    ·rw [if_pos h2] at hg
     injection hg with hg
     subst hg
     exact ⟨_,rfl,rfl⟩
    ·rw [if_neg h2] at hg
     exact wm b hb m (by omega) x _ _ q (by simp) ⟨by show (ah _ (adv s 1)).2.p≤_;rw [a1];exact hl,by show (ah _ (adv s 1)).2.g≤_;rw [a2];exact j2,trivial⟩ hg
   ·rw [if_neg h1] at hg
    exact wm b hb m (by omega) x [] s q (by simp) ⟨j1,j2,trivial⟩ hg
 ·rintro m _ x _ ⟨s,hm,q,rfl,⟨j1,j2,_⟩,hg,rfl⟩
  have j1:s.p≤b.length:=j1
  have j2:s.g≤9:=j2
  cases m with
  | zero=>cases hg
  | succ m=>
   unfold go at hg
   have hatom:¬ (x=true∧aI b s.p [92,123]=true)→¬ (x=true∧aI b s.p [42]=true)→gg (s.ps b) (fun a0 r=>∃ m',m'<m+1∧S3 b m' a0 r) false (rs b q):=fun h1 h2=>by
    rw [if_neg h1,if_neg h2] at hg
    cases hp:go b m (.atom s) with
    | none=>rw [hp] at hg;cases hg
    | some y=>
     rw [hp] at hg
     injection hg with hg
     subst hg
     exact ab (fun h=>by cases h) fun _=>⟨_,⟨m,by omega,s,by omega,y,rfl,⟨j1,j2,trivial⟩,hp,rfl⟩,wl b y hb fun hw=>(jK b m _ y hp ⟨j1,j2,trivial⟩ hw).1.2⟩
   have hrest:¬ (x=true∧aI b s.p [92,123]=true)→gh (s.ps b) x (fun a0 r=>∃ m',m'<m+1∧S3 b m' a0 r) false (rs b q):=fun h1=>by
    refine ab (fun h=>by cases h) fun _=>ab (fun hx=>⟨_,kG b s [42] hb j1 (by simp),?_⟩) fun hx=>hatom h1 fun h=>hx h.1
    cases h2:aI b s.p [42] with
    | false=>exact hatom h1 fun h=>by rw [h2] at h;cases h.2
    | true=>
     rw [if_neg h1,if_pos ⟨hx,h2⟩] at hg
     injection hg with hg
     subst hg
     have hl:s.p+1≤b.length:=di h2 (by simp)
     refine ab (fun _=>⟨_,rH b 42 s (by omega),wl b (kF 42 s) hb fun _=>?_⟩) fun h=>absurd rfl h
     exact (m7 (b:=b) (s:=adv s 1) (p:=s.p+1) ⟨Nat.le_refl _,hl,j2⟩).2
   refine ab (fun hx=>⟨_,kG b s [92,123] hb j1 (by simp),?_⟩) fun hx=>hrest fun h=>hx h.1
   cases h1:aI b s.p [92,123] with
   | false=>exact hrest fun h=>by rw [h1] at h;cases h.2
   | true=>
    rw [if_pos ⟨hx,h1⟩] at hg
    injection hg with hg
    subst hg
    exact ab (fun _=>⟨_,rfl,rfl⟩) fun h=>absurd rfl h
 ·rintro m _ _ ⟨s,hm,q,rfl,⟨j1,j2,_⟩,hg,rfl⟩
  have j1:s.p≤b.length:=j1
  have j2:s.g≤9:=j2
  cases m with
  | zero=>cases hg
  | succ m=>
   unfold go at hg
   cases hc:b[s.p]? with
   | none=>rw [hc] at hg;cases hg
   | some c=>
    rw [hc] at hg
    dsimp only at hg
    have hl:s.p<b.length:=(List.getElem?_eq_some_iff.1 hc).1
    refine ⟨by show (0:Int)≤(s.p:Int);omega,c,hc,ab (fun h1=>?_) fun h1=>?_⟩
    ·rw [if_pos (by omega)] at hg
     exact ⟨_,⟨m,by omega,s,by omega,q,rfl,⟨j1,j2,hl⟩,hg,rfl⟩,rfl⟩
    rw [if_neg (by omega)] at hg
    refine ab (fun h2=>?_) fun h2=>?_
    ·rw [if_pos (by omega)] at hg
     injection hg with hg
     subst hg
     exact ⟨iH (by show (0:Int)≤(s.p:Int)+1;omega) (by show (s.p:Int)+1≤_;omega),_,rM z4,_,up b _ (adv s 1),rfl⟩
    rw [if_neg (by omega)] at hg
    refine ab (fun h3=>?_) fun h3=>?_
    ·rw [if_pos (by omega)] at hg
     refine ⟨iH (by show (0:Int)≤(s.p:Int)+1;omega) (by show (s.p:Int)+1≤_;omega),_,ut b (s.p+1) hb hl,ab (fun h4=>?_) fun h4=>?_⟩
     ·rw [if_neg h4] at hg
      injection hg with hg
      subst hg
      exact ⟨_,rfl,rfl⟩
     ·rw [if_pos (Decidable.not_not.1 h4)] at hg
      injection hg with hg
      subst hg
      obtain ⟨z,hz,_,_⟩:=fJ (Decidable.not_not.1 h4) hl
      rw [hz,Int.toNat_natCast]
      exact ⟨_,up b _ { s with p:=z },rfl⟩
    rw [if_neg (by omega)] at hg
    have hlast:¬ (c.toNat=36∧fG b s.p=true)→gG (s.ps b) c false (rs b q):=fun h=>by
     rw [if_neg h] at hg
     injection hg with hg
     subst hg
     exact ab (fun h=>by cases h) fun _=>⟨_,rH b c s (by omega),rfl⟩
    refine ab (fun h4=>⟨_,zX b s hb j1,?_⟩) fun h4=>hlast fun h=>h4 (by omega)
    cases he:fG b s.p with
    | false=>exact hlast fun h=>by rw [he] at h;cases h.2
    | true=>
     rw [if_pos ⟨by omega,he⟩] at hg
     injection hg with hg
     subst hg
     exact ab (fun _=>⟨iH (by show (0:Int)≤(s.p:Int)+1;omega) (by show (s.p:Int)+1≤_;omega),_,Dw b (adv s 1),rfl⟩) fun h=>absurd rfl h
 ·rintro m _ _ ⟨s,hm,q,rfl,⟨j1,j2,j3⟩,hg,rfl⟩
  have j1:s.p≤b.length:=j1
  have j2:s.g≤9:=j2
  have j3:s.p+1≤b.length:=j3
  have hin:InR ((s.p:Int)+1):=iH (by omega) (by omega)
  cases m with
  | zero=>cases hg
  | succ m=>
   unfold go at hg
   refine ⟨hin,ab (fun h0=>?_) fun h0=>⟨hin,by show (0:Int)≤(s.p:Int)+1;omega,?_⟩⟩
   ·have h0:(s.p:Int)+1=(b.length:Int):=h0
    rw [List.getElem?_eq_none (by omega)] at hg
    injection hg with hg
    subst hg
    exact ⟨_,rfl,rfl⟩
   ·have h0:¬ (s.p:Int)+1=(b.length:Int):=h0
    obtain ⟨c,hc⟩:∃ c,b[s.p+1]? =some c:=⟨b[s.p+1]'(by omega),List.getElem?_eq_getElem (by omega)⟩
    have hcl:=c.toNat_lt
    have hl:s.p+2≤b.length:=by have:=(List.getElem?_eq_some_iff.1 hc).1;omega
    have hin2:InR ((s.p:Int)+2):=iH (by omega) (by omega)
    rw [hc] at hg
    dsimp only at hg
    refine ⟨c,hc,_,uw _ c,ab (fun h1=>?_) fun h1=>?_⟩
    ·rw [if_pos (by omega)] at hg
     exact ⟨_,⟨m,by omega,s,by omega,q,rfl,⟨j1,j2,hl⟩,hg,rfl⟩,rfl⟩
    rw [if_neg (by omega)] at hg
    rw [wq]
    refine ab (fun h2=>?_) fun h2=>?_
    ·simp only [Bool.and_eq_true,decide_eq_true_eq] at h2
     rw [if_pos (by omega)] at hg
     refine iu (by omega) fun d hd=>⟨by omega,?_⟩
     obtain ⟨y,hy⟩:∃ y,s.cl.l[c.toNat - 48]? =some y:=⟨s.cl.l[c.toNat - 48]'(by rw [s.cl.len];omega),List.getElem?_eq_getElem (by rw [s.cl.len];omega)⟩
     refine ⟨y,by rw [← hy];show s.cl.l[((d.toNat:Nat):Int).toNat]? =_;congr 1;omega,ab (fun h3=>?_) fun h3=>?_⟩
     ·rw [if_neg (fun h=>h3 (Option.some.inj (hy.symm.trans h)))] at hg
      injection hg with hg
      subst hg
      exact ⟨_,rfl,rfl⟩
     ·rw [if_pos (by rw [hy,Decidable.not_not.1 h3])] at hg
      injection hg with hg
      subst hg
      refine ⟨hin2,_,Cd b _ (adv s 2),?_⟩
      rw [hd];rfl
    ·simp only [Bool.and_eq_true,decide_eq_true_eq] at h2
     rw [if_neg (by omega)] at hg
     refine ab (fun h3=>?_) fun h3=>?_
     ·rw [if_pos (by omega)] at hg
      injection hg with hg
      subst hg
      exact ⟨hin,_,rH b 10 (adv s 1) (by show s.p+1≤_;omega),rfl⟩
     ·rw [if_neg (by omega)] at hg
      refine ab (fun h4=>?_) fun h4=>?_
      ·rw [if_pos h4] at hg
       injection hg with hg
       subst hg
       exact ⟨_,rfl,rfl⟩
      ·rw [if_neg h4] at hg
       injection hg with hg
       subst hg
       exact ⟨hin,_,rH b c (adv s 1) (by show s.p+1≤_;omega),rfl⟩
 ·rintro m _ _ ⟨s,hm,q,rfl,⟨j1,j2,j3⟩,hg,rfl⟩
  have j1:s.p≤b.length:=j1
  have j2:s.g≤9:=j2
  have j3:s.p+2≤b.length:=j3
  cases m with
  | zero=>cases hg
  | succ m=>
   unfold go at hg
   by_cases h9:9≤s.g
   ·rw [if_pos h9] at hg
    injection hg with hg
    subst hg
    exact ⟨_,ab (fun _=>rfl) fun h=>absurd (by show (9:Int)≤(s.g:Int);omega) h,ab (fun _=>⟨_,rfl,rfl⟩) fun h=>absurd (by show (-1:Int)<0;decide) h⟩
   ·rw [if_neg h9] at hg
    refine ⟨(((s.g+1:Nat):Int),({ s with g:=s.g+1 }:Pz).ps b),ab (fun h=>by have h:(9:Int)≤(s.g:Int):=h;omega) fun _=>⟨iH (by show (0:Int)≤(s.g:Int)+1;omega) (by show (s.g:Int)+1≤_;omega),rfl⟩,ab (fun h=>by have h:((s.g+1:Nat):Int)<0:=h;omega) fun _=>⟨iH (by show (0:Int)≤(s.p:Int)+2;omega) (by show (s.p:Int)+2≤_;omega),?_⟩⟩
    cases hp:go b m (.branch true { s with g:=s.g+1,p:=s.p+2 }) with
    | none=>rw [hp] at hg;cases hg
    | some y=>
     obtain ⟨k,w,s'⟩:=y
     rw [hp] at hg
     dsimp only at hg
     have hj:jJ b (.branch true { s with g:=s.g+1,p:=s.p+2 }):=⟨j3,by show s.g+1≤9;omega,trivial⟩
     refine ⟨_,⟨m,by omega,{ s with g:=s.g+1,p:=s.p+2 },by omega,_,rfl,hj,hp,rfl⟩,ab (fun h3=>?_) fun h3=>?_⟩
     ·have h3:¬ w.isEmpty=true:=h3
      rw [if_neg h3] at hg
      injection hg with hg
      subst hg
      rfl
     ·have h3:w.isEmpty=true:=Decidable.not_not.1 h3
      rw [if_pos h3] at hg
      injection hg with hg
      subst hg
      obtain ⟨⟨_,c2,c3⟩,c4⟩:=jK b m _ _ hp hj (List.isEmpty_iff.1 h3)
      have c2:s'.p≤b.length:=c2
      obtain ⟨y,hy⟩:∃ y,s'.cl.l[s.g+1]? =some y:=⟨s'.cl.l[s.g+1]'(by rw [s'.cl.len];omega),List.getElem?_eq_getElem (by rw [s'.cl.len];omega)⟩
      exact ⟨iH (by show (0:Int)≤(s'.p:Int)+2;omega) (by show (s'.p:Int)+2≤_;omega),⟨by show (0:Int)≤((s.g+1:Nat):Int);omega,by show ((s.g+1:Nat):Int)<10;omega⟩,y,hy,_,zW b _ k { s' with p:=s'.p+2,cl:=Arr.set s'.cl (s.g+1) true },rfl⟩
end Go.Proofs.YtnbceeholnkfeaaGreatDoor
namespace Go.Proofs.YtnbceeholnkfeaaGreatDoor
theorem sK {b:List UInt8} {L:List ND} {g:Nat} {k lo hi:Int} {s:Pz} {a:Nat} (h:Gr L g s.L s.g [k]) (hw:(dV b k lo hi s a).2.1=[]) (hr:0≤(dV b k lo hi s a).1):Gr L g (dV b k lo hi s a).2.2.L (dV b k lo hi s a).2.2.g [(dV b k lo hi s a).1]:=by
 unfold dV at hw hr ⊢
 split at hw
 ·cases hw
 ·rename_i h1
  rw [if_neg h1] at hr ⊢
  exact nQ (s:={ s with p:=a+2 }) h hr (by show (4:Int)≠5;decide) fun z=>by show [k].count z=[k].count z+0;rfl
theorem yl {b:List UInt8} {L:List ND} {g:Nat} {k:Int} {s:Pz} (h:Gr L g s.L s.g [k]) (hw:(aR b k s).2.1=[]) (hr:0≤(aR b k s).1):Gr L g (aR b k s).2.2.L (aR b k s).2.2.g [(aR b k s).1]:=by
 unfold aR at hw hr ⊢
 split at hw
 ·rename_i h1
  rw [if_pos h1] at hr ⊢
  exact nQ (s:=adv s 1) h hr (by show (4:Int)≠5;decide) fun z=>by show [k].count z=[k].count z+0;rfl
 ·rename_i h1
  rw [if_neg h1] at hr ⊢
  split at hw
  ·cases hw
  ·rename_i h2
   rw [if_neg h2] at hr ⊢
   split at hw
   ·rename_i h3
    rw [if_pos h3] at hr ⊢
    split at hw
    ·rename_i h4
     rw [if_pos h4] at hr ⊢
     exact sK h hw hr
    ·rename_i h4
     rw [if_neg h4] at hr ⊢
     split at hw
     ·rename_i h5
      rw [if_pos h5] at hr ⊢
      exact sK h hw hr
     ·cases hw
   ·rename_i h3
    rw [if_neg h3] at hr ⊢
    exact sK h hw hr
theorem wn {b:List UInt8} {L:List ND} {g:Nat}:∀ (n:Nat) (k:Int) (w:List (Int×Int)) (s:Pz),(w=[]→0≤k→Gr L g s.L s.g [k])→(aL b n k w s).2.1=[]→0≤(aL b n k w s).1∧Gr L g (aL b n k w s).2.2.L (aL b n k w s).2.2.g [(aL b n k w s).1]:=by
 have hend:∀ (k:Int) (w:List (Int×Int)) (s:Pz),(w=[]→0≤k→Gr L g s.L s.g [k])→(dI k w s).2.1=[]→0≤(dI k w s).1∧Gr L g (dI k w s).2.2.L (dI k w s).2.2.g [(dI k w s).1]:=fun k w s hs h=>by
  unfold dI at h
  dsimp only at h
  split at h
  ·cases h
  ·rename_i h1
   have hk:0≤k:=by
    subst h
    simp at h1
    exact h1
   exact ⟨hk,hs h hk⟩
 intro n
 induction n with
 | zero=>exact hend
 | succ n ih=>
  intro k w s hs h
  rw [rI] at h ⊢
  split at h
  ·rename_i h1
   rw [if_pos h1]
   obtain ⟨hw,hk,_⟩:=oC h1
   exact ih _ _ _ (fun h2 h3=>yl (hs hw hk) h2 h3) h
  ·rename_i h1
   rw [if_neg h1]
   exact hend k w s hs h
def EG (L:List ND) (g:Nat) (j:Job) (r:Res):Prop:=match j with
 | .branch _ s=>Gr L g s.L s.g []→0≤r.1∧Gr L g r.2.2.L r.2.2.g [r.1]
 | .loop _ l _ s=>Gr L g s.L s.g l→0≤r.1∧Gr L g r.2.2.L r.2.2.g [r.1]
 | .piece _ s=>Gr L g s.L s.g []→0≤r.1∧Gr L g r.2.2.L r.2.2.g [r.1]
 | .atom s | .escape s | .group s=>Gr L g s.L s.g []→0≤r.1→Gr L g r.2.2.L r.2.2.g [r.1]
theorem BJ (b:List UInt8):∀ (n:Nat) (j:Job) (r:Res),go b n j=some r→r.2.1=[]→∀ L g,EG L g j r:=by
 intro n
 induction n with
 | zero=>intro j r h;cases h
 | succ n ih=>
  intro j r h hw L g
  have hleaf:∀ (nd:ND) (s:Pz),nd.1≠5→aY nd=[]→Gr L g s.L s.g []→0≤(okR (ah nd s)).1→Gr L g (okR (ah nd s)).2.2.L (okR (ah nd s)).2.2.g [(okR (ah nd s)).1]:=fun nd s h1 h2 h3 h4=>sR h3 h4 h1 h2
  cases j with
  | branch inner s=>
   intro hs
   unfold go at h
   split at h
   ·split at h
    ·injection h with h;subst h;cases hw
    ·rename_i h1
     exact ih (.loop inner _ true _) r h hw L g (hleaf (7,0,0,0,0,0,aj) (adv s 1) (by decide) rfl hs (by show 0≤(ah _ _).1;omega))
   ·exact ih (.loop inner [] true s) r h hw L g hs
  | loop inner l first s=>
   intro hs
   unfold go at h
   split at h
   ·cases hg:go b n (.piece first s) with
    | none=>rw [hg] at h;cases h
    | some q=>
     obtain ⟨k,w,s'⟩:=q
     rw [hg] at h
     dsimp only at h
     split at h
     ·rename_i hwe
      have hlen:s.L.length≤1000:=by obtain ⟨_,_,_,_,_,_,h5⟩:=hs;exact h5
      have:=(ih (.piece first s) _ hg (List.isEmpty_iff.1 hwe) s.L s.g (dx _ _ hlen)).2
      exact ih (.loop inner (l++[k]) false s') r h hw L g (jr hs this)
     ·rename_i hwe
      injection h with h
      subst h
      exact absurd (List.isEmpty_iff.2 hw) hwe
   ·injection h with h
    subst h
    unfold fo at hw ⊢
    split at hw
    ·cases hw
    ·rename_i h2
     rw [if_neg h2]
     split at hw
     ·cases hw
     ·rename_i h3
      rw [if_neg h3]
      have h3:0≤(bd l s).1:=by omega
      exact ⟨h3,yu hs h3⟩
  | piece first s=>
   intro hs
   unfold go at h
   split at h
   ·injection h with h;subst h;cases hw
   ·split at h
    ·injection h with h
     subst h
     exact wn _ _ _ _ (fun _ hk=>hleaf (cn (ofS [42])) (adv s 1) (by show (1:Int)≠5;decide) rfl hs hk) hw
    ·cases hg:go b n (.atom s) with
     | none=>rw [hg] at h;cases h
     | some q=>
      rw [hg] at h
      injection h with h
      subst h
      exact wn _ _ _ _ (fun hq hk=>ih (.atom s) q hg hq L g hs hk) hw
  | atom s=>
   intro hs hk
   unfold go at h
   split at h
   ·cases h
   ·split at h
    ·exact ih (.escape s) r h hw L g hs hk
    ·split at h
     ·injection h with h;subst h;exact hleaf _ (adv s 1) (by show (1:Int)≠5;decide) rfl hs hk
     ·split at h
      ·split at h
       ·injection h with h;subst h;exact hleaf _ { s with p:=_ } (by show (1:Int)≠5;decide) rfl hs hk
       ·injection h with h;subst h;cases hw
      ·split at h
       ·injection h with h;subst h;exact hleaf _ (adv s 1) (by decide) rfl hs hk
       ·injection h with h;subst h;exact hleaf _ (adv s 1) (by show (1:Int)≠5;decide) rfl hs hk
  | escape s=>
   intro hs hk
   unfold go at h
   split at h
   ·injection h with h;subst h;cases hw
   ·split at h
    ·exact ih (.group s) r h hw L g hs hk
    ·split at h
     ·split at h
      ·injection h with h;subst h;exact hleaf _ (adv s 2) (by show (6:Int)≠5;decide) rfl hs hk
      ·injection h with h;subst h;cases hw
     ·split at h
      ·injection h with h;subst h;exact hleaf _ (adv (adv s 1) 1) (by show (1:Int)≠5;decide) rfl hs hk
      ·split at h
       ·injection h with h;subst h;cases hw
       ·injection h with h;subst h;exact hleaf _ (adv (adv s 1) 1) (by show (1:Int)≠5;decide) rfl hs hk
  | group s=>
   intro hs hk
   unfold go at h
   split at h
   ·injection h with h;subst h;cases hw
   ·cases hg:go b n (.branch true { s with g:=s.g+1,p:=s.p+2 }) with
    | none=>rw [hg] at h;cases h
    | some q=>
     obtain ⟨k,w,s'⟩:=q
     rw [hg] at h
     dsimp only at h
     split at h
     ·rename_i hwe
      injection h with h
      subst h
      have hlen:s.L.length≤1000:=by obtain ⟨_,_,_,_,_,_,h5⟩:=hs;exact h5
      have:=(ih (.branch true { s with g:=s.g+1,p:=s.p+2 }) _ hg (List.isEmpty_iff.1 hwe) s.L (s.g+1) (dx _ _ hlen)).2
      exact jr hs (uA (s:={ s' with p:=s'.p+2,cl:=Arr.set s'.cl (s.g+1) true }) this hk)
     ·rename_i hwe
      injection h with h
      subst h
      exact absurd (List.isEmpty_iff.2 hw) hwe
end Go.Proofs.YtnbceeholnkfeaaGreatDoor
namespace Go.Proofs.YtnbceeholnkfeaaGreatDoor
def kH (q:Res):RE:=match q.2.1 with
 | []=>((q.2.2.L,(q.2.2.g:Int)),0,0)
 | y :: _=>(([],0),y.1,y.2)
theorem pp {b:List UInt8} {m:Nat} {q:Res} (hq:go b m (.branch false pz0)=some q) (hw:q.2.1=[]):eC q.2.2.L q.2.2.g=true∧q.1=(q.2.2.L.length:Int) - 1∧1≤q.2.2.L.length∧q.2.2.L.length≤1000:=
 uB (BJ b m _ q hq hw [] 0 (dx [] 0 (by simp))).2 (jK b m _ q hq ⟨Nat.zero_le _,Nat.zero_le _,trivial⟩ hw).1.2.2
theorem pq (b:List UInt8) (hb:b.length≤40000000) (m:Nat) (hm:m≤500000000) (q:Res) (hq:go b m (.branch false pz0)=some q):mh b (kH q):=by
 have hj:jJ b (.branch false pz0):=⟨Nat.zero_le _,Nat.zero_le _,trivial⟩
 refine ⟨rs b q,⟨_,_,_,_,_,Dz b hb,m,pz0,hm,q,rfl,hj,hq,rfl⟩,?_⟩
 obtain ⟨k,w,s⟩:=q
 cases w with
 | cons y t=>exact ab (fun _=>⟨y,t,rfl,rfl⟩) fun h=>absurd (by show ¬ (List.isEmpty (y :: t))=true;simp) h
 | nil=>
  refine ab (fun h=>absurd rfl h) fun _=>?_
  obtain ⟨h1,h2,h3,h4⟩:=pp hq rfl
  have h1:eC s.L s.g=true:=h1
  have h2:k=(s.L.length:Int) - 1:=h2
  have h3:1≤s.L.length:=h3
  have h4:s.L.length≤1000:=h4
  refine ⟨((s.L,(s.g:Int)),true),?_,ab (fun h=>absurd rfl h) fun _=>rfl⟩
  show il k (s.ps b) (decide (k<0) || decide ((s.L.length:Int)≤k)) _
  rw [decide_eq_false (by omega),decide_eq_false (by omega)]
  refine ab (fun h=>by cases h) fun _=>⟨iH (by omega) (by omega),⟨by omega,by show k+1≤(s.L.length:Int);omega⟩,s.L,?_,true,?_,ab (fun h=>absurd rfl h) fun _=>rfl⟩
  ·show fY (s.L.take (k+1).toNat) s.L
   rw [show (k+1).toNat=s.L.length by omega,List.take_length]
   exact uC s.L (by omega)
  ·show fk (s.L,(s.g:Int)) true
   rw [← h1];exact nt s.L s.g
end Go.Proofs.YtnbceeholnkfeaaGreatDoor
