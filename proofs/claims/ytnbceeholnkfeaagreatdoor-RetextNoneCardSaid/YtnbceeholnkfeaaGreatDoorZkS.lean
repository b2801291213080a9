/- The document's reader of basic regular expressions comes to where the program's does. -/
import Derived.Test.YtnbceeholnkfeaaGreatDoorEqS
import Derived.Test.YtnbceeholnkfeaaGreatDoorBqD
namespace Go.Proofs.YtnbceeholnkfeaaGreatDoor
def iU (b:List UInt8) (q:Res):RS8:=match q.2.1 with
 | []=>rst b q.2.2 (q.2.2.p:Int) 0
 | y :: _=>rst b q.2.2 y.1 y.2
def nG (q:Res) (k:Int):Prop:=(q.2.1=[]∧k=q.1)∨∃ y:Int×Int,q.2.1=[y]∧y.2≠0
abbrev FP (r:Int×RS8):=fun (ag:Int×List UInt8×Int×Int×List ND×Int×Arr 10 Bool→Prop) (s:Int×List UInt8×Int×Int×List ND×Int×Arr 10 Bool)=>gX ag s.1 s.2.1 s.2.2.1 s.2.2.2.1 s.2.2.2.2.1 s.2.2.2.2.2.1 s.2.2.2.2.2.2 r
theorem yh (b:List UInt8) (s:Pz) (a e k:Int) (he:e≠0) (n:Nat):FP (k,rst b s a e) (LT (FP (k,rst b s a e)) n) (k,b,a,e,s.L,(s.g:Int),s.cl):=ab (fun h=>absurd h he) fun _=>rfl
theorem vT:∀ (l:List UInt8) (n:Int) (gr:Bool),0≤n→0≤(co n gr l).1
 | [],n,gr,h=>h
 | c :: t,n,gr,h=>by
  rw [fV]
  by_cases h1:48≤c.toNat∧c.toNat≤57
  ·rw [if_pos h1]
   refine vT t _ _ ?_
   split <;> omega
  ·rw [if_neg h1];exact h
theorem BG (b:List UInt8) (p:Nat):0≤(am b p).1:=by
 unfold am
 split
 ·exact Int.le_refl _
 ·split
  ·exact Int.le_refl _
  ·exact vT _ 0 false (Int.le_refl _)
theorem BH (b:List UInt8) (k:Int) (s:Pz) (hb:b.length≤40000000) (hp:s.p+2≤b.length) (h42:¬ aI b s.p [42]=true):
  (∃ z:Nat,(bh b (s.p+2)).2.2.1=(z:Int)∧z≤b.length∧(bh b (s.p+2)).2.2.2=true∧aI b z [92,125]=true∧aR b k s=okR (ah (4,k,0,(bh b (s.p+2)).1,(bh b (s.p+2)).2.1,0,aj) { s with p:=z+2 }))
  ∨((∃ s',aR b k s=(0,[((s.p:Int),13)],s')∧s'.L=s.L∧s'.g=s.g∧s'.cl=s.cl)∧((bh b (s.p+2)).2.2.2=false∨∃ z:Nat,(bh b (s.p+2)).2.2.1=(z:Int)∧z≤b.length∧aI b z [92,125]=false)):=by
 unfold aR bh
 rw [if_neg h42]
 by_cases h1:(am b (s.p+2)).2.2≠0
 ·rw [if_pos h1,if_pos h1]
  exact .inr ⟨⟨s,rfl,rfl,rfl,rfl⟩,.inl rfl⟩
 rw [if_neg h1,if_neg h1]
 obtain ⟨z,hz,hz1,hz2⟩:=eQ (Decidable.not_not.1 h1) hp
 have key:∀ (lo hi:Int) (a:Nat),a≤b.length→¬ (hi≠-1∧hi<lo)→(∃ w:Nat,((lo,hi,(a:Int),true):Int×Int×Int×Bool).2.2.1=(w:Int)∧w≤b.length∧true=true∧aI b w [92,125]=true∧dV b k lo hi s a=okR (ah (4,k,0,lo,hi,0,aj) { s with p:=w+2 }))∨((∃ s',dV b k lo hi s a=(0,[((s.p:Int),13)],s')∧s'.L=s.L∧s'.g=s.g∧s'.cl=s.cl)∧(true=false∨∃ w:Nat,((lo,hi,(a:Int),true):Int×Int×Int×Bool).2.2.1=(w:Int)∧w≤b.length∧aI b w [92,125]=false)):=fun lo hi a ha hh=>by
  have h2:(!(decide (hi= -1)) && decide (hi<lo))=false:=by
   rw [Bool.eq_false_iff]
   intro e
   simp only [Bool.and_eq_true,Bool.not_eq_true',decide_eq_false_iff_not,decide_eq_true_eq] at e
   exact hh e
  unfold dV
  rw [h2,Bool.or_false]
  cases h3:aI b a [92,125] with
  | true=>exact .inl ⟨a,rfl,ha,rfl,h3,by simp⟩
  | false=>exact .inr ⟨⟨{ s with p:=a },by simp,rfl,rfl,rfl⟩,.inr ⟨a,rfl,ha,h3⟩⟩
 rw [hz,Int.toNat_natCast]
 by_cases h2:b[z]? =some 44
 ·rw [if_pos h2,if_pos h2]
  have hl:=(List.getElem?_eq_some_iff.1 h2).1
  have h39:(am b (z+1)).2.2=0∨(am b (z+1)).2.2=9∨(am b (z+1)).2.2=3:=by
   unfold am
   split
   ·exact .inr (.inl rfl)
   ·split
    ·exact .inr (.inr rfl)
    ·exact .inl rfl
  rcases h39 with h3 | h3 | h3
  ·obtain ⟨w,hw,hw1,hw2⟩:=eQ h3 hl
   have hpos:0≤(am b (z+1)).1:=BG b (z+1)
   by_cases h4:(am b (z+1)).1<(am b (s.p+2)).1
   ·have c1:(am b (z+1)).2.2=3∨((am b (z+1)).2.2=0∧(am b (z+1)).1<(am b (s.p+2)).1):=.inr ⟨h3,h4⟩
    rw [if_pos c1,if_pos h3,hw,Int.toNat_natCast]
    refine .inr ⟨⟨{ s with p:=w },?_,rfl,rfl,rfl⟩,.inl rfl⟩
    unfold dV
    rw [if_pos (by rw [decide_eq_false (show ¬ (am b (z+1)).1= -1 by omega),decide_eq_true h4];simp)]
   ·have c1:¬ ((am b (z+1)).2.2=3∨((am b (z+1)).2.2=0∧(am b (z+1)).1<(am b (s.p+2)).1)):=by
     rintro (e | e)
     ·omega
     ·exact h4 e.2
    have c2:¬ (am b (z+1)).2.2≠0:=fun e=>e h3
    rw [if_neg c1,if_neg c2,if_pos h3,hw,Int.toNat_natCast]
    exact key _ _ w hw2 (fun e=>h4 e.2)
  ·have c1:¬ ((am b (z+1)).2.2=3∨((am b (z+1)).2.2=0∧(am b (z+1)).1<(am b (s.p+2)).1)):=by
    rintro (e | e)
    ·omega
    ·have:=e.1;omega
   have c2:(am b (z+1)).2.2≠0:=by omega
   have c3:¬ (am b (z+1)).2.2=0:=by omega
   rw [if_neg c1,if_pos c2,if_neg c3,if_pos h3]
   have:=key (am b (s.p+2)).1 (-1) (z+1) hl (fun e=>e.1 rfl)
   rw [show ((z+1:Nat):Int)=(z:Int)+1 by omega] at this
   exact this
  ·have c1:(am b (z+1)).2.2=3∨((am b (z+1)).2.2=0∧(am b (z+1)).1<(am b (s.p+2)).1):=.inl h3
   have c3:¬ (am b (z+1)).2.2=0:=by omega
   have c4:¬ (am b (z+1)).2.2=9:=by omega
   rw [if_pos c1,if_neg c3,if_neg c4]
   exact .inr ⟨⟨s,rfl,rfl,rfl,rfl⟩,.inl rfl⟩
 ·rw [if_neg h2,if_neg h2]
  exact key _ _ z hz2 (fun e=>by omega)
end Go.Proofs.YtnbceeholnkfeaaGreatDoor
namespace Go.Proofs.YtnbceeholnkfeaaGreatDoor
theorem nu {b:List UInt8} {k:Int} {w:List (Int×Int)} {s:Pz} (h:cb b k w s=false) (n:Nat):aL b n k w s=dI k w s:=by
 cases n with
 | zero=>rfl
 | succ n=>unfold aL;rw [h,if_neg (by decide)]
theorem BI (b:List UInt8) (hb:b.length≤40000000):∀ (n:Nat) (k:Int) (s:Pz),s.p≤b.length→b.length - s.p<n→s.g≤9→0≤k→
  ∃ k',(∃ m,FP (k',iU b (aL b n k [] s)) (LT (FP (k',iU b (aL b n k [] s))) m) (k,b,(s.p:Int),0,s.L,(s.g:Int),s.cl))∧nG (aL b n k [] s) k':=by
 intro n
 induction n with
 | zero=>intro k s _ h;omega
 | succ n ih=>
  intro k s hp hn hg hk
  have nx:∀ j:Nat,j≤10→ak (rst b s (s.p:Int) 0) (j:Int) (atB b (s.p+j)):=fun j hj=>dG b s s.p 0 j (by omega) hj
  have hin:∀ j:Nat,j≤10→InR ((s.p:Int)+(j:Int)):=fun j hj=>⟨by omega,by omega⟩
  have more_t:(aI b s.p [42]=true∨aI b s.p [92,123]=true)→cb b k [] s=true:=fun h=>by
   unfold cb
   rw [decide_eq_true hk]
   rcases h with h | h <;> rw [h] <;> simp
  have after:∀ (nd:ND) (s1:Pz) (a:Nat),s1.p=a→s1.g≤9→a≤b.length→s.p+1≤a→aL b (n+1) k [] s=aL b n (ah nd s1).1 [] (ah nd s1).2→
    (∀ (r:Int×RS8) (m:Nat) (e:Int),ap (rst b s1 (a:Int) 0) nd ((ah nd s1).1,rst b (ah nd s1).2 (a:Int) e)→LT (FP r) m ((ah nd s1).1,b,(a:Int),e,(ah nd s1).2.L,((ah nd s1).2.g:Int),(ah nd s1).2.cl)→FP r (LT (FP r) m) (k,b,(s.p:Int),0,s.L,(s.g:Int),s.cl))→
    ∃ k',(∃ m,FP (k',iU b (aL b (n+1) k [] s)) (LT (FP (k',iU b (aL b (n+1) k [] s))) m) (k,b,(s.p:Int),0,s.L,(s.g:Int),s.cl))∧nG (aL b (n+1) k [] s) k':=fun nd s1 a ha hg1 hal hap he step=>by
   obtain ⟨k1,e1,p1,rfl,p2,p3⟩:=ma b nd s1 (a:Int)
   obtain ⟨q1,q2,_⟩:=eK nd s1
   rw [he]
   by_cases hpos:0≤(ah nd s1).1
   ·obtain rfl:=p2 hpos
    obtain ⟨k',⟨m,hm⟩,h2⟩:=ih (ah nd s1).1 (ah nd s1).2 (by omega) (by omega) (by omega) hpos
    rw [q1,ha] at hm
    exact ⟨k',⟨m+1,step _ (m+1) 0 p1 (.inr hm)⟩,h2⟩
   ·obtain rfl:=p3 (by omega)
    have hneg:=nP hpos
    have hm:cb b (ah nd s1).1 [] (ah nd s1).2=false:=by
     unfold cb
     rw [decide_eq_false hpos];rfl
    rw [nu hm]
    have hend:dI (ah nd s1).1 [] (ah nd s1).2=((ah nd s1).1,[((a:Int),8)],(ah nd s1).2):=by
     unfold dI
     rw [decide_eq_true (show (ah nd s1).1<0 by omega),q1,ha];rfl
    rw [hend]
    refine ⟨(ah nd s1).1,⟨1,step _ 1 8 p1 (.inr ?_)⟩,.inr ⟨_,rfl,show (8:Int)≠0 by decide⟩⟩
    exact yh b (ah nd s1).2 (a:Int) 8 _ (by decide) 0
  by_cases h42:aI b s.p [42]=true
  ·have hl:s.p+1≤b.length:=di h42 (by simp)
   refine after (4,k,0,0,-1,0,aj) (adv s 1) (s.p+1) rfl hg hl (Nat.le_refl _) ?_ fun r m e hput hag=>?_
   ·show (if cb b k [] s=true then _ else _)=_
    rw [if_pos (more_t (.inl h42))]
    have:aR b k s=okR (ah (4,k,0,0,-1,0,aj) (adv s 1)):=by unfold aR;rw [if_pos h42]
    rw [this];rfl
   ·exact ab (fun _=>⟨_,nx 0 (by omega),ab (fun _=>au (hin 1 (by omega)) ⟨_,hput,hag⟩) fun h=>absurd ((vq b s.p 42).1 h42) h⟩) fun h=>absurd rfl h
  ·have n42:¬ atB b s.p=42:=fun h=>h42 ((vq b s.p 42).2 h)
   by_cases h123:aI b s.p [92,123]=true
   ·have hl:s.p+2≤b.length:=di h123 (by simp)
    obtain ⟨h92,h123'⟩:=(nl b s.p 92 123).1 h123
    have h92:atB b s.p=92:=h92
    have h123':atB b (s.p+1)=123:=h123'
    have pre:∀ (r:Int×RS8) (ag:Int×List UInt8×Int×Int×List ND×Int×Arr 10 Bool→Prop),((¬ ((bh b (s.p+2)).2.2.2=true)→aV k b (s.p:Int) s.L (s.g:Int) s.cl (bh b (s.p+2)) 0 ag true r)∧(¬ (¬ ((bh b (s.p+2)).2.2.2=true))→InR ((bh b (s.p+2)).2.2.1+1)∧(((b.length:Int)≤((bh b (s.p+2)).2.2.1+1)→aV k b (s.p:Int) s.L (s.g:Int) s.cl (bh b (s.p+2)) 0 ag true r)∧(¬ ((b.length:Int)≤((bh b (s.p+2)).2.2.1+1))→0≤((bh b (s.p+2)).2.2.1:Int)∧∃ y931:UInt8,b[((bh b (s.p+2)).2.2.1:Int).toNat]? =some y931∧((¬ ((y931.toNat:Int)=92)→aV k b (s.p:Int) s.L (s.g:Int) s.cl (bh b (s.p+2)) 0 ag true r)∧(¬ (¬ ((y931.toNat:Int)=92))→InR ((bh b (s.p+2)).2.2.1+1)∧0≤(((bh b (s.p+2)).2.2.1+1):Int)∧∃ y936:UInt8,b[(((bh b (s.p+2)).2.2.1+1):Int).toNat]? =some y936∧aV k b (s.p:Int) s.L (s.g:Int) s.cl (bh b (s.p+2)) 0 ag (!(decide ((y936.toNat:Int)=125))) r))))))→
      FP r ag (k,b,(s.p:Int),0,s.L,(s.g:Int),s.cl):=fun r ag h=>by
     refine ab (fun _=>⟨_,nx 0 (by omega),ab (fun e=>absurd e n42) fun _=>⟨_,nx 0 (by omega),ab (fun e=>absurd h92 e) fun _=>⟨_,nx 1 (by omega),ab (fun e=>absurd h123' e) fun _=>au (hin 2 (by omega)) ⟨bh b (s.p+2),?_,h⟩⟩⟩⟩) fun h=>absurd rfl h
     exact vp b s (s.p:Int) 0 (s.p+2) hb hl
    rcases BH b k s hb hl h42 with ⟨z,hz,hzl,hok,h125,he⟩| ⟨⟨s',he,e1,e2,e3⟩,hno⟩
    ·have hz2:z+2≤b.length:=di h125 (by simp)
     have hat:=kr (k:=k) hp hg (.inr h123) (by rw [he];rfl)
     rw [he] at hat
     have hp1:s.p+1≤z+2:=by
      have:=hat.1
      obtain ⟨q1,_,_⟩:=eK (4,k,0,(bh b (s.p+2)).1,(bh b (s.p+2)).2.1,0,aj) { s with p:=z+2 }
      have this:s.p+1≤(ah (4,k,0,(bh b (s.p+2)).1,(bh b (s.p+2)).2.1,0,aj) { s with p:=z+2 }).2.p:=this
      rw [q1] at this
      exact this
     refine after (4,k,0,(bh b (s.p+2)).1,(bh b (s.p+2)).2.1,0,aj) { s with p:=z+2 } (z+2) rfl hg hz2 hp1 ?_ fun r m e hput hag=>pre r _ ?_
     ·show (if cb b k [] s=true then _ else _)=_
      rw [if_pos (more_t (.inr h123)),he];rfl
     ·obtain ⟨c92,c125⟩:=(nl b z 92 125).1 h125
      obtain ⟨x,hx⟩:∃ x,b[z]? =some x:=⟨_,List.getElem?_eq_getElem (by omega)⟩
      obtain ⟨y,hy⟩:∃ y,b[z+1]? =some y:=⟨_,List.getElem?_eq_getElem (by omega)⟩
      rw [bL hx] at c92;rw [bL hy] at c125
      rw [hz]
      refine ab (fun h=>absurd hok h) fun _=>au (by omega) (ab (fun h=>by omega) fun _=>⟨by omega,x,by rw [Int.toNat_natCast];exact hx,ab (fun h=>absurd c92 h) fun _=>au (by omega) ⟨by omega,y,by rw [show ((z:Int)+1).toNat=z+1 by omega];exact hy,?_⟩⟩)
      have c125:(y.toNat:Int)=125:=c125
      rw [decide_eq_true c125]
      refine ab (fun h=>by cases h) fun _=>au (by show -9223372036854775808≤(bh b (s.p+2)).2.2.1+2∧(bh b (s.p+2)).2.2.1+2≤_;rw [hz];omega) ?_
      rw [hz]
      exact ⟨_,hput,hag⟩
    ·have hr:aL b (n+1) k [] s=(0,[((s.p:Int),13)],s'):=by
      show (if cb b k [] s=true then _ else _)=_
      rw [if_pos (more_t (.inr h123)),he]
      exact nu rfl n
     rw [hr]
     refine ⟨k,⟨0,pre _ _ ?_⟩,.inr ⟨_,rfl,show (13:Int)≠0 by decide⟩⟩
     have j9:∀ x:Bool,x=true→∀ ag,aV k b (s.p:Int) s.L (s.g:Int) s.cl (bh b (s.p+2)) 0 ag x (k,iU b ((0,[((s.p:Int),13)],s'):Res)):=fun x hx ag=>by
      refine ab (fun _=>?_) fun h=>absurd hx h
      show (k,rst b s' (s.p:Int) 13)=(k,rst b s (s.p:Int) 13)
      unfold rst
      rw [e1,e2,e3]
     rcases hno with hno | ⟨z,hz,hzl,hno⟩
     ·exact ab (fun _=>j9 true rfl _) fun h=>absurd (by rw [hno];decide) h
     ·rw [hz]
      refine ab (fun _=>j9 true rfl _) fun _=>au (by omega) (ab (fun _=>j9 true rfl _) fun h5=>?_)
      obtain ⟨x,hx⟩:∃ x,b[z]? =some x:=⟨_,List.getElem?_eq_getElem (by omega)⟩
      obtain ⟨y,hy⟩:∃ y,b[z+1]? =some y:=⟨_,List.getElem?_eq_getElem (by omega)⟩
      refine ⟨by omega,x,by rw [Int.toNat_natCast];exact hx,ab (fun _=>j9 true rfl _) fun h6=>au (by omega) ⟨by omega,y,by rw [show ((z:Int)+1).toNat=z+1 by omega];exact hy,j9 _ ?_ _⟩⟩
      by_cases h7:(y.toNat:Int)=125
      ·have:=(nl b z 92 125).2 ⟨by rw [bL hx];exact Decidable.not_not.1 h6,by rw [bL hy];exact h7⟩
       rw [hno] at this;cases this
      ·rw [decide_eq_false h7];rfl
   ·have hr:aL b (n+1) k [] s=(k,[],s):=by
     have hm:cb b k [] s=false:=by
      unfold cb
      rw [show aI b s.p [42]=false by simpa using h42,show aI b s.p [92,123]=false by simpa using h123];simp
     rw [nu hm]
     unfold dI
     rw [decide_eq_false (by omega)];rfl
    rw [hr]
    refine ⟨k,⟨0,ab (fun _=>⟨_,nx 0 (by omega),ab (fun e=>absurd e n42) fun _=>⟨_,nx 0 (by omega),ab (fun _=>rfl) fun h92=>⟨_,nx 1 (by omega),ab (fun _=>rfl) fun h1=>?_⟩⟩⟩) fun h=>absurd rfl h⟩,.inl ⟨rfl,rfl⟩⟩
    exact absurd ((nl b s.p 92 123).2 ⟨Decidable.not_not.1 h92,Decidable.not_not.1 h1⟩) h123
def kC (b:List UInt8) (q:Res) (k:Int) (st:RS8):Prop:=
 (q.2.1=[]∧0≤q.1∧k=q.1∧st=rst b q.2.2 (q.2.2.p:Int) 0)∨(q.2.1=[]∧q.1<0∧k=q.1∧st=rst b q.2.2 (q.2.2.p:Int) 8)∨∃ y:Int×Int,q.2.1=[y]∧y.2≠0∧st=rst b q.2.2 y.1 y.2
theorem zT (b:List UInt8) (hb:b.length≤40000000) (q:Res) (k:Int) (st:RS8) (h:kC b q k st) (hat:q.2.1=[]→q.2.2.p≤b.length∧q.2.2.g≤9):
  ∃ k',bF k st.1 st.2.1 st.2.2.1 st.2.2.2.1.1 st.2.2.2.1.2 st.2.2.2.2 (k',iU b (jn b q))∧nG (jn b q) k':=by
 obtain ⟨k0,w,s⟩:=q
 rcases h with ⟨h1,h2,hk,rfl⟩| ⟨h1,h2,hk,rfl⟩| ⟨y,h1,h2,rfl⟩
 ·have h1:w=[]:=h1
  have hk:k=k0:=hk
  subst h1;subst hk
  obtain ⟨a1,a2⟩:=hat rfl
  obtain ⟨k',⟨m,hm⟩,h3⟩:=BI b hb (b.length+1) k s a1 (by omega) a2 h2
  exact ⟨k',ee m hm,h3⟩
 ·have h1:w=[]:=h1
  have hk:k=k0:=hk
  subst h1;subst hk
  have h2:k<0:=h2
  have hm:cb b k [] s=false:=by unfold cb;rw [decide_eq_false (by omega)];rfl
  have hr:jn b ((k,[],s):Res)=(k,[((s.p:Int),8)],s):=by
   show aL b (b.length+1) k [] s=_
   rw [nu hm];unfold dI;rw [decide_eq_true h2];rfl
  rw [hr]
  exact ⟨k,ee 0 (yh b s (s.p:Int) 8 k (by decide) 0),.inr ⟨_,rfl,show (8:Int)≠0 by decide⟩⟩
 ·have h1:w=[y]:=h1
  subst h1
  have hm:cb b k0 [y] s=false:=rfl
  have hr:jn b ((k0,[y],s):Res)=(k0,[y],s):=by
   show aL b (b.length+1) k0 [y] s=_
   rw [nu hm];rfl
  rw [hr]
  exact ⟨k,ee 0 (yh b s y.1 y.2 k h2 0),.inr ⟨y,rfl,h2⟩⟩
end Go.Proofs.YtnbceeholnkfeaaGreatDoor
namespace Go.Proofs.YtnbceeholnkfeaaGreatDoor
abbrev J2 (k:Int) (st:RS8) (r:Int×RS8):Prop:=bF k st.1 st.2.1 st.2.2.1 st.2.2.2.1.1 st.2.2.2.1.2 st.2.2.2.2 r
def sF (b:List UInt8) (s:Pz) (q:Res) (c7:PG):Prop:=∃ k st,kC b q k st∧∀ r,J2 k st r→bH (rst b s (s.p:Int) 0) (atB b s.p) c7 false r
theorem oB (b:List UInt8) (nd:ND) (s1:Pz) (a:Int) (ha:a=(s1.p:Int)):∃ k st,ap (rst b s1 a 0) nd (k,st)∧kC b (okR (ah nd s1)) k st:=by
 subst ha
 obtain ⟨k,e,h1,h2,h3,h4⟩:=ma b nd s1 (s1.p:Int)
 obtain ⟨q1,_,_⟩:=eK nd s1
 refine ⟨k,_,h1,?_⟩
 by_cases hk:0≤(ah nd s1).1
 ·refine .inl ⟨rfl,hk,h2,?_⟩
  rw [h3 hk]
  show _=rst b (ah nd s1).2 ((ah nd s1).2.p:Int) 0
  rw [q1]
 ·refine .inr (.inl ⟨rfl,by show (ah nd s1).1<0;omega,h2,?_⟩)
  rw [h4 (by omega)]
  show _=rst b (ah nd s1).2 ((ah nd s1).2.p:Int) 8
  rw [q1]
theorem qe (b:List UInt8) (s:Pz) (e:Int) (he:e≠0) (k:Int):kC b (noR s e) k (rst b s (s.p:Int) e):=.inr (.inr ⟨((s.p:Int),e),rfl,he,rfl⟩)
theorem wY (b:List UInt8) (s:Pz) (S:ay) (hp:s.p≤500000000) (r:Int×RS8) (h36:atB b s.p=36) (h:bW (rst b s (s.p:Int) 0) S (fG b s.p) r):bG 36 (rst b s (s.p:Int) 0) S r:=by
 refine ab (fun _=>⟨_,dG b s s.p 0 1 hp (by omega),ab (fun h1=>?_) fun h1=>⟨_,dG b s s.p 0 1 hp (by omega),ab (fun h2=>⟨_,dG b s s.p 0 2 hp (by omega),?_⟩) fun h2=>?_⟩⟩) fun h=>absurd rfl h
 ·have hl:s.p<b.length:=kM (by rw [h36];decide)
  have:b.length≤s.p+1:=by
   rcases Nat.lt_or_ge (s.p+1) b.length with h3 | h3
   ·have:atB b (s.p+1)=(b[s.p+1].toNat:Int):=bL (List.getElem?_eq_getElem h3)
    omega
   ·exact h3
  have e:fG b s.p=true:=by unfold fG;rw [decide_eq_true (by omega)];rfl
  rw [e] at h;exact h
 all_goals
  have hl:s.p+1<b.length:=kM (by omega)
  have e:fG b s.p=decide (aI b (s.p+1) [92,41]=true):=by
   unfold fG
   rw [decide_eq_false (by omega),Bool.false_or]
   obtain ⟨x,hx⟩:∃ x,b[s.p]? =some x:=⟨_,List.getElem?_eq_getElem (by omega)⟩
   rw [bL hx] at h36
   have hx36:x=36:=cj h36
   subst hx36
   unfold aI
   rw [bY hx]
   simp
  rw [e] at h
 ·by_cases h3:atB b (s.p+2)=41
  ·rw [decide_eq_true ((nl b (s.p+1) 92 41).2 ⟨h2,h3⟩)] at h
   rw [decide_eq_true h3];exact h
  ·rw [decide_eq_false (fun e=>h3 ((nl b (s.p+1) 92 41).1 e).2)] at h
   rw [decide_eq_false h3];exact h
 ·rw [decide_eq_false (fun e=>h2 ((nl b (s.p+1) 92 41).1 e).1)] at h
  exact h
theorem qJ (b:List UInt8) (s:Pz) (hp:s.p+1≤40000000) (kind:Int) (S:ay):∃ k st,kC b (okR (ah (kind,0,0,0,0,0,S) (adv s 1))) k st∧∀ r,J2 k st r→cA (rst b s (s.p:Int) 0) kind S r:=by
 obtain ⟨k,st,h1,h2⟩:=oB b (kind,0,0,0,0,0,S) (adv s 1) ((s.p:Int)+1) (by show _=((s.p+1:Nat):Int);omega)
 exact ⟨k,st,h2,fun r hr=>au (by show -9223372036854775808≤(s.p:Int)+1∧(s.p:Int)+1≤_;omega) ⟨(k,st),h1,hr⟩⟩
theorem vU (b:List UInt8) (hb:b.length≤40000000) (s:Pz) (c:UInt8) (hc:b[s.p]? =some c) (h92:c.toNat≠92) (c7:PG) (n:Nat) (q:Res) (hq:go b (n+1) (.atom s)=some q):sF b s q c7:=by
 have hl:s.p<b.length:=(List.getElem?_eq_some_iff.1 hc).1
 have hat:atB b s.p=(c.toNat:Int):=bL hc
 have hcl:c.toNat<256:=c.toNat_lt
 unfold go at hq
 rw [hc] at hq
 dsimp only at hq
 rw [if_neg h92] at hq
 unfold sF
 rw [hat]
 have pre:∀ r:Int×RS8,((c.toNat=91→∃ y165,cr (rst b s (s.p:Int) 0) y165∧J2 y165.1 y165.2 r)∧(c.toNat≠91→(c.toNat=46→bG 46 (rst b s (s.p:Int) 0) (fI z4) r)∧(c.toNat≠46→bG (c.toNat:Int) (rst b s (s.p:Int) 0) (ofS [c]) r)))→bH (rst b s (s.p:Int) 0) (c.toNat:Int) c7 false r:=fun r h=>by
  refine ab (fun h=>by cases h) fun _=>ab (fun h=>by omega) fun _=>ab (fun h=>by cases h) fun _=>ab (fun h=>by omega) fun _=>ab (fun h1=>?_) fun h1=>iu (by omega) fun d hd=>?_
  ·exact h.1 (by omega)
  ·obtain rfl:=cj hd
   refine ⟨_,nk d,ab (fun h2=>⟨_,zn,?_⟩) fun h2=>?_⟩
   ·have:=(h.2 (by omega)).1 (by omega)
    rw [h2];exact this
   ·exact (h.2 (by omega)).2 (by omega)
 have j4no:∀ (y:Int) (S:ay) (r:Int×RS8),y≠36→cA (rst b s (s.p:Int) 0) 1 S r→bG y (rst b s (s.p:Int) 0) S r:=fun y S r hy h=>ab (fun e=>absurd e hy) fun _=>ab (fun e=>by cases e) fun _=>h
 by_cases h46:c.toNat=46
 ·rw [if_pos h46] at hq
  injection hq with hq
  subst hq
  obtain ⟨k,st,h1,h2⟩:=qJ b s (by omega) 1 (fI z4)
  exact ⟨k,st,h1,fun r hr=>pre r ⟨fun h=>by omega,fun _=>⟨fun _=>j4no 46 _ r (by decide) (h2 r hr),fun h=>absurd h46 h⟩⟩⟩
 rw [if_neg h46] at hq
 by_cases h91:c.toNat=91
 ·rw [if_pos h91] at hq
  have hpr:=tS b (s.p+1) hb hl
  have hin:InR ((s.p:Int)+1):=⟨by omega,by omega⟩
  by_cases he:(bn b (s.p+1)).2.2=0
  ·rw [if_pos he] at hq
   injection hq with hq
   subst hq
   obtain ⟨z,hz,hz1,hz2⟩:=fJ he hl
   obtain ⟨k,st,h1,h2⟩:=oB b (cn (bn b (s.p+1)).1) { s with p:=(bn b (s.p+1)).2.1.toNat } (bn b (s.p+1)).2.1 (by show _=(((bn b (s.p+1)).2.1.toNat:Nat):Int);omega)
   exact ⟨k,st,h2,fun r hr=>pre r ⟨fun _=>⟨(k,st),au hin ⟨_,hpr,ab (fun h=>absurd he h) fun _=>⟨_,h1,rfl⟩⟩,hr⟩,fun h=>absurd h91 h⟩⟩
  ·rw [if_neg he] at hq
   injection hq with hq
   subst hq
   exact ⟨0,_,qe b s _ he 0,fun r hr=>pre r ⟨fun _=>⟨(0,_),au hin ⟨_,hpr,ab (fun _=>rfl) fun h=>absurd he h⟩,hr⟩,fun h=>absurd h91 h⟩⟩
 rw [if_neg h91] at hq
 by_cases h36:c.toNat=36
 ·cases hE:fG b s.p with
  | true=>
   rw [if_pos ⟨h36,hE⟩] at hq
   injection hq with hq
   subst hq
   obtain ⟨k,st,h1,h2⟩:=qJ b s (by omega) 8 z4
   refine ⟨k,st,h1,fun r hr=>pre r ⟨fun h=>absurd h h91,fun _=>⟨fun h=>absurd h h46,fun _=>?_⟩⟩⟩
   rw [show (c.toNat:Int)=36 by omega]
   refine wY b s _ (by omega) r (by rw [hat];omega) ?_
   rw [hE]
   exact ab (fun _=>h2 r hr) fun h=>absurd rfl h
  | false=>
   rw [if_neg (by rw [hE];simp)] at hq
   injection hq with hq
   subst hq
   obtain ⟨k,st,h1,h2⟩:=qJ b s (by omega) 1 (ofS [c])
   refine ⟨k,st,h1,fun r hr=>pre r ⟨fun h=>absurd h h91,fun _=>⟨fun h=>absurd h h46,fun _=>?_⟩⟩⟩
   rw [show (c.toNat:Int)=36 by omega]
   refine wY b s _ (by omega) r (by rw [hat];omega) ?_
   rw [hE]
   exact ab (fun h=>by cases h) fun _=>h2 r hr
 ·rw [if_neg (fun e=>h36 e.1)] at hq
  injection hq with hq
  subst hq
  obtain ⟨k,st,h1,h2⟩:=qJ b s (by omega) 1 (ofS [c])
  exact ⟨k,st,h1,fun r hr=>pre r ⟨fun h=>absurd h h91,fun _=>⟨fun h=>absurd h h46,fun _=>j4no _ _ r (by omega) (h2 r hr)⟩⟩⟩
theorem Ds (b:List UInt8) (hb:b.length≤40000000) (s:Pz) (hc:atB b s.p=92) (h40:atB b (s.p+1)≠40) (n:Nat) (q:Res) (hq:go b (n+1) (.escape s)=some q):∃ k st,kC b q k st∧a8 (rst b s (s.p:Int) 0) (k,st):=by
 have hl:s.p<b.length:=kM (by rw [hc];decide)
 have nx:=dG b s s.p 0 1 (by omega) (by omega)
 have hin:InR ((s.p:Int)+2):=⟨by omega,by omega⟩
 unfold go at hq
 cases h1:b[s.p+1]? with
 | none=>
  rw [h1] at hq
  injection hq with hq
  subst hq
  have ha:atB b (s.p+1)= -1:=by unfold atB;rw [h1]
  rw [ha] at nx
  exact ⟨0,_,qe b s 10 (by decide) 0,-1,nx,ab (fun h=>by cases h) fun _=>ab (fun _=>ab (fun _=>rfl) fun h=>absurd rfl h) fun h=>absurd (by decide) h⟩
 | some c=>
  have ha:atB b (s.p+1)=(c.toNat:Int):=bL h1
  rw [h1] at hq
  rw [ha] at nx h40
  dsimp only at hq
  have hcl:c.toNat<256:=c.toNat_lt
  rw [if_neg (by omega)] at hq
  by_cases hd:49≤c.toNat∧c.toNat≤57
  ·rw [if_pos hd] at hq
   have hlen:s.cl.l.length=10:=s.cl.len
   obtain ⟨y,hy⟩:∃ y,s.cl.l[c.toNat - 48]? =some y:=⟨_,List.getElem?_eq_getElem (by omega)⟩
   have e48:((c.toNat:Int) - 48).toNat=c.toNat - 48:=by omega
   have hj:∀ kk st,(y=true→∃ y45:Int×RS8,ap (rst b s ((s.p:Int)+2) 0) (6,0,0,0,0,(c.toNat:Int) - 48,z4) y45∧(kk,st)=(y45.1,y45.2))→(y≠true→(kk,st)=((0:Int),rst b s (s.p:Int) 16))→a8 (rst b s (s.p:Int) 0) (kk,st):=fun kk st f g=>by
    refine ⟨_,nx,?_⟩
    rw [decide_eq_true (show (49:Int)≤(c.toNat:Int) by omega),decide_eq_true (show (c.toNat:Int)≤57 by omega)]
    refine ab (fun _=>au (by omega) ⟨⟨by omega,by omega⟩,y,by rw [e48];exact hy,ab (fun h=>?_) fun h=>au hin (au (by omega) ?_)⟩) fun h=>absurd rfl h
    ·exact g h
    ·exact f (by simpa using h)
   rw [hy] at hq
   cases y with
   | true=>
    rw [if_pos rfl] at hq
    injection hq with hq
    subst hq
    obtain ⟨k,st,h2,h3⟩:=oB b (6,0,0,0,0,(c.toNat:Int) - 48,aj) (adv s 2) ((s.p:Int)+2) (by show _=((s.p+2:Nat):Int);omega)
    exact ⟨k,st,h3,hj k st (fun _=>⟨_,h2,rfl⟩) fun h=>absurd rfl h⟩
   | false=>
    rw [if_neg (by simp)] at hq
    injection hq with hq
    subst hq
    exact ⟨0,_,qe b s 16 (by decide) 0,hj 0 _ (fun h=>by cases h) fun _=>rfl⟩
  ·rw [if_neg hd] at hq
   have hdd:(decide (49≤(c.toNat:Int)) && decide ((c.toNat:Int)≤57))=false:=by
    rw [Bool.eq_false_iff]
    intro e
    simp only [Bool.and_eq_true,decide_eq_true_eq] at e
    omega
   have hj:∀ r,cp (rst b s (s.p:Int) 0) (c.toNat:Int) (lI c.toNat && !(decide ((c.toNat:Int)=110))) r→a8 (rst b s (s.p:Int) 0) r:=fun r h=>by
    refine ⟨_,nx,?_⟩
    rw [hdd]
    exact ab (fun h=>by cases h) fun _=>ab (fun h=>by omega) fun _=>⟨_,vo c,h⟩
   have hput:∀ (d:UInt8) (x:Int),x=(d.toNat:Int)→∃ k st,kC b (kF d (adv s 1)) k st∧de (rst b s (s.p:Int) 0) x (k,st):=fun d x hx=>by
    have hdl:d.toNat<256:=d.toNat_lt
    obtain ⟨k,st,h2,h3⟩:=oB b (cn (ofS [d])) (adv (adv s 1) 1) ((s.p:Int)+2) (by show _=((s.p+1+1:Nat):Int);omega)
    refine ⟨k,st,h3,au hin (iu (by omega) fun d' hd'=>?_)⟩
    obtain rfl:=cj (hd'.trans hx)
    exact ⟨_,nk d',_,h2,rfl⟩
   by_cases h110:c.toNat=110
   ·rw [if_pos h110] at hq
    injection hq with hq
    subst hq
    obtain ⟨k,st,h2,h3⟩:=hput 10 10 rfl
    refine ⟨k,st,h2,hj _ ?_⟩
    rw [decide_eq_true (show (c.toNat:Int)=110 by omega),Bool.not_true,Bool.and_false]
    exact ab (fun h=>by cases h) fun _=>ab (fun _=>h3) fun h=>absurd (by omega) h
   ·rw [if_neg h110] at hq
    cases hal:lI c.toNat with
    | true=>
     rw [if_pos hal] at hq
     injection hq with hq
     subst hq
     refine ⟨0,_,qe b s 10 (by decide) 0,hj _ ?_⟩
     rw [hal,decide_eq_false (show ¬ (c.toNat:Int)=110 by omega)]
     exact ab (fun _=>rfl) fun h=>absurd rfl h
    | false=>
     rw [if_neg (by rw [hal];simp)] at hq
     injection hq with hq
     subst hq
     obtain ⟨k,st,h2,h3⟩:=hput c (c.toNat:Int) rfl
     refine ⟨k,st,h2,hj _ ?_⟩
     rw [hal]
     exact ab (fun h=>by cases h) fun _=>ab (fun h=>absurd h (by omega)) fun _=>h3
end Go.Proofs.YtnbceeholnkfeaaGreatDoor
namespace Go.Proofs.YtnbceeholnkfeaaGreatDoor
theorem rF {n N : Nat} (h : n ≤ N) : (∀ o x r, (TT n).2.2.2.1 o x r → (TT N).2.2.2.1 o x r) ∧ (∀ o x r, (TT n).2.2.2.2 o x r → (TT N).2.2.2.2 o x r) ∧ (∀ o x y r, (TT n).2.2.1 o x y r → (TT N).2.2.1 o x y r) := by
  induction N with
  | zero => obtain rfl : n = 0 := by omega
            exact ⟨fun _ _ _ h => h, fun _ _ _ h => h, fun _ _ _ _ h => h⟩
  | succ N ih =>
    rcases (by omega : n ≤ N ∨ n = N + 1) with h1 | rfl
    · obtain ⟨a, b, c⟩ := ih h1
      exact ⟨fun o x r h => .inl (a o x r h), fun o x r h => .inl (b o x r h), fun o x y r h => .inl (c o x y r h)⟩
    · exact ⟨fun _ _ _ h => h, fun _ _ _ h => h, fun _ _ _ _ h => h⟩
abbrev SB:=List Int×Int×List UInt8×Int×Int×List ND×Int×Arr 10 Bool
abbrev FB (c5:PB) (x3:Bool) (r:Int×RS8):=fun (ag:SB→Prop) (s:SB)=>gJ c5 x3 ag s.1 s.2.1 s.2.2.1 s.2.2.2.1 s.2.2.2.2.1 s.2.2.2.2.2.1 s.2.2.2.2.2.2.1 s.2.2.2.2.2.2.2 r
def ED (b:List UInt8) (n:Nat) (j:Job) (q:Res):Prop:=match j with
 | .branch inner s=>∃ k,(TT n).2.2.2.1 (rst b s (s.p:Int) 0) inner (k,iU b q)∧nG q k
 | .loop inner l f s=>∀ i:Nat,i≤s.p→l.length≤i+1→(f=true↔i=0)→(∃ L g,Gr L g s.L s.g l)→∀ N,n≤N→∃ k,(∃ m,FB (TT N).2.2.2.2 inner (k,iU b q) (LT (FB (TT N).2.2.2.2 inner (k,iU b q)) m) (l,(i:Int),b,(s.p:Int),0,s.L,(s.g:Int),s.cl))∧nG q k
 | .piece f s=>∃ k,(TT n).2.2.2.2 (rst b s (s.p:Int) 0) f (k,iU b q)∧nG q k
 | .atom s=>∀ N,n≤N→sF b s q (TT N).2.2.1
 | .escape s=>atB b s.p=92→∀ N,n≤N→sF b s q (TT N).2.2.1
 | .group s=>∃ k st,(TT n).2.2.1 (rst b s (s.p:Int) 0) 2 true (k,st)∧kC b q k st
theorem Ca (c5:PB) (x3:Bool) (b:List UInt8) (s:Pz) (l:List Int) (i a e:Int) (he:e≠0) (ag:SB→Prop):FB c5 x3 (0,rst b s a e) ag (l,i,b,a,e,s.L,(s.g:Int),s.cl):=
 ab (fun h=>absurd h he) fun _=>ab (fun h=>by cases h) fun _=>ab (fun _=>rfl) fun h=>absurd he h
theorem wZ {q:Res} {k:Int} (h:nG q k) (hw:q.2.1≠[]):∃ y:Int×Int,q.2.1=[y]∧y.2≠0:=by
 rcases h with h | h
 ·exact absurd h.1 hw
 ·exact h
theorem w5 {q:Res} {k:Int} (h:nG q k) (hw:q.2.1=[]):k=q.1:=by
 rcases h with h | ⟨y,h,_⟩
 ·exact h.2
 ·rw [h] at hw;cases hw
theorem zU (b:List UInt8) (s:Pz) (hp:s.p≤500000000) (c7:PG) (h92:atB b s.p=92) (r:Int×RS8) (h:dl c7 (rst b s (s.p:Int) 0) 92 (decide (atB b (s.p+1)=40)) r):bH (rst b s (s.p:Int) 0) (atB b s.p) c7 false r:=by
 rw [h92]
 exact ab (fun h=>by cases h) fun _=>ab (fun _=>⟨_,dG b s s.p 0 1 hp (by omega),h⟩) fun h=>absurd rfl h
theorem vV (b:List UInt8) (hb:b.length≤40000000):∀ (n:Nat) (j:Job) (q:Res),go b n j=some q→jJ b j→j.s.L.length≤1000→ED b n j q:=by
 intro n
 induction n with
 | zero=>intro j r h;cases h
 | succ n ih=>
  intro j q h hj hL
  obtain ⟨j1,j2,j3⟩:=hj
  obtain ⟨mn1,mn2,mn3⟩:=rF (Nat.le_succ n)
  cases j with
  | branch inner s=>
   have j1:s.p≤b.length:=j1
   have j2:s.g≤9:=j2
   have hL:s.L.length≤1000:=hL
   have nx:=dG b s s.p 0 0 (by omega) (by omega)
   unfold go at h
   split at h
   ·rename_i h1
    have hl:=di h1 (by simp)
    have hl:s.p+1≤b.length:=hl
    have h94:atB b (s.p+0)=94:=(vq b s.p 94).1 h1
    rw [h94] at nx
    obtain ⟨k1,e1,p1,rfl,p2,p3⟩:=ma b (7,0,0,0,0,0,aj) s (s.p:Int)
    have hin:InR ((s.p:Int)+1):=⟨by omega,by omega⟩
    have hadv:ah (7,0,0,0,0,0,aj) (adv s 1)=((ah (7,0,0,0,0,0,aj) s).1,adv (ah (7,0,0,0,0,0,aj) s).2 1):=by
     unfold ah adv
     dsimp only
     split
     ·rfl
     ·split <;> rfl
    rw [hadv] at h
    dsimp only at h
    split at h
    ·rename_i hneg
     obtain rfl:=p3 hneg
     injection h with h
     subst h
     obtain ⟨q1,_,_⟩:=eK (7,0,0,0,0,0,aj) s
     refine ⟨0,.inr ⟨_,nx,ab (fun _=>⟨_,p1,dD (by show 0+1≤_;omega) (by omega) (au hin ?_)⟩) fun h=>absurd rfl h⟩,.inr ⟨_,rfl,show (8:Int)≠0 by decide⟩⟩
     refine ee 0 ?_
     have:=Ca (TT n).2.2.2.2 inner b (ah (7,0,0,0,0,0,aj) s).2 [(ah (7,0,0,0,0,0,aj) s).1] 0 ((s.p:Int)+1) 8 (by decide) (LT (FB (TT n).2.2.2.2 inner (0,rst b (ah (7,0,0,0,0,0,aj) s).2 ((s.p:Int)+1) 8)) 0)
     have e:iU b (noR (adv (ah (7,0,0,0,0,0,aj) s).2 1) 8)=rst b (ah (7,0,0,0,0,0,aj) s).2 ((s.p:Int)+1) 8:=by
      show rst b (adv (ah (7,0,0,0,0,0,aj) s).2 1) (((ah (7,0,0,0,0,0,aj) s).2.p+1:Nat):Int) 8=_
      rw [q1];rfl
     rw [e]
     exact this
    ·rename_i hneg
     obtain rfl:=p2 (by omega)
     obtain ⟨q1,q2,_⟩:=eK (7,0,0,0,0,0,aj) s
     have hj1:(adv (ah (7,0,0,0,0,0,aj) s).2 1).p=s.p+1:=by show (ah _ s).2.p+1=_;rw [q1]
     have hlen:(ah (7,0,0,0,0,0,aj) s).2.L.length≤1000:=by
      obtain ⟨r1,r2,r3⟩:=gq (show 0≤(ah (7,0,0,0,0,0,aj) s).1 by omega)
      rw [r3];simp;omega
     have hgr:Gr s.L s.g (ah (7,0,0,0,0,0,aj) s).2.L (ah (7,0,0,0,0,0,aj) s).2.g [(ah (7,0,0,0,0,0,aj) s).1]:=
      sR (dx s.L s.g hL) (by show 0≤(ah (7,0,0,0,0,0,aj) s).1;omega) (by decide) rfl
     obtain ⟨k,⟨m,hm⟩,hs⟩:=ih (.loop inner [(ah (7,0,0,0,0,0,aj) s).1] true (adv (ah (7,0,0,0,0,0,aj) s).2 1)) q h ⟨by show (adv _ 1).p≤_;rw [hj1];exact hl,by show (ah _ s).2.g≤_;rw [q2];exact j2,trivial⟩ hlen 0 (Nat.zero_le _) (by simp) (by simp) ⟨s.L,s.g,hgr⟩ n (Nat.le_refl _)
     refine ⟨k,.inr ⟨_,nx,ab (fun _=>⟨_,p1,dD (by show 0+1≤_;omega) (by omega) (au hin ?_)⟩) fun h=>absurd rfl h⟩,hs⟩
     rw [hj1] at hm
     exact ee m hm
   ·rename_i h1
    have h94:atB b (s.p+0)≠94:=fun e=>h1 ((vq b s.p 94).2 e)
    obtain ⟨k,⟨m,hm⟩,hs⟩:=ih (.loop inner [] true s) q h ⟨j1,j2,trivial⟩ hL 0 (Nat.zero_le _) (by simp) (by simp) ⟨s.L,s.g,dx _ _ hL⟩ n (Nat.le_refl _)
    exact ⟨k,.inr ⟨_,nx,ab (fun e=>absurd e h94) fun _=>ee m hm⟩,hs⟩
  | loop inner l f s=>
   have j1:s.p≤b.length:=j1
   have j2:s.g≤9:=j2
   have hL:s.L.length≤1000:=hL
   intro i hi hli hf ⟨L,g,hgr⟩ N hN
   have mN:=rF (show n≤N by omega)
   have nx0:ak (rst b s (s.p:Int) 0) 0 (atB b s.p):=dG b s s.p 0 0 (by omega) (by omega)
   have nx1:ak (rst b s (s.p:Int) 0) 1 (atB b (s.p+1)):=dG b s s.p 0 1 (by omega) (by omega)
   have fdec:decide ((i:Int)=0)=f:=by
    cases f with
    | true=>rw [decide_eq_true (by have:=hf.1 rfl;omega)]
    | false=>rw [decide_eq_false (fun e=>by have:=hf.2 (by omega);cases this)]
   unfold go at h
   split at h
   ·rename_i h1
    obtain ⟨h1,h2⟩:=h1
    obtain ⟨c,hc⟩:∃ c,b[s.p]? =some c:=⟨_,List.getElem?_eq_getElem h1⟩
    have hat:atB b s.p=(c.toNat:Int):=bL hc
    have pre:∀ (r:Int×RS8) (ag:SB→Prop),(∃ y426:Int×RS8,(TT N).2.2.2.2 (rst b s (s.p:Int) 0) f y426∧ag ((l++[y426.1]),((i:Int)+1),y426.2.1,y426.2.2.1,y426.2.2.2.1,y426.2.2.2.2.1.1,y426.2.2.2.2.1.2,y426.2.2.2.2.2))→FB (TT N).2.2.2.2 inner r ag (l,(i:Int),b,(s.p:Int),0,s.L,(s.g:Int),s.cl):=fun r ag ⟨y,hy1,hy2⟩=>by
     have j3t:∀ x:Bool,x=true→bz (TT N).2.2.2.2 b (s.p:Int) 0 s.L (s.g:Int) s.cl (i:Int) l ag inner x r:=fun x hx=>by
      refine ab (fun _=>⟨y,?_,dD (by show l.length+1≤_;omega) (by omega) (au (by omega) hy2)⟩) fun h=>absurd hx h
      rw [fdec];exact hy1
     refine ab (fun _=>⟨_,nx0,ab (fun _=>⟨_,nx0,ab (fun h92=>⟨_,nx1,?_⟩) fun h92=>j3t true rfl⟩) fun h=>absurd (by rw [hat];omega) h⟩) fun h=>absurd rfl h
     refine j3t _ ?_
     rw [decide_eq_false];· rfl
     intro e
     rw [(nl b s.p 92 41).2 ⟨h92,e⟩] at h2;cases h2
    cases hg:go b n (.piece f s) with
    | none=>rw [hg] at h;cases h
    | some q1=>
     obtain ⟨k1,ht,hs1⟩:=ih (.piece f s) q1 hg ⟨j1,j2,trivial⟩ hL
     have hatp:=jK b n _ q1 hg ⟨j1,j2,trivial⟩
     have hgrp:=BJ b n _ q1 hg
     obtain ⟨k,w,s'⟩:=q1
     rw [hg] at h
     dsimp only at h
     split at h
     ·rename_i hwe
      have hw:w=[]:=List.isEmpty_iff.1 hwe
      subst hw
      obtain ⟨⟨c1,c2,c3⟩,c4⟩:=hatp rfl
      have c2:s'.p≤b.length:=c2
      have c3:s'.g≤9:=c3
      have c4:s.p+1≤s'.p:=c4
      have hk:k1=k:=w5 hs1 rfl
      subst hk
      have g1:=(hgrp rfl s.L s.g (dx _ _ hL)).2
      have g2:Gr L g s'.L s'.g (l++[k1]):=jr hgr g1
      have hL':s'.L.length≤1000:=by obtain ⟨_,_,_,_,_,_,h5⟩:=g2;exact h5
      obtain ⟨k',⟨m,hm⟩,hs⟩:=ih (.loop inner (l++[k1]) false s') q h ⟨c2,c3,trivial⟩ hL' (i+1) (by show i+1≤s'.p;omega) (by simp;omega) (by simp) ⟨L,g,g2⟩ N (by omega)
      exact ⟨k',⟨m+1,pre _ _ ⟨_,mN.2.1 _ _ _ ht,.inr (by rw [show (i:Int)+1=((i+1:Nat):Int) by omega];exact hm)⟩⟩,hs⟩
     ·rename_i hwe
      injection h with h
      subst h
      obtain ⟨y,hy,hy2⟩:=wZ hs1 (fun e=>hwe (List.isEmpty_iff.2 e))
      have hy:w=[y]:=hy
      subst hy
      refine ⟨0,⟨1,pre _ _ ⟨_,mN.2.1 _ _ _ ht,.inr ?_⟩⟩,.inr ⟨y,rfl,hy2⟩⟩
      exact Ca (TT N).2.2.2.2 inner b s' (l++[k1]) ((i:Int)+1) y.1 y.2 hy2 _
   ·rename_i h1
    injection h with h
    subst h
    have pre:∀ (r:Int×RS8) (ag:SB→Prop),((¬ ((inner==decide (0≤atB b s.p))=true)→r=(0,rst b s (s.p:Int) 14))∧(¬ (¬ ((inner==decide (0≤atB b s.p))=true))→∃ y446:Int×RS8,cL (rst b s (s.p:Int) 0) l y446∧r=(y446.1,y446.2)))→FB (TT N).2.2.2.2 inner r ag (l,(i:Int),b,(s.p:Int),0,s.L,(s.g:Int),s.cl):=fun r ag hr=>by
     have j3f:∀ x:Bool,x=false→bz (TT N).2.2.2.2 b (s.p:Int) 0 s.L (s.g:Int) s.cl (i:Int) l ag inner x r:=fun x hx=>by
      subst hx
      exact ab (fun h=>by cases h) fun _=>ab (fun h=>absurd rfl h) fun _=>⟨_,nx0,hr⟩
     refine ab (fun _=>⟨_,nx0,ab (fun h0=>⟨_,nx0,?_⟩) fun _=>j3f false rfl⟩) fun h=>absurd rfl h
     have hl:s.p<b.length:=kM h0
     have h3:aI b s.p [92,41]=true:=by
      cases h4:aI b s.p [92,41] with
      | true=>rfl
      | false=>exact absurd ⟨hl,h4⟩ h1
     obtain ⟨e1,e2⟩:=(nl b s.p 92 41).1 h3
     have e2:atB b (s.p+1)=41:=e2
     refine ab (fun _=>⟨_,nx1,j3f _ ?_⟩) fun h=>absurd e1 h
     rw [decide_eq_true e2];rfl
    have hend:(inner==decide (0≤atB b s.p))= !(inner==decide ((s.p:Int)=(b.length:Int))):=by
     rcases Nat.lt_or_ge s.p b.length with h2 | h2
     ·obtain ⟨c,hc⟩:∃ c,b[s.p]? =some c:=⟨_,List.getElem?_eq_getElem h2⟩
      rw [bL hc,decide_eq_true (by omega),decide_eq_false (by omega)]
      cases inner <;> rfl
     ·rw [uG h2,decide_eq_false (by decide),decide_eq_true (by omega)]
      cases inner <;> rfl
    rw [hend] at pre
    unfold fo
    split
    ·rename_i h2
     refine ⟨0,⟨0,pre _ _ (ab (fun _=>rfl) fun h=>absurd (by rw [h2];decide) h)⟩,.inr ⟨_,rfl,show (14:Int)≠0 by decide⟩⟩
    ·rename_i h2
     obtain ⟨k,e,r1,r2,r3⟩:=wO b l s (s.p:Int) (by omega) fun x t e=>oL hgr (by rw [e];exact List.mem_cons_self)
     have h2:(inner==decide ((s.p:Int)=(b.length:Int)))=false:=by simpa using h2
     rw [h2] at pre
     have hcp:(bd l s).2.p=s.p:=by
      exact (mo l s).1
     split
     ·rename_i h3
      obtain rfl:=r3 h3
      refine ⟨k,⟨0,pre _ _ (ab (fun h=>absurd rfl h) fun _=>⟨_,r1,?_⟩)⟩,.inr ⟨_,rfl,show (8:Int)≠0 by decide⟩⟩
      show (k,rst b (bd l s).2 ((bd l s).2.p:Int) 8)=_
      rw [hcp]
     ·rename_i h3
      obtain ⟨rfl,rfl⟩:=r2 (by omega)
      refine ⟨_,⟨0,pre _ _ (ab (fun h=>absurd rfl h) fun _=>⟨_,r1,?_⟩)⟩,.inl ⟨rfl,rfl⟩⟩
      show ((bd l s).1,rst b (bd l s).2 ((bd l s).2.p:Int) 0)=_
      rw [hcp]
  | piece f s=>
   have j1:s.p≤b.length:=j1
   have j2:s.g≤9:=j2
   have hL:s.L.length≤1000:=hL
   have nx0:ak (rst b s (s.p:Int) 0) 0 (atB b s.p):=dG b s s.p 0 0 (by omega) (by omega)
   have nx1:ak (rst b s (s.p:Int) 0) 1 (atB b (s.p+1)):=dG b s s.p 0 1 (by omega) (by omega)
   have pre:∀ r,(¬ (f=true∧aI b s.p [92,123]=true))→bH (rst b s (s.p:Int) 0) (atB b s.p) (TT n).2.2.1 false r→(TT (n+1)).2.2.2.2 (rst b s (s.p:Int) 0) f r:=fun r hn hr=>by
    refine .inr ⟨_,nx0,ab (fun h92=>⟨_,nx1,?_⟩) fun _=>hr⟩
    have:(decide (atB b (s.p+1)=123) && f)=false:=by
     rw [Bool.eq_false_iff]
     intro e
     simp only [Bool.and_eq_true,decide_eq_true_eq] at e
     exact hn ⟨e.2,(nl b s.p 92 123).2 ⟨h92,e.1⟩⟩
    rw [this];exact hr
   unfold go at h
   split at h
   ·rename_i h1
    injection h with h
    subst h
    obtain ⟨e1,e2⟩:=(nl b s.p 92 123).1 h1.2
    have e2:atB b (s.p+1)=123:=e2
    refine ⟨0,.inr ⟨_,nx0,ab (fun _=>⟨_,nx1,?_⟩) fun h=>absurd e1 h⟩,.inr ⟨_,rfl,show (13:Int)≠0 by decide⟩⟩
    rw [decide_eq_true e2,h1.1]
    exact ab (fun _=>rfl) fun h=>absurd rfl h
   ·rename_i h1
    split at h
    ·rename_i h2
     injection h with h
     subst h
     have h42:=(vq b s.p 42).1 h2.2
     obtain ⟨c,hc⟩:∃ c,b[s.p]? =some c:=⟨_,List.getElem?_eq_getElem (kM (by rw [h42];decide))⟩
     obtain rfl:c=42:=cj ((bL hc).symm.trans h42)
     obtain ⟨k,st,a1,a2⟩:=vU b hb s 42 hc (by decide) (TT n).2.2.1 0 (kF 42 s) (by
      unfold go;rw [hc];dsimp only;rw [if_neg (by decide),if_neg (by decide),if_neg (by decide),if_neg (fun e=>absurd e.1 (by decide))])
     have hl:s.p<b.length:=(List.getElem?_eq_some_iff.1 hc).1
     obtain ⟨p1,p2,_⟩:=eK (cn (ofS [42])) (adv s 1)
     obtain ⟨k',b1,b2⟩:=zT b hb _ k st a1 fun _=>⟨by show (ah (cn (ofS [42])) (adv s 1)).2.p≤_;rw [p1];exact hl,by show (ah (cn (ofS [42])) (adv s 1)).2.g≤_;rw [p2];exact j2⟩
     exact ⟨k',pre _ h1 (a2 _ b1),b2⟩
    ·cases hg:go b n (.atom s) with
     | none=>rw [hg] at h;cases h
     | some q1=>
      rw [hg] at h
      injection h with h
      subst h
      obtain ⟨k,st,a1,a2⟩:=ih (.atom s) q1 hg ⟨j1,j2,trivial⟩ hL n (Nat.le_refl _)
      obtain ⟨k',b1,b2⟩:=zT b hb q1 k st a1 fun hw=>(jK b n _ q1 hg ⟨j1,j2,trivial⟩ hw).1.2
      exact ⟨k',pre _ h1 (a2 _ b1),b2⟩
  | atom s=>
   intro N hN
   have j1:s.p≤b.length:=j1
   have j2:s.g≤9:=j2
   have hL:s.L.length≤1000:=hL
   cases hc:b[s.p]? with
   | none=>unfold go at h;rw [hc] at h;cases h
   | some c=>
    by_cases h92:c.toNat=92
    ·unfold go at h
     rw [hc] at h
     dsimp only at h
     rw [if_pos h92] at h
     have hat:atB b s.p=92:=by rw [bL hc,h92];rfl
     exact ih (.escape s) q h ⟨j1,j2,(List.getElem?_eq_some_iff.1 hc).1⟩ hL hat N (by omega)
    ·exact vU b hb s c hc h92 _ n q h
  | escape s=>
   have j1:s.p≤b.length:=j1
   have j2:s.g≤9:=j2
   have hL:s.L.length≤1000:=hL
   intro hat N hN
   have mN:=rF (show n≤N by omega)
   by_cases h40:atB b (s.p+1)=40
   ·have hl:s.p+1<b.length:=kM (by rw [h40];decide)
    obtain ⟨c,hc⟩:∃ c,b[s.p+1]? =some c:=⟨_,List.getElem?_eq_getElem hl⟩
    have hc40:c.toNat=40:=by rw [bL hc] at h40;omega
    unfold go at h
    rw [hc] at h
    dsimp only at h
    rw [if_pos hc40] at h
    obtain ⟨k,st,a1,a2⟩:=ih (.group s) q h ⟨j1,j2,hl⟩ hL
    refine ⟨k,st,a2,fun r hr=>zU b s (by omega) _ hat r ?_⟩
    rw [decide_eq_true h40]
    exact ab (fun _=>⟨(k,st),mN.2.2 _ _ _ _ a1,hr⟩) fun h=>absurd rfl h
   ·obtain ⟨k,st,a1,a2⟩:=Ds b hb s hat h40 n q h
    refine ⟨k,st,a1,fun r hr=>zU b s (by omega) _ hat r ?_⟩
    rw [decide_eq_false h40]
    exact ab (fun h=>by cases h) fun _=>ab (fun _=>⟨(k,st),a2,hr⟩) fun h=>absurd rfl h
  | group s=>
   have j1:s.p≤b.length:=j1
   have j2:s.g≤9:=j2
   have j3:s.p+2≤b.length:=j3
   have hL:s.L.length≤1000:=hL
   unfold go at h
   split at h
   ·rename_i h1
    injection h with h
    subst h
    exact ⟨0,_,.inr (ab (fun _=>rfl) fun h=>absurd (by show (9:Int)≤(s.g:Int);omega) h),qe b s 17 (by decide) 0⟩
   ·rename_i h1
    have hs':jJ b (.branch true { s with g:=s.g+1,p:=s.p+2 }):=⟨j3,by show s.g+1≤9;omega,trivial⟩
    cases hg:go b n (.branch true { s with g:=s.g+1,p:=s.p+2 }) with
    | none=>rw [hg] at h;cases h
    | some q1=>
     obtain ⟨k1,ht,hs1⟩:=ih (.branch true { s with g:=s.g+1,p:=s.p+2 }) q1 hg hs' hL
     have hatp:=jK b n _ q1 hg hs'
     obtain ⟨k,w,s'⟩:=q1
     rw [hg] at h
     dsimp only at h
     have pre:∀ r,cy 2 (rst b s (s.p:Int) 0) k1 (iU b (k,w,s')).1 (iU b (k,w,s')).2.1 (iU b (k,w,s')).2.2.1 (iU b (k,w,s')).2.2.2.1.1 (iU b (k,w,s')).2.2.2.1.2 (iU b (k,w,s')).2.2.2.2 r→(TT (n+1)).2.2.1 (rst b s (s.p:Int) 0) 2 true r:=fun r hr=>by
      refine .inr (ab (fun h=>absurd (by have h:(9:Int)≤(s.g:Int):=h;omega) h1) fun _=>au (by show -9223372036854775808≤(s.g:Int)+1∧(s.g:Int)+1≤_;omega) (au (by show -9223372036854775808≤(s.p:Int)+2∧(s.p:Int)+2≤_;omega) (ab (fun _=>⟨(k1,iU b (k,w,s')),ht,hr⟩) fun h=>absurd rfl h)))
     split at h
     ·rename_i hwe
      have hw:w=[]:=List.isEmpty_iff.1 hwe
      subst hw
      injection h with h
      subst h
      obtain ⟨⟨c1,c2,c3⟩,c4⟩:=hatp rfl
      have c2:s'.p≤b.length:=c2
      have hk:k1=k:=w5 hs1 rfl
      subst hk
      have hlen:s'.cl.l.length=10:=s'.cl.len
      obtain ⟨kk,st,r1,r2⟩:=oB b (5,k1,0,0,0,((s.g+1:Nat):Int),aj) { s' with p:=s'.p+2,cl:=Arr.set s'.cl (s.g+1) true } ((s'.p:Int)+2) (by show _=((s'.p+2:Nat):Int);omega)
      refine ⟨kk,st,pre _ (ab (fun h=>absurd rfl h) fun _=>au (by show -9223372036854775808≤(s'.p:Int)+2∧(s'.p:Int)+2≤_;omega) ⟨⟨by show (0:Int)≤(s.g:Int)+1;omega,by show (s.g:Int)+1<10;omega⟩,?_⟩),r2⟩
      have e:((s.g:Int)+1).toNat=s.g+1:=by omega
      have e2:(s.g:Int)+1=((s.g+1:Nat):Int):=by omega
      refine ⟨s'.cl.l[s.g+1],?_,(kk,st),?_,rfl⟩
      ·show s'.cl.l[((s.g:Int)+1).toNat]? =_
       rw [e];exact List.getElem?_eq_getElem (by omega)
      ·show ap (b,(s'.p:Int)+2,0,(s'.L,(s'.g:Int)),Arr.set s'.cl ((s.g:Int)+1).toNat true) (5,k1,0,0,0,(s.g:Int)+1,_) (kk,st)
       rw [e,e2];exact r1
     ·rename_i hwe
      injection h with h
      subst h
      obtain ⟨y,hy,hy2⟩:=wZ hs1 (fun e=>hwe (List.isEmpty_iff.2 e))
      have hy:w=[y]:=hy
      subst hy
      exact ⟨0,rst b s' y.1 y.2,pre _ (ab (fun _=>rfl) fun h=>absurd hy2 h),.inr (.inr ⟨y,rfl,hy2,rfl⟩)⟩
end Go.Proofs.YtnbceeholnkfeaaGreatDoor
namespace Go.Proofs.YtnbceeholnkfeaaGreatDoor
def GI (b:List UInt8) (j:Job):Nat:=6 * (b.length - j.s.p)+match j with | .group _=>0 | .escape _=>1 | .atom _=>2 | .piece _ _=>3 | .loop _ _ _ _=>4 | .branch _ _=>5
theorem yi (b:List UInt8):∀ (n:Nat) (j:Job),jJ b j→(match j with | .piece _ s | .atom s=>s.p<b.length | _=>True)→GI b j≤n→1≤n→∃ q,go b n j=some q:=by
 intro n
 induction n with
 | zero=>intro j _ _ _ h;omega
 | succ n ih=>
  intro j hj hl hn _
  have hj0:=hj
  obtain ⟨j1,j2,j3⟩:=hj
  cases j with
  | branch inner s=>
   have j1:s.p≤b.length:=j1
   have j2:s.g≤9:=j2
   have hn:6 * (b.length - s.p)+5≤n+1:=hn
   unfold go
   split
   ·rename_i h1
    have h1:s.p+1≤b.length:=di h1 (by simp)
    obtain ⟨q1,q2,_⟩:=eK (7,0,0,0,0,0,aj) (adv s 1)
    have q1:(ah (7,0,0,0,0,0,aj) (adv s 1)).2.p=s.p+1:=q1
    have q2:(ah (7,0,0,0,0,0,aj) (adv s 1)).2.g=s.g:=q2
    split
    ·exact ⟨_,rfl⟩
    ·exact ih (.loop inner _ true _) ⟨by show (ah _ (adv s 1)).2.p≤_;rw [q1];exact h1,by show (ah _ (adv s 1)).2.g≤_;rw [q2];exact j2,trivial⟩ trivial (by show 6 * (b.length - (ah _ (adv s 1)).2.p)+4≤n;rw [q1];omega) (by omega)
   ·exact ih (.loop inner [] true s) ⟨j1,j2,trivial⟩ trivial (by show 6 * (b.length - s.p)+4≤n;omega) (by omega)
  | loop inner l f s=>
   have j1:s.p≤b.length:=j1
   have j2:s.g≤9:=j2
   have hn:6 * (b.length - s.p)+4≤n+1:=hn
   unfold go
   split
   ·rename_i h1
    have h1:s.p<b.length:=h1.1
    obtain ⟨⟨k,w,s'⟩,hq⟩:=ih (.piece f s) ⟨j1,j2,trivial⟩ h1 (by show 6 * (b.length - s.p)+3≤n;omega) (by omega)
    rw [hq]
    dsimp only
    split
    ·rename_i hw
     obtain ⟨⟨c1,c2,c3⟩,c4⟩:=jK b n _ _ hq ⟨j1,j2,trivial⟩ (List.isEmpty_iff.1 hw)
     have c2:s'.p≤b.length:=c2
     have c4:s.p+1≤s'.p:=c4
     exact ih (.loop inner (l++[k]) false s') ⟨c2,c3,trivial⟩ trivial (by show 6 * (b.length - s'.p)+4≤n;omega) (by omega)
    ·exact ⟨_,rfl⟩
   ·exact ⟨_,rfl⟩
  | piece f s=>
   have j1:s.p≤b.length:=j1
   have j2:s.g≤9:=j2
   have hl:s.p<b.length:=hl
   have hn:6 * (b.length - s.p)+3≤n+1:=hn
   unfold go
   split
   ·exact ⟨_,rfl⟩
   ·split
    ·exact ⟨_,rfl⟩
    ·obtain ⟨q,hq⟩:=ih (.atom s) ⟨j1,j2,trivial⟩ hl (by show 6 * (b.length - s.p)+2≤n;omega) (by omega)
     rw [hq]
     exact ⟨_,rfl⟩
  | atom s=>
   have j1:s.p≤b.length:=j1
   have j2:s.g≤9:=j2
   have hl:s.p<b.length:=hl
   have hn:6 * (b.length - s.p)+2≤n+1:=hn
   unfold go
   rw [List.getElem?_eq_getElem hl]
   dsimp only
   split
   ·exact ih (.escape s) ⟨j1,j2,hl⟩ trivial (by show 6 * (b.length - s.p)+1≤n;omega) (by omega)
   ·split
    ·exact ⟨_,rfl⟩
    ·split
     ·split
      ·exact ⟨_,rfl⟩
      ·exact ⟨_,rfl⟩
     ·split
      ·exact ⟨_,rfl⟩
      ·exact ⟨_,rfl⟩
  | escape s=>
   have j1:s.p≤b.length:=j1
   have j2:s.g≤9:=j2
   have j3:s.p+1≤b.length:=j3
   have hn:6 * (b.length - s.p)+1≤n+1:=hn
   unfold go
   cases hc:b[s.p+1]? with
   | none=>exact ⟨_,rfl⟩
   | some c=>
    have hl:=(List.getElem?_eq_some_iff.1 hc).1
    dsimp only
    split
    ·exact ih (.group s) ⟨j1,j2,hl⟩ trivial (by show 6 * (b.length - s.p)+0≤n;omega) (by omega)
    ·split
     ·split
      ·exact ⟨_,rfl⟩
      ·exact ⟨_,rfl⟩
     ·split
      ·exact ⟨_,rfl⟩
      ·split
       ·exact ⟨_,rfl⟩
       ·exact ⟨_,rfl⟩
  | group s=>
   have j1:s.p≤b.length:=j1
   have j2:s.g≤9:=j2
   have j3:s.p+2≤b.length:=j3
   have hn:6 * (b.length - s.p)+0≤n+1:=hn
   unfold go
   split
   ·exact ⟨_,rfl⟩
   ·rename_i h9
    obtain ⟨⟨k,w,s'⟩,hq⟩:=ih (.branch true { s with g:=s.g+1,p:=s.p+2 }) ⟨j3,by show s.g+1≤9;omega,trivial⟩ trivial (by show 6 * (b.length - (s.p+2))+5≤n;omega) (by omega)
    rw [hq]
    dsimp only
    split
    ·exact ⟨_,rfl⟩
    ·exact ⟨_,rfl⟩
end Go.Proofs.YtnbceeholnkfeaaGreatDoor
