/- The document's reader of numbers reads what the program's does. -/
import Derived.Test.YtnbceeholnkfeaaGreatDoorRkP
import Derived.Test.YtnbceeholnkfeaaGreatDoorLt
namespace Go.Proofs.YtnbceeholnkfeaaGreatDoor
def sr (n:Int) (gr:Bool) (nr:Int) (ov:Bool):Prop:=(gr=false∧ov=false∧nr=n∧0≤n∧n≤255)∨(gr=true∧(ov=true∨255<nr)∧0≤nr∧nr≤9223372036854775807)
theorem vm {b:List UInt8} {p k:Nat} {n nr:Int} {gr ov:Bool} (h:(n,k,gr)=co 0 false (b.drop p)) (hr:sr n gr nr ov):dA (p:Int) 255 ((p+k:Nat):Int) nr ov (am b p):=by
 unfold am
 rw [← h]
 refine ab (fun h1=>?_) fun h1=>ab (fun h2=>?_) fun h2=>?_
 ·rw [if_pos (by show k=0;omega)]
 ·simp only [Bool.or_eq_true,decide_eq_true_eq] at h2
  rcases hr with ⟨h3,h4,h5,h6,h7⟩| ⟨h3,_⟩
  ·rw [h4] at h2
   rcases h2 with h2 | h2
   ·cases h2
   ·omega
  ·rw [if_neg (by show ¬ k=0;omega),if_pos h3]
 ·simp only [Bool.or_eq_true,decide_eq_true_eq] at h2
  rcases hr with ⟨h3,h4,h5,h6,h7⟩| ⟨h3,h4,_⟩
  ·rw [if_neg (by show ¬ k=0;omega),if_neg (by rw [h3];exact Bool.false_ne_true),h5]
  ·exact absurd h4 h2
theorem wM (b:List UInt8) (p:Nat) (hb:b.length≤40000000) (hp:p≤b.length):eN b (p:Int) 255 (am b p):=by
 show iR b (p:Int) 255 _ _
 rw [show ((decide ((p:Int)<0)) || (decide ((b.length:Int)<(p:Int))))=false from by
  rw [Bool.or_eq_false_iff,decide_eq_false_iff_not,decide_eq_false_iff_not];omega]
 refine ab (fun h=>by cases h) fun _=>?_
 refine ct (fun (st:Int×Int×Bool) m=>∃ (k:Nat) (n nr:Int) (gr ov:Bool),p+k≤b.length∧m=b.length - (p+k)∧st=(((p+k:Nat):Int),nr,ov)∧sr n gr nr ov∧((co n gr (b.drop (p+k))).1,(co n gr (b.drop (p+k))).2.1+k,(co n gr (b.drop (p+k))).2.2)=co 0 false (b.drop p)) (b.length - p) ⟨0,0,0,false,false,by omega,rfl,rfl,.inl ⟨rfl,rfl,rfl,by omega,by omega⟩,rfl⟩ ?_
 rintro _ m ⟨k,n,nr,gr,ov,hk,rfl,rfl,hr,he⟩
 show lf b (p:Int) 255 _ ((p+k:Nat):Int) nr ov _
 refine ab (fun h=>?_) fun h=>?_
 ·obtain ⟨c,hc⟩:∃ c,b[p+k]? =some c:=⟨b[p+k]'(by omega),List.getElem?_eq_getElem (by omega)⟩
  have hc0:b[(((p+k:Nat):Int)).toNat]? =some c:=by rw [Int.toNat_natCast];exact hc
  rw [bY hc] at he
  have hcl:=c.toNat_lt
  have hend:¬ (48≤c.toNat∧c.toNat≤57)→dA (p:Int) 255 ((p+k:Nat):Int) nr ov (am b p):=fun h1=>by
   rw [fV,if_neg h1] at he
   exact vm (by rw [← he];simp) hr
  refine ⟨by omega,c,hc0,ab (fun h1=>⟨by omega,c,hc0,ab (fun h2=>⟨by omega,c,hc0,au (by omega) ?_⟩) fun h2=>hend (by omega)⟩) fun h1=>hend (by omega)⟩
  rw [fV,if_pos ⟨by omega,by omega⟩] at he
  have hd:(255 - ((c.toNat:Int) - 48)).tdiv 10=(255 - ((c.toNat:Int) - 48)) / 10:=Int.tdiv_eq_ediv_of_nonneg (by omega)
  have next:∀ (nr':Int) (ov':Bool),sr (if (gr || decide ((255 - ((c.toNat:Int) - 48)).tdiv 10<n))=true then n else n * 10+((c.toNat:Int) - 48)) (gr || decide ((255 - ((c.toNat:Int) - 48)).tdiv 10<n)) nr' ov'→fR ((p+k:Nat):Int) (fun s'=>∃ m',m'<b.length - (p+k)∧∃ (k:Nat) (n nr:Int) (gr ov:Bool),p+k≤b.length∧m'=b.length - (p+k)∧s'=(((p+k:Nat):Int),nr,ov)∧sr n gr nr ov∧((co n gr (b.drop (p+k))).1,(co n gr (b.drop (p+k))).2.1+k,(co n gr (b.drop (p+k))).2.2)=co 0 false (b.drop p)) nr' ov' (am b p):=fun nr' ov' h3=>
   au (by omega) ⟨b.length - (p+(k+1)),by omega,k+1,_,nr',_,ov',by omega,rfl,Prod.ext (by show ((p+k:Nat):Int)+1=((p+(k+1):Nat):Int);omega) rfl,h3,by rw [← he];simp only [Nat.add_assoc,Nat.add_comm 1 k]⟩
  refine ab (fun h3=>next _ _ ?_) fun h3=>?_
  ·simp only [Bool.or_eq_true,Bool.and_eq_true,decide_eq_true_eq] at h3
   rcases hr with ⟨_,_,h5,h6,h7⟩| ⟨h4,h5,h6,h7⟩
   ·omega
   ·rw [h4];exact .inr ⟨rfl,.inl rfl,h6,h7⟩
  ·simp only [Bool.or_eq_true,Bool.and_eq_true,decide_eq_true_eq] at h3
   have hle:nr * 10+((c.toNat:Int) - 48)≤9223372036854775807∧0≤nr:=by
    rcases hr with ⟨_,_,h5,h6,h7⟩| ⟨h4,h5,h6,h7⟩
    ·omega
    ·refine ⟨?_,h6⟩
     rcases Int.lt_or_le nr 922337203685477580 with h8 | h8
     ·omega
     ·have:nr=922337203685477580:=by
       rcases Int.lt_or_le 922337203685477580 nr with h9 | h9
       ·exact absurd (.inl h9) h3
       ·omega
      have:¬ 7<(c.toNat:Int) - 48:=fun h9=>h3 (.inr ⟨this,h9⟩)
      omega
   refine au (by omega) (au (by omega) (next _ _ ?_))
   rcases hr with ⟨h4,h4',h5,h6,h7⟩| ⟨h4,h5,h6,h7⟩
   ·subst h5
    rw [h4,Bool.false_or,hd]
    by_cases h8:(255 - ((c.toNat:Int) - 48)) / 10<nr
    ·rw [decide_eq_true h8]
     exact .inr ⟨rfl,.inr (by omega),by omega,by omega⟩
    ·rw [decide_eq_false h8]
     exact .inl ⟨rfl,h4',rfl,by show 0≤nr * 10+((c.toNat:Int) - 48);omega,by show nr * 10+((c.toNat:Int) - 48)≤255;omega⟩
   ·rw [h4]
    exact .inr ⟨rfl,h5.imp_right fun h=>by omega,by omega,by omega⟩
 ·rw [List.drop_eq_nil_of_le (by omega)] at he
  exact vm (by rw [← he];simp [co]) hr
end Go.Proofs.YtnbceeholnkfeaaGreatDoor
namespace Go.Proofs.YtnbceeholnkfeaaGreatDoor
abbrev RS8:=List UInt8×Int×Int×(List ND×Int)×Arr 10 Bool
def rst (b:List UInt8) (s:Pz) (a e:Int):RS8:=(b,a,e,(s.L,(s.g:Int)),s.cl)
theorem dG (b:List UInt8) (s:Pz) (p:Nat) (e:Int) (k:Nat) (hp:p≤500000000) (hk:k≤10):ak (rst b s (p:Int) e) (k:Int) (atB b (p+k)):=by
 refine au (by show -9223372036854775808≤(p:Int)+(k:Int)∧(p:Int)+(k:Int)≤_;omega) (ab (fun h=>?_) fun _=>au (by show -9223372036854775808≤(p:Int)+(k:Int)∧(p:Int)+(k:Int)≤_;omega) (ab (fun h=>?_) fun h=>au (by show -9223372036854775808≤(p:Int)+(k:Int)∧(p:Int)+(k:Int)≤_;omega) ?_))
 ·have h:(p:Int)+(k:Int)<0:=h
  omega
 ·have h:(b.length:Int)≤(p:Int)+(k:Int):=h
  unfold atB
  rw [List.getElem?_eq_none (by omega)]
 ·have h:¬ (b.length:Int)≤(p:Int)+(k:Int):=h
  have hl:p+k<b.length:=by omega
  unfold atB
  rw [List.getElem?_eq_getElem hl]
  refine ⟨by show (0:Int)≤(p:Int)+(k:Int);omega,b[p+k],?_,rfl⟩
  show b[((p:Int)+(k:Int)).toNat]? =_
  rw [show ((p:Int)+(k:Int)).toNat=p+k by omega];exact List.getElem?_eq_getElem hl
theorem wN (b:List UInt8) (n:ND) (s:Pz) (a e:Int) (he:e≠0):ap (rst b s a e) n (0,rst b s a e):=ab (fun _=>rfl) fun h=>absurd he h
theorem ma (b:List UInt8) (n:ND) (s:Pz) (a:Int):∃ k e,ap (rst b s a 0) n (k,rst b (ah n s).2 a e)∧k=(ah n s).1∧(0≤(ah n s).1→e=0)∧((ah n s).1<0→e=8):=by
 unfold ah
 by_cases h1:1000≤s.L.length
 ·rw [if_pos h1]
  refine ⟨-1,8,ab (fun h=>absurd rfl h) fun _=>⟨(-1,rst b s a 0),ab (fun _=>rfl) fun h=>absurd (by show (1000:Int)≤(s.L.length:Int);omega) h,ab (fun _=>rfl) fun h=>absurd (by show (-1:Int)<0;decide) h⟩,rfl,fun h=>by have h:(0:Int)≤-1:=h;omega,fun _=>rfl⟩
 ·rw [if_neg h1]
  by_cases h2:aP n s.L.length s.g=true
  ·rw [if_pos h2]
   refine ⟨(s.L.length:Int),0,ab (fun h=>absurd rfl h) fun _=>⟨((s.L.length:Int),rst b { s with L:=s.L++[n] } a 0),ab (fun h=>absurd (by show 1000≤s.L.length;have h:(1000:Int)≤(s.L.length:Int):=h;omega) h1) fun _=>⟨_,zm n s.L.length s.g,ab (fun h=>absurd h2 h) fun _=>dD (by show 0+s.L.length≤_;omega) (by omega) (dD (by show s.L.length+1≤_;omega) (by omega) (au ?_ ?_))⟩,ab (fun h=>by have h:(s.L.length:Int)<0:=h;omega) fun _=>rfl⟩,rfl,fun _=>rfl,fun h=>by have h:(s.L.length:Int)<0:=h;omega⟩
   ·show -9223372036854775808≤((s.L++[n]).length:Int) - 1∧((s.L++[n]).length:Int) - 1≤_
    simp;omega
   ·show _=(((s.L++[n]).length:Int) - 1,_)
    rw [show ((s.L++[n]).length:Int) - 1=(s.L.length:Int) by simp];rfl
  ·rw [if_neg h2]
   refine ⟨-1,8,ab (fun h=>absurd rfl h) fun _=>⟨(-1,rst b s a 0),ab (fun _=>rfl) fun _=>⟨_,zm n s.L.length s.g,ab (fun _=>rfl) fun h=>absurd (Decidable.not_not.1 h) h2⟩,ab (fun _=>rfl) fun h=>absurd (by show (-1:Int)<0;decide) h⟩,rfl,fun h=>by have h:(0:Int)≤-1:=h;omega,fun _=>rfl⟩
theorem zn:gj (fI z4):=Arr.ext (by decide)
theorem A3 (kind:Int) (t:List Int) (s:Pz):bf kind t (-1) s=(-1,s):=by
 cases t with
 | nil=>rfl
 | cons y t=>rw [cG,if_pos rfl]
abbrev FC (l:List Int) (r:Int×RS8):=fun (ag:Int×Int×List UInt8×Int×Int×List ND×Int×Arr 10 Bool→Prop) (s:Int×Int×List UInt8×Int×Int×List ND×Int×Arr 10 Bool)=>iB l ag s.1 s.2.1 s.2.2.1 s.2.2.2.1 s.2.2.2.2.1 s.2.2.2.2.2.1 s.2.2.2.2.2.2.1 s.2.2.2.2.2.2.2 r
theorem A4 (b:List UInt8) (l:List Int) (hl:l.length≤500000000) (s:Pz) (a e:Int) (he:e≠0):∀ (rest:List Int) (i:Nat) (k0:Int),l.drop i=rest→i≤l.length→∃ k n,FC l (k,rst b s a e) (LT (FC l (k,rst b s a e)) n) (k0,(i:Int),b,a,e,s.L,(s.g:Int),s.cl):=by
 intro rest
 induction rest with
 | nil=>
  intro i k0 h hi
  have:=congrArg List.length h
  rw [List.length_drop,List.length_nil] at this
  refine ⟨k0,0,ab (fun h=>?_) fun _=>rfl⟩
  have h:(i:Int)<(l.length:Int):=h
  omega
 | cons y rest ih=>
  intro i k0 h hi
  have h2:=congrArg List.length h
  rw [List.length_drop,List.length_cons] at h2
  have hy:l[i]? =some y:=by have:=congrArg (fun q=>q[0]?) h;simpa using this
  obtain ⟨k,n,hk⟩:=ih (i+1) 0 (by rw [nO hy] at h;exact (List.cons.inj h).2) (by omega)
  refine ⟨k,n+1,ab (fun _=>⟨by show (0:Int)≤(i:Int);omega,y,by show l[((i:Int)).toNat]? =_;rw [Int.toNat_natCast];exact hy,_,wN b _ s a e he,au (by show -9223372036854775808≤(i:Int)+1∧(i:Int)+1≤_;omega) (.inr ?_)⟩) fun h=>?_⟩
  ·exact hk
  ·have h:¬ (i:Int)<(l.length:Int):=h
   omega
theorem A6 (b:List UInt8) (l:List Int) (hl:l.length≤500000000) (a:Int):∀ (rest:List Int) (i:Nat) (x:Int) (s:Pz),l.drop i=rest→i≤l.length→0≤x→
  ∃ k e,(∃ n,FC l (k,rst b (bf 2 rest x s).2 a e) (LT (FC l (k,rst b (bf 2 rest x s).2 a e)) n) (x,(i:Int),b,a,0,s.L,(s.g:Int),s.cl))∧(0≤(bf 2 rest x s).1→k=(bf 2 rest x s).1∧e=0)∧((bf 2 rest x s).1<0→e=8):=by
 intro rest
 induction rest with
 | nil=>
  intro i x s h hi hx
  have:=congrArg List.length h
  rw [List.length_drop,List.length_nil] at this
  refine ⟨x,0,⟨0,ab (fun h=>?_) fun _=>rfl⟩,fun _=>⟨rfl,rfl⟩,fun h=>by have h:x<0:=h;omega⟩
  have h:(i:Int)<(l.length:Int):=h
  omega
 | cons y rest ih=>
  intro i x s h hi hx
  have h2:=congrArg List.length h
  rw [List.length_drop,List.length_cons] at h2
  have hy:l[i]? =some y:=by have:=congrArg (fun q=>q[0]?) h;simpa using this
  have hd:l.drop (i+1)=rest:=by rw [nO hy] at h;exact (List.cons.inj h).2
  rw [cG,if_neg (by omega)]
  obtain ⟨k1,e1,p1,rfl,p2,p3⟩:=ma b (2,x,y,0,0,0,aj) s a
  have hstep:∀ (r:Int×RS8) (n:Nat),FC l r (LT (FC l r) n) ((ah (2,x,y,0,0,0,aj) s).1,((i+1:Nat):Int),b,a,e1,(ah (2,x,y,0,0,0,aj) s).2.L,((ah (2,x,y,0,0,0,aj) s).2.g:Int),(ah (2,x,y,0,0,0,aj) s).2.cl)→
    FC l r (LT (FC l r) (n+1)) (x,(i:Int),b,a,0,s.L,(s.g:Int),s.cl):=fun r n hn=>by
   refine ab (fun _=>⟨by show (0:Int)≤(i:Int);omega,y,by show l[((i:Int)).toNat]? =_;rw [Int.toNat_natCast];exact hy,_,p1,au (by show -9223372036854775808≤(i:Int)+1∧(i:Int)+1≤_;omega) (.inr hn)⟩) fun h=>?_
   have h:¬ (i:Int)<(l.length:Int):=h
   omega
  by_cases hpos:0≤(ah (2,x,y,0,0,0,aj) s).1
  ·obtain rfl:=p2 hpos
   obtain ⟨k,e,⟨n,hn⟩,h3,h4⟩:=ih (i+1) _ (ah (2,x,y,0,0,0,aj) s).2 hd (by omega) hpos
   exact ⟨k,e,⟨n+1,hstep _ n hn⟩,h3,h4⟩
  ·obtain rfl:=p3 (by omega)
   have hneg:=nP hpos
   rw [hneg] at hstep ⊢
   rw [A3]
   obtain ⟨k,n,hn⟩:=A4 b l hl s a 8 (by decide) rest (i+1) (-1) hd (by omega)
   exact ⟨k,8,⟨n+1,hstep _ n hn⟩,fun h=>by have h:(0:Int)≤-1:=h;omega,fun _=>rfl⟩
theorem wO (b:List UInt8) (l:List Int) (s:Pz) (a:Int) (hl:l.length≤500000000) (hv:∀ x t,l=x :: t→0≤x∧x<(s.L.length:Int)):
  ∃ k e,cL (rst b s a 0) l (k,rst b (bd l s).2 a e)∧(0≤(bd l s).1→k=(bd l s).1∧e=0)∧((bd l s).1<0→e=8):=by
 cases l with
 | nil=>
  obtain ⟨k,e,h1,h2,h3,h4⟩:=ma b (0,0,0,0,0,0,aj) s a
  exact ⟨k,e,ab (fun _=>⟨_,h1,rfl⟩) fun h=>absurd rfl h,fun h=>⟨h2,h3 h⟩,h4⟩
 | cons x t=>
  obtain ⟨hx0,hx1⟩:=hv x t rfl
  rw [gL,if_neg (by omega)]
  obtain ⟨k,e,⟨n,hn⟩,h3,h4⟩:=A6 b (x :: t) hl a t 1 x s rfl (by simp) hx0
  refine ⟨k,e,ab (fun h=>absurd h (by simp;omega)) fun _=>⟨by decide,x,rfl,ee n hn⟩,h3,h4⟩
def bh (b:List UInt8) (q:Nat):Int×Int×Int×Bool:=
 if (am b q).2.2≠0 then (0,0,0,false)
 else if b[(am b q).2.1.toNat]? =some 44 then
  (if (am b ((am b q).2.1.toNat+1)).2.2=3∨((am b ((am b q).2.1.toNat+1)).2.2=0∧(am b ((am b q).2.1.toNat+1)).1<(am b q).1) then (0,0,0,false)
  else if (am b ((am b q).2.1.toNat+1)).2.2≠0 then ((am b q).1,-1,(am b q).2.1+1,true)
  else ((am b q).1,(am b ((am b q).2.1.toNat+1)).1,(am b ((am b q).2.1.toNat+1)).2.1,true))
 else ((am b q).1,(am b q).1,(am b q).2.1,true)
theorem vp (b:List UInt8) (s:Pz) (a e:Int) (q:Nat) (hb:b.length≤40000000) (hq:q≤b.length):cP (rst b s a e) (q:Int) (bh b q):=by
 refine ⟨_,wM b q hb hq,?_⟩
 unfold bh
 refine ab (fun h=>?_) fun h=>?_
 ·rw [if_pos h]
 rw [if_neg h]
 obtain ⟨z,hz,hz1,hz2⟩:=eQ (Decidable.not_not.1 h) hq
 have j1:∀ x:Bool,(x=false↔b[z]? =some 44)→cJ (am b q) (rst b s a e) x (if b[(am b q).2.1.toNat]? =some 44 then
  (if (am b ((am b q).2.1.toNat+1)).2.2=3∨((am b ((am b q).2.1.toNat+1)).2.2=0∧(am b ((am b q).2.1.toNat+1)).1<(am b q).1) then (0,0,0,false)
  else if (am b ((am b q).2.1.toNat+1)).2.2≠0 then ((am b q).1,-1,(am b q).2.1+1,true)
  else ((am b q).1,(am b ((am b q).2.1.toNat+1)).1,(am b ((am b q).2.1.toNat+1)).2.1,true))
 else ((am b q).1,(am b q).1,(am b q).2.1,true)):=fun x hx=>by
  refine ab (fun h1=>?_) fun h1=>?_
  ·rw [hz,Int.toNat_natCast,if_neg (fun e=>by rw [h1] at hx;exact absurd (hx.2 e) (by decide))]
  ·have hc:=hx.1 (by simpa using h1)
   have hl:=(List.getElem?_eq_some_iff.1 hc).1
   rw [hz,Int.toNat_natCast,if_pos hc]
   refine au (by omega) ⟨_,wM b (z+1) hb hl,?_⟩
   show dX (am b (z+1)) (am b q) _ _
   refine ab (fun h2=>?_) fun h2=>ab (fun h3=>au (by rw [hz];omega) ?_) fun h3=>?_
   ·simp only [Bool.or_eq_true,Bool.and_eq_true,decide_eq_true_eq] at h2
    rw [if_pos h2]
   ·simp only [Bool.or_eq_true,Bool.and_eq_true,decide_eq_true_eq] at h2
    rw [if_neg h2,if_pos h3,hz]
   ·simp only [Bool.or_eq_true,Bool.and_eq_true,decide_eq_true_eq] at h2
    rw [if_neg h2,if_neg h3]
 refine ab (fun h1=>j1 true ?_) fun h1=>?_
 ·have h1:(b.length:Int)≤(am b q).2.1:=h1
  rw [List.getElem?_eq_none (by omega)]
  exact ⟨(fun e=>by cases e),(fun e=>by cases e)⟩
 ·have h1:¬ (b.length:Int)≤(am b q).2.1:=h1
  obtain ⟨y,hy⟩:∃ y,b[z]? =some y:=⟨_,List.getElem?_eq_getElem (by omega)⟩
  refine ⟨by rw [hz];omega,y,by rw [hz,Int.toNat_natCast];exact hy,j1 _ ?_⟩
  rw [hy]
  constructor
  ·intro e2
   have e2:decide ((y.toNat:Int)=44)=true:=by simpa using e2
   have e2:=of_decide_eq_true e2
   rw [show y=44 from UInt8.toNat_inj.1 (by show y.toNat=44;omega)]
  ·intro e2
   injection e2 with e2
   subst e2
   rfl
theorem vq (b:List UInt8) (p:Nat) (c:UInt8):aI b p [c]=true↔atB b p=(c.toNat:Int):=by
 unfold aI atB
 rw [decide_eq_true_eq]
 cases h:b[p]? with
 | none=>
  rw [List.drop_eq_nil_of_le (List.getElem?_eq_none_iff.1 h)]
  exact ⟨fun e=>(by cases e),fun e=>absurd e (by show ¬ (-1:Int)=(c.toNat:Int);omega)⟩
 | some x=>
  rw [bY h]
  show [x]=[c]↔(x.toNat:Int)=(c.toNat:Int)
  constructor
  ·intro e;injection e with e;rw [e]
  ·intro e;rw [cj e]
theorem nl (b:List UInt8) (p:Nat) (c d:UInt8):aI b p [c,d]=true↔atB b p=(c.toNat:Int)∧atB b (p+1)=(d.toNat:Int):=by
 unfold aI atB
 rw [decide_eq_true_eq]
 cases h:b[p]? with
 | none=>
  rw [List.drop_eq_nil_of_le (List.getElem?_eq_none_iff.1 h)]
  exact ⟨fun e=>(by cases e),fun e=>absurd e.1 (by show ¬ (-1:Int)=(c.toNat:Int);omega)⟩
 | some x=>
  rw [bY h]
  cases h2:b[p+1]? with
  | none=>
   rw [List.drop_eq_nil_of_le (List.getElem?_eq_none_iff.1 h2)]
   exact ⟨fun e=>(by cases e),fun e=>absurd e.2 (by show ¬ (-1:Int)=(d.toNat:Int);omega)⟩
  | some y=>
   rw [bY h2]
   show [x,y]=[c,d]↔(x.toNat:Int)=(c.toNat:Int)∧(y.toNat:Int)=(d.toNat:Int)
   constructor
   ·intro e;injection e with e e2;injection e2 with e2;rw [e,e2];exact ⟨rfl,rfl⟩
   ·rintro ⟨e,e2⟩;rw [cj e,cj e2]
end Go.Proofs.YtnbceeholnkfeaaGreatDoor
