/- Loops, round by round. -/
import Derived.Test.YtnbceeholnkfeaaGreatDoorPl
import Derived.Test.YtnbceeholnkfeaaGreatDoorEpA
namespace Go.Proofs.YtnbceeholnkfeaaGreatDoor
def LT {S:Type} (F:(S→Prop)→S→Prop):Nat→S→Prop
 | 0=>fun _=>False
 | n+1=>fun s=>LT F n s∨F (LT F n) s
theorem D6 {S:Type} (F:(S→Prop)→S→Prop) (n:Nat) (s:S):LT F n s↔∃ m,m<n∧F (LT F m) s:=by
 induction n with
 | zero=>exact ⟨fun h=>h.elim,fun ⟨m,h,_⟩=>by omega⟩
 | succ n ih=>
  constructor
  ·rintro (h | h)
   ·obtain ⟨m,h1,h2⟩:=ih.1 h;exact ⟨m,by omega,h2⟩
   ·exact ⟨n,by omega,h⟩
  ·rintro ⟨m,h1,h2⟩
   rcases (by omega:m<n∨m=n) with h3 | rfl
   ·exact .inl (ih.2 ⟨m,h3,h2⟩)
   ·exact .inr h2
theorem ee {S:Type} {F:(S→Prop)→S→Prop} {s:S} (n:Nat) (h:F (LT F n) s):ba F s:=⟨fun s m=>F (LT F m) s,⟨n,h⟩,fun s m h=>by
 have e:(fun s'=>∃ m',m'<m∧F (LT F m') s')=LT F m:=funext fun s'=>propext (D6 F m s').symm
 show F (fun s'=>∃ m',m'<m∧F (LT F m') s') s
 rw [e];exact h⟩
end Go.Proofs.YtnbceeholnkfeaaGreatDoor
namespace Go.Proofs.YtnbceeholnkfeaaGreatDoor
def SJ9 (b:List UInt8) (m:Nat) (j:J9) (o:PS9) (r:Int×PS9):Prop:=∃ q,o=ps9 b j.s 0∧dW b j∧go9 b m j=some q∧r=rs9 b q
def S91 (b:List UInt8) (m:Nat) (o:PS9) (x:Bool) (r:Int×PS9):Prop:=∃ s,SJ9 b m (.alts x s) o r
def S92 (b:List UInt8) (m:Nat) (o:PS9) (x:Bool) (r:Int×PS9):Prop:=∃ s,SJ9 b m (.branch x s) o r
def S93 (b:List UInt8) (m:Nat) (o:PS9) (r:Int×PS9):Prop:=∃ s,SJ9 b m (.piece s) o r
def S94 (b:List UInt8) (m:Nat) (o:PS9) (r:Int×PS9):Prop:=∃ s,SJ9 b m (.atom s) o r
def S95 (b:List UInt8) (m:Nat) (o:PS9) (r:Int×PS9):Prop:=∃ s,SJ9 b m (.group s) o r
abbrev ST9:=List Int×List ND×Int×List UInt8×Int×Int×Arr 10 Bool
abbrev FA9 (c:PS9→Bool→Int×PS9→Prop) (x:Bool) (r:Int×PS9):=fun (ag:ST9→Prop) (s:ST9)=>ja c x ag s.1 s.2.1 s.2.2.1 s.2.2.2.1 s.2.2.2.2.1 s.2.2.2.2.2.1 s.2.2.2.2.2.2 r
abbrev FB9 (c:PS9→Int×PS9→Prop) (x:Bool) (r:Int×PS9):=fun (ag:ST9→Prop) (s:ST9)=>kW x c ag s.1 s.2.1 s.2.2.1 s.2.2.2.1 s.2.2.2.2.1 s.2.2.2.2.2.1 s.2.2.2.2.2.2 r
abbrev SP9:=Int×List ND×Int×List UInt8×Int×Int×Arr 10 Bool
abbrev FP9 (r:Int×PS9):=fun (ag:SP9→Prop) (s:SP9)=>lz ag s.1 s.2.1 s.2.2.1 s.2.2.2.1 s.2.2.2.2.1 s.2.2.2.2.2.1 s.2.2.2.2.2.2 r
theorem qZ {p q:Prop} [Decidable p] [Decidable q] (hp:p) (hq:q):(decide p && decide q)=true:=by rw [decide_eq_true hp,decide_eq_true hq];rfl
theorem xc {p q:Prop} [Decidable p] [Decidable q] (h:¬ (p∧q)):(decide p && decide q)=false:=by
 by_cases hp:p
 ·by_cases hq:q
  ·exact absurd ⟨hp,hq⟩ h
  ·rw [decide_eq_false hq,Bool.and_false]
 ·rw [decide_eq_false hp];rfl
theorem Cv (b:List UInt8) (x:Bool) (l:List Int) (e:Int) (s:Pz) (hl:e=0→l.length≤500000000) (c:PS9→Bool→Int×PS9→Prop) (ag:ST9→Prop) (h:¬ (e=0∧b[s.p]? =some 124)):
  FA9 c x (rs9 b (jT b x l e s)) ag (l,s.L,(s.g:Int),b,(s.p:Int),e,s.cl):=by
 have i124:=fZ b s e 124
 rw [xc h] at i124
 refine ⟨false,i124,ab (fun h=>by cases h) fun _=>ab (fun he=>?_) fun he=>?_⟩
 ·unfold jT;rw [if_pos he];rfl
 ·have he:=Decidable.not_not.1 he
  subst he
  have j2:∀ y:Bool,(y=true↔(x=true∧b[s.p]?≠some 41))→dT s.L (s.g:Int) b (s.p:Int) 0 s.cl l y (rs9 b (jT b x l 0 s)):=fun y hy=>by
   unfold jT
   rw [if_neg (fun h=>h rfl)]
   refine ab (fun h=>⟨_,eR b s 14,?_⟩) fun h=>⟨_,Co b l s (hl rfl),_,kv b (dh l s),?_⟩
   ·rw [if_pos (hy.1 h)]
   ·rw [if_neg (fun e=>h (hy.2 e))]
  have i41:=fZ b s 0 41
  refine ab (fun hx=>⟨_,i41,j2 _ ?_⟩) fun hx=>j2 false ?_
  ·rw [decide_eq_true rfl,Bool.true_and,Bool.not_eq_true',decide_eq_false_iff_not]
   exact ⟨fun e=>⟨hx,e⟩,fun e=>e.2⟩
  ·exact ⟨fun e=>(by cases e),fun e=>absurd e.1 hx⟩
theorem Cw (b:List UInt8) (hb:b.length≤40000000) (M:Nat) (x:Bool):∀ (n:Nat) (l:List Int) (e:Int) (s:Pz) (q:R9),n≤M→dW b (.altl x l e s)→(e=0→l.length≤s.p+1)→go9 b n (.altl x l e s)=some q→
  ∃ m,FA9 (fun a0 a1 r=>∃ m',m'<M∧S92 b m' a0 a1 r) x (rs9 b q) (LT (FA9 (fun a0 a1 r=>∃ m',m'<M∧S92 b m' a0 a1 r) x (rs9 b q)) m) (l,s.L,(s.g:Int),b,(s.p:Int),e,s.cl):=by
 intro n
 induction n with
 | zero=>intro l e s q _ _ _ h;cases h
 | succ n ih=>
  intro l e s q hn hj hl h
  obtain ⟨hj1,hj2⟩:=hj
  unfold go9 at h
  split at h
  ·rename_i h0
   obtain ⟨e0,h124⟩:=h0
   subst e0
   have hp:=(List.getElem?_eq_some_iff.1 h124).1
   obtain ⟨j1,j2⟩:=hj2 rfl
   obtain ⟨q1,h1,h2⟩:=bind_some h
   have hjb:dW b (.branch x (adv s 1)):=⟨hp,j2⟩
   have hat:=ej b n _ q1 h1 hjb
   obtain ⟨m,hm⟩:=ih (l++[q1.1]) q1.2.1 q1.2.2 q (by omega) ⟨by simp,fun e=>by obtain ⟨⟨a1,a2⟩,_⟩:At9 b (s.p+1) q1.2.2∧_:=hat e;exact a2⟩ (fun e=>by
    obtain ⟨⟨a1,a2⟩,_⟩:At9 b (s.p+1) q1.2.2∧_:=hat e
    have:=hl rfl
    simp only [List.length_append,List.length_cons,List.length_nil];omega) h2
   have i124:=fZ b s 0 124
   rw [qZ rfl h124] at i124
   refine ⟨m+1,true,i124,ab (fun _=>au (by show -9223372036854775808≤(s.p:Int)+1∧(s.p:Int)+1≤_;omega) ⟨rs9 b q1,⟨n,by omega,adv s 1,q1,rfl,hjb,h1,rfl⟩,dD (by show l.length+1≤_;have:=hl rfl;omega) (by omega) (.inr hm)⟩) fun h=>absurd rfl h⟩
  ·rename_i h0
   injection h with h
   subst h
   exact ⟨0,Cv b x l e s (fun e=>by have:=hl e;have:=(hj2 e).1;omega) _ _ h0⟩
theorem DF (b:List UInt8) (x:Bool) (l:List Int) (e:Int) (s:Pz) (hl:e=0→l.length≤500000000) (c:PS9→Int×PS9→Prop) (ag:ST9→Prop) (h:¬ mT b x e s=true):
  FB9 c x (rs9 b (brE l e s)) ag (l,s.L,(s.g:Int),b,(s.p:Int),e,s.cl):=by
 have j2:∀ y:Bool,y=false→cI c s.L (s.g:Int) b (s.p:Int) e s.cl l ag y (rs9 b (brE l e s)):=fun y hy=>by
  subst hy
  refine ab (fun h=>by cases h) fun _=>?_
  unfold brE
  refine ab (fun he=>?_) fun he=>?_
  ·rw [if_pos he];rfl
  ·have he:=Decidable.not_not.1 he
   subst he
   rw [if_neg (fun h=>h rfl)]
   refine ab (fun h=>⟨_,eR b s 15,?_⟩) fun h=>⟨_,Cm b l s (hl rfl),_,kv b (bd l s),?_⟩
   ·rw [if_pos (List.length_eq_zero_iff.1 (by omega))]
   ·rw [if_neg (fun e=>h (by rw [e];rfl))]
 refine ⟨_,qV b s e,ab (fun h1=>⟨_,fZ b s e 124,ab (fun h2=>?_) fun _=>j2 false rfl⟩) fun _=>j2 false rfl⟩
 simp only [Bool.and_eq_true,decide_eq_true_eq] at h1 h2
 have h3:x=true∧b[s.p]? =some 41:=Decidable.not_not.1 fun h3=>h (d9.2 ⟨h1.1,h1.2,fun e=>h2 ⟨h1.1,e⟩,h3⟩)
 refine ab (fun _=>⟨_,fZ b s e 41,j2 _ ?_⟩) fun hx=>absurd h3.1 hx
 rw [qZ h1.1 h3.2];rfl
theorem DG (b:List UInt8) (hb:b.length≤40000000) (M:Nat) (x:Bool):∀ (n:Nat) (l:List Int) (e:Int) (s:Pz) (q:R9),n≤M→dW b (.brl x l e s)→(e=0→l.length≤s.p)→go9 b n (.brl x l e s)=some q→
  ∃ m,FB9 (fun a0 r=>∃ m',m'<M∧S93 b m' a0 r) x (rs9 b q) (LT (FB9 (fun a0 r=>∃ m',m'<M∧S93 b m' a0 r) x (rs9 b q)) m) (l,s.L,(s.g:Int),b,(s.p:Int),e,s.cl):=by
 intro n
 induction n with
 | zero=>intro l e s q _ _ _ h;cases h
 | succ n ih=>
  intro l e s q hn hj hl h
  unfold go9 at h
  split at h
  ·rename_i h0
   obtain ⟨e0,hp,h124,h41⟩:=d9.1 h0
   subst e0
   obtain ⟨j1,j2⟩:=hj rfl
   obtain ⟨q1,h1,h2⟩:=bind_some h
   have hjb:dW b (.piece s):=⟨hp,j2⟩
   have hat:=ej b n _ q1 h1 hjb
   obtain ⟨m,hm⟩:=ih (l++[q1.1]) q1.2.1 q1.2.2 q (by omega) (fun e=>by obtain ⟨⟨a1,a2⟩,_⟩:At9 b (s.p+1) q1.2.2∧_:=hat e;exact a2) (fun e=>by
    obtain ⟨⟨a1,a2⟩,_⟩:At9 b (s.p+1) q1.2.2∧_:=hat e
    have:=hl rfl
    simp only [List.length_append,List.length_cons,List.length_nil];omega) h2
   have j2':∀ y:Bool,y=true→cI (fun a0 r=>∃ m',m'<M∧S93 b m' a0 r) s.L (s.g:Int) b (s.p:Int) 0 s.cl l (LT (FB9 (fun a0 r=>∃ m',m'<M∧S93 b m' a0 r) x (rs9 b q)) (m+1)) y (rs9 b q):=fun y hy=>
    ab (fun _=>⟨rs9 b q1,⟨n,by omega,s,q1,rfl,hjb,h1,rfl⟩,dD (by show l.length+1≤_;have:=hl rfl;omega) (by omega) (.inr hm)⟩) fun h=>absurd hy h
   refine ⟨m+1,_,qV b s 0,ab (fun _=>⟨_,fZ b s 0 124,ab (fun _=>ab (fun hx=>⟨_,fZ b s 0 41,j2' _ ?_⟩) fun _=>j2' true rfl) fun h=>absurd (by rw [xc (fun e=>h124 e.2)];decide) h⟩) fun h=>absurd (qZ rfl hp) h⟩
   rw [xc (fun e=>h41 ⟨hx,e.2⟩)];rfl
  ·rename_i h0
   injection h with h
   subst h
   exact ⟨0,DF b x l e s (fun e=>by have:=hl e;have:=(hj e).1;omega) _ _ h0⟩
theorem kw {b:List UInt8} {p:Nat}:fp b p=true↔b[p]? =some 42∨b[p]? =some 43∨b[p]? =some 63∨b[p]? =some 123:=by
 unfold fp
 cases b[p]? with
 | none=>simp
 | some c=>simp only [decide_eq_true_eq,Option.some.injEq];exact Iff.rfl
theorem Ah (b:List UInt8) (hb:b.length≤40000000):∀ (n:Nat) (k e:Int) (s:Pz),(e=0→s.p≤b.length∧s.g≤9∧b.length - s.p<n)→
  ∃ m,FP9 (rs9 b (aU b n k e s)) (LT (FP9 (rs9 b (aU b n k e s))) m) (k,s.L,(s.g:Int),b,(s.p:Int),e,s.cl):=by
 have hend:∀ (k e:Int) (s:Pz) (ag:SP9→Prop),¬ (e=0∧fp b s.p=true)→FP9 (rs9 b (k,e,s)) ag (k,s.L,(s.g:Int),b,(s.p:Int),e,s.cl):=fun k e s ag h=>by
  have h1:∀ c:UInt8,(c=42∨c=43∨c=63∨c=123)→¬ (e=0∧b[s.p]? =some c):=fun c hc h2=>h ⟨h2.1,kw.2 (by rcases hc with rfl | rfl | rfl | rfl <;> simp [h2.2])⟩
  have i1:=fZ b s e 42
  have i2:=fZ b s e 43
  have i3:=fZ b s e 63
  have i4:=fZ b s e 123
  rw [xc (h1 _ (by decide))] at i1 i2 i3 i4
  exact ⟨_,i1,ab (fun h=>by cases h) fun _=>⟨_,i2,ab (fun h=>by cases h) fun _=>⟨_,i3,ab (fun h=>by cases h) fun _=>⟨_,i4,ab (fun h=>by cases h) fun _=>rfl⟩⟩⟩⟩
 intro n
 induction n with
 | zero=>intro k e s h;exact ⟨0,hend k e s _ fun h1=>by have:=(h h1.1).2.2;omega⟩
 | succ n ih=>
  intro k e s h
  unfold aU
  by_cases h0:e=0∧fp b s.p=true
  ·rw [if_pos h0]
   obtain ⟨rfl,h1⟩:=h0
   obtain ⟨j1,j2,j3⟩:=h rfl
   have hp:=oJ h1
   obtain ⟨m,hm⟩:=ih (cE b k s).1 (cE b k s).2.1 (cE b k s).2.2 (fun e=>by
    obtain ⟨⟨a1,a2,a3⟩,_⟩:=sS hp j2 e
    exact ⟨a2,a3,by omega⟩)
   generalize hr:rs9 b (aU b n (cE b k s).1 (cE b k s).2.1 (cE b k s).2.2)=r at hm
   have j2':∀ y:Bool,y=true→dN s.L (s.g:Int) b (s.p:Int) 0 s.cl k (LT (FP9 r) (m+1)) y r:=fun y hy=>
    ab (fun _=>⟨_,Cp b k s hb hp,.inr hm⟩) fun h=>absurd hy h
   refine ⟨m+1,_,fZ b s 0 42,ab (fun _=>j2' true rfl) fun n1=>⟨_,fZ b s 0 43,ab (fun _=>j2' true rfl) fun n2=>⟨_,fZ b s 0 63,ab (fun _=>j2' true rfl) fun n3=>⟨_,fZ b s 0 123,j2' _ ?_⟩⟩⟩⟩
   refine qZ rfl ?_
   rcases kw.1 h1 with e | e | e | e
   ·exact absurd (qZ rfl e) n1
   ·exact absurd (qZ rfl e) n2
   ·exact absurd (qZ rfl e) n3
   ·exact e
  ·rw [if_neg h0]
   exact ⟨0,hend k e s _ h0⟩
theorem Ai (b:List UInt8) (hb:b.length≤40000000) (s:Pz) (c:UInt8) (hc:b[s.p]? =some c) (h1:¬ repC c) (h2:c≠41) (h3:c≠40) (c4:PS9→Int×PS9→Prop) (y:Bool) (hy:y=false):
  dn (ps9 b s 0) c c4 y (rs9 b (cN b s c)):=by
 subst hy
 have hl:=(List.getElem?_eq_some_iff.1 hc).1
 unfold cN
 have nat:∀ {d:UInt8} {n:Int},(d.toNat:Int)=n→(c.toNat:Int)=n→c=d:=fun h h'=>cj (h'.trans h.symm)
 refine ab (fun h=>by cases h) fun _=>ab (fun h=>absurd (nat (d:=41) rfl h) h2) fun _=>ab (fun h=>absurd (nat (d:=40) rfl h) h3) fun _=>ab (fun h=>?_) fun h=>ab (fun h'=>?_) fun h'=>ab (fun h''=>?_) fun h''=>?_
 ·rw [if_pos (nat (d:=92) rfl h)]
  exact ⟨_,Cq b s hb hl,rfl⟩
 all_goals rw [if_neg (fun e=>h (by rw [e];rfl))]
 ·rw [if_pos (nat (d:=46) rfl h')]
  exact ⟨_,rM z4,_,nR b _ s 1 (s.p+1) (by omega) (by omega),rfl⟩
 all_goals rw [if_neg (fun e=>h' (by rw [e];rfl))]
 ·rw [if_pos (nat (d:=91) rfl h'')]
  refine au (by show -9223372036854775808≤(s.p:Int)+1∧(s.p:Int)+1≤_;omega) ⟨_,ut b (s.p+1) hb hl,ab (fun he=>⟨_,eR b s _,?_⟩) fun he=>?_⟩
  ·rw [if_neg he]
  ·have he:=Decidable.not_not.1 he
   obtain ⟨z,hz,hz1,hz2⟩:=fJ he hl
   rw [if_pos he,hz,Int.toNat_natCast]
   exact au (by show -9223372036854775808≤(z:Int) - (s.p:Int)∧(z:Int) - (s.p:Int)≤_;omega) ⟨_,nR b _ s _ z (by show (s.p:Int)+((z:Int) - (s.p:Int))=_;omega) (by omega),rfl⟩
 ·rw [if_neg (fun e=>h'' (by rw [e];rfl))]
  exact ⟨_,oE [c] (by simp),_,nR b _ s 1 (s.p+1) (by omega) (by omega),rfl⟩
theorem Cx (b:List UInt8) (hb:b.length≤40000000):eH (S91 b) (S92 b) (S93 b) (S94 b) (S95 b):=by
 refine ⟨?_,?_,?_,?_,?_⟩
 ·rintro m _ x _ ⟨s,q,rfl,hj,h,rfl⟩
  cases m with
  | zero=>cases h
  | succ n=>
   obtain ⟨q1,h1,h2⟩:=bind_some h
   have hjb:dW b (.branch x s):=hj
   have hat:=ej b n _ q1 h1 hjb
   obtain ⟨m,hm⟩:=Cw b hb (n+1) x n [q1.1] q1.2.1 q1.2.2 q (by omega) ⟨by simp,fun e=>by obtain ⟨⟨a1,a2⟩,_⟩:At9 b s.p q1.2.2∧_:=hat e;exact a2⟩ (fun _=>by simp) h2
   exact ⟨rs9 b q1,⟨n,by omega,s,q1,rfl,hjb,h1,rfl⟩,ee m hm⟩
 ·rintro m _ x _ ⟨s,q,rfl,hj,h,rfl⟩
  cases m with
  | zero=>cases h
  | succ n=>
   obtain ⟨m,hm⟩:=DG b hb (n+1) x n [] 0 s q (by omega) (fun _=>hj) (fun _=>Nat.zero_le _) h
   exact ee m hm
 ·rintro m _ _ ⟨s,q,rfl,hj,h,rfl⟩
  cases m with
  | zero=>cases h
  | succ n=>
   obtain ⟨j1,j2⟩:=hj
   have j1:s.p<b.length:=j1
   have j2:s.g≤9:=j2
   have hin:InR ((s.p:Int)+1):=⟨by omega,by omega⟩
   obtain ⟨c,hc⟩:∃ c,b[s.p]? =some c:=⟨_,List.getElem?_eq_getElem j1⟩
   unfold go9 at h
   rw [hc] at h
   dsimp only at h
   refine ⟨by show (0:Int)≤(s.p:Int);omega,c,by show b[((s.p:Int)).toNat]? =_;rw [Int.toNat_natCast];exact hc,ab (fun h94=>?_) fun h94=>ab (fun h36=>?_) fun h36=>?_⟩
   ·rw [if_pos (show c=94 from cj h94)] at h
    injection h with h
    subst h
    exact au hin ⟨_,⟨_,jN b _ (adv s 1) 0,rfl⟩,_,kv b _,rfl⟩
   all_goals rw [if_neg (fun e=>h94 (by rw [e];rfl))] at h
   ·rw [if_pos (show c=36 from cj h36)] at h
    injection h with h
    subst h
    exact au hin ⟨_,⟨_,jN b _ (adv s 1) 0,rfl⟩,_,kv b _,rfl⟩
   ·rw [if_neg (fun e=>h36 (by rw [e];rfl))] at h
    obtain ⟨q1,h1,rfl⟩:=map_some h
    have hat:=ej b n _ q1 h1 ⟨j1,j2⟩
    obtain ⟨m,hm⟩:=Ah b hb (b.length+1) q1.1 q1.2.1 q1.2.2 (fun e=>by
     obtain ⟨⟨a1,a2,a3⟩,_⟩:At9 b (s.p+1) q1.2.2∧_:=hat e
     exact ⟨a2,a3,by omega⟩)
    exact ⟨rs9 b q1,⟨n,by omega,s,q1,rfl,⟨j1,j2⟩,h1,rfl⟩,ee m hm⟩
 ·rintro m _ _ ⟨s,q,rfl,hj,h,rfl⟩
  cases m with
  | zero=>cases h
  | succ n=>
   obtain ⟨j1,j2⟩:=hj
   have j1:s.p<b.length:=j1
   have j2:s.g≤9:=j2
   obtain ⟨c,hc⟩:∃ c,b[s.p]? =some c:=⟨_,List.getElem?_eq_getElem j1⟩
   unfold go9 at h
   rw [hc] at h
   dsimp only at h
   have j1t:∀ y:Bool,(y=true↔repC c)→dn (ps9 b s 0) c (fun a0 r=>∃ m',m'<n+1∧S95 b m' a0 r) y (rs9 b q):=fun y hy=>by
    by_cases hr:repC c
    ·rw [if_pos hr] at h
     injection h with h
     subst h
     exact ab (fun _=>⟨_,eR b s 13,rfl⟩) fun e=>absurd (hy.2 hr) e
    rw [if_neg hr] at h
    have hyf:y=false:=by
     cases y with
     | false=>rfl
     | true=>exact absurd (hy.1 rfl) hr
    by_cases h41:c=41
    ·rw [if_pos h41] at h
     injection h with h
     subst h
     exact ab (fun e=>by rw [hyf] at e;cases e) fun _=>ab (fun _=>⟨_,eR b s 14,rfl⟩) fun e=>absurd (by rw [h41];rfl) e
    rw [if_neg h41] at h
    by_cases h40:c=40
    ·rw [if_pos h40] at h
     exact ab (fun e=>by rw [hyf] at e;cases e) fun _=>ab (fun e=>absurd (cj (b:=41) e) h41) fun _=>ab (fun _=>⟨_,⟨n,by omega,s,q,rfl,⟨j1,j2⟩,h,rfl⟩,rfl⟩) fun e=>absurd (by rw [h40];rfl) e
    ·rw [if_neg h40] at h
     injection h with h
     subst h
     exact Ai b hb s c hc hr h41 h40 _ y hyf
   have cst:∀ (d:UInt8) (n:Int),(d.toNat:Int)=n→(c.toNat:Int)=n→c=d:=fun d n h h'=>cj (h'.trans h.symm)
   refine ⟨by show (0:Int)≤(s.p:Int);omega,c,by show b[((s.p:Int)).toNat]? =_;rw [Int.toNat_natCast];exact hc,ab (fun e1=>j1t _ ?_) fun e1=>ab (fun e2=>j1t _ ?_) fun e2=>ab (fun e3=>j1t _ ?_) fun e3=>j1t _ ?_⟩
   ·rw [decide_eq_true e1];exact ⟨fun _=>.inl (cst 42 _ rfl e1),fun _=>rfl⟩
   ·rw [decide_eq_true e2];exact ⟨fun _=>.inr (.inl (cst 43 _ rfl e2)),fun _=>rfl⟩
   ·rw [decide_eq_true e3];exact ⟨fun _=>.inr (.inr (.inl (cst 63 _ rfl e3))),fun _=>rfl⟩
   ·rw [decide_eq_true_eq]
    constructor
    ·exact fun e4=>.inr (.inr (.inr (cst 123 _ rfl e4)))
    ·rintro (e | e | e | e)
     ·exact absurd (by rw [e];rfl) e1
     ·exact absurd (by rw [e];rfl) e2
     ·exact absurd (by rw [e];rfl) e3
     ·rw [e];rfl
 ·rintro m _ _ ⟨s,q,rfl,hj,h,rfl⟩
  cases m with
  | zero=>cases h
  | succ n=>
   obtain ⟨j1,j2⟩:=hj
   have j1:s.p<b.length:=j1
   have j2:s.g≤9:=j2
   unfold go9 at h
   split at h
   ·rename_i h9
    injection h with h
    subst h
    exact ⟨(-1,ps9 b s 0),ab (fun _=>rfl) fun h=>absurd (by show (9:Int)≤(s.g:Int);omega) h,ab (fun _=>⟨_,eR b s 17,rfl⟩) fun h=>absurd (by show (-1:Int)<0;decide) h⟩
   ·rename_i h9
    obtain ⟨q1,h1,rfl⟩:=map_some h
    have hj1:dW b (.alts true { s with g:=s.g+1,p:=s.p+1 }):=⟨j1,by show s.g+1≤9;omega⟩
    have hat:=ej b n _ q1 h1 hj1
    refine ⟨((s.g:Int)+1,((s.L,(s.g:Int)+1),b,(s.p:Int),0,s.cl)),ab (fun h=>absurd (by have h:(9:Int)≤(s.g:Int):=h;omega) h9) fun _=>au (by show -9223372036854775808≤(s.g:Int)+1∧(s.g:Int)+1≤_;omega) rfl,ab (fun h=>by have h:(s.g:Int)+1<0:=h;omega) fun _=>au (by show -9223372036854775808≤(s.p:Int)+1∧(s.p:Int)+1≤_;omega) ⟨rs9 b q1,⟨n,by omega,_,q1,rfl,hj1,h1,rfl⟩,?_⟩⟩
    unfold mD
    refine ab (fun he=>?_) fun he=>?_
    ·have he:q1.2.1≠0:=he
     rw [if_pos he];rfl
    ·have he:q1.2.1=0:=Decidable.not_not.1 he
     rw [if_neg (fun h=>h he)]
     obtain ⟨⟨a1,a2,a3⟩,_,a5⟩:At9 b (s.p+1) q1.2.2∧_∧(true=true→b[q1.2.2.p]? =some 41):=hat he
     have a5:=(List.getElem?_eq_some_iff.1 (a5 rfl)).1
     have hlen:q1.2.2.cl.l.length=10:=q1.2.2.cl.len
     have eg:((s.g:Int)+1).toNat=s.g+1:=by omega
     have eg2:(s.g:Int)+1=((s.g+1:Nat):Int):=by omega
     refine au (by show -9223372036854775808≤(q1.2.2.p:Int)+1∧(q1.2.2.p:Int)+1≤_;omega) ⟨⟨by show (0:Int)≤(s.g:Int)+1;omega,by show (s.g:Int)+1<10;omega⟩,q1.2.2.cl.l[s.g+1],?_,((ah (5,q1.1,0,0,0,((s.g+1:Nat):Int),aj) { q1.2.2 with p:=q1.2.2.p+1,cl:=Arr.set q1.2.2.cl (s.g+1) true }).1,ps9 b (ah (5,q1.1,0,0,0,((s.g+1:Nat):Int),aj) { q1.2.2 with p:=q1.2.2.p+1,cl:=Arr.set q1.2.2.cl (s.g+1) true }).2 0),⟨((ah (5,q1.1,0,0,0,((s.g+1:Nat):Int),aj) { q1.2.2 with p:=q1.2.2.p+1,cl:=Arr.set q1.2.2.cl (s.g+1) true }).1,ps9 b (ah (5,q1.1,0,0,0,((s.g+1:Nat):Int),aj) { q1.2.2 with p:=q1.2.2.p+1,cl:=Arr.set q1.2.2.cl (s.g+1) true }).2 0),?_,rfl⟩,_,kv b (ah (5,q1.1,0,0,0,((s.g+1:Nat):Int),aj) { q1.2.2 with p:=q1.2.2.p+1,cl:=Arr.set q1.2.2.cl (s.g+1) true }),rfl⟩
     ·show q1.2.2.cl.l[((s.g:Int)+1).toNat]? =_
      rw [eg];exact List.getElem?_eq_getElem (by omega)
     ·show bC ((q1.2.2.L,(q1.2.2.g:Int)),b,(q1.2.2.p:Int)+1,q1.2.1,Arr.set q1.2.2.cl ((s.g:Int)+1).toNat true) (5,q1.1,0,0,0,(s.g:Int)+1,_) _
      rw [eg,eg2,he]
      exact jN b (5,q1.1,0,0,0,((s.g+1:Nat):Int),aj) { q1.2.2 with p:=q1.2.2.p+1,cl:=Arr.set q1.2.2.cl (s.g+1) true } 0
end Go.Proofs.YtnbceeholnkfeaaGreatDoor
namespace Go.Proofs.YtnbceeholnkfeaaGreatDoor
theorem DH {L:List ND} {g:Nat} {l:List Int} {s:Pz} (h:Gr L g s.L s.g l) (hr:0≤(dh l s).1):Gr L g (dh l s).2.L (dh l s).2.g [(dh l s).1]:=by
 cases l with
 | nil=>exact absurd hr (by show ¬ (0:Int)≤-1;decide)
 | cons x t=>
  rw [kh] at hr ⊢
  by_cases h1:x<0∨(s.L.length:Int)≤x
  ·rw [if_pos h1] at hr;exact absurd hr (by show ¬ (0:Int)≤-1;decide)
  ·rw [if_neg h1] at hr ⊢
   exact sQ (.inr rfl) t x s h (by omega) hr
def GrE (L:List ND) (g:Nat) (q:R9):Prop:=0≤q.1∧Gr L g q.2.2.L q.2.2.g [q.1]
theorem pC {L:List ND} {g:Nat} {x:Int×Pz} (h:(okE x).2.1=0) (k:0≤x.1→Gr L g x.2.L x.2.g [x.1]):GrE L g (okE x):=by
 obtain ⟨h1,h2⟩:=Cr h
 rw [h2]
 exact ⟨h1,k h1⟩
theorem rU {L:List ND} {g:Nat} {k lo hi:Int} {s:Pz} (h:Gr L g s.L s.g [k]) (hr:(okE (ah (4,k,0,lo,hi,0,aj) s)).2.1=0):GrE L g (okE (ah (4,k,0,lo,hi,0,aj) s)):=
 pC hr fun hp=>nQ (R:=[]) h hp (by show (4:Int)≠5;decide) fun z=>by rw [show aY (4,k,0,lo,hi,0,aj)=[k] from rfl];simp
theorem sT {b:List UInt8} {L:List ND} {g:Nat} {k lo hi:Int} {s:Pz} {a:Nat} (h:Gr L g s.L s.g [k]) (hr:(dy b k lo hi s a).2.1=0):GrE L g (dy b k lo hi s a):=by
 unfold dy at hr ⊢
 split at hr
 ·rename_i h1
  rw [if_pos h1]
  exact rU (s:={ s with p:=a+1 }) h hr
 ·cases hr
theorem Cy {b:List UInt8} {L:List ND} {g:Nat} {k:Int} {s:Pz} (h:Gr L g s.L s.g [k]) (hr:(cE b k s).2.1=0):GrE L g (cE b k s):=by
 unfold cE at hr ⊢
 by_cases h1:b[s.p]? =some 43
 ·rw [if_pos h1] at hr ⊢;exact rU (s:=adv s 1) h hr
 rw [if_neg h1] at hr ⊢
 by_cases h1:b[s.p]? =some 63
 ·rw [if_pos h1] at hr ⊢;exact rU (s:=adv s 1) h hr
 rw [if_neg h1] at hr ⊢
 by_cases h1:b[s.p]? =some 123
 ·rw [if_pos h1] at hr ⊢
  unfold kL at hr ⊢
  by_cases h2:(am b (s.p+1)).2.2≠0
  ·rw [if_pos h2] at hr;cases hr
  rw [if_neg h2] at hr ⊢
  by_cases h3:b[(am b (s.p+1)).2.1.toNat]? =some 44
  ·rw [if_pos h3] at hr ⊢
   by_cases h4:(am b ((am b (s.p+1)).2.1.toNat+1)).2.2=0
   ·rw [if_pos h4] at hr ⊢;exact sT h hr
   ·rw [if_neg h4] at hr ⊢
    by_cases h5:(am b ((am b (s.p+1)).2.1.toNat+1)).2.2=9
    ·rw [if_pos h5] at hr ⊢;exact sT h hr
    ·rw [if_neg h5] at hr;cases hr
  ·rw [if_neg h3] at hr ⊢;exact sT h hr
 ·rw [if_neg h1] at hr ⊢;exact rU (s:=adv s 1) h hr
theorem Aj {b:List UInt8} {L:List ND} {g:Nat}:∀ (n:Nat) (k e:Int) (s:Pz),(e=0→0≤k∧Gr L g s.L s.g [k])→(aU b n k e s).2.1=0→GrE L g (aU b n k e s):=by
 intro n
 induction n with
 | zero=>intro k e s h h0;exact h h0
 | succ n ih=>
  intro k e s h h0
  unfold aU at h0 ⊢
  by_cases h1:e=0∧fp b s.p=true
  ·rw [if_pos h1] at h0 ⊢
   exact ih _ _ _ (fun h3=>Cy (h h1.1).2 h3) h0
  ·rw [if_neg h1] at h0 ⊢
   exact h h0
theorem uj {L:List ND} {g:Nat} {n:ND} {s:Pz} (h:Gr L g s.L s.g []) (hn:n.1≠5) (hl:aY n=[]) (hr:(okE (ah n s)).2.1=0):GrE L g (okE (ah n s)):=pC hr fun hp=>sR (R:=[]) h hp hn hl
theorem Ak {b:List UInt8} {L:List ND} {g:Nat} {s:Pz} {c:UInt8} (h:Gr L g s.L s.g []) (hr:(cN b s c).2.1=0):GrE L g (cN b s c):=by
 have hset:∀ (S:ay) (s':Pz),s'.L=s.L→s'.g=s.g→(okE (ah (cn S) s')).2.1=0→GrE L g (okE (ah (cn S) s')):=fun S s' e1 e2 hr=>uj (by rw [e1,e2];exact h) (by show (1:Int)≠5;decide) rfl hr
 unfold cN at hr ⊢
 by_cases h1:c=92
 ·rw [if_pos h1] at hr ⊢
  unfold jf at hr ⊢
  cases hc:b[s.p+1]? with
  | none=>rw [hc] at hr;cases hr
  | some d=>
   rw [hc] at hr
   dsimp only at hr ⊢
   split at hr
   ·rename_i h2
    rw [if_pos h2]
    split at hr
    ·rename_i h3
     rw [if_pos h3];exact uj (s:=adv s 2) h (by show (6:Int)≠5;decide) rfl hr
    ·cases hr
   ·rename_i h2
    rw [if_neg h2]
    split at hr
    ·cases hr
    ·rename_i h3
     rw [if_neg h3];exact hset _ _ rfl rfl hr
 rw [if_neg h1] at hr ⊢
 by_cases h1:c=46
 ·rw [if_pos h1] at hr ⊢;exact hset _ _ rfl rfl hr
 rw [if_neg h1] at hr ⊢
 by_cases h1:c=91
 ·rw [if_pos h1] at hr ⊢
  by_cases h2:(bn b (s.p+1)).2.2=0
  ·rw [if_pos h2] at hr ⊢;exact hset _ _ rfl rfl hr
  ·rw [if_neg h2] at hr;exact absurd hr h2
 ·rw [if_neg h1] at hr ⊢;exact hset _ _ rfl rfl hr
def FF (L:List ND) (g:Nat):J9→R9→Prop
 | .altl _ l _ s,q | .brl _ l _ s,q=>Gr L g s.L s.g l→GrE L g q
 | .alts _ s,q | .branch _ s,q | .piece s,q | .atom s,q | .group s,q=>Gr L g s.L s.g []→GrE L g q
theorem lJ {b:List UInt8} {n:Nat} {x:Bool} {l:List Int} {e:Int} {s:Pz} {q:R9} (h:go9 b n (.altl x l e s)=some q∨go9 b n (.brl x l e s)=some q) (hw:q.2.1=0):e=0:=by
 refine Decidable.not_not.1 fun he=>?_
 cases n with
 | zero=>rcases h with h | h <;> cases h
 | succ n=>
  obtain ⟨h1,h2⟩:=nS b n x l e s he
  rw [h1,h2] at h
  rcases h with h | h <;> (injection h with h;subst h;exact he hw)
theorem nT (b:List UInt8):∀ (n:Nat) (j:J9) (q:R9),go9 b n j=some q→q.2.1=0→∀ L g,FF L g j q:=by
 intro n
 induction n with
 | zero=>intro j q h;cases h
 | succ n ih=>
  intro j q h hw L g
  have len:∀ {L':List ND} {g':Nat} {R:List Int},Gr L g L' g' R→L'.length≤1000:=fun h=>by obtain ⟨_,_,_,_,_,_,h5⟩:=h;exact h5
  cases j with
  | alts x s=>
   intro hs
   obtain ⟨q1,h1,h2⟩:=bind_some h
   exact ih _ _ h2 hw L g (ih _ _ h1 (lJ (.inl h2) hw) L g hs).2
  | altl x l e s=>
   intro hs
   unfold go9 at h
   split at h
   ·obtain ⟨q1,h1,h2⟩:=bind_some h
    have:=(ih _ _ h1 (lJ (.inl h2) hw) s.L s.g (dx _ _ (len hs))).2
    exact ih _ _ h2 hw L g (jr hs this)
   ·injection h with h
    subst h
    unfold jT at hw ⊢
    by_cases he:e≠0
    ·rw [if_pos he] at hw;exact absurd hw he
    rw [if_neg he] at hw ⊢
    split at hw
    ·cases hw
    ·rename_i h3
     rw [if_neg h3]
     exact pC hw fun hp=>DH hs hp
  | branch x s=>intro hs;exact ih (.brl x [] 0 s) q h hw L g hs
  | brl x l e s=>
   intro hs
   unfold go9 at h
   split at h
   ·obtain ⟨q1,h1,h2⟩:=bind_some h
    have:=(ih _ _ h1 (lJ (.inr h2) hw) s.L s.g (dx _ _ (len hs))).2
    exact ih _ _ h2 hw L g (jr hs this)
   ·injection h with h
    subst h
    unfold brE at hw ⊢
    by_cases he:e≠0
    ·rw [if_pos he] at hw;exact absurd hw he
    rw [if_neg he] at hw ⊢
    split at hw
    ·cases hw
    ·rename_i h3
     rw [if_neg h3]
     exact pC hw fun hp=>yu hs hp
  | piece s=>
   intro hs
   unfold go9 at h
   split at h
   ·cases h
   ·split at h
    ·injection h with h;subst h;exact uj (s:=adv s 1) hs (by show (7:Int)≠5;decide) rfl hw
    ·split at h
     ·injection h with h;subst h;exact uj (s:=adv s 1) hs (by show (8:Int)≠5;decide) rfl hw
     ·obtain ⟨q1,h1,rfl⟩:=map_some h
      exact Aj _ _ _ _ (fun he=>ih (.atom s) q1 h1 he L g hs) hw
  | atom s=>
   intro hs
   unfold go9 at h
   split at h
   ·cases h
   ·split at h
    ·injection h with h;subst h;cases hw
    ·split at h
     ·injection h with h;subst h;cases hw
     ·split at h
      ·exact ih (.group s) q h hw L g hs
      ·injection h with h;subst h;exact Ak hs hw
  | group s=>
   intro hs
   unfold go9 at h
   split at h
   ·injection h with h;subst h;cases hw
   ·obtain ⟨q1,h1,rfl⟩:=map_some h
    unfold mD at hw ⊢
    by_cases he:q1.2.1≠0
    ·rw [if_pos he] at hw;exact absurd hw he
    rw [if_neg he] at hw ⊢
    refine pC hw fun hp=>?_
    have h2:=(ih _ _ h1 (Decidable.not_not.1 he) s.L (s.g+1) (dx s.L (s.g+1) (len hs))).2
    exact jr hs (uA (s:={ q1.2.2 with p:=q1.2.2.p+1,cl:=Arr.set q1.2.2.cl (s.g+1) true }) h2 hp)
abbrev RE:=(List ND×Int)×Int×Int
def jg (q:R9):RE:=if q.2.1≠0 then (([],0),(q.2.2.p:Int),q.2.1) else ((q.2.2.L,(q.2.2.g:Int)),0,0)
theorem Cz (b:List UInt8):∀ (n:Nat) (x:Bool) (l:List Int) (e:Int) (s:Pz) (q:R9),go9 b n (.altl x l e s)=some q→q.2.1≠0→q.1= -1:=by
 intro n
 induction n with
 | zero=>intro x l e s q h;cases h
 | succ n ih=>
  intro x l e s q h hw
  unfold go9 at h
  split at h
  ·obtain ⟨q1,h1,h2⟩:=bind_some h
   exact ih _ _ _ _ q h2 hw
  ·injection h with h
   subst h
   unfold jT at hw ⊢
   split
   ·rfl
   ·rename_i he
    rw [if_neg he] at hw
    split
    ·rfl
    ·rename_i h3
     rw [if_neg h3] at hw
     unfold okE at hw ⊢
     split
     ·rfl
     ·rename_i h4
      rw [if_neg h4] at hw
      exact absurd rfl hw
theorem Al {b:List UInt8} {n:Nat} {x:Bool} {s:Pz} {q:R9} (h:go9 b n (.alts x s)=some q) (hw:q.2.1≠0):q.1= -1:=by
 cases n with
 | zero=>cases h
 | succ n=>
  obtain ⟨q1,h1,h2⟩:=bind_some h
  exact Cz b n _ _ _ _ q h2 hw
theorem oK {b:List UInt8} {m:Nat} {q:R9} (hq:go9 b m (.alts false pz0)=some q) (hw:q.2.1=0):eC q.2.2.L q.2.2.g=true∧q.1=(q.2.2.L.length:Int) - 1∧1≤q.2.2.L.length∧q.2.2.L.length≤1000:=by
 obtain ⟨⟨_,_,h⟩,_⟩:At9 b 0 q.2.2∧_:=ej b m _ q hq ⟨Nat.zero_le _,Nat.zero_le _⟩ hw
 exact uB (nT b m _ q hq hw [] 0 (dx [] 0 (by simp))).2 h
theorem yy (b:List UInt8) (q:R9) (h1:eC q.2.2.L q.2.2.g=true) (h2:q.1=(q.2.2.L.length:Int) - 1) (h3:1≤q.2.2.L.length) (h4:q.2.2.L.length≤1000):
  hP (ps9 b q.2.2 q.2.1) q.1 ((q.2.2.L,(q.2.2.g:Int)),true):=by
 show gF q.1 (ps9 b q.2.2 q.2.1) (decide (q.1<0) || decide ((q.2.2.L.length:Int)≤q.1)) _
 rw [decide_eq_false (by omega),decide_eq_false (by omega)]
 refine ab (fun h=>by cases h) fun _=>⟨iH (by omega) (by omega),⟨by omega,by show q.1+1≤(q.2.2.L.length:Int);omega⟩,q.2.2.L,?_,true,?_,ab (fun h=>absurd rfl h) fun _=>rfl⟩
 ·show fY (q.2.2.L.take (q.1+1).toNat) q.2.2.L
  rw [show (q.1+1).toNat=q.2.2.L.length by omega,List.take_length]
  exact uC q.2.2.L (by omega)
 ·show fk (q.2.2.L,(q.2.2.g:Int)) true
  rw [← h1];exact nt q.2.2.L q.2.2.g
theorem pD (b:List UInt8) (hb:b.length≤40000000) (h0:b≠[]) (m:Nat) (q:R9) (hq:go9 b m (.alts false pz0)=some q):jX b (jg q):=by
 have hl:b.length≠0:=fun e=>h0 (List.length_eq_zero_iff.1 e)
 refine ab (fun h=>by omega) fun _=>⟨rs9 b q,⟨_,_,_,_,_,Cx b hb,m,pz0,q,rfl,⟨Nat.zero_le _,Nat.zero_le _⟩,hq,rfl⟩,?_⟩
 by_cases hw:q.2.1=0
 ·obtain ⟨h1,h2,h3,h4⟩:=oK hq hw
  refine ⟨_,yy b q h1 h2 h3 h4,?_⟩
  unfold jg
  rw [if_neg (fun h=>h hw)]
  exact ab (fun h=>absurd hw h) fun _=>ab (fun h=>absurd rfl h) fun _=>rfl
 ·have hk:=Al hq hw
  refine ⟨((([]:List ND),0),false),?_,?_⟩
  ·show gF q.1 (ps9 b q.2.2 q.2.1) (decide (q.1<0) || decide ((q.2.2.L.length:Int)≤q.1)) _
   rw [decide_eq_true (by omega)]
   exact ab (fun _=>rfl) fun h=>absurd rfl h
  ·unfold jg
   rw [if_pos hw]
   exact ab (fun _=>rfl) fun h=>absurd hw h
theorem rV:jX [] (([(0,0,0,0,0,0,aj)],0),0,0):=by
 refine ab (fun _=>⟨(0,ps9 [] { pz0 with L:=[(0,0,0,0,0,0,aj)] } 0),⟨_,jN [] (0,0,0,0,0,0,aj) pz0 0,rfl⟩,?_⟩) fun h=>absurd rfl h
 refine ⟨_,yy [] (0,0,{ pz0 with L:=[(0,0,0,0,0,0,aj)] }) (by decide) rfl (by decide) (by decide),?_⟩
 exact ab (fun h=>absurd rfl h) fun _=>ab (fun h=>absurd rfl h) fun _=>rfl
end Go.Proofs.YtnbceeholnkfeaaGreatDoor
