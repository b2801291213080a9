/- Texts that were written are read: bytes, sets, repetitions of extended ones. -/
import Derived.Test.YtnbceeholnkfeaaGreatDoorRdA
import Derived.Test.YtnbceeholnkfeaaGreatDoorLt
import Derived.Test.YtnbceeholnkfeaaGreatDoorEqS
namespace Go.Proofs.YtnbceeholnkfeaaGreatDoor
theorem zf (b:List UInt8):∀ (n:Nat) (j:J9) (q:R9),go9 b n j=some q→go9 b (n+1) j=some q:=by
 intro n
 induction n with
 | zero=>intro j q h;cases h
 | succ n ih=>
  intro j q h
  cases j with
  | alts x s=>
   obtain ⟨q1,h1,h2⟩:=bind_some h
   show (go9 b (n+1) (.branch x s)).bind _=_
   rw [ih _ _ h1]
   exact ih _ _ h2
  | altl x l e s=>
   unfold go9 at h ⊢
   split at h
   ·rename_i h0
    rw [if_pos h0]
    obtain ⟨q1,h1,h2⟩:=bind_some h
    rw [ih _ _ h1]
    exact ih _ _ h2
   ·rename_i h0
    rw [if_neg h0];exact h
  | branch x s=>exact ih (.brl x [] 0 s) q h
  | brl x l e s=>
   unfold go9 at h ⊢
   split at h
   ·rename_i h0
    rw [if_pos h0]
    obtain ⟨q1,h1,h2⟩:=bind_some h
    rw [ih _ _ h1]
    exact ih _ _ h2
   ·rename_i h0
    rw [if_neg h0];exact h
  | piece s=>
   unfold go9 at h ⊢
   cases hc:b[s.p]? with
   | none=>rw [hc] at h;cases h
   | some c=>
    rw [hc] at h
    dsimp only at h ⊢
    by_cases h1:c=94
    ·rw [if_pos h1] at h ⊢;exact h
    rw [if_neg h1] at h ⊢
    by_cases h2:c=36
    ·rw [if_pos h2] at h ⊢;exact h
    rw [if_neg h2] at h ⊢
    obtain ⟨q1,h3,h4⟩:=map_some h
    rw [ih _ _ h3]
    exact congrArg some h4
  | atom s=>
   unfold go9 at h ⊢
   cases hc:b[s.p]? with
   | none=>rw [hc] at h;cases h
   | some c=>
    rw [hc] at h
    dsimp only at h ⊢
    by_cases h1:repC c
    ·rw [if_pos h1] at h ⊢;exact h
    rw [if_neg h1] at h ⊢
    by_cases h2:c=41
    ·rw [if_pos h2] at h ⊢;exact h
    rw [if_neg h2] at h ⊢
    by_cases h3:c=40
    ·rw [if_pos h3] at h ⊢;exact ih _ _ h
    ·rw [if_neg h3] at h ⊢;exact h
  | group s=>
   unfold go9 at h ⊢
   split at h
   ·rename_i h0
    rw [if_pos h0];exact h
   ·rename_i h0
    rw [if_neg h0]
    obtain ⟨q1,h3,h4⟩:=map_some h
    rw [ih _ _ h3]
    exact congrArg some h4
theorem l8 {b : List UInt8} {n m : Nat} (h : n ≤ m) {j : J9} {q : R9} (hq : go9 b n j = some q) : go9 b m j = some q := by
  induction m with
  | zero => obtain rfl : n = 0 := by omega
            exact hq
  | succ m ih =>
    rcases (by omega : n ≤ m ∨ n = m + 1) with h1 | rfl
    · exact zf b m j q (ih h1)
    · exact hq
theorem xH {t rest:List UInt8} {k lo hi:Int} {s:Pz} (h:t.drop s.p=bq true lo hi++rest) (ht:db lo hi=true):
  fp t s.p=true∧cE t k s=okE (ah (4,k,0,lo,hi,0,aj) { s with p:=s.p+(bq true lo hi).length }):=by
 obtain ⟨b0,b1,b2⟩:=qQ ht
 by_cases h0:lo=0∧hi= -1
 ·have e:bq true lo hi=[42]:=by unfold bq;rw [if_pos h0]
  rw [e] at h ⊢
  have hs:=cC (c:=42) h
  refine ⟨kw.2 (.inl hs),?_⟩
  unfold cE
  rw [hs,if_neg (by decide),if_neg (by decide),if_neg (by decide),h0.1,h0.2];rfl
 ·have e:bq true lo hi=[123]++(jV lo hi++[125]):=by
   unfold bq;rw [if_neg h0,List.append_assoc];rfl
  rw [e,List.append_assoc] at h
  have hs:=cC (c:=123) h
  refine ⟨kw.2 (.inr (.inr (.inr hs))),?_⟩
  have h2:=bJ h
  have h2:t.drop (s.p+1)=jV lo hi++[125]++rest:=h2
  have hl:(bq true lo hi).length=1+((jV lo hi).length+1):=by rw [e];simp <;> omega
  unfold cE
  rw [hs,if_neg (by decide),if_neg (by decide),if_pos rfl,hl]
  have fin:∀ a:Nat,t.drop a=[125]++rest→a+1=s.p+(1+((jV lo hi).length+1))→dy t k lo hi s a=okE (ah (4,k,0,lo,hi,0,aj) { s with p:=s.p+(1+((jV lo hi).length+1)) }):=fun a ha hl=>by
   unfold dy
   rw [if_pos ⟨cC (c:=125) ha,fun e=>by omega⟩,hl]
  have elo:((lo.toNat:Nat):Int)=lo:=by omega
  unfold kL
  unfold jV at h2 fin ⊢
  by_cases h3:hi= -1
  ·rw [if_pos h3] at h2 fin ⊢
   rw [List.append_assoc,List.append_assoc] at h2
   have h4:=jC h2 (by omega) (fun c t e=>by
    have e:([44]++([125]++rest):List UInt8)=c :: t:=e
    obtain ⟨rfl,_⟩:=List.cons.inj e
    decide)
   rw [h4]
   have h5:=bJ h2
   have h6:=bJ h5
   rw [if_neg (by show ¬ (0:Int)≠0;decide)]
   rw [show (((lo.toNat:Nat):Int),((s.p+1+(bj lo.toNat).length:Nat):Int),(0:Int)).2.1.toNat=s.p+1+(bj lo.toNat).length from Int.toNat_natCast _]
   rw [if_pos (cC h5)]
   have h7:=wF (c:=125) h6 (by decide)
   have h7:(am t (s.p+1+(bj lo.toNat).length+1)).2.2=9:=h7
   rw [if_neg (by rw [h7];decide),if_pos h7]
   show dy t k ((lo.toNat:Nat):Int) (-1) s (s.p+1+(bj lo.toNat).length+1)=_
   rw [elo]
   have:=fin (s.p+1+(bj lo.toNat).length+1) h6 (by simp <;> omega)
   rw [h3] at this ⊢
   exact this
  ·rw [if_neg h3] at h2 fin ⊢
   by_cases h4:hi=lo
   ·rw [if_pos h4,List.append_nil] at h2 fin ⊢
    rw [List.append_assoc] at h2
    have h5:=jC h2 (by omega) (fun c t e=>by
     have e:([125]++rest:List UInt8)=c :: t:=e
     obtain ⟨rfl,_⟩:=List.cons.inj e
     decide)
    rw [h5]
    have h6:=bJ h2
    rw [if_neg (by show ¬ (0:Int)≠0;decide)]
    rw [show (((lo.toNat:Nat):Int),((s.p+1+(bj lo.toNat).length:Nat):Int),(0:Int)).2.1.toNat=s.p+1+(bj lo.toNat).length from Int.toNat_natCast _]
    rw [if_neg (by rw [cC (c:=125) h6];decide)]
    show dy t k ((lo.toNat:Nat):Int) ((lo.toNat:Nat):Int) s (s.p+1+(bj lo.toNat).length)=_
    rw [elo]
    have:=fin (s.p+1+(bj lo.toNat).length) h6 (by omega)
    rw [h4] at this ⊢
    exact this
   ·rw [if_neg h4] at h2 fin ⊢
    have ehi:((hi.toNat:Nat):Int)=hi:=by omega
    rw [List.append_assoc,List.append_assoc,List.append_assoc] at h2
    have h5:=jC h2 (by omega) (fun c t e=>by
     have e:([44]++(bj hi.toNat++([125]++rest)):List UInt8)=c :: t:=e
     obtain ⟨rfl,_⟩:=List.cons.inj e
     decide)
    rw [h5]
    have h6:=bJ h2
    have h7:=bJ h6
    have h7:t.drop (s.p+1+(bj lo.toNat).length+1)=bj hi.toNat++([125]++rest):=h7
    have h8:=jC h7 (by omega) (fun c t e=>by
     have e:([125]++rest:List UInt8)=c :: t:=e
     obtain ⟨rfl,_⟩:=List.cons.inj e
     decide)
    have h9:=bJ h7
    rw [if_neg (by show ¬ (0:Int)≠0;decide)]
    rw [show (((lo.toNat:Nat):Int),((s.p+1+(bj lo.toNat).length:Nat):Int),(0:Int)).2.1.toNat=s.p+1+(bj lo.toNat).length from Int.toNat_natCast _]
    rw [if_pos (cC h6),h8,if_pos rfl]
    show dy t k ((lo.toNat:Nat):Int) ((hi.toNat:Nat):Int) s ((((s.p+1+(bj lo.toNat).length+1+(bj hi.toNat).length:Nat):Int)).toNat)=_
    rw [elo,ehi,Int.toNat_natCast]
    exact fin _ h9 (by simp <;> omega)
theorem xI {c:UInt8} (h:c∈jE true):c=46∨c=91∨c=92∨c=42∨c=94∨c=36∨c=40∨c=41∨c=124∨c=43∨c=63∨c=123:=by
 have h:c∈([46,91,92,42,94,36,40,41,124,43,63,123]:List UInt8):=h
 simpa using h
theorem zg {t rest:List UInt8} {c:UInt8} {s:Pz} (hd:t.drop s.p=jm true c++rest):∃ d r,jm true c=d :: r∧¬ repC d∧d≠41∧d≠40∧d≠124∧d≠94∧d≠36∧cN t s d=okE (ah (cn (ofS [c])) { s with p:=s.p+(jm true c).length }):=by
 unfold jm at hd ⊢
 by_cases h1:c.toNat=10
 ·rw [if_pos h1] at hd ⊢
  obtain rfl:c=10:=UInt8.toNat_inj.1 h1
  refine ⟨92,[110],rfl,by decide,by decide,by decide,by decide,by decide,by decide,?_⟩
  have h2:t[s.p+1]? =some 110:=cC (bJ (a:=[92]) hd)
  unfold cN jf
  rw [if_pos rfl,h2];rfl
 rw [if_neg h1] at hd ⊢
 by_cases h2:c∈jE true
 ·rw [if_pos h2] at hd ⊢
  refine ⟨92,[c],rfl,by decide,by decide,by decide,by decide,by decide,by decide,?_⟩
  have h3:t[s.p+1]? =some c:=cC (bJ (a:=[92]) hd)
  unfold cN jf
  rw [if_pos rfl,h3]
  rcases xI h2 with rfl | rfl | rfl | rfl | rfl | rfl | rfl | rfl | rfl | rfl | rfl | rfl <;> rfl
 ·rw [if_neg h2] at hd ⊢
  have hne:∀ d:UInt8,d∈jE true→c≠d:=fun d hd2 e=>h2 (by rw [e];exact hd2)
  refine ⟨c,[],rfl,?_,hne 41 (by decide),hne 40 (by decide),hne 124 (by decide),hne 94 (by decide),hne 36 (by decide),?_⟩
  ·rintro (e | e | e | e)
   ·exact hne 42 (by decide) e
   ·exact hne 43 (by decide) e
   ·exact hne 63 (by decide) e
   ·exact hne 123 (by decide) e
  ·unfold cN
   rw [if_neg (hne 92 (by decide)),if_neg (hne 46 (by decide)),if_neg (hne 91 (by decide))]
   rfl
theorem tO {t rest:List UInt8} {S:ay} {s:Pz} (hd:t.drop s.p=iS true S++rest):∃ d r,iS true S=d :: r∧¬ repC d∧d≠41∧d≠40∧d≠124∧d≠94∧d≠36∧cN t s d=okE (ah (cn S) { s with p:=s.p+(iS true S).length }):=by
 unfold iS at hd ⊢
 by_cases h1:(be S 256).length=1
 ·rw [if_pos h1] at hd ⊢
  obtain ⟨c,hc⟩:∃ c,be S 256=[c]:=List.length_eq_one_iff.1 h1
  have hS:=wH hc
  rw [hc] at hd ⊢
  have hd:t.drop s.p=jm true c++rest:=hd
  have:=zg hd
  rw [← hS] at this
  exact this
 rw [if_neg h1] at hd ⊢
 by_cases h2:(be S 256).length=256
 ·rw [if_pos h2] at hd ⊢
  have hS:=wI h2
  refine ⟨46,[],rfl,by decide,by decide,by decide,by decide,by decide,by decide,?_⟩
  unfold cN
  rw [if_neg (by decide),if_pos rfl,hS];rfl
 ·rw [if_neg h2] at hd ⊢
  obtain ⟨h3,r,hr⟩:=oV hd
  refine ⟨91,r,hr,by decide,by decide,by decide,by decide,by decide,by decide,?_⟩
  unfold cN
  rw [if_neg (by decide),if_neg (by decide),if_pos rfl,h3,if_pos rfl]
  rfl
end Go.Proofs.YtnbceeholnkfeaaGreatDoor
namespace Go.Proofs.YtnbceeholnkfeaaGreatDoor
theorem oW {nd:ND} {s:Pz} (h:(okE (ah nd s)).2.1=0):s.L.length<1000∧aP nd s.L.length s.g=true∧ah nd s=((s.L.length:Int),{ s with L:=s.L++[nd] }):=gq (qi h)
theorem qB {nd:ND} {s s1:Pz} (hL:s1.L=s.L) (hg:s1.g=s.g) (hc:s1.cl=s.cl) (h:(okE (ah nd s1)).2.1=0) (p:Nat):okE (ah nd { s with p:=p })=((s.L.length:Int),0,⟨s.L++[nd],s.g,p,s.cl⟩):=by
 obtain ⟨p1,p2,_⟩:=oW h
 rw [hL] at p1
 rw [hL,hg] at p2
 have e:ah nd { s with p:=p }=((s.L.length:Int),⟨s.L++[nd],s.g,p,s.cl⟩):=by
  unfold ah
  rw [if_neg (by show ¬ 1000≤s.L.length;omega),if_pos p2]
 rw [e]
 exact if_neg (by show ¬ (s.L.length:Int)<0;omega)
def ou (rest:List UInt8):Prop:=∀ c r,rest=c :: r→¬ repC c
def th (τ:List UInt8):Prop:=∃ c r,τ=c :: r∧¬ repC c∧c≠41∧c≠124
def ul (x:Bool) (rest:List UInt8):Prop:=rest=[]∨(∃ r,rest=124 :: r)∨(x=true∧∃ r,rest=41 :: r)
def xJ (x:Bool) (rest:List UInt8):Prop:=(x=true→∃ r,rest=41 :: r)∧(x=false→rest=[])
theorem zh {x:Bool} {rest:List UInt8} (h:xJ x rest):ul x rest:=by
 cases x with
 | true=>exact .inr (.inr ⟨rfl,h.1 rfl⟩)
 | false=>exact .inl (h.2 rfl)
theorem xK {x:Bool} {rest:List UInt8} (h:ul x rest):ou rest:=fun c r e=>by
 rcases h with h | ⟨r',h⟩| ⟨_,r',h⟩
 ·rw [h] at e;cases e
 ·rw [h] at e;obtain ⟨rfl,_⟩:=List.cons.inj e;decide
 ·rw [h] at e;obtain ⟨rfl,_⟩:=List.cons.inj e;decide
theorem zi {t rest:List UInt8} {p:Nat} (h:t.drop p=rest) (hn:ou rest):fp t p=false:=by
 unfold fp
 cases rest with
 | nil=>rw [yX h]
 | cons c r=>rw [cC h];exact decide_eq_false (hn c r rfl)
theorem xL {b:List UInt8} {k:Int} {s:Pz} (h:(cE b k s).2.1=0):∃ lo hi a,cE b k s=okE (ah (4,k,0,lo,hi,0,aj) { s with p:=a }):=by
 have key:∀ (lo hi:Int) (a:Nat),(dy b k lo hi s a).2.1=0→dy b k lo hi s a=okE (ah (4,k,0,lo,hi,0,aj) { s with p:=a+1 }):=fun lo hi a h=>by
  unfold dy at h ⊢
  split at h
  ·rename_i h1
   rw [if_pos h1]
  ·cases h
 unfold cE at h ⊢
 by_cases h1:b[s.p]? =some 43
 ·rw [if_pos h1];exact ⟨_,_,_,rfl⟩
 rw [if_neg h1] at h ⊢
 by_cases h2:b[s.p]? =some 63
 ·rw [if_pos h2];exact ⟨_,_,_,rfl⟩
 rw [if_neg h2] at h ⊢
 by_cases h3:b[s.p]? =some 123
 ·rw [if_pos h3] at h ⊢
  unfold kL at h ⊢
  by_cases h4:(am b (s.p+1)).2.2≠0
  ·rw [if_pos h4] at h;cases h
  rw [if_neg h4] at h ⊢
  by_cases h5:b[(am b (s.p+1)).2.1.toNat]? =some 44
  ·rw [if_pos h5] at h ⊢
   by_cases h6:(am b ((am b (s.p+1)).2.1.toNat+1)).2.2=0
   ·rw [if_pos h6] at h ⊢
    exact ⟨_,_,_,key _ _ _ h⟩
   rw [if_neg h6] at h ⊢
   by_cases h7:(am b ((am b (s.p+1)).2.1.toNat+1)).2.2=9
   ·rw [if_pos h7] at h ⊢
    exact ⟨_,_,_,key _ _ _ h⟩
   ·rw [if_neg h7] at h;cases h
  ·rw [if_neg h5] at h ⊢
   exact ⟨_,_,_,key _ _ _ h⟩
 ·rw [if_neg h3];exact ⟨_,_,_,rfl⟩
theorem tP {b:List UInt8} {n:Nat} {k e:Int} {s:Pz} (he:e≠0):aU b n k e s=(k,e,s):=by
 cases n with
 | zero=>rfl
 | succ n=>unfold aU;rw [if_neg (fun h=>he h.1)]
theorem zj (b:List UInt8):∀ (n:Nat) (k:Int) (s:Pz),s.p≤b.length→s.g≤9→(0≤k∧k<(s.L.length:Int))→(aU b n k 0 s).2.1=0→
  (0≤(aU b n k 0 s).1∧(aU b n k 0 s).1<((aU b n k 0 s).2.2.L.length:Int))∧∃ μ,tx0 true (aU b n k 0 s).2.2.L (aU b n k 0 s).1=tx0 true s.L k++μ∧s.p≤(aU b n k 0 s).2.2.p∧μ.length≤11 * ((aU b n k 0 s).2.2.p - s.p)∧Gw true (tx0 true s.L k++μ).length s.L (aU b n k 0 s).2.2.L
   ∧∀ (t2:List UInt8) (p2:Nat) (rest:List UInt8) (N:Nat),t2.drop p2=μ++rest→ou rest→μ.length<N→aU t2 N k 0 { s with p:=p2 }=((aU b n k 0 s).1,0,{ (aU b n k 0 s).2.2 with p:=p2+μ.length }):=by
 have nm:∀ (k:Int) (s:Pz),(0≤k∧k<(s.L.length:Int))→∀ r:R9,r=(k,0,s)→(0≤r.1∧r.1<(r.2.2.L.length:Int))∧∃ μ,tx0 true r.2.2.L r.1=tx0 true s.L k++μ∧s.p≤r.2.2.p∧μ.length≤11 * (r.2.2.p - s.p)∧Gw true (tx0 true s.L k++μ).length s.L r.2.2.L
   ∧∀ (t2:List UInt8) (p2:Nat) (rest:List UInt8) (N:Nat),t2.drop p2=μ++rest→ou rest→μ.length<N→aU t2 N k 0 { s with p:=p2 }=(r.1,0,{ r.2.2 with p:=p2+μ.length }):=fun k s hv r hr=>by
  subst hr
  refine ⟨hv,[],by rw [List.append_nil],Nat.le_refl _,Nat.zero_le _,tf _ _ _,fun t2 p2 rest N hd hn hN=>?_⟩
  have h1:=zi hd hn
  obtain ⟨N,rfl⟩:∃ m,N=m+1:=⟨N - 1,by omega⟩
  show (if (0:Int)=0∧fp t2 p2=true then _ else _)=_
  rw [if_neg (fun e=>by rw [h1] at e;cases e.2)]
  rfl
 intro n
 induction n with
 | zero=>intro k s _ _ hv _;exact nm k s hv _ rfl
 | succ n ih=>
  intro k s hp hg hv h
  by_cases hm:fp b s.p=true
  ·have e:aU b (n+1) k 0 s=aU b n (cE b k s).1 (cE b k s).2.1 (cE b k s).2.2:=by
    show (if (0:Int)=0∧fp b s.p=true then _ else _)=_
    rw [if_pos ⟨rfl,hm⟩]
   rw [e] at h ⊢
   have hw:(cE b k s).2.1=0:=Decidable.not_not.1 fun hne=>by rw [tP hne] at h;exact hne h
   obtain ⟨⟨a1,a2,a3⟩,_⟩:=sS (oJ hm) hg hw
   obtain ⟨lo,hi,a,hr⟩:=xL hw
   rw [hr] at a1 a2 a3 hw
   obtain ⟨q1,q2,q3⟩:=oW hw
   have q3:ah (4,k,0,lo,hi,0,aj) { s with p:=a }=((s.L.length:Int),{ s with L:=s.L++[(4,k,0,lo,hi,0,aj)],p:=a }):=q3
   have q4:okE (ah (4,k,0,lo,hi,0,aj) { s with p:=a })=((s.L.length:Int),0,{ s with L:=s.L++[(4,k,0,lo,hi,0,aj)],p:=a }):=by
    rw [q3];exact if_neg (by show ¬ (s.L.length:Int)<0;omega)
   have e0:aU b n (cE b k s).1 (cE b k s).2.1 (cE b k s).2.2=aU b n (s.L.length:Int) 0 { s with L:=s.L++[(4,k,0,lo,hi,0,aj)],p:=a }:=by rw [hr,q4]
   rw [e0] at h ⊢
   rw [q4] at a1 a2 a3
   have a1:s.p+1≤a:=a1
   have a2:a≤b.length:=a2
   have ht:=ot q2
   have hnd:eD true (4,k,0,lo,hi,0,aj) (aT true s.L)=tx0 true s.L k++bq true lo hi:=rfl
   have htl:=nC true lo hi
   have htp:=tM true lo hi
   obtain ⟨r1,μ,r2,r3,r4,r5,r7⟩:=ih (s.L.length:Int) { s with L:=s.L++[(4,k,0,lo,hi,0,aj)],p:=a } a2 hg ⟨Int.natCast_nonneg _,by show (s.L.length:Int)<((s.L++[_]).length:Int);simp <;> omega⟩ h
   have e1:tx0 true (s.L++[(4,k,0,lo,hi,0,aj)]) (s.L.length:Int)=tx0 true s.L k++bq true lo hi:=(jZ _ _ _).trans hnd
   have r2:_=tx0 true (s.L++[(4,k,0,lo,hi,0,aj)]) (s.L.length:Int)++μ:=r2
   rw [e1,List.append_assoc] at r2
   have r3:a≤(aU b n (s.L.length:Int) 0 { s with L:=s.L++[(4,k,0,lo,hi,0,aj)],p:=a }).2.2.p:=r3
   have r5:Gw true (tx0 true (s.L++[(4,k,0,lo,hi,0,aj)]) (s.L.length:Int)++μ).length (s.L++[(4,k,0,lo,hi,0,aj)]) _:=r5
   rw [e1,List.append_assoc] at r5
   refine ⟨r1,bq true lo hi++μ,r2,by omega,?_,fD (lm ?_) r5,fun t2 p2 rest N hd hn hN=>?_⟩
   ·rw [List.length_append]
    have r4:μ.length≤11 * ((aU b n (s.L.length:Int) 0 { s with L:=s.L++[(4,k,0,lo,hi,0,aj)],p:=a }).2.2.p - a):=r4
    omega
   ·rw [hnd];simp only [List.length_append];omega
   ·rw [List.append_assoc] at hd
    obtain ⟨N,rfl⟩:∃ m,N=m+1:=⟨N - 1,by omega⟩
    obtain ⟨z1,z2⟩:=xH (k:=k) (s:={ s with p:=p2 }) hd ht
    have e2:aU t2 (N+1) k 0 { s with p:=p2 }=aU t2 N (cE t2 k { s with p:=p2 }).1 (cE t2 k { s with p:=p2 }).2.1 (cE t2 k { s with p:=p2 }).2.2:=by
     show (if (0:Int)=0∧fp t2 p2=true then _ else _)=_
     rw [if_pos ⟨rfl,z1⟩]
    have e3:=qB (s:=s) (s1:={ s with p:=a }) rfl rfl rfl hw (p2+(bq true lo hi).length)
    have z2:cE t2 k { s with p:=p2 }=okE (ah (4,k,0,lo,hi,0,aj) { s with p:=p2+(bq true lo hi).length }):=z2
    rw [e2,z2,e3]
    rw [List.length_append] at hN ⊢
    have:=r7 t2 (p2+(bq true lo hi).length) rest N (bJ hd) hn (by omega)
    rw [show p2+((bq true lo hi).length+μ.length)=p2+(bq true lo hi).length+μ.length by omega]
    exact this
  ·have e:aU b (n+1) k 0 s=(k,0,s):=by
    show (if (0:Int)=0∧fp b s.p=true then _ else _)=_
    rw [if_neg (fun e=>hm e.2)]
   rw [e]
   exact nm k s hv _ rfl
structure Rd9 (s:Pz) (q:R9) (τ:List UInt8):Prop where
 val:0≤q.1∧q.1<(q.2.2.L.length:Int)
 txt:tx0 true q.2.2.L q.1=τ
 pos:s.p+1≤q.2.2.p
 len:τ.length≤600 * (q.2.2.p - s.p)
 gw:Gw true (600 * (q.2.2.p - s.p)) s.L q.2.2.L
 hd:th τ
def ow (s:Pz) (q:R9) (τ:List UInt8):Prop:=(∃ c r,τ=c :: r∧c≠94∧c≠36)∧∀ (t2:List UInt8) (p2:Nat) (rest:List UInt8),t2.drop p2=τ++rest→∃ n,go9 t2 n (.atom { s with p:=p2 })=some (q.1,0,{ q.2.2 with p:=p2+τ.length })
def vg (s:Pz) (q:R9) (τ:List UInt8):Prop:=∀ (t2:List UInt8) (p2:Nat) (rest:List UInt8),t2.drop p2=τ++rest→ou rest→∃ n,go9 t2 n (.piece { s with p:=p2 })=some (q.1,0,{ q.2.2 with p:=p2+τ.length })
def ca (x:Bool) (L:List ND):List Int→List UInt8
 | []=>[]
 | y :: t=>tx0 x L y++(t.map fun z=>[124]++tx0 x L z).flatten
theorem CT (x:Bool) (L:List ND):∀ (l:List Int) (k:Int),l≠[]→ca x L (l++[k])=ca x L l++([124]++tx0 x L k)
 | [],_,h=>absurd rfl h
 | y :: t,k,_=>by
  show tx0 x L y++((t++[k]).map fun z=>[124]++tx0 x L z).flatten=_
  rw [List.map_append,List.flatten_append,← List.append_assoc]
  show _++([124]++tx0 x L k++[])=_
  rw [List.append_nil];rfl
theorem Ee {x:Bool} {B:Nat} {L L':List ND} {l:List Int} (h:Gw x B L L') (hl:∀ y∈l,0≤y∧y<(L.length:Int)):ca x L' l=ca x L l:=by
 cases l with
 | nil=>rfl
 | cons y t=>
  show tx0 x L' y++_=tx0 x L y++_
  rw [(oq h (hl y List.mem_cons_self)).2,List.map_congr_left fun z hz=>by rw [(oq h (hl z (List.mem_cons_of_mem _ hz))).2]]
def l9 (b:List UInt8) (j:J9) (q:R9):Prop:=match j with
 | .alts x s=>∃ τ,tx0 true q.2.2.L q.1=τ∧(0≤q.1∧q.1<(q.2.2.L.length:Int))∧s.p≤q.2.2.p∧τ.length≤600 * (q.2.2.p - s.p)∧Gw true (600 * (q.2.2.p - s.p)) s.L q.2.2.L∧τ≠[]∧∀ (t2:List UInt8) (p2:Nat) (rest:List UInt8),t2.drop p2=τ++rest→xJ x rest→∃ n,go9 t2 n (.alts x { s with p:=p2 })=some (q.1,0,{ q.2.2 with p:=p2+τ.length })
 | .altl x l e s=>e=0→∀ p0,p0≤s.p→l≠[]→(∀ y∈l,0≤y∧y<(s.L.length:Int))→(ca true s.L l).length≤600 * (s.p - p0)→∃ ρ,tx0 true q.2.2.L q.1=ca true s.L l++ρ∧(0≤q.1∧q.1<(q.2.2.L.length:Int))∧s.p≤q.2.2.p∧(ca true s.L l++ρ).length≤600 * (q.2.2.p - p0)∧Gw true (600 * (q.2.2.p - p0)) s.L q.2.2.L∧(ρ=[]∨∃ r,ρ=124 :: r)
   ∧∀ (t2:List UInt8) (p2:Nat) (rest:List UInt8),t2.drop p2=ρ++rest→xJ x rest→∃ n,go9 t2 n (.altl x l 0 { s with p:=p2 })=some (q.1,0,{ q.2.2 with p:=p2+ρ.length })
 | .branch x s=>∃ τ,tx0 true q.2.2.L q.1=τ∧(0≤q.1∧q.1<(q.2.2.L.length:Int))∧s.p≤q.2.2.p∧τ.length≤600 * (q.2.2.p - s.p)∧Gw true (600 * (q.2.2.p - s.p)) s.L q.2.2.L∧τ≠[]∧∀ (t2:List UInt8) (p2:Nat) (rest:List UInt8),t2.drop p2=τ++rest→ul x rest→∃ n,go9 t2 n (.branch x { s with p:=p2 })=some (q.1,0,{ q.2.2 with p:=p2+τ.length })
 | .brl x l e s=>e=0→∀ p0,p0≤s.p→(∀ y∈l,0≤y∧y<(s.L.length:Int))→(cc true s.L l).length≤600 * (s.p - p0)→(l≠[]→cc true s.L l≠[])→∃ ρ,tx0 true q.2.2.L q.1=cc true s.L l++ρ∧cc true s.L l++ρ≠[]∧(0≤q.1∧q.1<(q.2.2.L.length:Int))∧s.p≤q.2.2.p∧(cc true s.L l++ρ).length≤600 * (q.2.2.p - p0)∧Gw true (600 * (q.2.2.p - p0)) s.L q.2.2.L∧(ρ≠[]→th ρ)
   ∧∀ (t2:List UInt8) (p2:Nat) (rest:List UInt8),t2.drop p2=ρ++rest→ul x rest→∃ n,go9 t2 n (.brl x l 0 { s with p:=p2 })=some (q.1,0,{ q.2.2 with p:=p2+ρ.length })
 | .piece s=>∃ τ,Rd9 s q τ∧vg s q τ
 | .atom s=>∃ τ,Rd9 s q τ∧ow s q τ
 | .group s=>b[s.p]? =some 40→∃ τ,Rd9 s q τ∧ow s q τ
theorem AZ {s s1:Pz} {nd:ND} {τ:List UInt8} (hL:s1.L=s.L) (hg:s1.g=s.g) (hc:s1.cl=s.cl) (h:(okE (ah nd s1)).2.1=0) (hn:∀ l,eD true nd l=τ) (hp:s.p+1≤s1.p) (hl:τ.length≤600) (hd:th τ):
  okE (ah nd s1)=((s.L.length:Int),0,⟨s.L++[nd],s.g,s1.p,s.cl⟩)∧Rd9 s (okE (ah nd s1)) τ:=by
 obtain ⟨p1,p2,p3⟩:=oW h
 have e:okE (ah nd s1)=((s.L.length:Int),0,⟨s.L++[nd],s.g,s1.p,s.cl⟩):=by
  rw [p3,hL]
  show okE ((s.L.length:Int),_)=_
  rw [← hg,← hc]
  exact if_neg (by show ¬ (s.L.length:Int)<0;omega)
 have htx:tx0 true (s.L++[nd]) (s.L.length:Int)=τ:=(jZ _ _ _).trans (hn _)
 refine ⟨e,?_⟩
 rw [e]
 refine ⟨⟨Int.natCast_nonneg _,by show (s.L.length:Int)<((s.L++[nd]).length:Int);simp <;> omega⟩,htx,hp,?_,lm ?_,hd⟩
 ·show τ.length≤600 * (s1.p - s.p)
  omega
 ·rw [hn]
  show τ.length≤600 * (s1.p - s.p)
  omega
theorem tQ {t:List UInt8} {s:Pz} {c:UInt8} {r:List UInt8} (h:t.drop s.p=c :: r) (h1:¬ repC c) (h2:c≠41) (h3:c≠40):go9 t 1 (.atom s)=some (cN t s c):=by
 show (match t[s.p]? with | none=>none | some c=>_)=_
 rw [cC h]
 show (if repC c then _ else _)=_
 rw [if_neg h1,if_neg h2,if_neg h3]
theorem xM {s s1:Pz} {S:ay} (hL:s1.L=s.L) (hg:s1.g=s.g) (hc:s1.cl=s.cl) (h:(okE (ah (cn S) s1)).2.1=0) (hp:s.p+1≤s1.p):∃ τ,Rd9 s (okE (ah (cn S) s1)) τ∧ow s (okE (ah (cn S) s1)) τ:=by
 obtain ⟨d,r,e,e1,e2,e3,e4,e5,e6,_⟩:=tO (t:=iS true S) (rest:=[]) (S:=S) (s:=pz0) (by rw [List.append_nil];rfl)
 obtain ⟨q1,q2⟩:=AZ (τ:=iS true S) hL hg hc h (fun _=>rfl) hp (tu _ _) ⟨d,r,e,e1,e2,e4⟩
 refine ⟨_,q2,⟨d,r,e,e5,e6⟩,fun t2 p2 rest hd=>⟨1,?_⟩⟩
 obtain ⟨d',r',f,f1,f2,f3,_,_,_,f7⟩:=tO (s:={ s with p:=p2 }) hd
 rw [f] at hd
 rw [tQ (s:={ s with p:=p2 }) hd f1 f2 f3,f7,q1]
 exact congrArg some (qB hL hg hc h _)
end Go.Proofs.YtnbceeholnkfeaaGreatDoor
namespace Go.Proofs.YtnbceeholnkfeaaGreatDoor
theorem Fc (l:List Int) (s:Pz) (p:Nat):dh l { s with p:=p }=((dh l s).1,{ (dh l s).2 with p:=p }):=by
 cases l with
 | nil=>rfl
 | cons x t=>
  rw [kh,kh]
  by_cases h:x<0∨(s.L.length:Int)≤x
  ·rw [if_pos h,if_pos h]
  ·rw [if_neg h,if_neg h];exact vd 3 t x s p
theorem zk {x:Int×Pz} (h:(okE x).2.1=0):0≤x.1∧okE x=(x.1,0,x.2):=⟨qi h,if_neg (by have:=qi h;omega)⟩
theorem CU {B:Nat} {l:List Int} {s:Pz} (hl:∀ y∈l,0≤y∧y<(s.L.length:Int)) (h:0≤(dh l s).1) (hB:(ca true s.L l).length≤B):
  (0≤(dh l s).1∧(dh l s).1<((dh l s).2.L.length:Int))∧tx0 true (dh l s).2.L (dh l s).1=ca true s.L l∧Gw true B s.L (dh l s).2.L:=by
 cases l with
 | nil=>exact absurd h (by show ¬ (0:Int)≤-1;decide)
 | cons y t=>
  have hy:=hl y List.mem_cons_self
  rw [kh,if_neg (by omega)] at h ⊢
  exact rq true 3 [124] (.inr ⟨rfl,rfl⟩) B t y s hy (fun z hz=>hl z (List.mem_cons_of_mem _ hz)) h hB
theorem Ef (b:List UInt8):∀ (n:Nat) (j:J9) (q:R9),go9 b n j=some q→dW b j→q.2.1=0→l9 b j q:=by
 intro n
 induction n with
 | zero=>intro j q h;cases h
 | succ n ih=>
  intro j q h hj hw
  cases j with
  | alts x s=>
   obtain ⟨q1,h1,h2⟩:=bind_some h
   have hjb:dW b (.branch x s):=hj
   have he:q1.2.1=0:=lJ (.inl h2) hw
   obtain ⟨⟨a1,a2,a3⟩,_⟩:At9 b s.p q1.2.2∧_:=ej b n _ q1 h1 hjb he
   have hb:l9 b (.branch x s) q1:=ih _ _ h1 hjb he
   obtain ⟨τ,b1,b2,b3,b4,b5,b6,b7⟩:=hb
   have ha:l9 b (.altl x [q1.1] q1.2.1 q1.2.2) q:=ih _ _ h2 ⟨by simp,fun _=>⟨a2,a3⟩⟩ hw
   have hca:ca true q1.2.2.L [q1.1]=τ:=by
    show tx0 true q1.2.2.L q1.1++[]=τ
    rw [List.append_nil];exact b1
   obtain ⟨ρ,c1,c2,c3,c4,c5,c6,c7⟩:=ha he s.p a1 (by simp) (fun y hy=>by
    obtain rfl:=List.mem_singleton.1 hy
    exact b2) (by rw [hca];exact b4)
   rw [hca] at c1 c4
   refine ⟨τ++ρ,c1,c2,by omega,c4,fD (gv (by omega) b5) c5,fun e=>b6 (List.append_eq_nil_iff.1 e).1,fun t2 p2 rest hd hr=>?_⟩
   rw [List.append_assoc] at hd
   obtain ⟨m1,hm1⟩:=b7 t2 p2 (ρ++rest) hd (by
    rcases c6 with rfl | ⟨r,rfl⟩
    ·exact zh hr
    ·exact .inr (.inl ⟨r++rest,rfl⟩))
   obtain ⟨m2,hm2⟩:=c7 t2 (p2+τ.length) rest (bJ hd) hr
   refine ⟨m1+m2+1,?_⟩
   show (go9 t2 (m1+m2) (.branch x { s with p:=p2 })).bind _=_
   rw [l8 (Nat.le_add_right m1 m2) hm1]
   show go9 t2 (m1+m2) (.altl x [q1.1] 0 { q1.2.2 with p:=p2+τ.length })=_
   rw [l8 (Nat.le_add_left m2 m1) hm2,List.length_append,Nat.add_assoc]
  | altl x l e s=>
   intro e0 p0 hp0 hlne hlv hll
   subst e0
   obtain ⟨hj1,hj2⟩:=hj
   obtain ⟨j1,j2⟩:=hj2 rfl
   unfold go9 at h
   by_cases h0:(0:Int)=0∧b[s.p]? =some 124
   ·rw [if_pos h0] at h
    have hp:=(List.getElem?_eq_some_iff.1 h0.2).1
    obtain ⟨q1,h1,h2⟩:=bind_some h
    have hjb:dW b (.branch x (adv s 1)):=⟨hp,j2⟩
    have he:q1.2.1=0:=lJ (.inl h2) hw
    obtain ⟨⟨a1,a2,a3⟩,_⟩:At9 b (s.p+1) q1.2.2∧_:=ej b n _ q1 h1 hjb he
    have hb:l9 b (.branch x (adv s 1)) q1:=ih _ _ h1 hjb he
    obtain ⟨τ,b1,b2,b3,b4,b5,b6,b7⟩:=hb
    have b4:τ.length≤600 * (q1.2.2.p - (s.p+1)):=b4
    have b5:Gw true (600 * (q1.2.2.p - (s.p+1))) s.L q1.2.2.L:=b5
    have hca:ca true q1.2.2.L (l++[q1.1])=ca true s.L l++([124]++τ):=by rw [CT _ _ _ _ hlne,Ee b5 hlv,b1]
    have ha:l9 b (.altl x (l++[q1.1]) q1.2.1 q1.2.2) q:=ih _ _ h2 ⟨by simp,fun _=>⟨a2,a3⟩⟩ hw
    obtain ⟨ρ,c1,c2,c3,c4,c5,c6,c7⟩:=ha he p0 (by omega) (by simp) (fun y hy=>by
     rcases List.mem_append.1 hy with hy | hy
     ·exact (oq b5 (hlv y hy)).1
     ·obtain rfl:=List.mem_singleton.1 hy
      exact b2) (by rw [hca];simp only [List.length_append,List.length_singleton];omega)
    rw [hca,List.append_assoc] at c1 c4
    refine ⟨[124]++τ++ρ,c1,c2,by omega,c4,fD (gv (by omega) b5) c5,.inr ⟨τ++ρ,rfl⟩,fun t2 p2 rest hd hr=>?_⟩
    have hd:t2.drop p2=[124]++(τ++(ρ++rest)):=by rw [hd];simp
    have hd1:=bJ hd
    obtain ⟨m1,hm1⟩:=b7 t2 (p2+1) (ρ++rest) hd1 (by
     rcases c6 with rfl | ⟨r,rfl⟩
     ·exact zh hr
     ·exact .inr (.inl ⟨r++rest,rfl⟩))
    have hd2:=bJ hd1
    obtain ⟨m2,hm2⟩:=c7 t2 (p2+1+τ.length) rest hd2 hr
    refine ⟨m1+m2+1,?_⟩
    show (if (0:Int)=0∧t2[p2]? =some 124 then _ else _)=_
    rw [if_pos ⟨rfl,cC (c:=124) hd⟩]
    have hm1:go9 t2 m1 (.branch x (adv { s with p:=p2 } 1))=_:=hm1
    rw [l8 (Nat.le_add_right m1 m2) hm1]
    show go9 t2 (m1+m2) (.altl x (l++[q1.1]) 0 { q1.2.2 with p:=p2+1+τ.length })=_
    have el:p2+([124]++τ++ρ:List UInt8).length=p2+1+τ.length+ρ.length:=by simp only [List.length_append,List.length_singleton];omega
    rw [l8 (Nat.le_add_left m2 m1) hm2,el]
   ·rw [if_neg h0] at h
    injection h with h
    subst h
    unfold jT at hw ⊢
    rw [if_neg (fun h=>h rfl)] at hw ⊢
    by_cases h4:x=true∧b[s.p]?≠some 41
    ·rw [if_pos h4] at hw;cases hw
    rw [if_neg h4] at hw ⊢
    obtain ⟨o1,o2⟩:=zk hw
    rw [o2]
    obtain ⟨st1,st2,st3⟩:=uE l s
    obtain ⟨c1,c2,c3⟩:=CU (B:=600 * (s.p - p0)) hlv o1 hll
    have hp:(dh l s).2.p=s.p:=st1
    refine ⟨[],by rw [List.append_nil];exact c2,c1,by show s.p≤(dh l s).2.p;omega,by show _≤600 * ((dh l s).2.p - p0);rw [hp,List.append_nil];exact hll,by show Gw true (600 * ((dh l s).2.p - p0)) _ _;rw [hp];exact c3,.inl rfl,fun t2 p2 rest hd hr=>⟨1,?_⟩⟩
    rw [List.nil_append] at hd
    have g1:¬ ((0:Int)=0∧t2[p2]? =some 124):=fun e=>by
     cases x with
     | true=>
      obtain ⟨r,rfl⟩:=hr.1 rfl
      rw [cC hd] at e;cases e.2
     | false=>
      rw [hr.2 rfl] at hd
      rw [yX hd] at e;cases e.2
    have g2:¬ (x=true∧t2[p2]?≠some 41):=fun e=>by
     obtain ⟨r,rfl⟩:=hr.1 e.1
     exact e.2 (cC hd)
    show (if (0:Int)=0∧t2[p2]? =some 124 then _ else some (jT t2 x l 0 { s with p:=p2 }))=_
    rw [if_neg g1]
    unfold jT
    rw [if_neg (fun h=>h rfl),if_neg g2,Fc]
    exact congrArg some (if_neg (by show ¬ (dh l s).1<0;omega))
  | branch x s=>
   have hb:l9 b (.brl x [] 0 s) q:=ih (.brl x [] 0 s) q h (fun _=>hj) hw
   obtain ⟨ρ,c1,c0,c2,c3,c4,c5,_,c7⟩:=hb rfl s.p (Nat.le_refl _) (fun y hy=>by cases hy) (Nat.zero_le _) (fun h=>absurd rfl h)
   have c1:tx0 true q.2.2.L q.1=ρ:=c1
   have c4:ρ.length≤600 * (q.2.2.p - s.p):=c4
   refine ⟨ρ,c1,c2,c3,c4,c5,c0,fun t2 p2 rest hd hr=>?_⟩
   obtain ⟨m,hm⟩:=c7 t2 p2 rest hd hr
   exact ⟨m+1,hm⟩
  | brl x l e s=>
   intro e0 p0 hp0 hlv hll hln
   subst e0
   obtain ⟨j1,j2⟩:=hj rfl
   unfold go9 at h
   by_cases h0:mT b x 0 s=true
   ·rw [if_pos h0] at h
    obtain ⟨_,hp,n124,n41⟩:=d9.1 h0
    obtain ⟨q1,h1,h2⟩:=bind_some h
    have hjb:dW b (.piece s):=⟨hp,j2⟩
    have he:q1.2.1=0:=lJ (.inr h2) hw
    obtain ⟨⟨a1,a2,a3⟩,_⟩:At9 b (s.p+1) q1.2.2∧_:=ej b n _ q1 h1 hjb he
    have hb:l9 b (.piece s) q1:=ih _ _ h1 hjb he
    obtain ⟨τ,c,crun⟩:=hb
    have cpos:=c.pos
    have clen:=c.len
    have cgw:=c.gw
    have hτ:τ≠[]:=by obtain ⟨c',r',e,_⟩:=c.hd;rw [e];simp
    have hcc:cc true q1.2.2.L (l++[q1.1])=cc true s.L l++τ:=by rw [wJ,zb cgw hlv,c.txt]
    have ha:l9 b (.brl x (l++[q1.1]) q1.2.1 q1.2.2) q:=ih _ _ h2 (fun _=>⟨a2,a3⟩) hw
    obtain ⟨ρ,r1,r0,r2,r3,r4,r5,r6,r7⟩:=ha he p0 (by omega) (fun y hy=>by
     rcases List.mem_append.1 hy with hy | hy
     ·exact (oq cgw (hlv y hy)).1
     ·obtain rfl:=List.mem_singleton.1 hy
      exact c.val) (by rw [hcc,List.length_append];omega) (fun _=>by rw [hcc];exact fun e=>hτ (List.append_eq_nil_iff.1 e).2)
    rw [hcc,List.append_assoc] at r1 r4 r0
    refine ⟨τ++ρ,r1,r0,r2,by omega,r4,fD (gv (by omega) cgw) r5,fun _=>?_,fun t2 p2 rest hd hr=>?_⟩
    ·obtain ⟨c',r',e,e1,e2,e3⟩:=c.hd
     exact ⟨c',r'++ρ,by rw [e];rfl,e1,e2,e3⟩
    ·rw [List.append_assoc] at hd
     have hno:ou (ρ++rest):=by
      cases ρ with
      | nil=>rw [List.nil_append];exact xK hr
      | cons y r=>
       obtain ⟨c',r',e,e1,_⟩:=r6 (by simp)
       obtain ⟨rfl,rfl⟩:=List.cons.inj e
       intro c r0 e
       obtain ⟨rfl,_⟩:=List.cons.inj e
       exact e1
     obtain ⟨m1,hm1⟩:=crun t2 p2 (ρ++rest) hd hno
     obtain ⟨m2,hm2⟩:=r7 t2 (p2+τ.length) rest (bJ hd) hr
     refine ⟨m1+m2+1,?_⟩
     have hmore:mT t2 x 0 { s with p:=p2 }=true:=by
      obtain ⟨c',r',e,e1,e2,e3⟩:=c.hd
      rw [e] at hd
      have hat:=cC (r:=r'++(ρ++rest)) hd
      refine d9.2 ⟨rfl,uk (r:=r'++(ρ++rest)) hd,?_,?_⟩
      ·show t2[p2]?≠some 124
       rw [hat];exact fun h=>e3 (Option.some.inj h)
      ·rintro ⟨_,h⟩
       have h:t2[p2]? =some 41:=h
       rw [hat] at h
       exact e2 (Option.some.inj h)
     show (if mT t2 x 0 { s with p:=p2 }=true then _ else _)=_
     rw [if_pos hmore,l8 (Nat.le_add_right m1 m2) hm1]
     show go9 t2 (m1+m2) (.brl x (l++[q1.1]) 0 { q1.2.2 with p:=p2+τ.length })=_
     rw [l8 (Nat.le_add_left m2 m1) hm2,List.length_append,Nat.add_assoc]
   ·rw [if_neg h0] at h
    injection h with h
    subst h
    unfold brE at hw ⊢
    rw [if_neg (fun h=>h rfl)] at hw ⊢
    by_cases h4:l=[]
    ·rw [if_pos h4] at hw;cases hw
    rw [if_neg h4] at hw ⊢
    obtain ⟨o1,o2⟩:=zk hw
    rw [o2]
    obtain ⟨st1,st2,st3⟩:=mo l s
    obtain ⟨c1,c2,c3⟩:=wK true (600 * (s.p - p0)) l s hlv o1 hll
    have hp:(bd l s).2.p=s.p:=st1
    refine ⟨[],by rw [List.append_nil];exact c2,by rw [List.append_nil];exact hln h4,c1,by show s.p≤(bd l s).2.p;omega,by show _≤600 * ((bd l s).2.p - p0);rw [hp,List.append_nil];exact hll,by show Gw true (600 * ((bd l s).2.p - p0)) _ _;rw [hp];exact c3,fun h=>absurd rfl h,fun t2 p2 rest hd hr=>⟨1,?_⟩⟩
    rw [List.nil_append] at hd
    have g1:¬ mT t2 x 0 { s with p:=p2 }=true:=fun e=>by
     obtain ⟨_,g2,g3,g4⟩:=d9.1 e
     have g2:p2<t2.length:=g2
     have g3:t2[p2]?≠some 124:=g3
     have g4:¬ (x=true∧t2[p2]? =some 41):=g4
     rcases hr with hr | ⟨r,hr⟩| ⟨hx,r,hr⟩
     ·rw [hr] at hd
      have:=congrArg List.length hd
      rw [List.length_drop,List.length_nil] at this
      omega
     ·rw [hr] at hd;exact g3 (cC hd)
     ·rw [hr] at hd;exact g4 ⟨hx,cC hd⟩
    show (if mT t2 x 0 { s with p:=p2 }=true then _ else some (brE l 0 { s with p:=p2 }))=_
    rw [if_neg g1]
    unfold brE
    rw [if_neg (fun h=>h rfl),if_neg h4,B3]
    exact congrArg some (if_neg (by show ¬ (bd l s).1<0;omega))
  | piece s=>
   obtain ⟨j1,j2⟩:=hj
   have j1:s.p<b.length:=j1
   obtain ⟨c,hc⟩:∃ c,b[s.p]? =some c:=⟨_,List.getElem?_eq_getElem j1⟩
   unfold go9 at h
   rw [hc] at h
   dsimp only at h
   have anchor:∀ (kind:Int) (a:UInt8),(kind=7∧a=94∨kind=8∧a=36)→q=okE (ah (kind,0,0,0,0,0,aj) (adv s 1))→l9 b (.piece s) q:=fun kind a hk hq=>by
    subst hq
    obtain ⟨q1,q2⟩:=AZ (s:=s) (s1:=adv s 1) (τ:=[a]) rfl rfl rfl hw (fun l=>by rcases hk with ⟨rfl,rfl⟩| ⟨rfl,rfl⟩<;> rfl) (Nat.le_refl _) (by simp) ⟨a,[],rfl,by rcases hk with ⟨_,rfl⟩| ⟨_,rfl⟩<;> decide,by rcases hk with ⟨_,rfl⟩| ⟨_,rfl⟩<;> decide,by rcases hk with ⟨_,rfl⟩| ⟨_,rfl⟩<;> decide⟩
    refine ⟨[a],q2,fun t2 p2 rest hd _=>⟨1,?_⟩⟩
    have hv:=qB (s:=s) (s1:=adv s 1) rfl rfl rfl hw (p2+1)
    show (match t2[p2]? with | none=>none | some c=>_)=_
    rw [cC (c:=a) hd,q1]
    rcases hk with ⟨rfl,rfl⟩| ⟨rfl,rfl⟩
    ·exact congrArg some hv
    ·exact congrArg some hv
   by_cases h94:c=94
   ·rw [if_pos h94] at h
    injection h with h
    exact anchor 7 94 (.inl ⟨rfl,rfl⟩) h.symm
   rw [if_neg h94] at h
   by_cases h36:c=36
   ·rw [if_pos h36] at h
    injection h with h
    exact anchor 8 36 (.inr ⟨rfl,rfl⟩) h.symm
   rw [if_neg h36] at h
   obtain ⟨q1,h1,rfl⟩:=map_some h
   have hja:dW b (.atom s):=⟨j1,j2⟩
   have he:q1.2.1=0:=Decidable.not_not.1 fun he=>by rw [tP he] at hw;exact he hw
   obtain ⟨⟨a1,a2,a3⟩,_⟩:At9 b (s.p+1) q1.2.2∧_:=ej b n _ q1 h1 hja he
   have hb:l9 b (.atom s) q1:=ih _ _ h1 hja he
   obtain ⟨τ,c0,⟨hfst,crun⟩⟩:=hb
   obtain ⟨k,e,s1⟩:=q1
   have he:e=0:=he
   subst he
   have a2:s1.p≤b.length:=a2
   have a3:s1.g≤9:=a3
   have cpos:s.p+1≤s1.p:=c0.pos
   have ctxt:tx0 true s1.L k=τ:=c0.txt
   have clen:τ.length≤600 * (s1.p - s.p):=c0.len
   have cgw:Gw true (600 * (s1.p - s.p)) s.L s1.L:=c0.gw
   have hw:(aU b (b.length+1) k 0 s1).2.1=0:=hw
   obtain ⟨r1,μ,r2,r3,r4,r5,r7⟩:=zj b (b.length+1) k s1 a2 a3 c0.val hw
   rw [ctxt] at r2 r5
   show ∃ τ,Rd9 s (aU b (b.length+1) k 0 s1) τ∧vg s (aU b (b.length+1) k 0 s1) τ
   have hlen:(τ++μ).length≤600 * ((aU b (b.length+1) k 0 s1).2.2.p - s.p):=by rw [List.length_append];omega
   refine ⟨τ++μ,⟨r1,r2,by omega,hlen,fD (gv (by omega) cgw) (gv hlen r5),?_⟩,fun t2 p2 rest hd hno=>?_⟩
   ·obtain ⟨c',r',e,e1,e2,e3⟩:=c0.hd
    exact ⟨c',r'++μ,by rw [e];rfl,e1,e2,e3⟩
   ·rw [List.append_assoc] at hd
    obtain ⟨m,hm⟩:=crun t2 p2 (μ++rest) hd
    have hd1:=bJ hd
    have hml:μ.length<t2.length+1:=by
     have:=congrArg List.length hd1
     rw [List.length_drop,List.length_append] at this
     omega
    have hrun:=r7 t2 (p2+τ.length) rest (t2.length+1) hd1 hno hml
    refine ⟨m+1,?_⟩
    obtain ⟨c',r',e,e94,e36⟩:=hfst
    show (match t2[p2]? with | none=>none | some c=>_)=_
    rw [cC (c:=c') (r:=r'++(μ++rest)) (by rw [hd,e];rfl)]
    show (if c'=94 then _ else if c'=36 then _ else (go9 t2 m (.atom { s with p:=p2 })).map _)=_
    rw [if_neg e94,if_neg e36,hm]
    show some (aU t2 (t2.length+1) k 0 { s1 with p:=p2+τ.length })=_
    rw [hrun,List.length_append,Nat.add_assoc]
  | atom s=>
   obtain ⟨j1,j2⟩:=hj
   have j1:s.p<b.length:=j1
   obtain ⟨c,hc⟩:∃ c,b[s.p]? =some c:=⟨_,List.getElem?_eq_getElem j1⟩
   unfold go9 at h
   rw [hc] at h
   dsimp only at h
   by_cases hr:repC c
   ·rw [if_pos hr] at h;injection h with h;subst h;cases hw
   rw [if_neg hr] at h
   by_cases h41:c=41
   ·rw [if_pos h41] at h;injection h with h;subst h;cases hw
   rw [if_neg h41] at h
   by_cases h40:c=40
   ·rw [if_pos h40] at h
    have hg:l9 b (.group s) q:=ih (.group s) q h ⟨j1,j2⟩ hw
    exact hg (by rw [hc,h40])
   rw [if_neg h40] at h
   injection h with h
   subst h
   show ∃ τ,Rd9 s (cN b s c) τ∧ow s (cN b s c) τ
   unfold cN at hw ⊢
   by_cases h1:c=92
   ·rw [if_pos h1] at hw ⊢
    unfold jf at hw ⊢
    cases hx:b[s.p+1]? with
    | none=>rw [hx] at hw;cases hw
    | some d=>
     rw [hx] at hw
     dsimp only at hw ⊢
     by_cases h2:49≤d.toNat∧d.toNat≤57
     ·rw [if_pos h2] at hw ⊢
      by_cases h3:s.cl.l[d.toNat - 48]? =some true
      ·rw [if_pos h3] at hw ⊢
       have ec:((d.toNat:Int) - 48).toNat=d.toNat - 48:=by omega
       have hdig:bj (d.toNat - 48)=[d]:=by
        unfold bj
        rw [if_pos (by omega),show 48+(d.toNat - 48)=d.toNat by omega,UInt8.ofNat_toNat]
       obtain ⟨q1,q2⟩:=AZ (s:=s) (s1:=adv s 2) (τ:=[92,d]) rfl rfl rfl hw (fun l=>by
        show [92]++bj ((d.toNat:Int) - 48).toNat=_
        rw [ec,hdig];rfl) (Nat.le_succ _) (by simp) ⟨92,[d],rfl,by decide,by decide,by decide⟩
       refine ⟨_,q2,⟨92,[d],rfl,by decide,by decide⟩,fun t2 p2 rest hd=>⟨1,?_⟩⟩
       rw [tQ (s:={ s with p:=p2 }) (c:=92) hd (by decide) (by decide) (by decide),q1]
       have h4:t2[p2+1]? =some d:=cC (bJ (a:=[92]) hd)
       show some (cN t2 { s with p:=p2 } 92)=_
       unfold cN jf
       rw [if_pos rfl]
       show some (match t2[p2+1]? with | none=>_ | some c=>_)=_
       rw [h4]
       show some (if 49≤d.toNat∧d.toNat≤57 then (if s.cl.l[d.toNat - 48]? =some true then _ else _) else _)=_
       rw [if_pos h2,if_pos h3]
       exact congrArg some (qB (s:=s) (s1:=adv s 2) rfl rfl rfl hw (p2+2))
      ·rw [if_neg h3] at hw;cases hw
     rw [if_neg h2] at hw ⊢
     by_cases h3:lI d.toNat=true∧d.toNat≠110
     ·rw [if_pos h3] at hw;cases hw
     rw [if_neg h3] at hw ⊢
     exact xM (s:=s) (s1:=adv s 2) rfl rfl rfl hw (Nat.le_succ _)
   rw [if_neg h1] at hw ⊢
   by_cases h2:c=46
   ·rw [if_pos h2] at hw ⊢
    exact xM (s:=s) (s1:=adv s 1) rfl rfl rfl hw (Nat.le_refl _)
   rw [if_neg h2] at hw ⊢
   by_cases h3:c=91
   ·rw [if_pos h3] at hw ⊢
    by_cases h4:(bn b (s.p+1)).2.2=0
    ·rw [if_pos h4] at hw ⊢
     obtain ⟨z,hz,hz1,hz2⟩:=fJ h4 j1
     exact xM (s:=s) (s1:={ s with p:=(bn b (s.p+1)).2.1.toNat }) rfl rfl rfl hw (by show s.p+1≤(bn b (s.p+1)).2.1.toNat;rw [hz];omega)
    ·rw [if_neg h4] at hw
     exact absurd hw h4
   ·rw [if_neg h3] at hw ⊢
    exact xM (s:=s) (s1:=adv s 1) rfl rfl rfl hw (Nat.le_refl _)
  | group s=>
   intro hc40
   obtain ⟨j1,j2⟩:=hj
   have j1:s.p<b.length:=j1
   have j2:s.g≤9:=j2
   unfold go9 at h
   by_cases h9:9≤s.g
   ·rw [if_pos h9] at h;injection h with h;subst h;cases hw
   rw [if_neg h9] at h
   obtain ⟨q1,h1,rfl⟩:=map_some h
   have hj1:dW b (.alts true { s with g:=s.g+1,p:=s.p+1 }):=⟨j1,by show s.g+1≤9;omega⟩
   have he:q1.2.1=0:=Decidable.not_not.1 fun he=>by unfold mD at hw;rw [if_pos he] at hw;exact he hw
   have hb:l9 b (.alts true { s with g:=s.g+1,p:=s.p+1 }) q1:=ih _ _ h1 hj1 he
   obtain ⟨τ,c1,c2,c3,c4,c5,c6,c7⟩:=hb
   have c3:s.p+1≤q1.2.2.p:=c3
   have c4:τ.length≤600 * (q1.2.2.p - (s.p+1)):=c4
   have c5:Gw true (600 * (q1.2.2.p - (s.p+1))) s.L q1.2.2.L:=c5
   unfold mD at hw ⊢
   rw [if_neg (fun h=>h he)] at hw
   obtain ⟨p1,p2,p3⟩:=oW hw
   have p3:ah (5,q1.1,0,0,0,((s.g+1:Nat):Int),aj) { q1.2.2 with p:=q1.2.2.p+1,cl:=Arr.set q1.2.2.cl (s.g+1) true }=((q1.2.2.L.length:Int),⟨q1.2.2.L++[(5,q1.1,0,0,0,((s.g+1:Nat):Int),aj)],q1.2.2.g,q1.2.2.p+1,Arr.set q1.2.2.cl (s.g+1) true⟩):=p3
   have o:okE (ah (5,q1.1,0,0,0,((s.g+1:Nat):Int),aj) { q1.2.2 with p:=q1.2.2.p+1,cl:=Arr.set q1.2.2.cl (s.g+1) true })=((q1.2.2.L.length:Int),0,⟨q1.2.2.L++[(5,q1.1,0,0,0,((s.g+1:Nat):Int),aj)],q1.2.2.g,q1.2.2.p+1,Arr.set q1.2.2.cl (s.g+1) true⟩):=by
    rw [p3];exact if_neg (by show ¬ (q1.2.2.L.length:Int)<0;omega)
   show ∃ τ,Rd9 s (if q1.2.1≠0 then _ else _) τ∧ow s (if q1.2.1≠0 then _ else _) τ
   rw [if_neg (fun h=>h he),o]
   have hnd:eD true (5,q1.1,0,0,0,((s.g+1:Nat):Int),aj) (aT true q1.2.2.L)=[40]++τ++[41]:=by
    show hX true 40++tx0 true q1.2.2.L q1.1++hX true 41=_
    rw [c1];rfl
   have htx:=(jZ true q1.2.2.L (5,q1.1,0,0,0,((s.g+1:Nat):Int),aj)).trans hnd
   have hll:([40]++τ++[41]).length≤600 * (q1.2.2.p+1 - s.p):=by simp only [List.length_append,List.length_cons,List.length_nil];omega
   refine ⟨[40]++τ++[41],⟨⟨Int.natCast_nonneg _,by show (q1.2.2.L.length:Int)<((q1.2.2.L++[_]).length:Int);simp <;> omega⟩,htx,by show s.p+1≤q1.2.2.p+1;omega,hll,fD (gv (by show 600 * (q1.2.2.p - (s.p+1))≤600 * (q1.2.2.p+1 - s.p);omega) c5) (lm (by rw [hnd];exact hll)),⟨40,τ++[41],rfl,by decide,by decide,by decide⟩⟩,⟨40,τ++[41],rfl,by decide,by decide⟩,fun t2 p2 rest hd=>?_⟩
   have hd0:t2.drop p2=[40]++(τ++([41]++rest)):=by rw [hd];simp
   have hd1:=bJ hd0
   obtain ⟨m,hm⟩:=c7 t2 (p2+1) ([41]++rest) hd1 ⟨fun _=>⟨rest,rfl⟩,fun h=>by cases h⟩
   refine ⟨m+2,?_⟩
   have e1:go9 t2 (m+2) (.atom { s with p:=p2 })=go9 t2 (m+1) (.group { s with p:=p2 }):=by
    show (match t2[p2]? with | none=>none | some c=>_)=_
    rw [cC (c:=40) hd0];rfl
   rw [e1]
   show (if 9≤s.g then _ else (go9 t2 m (.alts true { ({ s with p:=p2 }:Pz) with g:=s.g+1,p:=p2+1 })).map (mD s.g))=_
   have hm:go9 t2 m (.alts true { ({ s with p:=p2 }:Pz) with g:=s.g+1,p:=p2+1 })=_:=hm
   rw [if_neg h9,hm]
   show some (mD s.g (q1.1,0,{ q1.2.2 with p:=p2+1+τ.length }))=_
   unfold mD
   rw [if_neg (fun h=>h rfl)]
   have hv:=sm (5,q1.1,0,0,0,((s.g+1:Nat):Int),aj) { q1.2.2 with p:=q1.2.2.p+1,cl:=Arr.set q1.2.2.cl (s.g+1) true } (p2+1+τ.length+1)
   rw [p3] at hv
   have hv:ah (5,q1.1,0,0,0,((s.g+1:Nat):Int),aj) { ({ q1.2.2 with p:=p2+1+τ.length }:Pz) with p:=p2+1+τ.length+1,cl:=Arr.set q1.2.2.cl (s.g+1) true }=((q1.2.2.L.length:Int),⟨q1.2.2.L++[(5,q1.1,0,0,0,((s.g+1:Nat):Int),aj)],q1.2.2.g,p2+1+τ.length+1,Arr.set q1.2.2.cl (s.g+1) true⟩):=hv
   have el:p2+([40]++τ++[41]:List UInt8).length=p2+1+τ.length+1:=by simp only [List.length_append,List.length_singleton];omega
   show some (okE (ah (5,q1.1,0,0,0,((s.g+1:Nat):Int),aj) { ({ q1.2.2 with p:=p2+1+τ.length }:Pz) with p:=p2+1+τ.length+1,cl:=Arr.set q1.2.2.cl (s.g+1) true }))=some ((q1.2.2.L.length:Int),0,(⟨q1.2.2.L++[(5,q1.1,0,0,0,((s.g+1:Nat):Int),aj)],q1.2.2.g,p2+([40]++τ++[41]:List UInt8).length,Arr.set q1.2.2.cl (s.g+1) true⟩:Pz))
   rw [hv,el]
   exact congrArg some (if_neg (by show ¬ (q1.2.2.L.length:Int)<0;omega))
end Go.Proofs.YtnbceeholnkfeaaGreatDoor
