/- Texts that were written are read: numbers, repetitions, sets. -/
import Derived.Test.YtnbceeholnkfeaaGreatDoorPbA
import Derived.Test.YtnbceeholnkfeaaGreatDoorBqD
namespace Go.Proofs.YtnbceeholnkfeaaGreatDoor
theorem bJ {t a r:List UInt8} {p:Nat} (h:t.drop p=a++r):t.drop (p+a.length)=r:=by
 rw [← List.drop_drop,h,List.drop_left]
theorem cC {t r:List UInt8} {c:UInt8} {p:Nat} (h:t.drop p=c :: r):t[p]? =some c:=by
 have:=congrArg (fun l=>l[0]?) h
 rw [List.getElem?_drop] at this
 exact this
theorem yX {t:List UInt8} {p:Nat} (h:t.drop p=[]):t[p]? =none:=by
 have:=congrArg (fun l=>l[0]?) h
 rw [List.getElem?_drop] at this
 exact this
theorem uk {t r:List UInt8} {c:UInt8} {p:Nat} (h:t.drop p=c :: r):p<t.length:=(List.getElem?_eq_some_iff.1 (cC h)).1
theorem l5 {t l r:List UInt8} {p:Nat} (h:t.drop p=l++r):aI t p l=true:=by
 unfold aI
 rw [h,List.take_left]
 exact decide_eq_true rfl
theorem ll {t l r:List UInt8} {c d:UInt8} {p:Nat} (h:t.drop p=c :: r) (hc:c≠d):aI t p (d :: l)=false:=by
 unfold aI
 rw [h,List.length_cons,List.take_succ_cons]
 exact decide_eq_false fun e=>hc (List.cons.inj e).1
theorem oo {t l:List UInt8} {d:UInt8} {p:Nat} (h:t.drop p=[]):aI t p (d :: l)=false:=by
 unfold aI
 rw [h,List.take_nil]
 exact decide_eq_false fun e=>by cases e
theorem qx {t r:List UInt8} {c d e:UInt8} {p:Nat} (h:t.drop p=c :: d :: r) (hc:d≠e):aI t p [c,e]=false:=by
 unfold aI
 rw [h,List.length_cons,List.take_succ_cons,List.length_cons,List.take_succ_cons,List.length_nil,List.take_zero]
 exact decide_eq_false fun e=>hc (List.cons.inj (List.cons.inj e).2).1
theorem pR {d:Nat} (h:d<256):(UInt8.ofNat d).toNat=d:=UInt8.toNat_ofNat_of_lt' (by simp [UInt8.size];omega)
theorem l6 {n:Int} {d:Nat} {t:List UInt8} (hd:d≤9) (h0:0≤n) (h:n * 10+(d:Int)≤255):co n false (UInt8.ofNat (48+d) :: t)=((co (n * 10+(d:Int)) false t).1,(co (n * 10+(d:Int)) false t).2.1+1,(co (n * 10+(d:Int)) false t).2.2):=by
 have e:(UInt8.ofNat (48+d)).toNat=48+d:=pR (by omega)
 have e2:(((48+d:Nat):Int) - 48)=(d:Int):=by omega
 have hf:decide ((255 - (d:Int)).tdiv 10<n)=false:=decide_eq_false (by rw [Int.tdiv_eq_ediv_of_nonneg (by omega)];omega)
 rw [fV,if_pos (by rw [e];omega),e,e2,hf,Bool.or_false,if_neg (by decide)]
theorem yY {u:Nat} (hu:u≤255) (r:List UInt8) (hr:∀ c t,r=c :: t→¬ (48≤c.toNat∧c.toNat≤57)):co 0 false (bj u++r)=((u:Int),(bj u).length,false):=by
 have nm:∀ n:Int,co n false r=(n,0,false):=fun n=>by
  cases r with
  | nil=>rfl
  | cons c t=>rw [fV,if_neg (hr c t rfl)]
 unfold bj
 by_cases h1:u<10
 ·rw [if_pos h1]
  show co 0 false (UInt8.ofNat (48+u) :: r)=_
  rw [l6 (by omega) (by omega) (by omega),nm]
  show ((0:Int) * 10+(u:Int),0+1,false)=((u:Int),1,false)
  rw [show (0:Int) * 10+(u:Int)=(u:Int) by omega]
 rw [if_neg h1]
 by_cases h2:u<100
 ·rw [if_pos h2]
  show co 0 false (UInt8.ofNat (48+u / 10) :: UInt8.ofNat (48+u % 10) :: r)=_
  rw [l6 (by omega) (by omega) (by omega),l6 (by omega) (by omega) (by omega),nm]
  show (((0:Int) * 10+((u / 10:Nat):Int)) * 10+((u % 10:Nat):Int),0+1+1,false)=((u:Int),2,false)
  rw [show ((0:Int) * 10+((u / 10:Nat):Int)) * 10+((u % 10:Nat):Int)=(u:Int) by omega]
 ·rw [if_neg h2]
  show co 0 false (UInt8.ofNat (48+u / 10 / 10) :: UInt8.ofNat (48+u / 10 % 10) :: UInt8.ofNat (48+u % 10) :: r)=_
  rw [l6 (by omega) (by omega) (by omega),l6 (by omega) (by omega) (by omega),l6 (by omega) (by omega) (by omega),nm]
  show ((((0:Int) * 10+((u / 10 / 10:Nat):Int)) * 10+((u / 10 % 10:Nat):Int)) * 10+((u % 10:Nat):Int),0+1+1+1,false)=((u:Int),3,false)
  rw [show (((0:Int) * 10+((u / 10 / 10:Nat):Int)) * 10+((u / 10 % 10:Nat):Int)) * 10+((u % 10:Nat):Int)=(u:Int) by omega]
theorem CP (u:Nat):1≤(bj u).length:=by
 unfold bj
 split
 ·simp
 ·split <;> simp
theorem jC {t r:List UInt8} {p u:Nat} (h:t.drop p=bj u++r) (hu:u≤255) (hr:∀ c t,r=c :: t→¬ (48≤c.toNat∧c.toNat≤57)):am t p=((u:Int),((p+(bj u).length:Nat):Int),0):=by
 have h1:=CP u
 unfold am
 rw [h,yY hu r hr,if_neg (by show ¬ (bj u).length=0;omega),if_neg (by show ¬ false=true;decide)]
theorem wF {t r:List UInt8} {p:Nat} {c:UInt8} (h:t.drop p=c :: r) (hc:¬ (48≤c.toNat∧c.toNat≤57)):(am t p).2.2=9:=by
 unfold am
 rw [h,fV,if_neg hc,if_pos rfl]
theorem qQ {lo hi:Int} (ht:db lo hi=true):0≤lo∧lo≤255∧(hi= -1∨(lo≤hi∧hi≤255)):=by
 unfold db at ht
 simp only [Bool.and_eq_true,Bool.or_eq_true,decide_eq_true_eq] at ht
 exact ht
theorem yZ {t rest:List UInt8} {k lo hi:Int} {s:Pz} (h:t.drop s.p=bq false lo hi++rest) (ht:db lo hi=true):
  (aI t s.p [42] || aI t s.p [92,123])=true∧aR t k s=okR (ah (4,k,0,lo,hi,0,aj) { s with p:=s.p+(bq false lo hi).length }):=by
 obtain ⟨b0,b1,b2⟩:=qQ ht
 by_cases h0:lo=0∧hi= -1
 ·have e:bq false lo hi=[42]:=by unfold bq;rw [if_pos h0]
  rw [e] at h ⊢
  have hs:=l5 h
  refine ⟨by rw [hs];rfl,?_⟩
  unfold aR
  rw [if_pos hs,h0.1,h0.2];rfl
 ·have e:bq false lo hi=[92,123]++(jV lo hi++[92,125]):=by
   unfold bq;rw [if_neg h0,List.append_assoc];rfl
  rw [e,List.append_assoc] at h
  have hs:=l5 h
  have hn:aI t s.p [42]=false:=ll (c:=92) h (by decide)
  refine ⟨by rw [hs,Bool.or_true],?_⟩
  have h2:=bJ h
  have h2:t.drop (s.p+2)=jV lo hi++[92,125]++rest:=h2
  have hl:(bq false lo hi).length=2+((jV lo hi).length+2):=by rw [e];simp;omega
  unfold aR
  rw [hn,if_neg (by decide),hl]
  have fin:∀ a:Nat,t.drop a=[92,125]++rest→a+2=s.p+(2+((jV lo hi).length+2))→dV t k lo hi s a=okR (ah (4,k,0,lo,hi,0,aj) { s with p:=s.p+(2+((jV lo hi).length+2)) }):=fun a ha hl=>by
   unfold dV
   rw [l5 ha,if_neg ?_,hl]
   rcases b2 with rfl | ⟨b2,b3⟩
   ·rw [decide_eq_true rfl];simp
   ·rw [decide_eq_false (show ¬ hi<lo by omega),Bool.and_false];decide
  have elo:((lo.toNat:Nat):Int)=lo:=by omega
  unfold jV at h2 fin ⊢
  by_cases h3:hi= -1
  ·rw [if_pos h3] at h2 fin ⊢
   rw [List.append_assoc,List.append_assoc] at h2
   have h4:=jC h2 (by omega) (fun c t e=>by
    have e:([44]++([92,125]++rest):List UInt8)=c :: t:=e
    obtain ⟨rfl,_⟩:=List.cons.inj e
    decide)
   rw [h4]
   have h5:=bJ h2
   have h6:=bJ h5
   rw [if_neg (by show ¬ (0:Int)≠0;decide)]
   rw [show (((lo.toNat:Nat):Int),((s.p+2+(bj lo.toNat).length:Nat):Int),(0:Int)).2.1.toNat=s.p+2+(bj lo.toNat).length from Int.toNat_natCast _]
   rw [if_pos (cC h5)]
   have h7:=wF (c:=92) h6 (by decide)
   have h7:(am t (s.p+2+(bj lo.toNat).length+1)).2.2=9:=h7
   rw [if_neg (by rw [h7];decide),if_pos h7]
   show dV t k ((lo.toNat:Nat):Int) (-1) s (s.p+2+(bj lo.toNat).length+1)=_
   rw [elo]
   have:=fin (s.p+2+(bj lo.toNat).length+1) h6 (by simp;omega)
   rw [h3] at this ⊢
   exact this
  ·rw [if_neg h3] at h2 fin ⊢
   by_cases h4:hi=lo
   ·rw [if_pos h4,List.append_nil] at h2 fin ⊢
    rw [List.append_assoc] at h2
    have h5:=jC h2 (by omega) (fun c t e=>by
     have e:([92,125]++rest:List UInt8)=c :: t:=e
     obtain ⟨rfl,_⟩:=List.cons.inj e
     decide)
    rw [h5]
    have h6:=bJ h2
    rw [if_neg (by show ¬ (0:Int)≠0;decide)]
    rw [show (((lo.toNat:Nat):Int),((s.p+2+(bj lo.toNat).length:Nat):Int),(0:Int)).2.1.toNat=s.p+2+(bj lo.toNat).length from Int.toNat_natCast _]
    rw [if_neg (by rw [cC (c:=92) h6];decide)]
    show dV t k ((lo.toNat:Nat):Int) ((lo.toNat:Nat):Int) s (s.p+2+(bj lo.toNat).length)=_
    rw [elo]
    have:=fin (s.p+2+(bj lo.toNat).length) h6 (by omega)
    rw [h4] at this ⊢
    exact this
   ·rw [if_neg h4] at h2 fin ⊢
    have ehi:((hi.toNat:Nat):Int)=hi:=by omega
    rw [List.append_assoc,List.append_assoc,List.append_assoc] at h2
    have h5:=jC h2 (by omega) (fun c t e=>by
     have e:([44]++(bj hi.toNat++([92,125]++rest)):List UInt8)=c :: t:=e
     obtain ⟨rfl,_⟩:=List.cons.inj e
     decide)
    rw [h5]
    have h6:=bJ h2
    have h7:=bJ h6
    have h7:t.drop (s.p+2+(bj lo.toNat).length+1)=bj hi.toNat++([92,125]++rest):=h7
    have h8:=jC h7 (by omega) (fun c t e=>by
     have e:([92,125]++rest:List UInt8)=c :: t:=e
     obtain ⟨rfl,_⟩:=List.cons.inj e
     decide)
    have h9:=bJ h7
    rw [if_neg (by show ¬ (0:Int)≠0;decide)]
    rw [show (((lo.toNat:Nat):Int),((s.p+2+(bj lo.toNat).length:Nat):Int),(0:Int)).2.1.toNat=s.p+2+(bj lo.toNat).length from Int.toNat_natCast _]
    rw [if_pos (cC h6),h8,if_pos rfl]
    show dV t k ((lo.toNat:Nat):Int) ((hi.toNat:Nat):Int) s ((((s.p+2+(bj lo.toNat).length+1+(bj hi.toNat).length:Nat):Int)).toNat)=_
    rw [elo,ehi,Int.toNat_natCast]
    exact fin _ h9 (by simp;omega)
end Go.Proofs.YtnbceeholnkfeaaGreatDoor
namespace Go.Proofs.YtnbceeholnkfeaaGreatDoor
theorem AS (b:List UInt8):∀ (n:Nat) (j:Job) (q:Res),go b n j=some q→go b (n+1) j=some q:=by
 intro n
 induction n with
 | zero=>intro j q h;cases h
 | succ n ih=>
  intro j q h
  cases j with
  | branch inner s=>
   unfold go at h ⊢
   split at h
   ·rename_i h1
    rw [if_pos h1]
    split at h
    ·rename_i h2
     rw [if_pos h2];exact h
    ·rename_i h2
     rw [if_neg h2];exact ih _ _ h
   ·rename_i h1
    rw [if_neg h1];exact ih _ _ h
  | loop inner l f s=>
   unfold go at h ⊢
   split at h
   ·rename_i h1
    rw [if_pos h1]
    cases hg:go b n (.piece f s) with
    | none=>rw [hg] at h;cases h
    | some q1=>
     obtain ⟨k,w,s'⟩:=q1
     rw [hg] at h
     rw [ih _ _ hg]
     dsimp only at h ⊢
     split at h
     ·rename_i h2
      rw [if_pos h2];exact ih _ _ h
     ·rename_i h2
      rw [if_neg h2];exact h
   ·rename_i h1
    rw [if_neg h1];exact h
  | piece f s=>
   unfold go at h ⊢
   split at h
   ·rename_i h1
    rw [if_pos h1];exact h
   ·rename_i h1
    rw [if_neg h1]
    split at h
    ·rename_i h2
     rw [if_pos h2];exact h
    ·rename_i h2
     rw [if_neg h2]
     cases hg:go b n (.atom s) with
     | none=>rw [hg] at h;cases h
     | some q1=>
      rw [hg] at h
      rw [ih _ _ hg];exact h
  | atom s=>
   unfold go at h ⊢
   cases hc:b[s.p]? with
   | none=>rw [hc] at h;cases h
   | some c=>
    rw [hc] at h
    dsimp only at h ⊢
    by_cases h1:c.toNat=92
    ·rw [if_pos h1] at h ⊢;exact ih _ _ h
    ·rw [if_neg h1] at h ⊢;exact h
  | escape s=>
   unfold go at h ⊢
   cases hc:b[s.p+1]? with
   | none=>rw [hc] at h;exact h
   | some c=>
    rw [hc] at h
    dsimp only at h ⊢
    by_cases h1:c.toNat=40
    ·rw [if_pos h1] at h ⊢;exact ih _ _ h
    ·rw [if_neg h1] at h ⊢;exact h
  | group s=>
   unfold go at h ⊢
   split at h
   ·rename_i h1
    rw [if_pos h1];exact h
   ·rename_i h1
    rw [if_neg h1]
    cases hg:go b n (.branch true { s with g:=s.g+1,p:=s.p+2 }) with
    | none=>rw [hg] at h;cases h
    | some q1=>
     rw [hg] at h
     rw [ih _ _ hg];exact h
theorem qy {b : List UInt8} {n m : Nat} (h : n ≤ m) {j : Job} {q : Res} (hq : go b n j = some q) : go b m j = some q := by
  induction m with
  | zero => obtain rfl : n = 0 := by omega
            exact hq
  | succ m ih =>
    rcases (by omega : n ≤ m ∨ n = m + 1) with h1 | rfl
    · exact AS b m j q (ih h1)
    · exact hq
theorem wG {t rest:List UInt8} {p:Nat} {neg:Bool} {s:ay} (hd:t.drop p=fU neg s++rest) (hne:(be s 256).length≠0) (h94:neg=false→s≠ofS [94]):
  bn t (p+1)=(if neg=true then fI s else s,((p+(fU neg s).length:Nat):Int),0):=by
 have hU:=BF neg s hne
 have hg:=yf neg s
 have hlen:=zS neg s
 have hacc:=zR neg s
 have hloop:dj ((iy (ck neg s) rest).length+1) true (iy (ck neg s) rest) z4 0= .ok (s,0+((ck neg s).flatMap tx).length+1):=by
  have hfl:∀ l:List UInt8,l.length≤(l.flatMap tx).length:=fun l=>by
   induction l with
   | nil=>simp
   | cons c l ih=>rw [List.flatMap_cons,List.length_append,List.length_cons];have:=(vP c).2;omega
  have:=hfl (ck neg s)
  rw [ye rest (ck neg s) _ true z4 0 hg (by unfold iy;rw [List.length_append,List.length_cons];omega) (fun _=>hU),hacc]
 rw [sD neg s rest] at hd
 unfold bn
 cases neg with
 | true=>
  have e0:t.drop (p+1)=94 :: iy (ck true s) rest:=bJ (a:=[91]) hd
  have e1:t.drop (p+1+1)=iy (ck true s) rest:=bJ (a:=[94]) e0
  rw [e0,if_pos (show uf (94 :: iy (ck true s) rest)=true from rfl),e1,hloop]
  refine Prod.ext rfl (Prod.ext ?_ rfl)
  show ((p+1+1+(0+((ck true s).flatMap tx).length+1):Nat):Int)=((p+(fU true s).length:Nat):Int)
  rw [hlen]
  show ((p+1+1+(0+((ck true s).flatMap tx).length+1):Nat):Int)=((p+(2+((ck true s).flatMap tx).length+1):Nat):Int)
  omega
 | false=>
  have e1:t.drop (p+1)=iy (ck false s) rest:=bJ (a:=[91]) hd
  have hno:¬ uf (iy (ck false s) rest)=true:=by
   obtain ⟨x,t,hx,hn⟩:=nE (ck false s) rest
   rw [hx]
   intro h
   have h:x.toNat=94:=of_decide_eq_true h
   cases hq:ck false s with
   | nil=>exact hU hq
   | cons c U=>
    rw [hq,rD] at hn
    have hc:c=94:=ls (by
     by_cases hc:c.toNat=10
     ·rw [if_pos hc] at hn;omega
     ·rw [if_neg hc] at hn;rw [← hn,h];rfl)
    subst hc
    exact yg s (h94 rfl) U hq
  rw [e1,if_neg hno,hloop]
  refine Prod.ext rfl (Prod.ext ?_ rfl)
  show ((p+1+(0+((ck false s).flatMap tx).length+1):Nat):Int)=((p+(fU false s).length:Nat):Int)
  rw [hlen]
  show ((p+1+(0+((ck false s).flatMap tx).length+1):Nat):Int)=((p+(1+((ck false s).flatMap tx).length+1):Nat):Int)
  omega
theorem wH {S:ay} {c:UInt8} (h:be S 256=[c]):S=ofS [c]:=by
 refine mX fun d hd=>?_
 rw [rN [c] d hd]
 have h1:=o5 S (UInt8.ofNat d)
 rw [h,List.mem_singleton] at h1
 unfold bQ at h1
 rw [pR hd] at h1
 show aS S d=(decide (c.toNat=d) || false)
 rw [Bool.or_false]
 by_cases hc:c.toNat=d
 ·rw [decide_eq_true hc]
  exact h1.1 (by rw [← hc,UInt8.ofNat_toNat])
 ·rw [decide_eq_false hc]
  refine Bool.eq_false_iff.2 fun e=>hc ?_
  have:=h1.2 e
  rw [← this,pR hd]
theorem wI {S:ay} (h:(be S 256).length=256):S=fI z4:=by
 refine mX fun d hd=>?_
 rw [mY z4 d hd,show aS z4 d=false from lH d hd]
 unfold be at h
 rw [List.length_map] at h
 have h2:((List.range 256).filter (aS S)).length=(List.range 256).length:=by rw [h,List.length_range]
 rw [List.length_filter_eq_length_iff] at h2
 exact h2 d (List.mem_range.2 hd)
theorem CQ:(be (ofS [94]) 256).length=1:=by
 have e:be (ofS [94]) 256=[94]:=by kernel_rfl
 rw [e];rfl
theorem oV {t rest:List UInt8} {p:Nat} {S:ay} (hd:t.drop p=jH S++rest):bn t (p+1)=(S,((p+(jH S).length:Nat):Int),0)∧∃ r,jH S=91 :: r:=by
 have hc:=Dp S 256 (Nat.le_refl _)
 have hpre:∀ neg s,∃ r,fU neg s=91 :: r:=fun neg s=>by
  unfold fU fT
  cases neg <;> exact ⟨_,rfl⟩
 unfold jH at hd ⊢
 by_cases hn:rB S=true
 ·rw [if_pos hn] at hd ⊢
  have hn:=of_decide_eq_true hn
  have hne:(be S 256).length<256:=by
   rcases hn with h | h | h
   ·omega
   ·omega
   ·rw [h,CQ];decide
  have:=wG hd (by omega) (fun h=>by cases h)
  rw [if_pos rfl,BE] at this
  exact ⟨this,hpre _ _⟩
 ·rw [if_neg hn] at hd ⊢
  have hn:¬ _:=fun h=>hn (decide_eq_true h)
  have:=wG hd (fun h=>hn (.inl h)) (fun _ h=>hn (.inr (.inr h)))
  rw [if_neg (by decide)] at this
  exact ⟨this,hpre _ _⟩
theorem tK {c:UInt8} (h:c∈jE false):c=46∨c=91∨c=92∨c=42∨c=94∨c=36:=by
 have h:c∈([46,91,92,42,94,36]:List UInt8):=h
 simpa using h
theorem qz {t r:List UInt8} {n:Nat} {s:Pz} (h:t.drop s.p=92 :: r):go t (n+1) (.atom s)=go t n (.escape s):=by
 show (match t[s.p]? with | none=>none | some c=>_)=_
 rw [cC h];rfl
theorem AT {t rest:List UInt8} {c:UInt8} {s:Pz} (hd:t.drop s.p=jm false c++rest):∃ n,go t n (.atom s)=some (okR (ah (cn (ofS [c])) { s with p:=s.p+(jm false c).length })):=by
 unfold jm at hd ⊢
 by_cases h1:c.toNat=10
 ·rw [if_pos h1] at hd ⊢
  obtain rfl:c=10:=UInt8.toNat_inj.1 h1
  refine ⟨2,?_⟩
  rw [qz hd]
  have h2:t[s.p+1]? =some 110:=cC (bJ (a:=[92]) hd)
  unfold go
  rw [h2];rfl
 rw [if_neg h1] at hd ⊢
 by_cases h2:c∈jE false
 ·rw [if_pos h2] at hd ⊢
  refine ⟨2,?_⟩
  rw [qz hd]
  have h3:t[s.p+1]? =some c:=cC (bJ (a:=[92]) hd)
  unfold go
  rw [h3]
  rcases tK h2 with rfl | rfl | rfl | rfl | rfl | rfl <;> rfl
 ·rw [if_neg h2] at hd ⊢
  refine ⟨1,?_⟩
  have hne:∀ d:UInt8,d∈jE false→¬ c.toNat=d.toNat:=fun d hd2 e=>h2 (by rw [UInt8.toNat_inj.1 e];exact hd2)
  unfold go
  rw [cC hd]
  dsimp only
  rw [if_neg (show ¬ c.toNat=92 from hne 92 (by decide)),if_neg (show ¬ c.toNat=46 from hne 46 (by decide)),if_neg (show ¬ c.toNat=91 from hne 91 (by decide)),if_neg (fun e=>(show ¬ c.toNat=36 from hne 36 (by decide)) e.1)]
  rfl
theorem AU {t rest:List UInt8} {S:ay} {s:Pz} (hd:t.drop s.p=iS false S++rest):∃ n,go t n (.atom s)=some (okR (ah (cn S) { s with p:=s.p+(iS false S).length })):=by
 unfold iS at hd ⊢
 by_cases h1:(be S 256).length=1
 ·rw [if_pos h1] at hd ⊢
  obtain ⟨c,hc⟩:∃ c,be S 256=[c]:=List.length_eq_one_iff.1 h1
  have hS:=wH hc
  rw [hc] at hd ⊢
  have hd:t.drop s.p=jm false c++rest:=hd
  have:=AT hd
  rw [← hS] at this
  exact this
 rw [if_neg h1] at hd ⊢
 by_cases h2:(be S 256).length=256
 ·rw [if_pos h2] at hd ⊢
  have hS:=wI h2
  refine ⟨1,?_⟩
  unfold go
  rw [cC hd,hS];rfl
 ·rw [if_neg h2] at hd ⊢
  obtain ⟨h3,r,hr⟩:=oV hd
  refine ⟨1,?_⟩
  unfold go
  rw [cC (c:=91) (r:=r++rest) (by rw [hd,hr];rfl),h3]
  dsimp only
  rw [if_neg (by decide),if_neg (by decide),if_pos (by decide),if_pos rfl]
  rfl
end Go.Proofs.YtnbceeholnkfeaaGreatDoor
namespace Go.Proofs.YtnbceeholnkfeaaGreatDoor
def tx0 (x:Bool) (L:List ND) (k:Int):List UInt8:=at0 (aT x L) k
theorem za (x:Bool) (L N:List ND):∃ R,aT x (L++N)=aT x L++R:=by
 have key:∀ (N:List ND) (acc:List (List UInt8)),∃ R,N.foldl (fun l n=>l++[eD x n l]) acc=acc++R:=by
  intro N
  induction N with
  | nil=>intro acc;exact ⟨[],by simp⟩
  | cons n N ih=>
   intro acc
   obtain ⟨R,hR⟩:=ih (acc++[eD x n acc])
   exact ⟨[eD x n acc]++R,by rw [List.foldl_cons,hR,List.append_assoc]⟩
 unfold aT
 rw [List.foldl_append]
 exact key N _
theorem vc {x:Bool} {L:List ND} (N:List ND) {k:Int} (h:0≤k∧k<(L.length:Int)):tx0 x (L++N) k=tx0 x L k:=by
 obtain ⟨R,hR⟩:=za x L N
 unfold tx0 at0
 rw [hR,List.getElem?_append_left (by rw [gK];omega)]
theorem jZ (x:Bool) (L:List ND) (n:ND):tx0 x (L++[n]) (L.length:Int)=eD x n (aT x L):=by
 unfold tx0 at0
 rw [sA,Int.toNat_natCast,List.getElem?_append_right (by rw [gK];exact Nat.le_refl _),gK,Nat.sub_self];rfl
def Gw (x:Bool) (B:Nat) (L L':List ND):Prop:=(∃ N,L'=L++N)∧∀ i:Nat,L.length≤i→i<L'.length→(tx0 x L' (i:Int)).length≤B
theorem tf (x:Bool) (B:Nat) (L:List ND):Gw x B L L:=⟨⟨[],by simp⟩,fun i h1 h2=>by omega⟩
theorem fD {x:Bool} {B:Nat} {L L' L'':List ND} (h:Gw x B L L') (k:Gw x B L' L''):Gw x B L L'':=by
 obtain ⟨⟨N,rfl⟩,h2⟩:=h
 obtain ⟨⟨M,rfl⟩,k2⟩:=k
 refine ⟨⟨N++M,by rw [List.append_assoc]⟩,fun i h3 h4=>?_⟩
 rcases Nat.lt_or_ge i (L++N).length with h5 | h5
 ·rw [vc M ⟨Int.natCast_nonneg _,by omega⟩];exact h2 i h3 h5
 ·exact k2 i h5 h4
theorem gv {x:Bool} {B B':Nat} {L L':List ND} (hb:B≤B') (h:Gw x B L L'):Gw x B' L L':=⟨h.1,fun i h1 h2=>Nat.le_trans (h.2 i h1 h2) hb⟩
theorem lm {x:Bool} {B:Nat} {L:List ND} {n:ND} (h:(eD x n (aT x L)).length≤B):Gw x B L (L++[n]):=by
 refine ⟨⟨[n],rfl⟩,fun i h1 h2=>?_⟩
 obtain rfl:i=L.length:=by rw [List.length_append,List.length_singleton] at h2;omega
 rw [jZ];exact h
theorem oq {x:Bool} {B:Nat} {L L':List ND} {k:Int} (h:Gw x B L L') (hk:0≤k∧k<(L.length:Int)):(0≤k∧k<(L'.length:Int))∧tx0 x L' k=tx0 x L k:=by
 obtain ⟨⟨N,rfl⟩,_⟩:=h
 exact ⟨⟨hk.1,by rw [List.length_append];omega⟩,vc N hk⟩
def cc (x:Bool) (L:List ND) (l:List Int):List UInt8:=(l.map (tx0 x L)).flatten
theorem zb {x:Bool} {B:Nat} {L L':List ND} {l:List Int} (h:Gw x B L L') (hl:∀ y∈l,0≤y∧y<(L.length:Int)):cc x L' l=cc x L l:=by
 unfold cc
 rw [List.map_congr_left fun y hy=>(oq h (hl y hy)).2]
theorem wJ (x:Bool) (L:List ND) (l:List Int) (k:Int):cc x L (l++[k])=cc x L l++tx0 x L k:=by
 unfold cc
 rw [List.map_append,List.flatten_append];simp
theorem sm (nd:ND) (s:Pz) (p:Nat):ah nd { s with p:=p }=((ah nd s).1,{ (ah nd s).2 with p:=p }):=by
 unfold ah
 by_cases h:1000≤s.L.length
 ·rw [if_pos h,if_pos h]
 ·rw [if_neg h,if_neg h]
  by_cases h2:aP nd s.L.length s.g=true
  ·rw [if_pos h2,if_pos h2]
  ·rw [if_neg h2,if_neg h2]
theorem vd (kind:Int):∀ (l:List Int) (k:Int) (s:Pz) (p:Nat),bf kind l k { s with p:=p }=((bf kind l k s).1,{ (bf kind l k s).2 with p:=p })
 | [],k,s,p=>rfl
 | y :: t,k,s,p=>by
  rw [cG,cG]
  by_cases h:k= -1
  ·rw [if_pos h,if_pos h]
  ·rw [if_neg h,if_neg h,sm]
   exact vd kind t _ _ p
theorem B3 (l:List Int) (s:Pz) (p:Nat):bd l { s with p:=p }=((bd l s).1,{ (bd l s).2 with p:=p }):=by
 cases l with
 | nil=>exact sm _ s p
 | cons x t=>
  rw [gL,gL]
  by_cases h:x<0∨(s.L.length:Int)≤x
  ·rw [if_pos h,if_pos h]
  ·rw [if_neg h,if_neg h];exact vd 2 t x s p
theorem rq (x:Bool) (kind:Int) (sep:List UInt8) (hk:kind=2∧sep=[]∨kind=3∧sep=[124]) (B:Nat):∀ (l:List Int) (k:Int) (s:Pz),(0≤k∧k<(s.L.length:Int))→(∀ y∈l,0≤y∧y<(s.L.length:Int))→0≤(bf kind l k s).1→(tx0 x s.L k++(l.map fun y=>sep++tx0 x s.L y).flatten).length≤B→
  (0≤(bf kind l k s).1∧(bf kind l k s).1<((bf kind l k s).2.L.length:Int))∧tx0 x (bf kind l k s).2.L (bf kind l k s).1=tx0 x s.L k++(l.map fun y=>sep++tx0 x s.L y).flatten∧Gw x B s.L (bf kind l k s).2.L
 | [],k,s,hv,_,_,_=>⟨hv,by show tx0 x s.L k=tx0 x s.L k++[];rw [List.append_nil],tf _ _ _⟩
 | y :: t,k,s,hv,hl,h,hB=>by
  rw [cG,if_neg (by omega)] at h ⊢
  by_cases hp:0≤(ah (kind,k,y,0,0,0,aj) s).1
  ·obtain ⟨p1,p2,p3⟩:=gq hp
   rw [p3] at h ⊢
   have hy:=hl y List.mem_cons_self
   have hnd:eD x (kind,k,y,0,0,0,aj) (aT x s.L)=tx0 x s.L k++(sep++tx0 x s.L y):=by
    rcases hk with ⟨rfl,rfl⟩| ⟨rfl,rfl⟩
    ·rw [List.nil_append];rfl
    ·rw [← List.append_assoc];rfl
   rw [List.map_cons,List.flatten_cons] at hB ⊢
   have hg:Gw x B s.L (s.L++[(kind,k,y,0,0,0,aj)]):=lm (by
    rw [hnd]
    refine Nat.le_trans ?_ hB
    simp only [List.length_append];omega)
   have e1:tx0 x (s.L++[(kind,k,y,0,0,0,aj)]) (s.L.length:Int)=tx0 x s.L k++(sep++tx0 x s.L y):=(jZ _ _ _).trans hnd
   have e3:∀ M:List ND,(t.map fun y=>sep++tx0 x (s.L++M) y)=t.map fun y=>sep++tx0 x s.L y:=fun M=>List.map_congr_left fun z hz=>by rw [vc M (hl z (List.mem_cons_of_mem _ hz))]
   obtain ⟨r1,r2,r3⟩:=rq x kind sep hk B t (s.L.length:Int) { s with L:=s.L++[(kind,k,y,0,0,0,aj)] } ⟨Int.natCast_nonneg _,by show (s.L.length:Int)<((s.L++[_]).length:Int);simp;omega⟩ (fun z hz=>by
    have:=hl z (List.mem_cons_of_mem _ hz)
    show 0≤z∧z<((s.L++[_]).length:Int)
    simp;omega) h (by
    show (tx0 x (s.L++[(kind,k,y,0,0,0,aj)]) (s.L.length:Int)++(t.map fun z=>sep++tx0 x (s.L++[(kind,k,y,0,0,0,aj)]) z).flatten).length≤B
    rw [e1,e3,List.append_assoc];exact hB)
   refine ⟨r1,?_,fD hg r3⟩
   rw [r2]
   show tx0 x (s.L++[(kind,k,y,0,0,0,aj)]) (s.L.length:Int)++(t.map fun z=>sep++tx0 x (s.L++[(kind,k,y,0,0,0,aj)]) z).flatten=_
   rw [e1,e3,List.append_assoc]
  ·rw [nP hp,sP] at h
   exact absurd h (by decide)
theorem wK (x:Bool) (B:Nat) (l:List Int) (s:Pz) (hl:∀ y∈l,0≤y∧y<(s.L.length:Int)) (h:0≤(bd l s).1) (hB:(cc x s.L l).length≤B):
  (0≤(bd l s).1∧(bd l s).1<((bd l s).2.L.length:Int))∧tx0 x (bd l s).2.L (bd l s).1=cc x s.L l∧Gw x B s.L (bd l s).2.L:=by
 cases l with
 | nil=>
  obtain ⟨p1,p2,p3⟩:=gq h
  have p3:bd [] s=((s.L.length:Int),{ s with L:=s.L++[(0,0,0,0,0,0,aj)] }):=p3
  rw [p3]
  refine ⟨⟨Int.natCast_nonneg _,by show (s.L.length:Int)<((s.L++[_]).length:Int);simp;omega⟩,jZ _ _ _,lm ?_⟩
  exact Nat.zero_le _
 | cons y t=>
  have hy:=hl y List.mem_cons_self
  rw [gL,if_neg (by omega)] at h ⊢
  have e:(t.map fun z=>([]:List UInt8)++tx0 x s.L z)=t.map (tx0 x s.L):=List.map_congr_left fun z _=>List.nil_append _
  have:=rq x 2 [] (.inl ⟨rfl,rfl⟩) B t y s hy (fun z hz=>hl z (List.mem_cons_of_mem _ hz)) h (by rw [e];exact hB)
  rw [e] at this
  exact this
theorem tL {b:List UInt8}:∀ (n:Nat) (k:Int) (w:List (Int×Int)) (s:Pz),w≠[]→aL b n k w s=(k,w,s):=by
 intro n k w s hw
 have hm:cb b k w s=false:=by
  unfold cb
  cases w with
  | nil=>exact absurd rfl hw
  | cons e t=>rfl
 have he:dI k w s=(k,w,s):=by
  unfold dI
  cases w with
  | nil=>exact absurd rfl hw
  | cons e t=>rfl
 cases n with
 | zero=>exact he
 | succ n=>unfold aL;rw [hm,if_neg (by decide)];exact he
theorem mU {b:List UInt8} {n:Nat} {k:Int} {w:List (Int×Int)} {s:Pz} (h:(aL b n k w s).2.1=[]):w=[]∧0≤k:=by
 have hw:w=[]:=Decidable.not_not.1 fun hw=>by rw [tL n k w s hw] at h;exact hw h
 subst hw
 refine ⟨rfl,?_⟩
 rcases Int.lt_or_le k 0 with hk | hk
 ·have hm:cb b k [] s=false:=by unfold cb;rw [decide_eq_false (by omega)];rfl
  have:aL b n k [] s=dI k [] s:=by
   cases n with
   | zero=>rfl
   | succ n=>unfold aL;rw [hm,if_neg (by decide)]
  rw [this] at h
  unfold dI at h
  rw [decide_eq_true hk] at h
  cases h
 ·exact hk
theorem CR {b:List UInt8} {k:Int} {s:Pz} (h:(aR b k s).2.1=[]):∃ lo hi a,aR b k s=okR (ah (4,k,0,lo,hi,0,aj) { s with p:=a }):=by
 have key:∀ (lo hi:Int) (a:Nat),(dV b k lo hi s a).2.1=[]→dV b k lo hi s a=okR (ah (4,k,0,lo,hi,0,aj) { s with p:=a+2 }):=fun lo hi a h=>by
  unfold dV at h ⊢
  split at h
  ·cases h
  ·rename_i h1
   rw [if_neg h1]
 unfold aR at h ⊢
 by_cases h1:aI b s.p [42]=true
 ·rw [if_pos h1];exact ⟨_,_,_,rfl⟩
 rw [if_neg h1] at h ⊢
 by_cases h2:(am b (s.p+2)).2.2≠0
 ·rw [if_pos h2] at h;cases h
 rw [if_neg h2] at h ⊢
 by_cases h3:b[(am b (s.p+2)).2.1.toNat]? =some 44
 ·rw [if_pos h3] at h ⊢
  by_cases h4:(am b ((am b (s.p+2)).2.1.toNat+1)).2.2=0
  ·rw [if_pos h4] at h ⊢
   exact ⟨_,_,_,key _ _ _ h⟩
  rw [if_neg h4] at h ⊢
  by_cases h5:(am b ((am b (s.p+2)).2.1.toNat+1)).2.2=9
  ·rw [if_pos h5] at h ⊢
   exact ⟨_,_,_,key _ _ _ h⟩
  ·rw [if_neg h5] at h;cases h
 ·rw [if_neg h3] at h ⊢
  exact ⟨_,_,_,key _ _ _ h⟩
def sn (rest:List UInt8):Prop:=(∀ r,rest≠42 :: r)∧∀ r,rest≠92 :: 123 :: r
theorem zc {t rest:List UInt8} {p:Nat} (h:t.drop p=rest) (hn:sn rest):aI t p [42]=false∧aI t p [92,123]=false:=by
 cases rest with
 | nil=>exact ⟨oo h,oo h⟩
 | cons c r=>
  refine ⟨ll h fun e=>hn.1 r (by rw [e]),?_⟩
  by_cases hc:c=92
  ·subst hc
   cases r with
   | nil=>
    cases hh:aI t p [92,123] with
    | false=>rfl
    | true=>
     have:=di hh (by simp)
     have e:=congrArg List.length h
     rw [List.length_drop] at e
     simp only [List.length_cons,List.length_nil] at this e
     omega
   | cons d r=>exact qx h fun e=>hn.2 r (by rw [e])
  ·exact ll h hc
theorem ot {k lo hi a g:Int} (h:aP (4,k,0,lo,hi,0,aj) a g=true):db lo hi=true:=by
 unfold aP at h
 rw [Bool.and_eq_true,Bool.and_eq_true,Bool.and_eq_true] at h
 have:=h.1.2
 rw [Bool.or_eq_true,Bool.not_eq_true',decide_eq_false_iff_not] at this
 exact this.resolve_left fun e=>e rfl
theorem tM (x:Bool) (lo hi:Int):1≤(bq x lo hi).length:=by
 unfold bq
 split
 ·simp
 ·unfold hX
  split <;> simp <;> omega
theorem AV (b:List UInt8):∀ (n:Nat) (k:Int) (s:Pz),s.p≤b.length→s.g≤9→(0≤k∧k<(s.L.length:Int))→(aL b n k [] s).2.1=[]→
  (0≤(aL b n k [] s).1∧(aL b n k [] s).1<((aL b n k [] s).2.2.L.length:Int))∧∃ μ,tx0 false (aL b n k [] s).2.2.L (aL b n k [] s).1=tx0 false s.L k++μ∧s.p≤(aL b n k [] s).2.2.p∧μ.length≤11 * ((aL b n k [] s).2.2.p - s.p)∧Gw false (tx0 false s.L k++μ).length s.L (aL b n k [] s).2.2.L∧(μ=[]→(aL b n k [] s).2.2=s)
   ∧∀ (t2:List UInt8) (p2:Nat) (rest:List UInt8) (N:Nat),t2.drop p2=μ++rest→sn rest→μ.length<N→aL t2 N k [] { s with p:=p2 }=((aL b n k [] s).1,[],{ (aL b n k [] s).2.2 with p:=p2+μ.length }):=by
 have nm:∀ (k:Int) (s:Pz),(0≤k∧k<(s.L.length:Int))→∀ r:Res,r=(k,[],s)→(0≤r.1∧r.1<(r.2.2.L.length:Int))∧∃ μ,tx0 false r.2.2.L r.1=tx0 false s.L k++μ∧s.p≤r.2.2.p∧μ.length≤11 * (r.2.2.p - s.p)∧Gw false (tx0 false s.L k++μ).length s.L r.2.2.L∧(μ=[]→r.2.2=s)
   ∧∀ (t2:List UInt8) (p2:Nat) (rest:List UInt8) (N:Nat),t2.drop p2=μ++rest→sn rest→μ.length<N→aL t2 N k [] { s with p:=p2 }=(r.1,[],{ r.2.2 with p:=p2+μ.length }):=fun k s hv r hr=>by
  subst hr
  refine ⟨hv,[],by rw [List.append_nil],Nat.le_refl _,Nat.zero_le _,tf _ _ _,fun _=>rfl,fun t2 p2 rest N hd hn hN=>?_⟩
  obtain ⟨h1,h2⟩:=zc hd hn
  obtain ⟨N,rfl⟩:∃ m,N=m+1:=⟨N - 1,by omega⟩
  have hm:cb t2 k [] { s with p:=p2 }=false:=by
   unfold cb
   show (([]:List (Int×Int)).isEmpty && (decide (0≤k) && (aI t2 p2 [42] || aI t2 p2 [92,123])))=false
   rw [h1,h2];simp
  unfold aL
  rw [hm,if_neg (by decide)]
  unfold dI
  rw [decide_eq_false (by omega)];rfl
 have hend:∀ (k:Int) (s:Pz),0≤k→dI k [] s=(k,[],s):=fun k s hk=>by
  unfold dI
  rw [decide_eq_false (by omega)];rfl
 intro n
 induction n with
 | zero=>intro k s _ _ hv _;exact nm k s hv _ (hend k s hv.1)
 | succ n ih=>
  intro k s hp hg hv h
  by_cases hm:cb b k [] s=true
  ·have e:aL b (n+1) k [] s=aL b n (aR b k s).1 (aR b k s).2.1 (aR b k s).2.2:=by
    show (if cb b k [] s=true then _ else _)=_
    rw [if_pos hm]
   rw [e] at h ⊢
   obtain ⟨_,_,hh⟩:=oC hm
   obtain ⟨hw,hk⟩:=mU h
   obtain ⟨a1,a2,a3⟩:=kr hp hg hh hw
   obtain ⟨lo,hi,a,hr⟩:=CR hw
   rw [hr] at a1 a2 a3 hk
   obtain ⟨q1,q2,q3⟩:=gq hk
   have q3:ah (4,k,0,lo,hi,0,aj) { s with p:=a }=((s.L.length:Int),{ s with L:=s.L++[(4,k,0,lo,hi,0,aj)],p:=a }):=q3
   have e0:aL b n (aR b k s).1 (aR b k s).2.1 (aR b k s).2.2=aL b n (s.L.length:Int) [] { s with L:=s.L++[(4,k,0,lo,hi,0,aj)],p:=a }:=by rw [hr,q3];rfl
   rw [e0] at h ⊢
   rw [q3] at a1 a2 a3
   have a1:s.p+1≤a:=a1
   have a2:a≤b.length:=a2
   have ht:=ot q2
   have hnd:eD false (4,k,0,lo,hi,0,aj) (aT false s.L)=tx0 false s.L k++bq false lo hi:=rfl
   have htl:=nC false lo hi
   have htp:=tM false lo hi
   obtain ⟨r1,μ,r2,r3,r4,r5,r6,r7⟩:=ih (s.L.length:Int) { s with L:=s.L++[(4,k,0,lo,hi,0,aj)],p:=a } a2 hg ⟨Int.natCast_nonneg _,by show (s.L.length:Int)<((s.L++[_]).length:Int);simp;omega⟩ h
   have e1:tx0 false (s.L++[(4,k,0,lo,hi,0,aj)]) (s.L.length:Int)=tx0 false s.L k++bq false lo hi:=(jZ _ _ _).trans hnd
   have r2:_=tx0 false (s.L++[(4,k,0,lo,hi,0,aj)]) (s.L.length:Int)++μ:=r2
   rw [e1,List.append_assoc] at r2
   have r3:a≤(aL b n (s.L.length:Int) [] { s with L:=s.L++[(4,k,0,lo,hi,0,aj)],p:=a }).2.2.p:=r3
   have r5:Gw false (tx0 false (s.L++[(4,k,0,lo,hi,0,aj)]) (s.L.length:Int)++μ).length (s.L++[(4,k,0,lo,hi,0,aj)]) _:=r5
   rw [e1,List.append_assoc] at r5
   refine ⟨r1,bq false lo hi++μ,r2,by omega,?_,fD (lm ?_) r5,fun e=>?_,fun t2 p2 rest N hd hn hN=>?_⟩
   ·rw [List.length_append]
    have r4:μ.length≤11 * ((aL b n (s.L.length:Int) [] { s with L:=s.L++[(4,k,0,lo,hi,0,aj)],p:=a }).2.2.p - a):=r4
    omega
   ·rw [hnd];simp only [List.length_append];omega
   ·have:=congrArg List.length e
    rw [List.length_append,List.length_nil] at this
    omega
   ·rw [List.append_assoc] at hd
    obtain ⟨N,rfl⟩:∃ m,N=m+1:=⟨N - 1,by omega⟩
    obtain ⟨z1,z2⟩:=yZ (k:=k) (s:={ s with p:=p2 }) hd ht
    have hm2:cb t2 k [] { s with p:=p2 }=true:=by
     unfold cb
     rw [z1,decide_eq_true hv.1];rfl
    have e2:aL t2 (N+1) k [] { s with p:=p2 }=aL t2 N (aR t2 k { s with p:=p2 }).1 (aR t2 k { s with p:=p2 }).2.1 (aR t2 k { s with p:=p2 }).2.2:=by
     show (if cb t2 k [] { s with p:=p2 }=true then _ else _)=_
     rw [if_pos hm2]
    have e3:ah (4,k,0,lo,hi,0,aj) { s with p:=p2+(bq false lo hi).length }=((s.L.length:Int),{ s with L:=s.L++[(4,k,0,lo,hi,0,aj)],p:=p2+(bq false lo hi).length }):=by
     have:=sm (4,k,0,lo,hi,0,aj) { s with p:=a } (p2+(bq false lo hi).length)
     rw [q3] at this
     exact this
    have z2:aR t2 k { s with p:=p2 }=okR (ah (4,k,0,lo,hi,0,aj) { s with p:=p2+(bq false lo hi).length }):=z2
    rw [e2,z2,e3]
    rw [List.length_append] at hN ⊢
    have:=r7 t2 (p2+(bq false lo hi).length) rest N (bJ hd) hn (by omega)
    rw [show p2+((bq false lo hi).length+μ.length)=p2+(bq false lo hi).length+μ.length by omega]
    exact this
  ·have e:aL b (n+1) k [] s=dI k [] s:=by
    show (if cb b k [] s=true then _ else _)=_
    rw [if_neg hm]
   rw [e]
   exact nm k s hv _ (hend k s hv.1)
end Go.Proofs.YtnbceeholnkfeaaGreatDoor
