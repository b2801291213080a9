/- Both kinds of regular expressions are read as the document says. -/
import Derived.Test.YtnbceeholnkfeaaGreatDoorZkS
import Derived.Test.YtnbceeholnkfeaaGreatDoorPaA
import Derived.Test.YtnbceeholnkfeaaGreatDoorGKL1
namespace Go.Proofs.YtnbceeholnkfeaaGreatDoor
theorem vS (b : List UInt8) (q : R9) : dJ (fr9 b q) (kK q):=by
 unfold kK
 refine ab (fun h=>?_) fun h=>?_
 ·have h : q.2.1≠0:=h
  rw [if_pos h];rfl
 ·have h : q.2.1 = 0:=Decidable.not_not.1 h
  rw [if_neg (fun e=>e h)];rfl
theorem ri (b : List UInt8) (hb : b.length < 1001) : ∃ q,go9 b 8000 (.alts false pz0) = some q:=yz b 8000 (.alts false pz0) ⟨Nat.zero_le _,Nat.zero_le _⟩ (by show 7 * (b.length - 0) + 6≤8000;omega)
theorem Bs : ClI pz0:=fun d hd=>by
 have hd : (List.replicate 10 false)[d]? = some true:=hd
 have:=List.mem_of_getElem? hd
 simp at this
theorem xK (b : List UInt8) (hb : b.length≤80) (h0 : b≠[]) (n : Nat) (q : R9) (hq : go9 b n (.alts false pz0) = some q) : cJ b (kK q):=by
 have hl : b.length≠0:=fun e=>h0 (List.length_eq_zero_iff.1 e)
 obtain ⟨⟨k,h1,_⟩,_⟩:=xB b (by omega) n _ q hq ⟨Nat.zero_le _,Nat.zero_le _⟩ ⟨by show 0 + 2 * (b.length - 0) + 0≤1000;omega,Bs,[],0,cR [] 0 (by simp)⟩
 rw [← tt1] at h1
 obtain ⟨m,_,h1⟩:=h1
 refine ab (fun h=>by omega) fun _=>⟨(k,fr9 b q),⟨R1,R2,R3,R4,R5,sx,m,h1⟩,kK q,vS b q,rfl⟩
theorem vT : cJ [] (([(0,0,0,0,0,0,ax)],0),0,0):=by
 refine ab (fun _=>⟨_,pA (b:=[]) (nd:=(0,0,0,0,0,0,ax)) (s:=pz0) 0 (by decide),(([(0,0,0,0,0,0,ax)],0),0,0),?_,rfl⟩) fun h=>absurd rfl h
 exact ab (fun h=>absurd rfl h) fun _=>rfl
theorem p8 (b : List UInt8) (hb : b.length≤40000000) (n : Nat) (q : Res) (hq : go b n (.branch false pz0) = some q) : eD b (nZ q):=by
 have hj : kn b (.branch false pz0):=⟨Nat.zero_le _,Nat.zero_le _,trivial⟩
 obtain ⟨k,h1,h2⟩:=zI b hb n _ q hq hj (by show (0 : Nat)≤1000;omega)
 rw [← tt4] at h1
 obtain ⟨m,_,h1⟩:=h1
 refine ⟨(k,gP b q),⟨R1,R2,R3,R4,R5,sx,m,h1⟩,nZ q,?_,rfl⟩
 obtain ⟨k0,w,s⟩:=q
 rcases h2 with ⟨h2,_⟩| ⟨y,h2,h3⟩
 ·have h2 : w = []:=h2
  subst h2
  exact ab (fun h=>absurd rfl h) fun _=>rfl
 ·have h2 : w = [y]:=h2
  subst h2
  exact ab (fun _=>rfl) fun h=>absurd h3 h
theorem rj (l : List ND) (g : Int) (h : l.length≤1000000) : dE (l,g) (l,g) true:=by
 have:=tJ l l g g h
 simpa using this
theorem oZ {b : List UInt8} {z : RE} (h : eD b z) : cE b false z:=ab (fun h=>by cases h) fun _=>⟨z,h,rfl⟩
theorem o0 {b : List UInt8} {z : RE} (h : cJ b z) : cE b true z:=ab (fun _=>⟨z,h,rfl⟩) fun h=>absurd rfl h
theorem o3 {b : List UInt8} {z : RE} (h : kr b z) : dw b false z:=ab (fun h=>by cases h) fun _=>⟨z,h,rfl⟩
theorem mD {b : List UInt8} {z : RE} (h : iD b z) : dw b true z:=ab (fun _=>⟨z,h,rfl⟩) fun h=>absurd rfl h
def o4 : ByteArray:=⟨#[92,42]⟩
def lJ : List ND:=[(1,0,0,0,0,0,ofS [42])]
theorem vU : g4 false (ofS [42]) o4:=by
 have e : lw (ofS [42]) 256 = [42]:=by kernel_rfl
 have hb:=vQ (ofS [42])
 rw [e] at hb
 refine ⟨[42],hb,ab (fun _=>⟨Int.le_refl _,42,rfl,o4,?_,rfl⟩) fun h=>absurd rfl h⟩
 refine ab (fun h=>by cases h) fun _=>ab (fun h=>absurd h (by decide)) fun _=>⟨_,⟨_,rfl,rfl⟩,ab (fun _=>av (by decide) rfl) fun h=>absurd ?_ h⟩
 decide
theorem uy {z : RE} (hp : dw [92,42] false z) (hz : z = ((lJ,0),0,0)) : kW (lJ,0) false ([92,42],true):=by
 have hr:=oA lJ 0
 rw [show gu lJ 0 = true by kernel_rfl] at hr
 refine ⟨true,hr,ab (fun h=>absurd rfl h) fun _=>?_⟩
 refine ct (fun (st : List ByteArray×Int×Int) m=>(m = 1∧st = ([],0,0))∨(m = 0∧st = ([o4],2,1))) 1 (.inl ⟨rfl,rfl⟩) ?_
 rintro _ m (⟨rfl,rfl⟩| ⟨rfl,rfl⟩)
 ·refine ab (fun _=>⟨Int.le_refl _,(1,0,0,0,0,0,ofS [42]),rfl,o4,ab (fun _=>⟨_,vU,rfl⟩) fun h=>absurd rfl h,av (by decide) (ab (fun h=>absurd h (by decide)) fun _=>fK (by decide) (by decide) (av (by decide) ⟨0,by decide,.inr ⟨rfl,rfl⟩⟩))⟩) fun h=>absurd ?_ h
  decide
 ·refine ab (fun h=>absurd h (by decide)) fun _=>av (by decide) ⟨by decide,o4,rfl,by decide,z,hp,ab (fun h=>absurd ?_ h) fun _=>⟨true,?_,ab (fun h=>by cases h) fun _=>rfl⟩⟩
  ·rw [hz]
  ·rw [hz]
   refine ab (fun _=>⟨true,?_,rfl⟩) fun h=>absurd rfl h
   have:=vR lJ lJ (by decide)
   rwa [decide_eq_true rfl] at this
theorem uz : eE true:=by
 obtain ⟨q,h⟩:=w5 [92,42] 100 (.branch false pz0) ⟨Nat.zero_le _,Nat.zero_le _,trivial⟩ trivial (by decide) (by decide)
 obtain ⟨q1,h1⟩:=ri [97,124,98] (by decide)
 have e : (go [92,42] 100 (.branch false pz0)).map (fun q=>decide (nZ q = ((lJ,0),0,0))) = some true:=by kernel_rfl
 have e1 : (go9 [97,124,98] 8000 (.alts false pz0)).map (fun q=>(decide ((kK q).2.2 = 0) && decide (((kK q).1.1.length : Int) = 3))) = some true:=by kernel_rfl
 rw [h] at e;rw [h1] at e1
 simp only [Option.map_some,Option.some.injEq,Bool.and_eq_true,decide_eq_true_eq] at e e1
 refine ⟨_,lx 42,([92,42],true),uy (o3 (pU _ (by decide) 100 (by decide) q h)) e,kK q1,mD (p6 _ (by decide) (by decide) _ q1 h1),ab (fun _=>⟨true,?_,?_⟩) fun h=>absurd rfl h⟩
 ·refine ⟨nZ q,oZ (p8 _ (by decide) 100 q h),ab (fun _=>⟨true,?_,rfl⟩) fun h=>absurd (by rw [e]) h⟩
  rw [e]
  exact rj lJ 0 (by decide)
 ·show true = _
  rw [decide_eq_true e1.1,decide_eq_true e1.2];rfl
theorem r9 (b : List UInt8) (x : Bool) (hb : b.length≤80) : ∃ z : RE,dw b x z∧cE b x z∧z.1.1.length≤1000:=by
 cases x with
 | false=>
  obtain ⟨q,hq⟩:=w5 b 1000 (.branch false pz0) ⟨Nat.zero_le _,Nat.zero_le _,trivial⟩ trivial (by show 6 * (b.length - 0) + 5≤1000;omega) (by omega)
  refine ⟨nZ q,o3 (pU b (by omega) 1000 (by omega) q hq),oZ (p8 b (by omega) 1000 q hq),?_⟩
  unfold nZ
  split
  ·rename_i hw
   exact (pT hq hw).2.2.2
  ·exact Nat.zero_le _
 | true=>
  by_cases h0 : b = []
  ·subst h0
   exact ⟨_,mD te,o0 vT,by decide⟩
  ·obtain ⟨q,hq⟩:=ri b (by omega)
   refine ⟨kK q,mD (p6 b (by omega) h0 _ q hq),o0 (xK b hb h0 _ q hq),?_⟩
   unfold kK
   by_cases hw : q.2.1 = 0
   ·rw [if_neg (fun h=>h hw)];exact (oQ hq hw).2.2.2
   ·rw [if_pos hw];exact Nat.zero_le _
theorem ou (b : List UInt8) (x : Bool) : f8 b x true:=by
 refine ab (fun _=>⟨true,uz,rfl⟩) fun h=>?_
 obtain ⟨z,h1,h2,h3⟩:=r9 b x (by omega)
 exact ⟨z,h1,z,h2,true,rj _ _ (Nat.le_trans h3 (by decide)),ab (fun _=>ab (fun _=>ab (fun _=>⟨true,uz,rfl⟩) fun h=>absurd rfl h) fun h=>absurd rfl h) fun h=>absurd rfl h⟩
end Go.Proofs.YtnbceeholnkfeaaGreatDoor
