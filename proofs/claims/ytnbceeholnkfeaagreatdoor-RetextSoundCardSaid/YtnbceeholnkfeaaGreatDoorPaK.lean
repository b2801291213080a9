/- Both kinds of regular expressions are read as the document says; the document's example. -/
import Derived.Test.YtnbceeholnkfeaaGreatDoorZkS
import Derived.Test.YtnbceeholnkfeaaGreatDoorPop
import Derived.Test.YtnbceeholnkfeaaGreatDoorPbA
namespace Go.Proofs.YtnbceeholnkfeaaGreatDoor
theorem yj (b : List UInt8) (q : R9) : dV (fr9 b q) (jM q):=by
 unfold jM
 refine ab (fun h=>?_) fun h=>?_
 ·have h : q.2.1≠0:=h
  rw [if_pos h];rfl
 ·have h : q.2.1 = 0:=Decidable.not_not.1 h
  rw [if_neg (fun e=>e h)];rfl
theorem yk (b : List UInt8) (hb : b.length < 1001) : ∃ q,go9 b 8000 (.alts false pz0) = some q:=wz b 8000 (.alts false pz0) ⟨Nat.zero_le _,Nat.zero_le _⟩ (by show 7 * (b.length - 0) + 6≤8000;omega)
theorem D1 : ClI pz0:=fun d hd=>by
 have hd : (List.replicate 10 false)[d]? = some true:=hd
 have:=List.mem_of_getElem? hd
 simp at this
theorem Au (b : List UInt8) (hbb : b.length≤40000000) (h0 : b≠[]) (n : Nat) (q : R9) (hq : go9 b n (.alts false pz0) = some q) (hw : b.length≤80∨q.2.1 = 0) : da b (jM q):=by
 have hl : b.length≠0:=fun e=>h0 (List.length_eq_zero_iff.1 e)
 obtain ⟨⟨k,h1,_⟩,_⟩:=Am b (by omega) n _ q hq ⟨Nat.zero_le _,Nat.zero_le _⟩ ⟨hw.imp (fun hb=>by show 0 + 2 * (b.length - 0) + 0≤1000;omega) id,D1,[],0,dc [] 0 (by simp)⟩
 rw [← tt1] at h1
 obtain ⟨m,_,h1⟩:=h1
 refine ab (fun h=>by omega) fun _=>⟨(k,fr9 b q),⟨R1,R2,R3,R4,R5,uP,m,h1⟩,jM q,yj b q,rfl⟩
theorem yl : da [] (([(0,0,0,0,0,0,ax)],0),0,0):=by
 refine ab (fun _=>⟨_,rx (b:=[]) (nd:=(0,0,0,0,0,0,ax)) (s:=pz0) 0 (by decide),(([(0,0,0,0,0,0,ax)],0),0,0),?_,rfl⟩) fun h=>absurd rfl h
 exact ab (fun h=>absurd rfl h) fun _=>rfl
theorem se (b : List UInt8) (hb : b.length≤40000000) (n : Nat) (q : Res) (hq : go b n (.branch false pz0) = some q) : eZ b (nD q):=by
 have hj : lw b (.branch false pz0):=⟨Nat.zero_le _,Nat.zero_le _,trivial⟩
 obtain ⟨k,h1,h2⟩:=xu b hb n _ q hq hj (by show (0 : Nat)≤1000;omega)
 rw [← tt4] at h1
 obtain ⟨m,_,h1⟩:=h1
 refine ⟨(k,iz b q),⟨R1,R2,R3,R4,R5,uP,m,h1⟩,nD q,?_,rfl⟩
 obtain ⟨k0,w,s⟩:=q
 rcases h2 with ⟨h2,_⟩| ⟨y,h2,h3⟩
 ·have h2 : w = []:=h2
  subst h2
  exact ab (fun h=>absurd rfl h) fun _=>rfl
 ·have h2 : w = [y]:=h2
  subst h2
  exact ab (fun _=>rfl) fun h=>absurd h3 h
theorem tw (l : List ND) (g : Int) (h : l.length≤1000000) : fv (l,g) (l,g) true:=by
 have:=vS l l g g h
 simpa using this
theorem qQ {b : List UInt8} {z : RE} (h : eZ b z) : cN b false z:=ab (fun h=>by cases h) fun _=>⟨z,h,rfl⟩
theorem qR {b : List UInt8} {z : RE} (h : da b z) : cN b true z:=ab (fun _=>⟨z,h,rfl⟩) fun h=>absurd rfl h
theorem qS {b : List UInt8} {z : RE} (h : ly b z) : dg b false z:=ab (fun h=>by cases h) fun _=>⟨z,h,rfl⟩
theorem nS {b : List UInt8} {z : RE} (h : jA b z) : dg b true z:=ab (fun _=>⟨z,h,rfl⟩) fun h=>absurd rfl h
def qT : ByteArray:=⟨#[92,42]⟩
def mQ : List ND:=[(1,0,0,0,0,0,ofS [42])]
theorem ym : fF false (ofS [42]) qT:=by
 have e : bT (ofS [42]) 256 = [42]:=by kernel_rfl
 have hb:=qp (ofS [42])
 rw [e] at hb
 refine ⟨[42],hb,ab (fun _=>⟨Int.le_refl _,42,rfl,qT,?_,rfl⟩) fun h=>absurd rfl h⟩
 refine ab (fun h=>by cases h) fun _=>ab (fun h=>absurd h (by decide)) fun _=>⟨_,⟨_,rfl,rfl⟩,ab (fun _=>aq (by decide) rfl) fun h=>absurd ?_ h⟩
 decide
theorem wP {z : RE} (hp : dg [92,42] false z) (hz : z = ((mQ,0),0,0)) : fc (mQ,0) false ([92,42],true):=by
 have hr:=mD mQ 0
 rw [show dl mQ 0 = true by kernel_rfl] at hr
 refine ⟨true,hr,ab (fun h=>absurd rfl h) fun _=>?_⟩
 refine bP (fun (st : List ByteArray×Int×Int) m=>(m = 1∧st = ([],0,0))∨(m = 0∧st = ([qT],2,1))) 1 (.inl ⟨rfl,rfl⟩) ?_
 rintro _ m (⟨rfl,rfl⟩| ⟨rfl,rfl⟩)
 ·refine ab (fun _=>⟨Int.le_refl _,(1,0,0,0,0,0,ofS [42]),rfl,qT,ab (fun _=>⟨_,ym,rfl⟩) fun h=>absurd rfl h,aq (by decide) (ab (fun h=>absurd h (by decide)) fun _=>dN (by decide) (by decide) (aq (by decide) ⟨0,by decide,.inr ⟨rfl,rfl⟩⟩))⟩) fun h=>absurd ?_ h
  decide
 ·refine ab (fun h=>absurd h (by decide)) fun _=>aq (by decide) ⟨by decide,qT,rfl,by decide,z,hp,ab (fun h=>absurd ?_ h) fun _=>⟨true,?_,ab (fun h=>by cases h) fun _=>rfl⟩⟩
  ·rw [hz]
  ·rw [hz]
   refine ab (fun _=>⟨true,?_,rfl⟩) fun h=>absurd rfl h
   have:=tA mQ mQ (by decide)
   rwa [decide_eq_true rfl] at this
theorem tz : dL true:=by
 obtain ⟨q,h⟩:=zL [92,42] 100 (.branch false pz0) ⟨Nat.zero_le _,Nat.zero_le _,trivial⟩ trivial (by decide) (by decide)
 obtain ⟨q1,h1⟩:=yk [97,124,98] (by decide)
 have e : (go [92,42] 100 (.branch false pz0)).map (fun q=>decide (nD q = ((mQ,0),0,0))) = some true:=by kernel_rfl
 have e1 : (go9 [97,124,98] 8000 (.alts false pz0)).map (fun q=>(decide ((jM q).2.2 = 0) && decide (((jM q).1.1.length : Int) = 3))) = some true:=by kernel_rfl
 rw [h] at e;rw [h1] at e1
 simp only [Option.map_some,Option.some.injEq,Bool.and_eq_true,decide_eq_true_eq] at e e1
 refine ⟨_,mA 42,([92,42],true),wP (qS (rX _ (by decide) 100 (by decide) q h)) e,jM q1,nS (sc _ (by decide) (by decide) _ q1 h1),ab (fun _=>⟨true,?_,?_⟩) fun h=>absurd rfl h⟩
 ·refine ⟨nD q,qQ (se _ (by decide) 100 q h),ab (fun _=>⟨true,?_,rfl⟩) fun h=>absurd (by rw [e]) h⟩
  rw [e]
  exact tw mQ 0 (by decide)
 ·show true = _
  rw [decide_eq_true e1.1,decide_eq_true e1.2];rfl
theorem wQ (b : List UInt8) (x : Bool) (hb : b.length≤16777216) : ∃ z : RE,dg b x z∧z.1.1.length≤1000∧(z.2.2 = 0→z.2.1 = 0)∧(b.length≤80∨z.2.2 = 0→cN b x z)
  ∧(x = false→∃ n q,go b n (.branch false pz0) = some q∧z = nD q)∧(x = true→b≠[]→∃ n q,go9 b n (.alts false pz0) = some q∧z = jM q):=by
 cases x with
 | false=>
  obtain ⟨q,hq⟩:=zL b (6 * b.length + 5) (.branch false pz0) ⟨Nat.zero_le _,Nat.zero_le _,trivial⟩ trivial (by show 6 * (b.length - 0) + 5≤_;omega) (by omega)
  refine ⟨nD q,qS (rX b (by omega) _ (by omega) q hq),?_,?_,fun _=>qQ (se b (by omega) _ q hq),fun _=>⟨_,q,hq,rfl⟩,fun h=>by cases h⟩
  ·unfold nD
   split
   ·rename_i hw
    exact (rW hq hw).2.2.2
   ·exact Nat.zero_le _
  ·obtain ⟨_,_,hsm⟩:=xu b (by omega) _ _ q hq ⟨Nat.zero_le _,Nat.zero_le _,trivial⟩ (by show (0 : Nat)≤1000;omega)
   unfold nD
   rcases hsm with h | ⟨y,h1,h2⟩
   ·rw [h.1];exact fun _=>rfl
   ·rw [h1];exact fun h=>absurd h h2
 | true=>
  by_cases h0 : b = []
  ·subst h0
   exact ⟨_,nS vp,by decide,fun _=>rfl,fun _=>qR yl,(fun h=>by cases h),fun _ h=>absurd rfl h⟩
  ·obtain ⟨q,hq⟩:=wz b (7 * b.length + 6) (.alts false pz0) ⟨Nat.zero_le _,Nat.zero_le _⟩ (by show 7 * (b.length - 0) + 6≤_;omega)
   refine ⟨jM q,nS (sc b (by omega) h0 _ q hq),?_,?_,fun h=>qR (Au b (by omega) h0 _ q hq (h.imp id fun h=>?_)),(fun h=>by cases h),fun _ _=>⟨_,q,hq,rfl⟩⟩
   ·unfold jM
    by_cases hw : q.2.1 = 0
    ·rw [if_neg (fun h=>h hw)];exact (qG hq hw).2.2.2
    ·rw [if_pos hw];exact Nat.zero_le _
   ·unfold jM
    by_cases hw : q.2.1 = 0
    ·rw [if_neg (fun h=>h hw)];exact fun _=>rfl
    ·rw [if_pos hw];exact fun h=>absurd h hw
   ·refine Decidable.not_not.1 fun hw=>?_
    unfold jM at h
    rw [if_pos hw] at h
    exact hw h
end Go.Proofs.YtnbceeholnkfeaaGreatDoor
