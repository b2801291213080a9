/- Basic regular expressions: what was read has a text that is read alike. -/
import Derived.Test.YtnbceeholnkfeaaGreatDoorRdA
import Derived.Test.YtnbceeholnkfeaaGreatDoorPaK
namespace Go.Proofs.YtnbceeholnkfeaaGreatDoor
def pS (τ:List UInt8):Prop:=∃ c r,τ=c :: r∧c≠42∧c≠94∧(c=92→∃ d r',r=d :: r'∧d≠41∧d≠123)
def so (τ rest:List UInt8):Prop:=τ=[36]→rest=[]∨∃ r,rest=92 :: 41 :: r
def B4 (inner:Bool) (rest:List UInt8):Prop:=(inner=true→∃ r,rest=92 :: 41 :: r)∧(inner=false→rest=[])
structure Rd8 (b:List UInt8) (s:Pz) (q:Res) (τ:List UInt8):Prop where
 val:0≤q.1∧q.1<(q.2.2.L.length:Int)
 txt:tx0 false q.2.2.L q.1=τ
 pos:s.p+1≤q.2.2.p
 len:τ.length≤600 * (q.2.2.p - s.p)
 gw:Gw false (600 * (q.2.2.p - s.p)) s.L q.2.2.L
 hd:pS τ
 eol:τ=[36]→q.2.2.p=b.length∨aI b q.2.2.p [92,41]=true
def qA (s:Pz) (q:Res) (τ:List UInt8):Prop:=∀ (t2:List UInt8) (p2:Nat) (rest:List UInt8),t2.drop p2=τ++rest→so τ rest→∃ n,go t2 n (.atom { s with p:=p2 })=some (q.1,[],{ q.2.2 with p:=p2+τ.length })
def ve (s:Pz) (q:Res) (τ:List UInt8):Prop:=∀ (t2:List UInt8) (p2:Nat) (rest:List UInt8) (f:Bool),t2.drop p2=τ++rest→so τ rest→sn rest→∃ n,go t2 n (.piece f { s with p:=p2 })=some (q.1,[],{ q.2.2 with p:=p2+τ.length })
def JRd (b:List UInt8) (j:Job) (q:Res):Prop:=match j with
 | .branch inner s=>∃ τ,tx0 false q.2.2.L q.1=τ∧(0≤q.1∧q.1<(q.2.2.L.length:Int))∧s.p≤q.2.2.p∧τ.length≤600 * (q.2.2.p - s.p)∧Gw false (600 * (q.2.2.p - s.p)) s.L q.2.2.L∧∀ (t2:List UInt8) (p2:Nat) (rest:List UInt8),p2≤t2.length→t2.drop p2=τ++rest→B4 inner rest→∃ n,go t2 n (.branch inner { s with p:=p2 })=some (q.1,[],{ q.2.2 with p:=p2+τ.length })
 | .loop inner l _ s=>∀ p0,p0≤s.p→(∀ y∈l,0≤y∧y<(s.L.length:Int))→(cc false s.L l).length≤600 * (s.p - p0)→∃ ρ,tx0 false q.2.2.L q.1=cc false s.L l++ρ∧(0≤q.1∧q.1<(q.2.2.L.length:Int))∧s.p≤q.2.2.p∧(cc false s.L l++ρ).length≤600 * (q.2.2.p - p0)∧Gw false (600 * (q.2.2.p - p0)) s.L q.2.2.L∧(ρ≠[]→pS ρ)∧(s.p=b.length∨aI b s.p [92,41]=true→ρ=[])
   ∧∀ (t2:List UInt8) (p2:Nat) (rest:List UInt8) (f2:Bool),p2≤t2.length→t2.drop p2=ρ++rest→B4 inner rest→∃ n,go t2 n (.loop inner l f2 { s with p:=p2 })=some (q.1,[],{ q.2.2 with p:=p2+ρ.length })
 | .piece _ s=>∃ τ,Rd8 b s q τ∧ve s q τ
 | .atom s | .escape s | .group s=>0≤q.1→∃ τ,Rd8 b s q τ∧qA s q τ
theorem B5 {nd:ND} {s s1:Pz} (hL:s1.L=s.L) (hg:s1.g=s.g) (hc:s1.cl=s.cl) (h:0≤(ah nd s1).1) (p:Nat):ah nd { s with p:=p }=((s.L.length:Int),⟨s.L++[nd],s.g,p,s.cl⟩):=by
 obtain ⟨p1,p2,_⟩:=gq h
 rw [hL] at p1
 rw [hL,hg] at p2
 unfold ah
 rw [if_neg (by show ¬ 1000≤s.L.length;omega),if_pos p2]
theorem xD {b:List UInt8} {s s1:Pz} {nd:ND} {τ:List UInt8} (hL:s1.L=s.L) (hg:s1.g=s.g) (hc:s1.cl=s.cl) (h:0≤(ah nd s1).1) (hn:∀ l,eD false nd l=τ) (hp:s.p+1≤s1.p) (hl:τ.length≤600) (hd:pS τ) (heol:τ=[36]→s1.p=b.length∨aI b s1.p [92,41]=true)
  (hrun:∀ (t2:List UInt8) (p2:Nat) (rest:List UInt8),t2.drop p2=τ++rest→so τ rest→∃ n,go t2 n (.atom { s with p:=p2 })=some (okR (ah nd { s with p:=p2+τ.length }))):
  ∃ τ,Rd8 b s (okR (ah nd s1)) τ∧qA s (okR (ah nd s1)) τ:=by
 obtain ⟨p1,p2,p3⟩:=gq h
 have e:okR (ah nd s1)=((s.L.length:Int),[],⟨s.L++[nd],s.g,s1.p,s.cl⟩):=by
  rw [p3,hL]
  show ((s.L.length:Int),_,_)=_
  rw [← hg,← hc]
 have htx:tx0 false (s.L++[nd]) (s.L.length:Int)=τ:=(jZ _ _ _).trans (hn _)
 rw [e]
 refine ⟨τ,⟨⟨Int.natCast_nonneg _,by show (s.L.length:Int)<((s.L++[nd]).length:Int);simp <;> omega⟩,htx,hp,?_,lm ?_,hd,heol⟩,fun t2 p2 rest h1 h2=>?_⟩
 ·show τ.length≤600 * (s1.p - s.p)
  omega
 ·rw [hn]
  show τ.length≤600 * (s1.p - s.p)
  omega
 ·obtain ⟨n,hq⟩:=hrun t2 p2 rest h1 h2
  refine ⟨n,?_⟩
  rw [hq,B5 hL hg hc h];rfl
theorem xE (c:UInt8):pS (jm false c):=by
 unfold jm
 by_cases h1:c.toNat=10
 ·rw [if_pos h1];exact ⟨92,[110],rfl,by decide,by decide,fun _=>⟨110,[],rfl,by decide,by decide⟩⟩
 rw [if_neg h1]
 by_cases h2:c∈jE false
 ·rw [if_pos h2]
  refine ⟨92,[c],rfl,by decide,by decide,fun _=>⟨c,[],rfl,?_⟩⟩
  rcases tK h2 with rfl | rfl | rfl | rfl | rfl | rfl <;> decide
 ·rw [if_neg h2]
  have hne:∀ d:UInt8,d∈jE false→c≠d:=fun d hd e=>h2 (by rw [e];exact hd)
  exact ⟨c,[],rfl,hne 42 (by decide),hne 94 (by decide),fun e=>absurd e (hne 92 (by decide))⟩
theorem xF (S:ay):pS (iS false S):=by
 unfold iS
 split
 ·exact xE _
 ·split
  ·exact ⟨46,[],rfl,by decide,by decide,fun e=>by cases e⟩
  ·obtain ⟨_,r,hr⟩:=oV (t:=jH S) (rest:=[]) (p:=0) (S:=S) (by rw [List.append_nil];rfl)
   exact ⟨91,r,hr,by decide,by decide,fun e=>by cases e⟩
theorem AW (S:ay):iS false S≠[36]:=by
 unfold iS
 split
 ·unfold jm
  split
  ·intro e;cases e
  ·split
   ·intro e;cases e
   ·rename_i h
    intro e
    injection e with e
    exact h (by rw [e];decide)
 ·split
  ·intro e;cases e
  ·obtain ⟨_,r,hr⟩:=oV (t:=jH S) (rest:=[]) (p:=0) (S:=S) (by rw [List.append_nil];rfl)
   rw [hr]
   intro e
   cases e
theorem tg {b:List UInt8} {s s1:Pz} {S:ay} (hL:s1.L=s.L) (hg:s1.g=s.g) (hc:s1.cl=s.cl) (h:0≤(ah (cn S) s1).1) (hp:s.p+1≤s1.p):∃ τ,Rd8 b s (okR (ah (cn S) s1)) τ∧qA s (okR (ah (cn S) s1)) τ:=
 xD (τ:=iS false S) hL hg hc h (fun _=>rfl) hp (tu _ _) (xF S) (fun e=>absurd e (AW S)) fun t2 p2 rest h1 _=>AU (s:={ s with p:=p2 }) h1
theorem Fa (b:List UInt8):∀ (n:Nat) (j:Job) (q:Res),go b n j=some q→jJ b j→q.2.1=[]→JRd b j q:=by
 intro n
 induction n with
 | zero=>intro j q h;cases h
 | succ n ih=>
  intro j q h hj hw
  have hj0:=hj
  obtain ⟨j1,j2,j3⟩:=hj
  cases j with
  | branch inner s=>
   have j1:s.p≤b.length:=j1
   have j2:s.g≤9:=j2
   unfold go at h
   by_cases h1:aI b s.p [94]=true
   ·rw [if_pos h1] at h
    have hl:=di h1 (by simp)
    have hl:s.p+1≤b.length:=hl
    by_cases h2:(ah (7,0,0,0,0,0,aj) (adv s 1)).1<0
    ·rw [if_pos h2] at h;injection h with h;subst h;cases hw
    rw [if_neg h2] at h
    have h0:0≤(ah (7,0,0,0,0,0,aj) (adv s 1)).1:=by omega
    obtain ⟨p1,p2,p3⟩:=gq h0
    have p3:ah (7,0,0,0,0,0,aj) (adv s 1)=((s.L.length:Int),⟨s.L++[(7,0,0,0,0,0,aj)],s.g,s.p+1,s.cl⟩):=p3
    rw [p3] at h
    have hb:tx0 false (s.L++[(7,0,0,0,0,0,aj)]) (s.L.length:Int)=[94]:=(jZ _ _ _).trans rfl
    have hcc:cc false (s.L++[(7,0,0,0,0,0,aj)]) [(s.L.length:Int)]=[94]:=by
     unfold cc
     show tx0 false _ _++[]=_
     rw [hb];rfl
    have hih:JRd b (.loop inner [(s.L.length:Int)] true ⟨s.L++[(7,0,0,0,0,0,aj)],s.g,s.p+1,s.cl⟩) q:=ih _ q h ⟨hl,j2,trivial⟩ hw
    obtain ⟨ρ,r1,r2,r3,r4,r5,r6,r7,r8⟩:=hih s.p (Nat.le_succ _) (fun y hy=>by
     obtain rfl:=List.mem_singleton.1 hy
     refine ⟨Int.natCast_nonneg _,?_⟩
     show (s.L.length:Int)<((s.L++[_]).length:Int)
     simp <;> omega) (by
     show (cc false (s.L++[(7,0,0,0,0,0,aj)]) [(s.L.length:Int)]).length≤600 * (s.p+1 - s.p)
     rw [hcc];simp <;> omega)
    have r3:s.p+1≤q.2.2.p:=r3
    have r1:tx0 false q.2.2.L q.1=cc false (s.L++[(7,0,0,0,0,0,aj)]) [(s.L.length:Int)]++ρ:=r1
    have r4:(cc false (s.L++[(7,0,0,0,0,0,aj)]) [(s.L.length:Int)]++ρ).length≤600 * (q.2.2.p - s.p):=r4
    rw [hcc] at r1 r4
    have hgw:Gw false (600 * (q.2.2.p - s.p)) s.L (s.L++[(7,0,0,0,0,0,aj)]):=lm (by show 1≤_;omega)
    refine ⟨[94]++ρ,r1,r2,by omega,r4,fD hgw r5,fun t2 p2 rest hp2 hd hr=>?_⟩
    rw [List.append_assoc] at hd
    have hd1:=bJ hd
    have hlt:=uk (c:=94) hd
    obtain ⟨m,hm⟩:=r8 t2 (p2+1) rest true hlt hd1 hr
    refine ⟨m+1,?_⟩
    have e1:ah (7,0,0,0,0,0,aj) (adv { s with p:=p2 } 1)=((s.L.length:Int),⟨s.L++[(7,0,0,0,0,0,aj)],s.g,p2+1,s.cl⟩):=B5 (s:=s) (s1:=adv s 1) rfl rfl rfl h0 (p2+1)
    unfold go
    rw [if_pos (show aI t2 p2 [94]=true from l5 hd),e1,if_neg (by omega)]
    rw [List.length_append,← Nat.add_assoc]
    exact hm
   ·rw [if_neg h1] at h
    have hih:JRd b (.loop inner [] true s) q:=ih _ q h ⟨j1,j2,trivial⟩ hw
    obtain ⟨ρ,r1,r2,r3,r4,r5,r6,r7,r8⟩:=hih s.p (Nat.le_refl _) (fun y hy=>by cases hy) (Nat.zero_le _)
    have r1:tx0 false q.2.2.L q.1=ρ:=r1
    have r4:ρ.length≤600 * (q.2.2.p - s.p):=r4
    refine ⟨ρ,r1,r2,r3,r4,r5,fun t2 p2 rest hp2 hd hr=>?_⟩
    obtain ⟨m,hm⟩:=r8 t2 p2 rest true hp2 hd hr
    refine ⟨m+1,?_⟩
    have e1:aI t2 p2 [94]=false:=by
     cases ρ with
     | nil=>
      rw [List.nil_append] at hd
      cases inner with
      | true=>
       obtain ⟨r,rfl⟩:=hr.1 rfl
       exact ll hd (by decide)
      | false=>
       rw [hr.2 rfl] at hd
       exact oo hd
     | cons c r=>
      obtain ⟨c',r',e,_,h94,_⟩:=r6 (by simp)
      obtain ⟨rfl,_⟩:=List.cons.inj e
      exact ll hd h94
    unfold go
    rw [if_neg (by rw [show aI t2 ({ s with p:=p2 }:Pz).p [94]=false from e1];decide)]
    exact hm
  | loop inner l f s=>
   have j1:s.p≤b.length:=j1
   have j2:s.g≤9:=j2
   intro p0 hp0 hlv hll
   unfold go at h
   by_cases h1:s.p<b.length∧aI b s.p [92,41]=false
   ·rw [if_pos h1] at h
    cases hg:go b n (.piece f s) with
    | none=>rw [hg] at h;cases h
    | some q1=>
     obtain ⟨k,w,s1⟩:=q1
     rw [hg] at h
     dsimp only at h
     by_cases hwe:w.isEmpty=true
     ·rw [if_pos hwe] at h
      have hw0:=List.isEmpty_iff.1 hwe
      subst hw0
      obtain ⟨⟨a1,a2,a3⟩,_⟩:=jK b n _ _ hg ⟨j1,j2,trivial⟩ rfl
      have a2:s1.p≤b.length:=a2
      have hpc:JRd b (.piece f s) (k,[],s1):=ih _ _ hg ⟨j1,j2,trivial⟩ rfl
      obtain ⟨τ,c,crun⟩:=hpc
      have cpos:s.p+1≤s1.p:=c.pos
      have cval:0≤k∧k<(s1.L.length:Int):=c.val
      have ctxt:tx0 false s1.L k=τ:=c.txt
      have clen:τ.length≤600 * (s1.p - s.p):=c.len
      have cgw:Gw false (600 * (s1.p - s.p)) s.L s1.L:=c.gw
      have ceol:τ=[36]→s1.p=b.length∨aI b s1.p [92,41]=true:=c.eol
      have hcc:cc false s1.L (l++[k])=cc false s.L l++τ:=by rw [wJ,zb cgw hlv,ctxt]
      have hih:JRd b (.loop inner (l++[k]) false s1) q:=ih _ q h ⟨a2,a3,trivial⟩ hw
      obtain ⟨ρ,r1,r2,r3,r4,r5,r6,r7,r8⟩:=hih p0 (by omega) (fun y hy=>by
       rcases List.mem_append.1 hy with hy | hy
       ·exact (oq cgw (hlv y hy)).1
       ·obtain rfl:=List.mem_singleton.1 hy
        exact cval) (by rw [hcc,List.length_append];omega)
      have r3:s1.p≤q.2.2.p:=r3
      rw [hcc,List.append_assoc] at r1 r4
      have hτ:τ≠[]:=by obtain ⟨c',r',e,_⟩:=c.hd;rw [e];simp
      refine ⟨τ++ρ,r1,r2,by omega,r4,fD (gv (by omega) cgw) r5,fun _=>?_,fun hh=>?_,fun t2 p2 rest f2 hp2 hd hr=>?_⟩
      ·obtain ⟨c',r',e,e1,e2,e3⟩:=c.hd
       refine ⟨c',r'++ρ,by rw [e];rfl,e1,e2,fun e4=>?_⟩
       obtain ⟨d,r'',e5,e6⟩:=e3 e4
       exact ⟨d,r''++ρ,by rw [e5];rfl,e6⟩
      ·rcases hh with hh | hh
       ·omega
       ·rw [h1.2] at hh;cases hh
      ·rw [List.append_assoc] at hd
       have hno:sn (ρ++rest):=by
        cases ρ with
        | nil=>
         rw [List.nil_append]
         cases inner with
         | true=>
          obtain ⟨r,rfl⟩:=hr.1 rfl
          exact ⟨fun r e=>(by cases e),fun r e=>(by cases e)⟩
         | false=>
          rw [hr.2 rfl]
          exact ⟨fun r e=>(by cases e),fun r e=>(by cases e)⟩
        | cons x r=>
         obtain ⟨c',r',e,e1,e2,e3⟩:=r6 (by simp)
         obtain ⟨rfl,rfl⟩:=List.cons.inj e
         refine ⟨fun r e=>e1 (List.cons.inj e).1,fun r0 e=>?_⟩
         obtain ⟨e4,e5⟩:=List.cons.inj e
         obtain ⟨d,r'',rfl,_,e7⟩:=e3 e4
         exact e7 (List.cons.inj e5).1
       have heo:so τ (ρ++rest):=fun e=>by
        rw [r7 (ceol e),List.nil_append]
        cases inner with
        | true=>exact .inr (hr.1 rfl)
        | false=>exact .inl (hr.2 rfl)
       obtain ⟨m1,hm1⟩:=crun t2 p2 (ρ++rest) f2 hd heo hno
       have hlen:p2+τ.length≤t2.length:=by
        have:=congrArg List.length hd
        rw [List.length_drop,List.length_append] at this
        omega
       obtain ⟨m2,hm2⟩:=r8 t2 (p2+τ.length) rest false hlen (bJ hd) hr
       refine ⟨m1+m2+1,?_⟩
       have hcond:p2<t2.length∧aI t2 p2 [92,41]=false:=by
        obtain ⟨c',r',e,e1,e2,e3⟩:=c.hd
        rw [e] at hd
        refine ⟨uk hd,?_⟩
        by_cases hc92:c'=92
        ·obtain ⟨d,r'',e5,e6,_⟩:=e3 hc92
         rw [hc92,e5] at hd
         exact qx hd e6
        ·exact ll hd hc92
       have e1:=qy (Nat.le_add_right m1 m2) hm1
       have e2:=qy (Nat.le_add_left m2 m1) hm2
       unfold go
       rw [if_pos hcond,e1]
       show go t2 (m1+m2) (.loop inner (l++[k]) false { s1 with p:=p2+τ.length })=_
       rw [e2,List.length_append,Nat.add_assoc]
     ·rw [if_neg hwe] at h
      injection h with h
      subst h
      exact absurd (List.isEmpty_iff.2 hw) hwe
   ·rw [if_neg h1] at h
    injection h with h
    subst h
    have hbr:0≤(bd l s).1∧fo b inner l s=okR (bd l s):=by
     unfold fo at hw ⊢
     split at hw
     ·cases hw
     ·rename_i h1
      rw [if_neg h1]
      split at hw
      ·cases hw
      ·rename_i h2
       rw [if_neg h2]
       exact ⟨by omega,rfl⟩
    rw [hbr.2]
    obtain ⟨st1,st2,st3⟩:=mo l s
    obtain ⟨c1,c2,c3⟩:=wK false (600 * (s.p - p0)) l s hlv hbr.1 hll
    have hp:(okR (bd l s)).2.2.p=s.p:=st1
    refine ⟨[],by rw [List.append_nil];exact c2,c1,by rw [hp];exact Nat.le_refl _,by rw [hp,List.append_nil];exact hll,by rw [hp];exact c3,fun h=>absurd rfl h,fun _=>rfl,fun t2 p2 rest f2 hp2 hd hr=>⟨1,?_⟩⟩
    rw [List.nil_append] at hd
    have hcat:=B3 l s p2
    have fin:(¬ (p2<t2.length∧aI t2 p2 [92,41]=false))→(inner==decide ((p2:Int)=(t2.length:Int)))=false→go t2 1 (.loop inner l f2 { s with p:=p2 })=some ((bd l s).1,[],{ (bd l s).2 with p:=p2+0 }):=fun g1 g2=>by
     unfold go
     rw [if_neg g1]
     unfold fo
     rw [show (inner==decide ((({ s with p:=p2 }:Pz).p:Int)=(t2.length:Int)))=false from g2,if_neg (by decide),hcat,if_neg (by show ¬ (bd l s).1<0;omega)]
     rfl
    cases inner with
    | true=>
     obtain ⟨r,rfl⟩:=hr.1 rfl
     have hlt:=uk hd
     exact fin (fun e=>by rw [l5 (l:=[92,41]) (r:=r) hd] at e;cases e.2) (by rw [decide_eq_false (by omega)];rfl)
    | false=>
     rw [hr.2 rfl] at hd
     have:=congrArg List.length hd
     rw [List.length_drop,List.length_nil] at this
     exact fin (fun e=>by omega) (by rw [decide_eq_true (by omega)];rfl)
  | piece f s=>
   have j1:s.p≤b.length:=j1
   have j2:s.g≤9:=j2
   unfold go at h
   have key:∀ q1:Res,q1.2.2.p≤b.length→q1.2.2.g≤9→q1.2.1=[]→(0≤q1.1→∃ τ,Rd8 b s q1 τ∧qA s q1 τ)→q=jn b q1→JRd b (.piece f s) q:=fun q1 e1 e2 e3 e4 hq=>by
    obtain ⟨k,w,s1⟩:=q1
    have e3:w=[]:=e3
    subst e3
    have e1:s1.p≤b.length:=e1
    have e2:s1.g≤9:=e2
    subst hq
    have hw:(aL b (b.length+1) k [] s1).2.1=[]:=hw
    obtain ⟨_,k0⟩:=mU hw
    obtain ⟨τ,c,crun⟩:=e4 k0
    have cpos:s.p+1≤s1.p:=c.pos
    have ctxt:tx0 false s1.L k=τ:=c.txt
    have clen:τ.length≤600 * (s1.p - s.p):=c.len
    have cgw:Gw false (600 * (s1.p - s.p)) s.L s1.L:=c.gw
    obtain ⟨r1,μ,r2,r3,r4,r5,r6,r7⟩:=AV b (b.length+1) k s1 e1 e2 c.val hw
    rw [ctxt] at r2 r5
    show ∃ τ,Rd8 b s (aL b (b.length+1) k [] s1) τ∧ve s (aL b (b.length+1) k [] s1) τ
    have hlen:(τ++μ).length≤600 * ((aL b (b.length+1) k [] s1).2.2.p - s.p):=by rw [List.length_append];omega
    refine ⟨τ++μ,⟨r1,r2,by omega,hlen,fD (gv (by omega) cgw) (gv hlen r5),?_,fun e=>?_⟩,fun t2 p2 rest f2 hd heo hno=>?_⟩
    ·obtain ⟨c',r',e,e1,e2,e3⟩:=c.hd
     refine ⟨c',r'++μ,by rw [e];rfl,e1,e2,fun e4=>?_⟩
     obtain ⟨d,r'',e5,e6⟩:=e3 e4
     exact ⟨d,r''++μ,by rw [e5];rfl,e6⟩
    ·have hμ:μ=[]:=by
      obtain ⟨c',r',e0,_⟩:=c.hd
      rw [e0] at e
      have:=congrArg List.length e
      rw [List.length_append] at this
      simp only [List.length_cons,List.length_nil] at this
      exact List.length_eq_zero_iff.1 (by omega)
     rw [r6 hμ]
     rw [hμ,List.append_nil] at e
     exact c.eol e
    ·rw [List.append_assoc] at hd
     have heo1:so τ (μ++rest):=fun e=>by
      have h36:=c.eol e
      have hμ:μ=[]:=by
       have hz:aI b s1.p [42]=false∧aI b s1.p [92,123]=false:=by
        rcases h36 with h36 | h36
        ·have h36:s1.p=b.length:=h36
         have hd0:b.drop s1.p=[]:=List.drop_eq_nil_of_le (by omega)
         exact ⟨oo hd0,oo hd0⟩
        ·have h36:aI b s1.p [92,41]=true:=h36
         have h37:=of_decide_eq_true h36
         obtain ⟨r,hr⟩:∃ r,b.drop s1.p=92 :: 41 :: r:=⟨(b.drop s1.p).drop 2,by
          have:=List.take_append_drop 2 (b.drop s1.p)
          rw [show (b.drop s1.p).take 2=[92,41] from h37] at this
          exact this.symm⟩
         exact ⟨ll hr (by decide),qx hr (by decide)⟩
       have hm:cb b k [] s1=false:=by
        unfold cb
        rw [hz.1,hz.2];simp
       have he:aL b (b.length+1) k [] s1=(k,[],s1):=by
        unfold aL
        rw [hm,if_neg (by decide)]
        unfold dI
        rw [decide_eq_false (by omega)];rfl
       rw [he] at r2
       have r2:tx0 false s1.L k=τ++μ:=r2
       rw [ctxt] at r2
       have:=congrArg List.length r2
       rw [List.length_append] at this
       exact List.length_eq_zero_iff.1 (by omega)
      rw [hμ,List.nil_append]
      exact heo (by rw [hμ,List.append_nil];exact e)
     obtain ⟨m,hm⟩:=crun t2 p2 (μ++rest) hd heo1
     have hd1:=bJ hd
     have hml:μ.length<t2.length+1:=by
      have:=congrArg List.length hd1
      rw [List.length_drop,List.length_append] at this
      omega
     have hrun:=r7 t2 (p2+τ.length) rest (t2.length+1) hd1 hno hml
     refine ⟨m+1,?_⟩
     have hhd:aI t2 p2 [92,123]=false∧aI t2 p2 [42]=false:=by
      obtain ⟨c',r',e,e1,e2,e3⟩:=c.hd
      rw [e] at hd
      refine ⟨?_,ll hd e1⟩
      by_cases hc92:c'=92
      ·obtain ⟨d,r'',e5,_,e6⟩:=e3 hc92
       rw [hc92,e5] at hd
       exact qx hd e6
      ·exact ll hd hc92
     unfold go
     rw [if_neg (fun e=>by have e:aI t2 p2 [92,123]=true:=e.2;rw [hhd.1] at e;cases e),if_neg (fun e=>by have e:aI t2 p2 [42]=true:=e.2;rw [hhd.2] at e;cases e),hm]
     show some (aL t2 (t2.length+1) k [] { s1 with p:=p2+τ.length })=_
     rw [hrun,List.length_append,Nat.add_assoc]
   by_cases h1:f=true∧aI b s.p [92,123]=true
   ·rw [if_pos h1] at h;injection h with h;subst h;cases hw
   rw [if_neg h1] at h
   by_cases h2:f=true∧aI b s.p [42]=true
   ·rw [if_pos h2] at h
    injection h with h
    have hl:=di h2.2 (by simp)
    have hl:s.p+1≤b.length:=hl
    obtain ⟨a1,a2,_⟩:=eK (cn (ofS [42])) (adv s 1)
    exact key (kF 42 s) (by show (ah _ (adv s 1)).2.p≤_;rw [a1];exact hl) (by show (ah _ (adv s 1)).2.g≤_;rw [a2];exact j2) rfl (fun h0=>tg (s1:=adv s 1) rfl rfl rfl h0 (Nat.le_refl _)) h.symm
   ·rw [if_neg h2] at h
    cases hg:go b n (.atom s) with
    | none=>rw [hg] at h;cases h
    | some q1=>
     rw [hg] at h
     injection h with h
     have hw1:q1.2.1=[]:=(mU (b:=b) (n:=b.length+1) (k:=q1.1) (w:=q1.2.1) (s:=q1.2.2) (by
      have h:aL b (b.length+1) q1.1 q1.2.1 q1.2.2=q:=h
      rw [h];exact hw)).1
     obtain ⟨⟨_,c2,c3⟩,_⟩:=jK b n _ q1 hg ⟨j1,j2,trivial⟩ hw1
     exact key q1 c2 c3 hw1 (ih (.atom s) q1 hg ⟨j1,j2,trivial⟩ hw1) h.symm
  | atom s=>
   have j1:s.p≤b.length:=j1
   have j2:s.g≤9:=j2
   intro hq0
   unfold go at h
   cases hc:b[s.p]? with
   | none=>rw [hc] at h;cases h
   | some c=>
    rw [hc] at h
    dsimp only at h
    have hl:s.p<b.length:=(List.getElem?_eq_some_iff.1 hc).1
    by_cases h1:c.toNat=92
    ·rw [if_pos h1] at h
     exact ih (.escape s) q h ⟨j1,j2,hl⟩ hw hq0
    rw [if_neg h1] at h
    by_cases h2:c.toNat=46
    ·rw [if_pos h2] at h
     injection h with h;subst h
     exact tg (s1:=adv s 1) rfl rfl rfl hq0 (Nat.le_refl _)
    rw [if_neg h2] at h
    by_cases h3:c.toNat=91
    ·rw [if_pos h3] at h
     by_cases h4:(bn b (s.p+1)).2.2=0
     ·rw [if_pos h4] at h
      injection h with h;subst h
      obtain ⟨z,hz,hz1,hz2⟩:=fJ h4 hl
      exact tg (s1:={ s with p:=(bn b (s.p+1)).2.1.toNat }) rfl rfl rfl hq0 (by show s.p+1≤(bn b (s.p+1)).2.1.toNat;rw [hz];omega)
     ·rw [if_neg h4] at h;injection h with h;subst h;cases hw
    rw [if_neg h3] at h
    by_cases h5:c.toNat=36∧fG b s.p=true
    ·rw [if_pos h5] at h
     injection h with h;subst h
     have hend:s.p+1=b.length∨aI b (s.p+1) [92,41]=true:=by
      have:=h5.2
      unfold fG at this
      rw [Bool.or_eq_true,decide_eq_true_eq] at this
      refine this.imp id fun hh=>?_
      have h37:=of_decide_eq_true hh
      have hr:b.drop s.p=36 :: 92 :: 41 :: (b.drop s.p).drop 3:=by
       have:=List.take_append_drop 3 (b.drop s.p)
       rw [show (b.drop s.p).take 3=[36,92,41] from h37] at this
       exact this.symm
      exact l5 (l:=[92,41]) (bJ (a:=[36]) hr)
     refine xD (τ:=[36]) (s1:=adv s 1) rfl rfl rfl hq0 (fun _=>rfl) (Nat.le_refl _) (by simp) ⟨36,[],rfl,by decide,by decide,fun e=>by cases e⟩ (fun _=>hend) fun t2 p2 rest hd heo=>⟨1,?_⟩
     have hend2:fG t2 p2=true:=by
      unfold fG
      rcases heo rfl with hrest | ⟨r,hrest⟩
      ·have hlen:=congrArg List.length hd
       rw [hrest,List.length_drop] at hlen
       have hlen:t2.length - p2=1:=hlen
       rw [decide_eq_true (by omega)];rfl
      ·rw [hrest] at hd
       rw [l5 (l:=[36,92,41]) (r:=r) hd,Bool.or_true]
     unfold go
     rw [show t2[({ s with p:=p2 }:Pz).p]? =some 36 from cC hd]
     dsimp only
     rw [if_neg (by decide),if_neg (by decide),if_neg (by decide),if_pos ⟨by decide,hend2⟩]
     rfl
    ·rw [if_neg h5] at h
     injection h with h;subst h
     exact tg (s1:=adv s 1) rfl rfl rfl hq0 (Nat.le_refl _)
  | escape s=>
   have j1:s.p≤b.length:=j1
   have j2:s.g≤9:=j2
   intro hq0
   unfold go at h
   cases hc:b[s.p+1]? with
   | none=>rw [hc] at h;injection h with h;subst h;cases hw
   | some c=>
    rw [hc] at h
    dsimp only at h
    have hl:s.p+1<b.length:=(List.getElem?_eq_some_iff.1 hc).1
    by_cases h1:c.toNat=40
    ·rw [if_pos h1] at h
     exact ih (.group s) q h ⟨j1,j2,hl⟩ hw hq0
    rw [if_neg h1] at h
    by_cases h2:49≤c.toNat∧c.toNat≤57
    ·rw [if_pos h2] at h
     by_cases h3:s.cl.l[c.toNat - 48]? =some true
     ·rw [if_pos h3] at h
      injection h with h;subst h
      have ec:((c.toNat:Int) - 48).toNat=c.toNat - 48:=by omega
      have hdig:bj (c.toNat - 48)=[c]:=by
       unfold bj
       rw [if_pos (by omega),show 48+(c.toNat - 48)=c.toNat by omega,UInt8.ofNat_toNat]
      refine xD (τ:=[92,c]) (s1:=adv s 2) rfl rfl rfl hq0 (fun l=>?_) (Nat.le_succ _) (by simp) ⟨92,[c],rfl,by decide,by decide,fun _=>⟨c,[],rfl,(fun e=>by rw [e] at h2;exact absurd h2 (by decide)),fun e=>by rw [e] at h2;exact absurd h2 (by decide)⟩⟩ (fun e=>by cases e) fun t2 p2 rest hd _=>⟨2,?_⟩
      ·show [92]++bj ((c.toNat:Int) - 48).toNat=_
       rw [ec,hdig];rfl
      ·rw [qz (s:={ s with p:=p2 }) hd]
       have h4:t2[p2+1]? =some c:=cC (bJ (a:=[92]) hd)
       unfold go
       rw [show t2[({ s with p:=p2 }:Pz).p+1]? =some c from h4]
       dsimp only
       rw [if_neg h1,if_pos h2,if_pos h3]
       rfl
     ·rw [if_neg h3] at h;injection h with h;subst h;cases hw
    rw [if_neg h2] at h
    by_cases h3:c.toNat=110
    ·rw [if_pos h3] at h
     injection h with h;subst h
     exact tg (s1:=adv (adv s 1) 1) rfl rfl rfl hq0 (Nat.le_succ _)
    rw [if_neg h3] at h
    by_cases h4:lI c.toNat=true
    ·rw [if_pos h4] at h;injection h with h;subst h;cases hw
    ·rw [if_neg h4] at h
     injection h with h;subst h
     exact tg (s1:=adv (adv s 1) 1) rfl rfl rfl hq0 (Nat.le_succ _)
  | group s=>
   have j1:s.p≤b.length:=j1
   have j2:s.g≤9:=j2
   have j3:s.p+2≤b.length:=j3
   intro hq0
   unfold go at h
   by_cases h9:9≤s.g
   ·rw [if_pos h9] at h;injection h with h;subst h;cases hw
   rw [if_neg h9] at h
   cases hg:go b n (.branch true { s with g:=s.g+1,p:=s.p+2 }) with
   | none=>rw [hg] at h;cases h
   | some q1=>
    obtain ⟨k,w,s1⟩:=q1
    rw [hg] at h
    dsimp only at h
    by_cases hwe:w.isEmpty=true
    ·rw [if_pos hwe] at h
     have hw0:=List.isEmpty_iff.1 hwe
     subst hw0
     injection h with h
     have hih:JRd b (.branch true { s with g:=s.g+1,p:=s.p+2 }) (k,[],s1):=ih _ _ hg ⟨j3,by show s.g+1≤9;omega,trivial⟩ rfl
     obtain ⟨τ,c1,c2,c3,c4,c5,c6⟩:=hih
     have c1:tx0 false s1.L k=τ:=c1
     have c2:0≤k∧k<(s1.L.length:Int):=c2
     have c3:s.p+2≤s1.p:=c3
     have c4:τ.length≤600 * (s1.p - (s.p+2)):=c4
     have c5:Gw false (600 * (s1.p - (s.p+2))) s.L s1.L:=c5
     subst h
     have hq0:0≤(ah (5,k,0,0,0,((s.g+1:Nat):Int),aj) { s1 with p:=s1.p+2,cl:=Arr.set s1.cl (s.g+1) true }).1:=hq0
     obtain ⟨p1,p2,p3⟩:=gq hq0
     have p3:ah (5,k,0,0,0,((s.g+1:Nat):Int),aj) { s1 with p:=s1.p+2,cl:=Arr.set s1.cl (s.g+1) true }=((s1.L.length:Int),⟨s1.L++[(5,k,0,0,0,((s.g+1:Nat):Int),aj)],s1.g,s1.p+2,Arr.set s1.cl (s.g+1) true⟩):=p3
     rw [p3]
     have hnd:eD false (5,k,0,0,0,((s.g+1:Nat):Int),aj) (aT false s1.L)=[92,40]++τ++[92,41]:=by
      show hX false 40++tx0 false s1.L k++hX false 41=_
      rw [c1];rfl
     have htx:=(jZ false s1.L (5,k,0,0,0,((s.g+1:Nat):Int),aj)).trans hnd
     have hll:([92,40]++τ++[92,41]).length≤600 * (s1.p+2 - s.p):=by simp only [List.length_append,List.length_cons,List.length_nil];omega
     refine ⟨[92,40]++τ++[92,41],⟨⟨Int.natCast_nonneg _,by show (s1.L.length:Int)<((s1.L++[_]).length:Int);simp <;> omega⟩,htx,by show s.p+1≤s1.p+2;omega,hll,fD (gv (by show 600 * (s1.p - (s.p+2))≤600 * (s1.p+2 - s.p);omega) c5) (lm (by rw [hnd];exact hll)),⟨92,40 :: (τ++[92,41]),rfl,by decide,by decide,fun _=>⟨40,_,rfl,by decide,by decide⟩⟩,fun e=>by cases e⟩,fun t2 p2 rest hd _=>?_⟩
     have hd0:t2.drop p2=92 :: 40 :: (τ++([92,41]++rest)):=by rw [hd];simp
     have hd2:t2.drop (p2+2)=τ++([92,41]++rest):=bJ (a:=[92,40]) hd0
     have hlen2:p2+2≤t2.length:=by
      have:=congrArg List.length hd0
      rw [List.length_drop] at this
      simp only [List.length_cons] at this
      omega
     obtain ⟨m,hm⟩:=c6 t2 (p2+2) ([92,41]++rest) hlen2 hd2 ⟨fun _=>⟨rest,rfl⟩,fun h=>by cases h⟩
     refine ⟨m+3,?_⟩
     have e1:go t2 (m+1) (.group { s with p:=p2 })=some ((s1.L.length:Int),[],⟨s1.L++[(5,k,0,0,0,((s.g+1:Nat):Int),aj)],s1.g,p2+2+τ.length+2,Arr.set s1.cl (s.g+1) true⟩):=by
      unfold go
      rw [if_neg (by show ¬ 9≤s.g;exact h9)]
      have hm:go t2 m (.branch true { ({ s with p:=p2 }:Pz) with g:=({ s with p:=p2 }:Pz).g+1,p:=({ s with p:=p2 }:Pz).p+2 })=_:=hm
      rw [hm]
      show some (okR (ah (5,k,0,0,0,((s.g+1:Nat):Int),aj) { ({ s1 with p:=p2+2+τ.length }:Pz) with p:=p2+2+τ.length+2,cl:=Arr.set s1.cl (s.g+1) true }))=_
      have:=sm (5,k,0,0,0,((s.g+1:Nat):Int),aj) { s1 with p:=s1.p+2,cl:=Arr.set s1.cl (s.g+1) true } (p2+2+τ.length+2)
      rw [p3] at this
      have this:ah (5,k,0,0,0,((s.g+1:Nat):Int),aj) { ({ s1 with p:=p2+2+τ.length }:Pz) with p:=p2+2+τ.length+2,cl:=Arr.set s1.cl (s.g+1) true }=_:=this
      rw [this];rfl
     rw [qz (s:={ s with p:=p2 }) hd0]
     have h4:t2[p2+1]? =some 40:=cC (bJ (a:=[92]) hd0)
     show (match t2[p2+1]? with | none=>some (noR _ 10) | some c=>_)=_
     rw [h4]
     show go t2 (m+1) (.group { s with p:=p2 })=_
     rw [e1]
     show some ((s1.L.length:Int),[],(⟨s1.L++[(5,k,0,0,0,((s.g+1:Nat):Int),aj)],s1.g,p2+2+τ.length+2,Arr.set s1.cl (s.g+1) true⟩:Pz))=some ((s1.L.length:Int),[],(⟨s1.L++[(5,k,0,0,0,((s.g+1:Nat):Int),aj)],s1.g,p2+([92,40]++τ++[92,41]).length,Arr.set s1.cl (s.g+1) true⟩:Pz))
     have el:p2+([92,40]++τ++[92,41]:List UInt8).length=p2+2+τ.length+2:=by simp only [List.length_append,List.length_cons,List.length_nil];omega
     rw [el]
    ·rw [if_neg hwe] at h
     injection h with h
     subst h
     exact absurd (List.isEmpty_iff.2 hw) hwe
end Go.Proofs.YtnbceeholnkfeaaGreatDoor
namespace Go.Proofs.YtnbceeholnkfeaaGreatDoor
theorem wc {b:List UInt8} {inner:Bool} {l:List Int} {s:Pz} (h:(fo b inner l s).2.1=[]):0≤(bd l s).1∧fo b inner l s=okR (bd l s):=by
 unfold fo at h ⊢
 split at h
 ·cases h
 ·rename_i h1
  rw [if_neg h1]
  split at h
  ·cases h
  ·rename_i h2
   rw [if_neg h2]
   exact ⟨by omega,rfl⟩
theorem tN {b:List UInt8} {q:Res} (h:(jn b q).2.1=[]):q.2.1=[]∧0≤q.1:=mU (n:=b.length+1) (k:=q.1) (w:=q.2.1) (s:=q.2.2) h
theorem l7 (nd:ND) (s:Pz):(ah nd s).2.L.length≤s.L.length+1:=by
 unfold ah
 split
 ·exact Nat.le_succ _
 ·split
  ·simp
  ·exact Nat.le_succ _
theorem vf (kind:Int):∀ (l:List Int) (x:Int) (s:Pz),(bf kind l x s).2.L.length≤s.L.length+l.length
 | [],x,s=>Nat.le_refl _
 | y :: t,x,s=>by
  rw [cG]
  split
  ·exact Nat.le_add_right _ _
  ·have h1:=vf kind t (ah (kind,x,y,0,0,0,aj) s).1 (ah (kind,x,y,0,0,0,aj) s).2
   have h2:=l7 (kind,x,y,0,0,0,aj) s
   rw [List.length_cons];omega
theorem CS (l:List Int) (s:Pz):(bd l s).2.L.length≤s.L.length+l.length+1:=by
 cases l with
 | nil=>exact l7 _ s
 | cons x t=>
  rw [gL,List.length_cons]
  split
  ·exact Nat.le_add_right s.L.length (t.length+1+1)
  ·have:=vf 2 t x s
   omega
theorem rt (b:List UInt8) (k lo hi:Int) (s:Pz) (a:Nat):(dV b k lo hi s a).2.2.L.length≤s.L.length+1:=by
 unfold dV
 split
 ·exact Nat.le_succ _
 ·exact l7 _ { s with p:=a+2 }
theorem xG (b:List UInt8) (k:Int) (s:Pz):(aR b k s).2.2.L.length≤s.L.length+1:=by
 unfold aR
 split
 ·exact l7 _ (adv s 1)
 ·split
  ·exact Nat.le_succ _
  ·split
   ·split
    ·exact rt _ _ _ _ _ _
    ·split
     ·exact rt _ _ _ _ _ _
     ·exact Nat.le_succ _
   ·exact rt _ _ _ _ _ _
theorem AX {b:List UInt8}:∀ (n:Nat) (k:Int) (s:Pz),s.p≤b.length→s.g≤9→(aL b n k [] s).2.1=[]→(aL b n k [] s).2.2.L.length+2 * s.p≤s.L.length+2 * (aL b n k [] s).2.2.p:=by
 intro n
 induction n with
 | zero=>intro k s _ _ _;exact Nat.le_refl _
 | succ n ih=>
  intro k s hp hg h
  unfold aL at h ⊢
  by_cases hm:cb b k [] s=true
  ·rw [if_pos hm] at h ⊢
   obtain ⟨_,_,hh⟩:=oC hm
   have hwe:(aR b k s).2.1=[]:=Decidable.not_not.1 fun hne=>by
    rw [tL _ _ _ _ hne] at h
    exact hne h
   rw [hwe] at h ⊢
   obtain ⟨a1,a2,a3⟩:=kr hp hg hh hwe
   have h1:=ih _ _ a2 a3 h
   have h2:=xG b k s
   omega
  ·rw [if_neg hm]
   exact Nat.le_refl _
def Job.c:Job→Nat
 | .branch _ _=>2
 | .loop _ l _ _=>l.length+2
 | _=>0
theorem Ec (b:List UInt8):∀ (n:Nat) (j:Job) (q:Res),go b n j=some q→jJ b j→q.2.1=[]→q.2.2.L.length+2 * j.s.p+1≤j.s.L.length+2 * q.2.2.p+j.c:=by
 intro n
 induction n with
 | zero=>intro j q h;cases h
 | succ n ih=>
  intro j q h hj hw
  obtain ⟨j1,j2,j3⟩:=hj
  have put1:∀ (nd:ND) (s s1:Pz),s1.L.length≤s.L.length→s.p+1≤s1.p→(okR (ah nd s1)).2.2.L.length+2 * s.p+1≤s.L.length+2 * (okR (ah nd s1)).2.2.p+0:=fun nd s s1 h1 h2=>by
   have c1:=l7 nd s1
   have c2:=(eK nd s1).1
   have c1:(okR (ah nd s1)).2.2.L.length≤s1.L.length+1:=c1
   have c2:(okR (ah nd s1)).2.2.p=s1.p:=c2
   omega
  cases j with
  | branch inner s=>
   have j1:s.p≤b.length:=j1
   have j2:s.g≤9:=j2
   show q.2.2.L.length+2 * s.p+1≤s.L.length+2 * q.2.2.p+2
   unfold go at h
   split at h
   ·rename_i h1
    have hl:=di h1 (by simp)
    have hl:s.p+1≤b.length:=hl
    split at h
    ·injection h with h;subst h;cases hw
    ·obtain ⟨a1,a2,_⟩:=eK (7,0,0,0,0,0,aj) (adv s 1)
     have a1:(ah (7,0,0,0,0,0,aj) (adv s 1)).2.p=s.p+1:=a1
     have a2:(ah (7,0,0,0,0,0,aj) (adv s 1)).2.g=s.g:=a2
     have c1:=l7 (7,0,0,0,0,0,aj) (adv s 1)
     have c1:(ah (7,0,0,0,0,0,aj) (adv s 1)).2.L.length≤s.L.length+1:=c1
     have:=ih _ q h ⟨by show (ah _ (adv s 1)).2.p≤_;rw [a1];exact hl,by show (ah _ (adv s 1)).2.g≤_;rw [a2];exact j2,trivial⟩ hw
     have this:q.2.2.L.length+2 * (ah (7,0,0,0,0,0,aj) (adv s 1)).2.p+1≤(ah (7,0,0,0,0,0,aj) (adv s 1)).2.L.length+2 * q.2.2.p+(1+2):=this
     omega
   ·have:=ih (.loop inner [] true s) q h ⟨j1,j2,trivial⟩ hw
    exact this
  | loop inner l first s=>
   have j1:s.p≤b.length:=j1
   have j2:s.g≤9:=j2
   show q.2.2.L.length+2 * s.p+1≤s.L.length+2 * q.2.2.p+(l.length+2)
   unfold go at h
   split at h
   ·cases hg:go b n (.piece first s) with
    | none=>rw [hg] at h;cases h
    | some q1=>
     obtain ⟨k,w,s'⟩:=q1
     rw [hg] at h
     dsimp only at h
     split at h
     ·rename_i hwe
      have hw0:=List.isEmpty_iff.1 hwe
      obtain ⟨⟨c1,c2,c3⟩,_⟩:=jK b n _ _ hg ⟨j1,j2,trivial⟩ hw0
      have h1:=ih _ _ hg ⟨j1,j2,trivial⟩ hw0
      have h1:s'.L.length+2 * s.p+1≤s.L.length+2 * s'.p+0:=h1
      have h2:=ih _ q h ⟨c2,c3,trivial⟩ hw
      have h2:q.2.2.L.length+2 * s'.p+1≤s'.L.length+2 * q.2.2.p+((l++[k]).length+2):=h2
      rw [List.length_append,List.length_singleton] at h2
      omega
     ·rename_i hwe
      injection h with h;subst h
      exact absurd (List.isEmpty_iff.2 hw) hwe
   ·injection h with h
    subst h
    rw [(wc hw).2]
    have c1:=CS l s
    have c2:=(mo l s).1
    show (bd l s).2.L.length+_+1≤_+2 * (bd l s).2.p+_
    omega
  | piece first s=>
   have j1:s.p≤b.length:=j1
   have j2:s.g≤9:=j2
   show q.2.2.L.length+2 * s.p+1≤s.L.length+2 * q.2.2.p+0
   have key:∀ q1:Res,q1.2.2.L.length+2 * s.p+1≤s.L.length+2 * q1.2.2.p+0→(q1.2.1=[]→q1.2.2.p≤b.length∧q1.2.2.g≤9)→(jn b q1).2.1=[]→(jn b q1).2.2.L.length+2 * s.p+1≤s.L.length+2 * (jn b q1).2.2.p+0:=fun q1 h1 h2 h3=>by
    obtain ⟨w0,_⟩:=tN h3
    obtain ⟨e1,e2⟩:=h2 w0
    obtain ⟨k,w,s1⟩:=q1
    have w0:w=[]:=w0
    subst w0
    have:=AX (b:=b) (b.length+1) k s1 e1 e2 h3
    have h1:s1.L.length+2 * s.p+1≤s.L.length+2 * s1.p+0:=h1
    show (aL b (b.length+1) k [] s1).2.2.L.length+_+1≤_+2 * (aL b (b.length+1) k [] s1).2.2.p+0
    omega
   unfold go at h
   split at h
   ·injection h with h;subst h;cases hw
   ·split at h
    ·rename_i h1
     injection h with h
     subst h
     have hl:=di h1.2 (by simp)
     have hl:s.p+1≤b.length:=hl
     obtain ⟨a1,a2,_⟩:=eK (cn (ofS [42])) (adv s 1)
     exact key (kF 42 s) (put1 _ s (adv s 1) (Nat.le_refl _) (Nat.le_refl _)) (fun _=>⟨by show (ah _ (adv s 1)).2.p≤_;rw [a1];exact hl,by show (ah _ (adv s 1)).2.g≤_;rw [a2];exact j2⟩) hw
    ·cases hg:go b n (.atom s) with
     | none=>rw [hg] at h;cases h
     | some q1=>
      rw [hg] at h
      injection h with h
      subst h
      obtain ⟨w0,_⟩:=tN hw
      refine key q1 (ih _ q1 hg ⟨j1,j2,trivial⟩ w0) (fun _=>?_) hw
      obtain ⟨⟨_,c2,c3⟩,_⟩:=jK b n _ _ hg ⟨j1,j2,trivial⟩ w0
      exact ⟨c2,c3⟩
  | atom s=>
   have j1:s.p≤b.length:=j1
   have j2:s.g≤9:=j2
   show q.2.2.L.length+2 * s.p+1≤s.L.length+2 * q.2.2.p+0
   unfold go at h
   cases hc:b[s.p]? with
   | none=>rw [hc] at h;cases h
   | some c=>
    rw [hc] at h
    dsimp only at h
    have hl:s.p<b.length:=(List.getElem?_eq_some_iff.1 hc).1
    split at h
    ·exact ih (.escape s) q h ⟨j1,j2,hl⟩ hw
    ·split at h
     ·injection h with h;subst h;exact put1 _ s (adv s 1) (Nat.le_refl _) (Nat.le_refl _)
     ·split at h
      ·split at h
       ·rename_i h0
        injection h with h;subst h
        obtain ⟨z,hz,hz1,hz2⟩:=fJ h0 hl
        exact put1 _ s { s with p:=_ } (Nat.le_refl _) (by show s.p+1≤(bn b (s.p+1)).2.1.toNat;rw [hz];omega)
       ·injection h with h;subst h;cases hw
      ·split at h
       ·injection h with h;subst h;exact put1 _ s (adv s 1) (Nat.le_refl _) (Nat.le_refl _)
       ·injection h with h;subst h;exact put1 _ s (adv s 1) (Nat.le_refl _) (Nat.le_refl _)
  | escape s=>
   have j1:s.p≤b.length:=j1
   have j2:s.g≤9:=j2
   show q.2.2.L.length+2 * s.p+1≤s.L.length+2 * q.2.2.p+0
   unfold go at h
   cases hc:b[s.p+1]? with
   | none=>rw [hc] at h;injection h with h;subst h;cases hw
   | some c=>
    rw [hc] at h
    dsimp only at h
    have hl:s.p+1<b.length:=(List.getElem?_eq_some_iff.1 hc).1
    split at h
    ·exact ih (.group s) q h ⟨j1,j2,hl⟩ hw
    ·split at h
     ·split at h
      ·injection h with h;subst h;exact put1 _ s (adv s 2) (Nat.le_refl _) (Nat.le_succ _)
      ·injection h with h;subst h;cases hw
     ·split at h
      ·injection h with h;subst h;exact put1 _ s (adv (adv s 1) 1) (Nat.le_refl _) (Nat.le_succ _)
      ·split at h
       ·injection h with h;subst h;cases hw
       ·injection h with h;subst h;exact put1 _ s (adv (adv s 1) 1) (Nat.le_refl _) (Nat.le_succ _)
  | group s=>
   have j1:s.p≤b.length:=j1
   have j2:s.g≤9:=j2
   have j3:s.p+2≤b.length:=j3
   show q.2.2.L.length+2 * s.p+1≤s.L.length+2 * q.2.2.p+0
   unfold go at h
   split at h
   ·injection h with h;subst h;cases hw
   ·rename_i h9
    cases hg:go b n (.branch true { s with g:=s.g+1,p:=s.p+2 }) with
    | none=>rw [hg] at h;cases h
    | some q1=>
     obtain ⟨k,w,s'⟩:=q1
     rw [hg] at h
     dsimp only at h
     split at h
     ·rename_i hwe
      injection h with h
      subst h
      have h1:=ih _ _ hg ⟨j3,by show s.g+1≤9;omega,trivial⟩ (List.isEmpty_iff.1 hwe)
      have h1:s'.L.length+2 * (s.p+2)+1≤s.L.length+2 * s'.p+2:=h1
      have c1:=l7 (5,k,0,0,0,((s.g+1:Nat):Int),aj) { s' with p:=s'.p+2,cl:=Arr.set s'.cl (s.g+1) true }
      have c2:=(eK (5,k,0,0,0,((s.g+1:Nat):Int),aj) { s' with p:=s'.p+2,cl:=Arr.set s'.cl (s.g+1) true }).1
      have c1:(okR (ah (5,k,0,0,0,((s.g+1:Nat):Int),aj) { s' with p:=s'.p+2,cl:=Arr.set s'.cl (s.g+1) true })).2.2.L.length≤s'.L.length+1:=c1
      have c2:(okR (ah (5,k,0,0,0,((s.g+1:Nat):Int),aj) { s' with p:=s'.p+2,cl:=Arr.set s'.cl (s.g+1) true })).2.2.p=s'.p+2:=c2
      omega
     ·rename_i hwe
      injection h with h
      subst h
      have hw:w=[]:=hw
      exact absurd (List.isEmpty_iff.2 hw) hwe
theorem Ed {b:List UInt8} {n m:Nat} {j:Job} {q r:Res} (h:go b n j=some q) (k:go b m j=some r):q=r:=by
 have h1:=qy (Nat.le_add_right n m) h
 have h2:=qy (Nat.le_add_left m n) k
 rw [h1] at h2
 exact Option.some.inj h2
theorem zd {B:Nat}:∀ l:List (List UInt8),(∀ t∈l,t.length≤B)→eY l≤l.length * B
 | [],_=>Nat.zero_le _
 | t :: l,h=>by
  have e:eY (t :: l)=t.length+eY l:=by unfold eY;rw [List.map_cons,List.sum_cons]
  have h1:=zd l fun x hx=>h x (List.mem_cons_of_mem _ hx)
  have h2:=h t List.mem_cons_self
  rw [e,List.length_cons,Nat.succ_mul];omega
theorem ze {x:Bool} {B:Nat} {L:List ND} (h:Gw x B [] L):eY (aT x L)≤L.length * B:=by
 have:=zd (B:=B) (aT x L) fun t ht=>by
  obtain ⟨i,hi⟩:=List.mem_iff_getElem?.1 ht
  have hl:=(List.getElem?_eq_some_iff.1 hi).1
  rw [gK] at hl
  have:=h.2 i (Nat.zero_le _) hl
  unfold tx0 at0 at this
  rw [Int.toNat_natCast,hi] at this
  exact this
 rwa [gK] at this
theorem AY {b:List UInt8} (hb:b.length≤80) {n:Nat} {q:Res} (hq:go b n (.branch false pz0)=some q) (hw:q.2.1=[]):
  ∃ τ,bU (q.2.2.L,(q.2.2.g:Int)) false (τ,true)∧bp τ false ((q.2.2.L,(q.2.2.g:Int)),0,0):=by
 have hj:jJ b (.branch false pz0):=⟨Nat.zero_le _,Nat.zero_le _,trivial⟩
 have hrd:JRd b (.branch false pz0) q:=Fa b n _ q hq hj hw
 obtain ⟨τ,c1,c2,c3,c4,c5,c6⟩:=hrd
 have hat:=(jK b _ _ _ hq hj hw).1.2.1
 have hcnt:=Ec b _ _ _ hq hj hw
 have hcnt:q.2.2.L.length+2 * 0+1≤0+2 * q.2.2.p+2:=hcnt
 have c4:τ.length≤600 * (q.2.2.p - 0):=c4
 have c5:Gw false (600 * (q.2.2.p - 0)) [] q.2.2.L:=c5
 obtain ⟨f1,f2,f3,f4⟩:=pp hq hw
 have hτl:τ.length≤48000:=by omega
 obtain ⟨m,hm⟩:=c6 τ 0 [] (Nat.zero_le _) (by rw [List.append_nil];rfl) ⟨(fun h=>by cases h),fun _=>rfl⟩
 have hm:go τ m (.branch false pz0)=some (q.1,[],{ q.2.2 with p:=0+τ.length }):=hm
 obtain ⟨q2,hq2⟩:=yi τ (6 * τ.length+5) (.branch false pz0) ⟨Nat.zero_le _,Nat.zero_le _,trivial⟩ trivial (by show 6 * (τ.length - 0)+5≤_;omega) (by omega)
 obtain rfl:=Ed hm hq2
 have hs:eY (aT false q.2.2.L)≤16777216:=by
  have h1:=ze (gv (B':=48000) (by omega) c5)
  have h2:q.2.2.L.length * 48000≤200 * 48000:=Nat.mul_le_mul_right _ (by omega)
  omega
 have hlast:(aT false q.2.2.L)[q.2.2.L.length - 1]? =some τ:=by
  rw [← c1,f2]
  unfold tx0 at0
  rw [show ((q.2.2.L.length:Int) - 1).toNat=q.2.2.L.length - 1 by omega,List.getElem?_eq_getElem (by rw [gK];omega)];rfl
 have hp:=pq τ (by omega) _ (by omega) _ hq2
 have hr:=pP τ (by omega) _ _ hq2
 exact ⟨τ,rA f1 hs hlast (oT hp),oS hr⟩
end Go.Proofs.YtnbceeholnkfeaaGreatDoor
