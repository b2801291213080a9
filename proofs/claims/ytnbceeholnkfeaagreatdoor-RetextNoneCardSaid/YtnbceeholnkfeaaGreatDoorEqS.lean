/- The document's reader of extended regular expressions: call by call; nodes that may be put. -/
import Derived.Test.YtnbceeholnkfeaaGreatDoorRkN
namespace Go.Proofs.YtnbceeholnkfeaaGreatDoor
abbrev PB:=RS8→Bool→(Int×RS8)→Prop
abbrev PG:=RS8→Int→Bool→(Int×RS8)→Prop
def TT:Nat→PB×PB×PG×PB×PB
 | 0=>(fun _ _ _=>False,fun _ _ _=>False,fun _ _ _ _=>False,fun _ _ _=>False,fun _ _ _=>False)
 | n+1=>(fun o x r=>(TT n).1 o x r∨dU (TT n).1 (TT n).2.1 (TT n).2.2.1 (TT n).2.2.2.1 (TT n).2.2.2.2 o x r,
  fun o x r=>(TT n).2.1 o x r∨cQ (TT n).1 (TT n).2.1 (TT n).2.2.1 (TT n).2.2.2.1 (TT n).2.2.2.2 o x r,
  fun o x y r=>(TT n).2.2.1 o x y r∨dB (TT n).1 (TT n).2.1 (TT n).2.2.1 (TT n).2.2.2.1 (TT n).2.2.2.2 o x y r,
  fun o x r=>(TT n).2.2.2.1 o x r∨dk (TT n).1 (TT n).2.1 (TT n).2.2.1 (TT n).2.2.2.1 (TT n).2.2.2.2 o x r,
  fun o x r=>(TT n).2.2.2.2 o x r∨dC (TT n).1 (TT n).2.1 (TT n).2.2.1 (TT n).2.2.2.1 (TT n).2.2.2.2 o x r)
theorem rW {α:Type} {T:Nat→α→Prop} {B:Nat→α→Prop} (h0:∀ a,¬ T 0 a) (hs:∀ n a,T (n+1) a↔T n a∨B n a) (n:Nat) (a:α):T n a↔∃ m,m<n∧B m a:=by
 induction n with
 | zero=>exact ⟨fun h=>(h0 a h).elim,fun ⟨m,h,_⟩=>by omega⟩
 | succ n ih=>
  rw [hs]
  constructor
  ·rintro (h | h)
   ·obtain ⟨m,h1,h2⟩:=ih.1 h;exact ⟨m,by omega,h2⟩
   ·exact ⟨n,by omega,h⟩
  ·rintro ⟨m,h1,h2⟩
   rcases (by omega:m<n∨m=n) with h3 | rfl
   ·exact .inl (ih.2 ⟨m,h3,h2⟩)
   ·exact .inr h2
def R1 (m:Nat):PB:=dU (TT m).1 (TT m).2.1 (TT m).2.2.1 (TT m).2.2.2.1 (TT m).2.2.2.2
def R2 (m:Nat):PB:=cQ (TT m).1 (TT m).2.1 (TT m).2.2.1 (TT m).2.2.2.1 (TT m).2.2.2.2
def R3 (m:Nat):PG:=dB (TT m).1 (TT m).2.1 (TT m).2.2.1 (TT m).2.2.2.1 (TT m).2.2.2.2
def R4 (m:Nat):PB:=dk (TT m).1 (TT m).2.1 (TT m).2.2.1 (TT m).2.2.2.1 (TT m).2.2.2.2
def R5 (m:Nat):PB:=dC (TT m).1 (TT m).2.1 (TT m).2.2.1 (TT m).2.2.2.1 (TT m).2.2.2.2
theorem tt1 (n:Nat):(fun o x r=>∃ m,m<n∧R1 m o x r)=(TT n).1:=funext fun o=>funext fun x=>funext fun r=>propext (rW (T:=fun n (q:RS8×Bool×Int×RS8)=>(TT n).1 q.1 q.2.1 q.2.2) (B:=fun n q=>R1 n q.1 q.2.1 q.2.2) (fun _ h=>h) (fun _ _=>.rfl) n (o,x,r)).symm
theorem tt2 (n:Nat):(fun o x r=>∃ m,m<n∧R2 m o x r)=(TT n).2.1:=funext fun o=>funext fun x=>funext fun r=>propext (rW (T:=fun n (q:RS8×Bool×Int×RS8)=>(TT n).2.1 q.1 q.2.1 q.2.2) (B:=fun n q=>R2 n q.1 q.2.1 q.2.2) (fun _ h=>h) (fun _ _=>.rfl) n (o,x,r)).symm
theorem tt3 (n:Nat):(fun o x y r=>∃ m,m<n∧R3 m o x y r)=(TT n).2.2.1:=funext fun o=>funext fun x=>funext fun y=>funext fun r=>propext (rW (T:=fun n (q:RS8×Int×Bool×Int×RS8)=>(TT n).2.2.1 q.1 q.2.1 q.2.2.1 q.2.2.2) (B:=fun n q=>R3 n q.1 q.2.1 q.2.2.1 q.2.2.2) (fun _ h=>h) (fun _ _=>.rfl) n (o,x,y,r)).symm
theorem tt4 (n:Nat):(fun o x r=>∃ m,m<n∧R4 m o x r)=(TT n).2.2.2.1:=funext fun o=>funext fun x=>funext fun r=>propext (rW (T:=fun n (q:RS8×Bool×Int×RS8)=>(TT n).2.2.2.1 q.1 q.2.1 q.2.2) (B:=fun n q=>R4 n q.1 q.2.1 q.2.2) (fun _ h=>h) (fun _ _=>.rfl) n (o,x,r)).symm
theorem tt5 (n:Nat):(fun o x r=>∃ m,m<n∧R5 m o x r)=(TT n).2.2.2.2:=funext fun o=>funext fun x=>funext fun r=>propext (rW (T:=fun n (q:RS8×Bool×Int×RS8)=>(TT n).2.2.2.2 q.1 q.2.1 q.2.2) (B:=fun n q=>R5 n q.1 q.2.1 q.2.2) (fun _ h=>h) (fun _ _=>.rfl) n (o,x,r)).symm
theorem wt:dg R1 R2 R3 R4 R5:=by
 refine ⟨fun m o x r h=>?_,fun m o x r h=>?_,fun m o x y r h=>?_,fun m o x r h=>?_,fun m o x r h=>?_⟩
 all_goals rw [tt1,tt2,tt3,tt4,tt5];exact h
theorem sU {n N : Nat} (h : n ≤ N) : (∀ o x r, (TT n).1 o x r → (TT N).1 o x r) ∧ (∀ o x r, (TT n).2.1 o x r → (TT N).2.1 o x r) ∧ (∀ o x y r, (TT n).2.2.1 o x y r → (TT N).2.2.1 o x y r) := by
  induction N with
  | zero => obtain rfl : n = 0 := by omega
            exact ⟨fun _ _ _ h => h, fun _ _ _ h => h, fun _ _ _ _ h => h⟩
  | succ N ih =>
    rcases (by omega : n ≤ N ∨ n = N + 1) with h1 | rfl
    · obtain ⟨a, b, c⟩ := ih h1
      exact ⟨fun o x r h => .inl (a o x r h), fun o x r h => .inl (b o x r h), fun o x y r h => .inl (c o x y r h)⟩
    · exact ⟨fun _ _ _ h => h, fun _ _ _ h => h, fun _ _ _ _ h => h⟩
theorem oL {L L':List ND} {g g':Nat} {R:List Int} {z:Int} (h:Gr L g L' g' R) (hz:z∈R):0≤z∧z<(L'.length:Int):=by
 obtain ⟨N,rfl,_,a2,_⟩:=h
 have h1:=a2 z
 have h2:0<R.count z:=List.count_pos_iff.2 hz
 rw [List.length_append]
 split at h1 <;> omega
theorem Am {k lo hi a:Int} (g:Int) (hk:0≤k∧k<a) (ht:db lo hi=true):aP (4,k,0,lo,hi,0,aj) a g=true:=by
 simp [aP,jc,aY,hk.1,hk.2,ht]
theorem An {kind x y a:Int} (g:Int) (hkd:kind=2∨kind=3) (hx:0≤x∧x<a) (hy:0≤y∧y<a):aP (kind,x,y,0,0,0,aj) a g=true:=by
 rcases hkd with rfl | rfl <;> simp [aP,jc,aY,hx.1,hx.2,hy.1,hy.2]
theorem Ao {k d a g:Int} (hk:0≤k∧k<a) (hd:1≤d∧d≤g):aP (5,k,0,0,0,d,aj) a g=true:=by
 simp [aP,jc,aY,hk.1,hk.2,hd.1,hd.2]
theorem yz {d a g:Int} (hd:1≤d∧d≤g):aP (6,0,0,0,0,d,aj) a g=true:=by
 simp [aP,jc,aY,hd.1,hd.2]
theorem Ap (a g:Int):aP (7,0,0,0,0,0,aj) a g=true:=by simp [aP,jc,aY]
theorem Aq (a g:Int):aP (8,0,0,0,0,0,aj) a g=true:=by simp [aP,jc,aY]
theorem pE {kind:Int} (hkd:kind=2∨kind=3):∀ (t:List Int) (x:Int) (s:Pz),(0≤x∧x<(s.L.length:Int))→(∀ y∈t,0≤y∧y<(s.L.length:Int))→s.L.length+t.length≤1000→0≤(bf kind t x s).1
 | [],x,s,hx,_,_=>hx.1
 | y :: t,x,s,hx,ht,hl=>by
  simp only [List.length_cons] at hl
  rw [cG,if_neg (by omega),wr (by omega) (An s.g hkd hx (ht y List.mem_cons_self))]
  refine pE hkd t _ _ ?_ (fun z hz=>?_) ?_
  ·show 0≤(s.L.length:Int)∧(s.L.length:Int)<((s.L++[_]).length:Int)
   simp;omega
  ·have:=ht z (List.mem_cons_of_mem _ hz)
   show 0≤z∧z<((s.L++[_]).length:Int)
   simp;omega
  ·show (s.L++[_]).length+t.length≤1000
   simp;omega
theorem Ar {l:List Int} {s:Pz} (hl:l≠[]) (hv:∀ y∈l,0≤y∧y<(s.L.length:Int)) (hc:s.L.length+l.length≤1001):0≤(bd l s).1:=by
 cases l with
 | nil=>exact absurd rfl hl
 | cons x t=>
  have hx:=hv x List.mem_cons_self
  simp only [List.length_cons] at hc
  rw [gL,if_neg (by omega)]
  exact pE (.inl rfl) t x s hx (fun y hy=>hv y (List.mem_cons_of_mem _ hy)) (by omega)
theorem As {l:List Int} {s:Pz} (hl:l≠[]) (hv:∀ y∈l,0≤y∧y<(s.L.length:Int)) (hc:s.L.length+l.length≤1001):0≤(dh l s).1:=by
 cases l with
 | nil=>exact absurd rfl hl
 | cons x t=>
  have hx:=hv x List.mem_cons_self
  simp only [List.length_cons] at hc
  rw [kh,if_neg (by omega)]
  exact pE (.inr rfl) t x s hx (fun y hy=>hv y (List.mem_cons_of_mem _ hy)) (by omega)
theorem sV:∀ (l:List UInt8) (n:Int) (gr:Bool),0≤n→n≤255→0≤(co n gr l).1∧(co n gr l).1≤255
 | [],n,gr,h,h'=>⟨h,h'⟩
 | c :: t,n,gr,h,h'=>by
  rw [fV]
  by_cases h1:48≤c.toNat∧c.toNat≤57
  ·rw [if_pos h1]
   cases hg:(gr || decide ((255 - ((c.toNat:Int) - 48)).tdiv 10<n)) with
   | true=>exact sV t n true h h'
   | false=>
    have:=of_decide_eq_false (Bool.or_eq_false_iff.1 hg).2
    rw [Int.tdiv_eq_ediv_of_nonneg (by omega)] at this
    exact sV t _ false (by omega) (by omega)
  ·rw [if_neg h1];exact ⟨h,h'⟩
theorem wu (b:List UInt8) (p:Nat):0≤(am b p).1∧(am b p).1≤255:=by
 unfold am
 split
 ·exact ⟨Int.le_refl _,by decide⟩
 ·split
  ·exact ⟨Int.le_refl _,by decide⟩
  ·exact sV _ 0 false (Int.le_refl _) (by decide)
theorem sW {b:List UInt8} {nd:ND} {s:Pz} (a:Int) (h:0≤(ah nd s).1):ap (rst b s a 0) nd ((ah nd s).1,rst b (ah nd s).2 a 0):=by
 obtain ⟨k,e,h1,rfl,h3,_⟩:=ma b nd s a
 rw [h3 h] at h1;exact h1
def fr9 (b:List UInt8) (q:R9):RS8:=rst b q.2.2 (q.2.2.p:Int) q.2.1
theorem sX {x:Int×Pz} (h:0≤x.1):okE x=(x.1,0,x.2):=if_neg (by omega)
theorem q8 {b:List UInt8} {nd:ND} {s:Pz} (a:Int) (ha:a=(s.p:Int)) (hl:s.L.length<1000) (hn:aP nd s.L.length s.g=true):
  ap (rst b s a 0) nd ((okE (ah nd s)).1,fr9 b (okE (ah nd s)))∧(okE (ah nd s)).2.1=0∧okE (ah nd s)=((s.L.length:Int),0,{ s with L:=s.L++[nd] }):=by
 subst ha
 have e:=wr hl hn
 have h0:0≤(ah nd s).1:=by rw [e];exact Int.natCast_nonneg _
 have h:=sW (b:=b) (s.p:Int) h0
 rw [sX h0,e] at *
 exact ⟨h,rfl,rfl⟩
end Go.Proofs.YtnbceeholnkfeaaGreatDoor
namespace Go.Proofs.YtnbceeholnkfeaaGreatDoor
abbrev SE9:=Int×List UInt8×Int×Int×List ND×Int×Arr 10 Bool
abbrev FE (r:Int×RS8):=fun (ag:SE9→Prop) (s:SE9)=>f8 ag s.1 s.2.1 s.2.2.1 s.2.2.2.1 s.2.2.2.2.1 s.2.2.2.2.2.1 s.2.2.2.2.2.2 r
theorem kM {b:List UInt8} {p:Nat} (h:0≤atB b p):p<b.length:=by
 rcases Nat.lt_or_ge p b.length with h1 | h1
 ·exact h1
 ·unfold atB at h
  rw [List.getElem?_eq_none h1] at h
  exact absurd h (by decide)
theorem bL {b:List UInt8} {p:Nat} {c:UInt8} (h:b[p]? =some c):atB b p=(c.toNat:Int):=by unfold atB;rw [h]
theorem uG {b:List UInt8} {p:Nat} (h:b.length≤p):atB b p= -1:=by unfold atB;rw [List.getElem?_eq_none h]
theorem qh {b:List UInt8} {p:Nat} (c:UInt8):atB b p=(c.toNat:Int)↔b[p]? =some c:=by
 constructor
 ·intro h
  have hl:p<b.length:=kM (by omega)
  rw [List.getElem?_eq_getElem hl] at *
  rw [bL (List.getElem?_eq_getElem hl)] at h
  rw [cj h]
 ·exact bL
theorem EN (b:List UInt8) (s:Pz) (a e k:Int) (he:e≠0) (ag:SE9→Prop):FE (k,rst b s a e) ag (k,b,a,e,s.L,(s.g:Int),s.cl):=ab (fun h=>absurd h he) fun _=>rfl
theorem Au (b:List UInt8) (k:Int) (s:Pz) (hp:s.p+1≤b.length):
  (∃ z:Nat,(bh b (s.p+1)).2.2.1=(z:Int)∧s.p+1≤z∧(bh b (s.p+1)).2.2.2=true∧b[z]? =some 125∧db (bh b (s.p+1)).1 (bh b (s.p+1)).2.1=true∧kL b k s=okE (ah (4,k,0,(bh b (s.p+1)).1,(bh b (s.p+1)).2.1,0,aj) { s with p:=z+1 }))
  ∨(kL b k s=noE s 13∧((bh b (s.p+1)).2.2.2=false∨∃ z:Nat,(bh b (s.p+1)).2.2.1=(z:Int)∧z≤b.length∧b[z]?≠some 125)):=by
 unfold kL bh
 by_cases h1:(am b (s.p+1)).2.2≠0
 ·rw [if_pos h1,if_pos h1]
  exact .inr ⟨rfl,.inl rfl⟩
 rw [if_neg h1,if_neg h1]
 obtain ⟨z,hz,hz1,hz2⟩:=eQ (Decidable.not_not.1 h1) hp
 have key:∀ (lo hi:Int) (a:Nat),s.p+1≤a→a≤b.length→0≤lo→lo≤255→(hi= -1∨(lo≤hi∧hi≤255))→(∃ w:Nat,((lo,hi,(a:Int),true):Int×Int×Int×Bool).2.2.1=(w:Int)∧s.p+1≤w∧true=true∧b[w]? =some 125∧db lo hi=true∧dy b k lo hi s a=okE (ah (4,k,0,lo,hi,0,aj) { s with p:=w+1 }))∨(dy b k lo hi s a=noE s 13∧(true=false∨∃ w:Nat,((lo,hi,(a:Int),true):Int×Int×Int×Bool).2.2.1=(w:Int)∧w≤b.length∧b[w]?≠some 125)):=fun lo hi a ha0 ha h0 h255 hh=>by
  have ht:db lo hi=true:=by
   unfold db
   rw [decide_eq_true h0,decide_eq_true h255]
   rcases hh with h | h
   ·rw [decide_eq_true h];rfl
   ·rw [decide_eq_true h.1,decide_eq_true h.2];simp
  have h2:¬ (hi≠-1∧hi<lo):=by omega
  unfold dy
  by_cases h3:b[a]? =some 125
  ·rw [if_pos ⟨h3,h2⟩]
   exact .inl ⟨a,rfl,ha0,rfl,h3,ht,rfl⟩
  ·rw [if_neg (fun e=>h3 e.1)]
   exact .inr ⟨rfl,.inr ⟨a,rfl,ha,h3⟩⟩
 rw [hz,Int.toNat_natCast]
 obtain ⟨n0,n1⟩:=wu b (s.p+1)
 by_cases h2:b[z]? =some 44
 ·rw [if_pos h2,if_pos h2]
  have hl:=(List.getElem?_eq_some_iff.1 h2).1
  obtain ⟨m0,m1⟩:=wu b (z+1)
  have h39:(am b (z+1)).2.2=0∨(am b (z+1)).2.2=9∨(am b (z+1)).2.2=3:=by
   unfold am
   split
   ·exact .inr (.inl rfl)
   ·split
    ·exact .inr (.inr rfl)
    ·exact .inl rfl
  rcases h39 with h3 | h3 | h3
  ·obtain ⟨w,hw,hw1,hw2⟩:=eQ h3 hl
   by_cases h4:(am b (z+1)).1<(am b (s.p+1)).1
   ·have c1:(am b (z+1)).2.2=3∨((am b (z+1)).2.2=0∧(am b (z+1)).1<(am b (s.p+1)).1):=.inr ⟨h3,h4⟩
    rw [if_pos c1,if_pos h3,hw,Int.toNat_natCast]
    refine .inr ⟨?_,.inl rfl⟩
    unfold dy
    rw [if_neg (fun e=>e.2 ⟨by omega,h4⟩)]
   ·have c1:¬ ((am b (z+1)).2.2=3∨((am b (z+1)).2.2=0∧(am b (z+1)).1<(am b (s.p+1)).1)):=by
     rintro (e | e)
     ·omega
     ·exact h4 e.2
    have c2:¬ (am b (z+1)).2.2≠0:=fun e=>e h3
    rw [if_neg c1,if_neg c2,if_pos h3,hw,Int.toNat_natCast]
    exact key (am b (s.p+1)).1 (am b (z+1)).1 w (by omega) hw2 n0 n1 (.inr ⟨by omega,m1⟩)
  ·have c1:¬ ((am b (z+1)).2.2=3∨((am b (z+1)).2.2=0∧(am b (z+1)).1<(am b (s.p+1)).1)):=by
    rintro (e | e)
    ·omega
    ·have:=e.1;omega
   have c2:(am b (z+1)).2.2≠0:=by omega
   have c3:¬ (am b (z+1)).2.2=0:=by omega
   rw [if_neg c1,if_pos c2,if_neg c3,if_pos h3]
   have:=key (am b (s.p+1)).1 (-1) (z+1) (by omega) hl n0 n1 (.inl rfl)
   rw [show ((z+1:Nat):Int)=(z:Int)+1 by omega] at this
   exact this
  ·have c1:(am b (z+1)).2.2=3∨((am b (z+1)).2.2=0∧(am b (z+1)).1<(am b (s.p+1)).1):=.inl h3
   have c3:¬ (am b (z+1)).2.2=0:=by omega
   have c4:¬ (am b (z+1)).2.2=9:=by omega
   rw [if_pos c1,if_neg c3,if_neg c4]
   exact .inr ⟨rfl,.inl rfl⟩
 ·rw [if_neg h2,if_neg h2]
  exact key (am b (s.p+1)).1 (am b (s.p+1)).1 z (by omega) hz2 n0 n1 (.inr ⟨Int.le_refl _,n1⟩)
def ClI (s:Pz):Prop:=∀ d:Nat,s.cl.l[d]? =some true→d≤s.g
theorem nV {b:List UInt8} {n:Nat} {k e:Int} {s:Pz} (he:e≠0):aU b n k e s=(k,e,s):=by
 cases n with
 | zero=>rfl
 | succ n=>unfold aU;rw [if_neg (fun h=>he h.1)]
theorem qi {x:Int×Pz} (h:(okE x).2.1=0):0≤x.1:=by
 unfold okE at h
 split at h
 ·cases h
 ·omega
theorem kx {nd:ND} {s:Pz} (h:(okE (ah nd s)).2.1=0):s.L.length<1000:=(gq (qi h)).1
theorem yA (b:List UInt8) (hb:b.length≤40000000):∀ (n:Nat) (k:Int) (s:Pz),s.p≤b.length→b.length - s.p<n→(0≤k∧k<(s.L.length:Int))→(s.L.length+2 * (b.length - s.p)≤1000∨(aU b n k 0 s).2.1=0)→ClI s→
  (∃ k',(∃ m,FE (k',fr9 b (aU b n k 0 s)) (LT (FE (k',fr9 b (aU b n k 0 s))) m) (k,b,(s.p:Int),0,s.L,(s.g:Int),s.cl))∧((aU b n k 0 s).2.1=0→k'=(aU b n k 0 s).1))∧ClI (aU b n k 0 s).2.2:=by
 intro n
 induction n with
 | zero=>intro k s _ h;omega
 | succ n ih=>
  intro k s hp hn hk hL hC
  have nx:ak (rst b s (s.p:Int) 0) 0 (atB b s.p):=dG b s s.p 0 0 (by omega) (by omega)
  have hin:InR ((s.p:Int)+1):=⟨by omega,by omega⟩
  have after:∀ (lo hi:Int) (a:Nat),s.p+1≤a→a≤b.length→db lo hi=true→aU b (n+1) k 0 s=aU b n (okE (ah (4,k,0,lo,hi,0,aj) { s with p:=a })).1 (okE (ah (4,k,0,lo,hi,0,aj) { s with p:=a })).2.1 (okE (ah (4,k,0,lo,hi,0,aj) { s with p:=a })).2.2→
    (∀ (r:Int×RS8) (m:Nat),bM b 0 s.L (s.g:Int) s.cl k (LT (FE r) (m+1)) (a:Int) lo hi r→FE r (LT (FE r) (m+1)) (k,b,(s.p:Int),0,s.L,(s.g:Int),s.cl))→
    (∃ k',(∃ m,FE (k',fr9 b (aU b (n+1) k 0 s)) (LT (FE (k',fr9 b (aU b (n+1) k 0 s))) m) (k,b,(s.p:Int),0,s.L,(s.g:Int),s.cl))∧((aU b (n+1) k 0 s).2.1=0→k'=(aU b (n+1) k 0 s).1))∧ClI (aU b (n+1) k 0 s).2.2:=fun lo hi a ha hal ht he step=>by
   have hroom:s.L.length<1000:=by
    rcases hL with h | h
    ·omega
    ·rw [he] at h
     refine kx (nd:=(4,k,0,lo,hi,0,aj)) (s:={ s with p:=a }) (Decidable.not_not.1 fun hne=>?_)
     rw [nV hne] at h
     exact hne h
   obtain ⟨p1,p2,p3⟩:=q8 (b:=b) (nd:=(4,k,0,lo,hi,0,aj)) (s:={ s with p:=a }) (a:Int) rfl hroom (Am s.g hk ht)
   rw [p3] at p1 he
   rw [he]
   obtain ⟨⟨k',⟨m,hm⟩,h2⟩,h3⟩:=ih (s.L.length:Int) { s with p:=a,L:=s.L++[(4,k,0,lo,hi,0,aj)] } hal (by show b.length - a<n;omega) ⟨Int.natCast_nonneg _,by show (s.L.length:Int)<((s.L++[_]).length:Int);simp;omega⟩ (hL.imp (fun h=>by show (s.L++[_]).length+2 * (b.length - a)≤1000;simp;omega) fun h=>by rw [he] at h;exact h) hC
   exact ⟨⟨k',⟨m+1,step _ m ⟨_,p1,.inr hm⟩⟩,h2⟩,h3⟩
  have rstep:∀ {q:R9},fp b s.p=true→cE b k s=q→aU b (n+1) k 0 s=aU b n q.1 q.2.1 q.2.2:=fun h1 h2=>by
   show (if (0:Int)=0∧fp b s.p=true then _ else _)=_
   rw [if_pos ⟨rfl,h1⟩,h2]
  cases hr:fp b s.p with
  | false=>
   have he:aU b (n+1) k 0 s=(k,0,s):=by
    show (if (0:Int)=0∧fp b s.p=true then _ else _)=_
    rw [if_neg (by rw [hr];simp)]
   rw [he]
   have hno:∀ c:UInt8,(c=42∨c=43∨c=63∨c=123)→atB b s.p≠(c.toNat:Int):=fun c hc h=>by
    rw [kw.2 (by rcases hc with rfl | rfl | rfl | rfl <;> simp [(qh _).1 h])] at hr;cases hr
   have n42:atB b s.p≠42:=hno 42 (by decide)
   have n43:atB b s.p≠43:=hno 43 (by decide)
   have n63:atB b s.p≠63:=hno 63 (by decide)
   have n123:atB b s.p≠123:=hno 123 (by decide)
   exact ⟨⟨k,⟨0,ab (fun _=>⟨_,nx,ab (fun h=>absurd h n43) fun _=>ab (fun h=>absurd h n63) fun _=>au hin (ab (fun h=>absurd h n123) fun _=>ab (fun _=>ab (fun _=>ab (fun _=>rfl) fun h=>absurd n63 h) fun h=>absurd n43 h) fun h=>absurd n42 h)⟩) fun h=>absurd rfl h⟩,fun _=>rfl⟩,hC⟩
  | true=>
   have hl:=oJ hr
   rcases kw.1 hr with h | h | h | h
   ·have ha:atB b s.p=42:=bL h
    refine after 0 (-1) (s.p+1) (Nat.le_refl _) hl rfl (rstep hr (by unfold cE;rw [h];rfl)) fun r m hj=>?_
    rw [show ((s.p+1:Nat):Int)=(s.p:Int)+1 by omega] at hj
    exact ab (fun _=>⟨_,nx,ab (fun h=>by omega) fun _=>ab (fun h=>by omega) fun _=>au hin (ab (fun h=>by omega) fun _=>ab (fun h=>absurd ha h) fun _=>hj)⟩) fun h=>absurd rfl h
   ·have ha:atB b s.p=43:=bL h
    refine after 1 (-1) (s.p+1) (Nat.le_refl _) hl rfl (rstep hr (by unfold cE;rw [h];rfl)) fun r m hj=>?_
    rw [show ((s.p+1:Nat):Int)=(s.p:Int)+1 by omega] at hj
    exact ab (fun _=>⟨_,nx,ab (fun _=>ab (fun h=>by omega) fun _=>au hin (ab (fun h=>by omega) fun _=>ab (fun _=>ab (fun h=>absurd ha h) fun _=>hj) fun h=>by omega)) fun h=>absurd ha h⟩) fun h=>absurd rfl h
   ·have ha:atB b s.p=63:=bL h
    refine after 0 1 (s.p+1) (Nat.le_refl _) hl rfl (rstep hr (by unfold cE;rw [h];rfl)) fun r m hj=>?_
    rw [show ((s.p+1:Nat):Int)=(s.p:Int)+1 by omega] at hj
    exact ab (fun _=>⟨_,nx,ab (fun h=>by omega) fun _=>ab (fun _=>au hin (ab (fun h=>by omega) fun _=>ab (fun _=>ab (fun _=>ab (fun h=>absurd ha h) fun _=>hj) fun h=>by omega) fun h=>by omega)) fun h=>absurd ha h⟩) fun h=>absurd rfl h
   ·have ha:atB b s.p=123:=bL h
    have hiv:=vp b s (s.p:Int) 0 (s.p+1) hb hl
    rw [show ((s.p+1:Nat):Int)=(s.p:Int)+1 by omega] at hiv
    have hrep:cE b k s=kL b k s:=by unfold cE;rw [h];rfl
    have pre:∀ (r:Int×RS8) (ag:SE9→Prop),((¬ ((bh b (s.p+1)).2.2.2=true)→aZ k b (s.p:Int) s.L (s.g:Int) s.cl (bh b (s.p+1)) 0 ag true r)∧(¬ (¬ ((bh b (s.p+1)).2.2.2=true))→(((b.length:Int)≤(bh b (s.p+1)).2.2.1→aZ k b (s.p:Int) s.L (s.g:Int) s.cl (bh b (s.p+1)) 0 ag true r)∧(¬ ((b.length:Int)≤(bh b (s.p+1)).2.2.1)→0≤((bh b (s.p+1)).2.2.1:Int)∧∃ y871:UInt8,b[((bh b (s.p+1)).2.2.1:Int).toNat]? =some y871∧aZ k b (s.p:Int) s.L (s.g:Int) s.cl (bh b (s.p+1)) 0 ag (!(decide ((y871.toNat:Int)=125))) r))))→FE r ag (k,b,(s.p:Int),0,s.L,(s.g:Int),s.cl):=fun r ag hr=>
     ab (fun _=>⟨_,nx,ab (fun h=>by omega) fun _=>ab (fun h=>by omega) fun _=>au hin (ab (fun _=>au hin ⟨_,hiv,hr⟩) fun h=>absurd ha h)⟩) fun h=>absurd rfl h
    rcases Au b k s hl with ⟨z,hz,hz1,hok,h125,ht,he⟩| ⟨he,hno⟩
    ·have hzl:=(List.getElem?_eq_some_iff.1 h125).1
     refine after _ _ (z+1) (by omega) hzl ht (rstep hr (hrep.trans he)) fun r m hj=>pre r _ ?_
     refine ab (fun h=>absurd hok h) fun _=>ab (fun h=>by omega) fun _=>⟨by omega,125,by rw [hz,Int.toNat_natCast];exact h125,?_⟩
     refine ab (fun h=>by cases h) fun _=>au (by rw [hz];omega) ?_
     rw [hz,show (z:Int)+1=((z+1:Nat):Int) by omega]
     exact hj
    ·have hrr:aU b (n+1) k 0 s=(-1,13,s):=by
      rw [rstep hr (hrep.trans he)]
      show aU b n (-1) 13 s=_
      cases n with
      | zero=>rfl
      | succ n=>show (if (13:Int)=0∧_ then _ else _)=_;rw [if_neg (by simp)]
     rw [hrr]
     refine ⟨⟨k,⟨0,pre _ _ ?_⟩,fun h=>by cases h⟩,hC⟩
     have j10:∀ (x:Bool) (ag:SE9→Prop),x=true→aZ k b (s.p:Int) s.L (s.g:Int) s.cl (bh b (s.p+1)) 0 ag x (k,fr9 b (-1,13,s)):=fun x ag hx=>ab (fun _=>rfl) fun h=>absurd hx h
     rcases hno with hno | ⟨z,hz,hz1,hno⟩
     ·exact ab (fun _=>j10 true _ rfl) fun h=>absurd (by rw [hno];decide) h
     ·refine ab (fun _=>j10 true _ rfl) fun _=>ab (fun _=>j10 true _ rfl) fun h5=>?_
      obtain ⟨x,hx⟩:∃ x,b[z]? =some x:=⟨_,List.getElem?_eq_getElem (by omega)⟩
      refine ⟨by omega,x,by rw [hz,Int.toNat_natCast];exact hx,j10 _ _ ?_⟩
      rw [hx] at hno
      rw [decide_eq_false (fun e=>hno (by rw [cj (a:=x) (b:=125) e]))];rfl
end Go.Proofs.YtnbceeholnkfeaaGreatDoor
namespace Go.Proofs.YtnbceeholnkfeaaGreatDoor
abbrev J4 (k:Int) (st:RS8) (r:Int×RS8):Prop:=bN k st.1 st.2.1 st.2.2.1 st.2.2.2.1.1 st.2.2.2.1.2 st.2.2.2.2 r
theorem nW (b:List UInt8) (nd:ND) (s s1:Pz) (a:Int) (ha:a=(s1.p:Int)) (e1:s1.L=s.L) (e2:s1.g=s.g) (e3:s1.cl=s.cl) (hl:s.L.length<1000) (hn:aP nd s.L.length s.g=true):
  ap (rst b s a 0) nd ((okE (ah nd s1)).1,fr9 b (okE (ah nd s1)))∧(okE (ah nd s1)).2.2.cl=s.cl∧(okE (ah nd s1)).2.2.g=s.g:=by
 obtain ⟨h1,h2,h3⟩:=q8 (b:=b) (nd:=nd) (s:=s1) a ha (by rw [e1];exact hl) (by rw [e1,e2];exact hn)
 refine ⟨?_,?_,?_⟩
 ·rw [show rst b s a 0=rst b s1 a 0 by unfold rst;rw [e1,e2,e3]];exact h1
 ·rw [h3];exact e3
 ·rw [h3];exact e2
theorem Av (b:List UInt8) (hb:b.length≤40000000) (s:Pz) (hp:s.p<b.length) (hL:s.L.length<1000) (hC:ClI s):∃ k,a8 (rst b s (s.p:Int) 0) (k,fr9 b (jf b s))∧((jf b s).2.1=0→k=(jf b s).1)∧(jf b s).2.2.cl=s.cl∧(jf b s).2.2.g=s.g:=by
 have nx:=dG b s s.p 0 1 (by omega) (by omega)
 have hin:InR ((s.p:Int)+2):=⟨by omega,by omega⟩
 unfold jf
 cases h1:b[s.p+1]? with
 | none=>
  have ha:atB b (s.p+1)= -1:=by unfold atB;rw [h1]
  rw [ha] at nx
  exact ⟨0,⟨-1,nx,ab (fun h=>by cases h) fun _=>ab (fun _=>ab (fun _=>rfl) fun h=>absurd rfl h) fun h=>absurd (by decide) h⟩,(fun h=>by cases h),rfl,rfl⟩
 | some c=>
  have ha:atB b (s.p+1)=(c.toNat:Int):=bL h1
  rw [ha] at nx
  dsimp only
  have hcl:c.toNat<256:=c.toNat_lt
  by_cases hd:49≤c.toNat∧c.toNat≤57
  ·rw [if_pos hd]
   have hlen:s.cl.l.length=10:=s.cl.len
   obtain ⟨y,hy⟩:∃ y,s.cl.l[c.toNat - 48]? =some y:=⟨_,List.getElem?_eq_getElem (by omega)⟩
   have e48:((c.toNat:Int) - 48).toNat=c.toNat - 48:=by omega
   have hj:∀ kk st,(y=true→∃ y45:Int×RS8,ap (rst b s ((s.p:Int)+2) 0) (6,0,0,0,0,(c.toNat:Int) - 48,aj) y45∧(kk,st)=(y45.1,y45.2))→(y≠true→(kk,st)=((0:Int),rst b s (s.p:Int) 16))→a8 (rst b s (s.p:Int) 0) (kk,st):=fun kk st f g=>by
    refine ⟨_,nx,?_⟩
    rw [decide_eq_true (show (49:Int)≤(c.toNat:Int) by omega),decide_eq_true (show (c.toNat:Int)≤57 by omega)]
    refine ab (fun _=>au (by omega) ⟨⟨by omega,by omega⟩,y,by rw [e48];exact hy,ab (fun h=>?_) fun h=>au hin (au (by omega) ?_)⟩) fun h=>absurd rfl h
    ·exact g h
    ·exact f (by simpa using h)
   cases y with
   | true=>
    rw [if_pos hy]
    have:=hC _ hy
    obtain ⟨p1,p2,p3⟩:=nW b (6,0,0,0,0,(c.toNat:Int) - 48,aj) s (adv s 2) ((s.p:Int)+2) (by show _=((s.p+2:Nat):Int);omega) rfl rfl rfl hL (yz ⟨by omega,by omega⟩)
    exact ⟨_,hj _ _ (fun _=>⟨_,p1,rfl⟩) fun h=>absurd rfl h,fun _=>rfl,p2,p3⟩
   | false=>
    rw [if_neg (by rw [hy];simp)]
    exact ⟨0,hj 0 _ (fun h=>by cases h) fun _=>rfl,(fun h=>by cases h),rfl,rfl⟩
  ·rw [if_neg hd]
   have hdd:(decide (49≤(c.toNat:Int)) && decide ((c.toNat:Int)≤57))=false:=by
    rw [Bool.eq_false_iff]
    intro e
    simp only [Bool.and_eq_true,decide_eq_true_eq] at e
    omega
   have hj:∀ r,cp (rst b s (s.p:Int) 0) (c.toNat:Int) (lI c.toNat && !(decide ((c.toNat:Int)=110))) r→a8 (rst b s (s.p:Int) 0) r:=fun r h=>by
    refine ⟨_,nx,?_⟩
    rw [hdd]
    exact ab (fun h=>by cases h) fun _=>ab (fun h=>by omega) fun _=>⟨_,vo c,h⟩
   by_cases h2:lI c.toNat=true∧c.toNat≠110
   ·rw [if_pos h2]
    refine ⟨0,hj _ ?_,(fun h=>by cases h),rfl,rfl⟩
    rw [h2.1,decide_eq_false (show ¬ (c.toNat:Int)=110 by omega)]
    exact ab (fun _=>rfl) fun h=>absurd rfl h
   ·rw [if_neg h2]
    have hf:(lI c.toNat && !(decide ((c.toNat:Int)=110)))=false:=by
     rw [Bool.eq_false_iff]
     intro e
     simp only [Bool.and_eq_true,Bool.not_eq_true',decide_eq_false_iff_not] at e
     exact h2 ⟨e.1,by omega⟩
    obtain ⟨p1,p2,p3⟩:=nW b (cn (ofS [if c.toNat=110 then 10 else c])) s (adv s 2) ((s.p:Int)+2) (by show _=((s.p+2:Nat):Int);omega) rfl rfl rfl hL (oI _ _ _)
    refine ⟨_,hj _ ?_,fun _=>rfl,p2,p3⟩
    rw [hf]
    refine ab (fun h=>by cases h) fun _=>ab (fun h=>?_) fun h=>?_
    ·rw [if_pos (show c.toNat=110 by omega)] at p1 ⊢
     exact au hin (iu (by decide) fun d hd=>by
      obtain rfl:d=10:=cj hd
      exact ⟨_,nk 10,_,p1,rfl⟩)
    ·rw [if_neg (show ¬ c.toNat=110 by omega)] at p1 ⊢
     exact au hin (iu (by omega) fun d hd=>by
      obtain rfl:=cj hd
      exact ⟨_,nk d,_,p1,rfl⟩)
theorem tG (b:List UInt8) (hb:b.length≤40000000) (s:Pz) (c:UInt8) (hc:b[s.p]? =some c) (h40:c≠40) (hL:s.L.length<1000) (hC:ClI s) (c7:PG):
  (∃ k,(∀ r,J4 k (fr9 b (cN b s c)) r→cf (rst b s (s.p:Int) 0) (c.toNat:Int) c7 false r)∧((cN b s c).2.1=0→k=(cN b s c).1))∧(cN b s c).2.2.cl=s.cl∧(cN b s c).2.2.g=s.g:=by
 have hl:=(List.getElem?_eq_some_iff.1 hc).1
 have hin:InR ((s.p:Int)+1):=⟨by omega,by omega⟩
 have hcl:c.toNat<256:=c.toNat_lt
 have ne:∀ d:UInt8,c≠d→¬ ((c.toNat:Int)=(d.toNat:Int)):=fun d h e=>h (cj e)
 have n40:=ne 40 h40
 unfold cN
 by_cases h1:c=92
 ·rw [if_pos h1]
  obtain ⟨k,e1,e2,e3,e4⟩:=Av b hb s hl hL hC
  refine ⟨⟨k,fun r hr=>?_,e2⟩,e3,e4⟩
  subst h1
  exact ab (fun h=>by cases h) fun _=>ab (fun h=>absurd h n40) fun _=>ab (fun _=>⟨_,e1,hr⟩) fun h=>absurd rfl h
 rw [if_neg h1]
 have n92:=ne 92 h1
 by_cases h2:c=46
 ·rw [if_pos h2]
  obtain ⟨p1,p2,p3⟩:=nW b (cn (fI z4)) s (adv s 1) ((s.p:Int)+1) (by show _=((s.p+1:Nat):Int);omega) rfl rfl rfl hL (oI _ _ _)
  refine ⟨⟨_,fun r hr=>?_,fun _=>rfl⟩,p2,p3⟩
  subst h2
  refine ab (fun h=>by cases h) fun _=>ab (fun h=>absurd h n40) fun _=>ab (fun h=>absurd h n92) fun _=>ab (fun h=>absurd h (by decide)) fun _=>iu (by decide) fun d hd=>⟨_,nk d,ab (fun _=>⟨_,zn,au hin ⟨_,p1,hr⟩⟩) fun h=>absurd rfl h⟩
 rw [if_neg h2]
 have n46:=ne 46 h2
 by_cases h3:c=91
 ·rw [if_pos h3]
  have pre:∀ k st r,cr (rst b s (s.p:Int) 0) (k,st)→J4 k st r→cf (rst b s (s.p:Int) 0) (c.toNat:Int) c7 false r:=fun k st r g1 g2=>by
   subst h3
   exact ab (fun h=>by cases h) fun _=>ab (fun h=>absurd h n40) fun _=>ab (fun h=>absurd h n92) fun _=>ab (fun _=>⟨_,g1,g2⟩) fun h=>absurd rfl h
  have hpr:=tS b (s.p+1) hb hl
  by_cases he:(bn b (s.p+1)).2.2=0
  ·rw [if_pos he]
   obtain ⟨z,hz,hz1,hz2⟩:=fJ he hl
   obtain ⟨p1,p2,p3⟩:=nW b (cn (bn b (s.p+1)).1) s { s with p:=(bn b (s.p+1)).2.1.toNat } (bn b (s.p+1)).2.1 (by show _=(((bn b (s.p+1)).2.1.toNat:Nat):Int);omega) rfl rfl rfl hL (oI _ _ _)
   exact ⟨⟨_,fun r hr=>pre _ _ r (au hin ⟨_,hpr,ab (fun h=>absurd he h) fun _=>⟨_,p1,rfl⟩⟩) hr,fun _=>rfl⟩,p2,p3⟩
  ·rw [if_neg he]
   exact ⟨⟨0,fun r hr=>pre 0 _ r (au hin ⟨_,hpr,ab (fun _=>rfl) fun h=>absurd he h⟩) hr,fun h=>absurd h he⟩,rfl,rfl⟩
 ·rw [if_neg h3]
  have n91:=ne 91 h3
  obtain ⟨p1,p2,p3⟩:=nW b (cn (ofS [c])) s (adv s 1) ((s.p:Int)+1) (by show _=((s.p+1:Nat):Int);omega) rfl rfl rfl hL (oI _ _ _)
  refine ⟨⟨_,fun r hr=>?_,fun _=>rfl⟩,p2,p3⟩
  refine ab (fun h=>by cases h) fun _=>ab (fun h=>absurd h n40) fun _=>ab (fun h=>absurd h n92) fun _=>ab (fun h=>absurd h n91) fun _=>iu (by omega) fun d hd=>?_
  obtain rfl:=cj hd
  exact ⟨_,nk d,ab (fun h=>absurd h n46) fun _=>au hin ⟨_,p1,hr⟩⟩
theorem yB {b:List UInt8} {s:Pz} {c:UInt8} (h:(cN b s c).2.1=0):s.L.length<1000:=by
 unfold cN at h
 split at h
 ·unfold jf at h
  split at h
  ·cases h
  ·split at h
   ·split at h
    ·exact kx (s:=adv s 2) h
    ·cases h
   ·split at h
    ·cases h
    ·exact kx (s:=adv s 2) h
 ·split at h
  ·exact kx (s:=adv s 1) h
  ·split at h
   ·split at h
    ·exact kx (nd:=cn (bn b (s.p+1)).1) (s:={ s with p:=(bn b (s.p+1)).2.1.toNat }) h
    ·rename_i h0
     generalize (bn b (s.p+1)).2.2=e at h h0
     exact absurd h h0
   ·exact kx (s:=adv s 1) h
end Go.Proofs.YtnbceeholnkfeaaGreatDoor
namespace Go.Proofs.YtnbceeholnkfeaaGreatDoor
abbrev SA:=List Int×List UInt8×Int×Int×List ND×Int×Arr 10 Bool
abbrev FA (c5:PB) (x:Bool) (r:Int×RS8):=fun (ag:SA→Prop) (s:SA)=>fm x c5 ag s.1 s.2.1 s.2.2.1 s.2.2.2.1 s.2.2.2.2.1 s.2.2.2.2.2.1 s.2.2.2.2.2.2 r
abbrev F2 (c5:PB) (x:Bool) (l0:List Int) (ag1:SA→Prop) (r:Int×RS8):=fun (ag2:SA→Prop) (s:SA)=>iD x c5 l0 ag1 ag2 s.1 s.2.1 s.2.2.1 s.2.2.2.1 s.2.2.2.2.1 s.2.2.2.2.2.1 s.2.2.2.2.2.2 r
abbrev SL:=Int×Int×List UInt8×Int×Int×List ND×Int×Arr 10 Bool
abbrev FL (l0:List Int) (y:Int×RS8) (r:Int×RS8):=fun (ag:SL→Prop) (s:SL)=>iC l0 y ag s.1 s.2.1 s.2.2.1 s.2.2.2.1 s.2.2.2.2.1 s.2.2.2.2.2.1 s.2.2.2.2.2.2.1 s.2.2.2.2.2.2.2 r
def rX (x:Bool) (l0:List Int) (y:Int×RS8) (ag1:SA→Prop) (r:Int×RS8):Prop:=ef (l0.length+([y.1]).length) 8∧∃ z:Int,ak y.2 0 z∧((¬ (z=124)→((x=true→((y.2.2.2.1=0→∃ w:Int,ak y.2 0 w∧bt l0 y (decide (w<0)) r)∧(¬ (y.2.2.2.1=0)→bt l0 y false r)))∧(¬ (x=true)→bt l0 y false r)))∧(¬ (¬ (z=124))→InR (y.2.2.1+1)∧ag1 ((l0++[y.1]),y.2.1,(y.2.2.1+1),y.2.2.2.1,y.2.2.2.2.1.1,y.2.2.2.2.1.2,y.2.2.2.2.2)))
theorem Aw (b:List UInt8) (l0:List Int) (y:Int×RS8) (hl:(l0++[y.1]).length≤500000000) (s:Pz) (a e:Int) (he:e≠0):∀ (rest:List Int) (i:Nat) (k0:Int),(l0++[y.1]).drop i=rest→i≤(l0++[y.1]).length→∃ k n,FL l0 y (k,rst b s a e) (LT (FL l0 y (k,rst b s a e)) n) (k0,(i:Int),b,a,e,s.L,(s.g:Int),s.cl):=by
 intro rest
 induction rest with
 | nil=>
  intro i k0 h hi
  have:=congrArg List.length h
  rw [List.length_drop,List.length_nil] at this
  refine ⟨k0,0,ab (fun h=>?_) fun _=>rfl⟩
  have h:(i:Int)<((l0++[y.1]).length:Int):=h
  omega
 | cons z rest ih=>
  intro i k0 h hi
  have h2:=congrArg List.length h
  rw [List.length_drop,List.length_cons] at h2
  have hy:(l0++[y.1])[i]? =some z:=by have:=congrArg (fun q=>q[0]?) h;simpa using this
  obtain ⟨k,n,hk⟩:=ih (i+1) 0 (by rw [nO hy] at h;exact (List.cons.inj h).2) (by omega)
  refine ⟨k,n+1,ab (fun _=>⟨by show (0:Int)≤(i:Int);omega,z,by show (l0++[y.1])[((i:Int)).toNat]? =_;rw [Int.toNat_natCast];exact hy,_,wN b _ s a e he,au (by show -9223372036854775808≤(i:Int)+1∧(i:Int)+1≤_;omega) (.inr ?_)⟩) fun h=>?_⟩
  ·exact hk
  ·have h:¬ (i:Int)<((l0++[y.1]).length:Int):=h
   omega
theorem yC {kind:Int} {t:List Int} {s:Pz}:¬ 0≤(bf kind t (-1) s).1:=by rw [sP];decide
theorem Ax (b:List UInt8) (l0:List Int) (y:Int×RS8) (hl:(l0++[y.1]).length≤500000000) (a:Int):∀ (rest:List Int) (i:Nat) (x:Int) (s:Pz),(l0++[y.1]).drop i=rest→i≤(l0++[y.1]).length→0≤x→0≤(bf 3 rest x s).1→
  ∃ n,FL l0 y ((bf 3 rest x s).1,rst b (bf 3 rest x s).2 a 0) (LT (FL l0 y ((bf 3 rest x s).1,rst b (bf 3 rest x s).2 a 0)) n) (x,(i:Int),b,a,0,s.L,(s.g:Int),s.cl):=by
 intro rest
 induction rest with
 | nil=>
  intro i x s h hi hx _
  have:=congrArg List.length h
  rw [List.length_drop,List.length_nil] at this
  refine ⟨0,ab (fun h=>?_) fun _=>rfl⟩
  have h:(i:Int)<((l0++[y.1]).length:Int):=h
  omega
 | cons z rest ih=>
  intro i x s h hi hx hs
  have h2:=congrArg List.length h
  rw [List.length_drop,List.length_cons] at h2
  have hy:(l0++[y.1])[i]? =some z:=by have:=congrArg (fun q=>q[0]?) h;simpa using this
  have hd:(l0++[y.1]).drop (i+1)=rest:=by rw [nO hy] at h;exact (List.cons.inj h).2
  rw [cG,if_neg (by omega)] at hs ⊢
  by_cases hpos:0≤(ah (3,x,z,0,0,0,aj) s).1
  ·obtain ⟨n,hn⟩:=ih (i+1) _ (ah (3,x,z,0,0,0,aj) s).2 hd (by omega) hpos hs
   refine ⟨n+1,ab (fun _=>⟨by show (0:Int)≤(i:Int);omega,z,by show (l0++[y.1])[((i:Int)).toNat]? =_;rw [Int.toNat_natCast];exact hy,_,sW a hpos,au (by show -9223372036854775808≤(i:Int)+1∧(i:Int)+1≤_;omega) (.inr hn)⟩) fun h=>?_⟩
   have h:¬ (i:Int)<((l0++[y.1]).length:Int):=h
   omega
  ·rw [nP hpos] at hs
   exact absurd hs yC
def kN (b:List UInt8) (s:Pz) (l:List Int) (q:R9):Prop:=(s.L.length+2 * (b.length - s.p)+l.length≤1000∨q.2.1=0)∧ClI s∧∃ L g,Gr L g s.L s.g l
theorem jt {b:List UInt8} {s:Pz} {l:List Int} {q:R9} (h:kN b s l q):s.L.length≤1000:=by
 obtain ⟨_,_,L,g,h⟩:=h
 obtain ⟨_,_,_,_,_,_,h5⟩:=h
 exact h5
def xd (b:List UInt8) (x:Bool) (p:Nat):Prop:=b.length≤p∨b[p]? =some 124∨(x=true∧b[p]? =some 41)
theorem yD (b:List UInt8):∀ (n:Nat) (x:Bool) (l:List Int) (e:Int) (s:Pz) (q:R9),go9 b n (.brl x l e s)=some q→q.2.1=0→xd b x q.2.2.p:=by
 intro n
 induction n with
 | zero=>intro x l e s q h;cases h
 | succ n ih=>
  intro x l e s q h hw
  have he:=lJ (.inr h) hw
  subst he
  unfold go9 at h
  split at h
  ·obtain ⟨q1,h1,h2⟩:=bind_some h
   exact ih _ _ _ _ q h2 hw
  ·rename_i h0
   injection h with h
   subst h
   unfold brE at hw ⊢
   rw [if_neg (fun h=>h rfl)] at hw ⊢
   split at hw
   ·cases hw
   ·rename_i h3
    rw [if_neg h3,uh,(mo l s).1]
    by_cases h4:s.p<b.length
    ·by_cases h5:b[s.p]? =some 124
     ·exact .inr (.inl h5)
     ·exact .inr (.inr (Decidable.not_not.1 fun h6=>h0 (d9.2 ⟨rfl,h4,h5,h6⟩)))
    ·exact .inl (by omega)
def EO (b:List UInt8) (n:Nat):J9→R9→Prop
 | .alts x s,q=>kN b s [] q→(∃ k,(TT n).1 (rst b s (s.p:Int) 0) x (k,fr9 b q)∧(q.2.1=0→k=q.1))∧ClI q.2.2
 | .altl x l e s,q=>e=0→kN b s l q→xd b x s.p→∀ l0 k1,l=l0++[k1]→l.length≤s.p+1→(∃ kk,(q.2.1=0→kk=q.1)∧∀ N,n≤N→∃ m,rX x l0 (k1,rst b s (s.p:Int) 0) (LT (FA (TT N).2.1 x (kk,fr9 b q)) m) (kk,fr9 b q))∧ClI q.2.2
 | .branch x s,q=>kN b s [] q→(∀ N,n≤N→∀ l0 ag1 r,(q.2.1≠0→r=(0,fr9 b q))→(q.2.1=0→rX x l0 (q.1,fr9 b q) ag1 r)→fm x (TT N).2.1 ag1 l0 b (s.p:Int) 0 s.L (s.g:Int) s.cl r)∧ClI q.2.2
 | .brl x l e s,q=>e=0→kN b s l q→l.length≤s.p→(∀ N,n≤N→∀ l0 ag1 r,(q.2.1≠0→r=(0,fr9 b q))→(q.2.1=0→rX x l0 (q.1,fr9 b q) ag1 r)→∃ m,F2 (TT N).2.1 x l0 ag1 r (LT (F2 (TT N).2.1 x l0 ag1 r) m) (l,b,(s.p:Int),0,s.L,(s.g:Int),s.cl))∧ClI q.2.2
 | .piece s,q=>kN b s [] q→(∃ k,(∀ f,(TT n).2.1 (rst b s (s.p:Int) 0) f (k,fr9 b q))∧(q.2.1=0→k=q.1))∧ClI q.2.2
 | .atom s,q=>kN b s [] q→∀ c,b[s.p]? =some c→¬ repC c→c≠41→(∀ N,n≤N→∃ k,(∀ r,J4 k (fr9 b q) r→cf (rst b s (s.p:Int) 0) (c.toNat:Int) (TT N).2.2.1 false r)∧(q.2.1=0→k=q.1))∧ClI q.2.2
 | .group s,q=>kN b s [] q→(∃ k,(TT n).2.2.1 (rst b s (s.p:Int) 0) 1 false (k,fr9 b q)∧(q.2.1=0→k=q.1))∧ClI q.2.2
theorem qj {b:List UInt8} {n:Nat} {x:Bool} {l:List Int} {e:Int} {s:Pz} {q:R9} (he:e≠0) (h:go9 b n (.altl x l e s)=some q):q=(-1,e,s):=by
 cases n with
 | zero=>cases h
 | succ n=>rw [(nS b n x l e s he).1] at h;injection h with h;exact h.symm
theorem yE {b:List UInt8} {n:Nat} {x:Bool} {l:List Int} {e:Int} {s:Pz} {q:R9} (he:e≠0) (h:go9 b n (.brl x l e s)=some q):q=(-1,e,s):=by
 cases n with
 | zero=>cases h
 | succ n=>rw [(nS b n x l e s he).2] at h;injection h with h;exact h.symm
theorem q9 {b:List UInt8} {s:Pz} {l:List Int} {q q1:R9} (h:kN b s l q) (hs:q.2.1=0→q1.2.1=0):kN b s [] q1:=⟨h.1.imp (fun h=>by simp only [List.length_nil];omega) hs,h.2.1,s.L,s.g,dx _ _ (jt h)⟩
theorem CC (c:UInt8):(decide ((c.toNat:Int)=42) || (decide ((c.toNat:Int)=43) || (decide ((c.toNat:Int)=63) || decide ((c.toNat:Int)=123))))=decide (repC c):=by
 have e:∀ d:UInt8,decide ((c.toNat:Int)=(d.toNat:Int))=decide (c=d):=fun d=>by
  by_cases h:c=d
  ·rw [decide_eq_true h,decide_eq_true (by rw [h])]
  ·rw [decide_eq_false h,decide_eq_false (fun e=>h (cj e))]
 have e1:=e 42
 have e2:=e 43
 have e3:=e 63
 have e4:=e 123
 rw [show (((42:UInt8).toNat:Nat):Int)=42 from rfl] at e1
 rw [show (((43:UInt8).toNat:Nat):Int)=43 from rfl] at e2
 rw [show (((63:UInt8).toNat:Nat):Int)=63 from rfl] at e3
 rw [show (((123:UInt8).toNat:Nat):Int)=123 from rfl] at e4
 rw [e1,e2,e3,e4,← Bool.decide_or,← Bool.decide_or,← Bool.decide_or]
 rfl
theorem CD (b:List UInt8) (hb:b.length≤40000000):∀ (n:Nat) (j:J9) (q:R9),go9 b n j=some q→dW b j→EO b n j q:=by
 intro n
 induction n with
 | zero=>intro j q h;cases h
 | succ n ih=>
  intro j q h hj
  cases j with
  | alts x s=>
   intro hG
   obtain ⟨q1,h1,h2⟩:=bind_some h
   have hjb:dW b (.branch x s):=hj
   have hat:=ej b n _ q1 h1 hjb
   have hs:q.2.1=0→q1.2.1=0:=fun h0=>Decidable.not_not.1 fun he=>by rw [qj he h2] at h0;exact he h0
   obtain ⟨r1,r2⟩:=ih _ _ h1 hjb (q9 hG hs)
   by_cases he:q1.2.1=0
   ·obtain ⟨⟨a1,a2,a3⟩,a4⟩:At9 b s.p q1.2.2∧q1.2.2.L.length+1+2 * s.p≤s.L.length+2 * q1.2.2.p:=hat he
    have hgr:=nT b n _ q1 h1 he s.L s.g (dx _ _ (jt hG))
    have hend:xd b x q1.2.2.p:=by
     cases n with
     | zero=>cases h1
     | succ n=>exact yD b n x [] 0 s q1 h1 he
    obtain ⟨⟨kk,c1,c2⟩,c3⟩:=ih (.altl x [q1.1] q1.2.1 q1.2.2) q h2 ⟨by simp,fun _=>⟨a2,a3⟩⟩ he ⟨hG.1.imp (fun this=>by simp only [List.length_nil,List.length_cons] at *;omega) id,r2,s.L,s.g,hgr.2⟩ hend [] q1.1 rfl (by simp)
    obtain ⟨m,hm⟩:=c2 n (Nat.le_refl _)
    refine ⟨⟨kk,.inr (ee m ?_),c1⟩,c3⟩
    refine r1 n (Nat.le_refl _) [] _ _ (fun h=>absurd he h) fun _=>?_
    have:fr9 b q1=rst b q1.2.2 (q1.2.2.p:Int) 0:=by unfold fr9;rw [he]
    rw [this];exact hm
   ·obtain rfl:=qj he h2
    refine ⟨⟨0,.inr (ee 0 ?_),fun h=>absurd h he⟩,r2⟩
    exact r1 n (Nat.le_refl _) [] _ _ (fun _=>rfl) fun h=>absurd h he
  | altl x l e s=>
   intro e0 hG hend l0 k1 hl hlen
   subst e0
   obtain ⟨hj1,hj2⟩:=hj
   obtain ⟨j1,j2⟩:=hj2 rfl
   have nx:ak (rst b s (s.p:Int) 0) 0 (atB b s.p):=dG b s s.p 0 0 (by omega) (by omega)
   have hin:InR ((s.p:Int)+1):=⟨by omega,by omega⟩
   have hll:l.length=l0.length+1:=by rw [hl];simp
   unfold go9 at h
   split at h
   ·rename_i h0
    have h124:=h0.2
    have ha:atB b s.p=124:=bL h124
    have hp:=(List.getElem?_eq_some_iff.1 h124).1
    obtain ⟨q1,h1,h2⟩:=bind_some h
    have hjb:dW b (.branch x (adv s 1)):=⟨hp,j2⟩
    have hat:=ej b n _ q1 h1 hjb
    have hs:q.2.1=0→q1.2.1=0:=fun h0=>Decidable.not_not.1 fun he=>by rw [qj he h2] at h0;exact he h0
    have hG1:kN b (adv s 1) [] q1:=⟨hG.1.imp (fun this=>by show s.L.length+2 * (b.length - (s.p+1))+0≤1000;omega) hs,hG.2.1,s.L,s.g,dx _ _ (jt hG)⟩
    obtain ⟨r1,r2⟩:=ih _ _ h1 hjb hG1
    have pre:∀ (r:Int×RS8) (ag:SA→Prop),ag (l,b,(s.p:Int)+1,0,s.L,(s.g:Int),s.cl)→rX x l0 (k1,rst b s (s.p:Int) 0) ag r:=fun r ag hag=>by
     refine dD (by show l0.length+1≤_;omega) (by omega) ⟨_,nx,ab (fun h=>absurd ha h) fun _=>au hin ?_⟩
     rw [hl] at hag;exact hag
    by_cases he:q1.2.1=0
    ·obtain ⟨⟨a1,a2,a3⟩,a4⟩:At9 b (s.p+1) q1.2.2∧q1.2.2.L.length+1+2 * (s.p+1)≤s.L.length+2 * q1.2.2.p:=hat he
     have hGl:=jt hG
     obtain ⟨g1,g2,L0,g0,g3⟩:=hG
     have hgr:=nT b n _ q1 h1 he s.L s.g (dx _ _ hGl)
     have hend1:xd b x q1.2.2.p:=by
      cases n with
      | zero=>cases h1
      | succ n=>exact yD b n x [] 0 (adv s 1) q1 h1 he
     obtain ⟨⟨kk,c1,c2⟩,c3⟩:=ih (.altl x (l++[q1.1]) q1.2.1 q1.2.2) q h2 ⟨by simp,fun _=>⟨a2,a3⟩⟩ he ⟨g1.imp (fun g1=>by simp only [List.length_append,List.length_cons,List.length_nil];omega) id,r2,L0,g0,jr g3 hgr.2⟩ hend1 l q1.1 rfl (by simp only [List.length_append,List.length_cons,List.length_nil];omega)
     refine ⟨⟨kk,c1,fun N hN=>?_⟩,c3⟩
     obtain ⟨m,hm⟩:=c2 N (by omega)
     refine ⟨m+1,pre _ _ (.inr ?_)⟩
     have:=r1 N (by omega) l (LT (FA (TT N).2.1 x (kk,fr9 b q)) m) (kk,fr9 b q) (fun h=>absurd he h) fun _=>by
      have:fr9 b q1=rst b q1.2.2 (q1.2.2.p:Int) 0:=by unfold fr9;rw [he]
      rw [this];exact hm
     rw [show (s.p:Int)+1=(((adv s 1).p:Nat):Int) by show _=((s.p+1:Nat):Int);omega]
     exact this
    ·obtain rfl:=qj he h2
     refine ⟨⟨0,fun h=>absurd h he,fun N hN=>⟨1,pre _ _ (.inr ?_)⟩⟩,r2⟩
     have:=r1 N (by omega) l (LT (FA (TT N).2.1 x (0,fr9 b (-1,q1.2.1,q1.2.2))) 0) (0,fr9 b (-1,q1.2.1,q1.2.2)) (fun _=>rfl) fun h=>absurd h he
     rw [show (s.p:Int)+1=(((adv s 1).p:Nat):Int) by show _=((s.p+1:Nat):Int);omega]
     exact this
   ·rename_i h0
    have n124:b[s.p]?≠some 124:=fun e=>h0 ⟨rfl,e⟩
    have ha:atB b s.p≠124:=fun e=>n124 ((qh 124).1 e)
    injection h with h
    subst h
    have pre:∀ (r:Int×RS8) (ag:SA→Prop),((x=true∧b[s.p]?≠some 41→cH l0 (k1,rst b s (s.p:Int) 0) 14 r)∧(¬ (x=true∧b[s.p]?≠some 41)→cH l0 (k1,rst b s (s.p:Int) 0) 0 r))→rX x l0 (k1,rst b s (s.p:Int) 0) ag r:=fun r ag hr=>by
     have j7:∀ z:Bool,(z=true↔(x=true∧b[s.p]?≠some 41))→bt l0 (k1,rst b s (s.p:Int) 0) z r:=fun z hz=>ab (fun h=>hr.1 (hz.1 h)) fun h=>hr.2 fun e=>h (hz.2 e)
     refine dD (by show l0.length+1≤_;omega) (by omega) ⟨_,nx,ab (fun _=>ab (fun hx=>ab (fun _=>⟨_,nx,j7 _ ?_⟩) fun h=>absurd rfl h) fun hx=>j7 false ?_) fun h=>absurd (Decidable.not_not.1 h) ha⟩
     ·rw [decide_eq_true_eq]
      constructor
      ·intro h
       refine ⟨hx,fun e=>?_⟩
       rw [bL e] at h
       exact absurd h (by decide)
      ·rintro ⟨_,h⟩
       rcases hend with h2 | h2 | ⟨_,h2⟩
       ·rw [uG h2];decide
       ·exact absurd h2 n124
       ·exact absurd h2 h
     ·exact ⟨fun e=>(by cases e),fun e=>absurd e.1 hx⟩
    have hlb:(l0++[k1]).length≤500000000:=by simp;omega
    have hhd:∃ h0,(l0++[k1])[0]? =some h0:=⟨_,List.getElem?_eq_getElem (by simp)⟩
    obtain ⟨hd,hhd⟩:=hhd
    unfold jT
    rw [if_neg (fun h=>h rfl)]
    by_cases h4:x=true∧b[s.p]?≠some 41
    ·rw [if_pos h4]
     obtain ⟨kk,m,hm⟩:=Aw b l0 (k1,rst b s (s.p:Int) 0) hlb s (s.p:Int) 14 (by decide) ((l0++[k1]).drop 1) 1 hd rfl (by simp)
     exact ⟨⟨kk,(fun h=>by cases h),fun N hN=>⟨0,pre _ _ (ab (fun _=>⟨by decide,hd,hhd,ee m hm⟩) fun h=>absurd h4 h)⟩⟩,hG.2.1⟩
    ·rw [if_neg h4]
     obtain ⟨g1,g2,L0,g0,g3⟩:=hG
     have hs:0≤(dh l s).1:=by
      rcases g1 with g1 | g1
      ·exact As (l:=l) (s:=s) hj1 (fun y hy=>oL g3 hy) (by omega)
      ·unfold jT at g1
       rw [if_neg (fun h=>h rfl),if_neg h4] at g1
       exact qi g1
     obtain ⟨st1,st2,st3⟩:=uE l s
     have hok:=sX hs
     rw [hok]
     have hx0:0≤hd∧hd<(s.L.length:Int):=oL g3 (by rw [hl];exact List.mem_of_getElem? hhd)
     have e:dh l s=bf 3 ((l0++[k1]).drop 1) hd s:=by
      cases l with
      | nil=>exact absurd rfl hj1
      | cons z t=>
       rw [← hl] at hhd ⊢
       obtain rfl:z=hd:=by simpa using hhd
       rw [kh,if_neg (by omega)];rfl
     rw [e] at hs
     obtain ⟨m,hm⟩:=Ax b l0 (k1,rst b s (s.p:Int) 0) hlb (s.p:Int) ((l0++[k1]).drop 1) 1 hd s rfl (by simp) hx0.1 hs
     rw [← e] at hm
     have e2:fr9 b ((dh l s).1,0,(dh l s).2)=rst b (dh l s).2 (s.p:Int) 0:=by unfold fr9;rw [st1]
     rw [e2]
     refine ⟨⟨(dh l s).1,fun _=>rfl,fun N hN=>⟨0,pre _ _ (ab (fun h=>absurd h h4) fun _=>⟨by decide,hd,hhd,ee m hm⟩)⟩⟩,fun d hd=>?_⟩
     show d≤(dh l s).2.g
     rw [st2]
     exact g2 d (by rw [← st3];exact hd)
  | branch x s=>
   intro hG
   obtain ⟨r1,r2⟩:=ih (.brl x [] 0 s) q h (fun _=>hj) rfl hG (Nat.zero_le _)
   refine ⟨fun N hN l0 ag1 r c1 c2=>?_,r2⟩
   obtain ⟨m,hm⟩:=r1 N (by omega) l0 ag1 r c1 c2
   exact ee m hm
  | brl x l e s=>
   intro e0 hG hlen
   subst e0
   obtain ⟨j1,j2⟩:=hj rfl
   have nx:ak (rst b s (s.p:Int) 0) 0 (atB b s.p):=dG b s s.p 0 0 (by omega) (by omega)
   unfold go9 at h
   split at h
   ·rename_i h0
    obtain ⟨_,hp,n124,n41⟩:=d9.1 h0
    obtain ⟨q1,h1,h2⟩:=bind_some h
    have hjb:dW b (.piece s):=⟨hp,j2⟩
    have hat:=ej b n _ q1 h1 hjb
    have hs:q.2.1=0→q1.2.1=0:=fun h0=>Decidable.not_not.1 fun he=>by rw [yE he h2] at h0;exact he h0
    obtain ⟨⟨k,r1,r3⟩,r2⟩:=ih _ _ h1 hjb (q9 hG hs)
    obtain ⟨c,hc⟩:∃ c,b[s.p]? =some c:=⟨_,List.getElem?_eq_getElem hp⟩
    have pre:∀ (N:Nat) (l0:List Int) (ag1 ag2:SA→Prop) (r:Int×RS8),(∃ y:Int×RS8,(TT N).2.1 (rst b s (s.p:Int) 0) (decide ((l.length:Int)=0)) y∧ag2 ((l++[y.1]),y.2.1,y.2.2.1,y.2.2.2.1,y.2.2.2.2.1.1,y.2.2.2.2.1.2,y.2.2.2.2.2))→F2 (TT N).2.1 x l0 ag1 r ag2 (l,b,(s.p:Int),0,s.L,(s.g:Int),s.cl):=fun N l0 ag1 ag2 r ⟨y,hy1,hy2⟩=>by
     have j3:∀ z:Bool,z=true→bu (TT N).2.1 b (s.p:Int) 0 s.L (s.g:Int) s.cl l ag2 l0 x ag1 z r:=fun z hz=>ab (fun _=>⟨y,hy1,dD (by show l.length+1≤_;omega) (by omega) hy2⟩) fun h=>absurd hz h
     refine ab (fun _=>⟨_,nx,ab (fun _=>⟨_,nx,ab (fun _=>ab (fun hx=>⟨_,nx,j3 _ ?_⟩) fun _=>j3 true rfl) fun h=>absurd ((qh 124).1 (Decidable.not_not.1 h)) n124⟩) fun h=>absurd (by rw [bL hc];omega) h⟩) fun h=>absurd rfl h
     rw [decide_eq_false (show ¬ atB b s.p=41 from fun e=>n41 ⟨hx,(qh 41).1 e⟩)];rfl
    by_cases he:q1.2.1=0
    ·obtain ⟨⟨a1,a2,a3⟩,a4⟩:At9 b (s.p+1) q1.2.2∧q1.2.2.L.length+1+2 * s.p≤s.L.length+2 * q1.2.2.p:=hat he
     have hGl:=jt hG
     obtain ⟨g1,g2,L0,g0,g3⟩:=hG
     have hgr:=nT b n _ q1 h1 he s.L s.g (dx _ _ hGl)
     obtain ⟨c2,c3⟩:=ih (.brl x (l++[q1.1]) q1.2.1 q1.2.2) q h2 (fun _=>⟨a2,a3⟩) he ⟨g1.imp (fun g1=>by simp only [List.length_append,List.length_cons,List.length_nil];omega) id,r2,L0,g0,jr g3 hgr.2⟩ (by simp only [List.length_append,List.length_cons,List.length_nil];omega)
     refine ⟨fun N hN l0 ag1 r d1 d2=>?_,c3⟩
     obtain ⟨m,hm⟩:=c2 N (by omega) l0 ag1 r d1 d2
     refine ⟨m+1,pre N l0 ag1 _ r ⟨_,(sU (show n≤N by omega)).2.1 _ _ _ (r1 _),.inr ?_⟩⟩
     rw [r3 he]
     have:fr9 b q1=rst b q1.2.2 (q1.2.2.p:Int) 0:=by unfold fr9;rw [he]
     rw [this];exact hm
    ·obtain rfl:=yE he h2
     refine ⟨fun N hN l0 ag1 r d1 d2=>⟨1,pre N l0 ag1 _ r ⟨_,(sU (show n≤N by omega)).2.1 _ _ _ (r1 _),.inr ?_⟩⟩,r2⟩
     have he:q1.2.1≠0:=he
     refine ab (fun h=>absurd h he) fun _=>ab (fun h=>by cases h) fun _=>?_
     show dK _ _ _ _ _ _ _ _ _ _ (decide (q1.2.1=0) && _) _
     rw [decide_eq_false he]
     refine ab (fun h=>by cases h) fun _=>ab (fun _=>?_) fun h=>absurd he h
     exact d1 he
   ·rename_i h0
    injection h with h
    subst h
    unfold brE
    rw [if_neg (fun h=>h rfl)]
    have pre:∀ (N:Nat) (l0:List Int) (ag1 ag2:SA→Prop) (r:Int×RS8),dK b (s.p:Int) s.L (s.g:Int) s.cl l l0 x ag1 0 (decide ((0:Int)=0) && decide ((l.length:Int)=0)) r→F2 (TT N).2.1 x l0 ag1 r ag2 (l,b,(s.p:Int),0,s.L,(s.g:Int),s.cl):=fun N l0 ag1 ag2 r hr=>by
     have j3:∀ z:Bool,z=false→bu (TT N).2.1 b (s.p:Int) 0 s.L (s.g:Int) s.cl l ag2 l0 x ag1 z r:=fun z hz=>ab (fun h=>by rw [hz] at h;cases h) fun _=>hr
     refine ab (fun _=>⟨_,nx,ab (fun h1=>⟨_,nx,ab (fun h2=>ab (fun hx=>⟨_,nx,j3 _ ?_⟩) fun hx=>?_) fun _=>j3 false rfl⟩) fun _=>j3 false rfl⟩) fun h=>absurd rfl h
     ·have h3:x=true∧b[s.p]? =some 41:=Decidable.not_not.1 fun h3=>h0 (d9.2 ⟨rfl,kM h1,fun e=>h2 (bL e),h3⟩)
      rw [decide_eq_true (show atB b s.p=41 from bL h3.2)];rfl
     ·exact absurd (d9.2 ⟨rfl,kM h1,fun e=>h2 (bL e),fun e=>hx e.1⟩) h0
    by_cases h1:l=[]
    ·rw [if_pos h1]
     refine ⟨fun N hN l0 ag1 r d1 d2=>⟨0,pre N l0 ag1 _ r ?_⟩,hG.2.1⟩
     subst h1
     exact ab (fun _=>ab (fun _=>d1 (show (15:Int)≠0 by decide)) fun h=>absurd (by decide) h) fun h=>absurd rfl h
    ·rw [if_neg h1]
     obtain ⟨g1,g2,L0,g0,g3⟩:=hG
     have hs:0≤(bd l s).1:=by
      rcases g1 with g1 | g1
      ·exact Ar (l:=l) (s:=s) h1 (fun y hy=>oL g3 hy) (by omega)
      ·unfold brE at g1
       rw [if_neg (fun h=>h rfl),if_neg h1] at g1
       exact qi g1
     obtain ⟨st1,st2,st3⟩:=mo l s
     have hok:=sX hs
     rw [hok]
     obtain ⟨k,e,hc1,hc2,_⟩:=wO b l s (s.p:Int) (by omega) fun z t e=>oL g3 (by rw [e];exact List.mem_cons_self)
     obtain ⟨rfl,rfl⟩:=hc2 hs
     refine ⟨fun N hN l0 ag1 r d1 d2=>⟨0,pre N l0 ag1 _ r ?_⟩,fun d hd=>?_⟩
     ·have hne:¬ ((l.length:Int)=0):=fun e=>h1 (List.length_eq_zero_iff.1 (by omega))
      rw [decide_eq_false hne,Bool.and_false]
      refine ab (fun h=>by cases h) fun _=>ab (fun h=>absurd rfl h) fun _=>⟨_,hc1,?_⟩
      have:=d2 rfl
      have e2:fr9 b ((bd l s).1,0,(bd l s).2)=rst b (bd l s).2 (s.p:Int) 0:=by unfold fr9;rw [st1]
      rw [e2] at this
      exact this
     ·show d≤(bd l s).2.g
      rw [st2]
      exact g2 d (by rw [← st3];exact hd)
  | piece s=>
   intro hG
   obtain ⟨j1,j2⟩:=hj
   have j1:s.p<b.length:=j1
   have hin:InR ((s.p:Int)+1):=⟨by omega,by omega⟩
   have nx:ak (rst b s (s.p:Int) 0) 0 (atB b s.p):=dG b s s.p 0 0 (by omega) (by omega)
   obtain ⟨c,hc⟩:∃ c,b[s.p]? =some c:=⟨_,List.getElem?_eq_getElem j1⟩
   rw [bL hc] at nx
   have g1:s.L.length+2 * (b.length - s.p)≤1000∨q.2.1=0:=hG.1.imp (fun this=>by simp only [List.length_nil] at this;omega) id
   have pre:∀ f r,d8 (rst b s (s.p:Int) 0) (c.toNat:Int) (TT n).2.2.1 (decide (repC c)) r→(TT (n+1)).2.1 (rst b s (s.p:Int) 0) f r:=fun f r hr=>.inr ⟨_,nx,by rw [CC];exact hr⟩
   have anchor:∀ (kind:Int),(kind=7∧c=94∨kind=8∧c=36)→q=okE (ah (kind,0,0,0,0,0,aj) (adv s 1))→(∃ k,(∀ f,(TT (n+1)).2.1 (rst b s (s.p:Int) 0) f (k,fr9 b q))∧(q.2.1=0→k=q.1))∧ClI q.2.2:=fun kind hk hq=>by
    have hroom:s.L.length<1000:=by
     rcases g1 with g1 | g1
     ·omega
     ·rw [hq] at g1
      exact kx (s:=adv s 1) g1
    subst hq
    obtain ⟨p1,p2,p3⟩:=nW b (kind,0,0,0,0,0,aj) s (adv s 1) ((s.p:Int)+1) (by show _=((s.p+1:Nat):Int);omega) rfl rfl rfl hroom (by rcases hk with ⟨rfl,_⟩| ⟨rfl,_⟩<;> first | exact Ap _ _ | exact Aq _ _)
    refine ⟨⟨_,fun f=>pre f _ ?_,fun _=>rfl⟩,fun d hd=>?_⟩
    ·rcases hk with ⟨rfl,rfl⟩| ⟨rfl,rfl⟩
     ·exact ab (fun h=>absurd h (by decide)) fun _=>ab (fun h=>absurd h (by decide)) fun _=>ab (fun _=>au hin (ab (fun h=>absurd h (by decide)) fun _=>⟨_,p1,rfl⟩)) fun h=>absurd (by decide) h
     ·exact ab (fun h=>absurd h (by decide)) fun _=>ab (fun h=>absurd h (by decide)) fun _=>ab (fun _=>au hin (ab (fun _=>⟨_,p1,rfl⟩) fun h=>absurd rfl h)) fun h=>absurd (by decide) h
    ·rw [p3];exact hG.2.1 d (by rw [← p2];exact hd)
   unfold go9 at h
   rw [hc] at h
   dsimp only at h
   by_cases h94:c=94
   ·rw [if_pos h94] at h
    injection h with h
    exact anchor 7 (.inl ⟨rfl,h94⟩) h.symm
   rw [if_neg h94] at h
   by_cases h36:c=36
   ·rw [if_pos h36] at h
    injection h with h
    exact anchor 8 (.inr ⟨rfl,h36⟩) h.symm
   rw [if_neg h36] at h
   obtain ⟨q1,h1,rfl⟩:=map_some h
   have hja:dW b (.atom s):=⟨j1,j2⟩
   by_cases hr:repC c
   ·have e:q1=noE s 13:=by
     cases n with
     | zero=>cases h1
     | succ n=>unfold go9 at h1;rw [hc] at h1;dsimp only at h1;rw [if_pos hr] at h1;injection h1 with h1;exact h1.symm
    subst e
    rw [nV (show (noE s 13).2.1≠0 from by show (13:Int)≠0;decide)]
    exact ⟨⟨0,fun f=>pre f _ (ab (fun _=>rfl) fun h=>absurd (decide_eq_true hr) h),fun h=>by cases h⟩,hG.2.1⟩
   by_cases h41:c=41
   ·have e:q1=noE s 14:=by
     cases n with
     | zero=>cases h1
     | succ n=>unfold go9 at h1;rw [hc] at h1;dsimp only at h1;rw [if_neg hr,if_pos h41] at h1;injection h1 with h1;exact h1.symm
    subst e
    rw [nV (show (noE s 14).2.1≠0 from by show (14:Int)≠0;decide)]
    subst h41
    exact ⟨⟨0,fun f=>pre f _ (ab (fun h=>absurd h (by decide)) fun _=>ab (fun _=>rfl) fun h=>absurd rfl h),fun h=>by cases h⟩,hG.2.1⟩
   obtain ⟨r1,r2⟩:=ih (.atom s) q1 h1 hja (q9 hG fun h0=>Decidable.not_not.1 fun he=>by rw [nV he] at h0;exact he h0) c hc hr h41
   obtain ⟨k,r3,r4⟩:=r1 n (Nat.le_refl _)
   have hat:=ej b n _ q1 h1 hja
   have fin:∀ (r:Int×RS8),J4 k (fr9 b q1) r→∀ f,(TT (n+1)).2.1 (rst b s (s.p:Int) 0) f r:=fun r hJ f=>by
    refine pre f r ?_
    rw [decide_eq_false hr]
    refine ab (fun h=>by cases h) fun _=>ab (fun h=>absurd (cj (b:=41) h) h41) fun _=>?_
    rw [show (decide ((c.toNat:Int)=94) || decide ((c.toNat:Int)=36))=false by
     rw [decide_eq_false (show ¬ (c.toNat:Int)=94 from fun e=>h94 (cj (b:=94) e)),decide_eq_false (show ¬ (c.toNat:Int)=36 from fun e=>h36 (cj (b:=36) e))];rfl]
    exact r3 r hJ
   by_cases he:q1.2.1=0
   ·obtain ⟨⟨a1,a2,a3⟩,a4⟩:At9 b (s.p+1) q1.2.2∧q1.2.2.L.length+1+2 * s.p≤s.L.length+2 * q1.2.2.p:=hat he
    have hgr:=nT b n _ q1 h1 he s.L s.g (dx _ _ (jt hG))
    obtain ⟨⟨k',⟨m,hm⟩,c1⟩,c2⟩:=yA b hb (b.length+1) q1.1 q1.2.2 a2 (by omega) (oL hgr.2 (by simp)) (g1.imp (fun g1=>by omega) fun h0=>by rw [he] at h0;exact h0) r2
    rw [he]
    refine ⟨⟨k',fin _ ?_,c1⟩,c2⟩
    have:fr9 b q1=rst b q1.2.2 (q1.2.2.p:Int) 0:=by unfold fr9;rw [he]
    rw [this,r4 he]
    exact ee m hm
   ·rw [nV he]
    exact ⟨⟨k,fin _ (ee 0 (EN b q1.2.2 (q1.2.2.p:Int) q1.2.1 k he _)),fun h=>absurd h he⟩,r2⟩
  | atom s=>
   intro hG c hc hr h41
   obtain ⟨j1,j2⟩:=hj
   unfold go9 at h
   rw [hc] at h
   dsimp only at h
   rw [if_neg hr,if_neg h41] at h
   have g1:s.L.length+2 * (b.length - s.p)≤1000∨q.2.1=0:=hG.1.imp (fun this=>by simp only [List.length_nil] at this;omega) id
   have j1:s.p<b.length:=j1
   by_cases h40:c=40
   ·rw [if_pos h40] at h
    obtain ⟨⟨k,r1,r3⟩,r2⟩:=ih (.group s) q h ⟨j1,j2⟩ hG
    refine ⟨fun N hN=>⟨k,fun r hJ=>?_,r3⟩,r2⟩
    subst h40
    exact ab (fun h=>by cases h) fun _=>ab (fun _=>⟨_,(sU (show n≤N by omega)).2.2 _ _ _ _ r1,hJ⟩) fun h=>absurd rfl h
   ·rw [if_neg h40] at h
    injection h with h
    subst h
    have hroom:s.L.length<1000:=by
     rcases g1 with g1 | g1
     ·omega
     ·exact yB g1
    refine ⟨fun N hN=>(tG b hb s c hc h40 hroom hG.2.1 _).1,fun d hd=>?_⟩
    obtain ⟨_,e1,e2⟩:=tG b hb s c hc h40 hroom hG.2.1 (TT 0).2.2.1
    rw [e2];exact hG.2.1 d (by rw [← e1];exact hd)
  | group s=>
   intro hG
   obtain ⟨j1,j2⟩:=hj
   have j1:s.p<b.length:=j1
   have j2:s.g≤9:=j2
   have g1:s.L.length+2 * (b.length - s.p)≤1000∨q.2.1=0:=hG.1.imp (fun this=>by simp only [List.length_nil] at this;omega) id
   unfold go9 at h
   split at h
   ·rename_i h9
    injection h with h
    subst h
    exact ⟨⟨0,.inr (ab (fun _=>rfl) fun h=>absurd (by show (9:Int)≤(s.g:Int);omega) h),fun h=>by cases h⟩,hG.2.1⟩
   ·rename_i h9
    obtain ⟨q1,h1,rfl⟩:=map_some h
    have hj1:dW b (.alts true { s with g:=s.g+1,p:=s.p+1 }):=⟨j1,by show s.g+1≤9;omega⟩
    have hat:=ej b n _ q1 h1 hj1
    obtain ⟨⟨k1,r1,r3⟩,r2⟩:=ih _ _ h1 hj1 ⟨g1.imp (fun g1=>by show s.L.length+2 * (b.length - (s.p+1))+0≤1000;omega) fun h0=>Decidable.not_not.1 fun he=>by unfold mD at h0;rw [if_pos he] at h0;exact he h0,fun d hd=>Nat.le_succ_of_le (hG.2.1 d hd),s.L,s.g+1,dx _ _ (jt hG)⟩
    have pre:∀ r,cy 1 (rst b s (s.p:Int) 0) k1 (fr9 b q1).1 (fr9 b q1).2.1 (fr9 b q1).2.2.1 (fr9 b q1).2.2.2.1.1 (fr9 b q1).2.2.2.1.2 (fr9 b q1).2.2.2.2 r→(TT (n+1)).2.2.1 (rst b s (s.p:Int) 0) 1 false r:=fun r hr=>
     .inr (ab (fun h=>absurd (by have h:(9:Int)≤(s.g:Int):=h;omega) h9) fun _=>au (by show -9223372036854775808≤(s.g:Int)+1∧(s.g:Int)+1≤_;omega) (au (by show -9223372036854775808≤(s.p:Int)+1∧(s.p:Int)+1≤_;omega) (ab (fun h=>by cases h) fun _=>⟨(k1,fr9 b q1),r1,hr⟩)))
    unfold mD
    by_cases he:q1.2.1=0
    ·rw [if_neg (fun h=>h he)]
     obtain ⟨⟨a1,a2,a3⟩,a4,a5⟩:At9 b (s.p+1) q1.2.2∧q1.2.2.L.length+1+2 * (s.p+1)≤s.L.length+2 * q1.2.2.p∧(true=true→b[q1.2.2.p]? =some 41):=hat he
     have a5:=(List.getElem?_eq_some_iff.1 (a5 rfl)).1
     have hgr:GrE s.L (s.g+1) q1:=nT b n _ q1 h1 he s.L (s.g+1) (dx _ _ (jt hG))
     have hroom:q1.2.2.L.length<1000:=by
      rcases g1 with g1 | g1
      ·omega
      ·unfold mD at g1
       rw [if_neg (fun h=>h he)] at g1
       exact kx (s:={ q1.2.2 with p:=q1.2.2.p+1,cl:=Arr.set q1.2.2.cl (s.g+1) true }) g1
     have hgg:s.g+1≤q1.2.2.g:=by obtain ⟨_,_,_,h,_⟩:=hgr;exact h
     have hlen:q1.2.2.cl.l.length=10:=q1.2.2.cl.len
     have eg:((s.g:Int)+1).toNat=s.g+1:=by omega
     have eg2:(s.g:Int)+1=((s.g+1:Nat):Int):=by omega
     obtain ⟨p1,p2,p3⟩:=q8 (b:=b) (nd:=(5,q1.1,0,0,0,((s.g+1:Nat):Int),aj)) (s:={ q1.2.2 with p:=q1.2.2.p+1,cl:=Arr.set q1.2.2.cl (s.g+1) true }) ((q1.2.2.p:Int)+1) (by show _=((q1.2.2.p+1:Nat):Int);omega) hroom (Ao (oL hgr.2 (by simp)) ⟨by omega,by show ((s.g+1:Nat):Int)≤(q1.2.2.g:Int);omega⟩)
     have hfr:fr9 b q1=rst b q1.2.2 (q1.2.2.p:Int) 0:=by unfold fr9;rw [he]
     rw [hfr,r3 he] at pre
     refine ⟨⟨_,pre _ (ab (fun h=>absurd rfl h) fun _=>au (by show -9223372036854775808≤(q1.2.2.p:Int)+1∧(q1.2.2.p:Int)+1≤_;omega) ⟨⟨by show (0:Int)≤(s.g:Int)+1;omega,by show (s.g:Int)+1<10;omega⟩,q1.2.2.cl.l[s.g+1],?_,((okE (ah (5,q1.1,0,0,0,((s.g+1:Nat):Int),aj) { q1.2.2 with p:=q1.2.2.p+1,cl:=Arr.set q1.2.2.cl (s.g+1) true })).1,fr9 b (okE (ah (5,q1.1,0,0,0,((s.g+1:Nat):Int),aj) { q1.2.2 with p:=q1.2.2.p+1,cl:=Arr.set q1.2.2.cl (s.g+1) true }))),?_,rfl⟩),fun _=>rfl⟩,?_⟩
     ·show q1.2.2.cl.l[((s.g:Int)+1).toNat]? =_
      rw [eg];exact List.getElem?_eq_getElem (by omega)
     ·show ap (b,(q1.2.2.p:Int)+1,0,(q1.2.2.L,(q1.2.2.g:Int)),Arr.set q1.2.2.cl ((s.g:Int)+1).toNat true) (5,q1.1,0,0,0,(s.g:Int)+1,_) _
      rw [eg,eg2];exact p1
     ·rw [p3]
      intro d hd
      show d≤q1.2.2.g
      have hd:(Arr.set q1.2.2.cl (s.g+1) true).l[d]? =some true:=hd
      by_cases hdg:d=s.g+1
      ·omega
      ·refine r2 d ?_
       rw [← hd]
       show _=(q1.2.2.cl.l.set (s.g+1) true)[d]?
       rw [List.getElem?_set_ne (by omega)]
    ·rw [if_pos he]
     exact ⟨⟨0,pre _ (ab (fun _=>rfl) fun h=>absurd he h),fun h=>absurd h he⟩,r2⟩
end Go.Proofs.YtnbceeholnkfeaaGreatDoor
