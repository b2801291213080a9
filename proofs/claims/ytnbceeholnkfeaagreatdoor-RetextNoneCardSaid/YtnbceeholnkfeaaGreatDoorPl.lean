/- Plain helps: bytes and words as numbers; loops. -/
import Derived.Test.YtnbceeholnkfeaaGreatDoorGen
import Derived.Test.YtnbceeholnkfeaaGreatDoorGK
namespace Go.Proofs.YtnbceeholnkfeaaGreatDoor
theorem B1 (n:Nat) (h:n<256):((UInt8.ofNat n).toNat:Int)=(n:Int):=by rw [UInt8.toNat_ofNat_of_lt' (by simpa [UInt8.size] using h)]
theorem yQ (n:Nat) (h:n<18446744073709551616):((UInt64.ofNat n).toNat:Int)=(n:Int):=by rw [UInt64.toNat_ofNat_of_lt' (by simpa [UInt64.size] using h)]
theorem iu {z:Int} {P:UInt8→Prop} (h:0≤z∧z≤255) (k:∀ c:UInt8,(c.toNat:Int)=z→P c):∃ c:UInt8,(c.toNat:Int)=IntKind.u8.wrap z∧P c:=by
 have e:((UInt8.ofNat z.toNat).toNat:Int)=z:=by rw [B1 _ (by omega)];omega
 exact ⟨_,by rw [IntWalk.u8_in _ h];exact e,k _ e⟩
theorem xA {z:Int} {P:UInt8→Prop} (h:0≤z∧z≤255) (k:∀ c:UInt8,(c.toNat:Int)=z→P c):∃ c:UInt8,(c.toNat:Int)=z∧P c:=by
 have e:((UInt8.ofNat z.toNat).toNat:Int)=z:=by rw [B1 _ (by omega)];omega
 exact ⟨_,e,k _ e⟩
theorem sj {z:Int} {P:UInt64→Prop} (h:0≤z∧z≤18446744073709551615) (k:∀ c:UInt64,(c.toNat:Int)=z→P c):∃ c:UInt64,(c.toNat:Int)=IntKind.u64.wrap z∧P c:=by
 have e:((UInt64.ofNat z.toNat).toNat:Int)=z:=by rw [yQ _ (by omega)];omega
 exact ⟨_,by rw [IntWalk.u64_in _ h];exact e,k _ e⟩
theorem yR {z:Int} {P:UInt64→Prop} (h:0≤z∧z≤18446744073709551615) (k:∀ c:UInt64,(c.toNat:Int)=z→P c):∃ c:UInt64,(c.toNat:Int)=z∧P c:=by
 have e:((UInt64.ofNat z.toNat).toNat:Int)=z:=by rw [yQ _ (by omega)];omega
 exact ⟨_,e,k _ e⟩
theorem qu (a:UInt64):BitVec.ofInt IntKind.u64.bits (a.toNat:Int)=a.toBitVec:=by
 apply BitVec.eq_of_toNat_eq
 show (BitVec.ofInt 64 (a.toNat:Int)).toNat=_
 rw [BitVec.ofInt_natCast,BitVec.toNat_ofNat]
 exact Nat.mod_eq_of_lt a.toNat_lt
theorem tc (x:BitVec 64):IntKind.u64.wrap (x.toNat:Int)=(x.toNat:Int):=IntWalk.u64_in _ ⟨by omega,by have:=x.isLt;omega⟩
theorem B2 {a b:UInt64} {P:UInt64→Prop} (k:P (a &&& b)):∃ c:UInt64,(c.toNat:Int)=IntKind.u64.wrap (BitVec.ofInt IntKind.u64.bits (a.toNat:Int) &&& BitVec.ofInt IntKind.u64.bits (b.toNat:Int)).toNat∧P c:=
 ⟨_,by rw [qu,qu];exact (tc _).symm,k⟩
theorem Eb {a b:UInt64} {P:UInt64→Prop} (k:P (a ||| b)):∃ c:UInt64,(c.toNat:Int)=IntKind.u64.wrap (BitVec.ofInt IntKind.u64.bits (a.toNat:Int) ||| BitVec.ofInt IntKind.u64.bits (b.toNat:Int)).toNat∧P c:=
 ⟨_,by rw [qu,qu];exact (tc _).symm,k⟩
theorem E6 {a b:UInt64} {P:UInt64→Prop} (k:P (a ^^^ b)):∃ c:UInt64,(c.toNat:Int)=IntKind.u64.wrap (BitVec.ofInt IntKind.u64.bits (a.toNat:Int) ^^^ BitVec.ofInt IntKind.u64.bits (b.toNat:Int)).toNat∧P c:=
 ⟨_,by rw [qu,qu];exact (tc _).symm,k⟩
theorem at_ {α:Type} {l:List α} {z:Int} {P:α→Prop} (h0:0≤z) (h1:z<(l.length:Int)) (k:∀ x,l[z.toNat]? =some x→P x):0≤z∧∃ x,l[z.toNat]? =some x∧P x:=
 ⟨h0,_,List.getElem?_eq_getElem (by omega),k _ (List.getElem?_eq_getElem (by omega))⟩
theorem atA {α:Type} {n:Nat} {a:Arr n α} {z N:Int} {P:α→Prop} (h0:0≤z) (h1:z<N) (k:∀ x,a.l[z.toNat]? =some x→P x) (hN:N=(n:Int):=by rfl):(0≤z∧z<N)∧∃ x,a.l[z.toNat]? =some x∧P x:=
 ⟨⟨h0,h1⟩,_,List.getElem?_eq_getElem (by rw [a.len];omega),k _ (List.getElem?_eq_getElem (by rw [a.len];omega))⟩
theorem au {z:Int} {P:Prop} (h: -9223372036854775808≤z∧z≤9223372036854775807) (k:P):InR z∧P:=⟨h,k⟩
theorem dD {n b:Nat} {P:Prop} (h:n≤1000000000) (hb:b≤1000) (k:P):ef n b∧P:=by
 have:n * b≤1000000000 * 1000:=Nat.mul_le_mul h hb
 exact ⟨⟨by unfold maxLen;omega,by omega⟩,k⟩
theorem td (a b:Nat):(a:Int).tdiv (b:Int)=((a / b:Nat):Int):=rfl
theorem tm (a b:Nat):(a:Int).tmod (b:Int)=((a % b:Nat):Int):=rfl
theorem fd (a b:Nat):(a:Int).fdiv (b:Int)=((a / b:Nat):Int):=by rw [Int.fdiv_eq_ediv_of_nonneg _ (Int.natCast_nonneg _)];rfl
theorem fdp (a k:Nat):(a:Int).fdiv (2 ^ k)=((a / 2 ^ k:Nat):Int):=by rw [← fd];congr 1
theorem exZ {z:Int} {P:Int→Prop} (k:P z):∃ c:Int,c=z∧P c:=⟨_,rfl,k⟩
theorem ab {p A B:Prop} (h1:p→A) (h2:¬ p→B) [Decidable p]:(p→A)∧(¬ p→B):=⟨h1,h2⟩
theorem ct {S:Type} {F:(S→Prop)→S→Prop} {s0:S} (Inv:S→Nat→Prop) (m:Nat) (h0:Inv s0 m) (h:∀ s m,Inv s m→F (fun s'=>∃ m',m'<m∧Inv s' m') s):ba F s0:=⟨Inv,⟨m,h0⟩,h⟩
end Go.Proofs.YtnbceeholnkfeaaGreatDoor
namespace Go.Proofs.YtnbceeholnkfeaaGreatDoor
abbrev ND:=Int×Int×Int×Int×Int×Int×(Arr 4 (UInt64))
def aj:Arr 4 UInt64:=Arr.rep 4 (0:UInt64)
def jc (n:ND):ND:=
 if n.1=1 then (n.1,0,0,0,0,0,n.2.2.2.2.2.2)
 else if n.1=2∨n.1=3 then (n.1,n.2.1,n.2.2.1,0,0,0,aj)
 else if n.1=4 then (n.1,n.2.1,0,n.2.2.2.1,n.2.2.2.2.1,0,aj)
 else if n.1=5 then (n.1,n.2.1,0,0,0,n.2.2.2.2.2.1,aj)
 else if n.1=6 then (n.1,0,0,0,0,n.2.2.2.2.2.1,aj)
 else (n.1,0,0,0,0,0,aj)
def aY (n:ND):List Int:=if n.1=2∨n.1=3 then [n.2.1,n.2.2.1] else if n.1=4∨n.1=5 then [n.2.1] else []
def db (lo hi:Int):Bool:=(decide (0≤lo)) && ((decide (lo≤255)) && ((decide (hi=(-1))) || ((decide (lo≤hi)) && (decide (hi≤255)))))
set_option synthInstance.maxSize 4000 in
def aP (n:ND) (at_ g:Int):Bool:=
 decide (0≤n.1) && decide (n.1≤8) && decide (n=jc n) && (aY n).all (fun k=>decide (0≤k) && decide (k<at_))
  && (!decide (n.1=4) || db n.2.2.2.1 n.2.2.2.2.1) && (!decide (n.1=5∨n.1=6) || (decide (1≤n.2.2.2.2.2.1) && decide (n.2.2.2.2.2.1≤g)))
theorem Bq (n:ND):kP n (jc n):=by
 unfold kP j5 eE jc aj
 by_cases h1:n.1=1
 ·simp [h1]
 by_cases h2:n.1=2
 ·simp [h2]
 by_cases h3:n.1=3
 ·simp [h3]
 by_cases h4:n.1=4
 ·simp [h4]
 by_cases h5:n.1=5
 ·simp [h5]
 by_cases h6:n.1=6
 ·simp [h6]
 simp [h1,h2,h3,h4,h5,h6]
theorem vL (n:ND):ju n (aY n):=by
 unfold ju j8 j6 aY
 by_cases h2:n.1=2
 ·simp [h2]
 by_cases h3:n.1=3
 ·simp [h3]
 by_cases h4:n.1=4
 ·simp [h4]
 by_cases h5:n.1=5
 ·simp [h5]
 simp [h2,h3,h4,h5]
theorem pY (n:ND):(aY n).length≤2:=by
 unfold aY
 split
 ·simp
 ·split <;> simp
theorem Fd (a k:Int):km a k (!(decide (0≤k) && decide (k<a))):=by
 refine ab (fun h=>?_) fun h=>?_
 ·have:¬ 0≤k:=by omega
  simp [this]
 ·have h1:0≤k:=by omega
  by_cases h2:k<a
  ·simp [h1,h2]
  ·simp [h1,h2];omega
theorem Br (a:Int) (l:List Int) (hl:l.length≤100000):∃ y:Int,gz a l y∧(decide (0≤y))= !(l.all (fun k=>decide (0≤k) && decide (k<a))):=by
 have key:∀ n:Nat,n≤l.length→(∀ j,j<n→∀ x,l[j]? =some x→(decide (0≤x) && decide (x<a))=true)→(n=l.length∨∃ x,l[n]? =some x∧(decide (0≤x) && decide (x<a))=false)→
   ∃ y:Int,gz a l y∧(decide (0≤y))= !(l.all (fun k=>decide (0≤k) && decide (k<a))):=by
  intro n hn h1 h2
  refine ⟨if n=l.length then -1 else (n:Int),?_,?_⟩
  ·refine ct (fun st m=>∃ k:Nat,k≤n∧m=n - k∧st=(k:Int)) _ ⟨0,by omega,rfl,rfl⟩ ?_
   rintro st m ⟨k,hk,rfl,rfl⟩
   refine ab (fun h3=>?_) fun h3=>?_
   ·refine at_ (by omega) (by omega) fun x hx=>?_
    rw [Int.toNat_natCast] at hx
    refine ⟨_,Fd a x,?_⟩
    rcases Nat.lt_or_ge k n with hkn | hkn
    ·rw [h1 k hkn x hx]
     refine ab (fun h=>by simp at h) fun _=>?_
     exact au (by omega) ⟨n - (k+1),by omega,k+1,by omega,rfl,rfl⟩
    ·obtain rfl:k=n:=by omega
     rcases h2 with h2 | ⟨x',hx',h2⟩
     ·omega
     ·rw [hx'] at hx
      obtain rfl:=Option.some.inj hx
      rw [h2]
      refine ab (fun _=>?_) fun h=>by simp at h
      rw [if_neg (by omega)]
   ·rw [if_pos (by omega)]
  ·rcases h2 with h2 | ⟨x,hx,h2⟩
   ·rw [if_pos h2]
    have:l.all (fun k=>decide (0≤k) && decide (k<a))=true:=by
     rw [List.all_eq_true]
     intro x hx
     obtain ⟨j,hj⟩:=List.mem_iff_getElem?.1 hx
     exact h1 j (by have:=(List.getElem?_eq_some_iff.1 hj).1;omega) x hj
    rw [this];rfl
   ·have hlt:=(List.getElem?_eq_some_iff.1 hx).1
    rw [if_neg (by omega)]
    have:l.all (fun k=>decide (0≤k) && decide (k<a))=false:=by
     rw [Bool.eq_false_iff]
     intro h
     have:=List.all_eq_true.1 h x (List.mem_of_getElem? hx)
     rw [h2] at this;cases this
    rw [this]
    simp
 have ex:∀ d n:Nat,n+d=l.length→(∀ j,j<n→∀ x,l[j]? =some x→(decide (0≤x) && decide (x<a))=true)→∃ n:Nat,n≤l.length∧(∀ j,j<n→∀ x,l[j]? =some x→(decide (0≤x) && decide (x<a))=true)∧(n=l.length∨∃ x,l[n]? =some x∧(decide (0≤x) && decide (x<a))=false):=by
  intro d
  induction d with
  | zero=>intro n hn h;exact ⟨n,by omega,h,.inl (by omega)⟩
  | succ d ih=>
   intro n hn h
   have hx:=List.getElem?_eq_getElem (l:=l) (i:=n) (by omega)
   generalize l[n]=x at hx
   by_cases hb:(decide (0≤x) && decide (x<a))=true
   ·refine ih (n+1) (by omega) fun j hj y hy=>?_
    rcases Nat.lt_or_ge j n with h3 | h3
    ·exact h j h3 y hy
    ·obtain rfl:j=n:=by omega
     rw [hx] at hy
     obtain rfl:=Option.some.inj hy
     exact hb
   ·exact ⟨n,by omega,h,.inr ⟨x,hx,by simpa using hb⟩⟩
 obtain ⟨n,k1,k2,k3⟩:=ex l.length 0 (by omega) (fun j hj=>by omega)
 exact key n k1 k2 k3
theorem wh (a:Int) (l:List Int) (hl:l.length≤100000):hZ a l (!(l.all (fun k=>decide (0≤k) && decide (k<a)))):=by
 obtain ⟨y,h1,h2⟩:=Br a l hl
 exact ⟨y,h1,h2.symm⟩
set_option synthInstance.maxSize 4000 in
theorem pZ (n:ND) (a g:Int):iX n a g (aP n a g):=by
 have j3:lM n g ((decide (n.1=5)) || (decide (n.1=6))) (!decide (n.1=5∨n.1=6) || (decide (1≤n.2.2.2.2.2.1) && decide (n.2.2.2.2.2.1≤g))):=by
  by_cases h:n.1=5∨n.1=6
  ·have hh:((decide (n.1=5)) || (decide (n.1=6)))=true:=by simpa using h
   rw [hh,decide_eq_true h]
   refine ab (fun _=>ab (fun h1=>?_) fun h1=>?_) fun h1=>absurd rfl h1
   ·simp [h1]
   ·simp [h1]
  ·have hh:((decide (n.1=5)) || (decide (n.1=6)))=false:=by simpa using h
   rw [hh,decide_eq_false h]
   exact ab (fun h1=>by cases h1) fun _=>by simp
 have j1:∀ b:Bool,ia n a g (!b) (b && (aY n).all (fun k=>decide (0≤k) && decide (k<a)) && (!decide (n.1=4) || db n.2.2.2.1 n.2.2.2.2.1) && (!decide (n.1=5∨n.1=6) || (decide (1≤n.2.2.2.2.2.1) && decide (n.2.2.2.2.2.1≤g)))):=by
  intro b
  cases b with
  | false=>exact ab (fun _=>by simp) fun h=>absurd rfl h
  | true=>
   refine ab (fun h=>by simp at h) fun _=>?_
   refine ⟨_,vL n,_,wh a _ (by have:=pY n;omega),?_⟩
   cases hall:(aY n).all (fun k=>decide (0≤k) && decide (k<a)) with
   | false=>exact ab (fun _=>by simp) fun h=>absurd rfl h
   | true=>
    refine ab (fun h=>by simp at h) fun _=>?_
    refine ab (fun h4=>?_) fun h4=>?_
    ·refine ⟨db n.2.2.2.1 n.2.2.2.2.1,rfl,?_⟩
     rw [decide_eq_true h4]
     cases hT:db n.2.2.2.1 n.2.2.2.2.1 with
     | false=>exact ab (fun _=>by simp) fun h=>absurd rfl h
     | true=>exact ab (fun h=>by simp at h) fun _=>by simpa using j3
    ·rw [decide_eq_false h4]
     exact ab (fun h=>by cases h) fun _=>by simpa using j3
 refine ab (fun h=>?_) fun h=>ab (fun h2=>?_) fun h2=>?_
 ·have h1:¬ 0≤n.1:=by omega
  have:=j1 false
  simpa [aP,h1] using this
 ·have h1:¬ n.1≤8:=by omega
  have:=j1 false
  simpa [aP,h1] using this
 ·have h3:0≤n.1:=by omega
  have h4:n.1≤8:=by omega
  refine ⟨_,Bq n,?_⟩
  have:=j1 (decide (n=jc n))
  simpa only [aP,decide_eq_true h3,decide_eq_true h4,Bool.true_and] using this
end Go.Proofs.YtnbceeholnkfeaaGreatDoor
namespace Go.Proofs.YtnbceeholnkfeaaGreatDoor
def cg (l:List ND):List Int:=l.flatMap aY
def dS (l:List ND):List Int:=l.flatMap fun n=>if n.1=5 then [n.2.2.2.2.2.1] else []
def gW (n:Nat) (p:List Int):List Int:=(List.range n).map fun (j:Nat)=>((p.count (j:Int):Nat):Int)
def nL (q:List Int):Arr 10 Int:=⟨gW 10 q,by simp [gW]⟩
def np (l:List ND) (g:Int):Bool:=(List.range l.length).all fun (i:Nat)=>match l[i]? with | some x=>aP x i g | none=>true
def eC (l:List ND) (g:Int):Bool:=
 decide (1≤l.length) && decide (l.length≤1000) && decide (0≤g) && decide (g≤9) && np l g && ((List.range (l.length - 1)).all fun (j:Nat)=>decide ((cg l).count (j:Int)=1))
  && ((List.range g.toNat).all fun (j:Nat)=>decide ((dS l).count ((j:Int)+1)=1))
theorem m4 (n:Nat) (p:List Int):(gW n p).length=n:=by simp [gW]
theorem nq {n:Nat} {p:List Int} {i:Nat} (h:i<n):(gW n p)[i]? =some ((p.count (i:Int):Nat):Int):=by
 unfold gW
 rw [List.getElem?_map,List.getElem?_range h];rfl
theorem wU {n:Nat} {p:List Int} {z:Int} (h0:0≤z) (h1:z<n):(gW n p).set z.toNat (((p.count z:Nat):Int)+1)=gW n (p++[z]):=by
 apply List.ext_getElem?
 intro i
 rw [List.getElem?_set,m4]
 rcases Nat.lt_or_ge i n with hi | hi
 ·rw [nq hi,nq hi]
  split
  ·rename_i e
   subst e
   rw [if_pos (by omega),Int.toNat_of_nonneg h0,List.count_append,List.count_singleton_self];rfl
  ·rename_i e
   rw [List.count_append,List.count_singleton,if_neg (by simp;omega)];rfl
 ·rw [List.getElem?_eq_none (by rw [m4];omega),List.getElem?_eq_none (by rw [m4];omega)]
  split
  ·rw [if_neg (by omega)]
  ·rfl
theorem De {q:List Int} {z:Int} (h0:0≤z) (h1:z<10):Arr.set (nL q) z.toNat (((q.count z:Nat):Int)+1)=nL (q++[z]):=Arr.ext (wU (n:=10) h0 (by omega))
theorem zG {l:List ND} {k:Nat} {x:ND} (h:l[k]? =some x):cg (l.take (k+1))=cg (l.take k)++aY x:=by
 unfold cg
 rw [List.take_add_one,h,List.flatMap_append];simp
theorem vI {l:List ND} {k:Nat} {x:ND} (h:l[k]? =some x):dS (l.take (k+1))=dS (l.take k)++(if x.1=5 then [x.2.2.2.2.2.1] else []):=by
 unfold dS
 rw [List.take_add_one,h,List.flatMap_append];simp
theorem vJ:∀ l:List ND,(cg l).length≤2 * l.length
 | []=>by simp [cg]
 | x :: l=>by
  have h1:=vJ l
  have h2:=pY x
  unfold cg at h1 ⊢
  rw [List.flatMap_cons,List.length_append,List.length_cons];omega
theorem wV:∀ l:List ND,(dS l).length≤l.length
 | []=>by simp [dS]
 | x :: l=>by
  have h1:=wV l
  unfold dS at h1 ⊢
  rw [List.flatMap_cons,List.length_append,List.length_cons]
  generalize (List.flatMap (fun n:ND=>if n.1=5 then [n.2.2.2.2.2.1] else []) l).length=q at *
  split <;> simp <;> omega
theorem vK {l:List ND} {g:Int} (h:np l g=true) {i:Nat} {x:ND} (hx:l[i]? =some x):aP x i g=true:=by
 have:=List.all_eq_true.1 h i (List.mem_range.2 (List.getElem?_eq_some_iff.1 hx).1)
 rw [hx] at this;exact this
theorem zH {l:List ND} {g:Int} {i:Nat} {x:ND} (hx:l[i]? =some x) (h:aP x i g=false):np l g=false:=by
 rw [Bool.eq_false_iff]
 intro hn
 rw [vK hn hx] at h;cases h
theorem tZ {l:List ND} {g:Int} (h:∀ (i:Nat) x,l[i]? =some x→aP x i g=true):np l g=true:=by
 refine List.all_eq_true.2 fun i hi=>?_
 cases hx:l[i]? with
 | none=>rfl
 | some x=>exact h i x hx
set_option synthInstance.maxSize 4000 in
theorem sy {x:ND} {a g:Int} (h:aP x a g=true):(∀ k∈aY x,0≤k∧k<a)∧(x.1=5→1≤x.2.2.2.2.2.1∧x.2.2.2.2.2.1≤g):=by
 unfold aP at h
 simp only [Bool.and_eq_true,Bool.or_eq_true,List.all_eq_true,decide_eq_true_eq,Bool.not_eq_true',decide_eq_false_iff_not] at h
 obtain ⟨⟨⟨_,h1⟩,_⟩,h2⟩:=h
 exact ⟨h1,fun h5=>h2.resolve_left fun hn=>hn (.inl h5)⟩
theorem Bo (l:List ND) (g:Int) (hg0:0≤g) (hg:g≤9):
  ba (fun ag5 s=>o9 (l,g) (nL (dS l)) ag5 s ((List.range g.toNat).all fun (j:Nat)=>decide ((dS l).count ((j:Int)+1)=1))) 0:=by
 refine ct (fun st m=>∃ k:Nat,k≤g.toNat∧m=g.toNat - k∧st=(k:Int)∧∀ j,j<k→(dS l).count ((j:Int)+1)=1) _ ⟨0,by omega,rfl,rfl,fun j hj=>by omega⟩ ?_
 rintro st m ⟨k,hk,rfl,rfl,hall⟩
 refine ab (fun h=>?_) fun h=>?_
 ·simp only at h
  have hkg:k<g.toNat:=by omega
  have hc:(nL (dS l)).l[((((1:Int).toNat+(k:Int).toNat:Nat):Int)).toNat]? =some (((dS l).count ((((1:Int).toNat+(k:Int).toNat:Nat):Int).toNat:Int):Nat):Int):=by
   show (gW 10 (dS l))[_]? =some _
   rw [nq (by omega)]
  refine ⟨⟨by omega,h⟩,_,hc,ab (fun h1=>?_) fun h1=>au (by omega) ⟨g.toNat - (k+1),by omega,k+1,by omega,rfl,by simp,fun j hj=>?_⟩⟩
  ·rw [Bool.eq_false_iff]
   intro hc
   have:=of_decide_eq_true (List.all_eq_true.1 hc k (List.mem_range.2 hkg))
   apply h1
   have e:((((1:Int).toNat+(k:Int).toNat:Nat):Int).toNat:Int)=(k:Int)+1:=by omega
   rw [e,this];rfl
  ·rcases Nat.lt_or_ge j k with h2 | h2
   ·exact hall j h2
   ·obtain rfl:j=k:=by omega
    have h3:=Decidable.of_not_not h1
    have e:((((1:Int).toNat+(j:Int).toNat:Nat):Int).toNat:Int)=(j:Int)+1:=by omega
    rw [e] at h3
    omega
 ·simp only at h
  exact List.all_eq_true.2 fun j hj=>decide_eq_true (hall j (by have:=List.mem_range.1 hj;omega))
theorem Bp (l:List ND) (g:Int) (hl:1≤l.length) (hl2:l.length≤1000) (hg0:0≤g) (hg:g≤9):
  ba (fun ag4 s=>pa (gW l.length (cg l)) (l,g) (nL (dS l)) ag4 s (((List.range (l.length - 1)).all fun (j:Nat)=>decide ((cg l).count (j:Int)=1)) && ((List.range g.toNat).all fun (j:Nat)=>decide ((dS l).count ((j:Int)+1)=1)))) 0:=by
 refine ct (fun st m=>∃ k:Nat,k≤l.length - 1∧m=l.length - 1 - k∧st=(k:Int)∧∀ j,j<k→(cg l).count (j:Int)=1) _ ⟨0,by omega,rfl,rfl,fun j hj=>by omega⟩ ?_
 rintro st m ⟨k,hk,rfl,rfl,hall⟩
 have hlen:((gW l.length (cg l)).take ((((l,g).1.length:Int) - 1):Int).toNat).length=l.length - 1:=by
  rw [List.length_take,m4];simp only;omega
 refine ab (fun h=>?_) fun h=>?_
 ·rw [hlen] at h
  have hx:((gW l.length (cg l)).take ((((l,g).1.length:Int) - 1):Int).toNat)[(k:Int).toNat]? =some (((cg l).count (k:Int):Nat):Int):=by
   rw [Int.toNat_natCast,List.getElem?_take,if_pos (by simp only;omega),nq (by omega)]
  refine ⟨by omega,_,hx,ab (fun h1=>?_) fun h1=>au (by omega) ⟨l.length - 1 - (k+1),by omega,k+1,by omega,rfl,by simp,fun j hj=>?_⟩⟩
  ·rw [Bool.eq_false_iff]
   intro hc
   rw [Bool.and_eq_true] at hc
   have:=of_decide_eq_true (List.all_eq_true.1 hc.1 k (List.mem_range.2 (by omega)))
   apply h1
   rw [this];rfl
  ·rcases Nat.lt_or_ge j k with h2 | h2
   ·exact hall j h2
   ·obtain rfl:j=k:=by omega
    have h3:=Decidable.of_not_not h1
    omega
 ·rw [hlen] at h
  have e:((List.range (l.length - 1)).all fun (j:Nat)=>decide ((cg l).count (j:Int)=1))=true:=List.all_eq_true.2 fun j hj=>decide_eq_true (hall j (by have:=List.mem_range.1 hj;omega))
  rw [e,Bool.true_and]
  exact au (by omega) ⟨by omega,by simp only;omega,⟨by simp only;omega,by simp only;omega,by decide⟩,Bo l g hg0 hg⟩
theorem nt (l:List ND) (g:Int):fk (l,g) (eC l g):=by
 show mF (l,g) _ _
 refine ab (fun h=>?_) fun h=>?_
 ·simp only [Bool.or_eq_true,decide_eq_true_eq] at h
  unfold eC
  rcases h with h | h | h | h
  ·have:¬ 1≤l.length:=by omega
   simp [this]
  ·have:¬ l.length≤1000:=by omega
   simp [this]
  ·have:¬ 0≤g:=by omega
   simp [this]
  ·have:¬ g≤9:=by omega
   simp [this]
 simp only [Bool.or_eq_true,decide_eq_true_eq,not_or] at h
 obtain ⟨q1,q2,q3,q4⟩:=h
 have hl:1≤l.length:=by omega
 have hl2:l.length≤1000:=by omega
 have hg0:0≤g:=by omega
 have hg:g≤9:=by omega
 have hR:eC l g=(np l g && (((List.range (l.length - 1)).all fun (j:Nat)=>decide ((cg l).count (j:Int)=1)) && ((List.range g.toNat).all fun (j:Nat)=>decide ((dS l).count ((j:Int)+1)=1)))):=by
  unfold eC
  rw [decide_eq_true hl,decide_eq_true hl2,decide_eq_true hg0,decide_eq_true hg]
  simp only [Bool.true_and,Bool.and_assoc]
 refine ⟨⟨by omega,by omega,by simp only;omega,by simp only;omega⟩,?_⟩
 refine ct (fun (st:Int×List Int×Arr 10 Int) m=>∃ k:Nat,k≤l.length∧m=l.length - k∧st=((k:Int),gW l.length (cg (l.take k)),nL (dS (l.take k)))∧∀ (i:Nat) x,i<k→l[i]? =some x→aP x i g=true) l.length ⟨0,by omega,rfl,?_,fun i x hi=>by omega⟩ ?_
 ·have e1:(List.replicate (((l,g).1.length:Int):Int).toNat 0:List Int)=gW l.length (cg (l.take 0)):=by
   apply List.ext_getElem?
   intro i
   rcases Nat.lt_or_ge i l.length with hi | hi
   ·rw [nq hi,List.getElem?_replicate,if_pos (by simpa using hi)]
    simp [cg]
   ·rw [List.getElem?_eq_none (by simpa using hi),List.getElem?_eq_none (by rw [m4];omega)]
  have e2:(Arr.rep 10 0:Arr 10 Int)=nL (dS (l.take 0)):=by
   apply Arr.ext
   rw [List.take_zero]
   rfl
  rw [e1,e2];rfl
 rintro _ m ⟨k,hk,rfl,rfl,hall⟩
 show pb (l,g) _ (k:Int) (gW l.length (cg (l.take k))) (nL (dS (l.take k))) (eC l g)
 refine ab (fun h=>?_) fun h=>?_
 ·simp only at h
  have hkl:k<l.length:=by omega
  refine at_ (by omega) (by simp only;omega) fun x hx=>?_
  rw [Int.toNat_natCast] at hx
  simp only at hx
  refine ⟨_,pZ x (k:Int) g,ab (fun hb=>?_) fun hb=>?_⟩
  ·rw [hR,zH hx (by simpa using hb)];rfl
  ·have hb:aP x k g=true:=Decidable.of_not_not hb
   obtain ⟨hp,h5⟩:=sy hb
   refine ⟨_,vL x,?_⟩
   refine ct (fun (st:Int×List Int) m=>∃ i:Nat,i≤(aY x).length∧m=(aY x).length - i∧st=((i:Int),gW l.length (cg (l.take k)++(aY x).take i))) (aY x).length ⟨0,by omega,rfl,by simp⟩ ?_
   rintro _ m ⟨i,hi,rfl,rfl⟩
   show o8 (aY x) x (nL (dS (l.take k))) (k:Int) _ _ (i:Int) (gW l.length (cg (l.take k)++(aY x).take i)) (eC l g)
   have hul:=vJ (l.take k)
   rw [List.length_take] at hul
   have hpl:=pY x
   refine ab (fun h1=>?_) fun h1=>?_
   ·refine at_ (by omega) (by omega) fun z hz=>?_
    rw [Int.toNat_natCast] at hz
    obtain ⟨z0,z1⟩:=hp z (List.mem_of_getElem? hz)
    have hc:(gW l.length (cg (l.take k)++(aY x).take i))[z.toNat]? =some (((cg (l.take k)++(aY x).take i).count z:Nat):Int):=by
     rw [nq (by omega),Int.toNat_of_nonneg z0]
    have hcl:(cg (l.take k)++(aY x).take i).count z≤(cg (l.take k)++(aY x).take i).length:=List.count_le_length
    rw [List.length_append,List.length_take] at hcl
    refine ⟨z0,_,hc,au (by omega) ⟨z0,_,hc,au (by omega) ⟨(aY x).length - (i+1),by omega,i+1,by omega,rfl,?_⟩⟩⟩
    rw [wU z0 (by omega),List.take_add_one,hz]
    simp
   ·have hi':i=(aY x).length:=by omega
    have e1:gW l.length (cg (l.take k)++(aY x).take i)=gW l.length (cg (l.take (k+1))):=by
     rw [zG hx,hi',List.take_length]
    have hgl:=wV (l.take k)
    rw [List.length_take] at hgl
    have hnext:∀ (i:Nat) y,i<k+1→l[i]? =some y→aP y i g=true:=fun i y hi hy=>by
     rcases Nat.lt_or_ge i k with h3 | h3
     ·exact hall i y h3 hy
     ·obtain rfl:i=k:=by omega
      rw [hx] at hy
      obtain rfl:=Option.some.inj hy
      exact hb
    refine ab (fun h6=>?_) fun h6=>?_
    ·obtain ⟨g1,g2⟩:=h5 h6
     have hc:(nL (dS (l.take k))).l[x.2.2.2.2.2.1.toNat]? =some (((dS (l.take k)).count x.2.2.2.2.2.1:Nat):Int):=by
      show (gW 10 _)[_]? =_
      rw [nq (by omega),Int.toNat_of_nonneg (by omega)]
     have hcl:(dS (l.take k)).count x.2.2.2.2.2.1≤(dS (l.take k)).length:=List.count_le_length
     refine ⟨⟨by omega,by omega⟩,_,hc,au (by omega) ⟨⟨by omega,by omega⟩,_,hc,au (by omega) ⟨l.length - (k+1),by omega,k+1,by omega,rfl,?_,hnext⟩⟩⟩
     rw [e1,De (by omega) (by omega),vI hx,if_pos h6];rfl
    ·refine au (by omega) ⟨l.length - (k+1),by omega,k+1,by omega,rfl,?_,hnext⟩
     rw [e1,vI hx,if_neg h6,List.append_nil];rfl
 ·simp only at h
  obtain rfl:k=l.length:=by omega
  have hN:np l g=true:=tZ fun i x hx=>hall i x (List.getElem?_eq_some_iff.1 hx).1 hx
  rw [hR,hN,Bool.true_and,List.take_length]
  refine au (by simp only;omega) ⟨⟨by simp only;omega,by rw [m4];simp only;omega⟩,Bp l g hl hl2 hg0 hg⟩
end Go.Proofs.YtnbceeholnkfeaaGreatDoor
