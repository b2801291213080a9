/- What memory reads as: a typed reading of cells, kept while its blocks stay as they are. -/
import Derived.Below
import Derived.Laws.OwnMore
import Derived.Maps.AppendAt
import Derived.Deep.Draws
import Derived.Laws.Rows
import Derived.OwnWalk
import Derived.Laws.AppendOwnNone
import Derived.Laws.IdiomStrings
import Derived.Deep.Slices
import Derived.Deep.Fields
import Derived.ChangeSame
import Derived.Deep.RegionHeld3
namespace Go.Proofs.YtnbceeholnkfeaaGreatDoor
open Go.RowKit
theorem CK (a:Addr) (i j:Nat):(a.add i).add j=a.add (i+j):=by
 unfold Addr.add
 by_cases hi:i=0 <;> by_cases hj:j=0 <;> simp [hi,hj,Nat.add_assoc]
class Rp (α:Type) where
 size:Nat
 rep:(Nat→Prop)→World→List Value→α→Prop
 len:∀ {S w cs x},rep S w cs x→cs.length=size
 one:∀ {S w cs x},rep S w cs x→∀ u∈cs,u.oneCell'=true
 keep:∀ {S w w' cs x},rep S w cs x→(∀ b,S b→w'.heap[b]? =w.heap[b]?)→rep S w' cs x
 sub:∀ {S T:Nat→Prop} {w cs x},rep S w cs x→(∀ b,S b→T b)→rep T w cs x
instance:Rp UInt8:={
 size:=1
 rep _ _ cs x:=cs=[.int .u8 x.toNat]
 len:=by rintro _ _ _ _ rfl;rfl
 one:=by rintro _ _ _ _ rfl u hu;simp at hu;subst hu;rfl
 keep h _:=h
 sub h _:=h }
instance:Rp Bool:={
 size:=1
 rep _ _ cs x:=cs=[.bool x]
 len:=by rintro _ _ _ _ rfl;rfl
 one:=by rintro _ _ _ _ rfl u hu;simp at hu;subst hu;rfl
 keep h _:=h
 sub h _:=h }
def I64 (x:Int):Prop:=-9223372036854775808≤x∧x≤9223372036854775807
instance:Rp Int:={
 size:=1
 rep _ _ cs x:=cs=[.int .i64 x]∧I64 x
 len:=by rintro _ _ _ _ ⟨rfl,_⟩;rfl
 one:=by rintro _ _ _ _ ⟨rfl,_⟩ u hu;simp at hu;subst hu;rfl
 keep h _:=h
 sub h _:=h }
instance {α β:Type} [Rp α] [Rp β]:Rp (α×β):={
 size:=Rp.size α+Rp.size β
 rep S w cs x:=∃ c d,cs=c++d∧Rp.rep S w c x.1∧Rp.rep S w d x.2
 len:=by rintro _ _ _ _ ⟨c,d,rfl,h1,h2⟩;rw [List.length_append,Rp.len h1,Rp.len h2]
 one:=by
  rintro _ _ _ _ ⟨c,d,rfl,h1,h2⟩ u hu
  rcases List.mem_append.1 hu with h | h
  ·exact Rp.one h1 u h
  ·exact Rp.one h2 u h
 keep:=by rintro _ _ _ _ _ ⟨c,d,rfl,h1,h2⟩ h;exact ⟨c,d,rfl,Rp.keep h1 h,Rp.keep h2 h⟩
 sub:=by rintro _ _ _ _ _ ⟨c,d,rfl,h1,h2⟩ h;exact ⟨c,d,rfl,Rp.sub h1 h,Rp.sub h2 h⟩}
def RowAt {α:Type} [Rp α] (S:Nat→Prop) (w:World) (b o:Nat) (xs:List α):Prop:=
 ∀ i x,xs[i]? =some x→∃ cs,(∀ j u,cs[j]? =some u→w.cell? ⟨b,o+i * Rp.size α+j,none⟩=some u)∧Rp.rep S w cs x
theorem RowAt.keep {α:Type} [Rp α] {S:Nat→Prop} {w w':World} {b o:Nat} {xs:List α} (h:RowAt S w b o xs) (hS:S b) (hk:∀ b,S b→w'.heap[b]? =w.heap[b]?):RowAt S w' b o xs:=by
 intro i x hx
 obtain ⟨cs,hc,hr⟩:=h i x hx
 exact ⟨cs,fun j u hu=>by rw [World.cell?_of_block (w:=w) (hk _ hS)];exact hc j u hu,Rp.keep hr hk⟩
def SlRep {α:Type} [Rp α] (S:Nat→Prop) (w:World) (A:Option Addr) (n c:Nat) (xs:List α):Prop:=
 xs.length=n∧(n≤c∧c≤maxLen)∧(0<n→∃ b o,A=some ⟨b,o,none⟩∧S b∧RowAt S w b o xs)
instance {α:Type} [Rp α]:Rp (List α):={
 size:=1
 rep S w cs xs:=∃ A n c,cs=[.slice A n c]∧SlRep S w A n c xs
 len:=by rintro _ _ _ _ ⟨A,n,c,rfl,_⟩;rfl
 one:=by rintro _ _ _ _ ⟨A,n,c,rfl,_⟩ u hu;simp at hu;subst hu;rfl
 keep:=by
  rintro _ _ _ _ _ ⟨A,n,c,rfl,hl,hc,h⟩ hk
  refine ⟨A,n,c,rfl,hl,hc,fun hn=>?_⟩
  obtain ⟨b0,o,rfl,hS,hr⟩:=h hn
  exact ⟨b0,o,rfl,hS,hr.keep hS hk⟩
 sub:=by
  rintro _ _ _ _ _ ⟨A,n,c,rfl,hl,hc,h⟩ hk
  refine ⟨A,n,c,rfl,hl,hc,fun hn=>?_⟩
  obtain ⟨b0,o,rfl,hS,hr⟩:=h hn
  refine ⟨b0,o,rfl,hk _ hS,fun i x hx=>?_⟩
  obtain ⟨cs,hc,hr⟩:=hr i x hx
  exact ⟨cs,hc,Rp.sub hr hk⟩}
section
variable {α:Type} [Rp α] {S T:Nat→Prop} {w w':World} {A:Option Addr} {n c:Nat} {xs:List α}
theorem SlRep.keep (h:SlRep S w A n c xs) (hk:∀ b,S b→w'.heap[b]? =w.heap[b]?):SlRep S w' A n c xs:=by
 refine ⟨h.1,h.2.1,fun hn=>?_⟩
 obtain ⟨b0,o,rfl,hS,hr⟩:=h.2.2 hn
 exact ⟨b0,o,rfl,hS,hr.keep hS hk⟩
theorem SlRep.sub (h:SlRep S w A n c xs) (hk:∀ b,S b→T b):SlRep T w A n c xs:=by
 refine ⟨h.1,h.2.1,fun hn=>?_⟩
 obtain ⟨b0,o,rfl,hS,hr⟩:=h.2.2 hn
 refine ⟨b0,o,rfl,hk _ hS,fun i x hx=>?_⟩
 obtain ⟨cs,hc,hr⟩:=hr i x hx
 exact ⟨cs,hc,Rp.sub hr hk⟩
theorem SlRep.below {B:Nat} (h:SlRep S w A n c xs) (hS:∀ b,S b→b<B) (hb:Below B w w'):SlRep S w' A n c xs:=h.keep fun b hb'=>hb.block b (hS b hb')
theorem SlRep.set_ (h:SlRep S w A n c xs) {p:Addr} (hp:¬ S p.block) (u:Value):SlRep S (w.setCell p u) A n c xs:=
 h.keep fun _ hb=>Below.heap_setCell _ _ _ _ fun e=>hp (e▸hb)
theorem SlRep.later (h:SlRep S w A n c xs) (hS:∀ b,S b→b<w.heap.size):∀ W,Below w.heap.size w W→SlRep S W A n c xs:=fun _ hb=>h.below hS hb
theorem SlRep.at_ {k:Nat} (h:SlRep S w A n c xs) (hk:k<n):
  ∃ b o x cs,A=some ⟨b,o,none⟩∧S b∧xs[k]? =some x∧(∀ j u,cs[j]? =some u→w.cell? ⟨b,o+k * Rp.size α+j,none⟩=some u)∧Rp.rep S w cs x:=by
 obtain ⟨b0,o,rfl,hS,hr⟩:=h.2.2 (by omega)
 have hl:k<xs.length:=by have:=h.1;omega
 obtain ⟨cs,hc,hr⟩:=hr k xs[k] (List.getElem?_eq_getElem hl)
 exact ⟨b0,o,xs[k],cs,rfl,hS,List.getElem?_eq_getElem hl,hc,hr⟩
theorem SlRep.nil_ (S:Nat→Prop) (w:World) (A:Option Addr) (c:Nat) (hc:c≤maxLen):SlRep S w A 0 c ([]:List α):=⟨rfl,⟨Nat.zero_le _,hc⟩,fun h=>absurd h (by omega)⟩
end
theorem SlRep.drop {α:Type} [Rp α] {S:Nat→Prop} {w:World} {A:Option Addr} {n c k:Nat} {xs:List α} (h:SlRep S w A n c xs) (hk:k<n):
  ∃ b o,A=some ⟨b,o,none⟩∧S b∧SlRep S w (some ⟨b,o+k * Rp.size α,none⟩) (n - k) (c - k) (xs.drop k):=by
 obtain ⟨b0,o,rfl,hS,hr⟩:=h.2.2 (by omega)
 refine ⟨b0,o,rfl,hS,by rw [List.length_drop,h.1],by have:=h.2.1;omega,fun hn=>⟨b0,_,rfl,hS,fun i x hx=>?_⟩⟩
 obtain ⟨cs,hc,hr'⟩:=hr (k+i) x (by rw [List.getElem?_drop] at hx;exact hx)
 refine ⟨cs,fun j u hu=>?_,hr'⟩
 rw [← hc j u hu,Nat.add_mul,Nat.add_assoc o]
theorem SlRep.take {α:Type} [Rp α] {S:Nat→Prop} {w:World} {A:Option Addr} {n c k:Nat} {xs:List α} (h:SlRep S w A n c xs) (hk:k≤n):
  SlRep S w A k c (xs.take k):=by
 refine ⟨by rw [List.length_take,h.1];omega,by have:=h.2.1;omega,fun hn=>?_⟩
 obtain ⟨b0,o,rfl,hS,hr⟩:=h.2.2 (by omega)
 refine ⟨_,_,rfl,hS,fun i x hx=>?_⟩
 rw [List.getElem?_take] at hx
 split at hx
 ·exact hr i x hx
 ·cases hx
theorem SlRep.byte {S:Nat→Prop} {w:World} {A:Option Addr} {n c k:Nat} {xs:List UInt8} (h:SlRep S w A n c xs) (hk:k<n):
  ∃ b o x,A=some ⟨b,o,none⟩∧S b∧xs[k]? =some x∧w.cell? ⟨b,o+k,none⟩=some (.int .u8 (x.toNat:Int)):=by
 obtain ⟨b0,o,x,cs,rfl,hS,hx,hc,hr⟩:=h.at_ hk
 have hr:cs=[.int .u8 x.toNat]:=hr
 subst hr
 have:=hc 0 _ rfl
 refine ⟨b0,o,x,rfl,hS,hx,?_⟩
 have e:(Rp.size UInt8)=1:=rfl
 rw [e,Nat.mul_one,Nat.add_zero] at this
 exact this
end Go.Proofs.YtnbceeholnkfeaaGreatDoor
namespace Go.Proofs.YtnbceeholnkfeaaGreatDoor
open Go.RowKit
def Chunks {α:Type} [Rp α] (S:Nat→Prop) (w:World):List Value→List α→Prop
 | cells,[]=>cells=[]
 | cells,x :: xs=>∃ cs rest,cells=cs++rest∧Rp.rep S w cs x∧Chunks S w rest xs
section
variable {α:Type} [Rp α] {S T:Nat→Prop} {w w':World}
theorem Chunks.length:∀ {xs:List α} {cells},Chunks S w cells xs→cells.length=xs.length * Rp.size α
 | [],_,h=>by rw [show _=[] from h];simp
 | x :: xs,_,⟨cs,rest,e,h1,h2⟩=>by rw [e,List.length_append,Rp.len h1,h2.length,List.length_cons,Nat.add_mul];omega
theorem Chunks.one:∀ {xs:List α} {cells},Chunks S w cells xs→∀ u∈cells,u.oneCell'=true
 | [],_,h=>by rw [show _=[] from h];simp
 | x :: xs,_,⟨cs,rest,e,h1,h2⟩=>by
  intro u hu
  rw [e] at hu
  rcases List.mem_append.1 hu with h | h
  ·exact Rp.one h1 u h
  ·exact h2.one u h
theorem Chunks.keep (hk:∀ b,S b→w'.heap[b]? =w.heap[b]?):∀ {xs:List α} {cells},Chunks S w cells xs→Chunks S w' cells xs
 | [],_,h=>h
 | _ :: _,_,⟨cs,rest,e,h1,h2⟩=>⟨cs,rest,e,Rp.keep h1 hk,h2.keep hk⟩
theorem Chunks.sub (hk:∀ b,S b→T b):∀ {xs:List α} {cells},Chunks S w cells xs→Chunks T w cells xs
 | [],_,h=>h
 | _ :: _,_,⟨cs,rest,e,h1,h2⟩=>⟨cs,rest,e,Rp.sub h1 hk,h2.sub hk⟩
theorem Chunks.append {ys:List α} {ds} (h':Chunks S w ds ys):∀ {xs:List α} {cells},Chunks S w cells xs→Chunks S w (cells++ds) (xs++ys)
 | [],_,h=>by rw [show _=[] from h];exact h'
 | _ :: _,_,⟨cs,rest,e,h1,h2⟩=>⟨cs,rest++ds,by rw [e,List.append_assoc],h1,Chunks.append h' h2⟩
theorem Chunks.at_:∀ {xs:List α} {cells},Chunks S w cells xs→∀ {k x},xs[k]? =some x→∃ cs,Rp.rep S w cs x∧∀ j u,cs[j]? =some u→cells[k * Rp.size α+j]? =some u
 | [],_,_,k,x,hx=>by simp at hx
 | y :: xs,_,⟨cs,rest,e,h1,h2⟩,0,x,hx=>by
  simp at hx;subst hx
  refine ⟨cs,h1,fun j u hu=>?_⟩
  have hj:j<cs.length:=(List.getElem?_eq_some_iff.1 hu).1
  rw [e,Nat.zero_mul,Nat.zero_add,List.getElem?_append_left hj];exact hu
 | y :: xs,_,⟨cs,rest,e,h1,h2⟩,k+1,x,hx=>by
  obtain ⟨ds,hd,hc⟩:=h2.at_ (k:=k) (x:=x) (by simpa using hx)
  refine ⟨ds,hd,fun j u hu=>?_⟩
  rw [e,show (k+1) * Rp.size α+j=cs.length+(k * Rp.size α+j) by rw [Rp.len h1,Nat.add_mul];omega,List.getElem?_append_right (by omega),show cs.length+(k * Rp.size α+j) - cs.length=k * Rp.size α+j by omega]
  exact hc j u hu
theorem Ea (b o j:Nat):(⟨b,o,none⟩:Addr).add j=⟨b,o+j,none⟩:=by unfold Addr.add;split <;> simp_all
end
structure GO (P:Program) (t E:TypeId) (size bytes:Nat):Prop where
 und:P.underlying t=some (.slice E)
 info:∃ i z,P.info? E=some i∧i.zero=some z∧i.size=size∧i.bytes=bytes∧z.cells.size=size
 pos:0<size
structure Own {α:Type} [Rp α] (S:Nat→Prop) (w:World) (base:Nat) (E:TypeId) (v:Value) (xs:List α):Prop where
 row:∃ cells,w.ownsRow base E (Rp.size α) v xs.length cells∧Chunks S w cells xs
 lt:∀ b,S b→b<w.heap.size
 off:∀ b,S b→v.ownBlock≠some b
section
variable {α:Type} [Rp α] {S T:Nat→Prop} {w w':World} {base:Nat} {E:TypeId} {v:Value} {xs:List α}
theorem Own.nil_ (S:Nat→Prop) (w:World) (base:Nat) (E:TypeId) (h:∀ b,S b→b<w.heap.size):Own S w base E (.slice none 0 0) ([]:List α):=
 ⟨⟨[],World.ownsRow_nil w base E _,rfl⟩,h,fun b _=>by simp [Value.ownBlock]⟩
theorem Own.block (h:Own S w base E v xs):∀ g,v.ownBlock=some g→base≤g∧g<w.heap.size:=by
 obtain ⟨cells,h1,_⟩:=h.row;exact h1.lt
theorem Own.sl (h:Own S w base E v xs):∃ A c,v= .slice A xs.length c∧c≤maxLen∧SlRep (fun b=>S b∨v.ownBlock=some b) w A xs.length c xs:=by
 obtain ⟨cells,h1,h2⟩:=h.row
 rcases h1.2 with ⟨rfl,h0⟩| ⟨g,cap,cur,rfl,hg,hh,hn,hm,hs,ht⟩
 ·have hx:xs=[]:=List.eq_nil_of_length_eq_zero h0
  subst hx
  exact ⟨none,0,rfl,by simp [maxLen],SlRep.nil_ _ _ _ _ (by simp [maxLen])⟩
 ·refine ⟨_,cap,rfl,hm,rfl,⟨hn,hm⟩,fun hp=>⟨_,_,rfl,.inr rfl,fun i x hx=>?_⟩⟩
  obtain ⟨cs,hr,hc⟩:=h2.at_ hx
  exact ⟨cs,fun j u hu=>by have:=h1.cells (g:=g) rfl _ u (hc j u hu);rw [Ea] at this;rw [Nat.add_assoc];exact this,Rp.sub hr fun b hb=>.inl hb⟩
theorem Own.kept {row:Option Nat} (h:Own S w base E v xs) (hg:w.grownBy w' row) (hne:v.ownBlock=none∨v.ownBlock≠row) (hS:∀ b,S b→some b≠row):Own S w' base E v xs:=by
 obtain ⟨cells,h1,h2⟩:=h.row
 exact ⟨⟨cells,h1.kept hg hne,h2.keep fun b hb=>hg.block b (h.lt b hb) (hS b hb)⟩,fun b hb=>Nat.lt_of_lt_of_le (h.lt b hb) hg.size,h.off⟩
theorem ta (h:Below w.heap.size w w') (row:Option Nat):w.grownBy w' row:=⟨h.os,h.tape,h.output,h.size,fun i hi _=>h.block i hi⟩
theorem Own.below (h:Own S w base E v xs) (hb:Below w.heap.size w w'):Own S w' base E v xs:=by
 refine h.kept (row:=Option.none) (ta hb _) ?_ (fun b _=>by simp)
 cases h':v.ownBlock with
 | none=>exact .inl rfl
 | some g=>exact .inr (by simp)
theorem Own.alloc (h:Own S w base E v xs) (o:Obj):Own S (w.alloc o) base E v xs:=h.below ((Below.refl _ _).alloc (Nat.le_refl _) o)
theorem Own.drew (h:Own S w base E v xs):Own S w.drew base E v xs:=h.below (Below.refl _ _).drew
theorem Own.drewN (h:Own S w base E v xs) (k:Nat):Own S (w.drewN k) base E v xs:=h.below ⟨rfl,rfl,rfl,Nat.le_refl _,fun _ _=>rfl⟩
theorem Own.sub (h:Own S w base E v xs) (hk:∀ b,S b→T b) (hlt:∀ b,T b→b<w.heap.size) (hoff:∀ b,T b→v.ownBlock≠some b):Own T w base E v xs:=by
 obtain ⟨cells,h1,h2⟩:=h.row
 exact ⟨⟨cells,h1,h2.sub hk⟩,hlt,hoff⟩
end
theorem Chunks.flat {S T:Nat→Prop} {w w':World}:∀ {xs:List UInt8} {cells},Chunks S w cells xs→Chunks T w' cells xs
 | [],_,h=>h
 | _ :: _,_,⟨cs,rest,e,h1,h2⟩=>⟨cs,rest,e,h1,Chunks.flat h2⟩
abbrev OwnB (w:World) (base:Nat) (E:TypeId) (v:Value) (xs:List UInt8):Prop:=Own (fun _=>False) w base E v xs
theorem Own.flat {S:Nat→Prop} {w:World} {base:Nat} {E:TypeId} {v:Value} {xs:List UInt8} (h:Own S w base E v xs):OwnB w base E v xs:=by
 obtain ⟨cells,h1,h2⟩:=h.row
 exact ⟨⟨cells,h1,h2.flat⟩,fun _ h=>h.elim,fun _ h=>h.elim⟩
theorem OwnB.nil_ (w:World) (base:Nat) (E:TypeId):OwnB w base E (.slice none 0 0) []:=Own.nil_ _ _ _ _ fun _ h=>h.elim
theorem OwnB.grown {w w':World} {base:Nat} {E:TypeId} {v:Value} {xs:List UInt8} {row:Option Nat} (h:OwnB w base E v xs) (hg:w.grownBy w' row) (hne:v.ownBlock=none∨v.ownBlock≠row):OwnB w' base E v xs:=
 h.kept hg hne fun _ h=>h.elim
def Apart (v u:Value):Prop:=∀ b,v.ownBlock=some b→u.ownBlock≠some b
theorem Apart.symm {v u:Value} (h:Apart v u):Apart u v:=fun b h1 h2=>h b h2 h1
theorem Apart.step {v v' u:Value} {B:Nat} (h:Apart v u) (hat:v'.ownBlock=v.ownBlock∨∃ g,v'.ownBlock=some g∧B≤g) (hu:∀ b,u.ownBlock=some b→b<B):Apart v' u:=by
 intro b h1 h2
 rcases hat with e | ⟨g,e,hg⟩
 ·exact h b (e.symm.trans h1) h2
 ·rw [e] at h1;injection h1 with h1;have:=hu b h2;omega
theorem Apart.or_ {v u:Value} (h:Apart v u):v.ownBlock=none∨v.ownBlock≠u.ownBlock:=by
 cases hv:v.ownBlock with
 | none=>exact .inl rfl
 | some b=>exact .inr fun e=>h b hv e.symm
theorem Own.grow {α:Type} [Rp α] {S:Nat→Prop} {w w':World} {base:Nat} {E:TypeId} {v u:Value} {xs:List α} (h:Own S w base E v xs) (hg:w.grownBy w' u.ownBlock) (ha:Apart v u) (hS:∀ b,S b→u.ownBlock≠some b):Own S w' base E v xs:=
 h.kept hg ha.or_ fun b hb e=>hS b hb e.symm
theorem OwnB.grow {w w':World} {base:Nat} {E:TypeId} {v u:Value} {xs:List UInt8} (h:OwnB w base E v xs) (hg:w.grownBy w' u.ownBlock) (ha:Apart v u):OwnB w' base E v xs:=Own.grow h hg ha fun _ h=>h.elim
section
variable {P:Program} {α:Type} [Rp α] {S:Nat→Prop} {w:World}
end
end Go.Proofs.YtnbceeholnkfeaaGreatDoor
namespace Go.Proofs.YtnbceeholnkfeaaGreatDoor
open Go.RowKit Go.Deep Go.ChangeShapes Go.WideShapes
structure sg (P:Program) (α:Type) [Rp α] (t:TypeId):Prop where
 out:∀ {H:Type} {enc:TypeId×Value→H} {w:World} {base:Nat} {spare:Nat→Bool} {held:Bool} (fuel:Nat) (cs:List Value) (x:DataW H×List MemPlace),
  DataW.trod enc P w base spare held fuel t cs=some x→∃ y:α,Rp.rep (fun b=>b<w.heap.size) w cs y
structure GM (P:Program) (α:Type) [Rp α] (fs:List Field) (off:Nat):Prop where
 out:∀ {H:Type} {enc:TypeId×Value→H} {w:World} {base:Nat} {spare:Nat→Bool} {held:Bool} (n:Nat) (cs:List Value),cs.length=off+Rp.size α→
  (∀ f∈fs,∃ x,DataW.trod enc P w base spare held n f.type ((cs.drop f.offset).take (P.cellsOf f.type))=some x)→∃ y:α,Rp.rep (fun b=>b<w.heap.size) w (cs.drop off) y
section
variable {P:Program} {α β:Type} [Rp α] [Rp β]
theorem ri {w:World} {a:Addr} {v:Value} (h:w.cell? a=some v):a.block<w.heap.size:=by
 rcases Nat.lt_or_ge a.block w.heap.size with h' | h'
 ·exact h'
 ·simp [World.cell?,Array.getElem?_eq_none h'] at h
theorem uY {w:World} {a:Addr} {v:Value} (h:w.cell? a=some v):a.spot=none:=by
 unfold World.cell? at h
 split at h
 ·split at h
  ·cases h
  ·rename_i hs;simpa using hs
 ·cases h
theorem AK {n:Int} (hw:(Lit.int .u8 n).wf=true):0≤n∧n≤255:=by
 simp only [Lit.wf,Bool.and_eq_true,decide_eq_true_eq] at hw
 have e1:IntKind.u8.min=0:=by decide
 have e2:IntKind.u8.max=255:=by decide
 rw [e1,e2] at hw
 exact hw
theorem uZ {t:TypeId} (ht:P.underlying t=some (.int .u8)):sg P UInt8 t:=by
 constructor
 intro H enc w base spare held fuel cs x h
 obtain ⟨n,rfl,_,hw⟩:=DataW.trod_int ht h
 have hb:=AK hw
 refine ⟨UInt8.ofNat n.toNat,?_⟩
 show [Value.int .u8 n]=[.int .u8 ((UInt8.ofNat n.toNat).toNat:Int)]
 rw [UInt8.toNat_ofNat']
 congr 2
 omega
theorem xz {w:World} {b o:Nat}:∀ (n i:Nat),(∀ j,j<n→∃ (cs:List Value) (y:α),(∀ q u,cs[q]? =some u→w.cell? ⟨b,o+(i+j) * Rp.size α+q,none⟩=some u)∧Rp.rep (fun b=>b<w.heap.size) w cs y)→
  ∃ ys:List α,ys.length=n∧∀ j y,ys[j]? =some y→∃ cs:List Value,(∀ q u,cs[q]? =some u→w.cell? ⟨b,o+(i+j) * Rp.size α+q,none⟩=some u)∧Rp.rep (fun b=>b<w.heap.size) w cs y:=by
 intro n
 induction n with
 | zero=>intro i _;exact ⟨[],rfl,fun j y h=>by simp at h⟩
 | succ n ih=>
  intro i h
  obtain ⟨cs,y,h1,h2⟩:=h 0 (by omega)
  obtain ⟨ys,h3,h4⟩:=ih (i+1) fun j hj=>by
   obtain ⟨cs,y,h1,h2⟩:=h (j+1) (by omega)
   exact ⟨cs,y,fun q u hu=>by rw [show i+1+j=i+(j+1) by omega];exact h1 q u hu,h2⟩
  refine ⟨y :: ys,by simp [h3],fun j z hz=>?_⟩
  cases j with
  | zero=>simp at hz;subst hz;exact ⟨cs,h1,h2⟩
  | succ j=>
   obtain ⟨cs,h5,h6⟩:=h4 j z (by simpa using hz)
   exact ⟨cs,fun q u hu=>by rw [show i+(j+1)=i+1+j by omega];exact h5 q u hu,h6⟩
theorem sh {t e:TypeId} (ht:P.underlying t=some (.slice e)) (hc:P.cellsOf e=Rp.size α) (hp:0<Rp.size α) (h:sg P α e):sg P (List α) t:=by
 constructor
 intro H enc w base spare held fuel cs x hx
 rcases open_slice ht hx with ⟨rfl,_⟩| ⟨a,len,cap,m,n,D,Pl,rfl,hb,hl,hm,hmm,_,hi⟩
 ·exact ⟨[],none,0,0,rfl,SlRep.nil_ _ _ _ _ (by simp [maxLen])⟩
 ·have hlm:len≤m:=by rw [hmm];split <;> omega
  rcases Nat.eq_zero_or_pos len with h0 | h0
  ·subst h0
   exact ⟨[],_,0,cap,rfl,SlRep.nil_ _ _ _ _ hm⟩
  ·have hcell:∀ j,j<len→∃ (cs':List Value) (y:α),cs'.length=Rp.size α∧(∀ q,q<Rp.size α→w.cell? ((a.add (j * Rp.size α)).add q)=cs'[q]?)∧Rp.rep (fun b=>b<w.heap.size) w cs' y:=by
    intro j hj
    obtain ⟨cs',h1,h2⟩:=hi j (by omega)
    obtain ⟨_,h3,h4⟩:=World.cells?_some h1
    obtain ⟨y,hy⟩:=h.out _ _ _ h2
    rw [hc] at h3 h4
    exact ⟨cs',y,h3,h4,hy⟩
   obtain ⟨cs0,y0,h1,h2,_⟩:=hcell 0 h0
   have hc0:w.cell? a=some (cs0[0]'(by omega)):=by
    have:=h2 0 hp
    rw [Nat.zero_mul] at this
    rw [← List.getElem?_eq_getElem];exact this
   have hsp:=uY hc0
   have hbl:=ri hc0
   obtain ⟨b,o,sp⟩:=a
   simp only at hsp hbl
   subst hsp
   obtain ⟨ys,h3,h4⟩:=xz (α:=α) (w:=w) (b:=b) (o:=o) len 0 fun j hj=>by
    obtain ⟨cs',y,h5,h6,h7⟩:=hcell j hj
    refine ⟨cs',y,fun q u hu=>?_,h7⟩
    have hq:q<Rp.size α:=by have:=(List.getElem?_eq_some_iff.1 hu).1;omega
    have h8:=h6 q hq
    rw [CK] at h8
    rw [Nat.zero_add,← hu,← h8]
    congr 1
    unfold Addr.add;split <;> simp_all [Nat.add_assoc]
   refine ⟨ys,_,len,cap,rfl,h3,⟨hl,hm⟩,fun _=>⟨b,o,rfl,hbl,fun i y hy=>?_⟩⟩
   obtain ⟨cs,h5,h6⟩:=h4 i y hy
   exact ⟨cs,by rw [Nat.zero_add] at h5;exact h5,h6⟩
end
end Go.Proofs.YtnbceeholnkfeaaGreatDoor
namespace Go.Proofs.YtnbceeholnkfeaaGreatDoor
def sM (P:Program) {α:Type} (s:Sem α):Prop:=∀ w x w',s.run P w≠.ok x w'
structure Ext (h h':Array Obj):Prop where
 size:h.size≤h'.size
 at_:∀ k,k<h.size→h'[k]? =h[k]?
theorem Ext.refl (h:Array Obj):Ext h h:=⟨Nat.le_refl _,fun _ _=>rfl⟩
theorem Ext.trans {a b c:Array Obj} (h:Ext a b) (k:Ext b c):Ext a c:=⟨Nat.le_trans h.size k.size,fun i hi=>(k.at_ i (Nat.lt_of_lt_of_le hi h.size)).trans (h.at_ i hi)⟩
theorem Ext.push (h:Array Obj) (o:Obj):Ext h (h.push o):=⟨by simp,fun k hk=>by rw [Array.getElem?_push_lt hk,Array.getElem?_eq_getElem hk]⟩
theorem Ext.cell {w W:World} (h:Ext w.heap W.heap) (b o:Nat) (hs:(w.cell? ⟨b,o,none⟩).isSome=true):W.cell? ⟨b,o,none⟩=w.cell? ⟨b,o,none⟩:=by
 rcases Nat.lt_or_ge b w.heap.size with hb | hb
 ·simp only [World.cell?,h.at_ b hb]
 ·rw [show w.cell? ⟨b,o,none⟩=none by simp [World.cell?,Array.getElem?_eq_none hb]] at hs
  cases hs
inductive Calm (P:Program) {α:Type}:Sem α→Prop where
 | pure (a:α):Calm P (.pure a)
 | load (m:Mode) (a:Addr) (k:Value→Sem α) (h:∀ v,Calm P (k v)):Calm P (.load m a k)
 | shape (r:Nat) (k:Option (TypeId×Nat)→Sem α) (h:∀ v,Calm P (k v)):Calm P (.shape r k)
 | frozen (a:Addr) (k:Bool→Sem α) (h:∀ v,Calm P (k v)):Calm P (.frozen a k)
 | getObj (r:Nat) (k:Obj→Sem α) (h:∀ v,Calm P (k v)):Calm P (.getObj r k)
 | choose (q:Question) (k:Nat→Sem α) (h:∀ v,Calm P (k v)):Calm P (.choose q k)
 | program (k:Program→Sem α) (h:Calm P (k P)):Calm P (.program k)
 | mark (m:Mark) (k:Sem α) (h:Calm P k):Calm P (.mark m k)
 | new (o:Obj) (k:Nat→Sem α) (h:∀ v,Calm P (k v)):Calm P (.new o k)
 | halt (h:Halt):Calm P (.halt h)
 | dead (s:Sem α) (h:sM P s):Calm P s
section
variable {P:Program} {α β:Type}
theorem Calm.bind' {s:Sem α} (hs:Calm P s):∀ {f:α→Sem β},(∀ a,Calm P (f a))→Calm P (s.bind f):=by
 induction hs with
 | pure a=>intro f hf;exact hf a
 | load m a k _ ih=>intro f hf;exact .load _ _ _ fun v=>ih v hf
 | shape r k _ ih=>intro f hf;exact .shape _ _ fun v=>ih v hf
 | frozen r k _ ih=>intro f hf;exact .frozen _ _ fun v=>ih v hf
 | getObj r k _ ih=>intro f hf;exact .getObj _ _ fun v=>ih v hf
 | choose r k _ ih=>intro f hf;exact .choose _ _ fun v=>ih v hf
 | program k _ ih=>intro f hf;exact .program _ (ih hf)
 | mark m k _ ih=>intro f hf;exact .mark _ _ (ih hf)
 | new o k _ ih=>intro f hf;exact .new _ _ fun v=>ih v hf
 | halt h=>intro f _;exact .halt h
 | dead s h=>
  intro f _
  refine .dead _ fun w x w' hr=>?_
  rw [Sem.run_bind'] at hr
  cases hs:s.run P w with
  | ok a w1=>exact h _ _ _ hs
  | halt h w1=>rw [hs] at hr;simp [Result.andThen] at hr
theorem Calm.bind {s:Sem α} {f:α→Sem β} (hs:Calm P s) (hf:∀ a,Calm P (f a)):Calm P (s >>=f):=hs.bind' hf
theorem Calm.run {s:Sem α} (hs:Calm P s):∀ {w:World} {x:α} {w':World},s.run P w= .ok x w'→Ext w.heap w'.heap:=by
 induction hs with
 | pure a=>intro w x w' h;simp [Sem.run] at h;rw [h.2];exact .refl _
 | load m a k _ ih=>
  intro w x w' h
  simp only [Sem.run] at h
  split at h
  ·exact ih _ h
  ·split at h
   ·exact ih _ h
   ·cases h
 | shape r k _ ih=>intro w x w' h;simp only [Sem.run] at h;exact ih _ h
 | frozen r k _ ih=>intro w x w' h;simp only [Sem.run] at h;exact ih _ h
 | getObj r k _ ih=>
  intro w x w' h
  simp only [Sem.run] at h
  split at h
  ·cases h
  ·exact ih _ h
  ·cases h
 | choose r k _ ih=>
  intro w x w' h
  simp only [Sem.run] at h
  split at h
  ·exact ih _ h
  ·exact (ih _ h:_)
 | program k _ ih=>intro w x w' h;simp only [Sem.run] at h;exact ih h
 | mark m k _ ih=>intro w x w' h;simp only [Sem.run] at h;exact ih h
 | new o k _ ih=>
  intro w x w' h
  simp only [Sem.run] at h
  exact (Ext.push _ _).trans (ih _ h)
 | halt h=>intro w x w' h;simp [Sem.run] at h
 | dead s h=>intro w x w' hr;exact absurd hr (h _ _ _)
theorem aF (a:α):Calm P (Pure.pure a:Sem α):=.pure a
theorem cm (s:String):Calm P (stuck s:Sem α):=.halt _
theorem eP (u:Unsupported):Calm P (unsupported u:Sem α):=.halt _
theorem kK:Calm P program:=.program _ (.pure _)
theorem tE (a:Addr) (m:Mode):Calm P (load a m):=.load _ _ _ fun _=>.pure _
theorem rO (r:Nat):Calm P (shape r):=.shape _ _ fun _=>.pure _
theorem qK (r:Nat):Calm P (getObj r):=.getObj _ _ fun _=>.pure _
theorem mC (t:TypeId):Calm P (typeInfo t):=by
 refine Calm.bind kK fun p=>?_
 split
 ·exact aF _
 ·exact cm _
theorem dc (t:TypeId):Calm P (underlying t):=by
 refine Calm.bind kK fun p=>?_
 split
 ·exact aF _
 ·exact cm _
theorem jd (t:TypeId):Calm P (sizeOf t):=Calm.bind (mC t) fun _=>aF _
theorem nN (t:TypeId):Calm P (zeroValue t):=by
 refine Calm.bind (mC t) fun _=>?_
 split
 ·exact aF _
 ·exact eP _
theorem qL (t:TypeId) (cs:Array Value):Calm P (newRow t cs):=Calm.bind (Calm.new _ _ fun _=>.pure _) fun _=>aF _
theorem rP (t:TypeId):Calm P (isAgg t):=by
 refine Calm.bind (dc t) fun p=>?_
 split <;> exact aF _
theorem mm (a:Addr):∀ (n i:Nat) (acc:Array Value),Calm P (loadCellsFrom a i n acc)
 | 0,_,_=>aF _
 | n+1,i,_=>Calm.bind (tE _ _) fun _=>mm a n (i+1) _
theorem ux (t:TypeId) (a:Addr):Calm P (loadVar t a):=by
 refine Calm.bind (rP t) fun p=>?_
 split
 ·exact Calm.bind (jd t) fun _=>Calm.bind (mm _ _ _ _) fun _=>aF _
 ·exact tE _ _
theorem pA (v:Value):Calm P (asIntOf v):=by
 unfold asIntOf;split
 ·exact aF _
 ·exact eP _
 ·exact cm _
theorem vY (v:Value):Calm P (asBool v):=by
 unfold asBool;split
 ·exact aF _
 ·exact cm _
theorem j4 (v:Value):Calm P (Instr.sureAddr v):=by
 unfold Instr.sureAddr;split
 ·exact aF _
 ·exact cm _
theorem mn {s:Sem α} {f:α→Sem β} (hf:∀ a,sM P (f a)):sM P (s >>=f):=by
 intro w x w' hr
 rw [Sem.run_bind] at hr
 cases hs:s.run P w with
 | ok a w1=>rw [hs,Result.andThen_ok] at hr;exact hf _ _ _ _ hr
 | halt h w1=>rw [hs] at hr;simp [Result.andThen] at hr
theorem pB (v:Value):sM P (goPanic v:Sem α):=fun w x w' hr=>by simp [goPanic] at hr
theorem hH (e:RuntimeError):sM P (runtimePanic e:Sem α):=by
 refine mn fun p=>?_
 dsimp only
 split <;> first
  | exact pB _
  | exact mn fun _=>mn fun _=>pB _
theorem mP (e:RuntimeError):Calm P (runtimePanic e:Sem α):=.dead _ (hH e)
theorem m8 (k:IntKind) (x y:Int) (c:BoundsCode):Calm P (boundsPanic k x y c:Sem α):=by
 unfold boundsPanic
 dsimp only
 split
 ·exact .dead _ (mn fun _=>hH _)
 ·exact .dead _ (mn fun _=>hH _)
theorem rQ (x:Value) (y:Nat) (c:BoundsCode):Calm P (Instr.sliceBound x y c):=by
 refine Calm.bind (pA x) fun p=>?_
 dsimp only
 split
 ·exact aF _
 ·exact m8 _ _ _ _
theorem qT (b:Bool) (l c:Nat) (lo hi mx:Option Value):Calm P (Instr.sliceBounds b l c lo hi mx):=by
 unfold Instr.sliceBounds
 dsimp only
 repeat' first
  | exact aF _
  | exact rQ _ _ _
  | exact cm _
  | (refine Calm.bind ?_ fun _=>?_)
  | split
theorem vZ (r:Nat):Calm P (viewAt r):=by
 unfold viewAt
 repeat' first
  | exact aF _
  | exact rO _
  | exact qK _
  | (refine Calm.bind ?_ fun _=>?_)
  | split
  | (dsimp only;split)
theorem v6 (a:Addr):Calm P (noView a):=by
 refine Calm.bind (vZ _) fun _=>?_
 split
 ·exact eP _
 ·exact aF _
theorem v7 (a:Addr):Calm P (byteOf a):=by
 unfold byteOf
 repeat' first
  | exact aF _
  | exact kK
  | exact v6 _
  | exact rO _
  | exact cm _
  | (refine Calm.bind ?_ fun _=>?_)
  | split
  | (dsimp only;split)
theorem rR (a:Addr) (f:Field):Calm P (fieldPlace a f):=by
 unfold fieldPlace partAt
 repeat' first
  | exact aF _
  | exact jd _
  | exact v7 _
  | (refine Calm.bind ?_ fun _=>?_)
  | split
  | (dsimp only;split)
theorem tF (t:TypeId) (cs:Array Value) (o:Nat):Calm P (part t cs o):=by
 unfold part
 repeat' first
  | exact aF _
  | exact rP _
  | exact jd _
  | exact cm _
  | (refine Calm.bind ?_ fun _=>?_)
  | split
  | (dsimp only;split)
theorem m9:∀ (l:List FieldStep) (t:TypeId) (x:Option Value),Calm P (followBlind l t x)
 | [],_,_=>aF _
 | s :: rest,t,x=>by
  have ih:=fun t x=>m9 rest t x
  unfold followBlind
  repeat' first
   | exact aF _
   | exact ih _ _
   | exact dc _
   | exact tF _ _ _
   | exact cm _
   | (refine Calm.bind ?_ fun _=>?_)
   | split
   | (dsimp only;split)
theorem o6:∀ (n:Nat) (t:TypeId) (v:Value) (name:String),Calm P (nilAhead n t v name)
 | 0,_,_,_=>aF _
 | n+1,t,v,name=>by
  have ih:=fun t v=>o6 n t v name
  unfold nilAhead
  repeat' first
   | exact aF _
   | exact ih _ _
   | exact dc _
   | exact mC _
   | exact m9 _ _ _
   | exact cm _
   | (refine Calm.bind ?_ fun _=>?_)
   | split
   | (dsimp only;split)
def oH (o:Oper):Bool:=match o.op with
 | .move _ | .assign _ | .pick .. | .extract .. | .load .. | .nilCheck _ | .fieldAddr .. | .indexAddr .. | .slice .. | .field ..=>true
 | .alloc _ | .buildSlice ..=>true
 | .call c=>(match c.callee with | .builtin .len=>true | _=>false)
 | _=>false
theorem Cj {o:Oper} (h:oH o=true) (ρ:Operand→Value):Calm P (execOp ρ o):=by
 unfold oH at h
 unfold execOp
 split at h
 all_goals (rename_i e;try rw [e])
 all_goals dsimp only
 ·exact aF _
 ·exact aF _
 ·exact Calm.bind (vY _) fun _=>aF _
 ·refine Calm.bind ?_ fun _=>aF _
  unfold Instr.extract
  repeat' first
   | exact aF _
   | exact cm _
   | split
 ·exact Calm.bind (Calm.bind (j4 _) fun _=>ux _ _) fun _=>aF _
 ·repeat' first
   | exact aF _
   | exact mP _
   | exact kK
   | exact o6 _ _ _ _
   | exact eP _
   | (refine Calm.bind ?_ fun _=>?_)
   | split
   | (dsimp only;split)
 ·refine Calm.bind ?_ fun _=>aF _
  unfold Instr.fieldAt
  repeat' first
   | exact aF _
   | exact dc _
   | exact j4 _
   | exact rR _ _
   | exact cm _
   | (refine Calm.bind ?_ fun _=>?_)
   | split
   | (dsimp only;split)
 ·refine Calm.bind ?_ fun _=>aF _
  unfold Instr.indexAt
  repeat' first
   | exact aF _
   | exact dc _
   | exact j4 _
   | exact pA _
   | exact jd _
   | exact m8 _ _ _ _
   | exact eP _
   | exact cm _
   | (refine Calm.bind ?_ fun _=>?_)
   | split
   | (dsimp only;split)
 ·refine Calm.bind ?_ fun _=>aF _
  unfold Instr.sliceAt Instr.slice asAddr
  repeat' first
   | exact aF _
   | exact dc _
   | exact j4 _
   | exact qT _ _ _ _ _ _
   | exact jd _
   | exact mP _
   | exact cm _
   | (refine Calm.bind ?_ fun _=>?_)
   | split
   | (dsimp only;split)
 ·refine Calm.bind ?_ fun _=>aF _
  unfold Instr.field asAgg
  repeat' first
   | exact aF _
   | exact dc _
   | exact tF _ _ _
   | exact cm _
   | (refine Calm.bind ?_ fun _=>?_)
   | split
   | (dsimp only;split)
 ·refine Calm.bind ?_ fun _=>aF _
  unfold Instr.alloc newVar
  exact Calm.bind (nN _) fun _=>Calm.bind (qL _ _) fun _=>aF _
 ·refine Calm.bind ?_ fun _=>aF _
  unfold Instr.buildSlice
  repeat' first
   | exact aF _
   | exact dc _
   | exact jd _
   | exact nN _
   | exact qL _ _
   | exact eP _
   | exact cm _
   | (refine Calm.bind ?_ fun _=>?_)
   | split
   | (dsimp only;split)
 ·split at h
  ·rename_i hc
   unfold resolve
   rw [hc]
   show Calm P (Builtin.len_ _ _ _ >>=fun x=>Pure.pure (Next.value x))
   refine Calm.bind ?_ fun _=>aF _
   unfold Builtin.len_
   repeat' first
    | exact aF _
    | exact dc _
    | exact qK _
    | exact cm _
    | (refine Calm.bind ?_ fun _=>?_)
    | split
    | (dsimp only;split)
  ·cases h
 ·cases h
def Vals (P:Program) (s:Sem Next):Prop:=∀ w n w',s.run P w= .ok n w'→∃ v,n= .value v
theorem Vals.pure_ (v:Value):Vals P (Pure.pure (Next.value v)):=fun w n w' h=>by simp at h;exact ⟨v,h.1.symm⟩
theorem Vals.bind_ {s:Sem α} {f:α→Sem Next} (hf:∀ a,Vals P (f a)):Vals P (s >>=f):=by
 intro w n w' h
 rw [Sem.run_bind] at h
 cases hs:s.run P w with
 | ok a w1=>rw [hs,Result.andThen_ok] at h;exact hf _ _ _ _ h
 | halt h' w1=>rw [hs] at h;simp [Result.andThen] at h
theorem Vals.dead {s:Sem Next} (h:sM P s):Vals P s:=fun _ _ _ hr=>absurd hr (h _ _ _)
theorem Ck {o:Oper} (h:oH o=true) (ρ:Operand→Value):Vals P (execOp ρ o):=by
 unfold oH at h
 unfold execOp
 split at h
 all_goals (rename_i e;try rw [e])
 all_goals dsimp only
 ·exact .pure_ _
 ·exact .pure_ _
 ·exact .bind_ fun _=>.pure_ _
 ·exact .bind_ fun _=>.pure_ _
 ·exact .bind_ fun _=>.pure_ _
 ·repeat' first
   | exact .pure_ _
   | exact .dead (hH _)
   | (refine .bind_ fun _=>?_)
   | split
   | (dsimp only;split)
 ·exact .bind_ fun _=>.pure_ _
 ·exact .bind_ fun _=>.pure_ _
 ·exact .bind_ fun _=>.pure_ _
 ·exact .bind_ fun _=>.pure_ _
 ·exact .bind_ fun _=>.pure_ _
 ·exact .bind_ fun _=>.pure_ _
 ·split at h
  ·rename_i hc
   unfold resolve
   rw [hc]
   show Vals P (Builtin.len_ _ _ _ >>=fun x=>Pure.pure (Next.value x))
   exact .bind_ fun _=>.pure_ _
  ·cases h
 ·cases h
end
section
variable {P:Program} {ops:Array Oper} {Q:Exit→Act→World→Prop} {md:Region.Mode}
def YieldsE (P:Program) (ops:Array Oper) (o:Oper) (v:Value) (a:Act) (w:World):Prop:=
 (Region.wanted o (yielded ops a.tmps)=true∧∀ W:World,Ext w.heap W.heap→(execOp a.eval o).run P W= .ok (.value v) W)∨
 (Region.wanted o (yielded ops a.tmps)=false∧v=undef)
theorem YieldsE.wpOp {i:Nat} {o:Oper} {v:Value} {a:Act} {w:World} (hi:ops[i]? =some o) (hy:YieldsE P ops o v a w)
  {K:Act→World→Prop} (h:K (a.put o.dst v) w):wpOp P ops Q i K a w:=by
 unfold Go.wpOp
 simp only [hi]
 rcases hy with ⟨hw,hv⟩| ⟨hw,rfl⟩
 ·simp only [hw,if_true,Oper.wp,hv w (.refl _),Oper.upon];exact .inl h
 ·simp only [hw,Bool.false_eq_true,if_false];exact h
theorem YieldsE.of_same {o:Oper} {v:Value} {a a':Act} {w w':World} (hy:YieldsE P ops o v a w) (he:execOp a'.eval o=execOp a.eval o)
  (hw:Region.wanted o (yielded ops a'.tmps)=Region.wanted o (yielded ops a.tmps)) (hh:Ext w.heap w'.heap):YieldsE P ops o v a' w':=by
 unfold YieldsE at *
 rw [he,hw]
 exact hy.imp (fun h=>⟨h.1,fun W hW=>h.2 W (hh.trans hW)⟩) id
theorem yp {j:Nat} {oi oj:Oper} {v:Value} (hj:ops[j]? =some oj) (hap:oi.apart ops oj=true) (hcalm:oH oj=true)
  (hsi:∀ cs b,oi.op≠.select cs b) (hsj:∀ cs b,oj.op≠.select cs b)
  (hQ:∀ c a w,Q (.panic c) (a.put oi.dst v) w→Q (.panic c) a w) {K:Act→World→Prop} {a:Act} {w:World}
  (hy:YieldsE P ops oi v a w) (h:wpOp P ops Q j K (a.put oi.dst v) w):
  wpOp P ops Q j (fun a' w'=>YieldsE P ops oi v a' w'∧K (a'.put oi.dst v) w') a w:=by
 obtain ⟨h1,h2,h3⟩:=Oper.apart_spec hap
 have keep:∀ u (w':World),Ext w.heap w'.heap→YieldsE P ops oi v (a.put oj.dst u) w':=fun u w' hh=>
  hy.of_same (execOp_put oi hsi a oj.dst u h3) (wanted_put oi a oj.dst u h3) hh
 unfold wpOp at *
 simp only [hj] at *
 rw [wanted_put oj a oi.dst v h1] at h
 split
 ·rename_i hw
  simp only [hw,if_true] at h
  rcases h with h | ⟨hasks,hlets⟩
  case inr=>exact .inr ⟨by unfold Oper.asks at *;rw [execOp_put oj hsj a oi.dst v h1] at hasks;exact hasks,hlets⟩
  refine .inl ?_
  unfold Oper.wp at *
  rw [execOp_put oj hsj a oi.dst v h1] at h
  have hc:=fun n w'=>(Cj (P:=P) hcalm a.eval).run (w:=w) (x:=n) (w':=w')
  have hv:=fun n w'=>Ck (P:=P) hcalm a.eval w n w'
  generalize (execOp a.eval oj).run P w=r at *
  cases r with
  | ok n w'=>
   obtain ⟨u,rfl⟩:=hv _ _ rfl
   simp only [Oper.upon] at h ⊢
   exact ⟨keep u w' (hc _ _ rfl),by rw [← Act.put_comm a v u h2];exact h⟩
  | halt x w'=>
   cases x <;> simp only [Oper.upon] at h ⊢
   case panic u=>exact hQ _ _ _ h
 ·rename_i hw
  simp only [hw] at h
  exact ⟨keep _ w (.refl _),by rw [← Act.put_comm a v undef h2];exact h⟩
def qg (md:Region.Mode) (ops:Array Oper) (listed:Array Bool) (i:Nat) (M:List Nat):Bool:=
 match ops[i]? with
 | none=>false
 | some oi=>!M.contains i && (List.range ops.size).all fun j=>j==i || listed.getD j true || match ops[j]? with
  | none=>true
  | some oj=>if M.contains j then oH oj && oi.apart ops oj else oj.after.any fun e=>Region.binds md e && (e.on==i || (!listed.getD e.on false && !M.contains e.on))
theorem uy {i:Nat} {oi:Oper} {v:Value} {M:List Nat} {listed0:Array Bool} (hi:ops[i]? =some oi) (hsel:∀ (j:Nat) (o:Oper) cs b,ops[j]? =some o→o.op≠.select cs b)
  (hQ:∀ c a w,Q (.panic c) (a.put oi.dst v) w→Q (.panic c) a w) (hiM:i ∉ M) (h0:listed0.getD i false=false)
  (hM:∀ j oj,ops[j]? =some oj→j≠i→listed0.getD j true=false→j∈M→oH oj=true∧oi.apart ops oj=true)
  (hN:∀ j oj,ops[j]? =some oj→j≠i→listed0.getD j true=false→j ∉ M→∃ e∈oj.after,Region.binds md e=true∧(e.on=i∨(listed0.getD e.on false=false∧e.on ∉ M))):
  ∀ (fuel:Nat) (listed:Array Bool) (a:Act) (w:World),listed.size=listed0.size→
   (∀ j,listed.getD j false=true→listed0.getD j false=true∨j∈M)→(∀ j,listed0.getD j false=true→listed.getD j false=true)→
   i∈Region.ready md ops listed→YieldsE P ops oi v a w→
   wpAny P md ops Q fuel (listed.setIfInBounds i true) (a.put oi.dst v) w→wpAny P md ops Q (fuel+1) listed a w:=by
 have key:∀ (listed:Array Bool),listed.size=listed0.size→(∀ j,listed.getD j false=true→listed0.getD j false=true∨j∈M)→(∀ j,listed0.getD j false=true→listed.getD j false=true)→
   ∀ j,j∈Region.ready md ops listed→j≠i→listed0.getD j true=false∧j∈M:=by
  intro listed hsz hl hl2 j hj hji
  obtain ⟨hjun,oj,hoj,hall⟩:=mem_ready.1 hj
  have hju:listed0.getD j true=false:=by
    cases hb:listed0.getD j true with
    | false=>rfl
    | true=>
     rcases Nat.lt_or_ge j listed0.size with hs | hs
     ·have e1:listed0.getD j false=true:=by simpa [hs] using hb
      have e2:=hl2 j e1
      have hs':j<listed.size:=by omega
      simp [hs'] at e2 hjun
      rw [e2] at hjun;cases hjun
     ·have hs':listed.size≤j:=by omega
      simp [Array.getElem?_eq_none hs'] at hjun
  refine ⟨hju,?_⟩
  rcases Classical.em (j∈M) with h | h
  ·exact h
  ·obtain ⟨e,he,hb,h1⟩:=hN j oj hoj hji hju h
   have h2:=hl e.on (hall e he hb)
   rcases h1 with h1 | ⟨h1,h3⟩
   ·rw [h1] at h2
    rcases h2 with h2 | h2
    ·rw [h0] at h2;cases h2
    ·exact absurd h2 hiM
   ·rcases h2 with h2 | h2
    ·rw [h1] at h2;cases h2
    ·exact absurd h2 h3
 intro fuel
 induction fuel with
 | zero=>
  intro listed a w _ _ _ hr hy H
  refine ⟨fun h=>(by rw [h] at hr;cases hr),fun j hj=>?_⟩
  by_cases hji:j=i
  ·subst hji;exact hy.wpOp hi H
  ·have:=ready_mono hj hji
   rw [H.1] at this
   cases this
 | succ fuel ih=>
  intro listed a w hsz hl hl2 hr hy H
  refine ⟨fun h=>(by rw [h] at hr;cases hr),fun j hj=>?_⟩
  by_cases hji:j=i
  ·subst hji;exact hy.wpOp hi H
  ·obtain ⟨hju,hjM⟩:=key listed hsz hl hl2 j hj hji
   have h1:=H.2 j (ready_mono hj hji)
   obtain ⟨hjun,oj,hoj,hall⟩:=mem_ready.1 hj
   obtain ⟨hc,hap⟩:=hM j oj hoj hji hju hjM
   have h2:=yp hoj hap hc (fun cs b=>hsel i oi cs b hi) (fun cs b=>hsel j oj cs b hoj) hQ hy h1
   refine wpOp_mono (fun a' w' h3=>ih (listed.setIfInBounds j true) a' w' (by simpa using hsz) (fun k hk=>?_) (fun k hk=>getD_set_true (hl2 k hk)) (ready_mono hr (Ne.symm hji)) h3.1 ?_) h2
   ·by_cases hjk:j=k
    ·subst hjk;exact .inr hjM
    ·rw [getD_set_ne false hjk] at hk;exact hl k hk
   ·rw [Array.setIfInBounds_comm _ _ hji]
    exact h3.2
theorem EI {i d:Nat} {oi:Oper} {v:Value} {fuel:Nat} {listed:Array Bool} {tmps:Array Value} {ds:List Deferred} {w:World} (M:List Nat) (hi:ops[i]? =some oi) (hd:oi.dst=some d)
  (hs:Region.noSelect ops=true) (hf:qg md ops listed i M=true) (hr:(Region.ready md ops listed).contains i=true)
  (hq:∀ c (a:Act) w,Q (.panic c) (a.put oi.dst v) w→Q (.panic c) a w)
  (hg:Region.wanted oi (yielded ops tmps)=true) (hy:∀ W:World,Ext w.heap W.heap→(execOp (Act.eval ⟨tmps,ds⟩) oi).run P W= .ok (.value v) W)
  (h:wpAny P md ops Q fuel (listed.setIfInBounds i true) ⟨tmps.setIfInBounds d v,ds⟩ w):wpAny P md ops Q (fuel+1) listed ⟨tmps,ds⟩ w:=by
 have hr':i∈Region.ready md ops listed:=by simpa using hr
 have hun:=(mem_ready.1 hr').1
 unfold qg at hf
 simp only [hi,Bool.and_eq_true,Bool.not_eq_true',List.all_eq_true,List.mem_range] at hf
 obtain ⟨hf1,hf2⟩:=hf
 have hiM:i ∉ M:=by simpa using hf1
 have h0:listed.getD i false=false:=by
  rcases Nat.lt_or_ge i listed.size with hs | hs
  ·simpa [hs] using hun
  ·simp [Array.getElem?_eq_none hs]
 refine uy (v:=v) (M:=M) (listed0:=listed) hi (Region.noSelect_spec hs) hq hiM h0 ?_ ?_ fuel listed ⟨tmps,ds⟩ w rfl (fun _ h=>.inl h) (fun _ h=>h) hr' (.inl ⟨hg,hy⟩) (by rw [hd];exact h)
 ·intro j oj hj hji hju hjM
  have hlt:j<ops.size:=(Array.getElem?_eq_some_iff.1 hj).1
  have h1:=hf2 j hlt
  have e1:(j==i)=false:=by simpa using hji
  have e2:M.contains j=true:=by simpa using hjM
  rw [e1,hju] at h1
  simp only [Bool.false_or,hj,e2,if_true,Bool.and_eq_true] at h1
  exact h1
 ·intro j oj hj hji hju hjM
  have hlt:j<ops.size:=(Array.getElem?_eq_some_iff.1 hj).1
  have h1:=hf2 j hlt
  have e1:(j==i)=false:=by simpa using hji
  have e2:M.contains j=false:=by simpa using hjM
  rw [e1,hju] at h1
  simp only [Bool.false_or,hj,e2,Bool.false_eq_true,if_false] at h1
  obtain ⟨q,hq1,hq2⟩:=Array.any_eq_true.1 h1
  simp only [Bool.and_eq_true,Bool.or_eq_true,beq_iff_eq,Bool.not_eq_true'] at hq2
  refine ⟨oj.after[q],Array.getElem_mem hq1,hq2.1,?_⟩
  rcases hq2.2 with h2 | ⟨h2,h3⟩
  ·exact .inl h2
  ·exact .inr ⟨h2,by simpa using h3⟩
theorem EJ {i d:Nat} {oi:Oper} {v:Value} {fuel:Nat} {listed:Array Bool} {tmps:Array Value} {ds:List Deferred} {w:World} (hi:ops[i]? =some oi) (hd:oi.dst=some d)
  (hs:Region.noSelect ops=true) (hf:Region.free md ops listed i=true) (hr:(Region.ready md ops listed).contains i=true)
  (hq:∀ c (a:Act) w,Q (.panic c) (a.put oi.dst v) w→Q (.panic c) a w)
  (hg:Region.wanted oi (yielded ops tmps)=true) (hy:∀ W:World,(execOp (Act.eval ⟨tmps,ds⟩) oi).run P W= .ok (.value v) W)
  (h:wpAny P md ops Q fuel (listed.setIfInBounds i true) ⟨tmps.setIfInBounds d v,ds⟩ w):wpAny P md ops Q (fuel+1) listed ⟨tmps,ds⟩ w:=
 wpAny_take hi hs hf hr hq (Or.inl ⟨hg,hy⟩) (by rw [hd];exact h)
theorem EK {i d:Nat} {oi:Oper} {fuel:Nat} {listed:Array Bool} {tmps:Array Value} {ds:List Deferred} {w:World} (hi:ops[i]? =some oi) (hd:oi.dst=some d)
  (hs:Region.noSelect ops=true) (hf:Region.free md ops listed i=true) (hr:(Region.ready md ops listed).contains i=true)
  (hq:∀ c (a:Act) w,Q (.panic c) (a.put oi.dst undef) w→Q (.panic c) a w)
  (hg:Region.wanted oi (yielded ops tmps)=false)
  (h:wpAny P md ops Q fuel (listed.setIfInBounds i true) ⟨tmps.setIfInBounds d undef,ds⟩ w):wpAny P md ops Q (fuel+1) listed ⟨tmps,ds⟩ w:=
 wpAny_take hi hs hf hr hq (Or.inr ⟨hg,rfl⟩) (by rw [hd];exact h)
theorem EL {i:Nat} {o:Oper} {fuel:Nat} {listed:Array Bool} {a:Act} {w:World} (hr:Region.ready md ops listed=[i]) (ho:ops[i]? =some o)
  (h:∀ K:Act→World→Prop,Shut (∀ a w,wpAny P md ops Q fuel (listed.setIfInBounds i true) a w→K a w)→if Region.wanted o (yielded ops a.tmps)=true then Oper.wp P o a w K Q else K (a.put o.dst undef) w):
  wpAny P md ops Q (fuel+1) listed a w:=
 wpAny_all hr (by simp) fun j hj=>by
  simp at hj
  subst hj
  exact wpOp_step ho fun K hK=>h K hK
theorem DE {is:List Nat} {fuel:Nat} {listed:Array Bool} {a:Act} {w:World} (hr:Region.ready md ops listed=is) (hne:is≠[])
  (h:∀ i∈is,∃ o,ops[i]? =some o∧∀ K:Act→World→Prop,Shut (∀ a w,wpAny P md ops Q fuel (listed.setIfInBounds i true) a w→K a w)→if Region.wanted o (yielded ops a.tmps)=true then Oper.wp P o a w K Q else K (a.put o.dst undef) w):
  wpAny P md ops Q (fuel+1) listed a w:=
 wpAny_all hr hne fun k hk=>by
  obtain ⟨o,ho,h1⟩:=h k hk
  exact wpOp_step ho fun K hK=>h1 K hK
def ug (Q:Exit→Act→World→Prop):Exit→Act→World→Prop
 | .panic _,_,_=>False
 | .outgrown,_,_=>False
 | .normal,a,w=>Q .normal a w
 | e,a,w=>Q e a w
theorem EM {fuel:Nat} {listed:Array Bool} {a:Act} {w:World} (hr:Region.ready md ops listed=[]) (h:Q .normal a w):wpAny P md ops (ug Q) fuel listed a w:=wpAny_done (Q:=ug Q) hr h _
end
end Go.Proofs.YtnbceeholnkfeaaGreatDoor
