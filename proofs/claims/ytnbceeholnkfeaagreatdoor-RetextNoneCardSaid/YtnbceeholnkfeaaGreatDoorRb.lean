/- Rows that are written in place: made, read, written, appended to; a row in place as what is appended. -/
import Derived.Test.YtnbceeholnkfeaaGreatDoorGen
import Derived.Laws.MakeOwn
import Derived.RangeFuncRecord
namespace Go.Proofs.YtnbceeholnkfeaaGreatDoor
open Go.RowKit
theorem pj (z:Array Value):∀ c:Nat,(madeCells z (c * z.size)).toList=(List.replicate c z.toList).flatten
 | 0=>by simp [madeCells]
 | c+1=>by
  have ih:=pj z c
  unfold madeCells at ih ⊢
  simp only [Array.toList_map,Array.toList_range] at ih ⊢
  rw [Nat.add_mul,Nat.one_mul,List.range_add,List.map_append,ih,List.replicate_succ',List.flatten_append]
  congr 1
  simp only [List.flatten_cons,List.flatten_nil,List.append_nil,List.map_map]
  apply List.ext_getElem?
  intro i
  rw [List.getElem?_map]
  rcases Nat.lt_or_ge i z.size with h | h
  ·rw [List.getElem?_range h]
   simp only [Option.map_some,Function.comp]
   rw [Nat.mul_add_mod_self_right,Nat.mod_eq_of_lt h,Array.getElem?_toList,Array.getElem?_eq_getElem h,getElem!_pos z i h]
  ·rw [List.getElem?_eq_none (by simpa using h),List.getElem?_eq_none (by simpa using h)];rfl
theorem WkL.flat_rep {a b:List Sd} (h:WkL a b):∀ n:Nat,WkL (List.replicate n a).flatten (List.replicate n b).flatten
 | 0=>.nil
 | n+1=>by rw [List.replicate_succ,List.replicate_succ,List.flatten_cons,List.flatten_cons];exact h.app (WkL.flat_rep h n)
theorem wE {α:Type} (m n:Nat) (x:α):List.replicate (m+n) x=List.replicate m x++List.replicate n x:=by
 induction m with
 | zero=>simp
 | succ m ih=>rw [Nat.succ_add,List.replicate_succ,List.replicate_succ,List.cons_append,ih]
theorem SubT.refl:∀ l:List Tk,SubT l l
 | []=>.nil _
 | _ :: l=>.keep rfl (SubT.refl l)
theorem SubB.at_ {x x':Bx}:∀ {l:List Bx} (i:Nat),l[i]? =some x→x.b=x'.b→x.E=x'.E→WkL x.cs x'.cs→SubB l (l.set i x')
 | [],i,h,_,_,_=>by simp at h
 | y :: l,0,h,hb,hE,hc=>by
  simp at h;subst h
  exact .keep hb hE hc (SubB.refl l)
 | y :: l,i+1,h,hb,hE,hc=>.keep rfl rfl (.refl _) (SubB.at_ i (by simpa using h) hb hE hc)
theorem SubB.set_ {x x':Bx}:∀ (l:List Bx) (i:Nat),x.b=x'.b→x.E=x'.E→WkL x.cs x'.cs→SubB (l.set i x) (l.set i x')
 | [],_,_,_,_=>.nil _
 | y :: l,0,hb,hE,hc=>.keep hb hE hc (SubB.refl l)
 | y :: l,i+1,hb,hE,hc=>.keep rfl rfl (.refl _) (SubB.set_ l i hb hE hc)
def sk (l c:Int) (bytes:Nat):Prop:=0≤l∧l≤c∧c≤9223372036854775807∧(bytes:Int) * c≤281474976710656
section
variable {P:Program} {Q:Exit→Act→World→Prop} {ops:Array Oper} {g:Gh} {n:Nat} {σ:St} {t:List (Nat×Sd)} {bx:List Bx} {tk:List Tk} {rest:List Oper} {ty:TypeId} {ps:String} {af:Array Edge} {gd:Option (Nat×Bool)} {fuel:Nat} {listed:Array Bool} {K:Act→World→Prop}
theorem yV {α:Type} {f:α→List Sd} {d:Nat} {T E:TypeId} {k bytes:Nat} {zero:List Value} {x y:Operand} {k1 k2:IntKind} {l c:Int} (z0:α) (hm:sk l c bytes) (hu:P.underlying T=some (.slice E)) (hi:Inf P E k bytes zero) (hz:WkL (zero.map .v) (f z0)) (hl:ev σ.t x=some (.v (.int k1 l))) (hc:ev σ.t y=some (.v (.int k2 c))) (hd:Nat.blt d n=true)
  (h:∀ id,Hx g n ⟨(d,.rb id (List.replicate l.toNat z0).length) :: σ.t,rbx id E k (List.map f (List.replicate l.toNat z0)) :: σ.bx,σ.tk⟩ K):
  Hx g n σ (fun a w=>Oper.wp P ⟨some d,.makeSlice T x y,ty,ps,af,gd⟩ a w K Q):=by
 rintro a w ⟨R,hr⟩
 obtain ⟨inf,z,e1,e2,e3,e4,e5⟩:=hi.info
 have hzs:z.cells.size=k:=by rw [← hi.len,← e3];simp
 have hone:∀ u∈z.cells.toList,u.oneCell'=true:=by rw [e3];exact List.all_eq_true.1 hi.one
 obtain ⟨h0,hlc,h63,hby⟩:=hm
 have ex:a.eval x= .int k1 l:=hr.ev hl
 have ey:a.eval y= .int k2 c:=hr.ev hc
 have hrun:=run_make (P:=P) w T E inf z hu e1 e2 k1 k2 l c h0 hlc (by rw [e5];exact hby) h63
 unfold Oper.wp execOp
 simp only [ex,ey,Sem.run_bind,hrun,Result.andThen_ok,Sem.run_pure]
 have hcells:(madeCells z.cells (c.toNat * inf.size)).toList=(List.replicate c.toNat z.cells.toList).flatten:=by rw [e4,← hzs];exact pj _ _
 have hlt:l.toNat≤c.toNat:=by omega
 have hrep:RepL R w ((List.map f (List.replicate l.toNat z0)).flatten++List.replicate ((c.toNat - (List.map f (List.replicate l.toNat z0)).length) * k) .any) (madeCells z.cells (c.toNat * inf.size)).toList:=by
  rw [hcells,e3,← Nat.add_sub_cancel' hlt,wE,List.flatten_append,List.map_replicate,List.length_replicate,Nat.add_sub_cancel' hlt]
  refine RepL.append ?_ ?_
  ·have:=(hz.flat_rep l.toNat).rep (R:=R) (w:=w) (us:=(List.replicate l.toNat zero).flatten) (by
    have:=iE R w (List.replicate l.toNat zero).flatten
    rwa [List.map_flatten,List.map_replicate] at this)
   exact this
  ·have:=vH (R:=R) (w:=w) (List.replicate (c.toNat - l.toNat) zero).flatten
   rwa [List.length_flatten,List.map_replicate,List.sum_replicate_nat,hi.len] at this
 have hr2:=hr.newBx (us:=madeCells z.cells (c.toNat * inf.size)) hrep (fun u hu=>by
  rw [hcells,List.mem_flatten] at hu
  obtain ⟨q,hq,hu⟩:=hu
  rw [(List.mem_replicate.1 hq).2] at hu
  exact hone u hu) E
 have hmx:c.toNat≤maxLen:=by simp only [maxLen];omega
 exact h (some (w.heap.size,c.toNat)) _ _ ⟨R,hr2.put (s:=.rb (some (w.heap.size,c.toNat)) (List.replicate l.toNat z0).length) (by simpa [Nat.blt_eq] using hd) ⟨by rw [List.length_replicate];rfl,by rw [List.length_replicate];exact ⟨hlt,hmx⟩⟩⟩
theorem CN {α:Type} {f:α→List Sd} {d:Nat} {T E:TypeId} {k bytes:Nat} {zero:List Value} {x y:Operand} {k1 k2:IntKind} {l c:Int} (z0:α) (hm:sk l c bytes) (hu:P.underlying T=some (.slice E)) (hi:Inf P E k bytes zero) (hz:WkL (zero.map .v) (f z0)) (hl:ev t x=some (.v (.int k1 l))) (hc:ev t y=some (.v (.int k2 c))) (hw:aD ops t gd=some true) (hd:Nat.blt d n=true)
  (h:∀ id,HL P ops Q g n ⟨(d,.rb id (List.replicate l.toNat z0).length) :: t,rbx id E k (List.map f (List.replicate l.toNat z0)) :: bx,tk⟩ rest):
  HL P ops Q g n ⟨t,bx,tk⟩ (⟨some d,.makeSlice T x y,ty,ps,af,gd⟩:: rest):=
 ⟨fF (σ:=⟨t,bx,tk⟩) hw (yV (σ:=⟨t,bx,tk⟩) z0 hm hu hi hz hl hc hd fun id=>(h id).h)⟩
theorem lk {α:Type} {l:List α} {d:Option Nat} {x ix:Operand} {T E:TypeId} {ki:IntKind} {z:Int} {ag:Bool} {k:Nat} {id:Option (Nat×Nat)} {m:Nat} {y:α} (hm:m=l.length) (h0:0≤z) (hy:l[z.toNat]? =some y) (hu:P.underlying T=some (.slice E)) (hs:Shp P E ag k) (hx:ev σ.t x=some (.rb id m)) (hi:ev σ.t ix=some (.v (.int ki z))):
  Val P g n σ ⟨d,.indexAddr T x ix,ty,ps,af,gd⟩ (.v (.pointer (some ⟨idb id,z.toNat * k,none⟩))):=
 tt (hm▸(List.getElem?_eq_some_iff.1 hy).1) (Int.toNat_of_nonneg h0).symm hu hs hx hi
theorem tJ {α:Type} {f:α→List Sd} {k:Nat} [dR f k] {l:List α} {y:α} {d:Option Nat} {x:Operand} {T E:TypeId} {ag:Bool} {kk o off i:Nat} {id:Option (Nat×Nat)} {s:Sd} (j:Nat) (hy:l[i]? =some y) (ho:o=i * k+off) (hl:off+kk≤k) (hs:ce ag kk off (f y)=some s)
  (h:Shp P T ag kk) (hx:ev σ.t x=some (.v (.pointer (some ⟨idb id,o,none⟩)))) (hb:σ.bx[j]? =some (rbx id E k (List.map f l))):iw P g n σ ⟨d,.load T x,ty,ps,af,gd⟩ s:=
 uT (pre:=[]) j h hx hb (f9 l) (kO hy) hs (by simpa using ho) hl
theorem AQ {α:Type} {f:α→List Sd} {k:Nat} [dR f k] {l:List α} {y:α} {T E:TypeId} {x v:Operand} {ag:Bool} {kk o off i:Nat} {id:Option (Nat×Nat)} {s:Sd} (j:Nat) (y':α) (hy:l[i]? =some y) (ho:o=i * k+off) (hl:off+kk≤k) (hs:Shp P T ag kk) (hx:ev t x=some (.v (.pointer (some ⟨idb id,o,none⟩)))) (hb:bx[j]? =some (rbx id E k (List.map f l))) (hv:ev t v=some s)
  (h1:gb s=true) (hc:(aH s).length=kk) (hp:WkL (eh off (aH s) (f y)) (f y')) (hw:aD ops t gd=some true) (h:HL P ops Q g n ⟨t,bx.set j (rbx id E k (List.map f (l.set i y'))),tk⟩ rest):HL P ops Q g n ⟨t,bx,tk⟩ (⟨none,.store T x v,ty,ps,af,gd⟩:: rest):=by
 refine wx (pre:=[]) (post:=List.replicate ((idc id - (List.map f l).length) * k) .any) j hs hx hb hv h1 (by rw [hc];exact Nat.beq_refl _) (f9 l) (kO hy) (by simpa using ho) hl hw ?_
 refine ⟨j0 (σ':=⟨t,bx.set j (rbx id E k (List.map f (l.set i y'))),tk⟩) ⟨ImpT.refl _,SubM.of (SubB.set_ _ _ rfl rfl ?_) (SubT.refl _)⟩ h.h⟩
 have e:(List.map f (l.set i y')).length=(List.map f l).length:=by simp
 show WkL ([]++(((List.map f l).set i (eh off (aH s) (f y))).flatten++List.replicate ((idc id - (List.map f l).length) * k) .any)) ((List.map f (l.set i y')).flatten++List.replicate ((idc id - (List.map f (l.set i y')).length) * k) .any)
 rw [e,← ru,List.nil_append]
 exact WkL.rows hp _ _
theorem SrcOf.rb {α:Type} {f:α→List Sd} {k:Nat} [dR f k] {l:List α} {m:Nat} {y:Operand} {E:TypeId} {id:Option (Nat×Nat)} (j:Nat) (hm:m=l.length) (hy:ev σ.t y=some (.rb id m)) (hb:σ.bx[j]? =some (rbx id E k (List.map f l))):SrcOf g n σ y k (List.map f l):=by
 intro R a w hr
 subst hm
 obtain ⟨e,hok⟩:a.eval y=_∧_:=hr.ev hy
 rw [e]
 have hk:=f9 (f:=f) l
 cases id with
 | none=>
  have h0:l.length=0:=hok
  obtain rfl:=List.eq_nil_of_length_eq_zero h0
  exact ⟨none,0,rfl,by simp,.inl rfl⟩
 | some q=>
  refine ⟨some ⟨q.1,0,none⟩,q.2,by rw [List.length_map];rfl,hk,?_⟩
  by_cases hcs:(rbx (some q) E k (List.map f l)).cs=[]
  ·have h1:(List.map f l).flatten=[]:=(List.append_eq_nil_iff.1 hcs).1
   have h2:=me hk
   rw [h1] at h2
   rcases Nat.mul_eq_zero.1 h2.symm with h3 | h3
   ·exact .inl (List.eq_nil_of_length_eq_zero h3)
   ·by_cases hl0:List.map f l=[]
    ·exact .inl hl0
    ·exact .inr ⟨q.1,0,[],rfl,by rw [h1];rfl,by simp,by simp⟩
  ·obtain ⟨⟨us,k1,k2,k3⟩,_⟩:=hr.mem.box _ (List.mem_of_getElem? hb) hcs
   have hfl:=me hk
   refine .inr ⟨q.1,0,us.toList.take ((List.map f l).length * k),rfl,?_,fun u hu=>k3 u (List.mem_of_mem_take hu),fun j u hj=>?_⟩
   ·have:=k2.take ((List.map f l).length * k)
    rwa [← hfl,List.take_left,hfl] at this
   ·rw [List.getElem?_take] at hj
    split at hj
    ·have hjj:us[j]? =some u:=by rw [← Array.getElem?_toList];exact hj
     have k1':w.heap[q.1]? =some (.cells us E (0,0)):=k1
     simp [World.cell?,k1',hjj]
    ·cases hj
theorem WkL.rb_take {k:Nat} {id:Option (Nat×Nat)} {rows:List (List Sd)} (hk:∀ r∈rows,r.length=k) (h:Nat) (hl:rows.length≤idc id):WkL (rows.flatten++List.replicate ((idc id - rows.length) * k) .any) ((rows.take h).flatten++List.replicate ((idc id - (rows.take h).length) * k) .any):=by
 have e:rows.flatten=(rows.take h).flatten++(rows.drop h).flatten:=by rw [← List.flatten_append,List.take_append_drop]
 rw [e,List.append_assoc]
 refine WkL.app (.refl _) ?_
 have h1:=me (k:=k) (rows:=rows.drop h) fun r hr=>hk r (List.mem_of_mem_drop hr)
 have h2:(idc id - (rows.take h).length) * k=(rows.drop h).flatten.length+(idc id - rows.length) * k:=by
  rw [h1,← Nat.add_mul];congr 1;rw [List.length_take,List.length_drop];omega
 rw [h2,wE]
 refine WkL.app ?_ (.refl _)
 generalize (rows.drop h).flatten=q
 induction q with
 | nil=>exact .nil
 | cons x q ih=>rw [List.length_cons,List.replicate_succ];exact .cons (Wk.any x) ih
theorem yW {Φ:Act→World→Prop} {α:Type} {f:α→List Sd} {k:Nat} [dR f k] {l:List α} {i dd m m0:Nat} {id:Option (Nat×Nat)} {E:TypeId} (h:Nat) (hm0:m0=l.length) (hb:σ.bx[i]? =some (rbx id E k (List.map f l))) (hl:aX σ.t dd=some (.rb id m0)) (hm:aX σ.t m=some (.rb id h)) (hle:h≤l.length)
  (hx:Hx g n ⟨(m,.rb id (l.take h).length) :: σ.t,σ.bx.set i (rbx id E k (List.map f (l.take h))),σ.tk⟩ Φ):Hx g n σ Φ:=by
 rintro a w ⟨R,hr⟩
 subst hm0
 obtain ⟨v,_,_,hok⟩:=hr.tm _ _ hl
 have hcap:(List.map f l).length≤idc id:=by
  rw [List.length_map]
  cases id with
  | none=>have:l.length=0:=hok;omega
  | some q=>exact hok.1
 have hw:=WkL.rb_take (id:=id) (f9 (f:=f) l) h hcap
 rw [← List.map_take] at hw
 refine hx a w ⟨R,hr.imp ⟨ImpT.cons hm (.eq (by rw [List.length_take,Nat.min_eq_left hle])) (ImpT.refl _),SubM.of (SubB.at_ i hb rfl rfl hw) (SubT.refl _)⟩⟩
theorem CO {α:Type} {f:α→List Sd} {k:Nat} [dR f k] {l:List α} {m0:Nat} {id:Option (Nat×Nat)} {E:TypeId} (i dd m h:Nat) (hm0:m0=l.length) (hle:h≤l.length) (hb:bx[i]? =some (rbx id E k (List.map f l))) (hl:aX t dd=some (.rb id m0)) (hm:aX t m=some (.rb id h))
  (hx:HL P ops Q g n ⟨(m,.rb id (l.take h).length) :: t,bx.set i (rbx id E k (List.map f (l.take h))),tk⟩ rest):HL P ops Q g n ⟨t,bx,tk⟩ rest:=⟨yW (σ:=⟨t,bx,tk⟩) h hm0 hb hl hm hle hx.h⟩
theorem vb {m:Nat} {d:Option Nat} {x:Operand} {T E:TypeId} {hi:Operand} {z:Int} {ki:IntKind} {ag:Bool} {k:Nat} {id:Option (Nat×Nat)} (h:0≤z∧z≤(m:Int)) (hu:P.underlying T=some (.slice E)) (hs:Shp P E ag k) (hx:ev σ.t x=some (.rb id m)) (hh:ev σ.t hi=some (.v (.int ki z))):
  Val P g n σ ⟨d,.slice T x none (some hi) none,ty,ps,af,gd⟩ (.rb id z.toNat):=xX hu hs hx (Bd.int_ h.1 hh) (by omega)
theorem AR {d:Option Nat} {x:Operand} {A:Option Addr} {m c:Nat} {T E:TypeId} (hu:P.underlying T=some (.slice E)) (hx:ev σ.t x=some (.v (.slice A m c))):Val P g n σ ⟨d,.call ⟨.builtin .len,#[x],#[T]⟩,ty,ps,af,gd⟩ (.v (.int .i64 (m:Int))):=by
 refine ⟨fun R a w hr=>?_⟩
 have h1:a.eval x=_:=hr.ev hx
 exact ⟨_,rfl,fun W=>by simp [execOp,resolve,invoke,builtin,Builtin.len_,h1,goInt,run_underlying hu]⟩
theorem te {d:Option Nat} {x ix:Operand} {T E:TypeId} {ki:IntKind} {z:Int} {ag:Bool} {k b o m c:Nat} (h:0≤z∧z<(m:Int)) (hu:P.underlying T=some (.slice E)) (hs:Shp P E ag k) (hx:ev σ.t x=some (.v (.slice (some ⟨b,o,none⟩) m c))) (hi:ev σ.t ix=some (.v (.int ki z))):
  Val P g n σ ⟨d,.indexAddr T x ix,ty,ps,af,gd⟩ (.v (.pointer (some ⟨b,o+z.toNat * k,none⟩))):=by
 refine ⟨fun R a w hr=>?_⟩
 obtain ⟨i,rfl⟩:∃ i:Nat,z=(i:Int):=⟨z.toNat,(Int.toNat_of_nonneg h.1).symm⟩
 have hl:i<m:=by omega
 have h1:a.eval x=_:=hr.ev hx
 have h6:a.eval ix= .int ki i:=hr.ev hi
 exact ⟨_,rfl,fun W=>by simp [execOp,Instr.indexAt,run_underlying hu,h1,h6,asIntOf,hl,hs.run_size,eX]⟩
theorem wb {d:Option Nat} {x:Operand} {T E:TypeId} {lo hi:Option Operand} {l h len:Nat} {ag:Bool} {k b o:Nat} (hq:l≤h∧h≤len∧l<len) (hu:P.underlying T=some (.array len E)) (hs:Shp P E ag k) (hx:ev σ.t x=some (.v (.pointer (some ⟨b,o,none⟩)))) (hl:Bd σ.t 0 lo l) (hh:Bd σ.t len hi h):
  Val P g n σ ⟨d,.slice T x lo hi none,ty,ps,af,gd⟩ (.v (.slice (some ⟨b,o+l * k,none⟩) (h - l) (len - l))):=by
 refine ⟨fun R a w hr=>?_⟩
 have e:a.eval x=_:=hr.ev hx
 have hb:=fun W=>mW (P:=P) (b:=false) hr hl hh hq.1 hq.2.1 W
 have hne:len≠l:=by omega
 refine ⟨_,rfl,fun W=>?_⟩
 simp [execOp,Instr.sliceAt,run_underlying hu,e,Instr.sureAddr,hb,hs.run_size,hne,eX]
end
end Go.Proofs.YtnbceeholnkfeaaGreatDoor
namespace Go.Proofs.YtnbceeholnkfeaaGreatDoor
instance (z:Int):Decidable (InR z):=inferInstanceAs (Decidable (_∧_))
instance (n b:Nat):Decidable (ef n b):=inferInstanceAs (Decidable (_∧_))
instance (l c:Int) (b:Nat):Decidable (sk l c b):=inferInstanceAs (Decidable (_∧_∧_∧_))
end Go.Proofs.YtnbceeholnkfeaaGreatDoor
namespace Go.Proofs.YtnbceeholnkfeaaGreatDoor
open Go.RowKit
def eV (o:Obj):Bool:=match o with
 | .cells ..=>false
 | _=>true
theorem pU {w:World} {l o:Nat} {x:Obj} (h:w.heap[l]? =some x) (hx:eV x=true):w.cell? ⟨l,o,none⟩=none:=by
 unfold World.cell?
 rw [show w.heap[(⟨l,o,none⟩:Addr).block]? =some x from h]
 cases x <;> first | rfl | (cases hx)
theorem nK {w:World} {l b o:Nat} {x y:Obj} (h:w.heap[l]? =some x) (hx:eV x=true) (hy:eV y=true):(w.putObj l y).cell? ⟨b,o,none⟩=w.cell? ⟨b,o,none⟩:=by
 by_cases e:b=l
 ·subst e
  rw [pU h hx,pU (World.putObj_heap_same (Array.getElem?_eq_some_iff.1 h).1) hy]
 ·unfold World.cell?
  rw [show (w.putObj l y).heap[(⟨b,o,none⟩:Addr).block]? =w.heap[(⟨b,o,none⟩:Addr).block]? from World.putObj_heap_other e]
theorem pV {R:Nat→Nat→Prop} {w:World} {l:Nat} {x y:Obj} (h:w.heap[l]? =some x) (hx:eV x=true) (hy:eV y=true):Kp R w R (w.putObj l y):=fun _ _ hr=>⟨hr,nK h hx hy⟩
theorem MemOk.putObj {R:Nat→Nat→Prop} {bx:List Bx} {tk:List Tk} {w:World} (h:MemOk R bx tk w) {l:Nat} {x y:Obj} (hl:w.heap[l]? =some x) (hx:eV x=true) (hy:eV y=true):MemOk R bx tk (w.putObj l y):=by
 have hk:∀ (b:Nat) us E f,w.heap[b]? =some (Obj.cells us E f)→(w.putObj l y).heap[b]? =some (Obj.cells us E f):=fun b us E f e=>by
  by_cases hb:b=l
  ·subst hb;rw [hl] at e;injection e with e;subst e;cases hx
  ·rw [World.putObj_heap_other hb];exact e
 refine ⟨fun b o hr=>by rw [World.putObj_size];exact h.lt b o hr,fun z hz hne=>?_,fun t ht b c e=>?_,h.nod⟩
 ·obtain ⟨⟨us,k1,k2,k3⟩,k4⟩:=h.box z hz hne
  exact ⟨⟨us,hk _ _ _ _ k1,k2.mono (pV hl hx hy),k3⟩,k4⟩
 ·obtain ⟨⟨us,k1,k2⟩,k3⟩:=h.own t ht b c e
  exact ⟨⟨us,hk _ _ _ _ k1,k2⟩,k3⟩
theorem Mv.putObj {D:Nat→Prop} {R R':Nat→Nat→Prop} {w w':World} (h:Mv D R w R' w') {l:Nat} {x x' y:Obj} (h1:w.heap[l]? =some x) (hx:eV x=true) (h2:w'.heap[l]? =some x') (hx':eV x'=true) (hy:eV y=true):Mv D R (w.putObj l y) R' (w'.putObj l y):={
 os:=h.os
 tape:=h.tape
 output:=h.output
 size:=by rw [World.putObj_size,World.putObj_size];exact h.size
 block k hk hd:=by
  rw [World.putObj_size] at hk
  by_cases e:k=l
  ·subst e;rw [World.putObj_heap_same (Array.getElem?_eq_some_iff.1 h2).1,World.putObj_heap_same hk]
  ·rw [World.putObj_heap_other e,World.putObj_heap_other e];exact h.block k hk hd
 keep b o hr:=⟨(h.keep b o hr).1,by rw [nK h2 hx' hy,nK h1 hx hy];exact (h.keep b o hr).2⟩
 new b o hr:=by rw [World.putObj_size];exact h.new b o hr }
theorem Glo.putObj {R:Nat→Nat→Prop} {w:World} (h:Glo R w) {l:Nat} {x y:Obj} (hl:w.heap[l]? =some x) (hx:eV x=true) (hy:eV y=true):Glo R (w.putObj l y):=h.keep (pV hl hx hy)
structure Tn (g:Gh) (l:Nat) (o:Obj):Prop where
 y:∃ x,g.w.heap[l]? =some x∧eV x=true
 o:eV o=true
abbrev Gh.turn (g:Gh) (l:Nat) (o:Obj) (h:Tn g l o):Gh:=⟨g.w.putObj l o,g.R,g.D,(let ⟨_,h1,h2⟩:=h.y;g.gl.putObj h1 h2 h.o),g.ds,g.rd⟩
theorem Rl.turn {R:Nat→Nat→Prop} {g:Gh} {n:Nat} {σ:St} {a:Act} {w:World} (hr:Rl R g n σ a w) {l:Nat} {x' o:Obj} (h:Tn g l o) (h2:w.heap[l]? =some x') (hx':eV x'=true):Rl R (g.turn l o h) n σ a (w.putObj l o):={
 mem:=hr.mem.putObj h2 hx' h.o
 mv:=let ⟨_,h1,hx⟩:=h.y;hr.mv.putObj h1 hx h2 hx' h.o
 dm b hb:=by rw [World.putObj_size];exact hr.dm b hb
 df:=hr.df
 sz:=hr.sz
 tm d s hs:=by
  obtain ⟨v,h3,h4⟩:=hr.tm d s hs
  exact ⟨v,h3,h4.mono (pV h2 hx' h.o)⟩}
theorem Rl.still {R:Nat→Nat→Prop} {g:Gh} {n:Nat} {σ:St} {a:Act} {w:World} (hr:Rl R g n σ a w) {l:Nat} {x:Obj} (h:g.w.heap[l]? =some x) (hd:¬ g.D l):w.heap[l]? =some x:=
 (hr.mv.block l (Array.getElem?_eq_some_iff.1 h).1 hd).trans h
structure Lp where
 l:Nat
 n:Nat
 t:List (Nat×Sd)
 ps:Array Tmp
 ac:Code
 bc:Code
structure LpOk (L:Lp) (r:Loop) (R:Nat→Nat→Prop) (w:World):Prop where
 at_:w.heap[L.l]? =some (.loop r)
 st:r.state= .ready
 pe:r.pending=none
 ps:r.params=L.ps
 ac:r.assign=L.ac
 bc:r.body=L.bc
 sz:r.tmps.size=L.n
 tm:∀ d s,aX L.t d=some s→∃ v,r.tmps[d]? =some v∧RepS R w s v
theorem LpOk.keep {L:Lp} {r:Loop} {R R':Nat→Nat→Prop} {w w':World} (h:LpOk L r R w) (k:Kp R w R' w') (hl:w'.heap[L.l]? =some (.loop r)):LpOk L r R' w':=
 ⟨hl,h.st,h.pe,h.ps,h.ac,h.bc,h.sz,fun d s hs=>let ⟨v,h1,h2⟩:=h.tm d s hs;⟨v,h1,h2.mono k⟩⟩
def nm (r:Loop) (c:Code):Obj:=.loop { r with state:=.done,pending:=some c }
def after (w:World) (l:Nat) (r:Loop):Option Code→World
 | none=>w
 | some c=>w.putObj l (nm r c)
structure H3 (g:Gh) (bx:List Bx) (tk:List Tk) (L:Lp) (r:Loop):Prop where
 d:g.D=dom bx tk
 ds:g.ds=[]
 rd:g.rd=some L.l
 lp:LpOk L r g.R g.w
 nd:¬ g.D L.l
section
variable {P:Program} {Q:Exit→Act→World→Prop} {g:Gh} {n:Nat} {σ:St}
end
section
variable {P:Program} {Q:Exit→Act→World→Prop} {g:Gh} {n:Nat} {σ:St}
structure GLp (g:Gh) (L:Lp) (r:Loop):Prop where
 lp:LpOk L r g.R g.w
 nd:¬ g.D L.l
theorem GOk.turn {bx:List Bx} {tk:List Tk} {l:Nat} {o:Obj} (hg:GOk g bx tk) (h:Tn g l o):GOk (g.turn l o h) bx tk:=⟨hg.d,hg.ds,hg.rd⟩
end
section
variable {P:Program} {ops:Array Oper} {Q:Exit→Act→World→Prop} {g:Gh} {n:Nat} {t:List (Nat×Sd)} {bx:List Bx} {tk:List Tk} {rest:List Oper} {ty:TypeId} {ps:String} {af:Array Edge} {gd:Option (Nat×Bool)}
end
section
variable {P:Program} {Q:Exit→Act→World→Prop} {g:Gh} {n:Nat} {σ:St}
structure GN (g g':Gh) (D:Nat):Prop where
 ds:g'.ds=[{ target:=.collected D,args:=#[] }]
 at_:g'.w.heap[D]? =some (.deferred (some []))
 lt:g.w.heap.size≤D
 nd:¬ g'.D D
 mv:Mv g.D g.R g.w g'.R g'.w
 dm:∀ b,g'.D b→g.D b∨g.w.heap.size≤b
theorem MemOk.alloc {R:Nat→Nat→Prop} {bx:List Bx} {tk:List Tk} {w:World} (h:MemOk R bx tk w) (o:Obj):MemOk R bx tk (w.alloc o):=by
 have hk:∀ (b:Nat) (x:Obj),w.heap[b]? =some x→(w.alloc o).heap[b]? =some x:=fun b x e=>(Below.heap_alloc w o b (Array.getElem?_eq_some_iff.1 e).1).trans e
 have kp:Kp R w R (w.alloc o):=fun b o' hb=>⟨hb,World.cell?_alloc_past _ _ _ (h.lt b o' hb)⟩
 refine ⟨fun b o' hr=>by have:=h.lt b o' hr;simp;omega,fun z hz hne=>?_,fun t ht b c e=>?_,h.nod⟩
 ·obtain ⟨⟨us,k1,k2,k3⟩,k4⟩:=h.box z hz hne
  exact ⟨⟨us,hk _ _ k1,k2.mono kp,k3⟩,k4⟩
 ·obtain ⟨⟨us,k1,k2⟩,k3⟩:=h.own t ht b c e
  exact ⟨⟨us,hk _ _ k1,k2⟩,k3⟩
theorem Mv.alloc {R:Nat→Nat→Prop} {w:World} (hlt:∀ b o,R b o→b<w.heap.size) (D:Nat→Prop) (o:Obj):Mv D R w R (w.alloc o):=
 ⟨rfl,rfl,rfl,by simp,fun k hk _=>Below.heap_alloc w o k hk,fun b o' hb=>⟨hb,World.cell?_alloc_past _ _ _ (hlt b o' hb)⟩,fun b o' hb=>.inl hb⟩
theorem Rl.alloc {R:Nat→Nat→Prop} {a:Act} {w:World} (hr:Rl R g n σ a w) (o:Obj):Rl R g n σ a (w.alloc o):={
 mem:=hr.mem.alloc o
 mv:=hr.mv.trans (Mv.alloc hr.mem.lt (fun _=>False) o) fun _ hb=>hb.elim
 dm:=hr.dm
 df:=hr.df
 sz:=hr.sz
 tm d s hs:=by
  obtain ⟨v,h1,h2⟩:=hr.tm d s hs
  exact ⟨v,h1,h2.mono fun b o' hb=>⟨hb,World.cell?_alloc_past _ _ _ (hr.mem.lt b o' hb)⟩⟩}
end
section
variable {P:Program} {g:Gh} {n:Nat} {σ:St} {d:Option Nat} {ty:TypeId} {ps:String} {af:Array Edge} {gd:Option (Nat×Bool)}
end
end Go.Proofs.YtnbceeholnkfeaaGreatDoor
namespace Go.Proofs.YtnbceeholnkfeaaGreatDoor
open Go.RowKit
theorem Wk.nil_pt (cs:List Sd):Wk (.v (.pointer none)) (.pt true cs):=fun _ _ _ h=>h
section
variable {P:Program} {g:Gh} {n:Nat} {σ:St} {d:Option Nat} {ty:TypeId} {ps:String} {af:Array Edge} {gd:Option (Nat×Bool)}
theorem pi {x:Operand} {z:Bool} {cs cs':List Sd} (hz:z=false) (hc:cs=cs') (hx:ev σ.t x=some (.pt z cs)):Val P g n σ ⟨d,.nilCheck x,ty,ps,af,gd⟩ (.el cs'):=by
 subst hz;subst hc
 refine ⟨fun R a w hr=>?_⟩
 obtain ⟨b,o,h1,h2⟩:=hr.ev hx
 exact ⟨_,⟨b,o,rfl,h2⟩,fun W=>by simp [execOp,h1]⟩
theorem va {t e:TypeId} {z:Bool} {cs:List Sd} {R:Nat→Nat→Prop} {w:World} {u:Value} (hu:P.underlying t=some (.pointer e)) (h:RepS R w (.pt z cs) u) (x y:Operand) (W:World):
  (do eqGuard .eql t x y u (.pointer none);binOp .eql t u (.pointer none):Sem Value).run P W= .ok (.bool z) W∧(do eqGuard .neq t x y u (.pointer none);binOp .neq t u (.pointer none):Sem Value).run P W= .ok (.bool (!z)) W:=by
 have key:∃ q,u= .pointer q∧(Op.equal t u (.pointer none)).run P W= .ok z W:=by
  cases z with
  | true=>obtain rfl:u= .pointer none:=h;exact ⟨_,rfl,kB hu W rfl⟩
  | false=>obtain ⟨b,o,rfl,_⟩:=h;exact ⟨_,rfl,kB hu W rfl⟩
 obtain ⟨q,rfl,h3⟩:=key
 constructor
 ·show Sem.run P (Op.equal t _ _ >>=fun q=>pure (Value.bool q)) W=_
  rw [Sem.run_bind,h3];rfl
 ·show Sem.run P (Op.equal t _ _ >>=fun q=>pure (Value.bool (!q))) W=_
  rw [Sem.run_bind,h3];rfl
theorem CL {t yt e:TypeId} {x y:Operand} {z:Bool} {cs:List Sd} (hu:P.underlying t=some (.pointer e)) (hx:ev σ.t x=some (.pt z cs)) (hy:ev σ.t y=some (.v (.pointer none))):Val P g n σ ⟨d,.binOp .eql t x y yt,ty,ps,af,gd⟩ (.v (.bool z)):=by
 refine ⟨fun R a w hr=>⟨_,rfl,fun W=>?_⟩⟩
 have h2:a.eval y= .pointer none:=hr.ev hy
 have h3:=(va (P:=P) hu (hr.ev hx) x y W).1
 simp only [Sem.run_bind] at h3
 simp only [execOp,Sem.run_bind,h2,h3]
 rfl
theorem CM {t yt e:TypeId} {x y:Operand} {z:Bool} {cs:List Sd} (hu:P.underlying t=some (.pointer e)) (hx:ev σ.t x=some (.pt z cs)) (hy:ev σ.t y=some (.v (.pointer none))):Val P g n σ ⟨d,.binOp .neq t x y yt,ty,ps,af,gd⟩ (.v (.bool (!z))):=by
 refine ⟨fun R a w hr=>⟨_,rfl,fun W=>?_⟩⟩
 have h2:a.eval y= .pointer none:=hr.ev hy
 have h3:=(va (P:=P) hu (hr.ev hx) x y W).2
 simp only [Sem.run_bind] at h3
 simp only [execOp,Sem.run_bind,h2,h3]
 rfl
theorem xC {Φ:Act→World→Prop} {i dd b:Nat} {E:TypeId} {cs:List Sd} (hb:σ.bx[i]? =some ⟨b,E,cs⟩) (hcs:cs≠[]) (hl:aX σ.t dd=some (.v (.pointer (some ⟨b,0,none⟩))))
  (h:Hx g n ⟨(dd,.pt false cs) :: σ.t,σ.bx.eraseIdx i,σ.tk⟩ Φ):Hx g n σ Φ:=by
 rintro a w ⟨R,hr⟩
 obtain ⟨v,hv,hv2⟩:=hr.tm _ _ hl
 obtain rfl:v= .pointer (some ⟨b,0,none⟩):=hv2
 have hsub:(σ.bx.eraseIdx i).Sublist σ.bx:=List.eraseIdx_sublist _ _
 have hmem:=List.mem_of_getElem? hb
 obtain ⟨⟨us,k1,k2,k3⟩,k4⟩:=hr.mem.box _ hmem hcs
 have hnod:=hr.mem.nod
 have hblt:=(Array.getElem?_eq_some_iff.1 k1).1
 have hxb:bxb (⟨b,E,cs⟩:Bx)=some b:=eW (x:=⟨b,E,cs⟩) hcs
 have hnotin:b ∉ (σ.bx.eraseIdx i).filterMap bxb++σ.tk.filterMap tkb:=by
  have h6:σ.bx=σ.bx.take i++(⟨b,E,cs⟩:Bx) :: σ.bx.drop (i+1):=by
   have hlt:=(List.getElem?_eq_some_iff.1 hb).1
   have he:=(List.getElem?_eq_some_iff.1 hb).2
   rw [← he,← List.drop_eq_getElem_cons hlt,List.take_append_drop]
  rw [h6,List.filterMap_append,List.filterMap_cons,hxb,List.append_assoc] at hnod
  have h8:=(List.nodup_cons.1 (List.perm_middle.nodup_iff.1 hnod)).1
  rw [List.eraseIdx_eq_take_drop_succ,List.filterMap_append,List.append_assoc]
  exact h8
 have hlen:=k2.length
 have kp:Kp R w (fun b' o=>R b' o∨(b'=b∧o<cs.length)) w:=fun b' o hb=>⟨.inl hb,rfl⟩
 have hm:MemOk (fun b' o=>R b' o∨(b'=b∧o<cs.length)) (σ.bx.eraseIdx i) σ.tk w:=by
  refine ⟨fun b' o hb=>?_,fun x hx hne0=>?_,fun t ht b' c e=>?_,hnod.sublist ((hsub.filterMap _).append (List.Sublist.refl _))⟩
  ·rcases hb with hb | ⟨rfl,_⟩
   ·exact hr.mem.lt b' o hb
   ·exact hblt
  ·obtain ⟨⟨us',q1,q2,q3⟩,q4⟩:=hr.mem.box x (hsub.subset hx) hne0
   refine ⟨⟨us',q1,q2.mono kp,q3⟩,fun o ho=>?_⟩
   rcases ho with ho | ⟨e,_⟩
   ·exact q4 o ho
   ·exact hnotin (List.mem_append.2 (.inl (List.mem_filterMap.2 ⟨x,hx,by rw [eW hne0,e]⟩)))
  ·obtain ⟨q1,q2,q3⟩:=hr.mem.own t ht b' c e
   refine ⟨q1,q2,fun o ho hR=>?_⟩
   rcases hR with hR | ⟨e2,_⟩
   ·exact q3 o ho hR
   ·exact hnotin (List.mem_append.2 (.inr (List.mem_filterMap.2 ⟨t,ht,by simp [tkb,e,e2]⟩)))
 have hdb:g.D b∨g.w.heap.size≤b:=hr.dm b (by unfold dom;exact List.mem_append.2 (.inl (List.mem_filterMap.2 ⟨_,hmem,hxb⟩)))
 refine h a w ⟨_,hm,?_,fun b' hb'=>hr.dm b' ?_,hr.df,hr.sz,fun d s hd=>?_⟩
 ·refine ⟨hr.mv.os,hr.mv.tape,hr.mv.output,hr.mv.size,hr.mv.block,hr.mv.keep.trans kp,fun b' o hR=>?_⟩
  rcases hR with hR | ⟨rfl,_⟩
  ·exact hr.mv.new b' o hR
  ·exact .inr (hdb.symm)
 ·unfold dom at hb' ⊢
  exact ((hsub.filterMap _).append (List.Sublist.refl _)).subset hb'
 ·simp only [aX] at hd
  cases hbd:Nat.beq dd d with
  | true=>
   rw [hbd] at hd
   obtain rfl:=Nat.eq_of_beq_eq_true hbd
   obtain rfl:=Option.some.inj hd
   refine ⟨_,hv,⟨b,0,rfl,RepC.of_vals (k2.mono kp) k3 fun j u hj=>⟨.inr ⟨rfl,?_⟩,?_⟩⟩⟩
   ·have:=(List.getElem?_eq_some_iff.1 hj).1;simp only at hlen;omega
   ·rw [cell_of_row w b (0+j) us E (0,0) k1,Nat.zero_add];simpa using hj
  | false=>
   rw [hbd] at hd
   obtain ⟨v,q1,q2⟩:=hr.tm d s hd
   exact ⟨v,q1,q2.mono kp⟩
end
section
variable {P:Program} {ops:Array Oper} {Q:Exit→Act→World→Prop} {g:Gh} {n:Nat} {t:List (Nat×Sd)} {bx:List Bx} {tk:List Tk} {rest:List Oper} {fuel:Nat} {listed:Array Bool}
theorem AP (i dd:Nat) {b:Nat} {E:TypeId} {c:Sd} {cs:List Sd} (hb:bx[i]? =some ⟨b,E,c :: cs⟩) (hl:aX t dd=some (.v (.pointer (some ⟨b,0,none⟩))))
  (h:HL P ops Q g n ⟨(dd,.pt false (c :: cs)) :: t,bx.eraseIdx i,tk⟩ rest):HL P ops Q g n ⟨t,bx,tk⟩ rest:=⟨xC (σ:=⟨t,bx,tk⟩) hb (by simp) hl h.h⟩
end
end Go.Proofs.YtnbceeholnkfeaaGreatDoor
namespace Go.Proofs.YtnbceeholnkfeaaGreatDoor
open Go.RowKit
theorem sq_ {p:Prop} (h:p:=by first | rfl | exact (List.append_nil _).symm | exact List.append_nil _ | exact List.append_assoc _ _ _ | exact (List.append_assoc _ _ _).symm | exact congrArg _ (List.append_nil _).symm | exact congrArg _ (List.append_nil _) | (simp;done) | (simp [aH];done)):p:=h
theorem sl_ {p:Prop} (h:p:=by first | rfl | exact aE (by rfl) | exact qE rfl (aE (by rfl)) (by rfl) | exact qE (aE (by rfl)) rfl (by rfl) | exact qE rfl (qE (aE (by rfl)) rfl (by rfl)) (by rfl) | (simp only [qD,aH,List.length_append,List.length_cons,List.length_nil];done) | (simp only [qD,aH,List.length_append,List.length_cons,List.length_nil];rfl)):p:=h
theorem so_ {p:Prop} (h:p:=by first | rfl | omega | (simp only [List.length_cons,List.length_nil];omega) | (simp only [qD,List.length_append,List.length_cons,List.length_nil];omega)):p:=h
theorem ev_ {p:Prop} (h:p:=by first | rfl | exact congrArg (fun q=>some (Sd.agg q)) sq_):p:=h
theorem wk_ {s s':Sd} (h:Wk s s':=by first | with_reducible exact Wk.refl _ | exact Wk.nil_own _ | exact Wk.nil_pl _ | with_reducible exact Wk.tok _ _ _ | exact Wk.tok _ _ _ | exact Wk.nil_pt _ | exact .eq rfl):Wk s s':=h
theorem wr_ {a b:List (List Sd)} (h:WkR a b:=by first | exact D4 rfl | (repeat (first | exact WkR.nil | refine WkR.cons (by (repeat (first | exact WkL.nil | refine WkL.cons (by first | with_reducible exact Wk.refl _ | exact Wk.nil_own _ | exact Wk.nil_pl _ | with_reducible exact Wk.tok _ _ _ | exact Wk.tok _ _ _ | exact Wk.nil_pt _ | exact Wk.eq (by first | rfl | (simp [];done) | (simp [];omega))) ?_))) ?_))):WkR a b:=h
theorem sm_ {bx bx':List Bx} {tk tk':List Tk} (h:SubM bx tk bx' tk':=by exact (SubM.of (by repeat (first | with_reducible exact SubB.refl _ | exact SubB.nil _ | refine SubB.keep rfl rfl (by first | with_reducible exact WkL.refl _ | ((repeat (first | exact WkL.nil | refine WkL.cons (by first | with_reducible exact Wk.refl _ | exact Wk.nil_own _ | exact Wk.nil_pl _ | with_reducible exact Wk.tok _ _ _ | exact Wk.tok _ _ _ | exact Wk.nil_pt _ | exact Wk.eq (by first | rfl | (simp [];done) | (simp [];omega))) ?_));done) | exact WkL.refl _) ?_ | refine SubB.drop ?_)) (by repeat (first | exact SubT.nil _ | refine SubT.add ?_ | (refine SubT.keep ?_ ?_;focus (first | with_reducible rfl | (simp [];done))) | refine SubT.drop ?_)))):SubM bx tk bx' tk':=h
section
variable {P:Program} {ops:Array Oper} {Q:Exit→Act→World→Prop} {g:Gh} {n:Nat} {t:List (Nat×Sd)} {bx:List Bx} {tk:List Tk} {rest:List Oper} {ty:TypeId} {ps:String} {af:Array Edge} {gd:Option (Nat×Bool)} {fuel:Nat} {listed:Array Bool}
theorem aC {T E:TypeId} {x v:Operand} {ag:Bool} {k b o:Nat} {cs:List Sd} {s:Sd} (j:Nat) (pre mid post cs':List Sd) (hs:Shp P T ag k) (hx:ev t x=some (.v (.pointer (some ⟨b,o,none⟩)))) (hb:bx[j]? =some ⟨b,E,cs⟩) (hv:ev t v=some s)
  (h1:gb s=true) (hw:aD ops t gd=some true) (h:HL P ops Q g n ⟨t,bx.set j ⟨b,E,cs'⟩,tk⟩ rest) (hcs:cs=pre++(mid++post):=by exact sq_) (ho:pre.length=o:=by exact sl_) (hm:mid.length=k:=by exact sl_) (hc:(aH s).length=k:=by exact sl_) (hn:pre++(aH s++post)=cs':=by exact sq_):HL P ops Q g n ⟨t,bx,tk⟩ (⟨none,.store T x v,ty,ps,af,gd⟩:: rest):=
 CY j pre mid post hcs ho hm hs hx hb hv h1 hc hw (by rw [hn];exact h)
theorem jI {T E:TypeId} {x v:Operand} {ag:Bool} {k b o:Nat} {cs:List Sd} {s:Sd} (j:Nat) (pre mid post cs':List Sd) (hs:Shp P T ag k) (hx:ev t x=some (.v (.pointer (some ⟨b,o,none⟩)))) (hb:bx[j]? =some ⟨b,E,cs⟩) (hv:ev t v=some s)
  (h1:gb s=true) (hw:aD ops t gd=some true) (h:HA P ops Q g n ⟨t,bx.set j ⟨b,E,cs'⟩,tk⟩ fuel listed) (hcs:cs=pre++(mid++post):=by exact sq_) (ho:pre.length=o:=by exact sl_) (hm:mid.length=k:=by exact sl_) (hc:(aH s).length=k:=by exact sl_) (hn:pre++(aH s++post)=cs':=by exact sq_):HW P ops Q g n ⟨t,bx,tk⟩ fuel listed ⟨none,.store T x v,ty,ps,af,gd⟩:=
 CZ j pre mid post hcs ho hm hs hx hb hv h1 hc hw (by rw [hn];exact h)
end
theorem EE {x y:Bool} (h:x=true):(x || y)=true:=by rw [h];rfl
theorem EF {x y:Bool} (h:x=false):(x || y)=y:=by rw [h];rfl
theorem Dt {x y:Bool} (h:x=true):(x && y)=y:=by rw [h];rfl
theorem Du {x y:Bool} (h:x=false):(x && y)=false:=by rw [h];rfl
theorem Cb {α:Type} {x:Bool} {a b:α} (h:x=true):(bif x then a else b)=a:=by rw [h];rfl
theorem Cc {α:Type} {x:Bool} {a b:α} (h:x=false):(bif x then a else b)=b:=by rw [h];rfl
end Go.Proofs.YtnbceeholnkfeaaGreatDoor
