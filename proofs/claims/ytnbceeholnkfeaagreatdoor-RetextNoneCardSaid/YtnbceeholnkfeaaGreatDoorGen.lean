/- Steps of a walk whose values are told as lists of data; what a function's text asks for, as a plain statement. -/
import Derived.Test.YtnbceeholnkfeaaGreatDoorTy
import Derived.Test.YtnbceeholnkfeaaGreatDoorMem
import Derived.Test.YtnbceeholnkfeaaGreatDoorFront
import Derived.OpenShut
import Derived.Laws.StructEq
import Derived.ChangeKeysEq
import Derived.Lib.BytesEntry
namespace Go.Proofs.YtnbceeholnkfeaaGreatDoor
def InR (z:Int):Prop:=-9223372036854775808≤z∧z≤9223372036854775807
def ba {S:Type} (F:(S→Prop)→S→Prop) (s0:S):Prop:=∃ Inv:S→Nat→Prop,(∃ m,Inv s0 m)∧∀ s m,Inv s m→F (fun s'=>∃ m',m'<m∧Inv s' m') s
abbrev ei (x:Int):List Sd:=[.v (.int .i64 x)]
abbrev eB (x:Bool):List Sd:=[.v (.bool x)]
abbrev es (x:ByteArray):List Sd:=[.v (.string x)]
abbrev ew (x:UInt64):List Sd:=[.v (.int .u64 (x.toNat:Int))]
theorem w8 (c:UInt8):(c.toNat:Int)=IntKind.i64.wrap (c.toNat:Int):=(IntWalk.i64_in _ (by have:=c.toNat_lt;omega)).symm
theorem qn {b:Bool} (h:b=false):(!b)=true:=by rw [h];rfl
theorem qo {b:Bool} (h:b=true):(!b)=false:=by rw [h];rfl
theorem b_f {b:Bool} (h:¬ (b=true)):b=false:=by cases b <;> simp_all
section
variable {P:Program} {ops:Array Oper} {Q:Exit→Act→World→Prop} {g:Gh} {n:Nat} {σ:St} {t:List (Nat×Sd)} {bx:List Bx} {tk:List Tk} {rest:List Oper} {ty:TypeId} {ps:String} {af:Array Edge} {gd:Option (Nat×Bool)} {fuel:Nat} {listed:Array Bool}
section
variable {d:Option Nat}
theorem wy {T yt:TypeId} {x y:Operand} {a b:Int} (h:InR (a+b)) (hx:ev σ.t x=some (.v (.int .i64 a))) (hy:ev σ.t y=some (.v (.int .i64 b))):Val P g n σ ⟨d,.binOp .add T x y yt,ty,ps,af,gd⟩ (.v (.int .i64 (a+b))):=
 mZ hx hy (by show some (Value.int .i64 (IntKind.i64.wrap (a+b)))=_;rw [kA h.1 h.2])
theorem wz {T yt:TypeId} {x y:Operand} {a b:Int} (h:InR (a - b)) (hx:ev σ.t x=some (.v (.int .i64 a))) (hy:ev σ.t y=some (.v (.int .i64 b))):Val P g n σ ⟨d,.binOp .sub T x y yt,ty,ps,af,gd⟩ (.v (.int .i64 (a - b))):=
 mZ hx hy (by show some (Value.int .i64 (IntKind.i64.wrap (a - b)))=_;rw [kA h.1 h.2])
theorem wA {T yt:TypeId} {x y:Operand} {a b:Int} (h:InR (a * b)) (hx:ev σ.t x=some (.v (.int .i64 a))) (hy:ev σ.t y=some (.v (.int .i64 b))):Val P g n σ ⟨d,.binOp .mul T x y yt,ty,ps,af,gd⟩ (.v (.int .i64 (a * b))):=
 mZ hx hy (by show some (Value.int .i64 (IntKind.i64.wrap (a * b)))=_;rw [kA h.1 h.2])
theorem fe {op:BinOp} {T yt:TypeId} {x y:Operand} {u v:Value} {k:IntKind} {z z':Int} (e:z'=z) (hx:ev σ.t x=some (.v u)) (hy:ev σ.t y=some (.v v)) (h:tr op u v=some (.int k z)):Val P g n σ ⟨d,.binOp op T x y yt,ty,ps,af,gd⟩ (.v (.int k z')):=e▸mZ hx hy h
theorem eU {T t':TypeId} {d':TypeDesc} {x:Operand} {k k':IntKind} {z z':Int} (e:z'=k'.wrap z) (hu:P.underlying T=some d') (hu':P.underlying t'=some (.int k')) (hx:ev σ.t x=some (.v (.int k z))):Val P g n σ ⟨d,.convert T t' x,ty,ps,af,gd⟩ (.v (.int k' z')):=e▸Bc hu hu' hx
theorem wB {α:Type} {f:α→List Sd} {l:List α} {x:Operand} {k:Nat} {tok:Option (Option (Nat×Nat))} {T E:TypeId} (hu:P.underlying T=some (.slice E)) (hx:ev σ.t x=some (.sl k tok (l.map f))):
  Val P g n σ ⟨d,.call ⟨.builtin .len,#[x],#[T]⟩,ty,ps,af,gd⟩ (.v (.int .i64 (l.length:Int))):=by
 have:=Eo (P:=P) (g:=g) (n:=n) (d:=d) (ty:=ty) (ps:=ps) (af:=af) (gd:=gd) hu hx rfl
 rwa [List.length_map] at this
theorem aJ {α:Type} {f:α→List Sd} {l:List α} {x ix:Operand} {T E:TypeId} {ki:IntKind} {z:Int} {b:Bool} {k:Nat} {tok:Option (Option (Nat×Nat))} {r:α} (h0:0≤z) (hl:l[z.toNat]? =some r) (hu:P.underlying T=some (.slice E)) (hs:Shp P E b k)
  (hx:ev σ.t x=some (.sl k tok (l.map f))) (hi:ev σ.t ix=some (.v (.int ki z))):Val P g n σ ⟨d,.indexAddr T x ix,ty,ps,af,gd⟩ (.el (f r)):=
 vy hu hs hx hi (Int.toNat_of_nonneg h0).symm (kO hl)
theorem pM {α:Type} {f:α→List Sd} {l:List α} {x:Operand} {T E:TypeId} {lo hi:Option Operand} {a b:Nat} {ag:Bool} {k:Nat} {tok:Option (Option (Nat×Nat))} (h1:a≤b) (h2:b≤l.length) (hu:P.underlying T=some (.slice E)) (hs:Shp P E ag k)
  (hx:ev σ.t x=some (.sl k tok (l.map f))) (hl:Bd σ.t 0 lo a) (hh:Bd σ.t l.length hi b):Val P g n σ ⟨d,.slice T x lo hi none,ty,ps,af,gd⟩ (.sl k none (((l.take b).drop a).map f)):=by
 have:=Be (P:=P) (g:=g) (n:=n) (d:=d) (ty:=ty) (ps:=ps) (af:=af) (gd:=gd) hu hs hx hl (by rw [List.length_map];exact hh) h1 (by rw [List.length_map];exact h2)
 rwa [← List.map_take,← List.map_drop] at this
theorem Bd.int_ {t:List (Nat×Sd)} {dflt:Nat} {x:Operand} {k:IntKind} {z:Int} (h0:0≤z) (h:ev t x=some (.v (.int k z))):Bd t dflt (some x) z.toNat:=.some_ h (Int.toNat_of_nonneg h0).symm
theorem oR {α:Type} {f:α→List Sd} {l:List α} {x y:Operand} {T E:TypeId} {ag:Bool} {k:Nat} {z:Int} {ki:IntKind} {tok:Option (Option (Nat×Nat))} (h:0≤z∧z≤(l.length:Int)) (hu:P.underlying T=some (.slice E)) (hs:Shp P E ag k)
  (hx:ev σ.t x=some (.sl k tok (l.map f))) (hy:ev σ.t y=some (.v (.int ki z))):Val P g n σ ⟨d,.slice T x none (some y) none,ty,ps,af,gd⟩ (.sl k none ((l.take z.toNat).map f)):=by
 have:=pM (P:=P) (g:=g) (n:=n) (d:=d) (ty:=ty) (ps:=ps) (af:=af) (gd:=gd) (lo:=none) (Nat.zero_le _) (show z.toNat≤l.length by omega) hu hs hx rfl (Bd.int_ h.1 hy)
 rwa [List.drop_zero] at this
theorem xw {α:Type} {f:α→List Sd} {l:List α} {x y:Operand} {T E:TypeId} {ag:Bool} {k:Nat} {z:Int} {ki:IntKind} {tok:Option (Option (Nat×Nat))} (h:0≤z∧z≤(l.length:Int)) (hu:P.underlying T=some (.slice E)) (hs:Shp P E ag k)
  (hx:ev σ.t x=some (.sl k tok (l.map f))) (hy:ev σ.t y=some (.v (.int ki z))):Val P g n σ ⟨d,.slice T x (some y) none none,ty,ps,af,gd⟩ (.sl k none ((l.drop z.toNat).map f)):=by
 have:=pM (P:=P) (g:=g) (n:=n) (d:=d) (ty:=ty) (ps:=ps) (af:=af) (gd:=gd) (hi:=none) (show z.toNat≤l.length by omega) (Nat.le_refl _) hu hs hx (Bd.int_ h.1 hy) rfl
 rwa [List.take_length] at this
theorem sc {α:Type} {f:α→List Sd} {l:List α} {x y y':Operand} {T E:TypeId} {ag:Bool} {k:Nat} {z z':Int} {ki ki':IntKind} {tok:Option (Option (Nat×Nat))} (h:0≤z∧z≤z'∧z'≤(l.length:Int)) (hu:P.underlying T=some (.slice E)) (hs:Shp P E ag k)
  (hx:ev σ.t x=some (.sl k tok (l.map f))) (hy:ev σ.t y=some (.v (.int ki z))) (hy':ev σ.t y'=some (.v (.int ki' z'))):Val P g n σ ⟨d,.slice T x (some y) (some y') none,ty,ps,af,gd⟩ (.sl k none (((l.take z'.toNat).drop z.toNat).map f)):=
 pM (show z.toNat≤z'.toNat by omega) (show z'.toNat≤l.length by omega) hu hs hx (Bd.int_ h.1 hy) (Bd.int_ (by omega) hy')
end
theorem xre (d:Nat) {s s':Sd} (hl:aX t d=some s) (hw:Wk s s') (h:HL P ops Q g n ⟨(d,s') :: t,bx,tk⟩ rest):HL P ops Q g n ⟨t,bx,tk⟩ rest:=
 ⟨j0 (σ':=⟨(d,s') :: t,bx,tk⟩) ⟨ImpT.cons hl hw (ImpT.refl _),SubM.refl _ _⟩ h.h⟩
theorem Gz (d:Nat) {s s':Sd} (hl:aX t d=some s) (hw:Wk s s') (h:HA P ops Q g n ⟨(d,s') :: t,bx,tk⟩ fuel listed):HA P ops Q g n ⟨t,bx,tk⟩ fuel listed:=
 ⟨j0 (σ':=⟨(d,s') :: t,bx,tk⟩) ⟨ImpT.cons hl hw (ImpT.refl _),SubM.refl _ _⟩ h.h⟩
theorem lg (d:Nat) {b b':Bool} (hb:b=b') (hl:aX t d=some (.v (.bool b))) (h:HL P ops Q g n ⟨(d,.v (.bool b')) :: t,bx,tk⟩ rest):HL P ops Q g n ⟨t,bx,tk⟩ rest:=xre d hl (.eq (by rw [hb])) h
theorem nz (d:Nat) {b b':Bool} (hb:b=b') (hl:aX t d=some (.v (.bool b))) (h:HA P ops Q g n ⟨(d,.v (.bool b')) :: t,bx,tk⟩ fuel listed):HA P ops Q g n ⟨t,bx,tk⟩ fuel listed:=Gz d hl (.eq (by rw [hb])) h
theorem qp {c:Operand} {x y:Code} {b:Bool} (hb:b=true) (hc:ev σ.t c=some (.v (.bool b))) (h:HC P Q g n σ x):HC P Q g n σ (.cond c x y):=yF (hb▸hc) h
theorem qq {c:Operand} {x y:Code} {b:Bool} (hb:b=false) (hc:ev σ.t c=some (.v (.bool b))) (h:HC P Q g n σ y):HC P Q g n σ (.cond c x y):=yG (hb▸hc) h
theorem D4 {a b:List (List Sd)} (h:a=b):WkR a b:=h▸WkR.refl _
theorem ImpT.consW {t t':List (Nat×Sd)} {d:Nat} {s s':Sd} (hw:Wk s s') (ht:ImpT t t'):ImpT ((d,s) :: t) ((d,s') :: t'):=by
 intro e x hx
 unfold aX at hx ⊢
 split at hx
 ·injection hx with hx
  subst hx
  exact ⟨s,rfl,hw⟩
 ·exact ht e x hx
def ef (n bytes:Nat):Prop:=n≤maxLen∧n * bytes≤140737488355328
theorem dv {α:Type} {f:α→List Sd} {l l2:List α} {d:Nat} {T E:TypeId} {k bytes:Nat} {zero:List Value} {x y:Operand} {id:Option (Nat×Nat)} {tok2:Option (Option (Nat×Nat))} {s2:Sd} (i:Nat) (hby:ef (l.length+l2.length) bytes) (ht:P.underlying T=some (.slice E)) (hi:Inf P E k bytes zero) (hk0:Nat.blt 0 k=true)
  (hx:ev t x=some (.sl k (some id) (l.map f))) (hy:ev t y=some s2) (hw2:Wk s2 (.sl k tok2 (l2.map f))) (htk:tk[i]? =some ⟨id,E,k,l.length⟩) (hw:aD ops t gd=some true) (hd:Nat.blt d n=true)
  (h:∀ id',HL P ops Q g n ⟨(d,.sl k (some id') ((l++l2).map f)) :: t,bx,tk.set i ⟨id',E,k,(l++l2).length⟩⟩ rest):
  HL P ops Q g n ⟨t,bx,tk⟩ (⟨some d,.call ⟨.builtin .append,#[x,y],#[T,T]⟩,ty,ps,af,gd⟩:: rest):=
 CH ht hi hk0 i hx hy hw2 htk (List.length_map _).symm hw hd (by rw [List.length_map,List.length_map];exact hby) fun id'=>by
  have:=h id'
  rw [List.map_append] at this
  rwa [show (l.map f++l2.map f).length=(l++l2).length by simp]
theorem ko {α:Type} {f:α→List Sd} {l l2:List α} {d:Nat} {T E:TypeId} {k bytes:Nat} {zero:List Value} {x y:Operand} {id:Option (Nat×Nat)} {tok2:Option (Option (Nat×Nat))} {s2:Sd} (i:Nat) (hby:ef (l.length+l2.length) bytes) (ht:P.underlying T=some (.slice E)) (hi:Inf P E k bytes zero) (hk0:Nat.blt 0 k=true)
  (hx:ev t x=some (.sl k (some id) (l.map f))) (hy:ev t y=some s2) (hw2:Wk s2 (.sl k tok2 (l2.map f))) (htk:tk[i]? =some ⟨id,E,k,l.length⟩) (hw:aD ops t gd=some true) (hd:Nat.blt d n=true)
  (h:∀ id',HA P ops Q g n ⟨(d,.sl k (some id') ((l++l2).map f)) :: t,bx,tk.set i ⟨id',E,k,(l++l2).length⟩⟩ fuel listed):
  HW P ops Q g n ⟨t,bx,tk⟩ fuel listed ⟨some d,.call ⟨.builtin .append,#[x,y],#[T,T]⟩,ty,ps,af,gd⟩:=
 CI ht hi hk0 i hx hy hw2 htk (List.length_map _).symm hw hd (by rw [List.length_map,List.length_map];exact hby) fun id'=>by
  have:=h id'
  rw [List.map_append] at this
  rwa [show (l.map f++l2.map f).length=(l++l2).length by simp]
theorem qP {α:Type} {f:α→List Sd} {l2:List α} {d:Nat} {T E:TypeId} {k bytes:Nat} {zero:List Value} {x y:Operand} {tok2:Option (Option (Nat×Nat))} {s2:Sd} (hby:ef l2.length bytes) (ht:P.underlying T=some (.slice E)) (hi:Inf P E k bytes zero) (hk0:Nat.blt 0 k=true)
  (hx:ev t x=some (.v (.slice none 0 0))) (hy:ev t y=some s2) (hw2:Wk s2 (.sl k tok2 (l2.map f))) (hw:aD ops t gd=some true) (hd:Nat.blt d n=true)
  (h:∀ id',HL P ops Q g n ⟨(d,.sl k (some id') (l2.map f)) :: t,bx,⟨id',E,k,l2.length⟩:: tk⟩ rest):
  HL P ops Q g n ⟨t,bx,tk⟩ (⟨some d,.call ⟨.builtin .append,#[x,y],#[T,T]⟩,ty,ps,af,gd⟩:: rest):=
 xj ht hi hk0 hx hy hw2 hw hd (by rw [List.length_map];exact hby) fun id'=>by
  rw [List.length_map];exact h id'
theorem aM {α:Type} {f:α→List Sd} (l:List α) {d:Nat} {T E:TypeId} {k bytes len:Nat} {zero:List Value} {parts:Array (Nat×Operand)} {ss:List Sd} (hu:P.underlying T=some (.slice E)) (hi:Inf P E k bytes zero) (hk0:Nat.blt 0 k=true)
  (he:evP t k 0 parts.toList=some ss) (hm1:WkR (ss.map aH) (l.map f)) (hl:Nat.beq l.length len=true) (hm:Nat.ble (len * k) 16777216=true) (hw:aD ops t gd=some true) (hd:Nat.blt d n=true)
  (h:∀ b,HL P ops Q g n ⟨(d,.sl k (some (some (b,len))) (l.map f)) :: t,bx,⟨some (b,len),E,k,l.length⟩:: tk⟩ rest):
  HL P ops Q g n ⟨t,bx,tk⟩ (⟨some d,.buildSlice T len parts,ty,ps,af,gd⟩:: rest):=by
 have hlen:ss.length=l.length:=by have:=hm1.length;simpa using this
 refine uQ hu hi hk0 he (by rw [hlen];exact hl) hm hw hd fun b=>?_
 have:=h b
 rw [Nat.eq_of_beq_eq_true hl] at this
 exact ⟨j0 (σ':=⟨_,_,_⟩) ⟨ImpT.consW (Wk.rows hm1) (ImpT.refl _),SubM.refl _ _⟩ this.h⟩
theorem eA {α:Type} {f:α→List Sd} (l:List α) {d:Nat} {T E:TypeId} {k bytes len:Nat} {zero:List Value} {parts:Array (Nat×Operand)} {ss:List Sd} (hu:P.underlying T=some (.slice E)) (hi:Inf P E k bytes zero) (hk0:Nat.blt 0 k=true)
  (he:evP t k 0 parts.toList=some ss) (hm1:WkR (ss.map aH) (l.map f)) (hl:Nat.beq l.length len=true) (hm:Nat.ble (len * k) 16777216=true) (hw:aD ops t gd=some true) (hd:Nat.blt d n=true)
  (h:∀ b,HA P ops Q g n ⟨(d,.sl k (some (some (b,len))) (l.map f)) :: t,bx,⟨some (b,len),E,k,l.length⟩:: tk⟩ fuel listed):
  HW P ops Q g n ⟨t,bx,tk⟩ fuel listed ⟨some d,.buildSlice T len parts,ty,ps,af,gd⟩:=by
 have hlen:ss.length=l.length:=by have:=hm1.length;simpa using this
 refine uR hu hi hk0 he (by rw [hlen];exact hl) hm hw hd fun b=>?_
 have:=h b
 rw [Nat.eq_of_beq_eq_true hl] at this
 exact ⟨j0 (σ':=⟨_,_,_⟩) ⟨ImpT.consW (Wk.rows hm1) (ImpT.refl _),SubM.refl _ _⟩ this.h⟩
abbrev xx {α:Type} (k:Nat) (E:TypeId) (f:α→List Sd) (l:List α):Sd→List Bx→List Tk→Prop:=fun r bx tk=>∃ id,r= .sl k (some id) (l.map f)∧bx=[]∧tk=[⟨id,E,k,l.length⟩]
end
theorem sd {α:Type} {l:List α} {i:Nat} (hi:i<l.length):(l[i] :: l.eraseIdx i).Perm l:=by
 rw [List.eraseIdx_eq_take_drop_succ]
 refine List.perm_middle.symm.trans ?_
 rw [← List.drop_eq_getElem_cons hi,List.take_append_drop]
theorem SubM.mvB {bx:List Bx} {tk:List Tk} (i:Nat) {x:Bx} (h:bx[i]? =some x):SubM bx tk (x :: bx.eraseIdx i) tk:=by
 obtain ⟨hi,rfl⟩:=List.getElem?_eq_some_iff.1 h
 exact SubM.perm (sd hi).symm (List.Perm.refl _)
theorem SubM.mvT {bx:List Bx} {tk:List Tk} (i:Nat) {x:Tk} (h:tk[i]? =some x):SubM bx tk bx (x :: tk.eraseIdx i):=by
 obtain ⟨hi,rfl⟩:=List.getElem?_eq_some_iff.1 h
 exact SubM.perm (List.Perm.refl _) (sd hi).symm
end Go.Proofs.YtnbceeholnkfeaaGreatDoor
namespace Go.Proofs.YtnbceeholnkfeaaGreatDoor
open Go.RowKit
structure Arr (n:Nat) (α:Type) where
 l:List α
 len:l.length=n
instance {n:Nat} {α:Type} [Rp α]:Rp (Arr n α):={
 size:=n * Rp.size α
 rep S w cs x:=Chunks S w cs x.l
 len h:=by rw [h.length,Arr.len]
 one h:=h.one
 keep h hk:=h.keep hk
 sub h hk:=h.sub hk }
instance:Rp ByteArray:={
 size:=1
 rep _ _ cs x:=cs=[.string x]∧x.size≤maxLen
 len:=by rintro _ _ _ _ ⟨rfl,_⟩;rfl
 one:=by rintro _ _ _ _ ⟨rfl,_⟩ u hu;simp at hu;subst hu;rfl
 keep h _:=h
 sub h _:=h }
def Rd0 (w:World):Nat→Nat→Prop:=fun b _=>b<w.heap.size
class bV (α:Type) [Rp α] where
 enc:α→List Sd
 wf:α→Prop
 ok:∀ {w:World} {cs:List Value} {x:α},Rp.rep (fun b=>b<w.heap.size) w cs x→RepL (Rd0 w) w (enc x) cs∧wf x
instance:bV UInt8:=⟨eb,fun _=>True,by rintro w cs x (rfl:cs=_);exact ⟨⟨_,[],rfl,rfl,rfl⟩,trivial⟩⟩
instance:bV Bool:=⟨fun x=>[.v (.bool x)],fun _=>True,by rintro w cs x (rfl:cs=_);exact ⟨⟨_,[],rfl,rfl,rfl⟩,trivial⟩⟩
instance:bV Int:=⟨fun x=>[.v (.int .i64 x)],I64,by rintro w cs x ⟨rfl,h⟩;exact ⟨⟨_,[],rfl,rfl,rfl⟩,h⟩⟩
instance:bV ByteArray:=⟨fun x=>[.v (.string x)],fun x=>x.size≤maxLen,by rintro w cs x ⟨rfl,h⟩;exact ⟨⟨_,[],rfl,rfl,rfl⟩,h⟩⟩
instance {α β:Type} [Rp α] [Rp β] [bV α] [bV β]:bV (α×β):=⟨fun x=>bV.enc x.1++bV.enc x.2,fun x=>bV.wf x.1∧bV.wf x.2,by
 rintro w cs x ⟨c,d,rfl,h1,h2⟩
 exact ⟨(bV.ok h1).1.append (bV.ok h2).1,(bV.ok h1).2,(bV.ok h2).2⟩⟩
theorem zV {α:Type} [Rp α] [bV α] {w:World} {cs:List Value} {x:α} (h:Rp.rep (fun b=>b<w.heap.size) w cs x):(bV.enc x).length=Rp.size α:=by rw [← (bV.ok h).1.length,Rp.len h]
theorem wi {α:Type} [Rp α] [bV α] {w:World} {b:Nat} (hb:b<w.heap.size):∀ (xs:List α) (o:Nat),RowAt (fun b=>b<w.heap.size) w b o xs→RepR (Rd0 w) w b o (Rp.size α) (xs.map bV.enc)∧∀ x∈xs,bV.wf x
 | [],_,_=>⟨trivial,by simp⟩
 | x :: xs,o,h=>by
  obtain ⟨cs,h1,h2⟩:=h 0 x rfl
  obtain ⟨k1,k2⟩:=wi hb xs (o+Rp.size α) fun i y hy=>by
   obtain ⟨cs',q1,q2⟩:=h (i+1) y (by simpa using hy)
   exact ⟨cs',fun j u hu=>by have:=q1 j u hu;rwa [show o+(i+1) * Rp.size α+j=o+Rp.size α+i * Rp.size α+j by rw [Nat.add_mul];omega] at this,q2⟩
  refine ⟨⟨zV h2,RepC.of_vals (bV.ok h2).1 (Rp.one h2) fun j u hu=>⟨hb,by have:=h1 j u hu;rwa [Nat.zero_mul,Nat.add_zero] at this⟩,k1⟩,fun y hy=>?_⟩
  simp at hy
  rcases hy with rfl | hy
  ·exact (bV.ok h2).2
  ·exact k2 y hy
instance {α:Type} [Rp α] [bV α]:bV (List α):=⟨fun xs=>[.sl (Rp.size α) none (xs.map bV.enc)],fun xs=>xs.length≤maxLen∧∀ x∈xs,bV.wf x,by
 rintro w cs xs ⟨A,n,c,rfl,hl,⟨hc1,hc2⟩,h⟩
 have hlen:(xs.map (bV.enc (α:=α))).length=n:=by rw [List.length_map];exact hl
 rcases Nat.eq_zero_or_pos n with h0 | h0
 ·subst h0
  have:xs=[]:=List.eq_nil_of_length_eq_zero hl
  subst this
  exact ⟨⟨_,[],rfl,⟨A,c,rfl,⟨Nat.zero_le _,hc2⟩,fun e=>(by cases e),fun _ _ e=>(by cases e),.inl rfl⟩,rfl⟩,by simp,by simp⟩
 ·obtain ⟨b,o,rfl,hb,hr⟩:=h h0
  obtain ⟨k1,k2⟩:=wi hb xs o hr
  exact ⟨⟨_,[],rfl,⟨_,c,by rw [hlen],⟨by rw [hlen];exact hc1,hc2⟩,fun e=>(by cases e),fun _ _ e=>(by cases e),.inr ⟨b,o,rfl,k1⟩⟩,rfl⟩,by omega,k2⟩⟩
theorem rG {α:Type} [Rp α] [bV α] {w:World}:∀ (xs:List α) (cs:List Value),Chunks (fun b=>b<w.heap.size) w cs xs→RepL (Rd0 w) w (xs.flatMap bV.enc) cs∧∀ x∈xs,bV.wf x
 | [],cs,h=>⟨by rw [show cs=[] from h];rfl,by simp⟩
 | x :: xs,cs,⟨c,r,e,h1,h2⟩=>by
  obtain ⟨k1,k2⟩:=rG xs r h2
  subst e
  refine ⟨by rw [List.flatMap_cons];exact (bV.ok h1).1.append k1,fun y hy=>?_⟩
  simp at hy
  rcases hy with rfl | hy
  ·exact (bV.ok h1).2
  ·exact k2 y hy
instance {n:Nat} {α:Type} [Rp α] [bV α]:bV (Arr n α):=⟨fun x=>x.l.flatMap bV.enc,fun x=>∀ y∈x.l,bV.wf y,fun h=>rG _ _ h⟩
theorem sG {w:World} {s:Sd} {v:Value} {cs:List Value} (h:RepL (Rd0 w) w [s] cs) (hc:cs=[v]):RepS (Rd0 w) w s v:=by
 obtain ⟨u,r,e,h1,h2⟩:=h
 rw [hc] at e
 injection e with e1 e2
 subst e1
 exact h1
theorem tw {P:Program} {f:FuncId} {ss:List Sd} (hc:Con P f ss [] [] (Ret (.v (.bool true)))) {w:World} {vals:List Value} (hv:RepL (Rd0 w) w ss vals) (hgl:∀ b∈glb,∃ m:Int,w.cell? ⟨b,0,none⟩=some (.int .i64 m):=by intro b hb;cases hb) (hgt:∀ x∈glt,x.1<w.heap.size∧∀ i,i≤x.2.length→w.cell? ⟨x.1,i,none⟩=x.2[i]?:=by intro x hx;cases hx):
  Calls P f vals.toArray w (fun e w'=>e= .returned (.bool true)∧Below w.heap.size w w'):=by
 refine (hc (Rd0 w) w vals ⟨fun b hb=>by obtain ⟨m,h⟩:=hgl b hb;exact ⟨C0 h,m,h⟩,fun x hx i hi=>⟨(hgt x hx).1,(hgt x hx).2 i hi⟩⟩ ⟨fun b o h=>h,by simp,by simp,by simp⟩ hv).mono ?_
 rintro e w' ⟨v,r,bx',tk',Rd',rfl,⟨rfl,_,_⟩,_,k3,k4,_⟩
 obtain rfl:v= .bool true:=k3
 exact ⟨rfl,k4.os,k4.tape,k4.output,k4.size,fun k hk=>k4.block k hk (by simp [dom])⟩
end Go.Proofs.YtnbceeholnkfeaaGreatDoor
namespace Go.Proofs.YtnbceeholnkfeaaGreatDoor
def Arr.set {n:Nat} {α:Type} (a:Arr n α) (i:Nat) (x:α):Arr n α:=⟨a.l.set i x,by rw [List.length_set];exact a.len⟩
def Arr.rep {α:Type} (n:Nat) (x:α):Arr n α:=⟨List.replicate n x,List.length_replicate⟩
theorem Arr.ext {n:Nat} {α:Type}:∀ {a b:Arr n α},a.l=b.l→a=b
 | ⟨_,_⟩,⟨_,_⟩,rfl=>rfl
class dR {α:Type} (f:α→List Sd) (k:outParam Nat):Prop where
 h:∀ x,(f x).length=k
instance:dR eb 1:=⟨fun _=>rfl⟩
instance:dR ei 1:=⟨fun _=>rfl⟩
instance:dR eB 1:=⟨fun _=>rfl⟩
instance:dR ew 1:=⟨fun _=>rfl⟩
instance:dR es 1:=⟨fun _=>rfl⟩
theorem f9 {α:Type} {f:α→List Sd} {k:Nat} [h:dR f k] (l:List α):∀ r∈l.map f,r.length=k:=fun r hr=>by obtain ⟨p,_,rfl⟩:=List.mem_map.1 hr;exact h.h p
theorem qD {α:Type} {f:α→List Sd} {n k:Nat} [dR f k] (a:Arr n α):(List.map f a.l).flatten.length=n * k:=by rw [me (f9 a.l),List.length_map,a.len]
theorem aE {α:Type} {f:α→List Sd} {n k m:Nat} [dR f k] {a:Arr n α} (h:n * k=m):(List.map f a.l).flatten.length=m:=(qD a).trans h
theorem qE {α:Type} {a b:List α} {n m k:Nat} (h1:a.length=n) (h2:b.length=m) (h:n+m=k):(a++b).length=k:=by rw [List.length_append,h1,h2,h]
theorem aq {cs:List Sd} {k:Nat} (h:cs.length=k):ce true k 0 cs=some (.agg cs):=by
 show some (Sd.agg ((cs.drop 0).take k))=_
 rw [List.drop_zero,List.take_of_length_le (by omega)]
section
variable {P:Program} {ops:Array Oper} {Q:Exit→Act→World→Prop} {g:Gh} {n:Nat} {σ:St} {t:List (Nat×Sd)} {bx:List Bx} {tk:List Tk} {rest:List Oper} {ty:TypeId} {ps:String} {af:Array Edge} {gd:Option (Nat×Bool)} {fuel:Nat} {listed:Array Bool}
theorem mb {ag:Bool} {k o:Nat} {pre mid post:List Sd} {s:Sd} (ho:pre.length=o) (hm:mid.length=k) (hs:ce ag k 0 mid=some s):ce ag k o (pre++(mid++post))=some s:=by
 cases ag with
 | true=>
  show some (Sd.agg (((pre++(mid++post)).drop o).take k))=_
  rw [← ho,List.drop_left,← hm,List.take_left,← aq rfl,hm];exact hs
 | false=>
  show (pre++(mid++post))[o]? =_
  have h1:mid[0]? =some s:=hs
  have h2:0<mid.length:=(List.getElem?_eq_some_iff.1 h1).1
  rw [← ho,List.getElem?_append_right (Nat.le_refl _),Nat.sub_self,List.getElem?_append_left h2,h1]
theorem dL {ag:Bool} {k o:Nat} {cs pre mid post:List Sd} {s:Sd} (hcs:cs=pre++(mid++post)) (ho:pre.length=o) (hm:mid.length=k) (hs:ce ag k 0 mid=some s):ce ag k o cs=some s:=hcs▸mb ho hm hs
theorem GC {k o:Nat} {cs pre mid post:List Sd} (hcs:cs=pre++(mid++post)) (ho:pre.length=o) (hm:mid.length=k):o+k≤cs.length:=by rw [hcs,List.length_append,List.length_append];omega
section
variable {d:Option Nat}
theorem an {x:Operand} {T E:TypeId} {ag:Bool} {k b o:Nat} {cs:List Sd} {s:Sd} (i:Nat) (pre mid post:List Sd) (hcs:cs=pre++(mid++post)) (ho:pre.length=o) (hm:mid.length=k) (hs:ce ag k 0 mid=some s) (h:Shp P T ag k) (hx:ev σ.t x=some (.v (.pointer (some ⟨b,o,none⟩)))) (hb:σ.bx[i]? =some ⟨b,E,cs⟩):
  iw P g n σ ⟨d,.load T x,ty,ps,af,gd⟩ s:=by
 subst hcs
 exact ry h hx (List.mem_of_getElem? hb) (mb ho hm hs) (by rw [List.length_append,List.length_append];omega)
theorem jD {x:Operand} {T:TypeId} {ag:Bool} {k:Nat} {cs:List Sd} {s:Sd} (mid post:List Sd) (hcs:cs=mid++post) (hm:mid.length=k) (hs:ce ag k 0 mid=some s) (h:Shp P T ag k) (hx:ev σ.t x=some (.el cs)):iw P g n σ ⟨d,.load T x,ty,ps,af,gd⟩ s:=by
 subst hcs
 exact wR h hx (mb (pre:=[]) rfl hm hs) (by rw [List.length_append];omega)
theorem aA {x ix:Operand} {T E:TypeId} {len:Nat} {ki:IntKind} {z:Int} {ag:Bool} {k b o:Nat} (h:0≤z∧z<(len:Int)) (hu:P.underlying T=some (.array len E)) (hs:Shp P E ag k)
  (hx:ev σ.t x=some (.v (.pointer (some ⟨b,o,none⟩)))) (hi:ev σ.t ix=some (.v (.int ki z))):Val P g n σ ⟨d,.indexAddr T x ix,ty,ps,af,gd⟩ (.v (.pointer (some ⟨b,o+z.toNat * k,none⟩))):=
 ud hu hs hx hi (Int.toNat_of_nonneg h.1).symm (by omega)
theorem xR {α:Type} {f:α→List Sd} {m k:Nat} [hk:dR f k] {a:Arr m α} {y:α} {x ix:Operand} {T E:TypeId} {len:Nat} {ki:IntKind} {z:Int} {ag:Bool} {cs:List Sd} {s:Sd} (post:List Sd) (h:0≤z∧z<(len:Int)) (hy:a.l[z.toNat]? =some y) (hcs:cs=(List.map f a.l).flatten++post) (hp:ce ag k 0 (f y)=some s) (hu:P.underlying T=some (.array len E)) (hs:Shp P E ag k)
  (hx:ev σ.t x=some (.agg cs)) (hi:ev σ.t ix=some (.v (.int ki z))):Val P g n σ ⟨d,.index T x ix,ty,ps,af,gd⟩ s:=by
 refine zw hu hs hx hi (Int.toNat_of_nonneg h.1).symm (by omega) ?_
 subst hcs
 have hr:=mp (pre:=[]) (post:=post) (f9 (f:=f) a.l) (kO hy)
 obtain ⟨X,Y,e1,e2,_⟩:=hr
 rw [show (List.map f a.l).flatten++post=[]++((List.map f a.l).flatten++post) from rfl,e1]
 exact mb (by simpa using e2) (hk.h y) hp
theorem dH {α:Type} {f:α→List Sd} {m k:Nat} [dR f k] {a:Arr m α} {y:α} {x:Operand} {T E:TypeId} {ag:Bool} {kk b o off i:Nat} {cs:List Sd} {s:Sd} (j:Nat) (pre post:List Sd) (hy:a.l[i]? =some y) (hcs:cs=pre++((List.map f a.l).flatten++post)) (ho:o=pre.length+i * k+off) (hl:off+kk≤k) (hs:ce ag kk off (f y)=some s)
  (h:Shp P T ag kk) (hx:ev σ.t x=some (.v (.pointer (some ⟨b,o,none⟩)))) (hb:σ.bx[j]? =some ⟨b,E,cs⟩):iw P g n σ ⟨d,.load T x,ty,ps,af,gd⟩ s:=by
 subst hcs
 exact uT j h hx hb (f9 a.l) (kO hy) hs ho hl
end
theorem xS {d:Option Nat} {x ix:Operand} {T:TypeId} {ki:IntKind} {z:Int} {s:ByteArray} {c:UInt8} (h0:0≤z) (hc:s[z.toNat]? =some c) (hu:P.underlying T=some .string)
  (hx:ev σ.t x=some (.v (.string s))) (hi:ev σ.t ix=some (.v (.int ki z))):Val P g n σ ⟨d,.index T x ix,ty,ps,af,gd⟩ (.v (.int .u8 (c.toNat:Int))):=zx hu hx hi (Int.toNat_of_nonneg h0).symm hc
theorem bX {d:Option Nat} {T E:TypeId} {len size bytes k:Nat} {ag:Bool} {zero:List Value} {parts:Array (Nat×Operand)} {qs:List (Nat×Sd)} {cs:List Sd} (hu:P.underlying T=some (.array len E)) (hs:Shp P E ag k) (hi:Inf P T size bytes zero)
  (hq:evB σ.t parts.toList=some qs) (hf:kf (fun i=>some (i * k,k)) (zero.map .v) qs=some cs):Val P g n σ ⟨d,.build T parts,ty,ps,af,gd⟩ (.agg cs):=by
 refine ⟨fun R a w hr=>?_⟩
 obtain ⟨i,z,e3,e4,e5,_,_⟩:=hi.info
 have hq':=(sY hq).out
 have h1:parts.toList.map (·.1)=qs.map (·.1):=by
  have:=congrArg (List.map (·.1)) hq'
  simpa [List.map_map,Function.comp_def] using this
 have h2:(parts.toList.map (·.2)).map (ev σ.t)=(qs.map (·.2)).map some:=by
  have:=congrArg (List.map (·.2)) hq'
  simpa [List.map_map,Function.comp_def] using this
 have h3:=hr.evs h2
 obtain ⟨us',k1,k2,k3⟩:=o3 (R:=R) (w:=w) (fun i=>some (i * k,k)) qs (parts.toList.map fun p=>(p.1,a.eval p.2)) (zero.map .v) z.cells cs (by rw [← h1];simp [Function.comp_def]) (by simpa [List.map_map,Function.comp_def] using h3) (by rw [e5];exact iE R w zero) (by rw [e5];exact fun u hu=>List.all_eq_true.1 hi.one u hu) hf
 refine ⟨.agg us',⟨us',rfl,k2,k3⟩,fun W=>?_⟩
 have e7:Instr.fill (fun i=>some (i * k,k)) z.cells (parts.map fun (i,x)=>(i,a.eval x)).toList=some us':=by
  rw [Array.toList_map]
  exact k1
 have e8:=hs.run_size W
 simp only [Array.toList_map] at e7
 simp only [execOp,Instr.build,zeroValue,typeInfo,Sem.run_bind,run_underlying hu]
 simp [e3,e4]
 rw [e8]
 simp [e7]
theorem ru {α:Type} {f:α→List Sd} (l:List α) (i:Nat) (y:α):(List.map f l).set i (f y)=List.map f (l.set i y):=(List.map_set).symm
theorem dO {α:Type} {f:α→List Sd} {m k:Nat} [dR f k] {a:Arr m α} {y:α} {T E:TypeId} {x v:Operand} {ag:Bool} {kk b o off i:Nat} {cs:List Sd} {s:Sd} (j:Nat) (pre post:List Sd) (y':α) (hy:a.l[i]? =some y) (hcs:cs=pre++((List.map f a.l).flatten++post)) (ho:o=pre.length+i * k+off) (hl:off+kk≤k) (hs:Shp P T ag kk) (hx:ev t x=some (.v (.pointer (some ⟨b,o,none⟩)))) (hb:bx[j]? =some ⟨b,E,cs⟩) (hv:ev t v=some s)
  (h1:gb s=true) (hc:(aH s).length=kk) (hp:eh off (aH s) (f y)=f y') (hw:aD ops t gd=some true) (h:HL P ops Q g n ⟨t,bx.set j ⟨b,E,pre++((List.map f (a.set i y').l).flatten++post)⟩,tk⟩ rest):HL P ops Q g n ⟨t,bx,tk⟩ (⟨none,.store T x v,ty,ps,af,gd⟩:: rest):=by
 subst hcs
 refine wx j hs hx hb hv h1 (by rw [hc];exact Nat.beq_refl _) (f9 a.l) (kO hy) ho hl hw ?_
 rw [hp,ru];exact h
theorem CX {α:Type} {f:α→List Sd} {m k:Nat} [dR f k] {a:Arr m α} {y:α} {T E:TypeId} {x v:Operand} {ag:Bool} {kk b o off i:Nat} {cs:List Sd} {s:Sd} (j:Nat) (pre post:List Sd) (y':α) (hy:a.l[i]? =some y) (hcs:cs=pre++((List.map f a.l).flatten++post)) (ho:o=pre.length+i * k+off) (hl:off+kk≤k) (hs:Shp P T ag kk) (hx:ev t x=some (.v (.pointer (some ⟨b,o,none⟩)))) (hb:bx[j]? =some ⟨b,E,cs⟩) (hv:ev t v=some s)
  (h1:gb s=true) (hc:(aH s).length=kk) (hp:eh off (aH s) (f y)=f y') (hw:aD ops t gd=some true) (h:HA P ops Q g n ⟨t,bx.set j ⟨b,E,pre++((List.map f (a.set i y').l).flatten++post)⟩,tk⟩ fuel listed):HW P ops Q g n ⟨t,bx,tk⟩ fuel listed ⟨none,.store T x v,ty,ps,af,gd⟩:=by
 subst hcs
 refine CJ j hs hx hb hv h1 (by rw [hc];exact Nat.beq_refl _) (f9 a.l) (kO hy) ho hl hw ?_
 rw [hp,ru];exact h
theorem tn {o:Nat} {pre mid post ss:List Sd} (ho:pre.length=o) (hm:mid.length=ss.length):eh o ss (pre++(mid++post))=pre++(ss++post):=by
 unfold eh
 rw [← ho,List.take_left,← hm,← List.drop_drop,List.drop_left,List.drop_left,List.append_assoc]
theorem CY {T E:TypeId} {x v:Operand} {ag:Bool} {k b o:Nat} {cs:List Sd} {s:Sd} (j:Nat) (pre mid post:List Sd) (hcs:cs=pre++(mid++post)) (ho:pre.length=o) (hm:mid.length=k) (hs:Shp P T ag k) (hx:ev t x=some (.v (.pointer (some ⟨b,o,none⟩)))) (hb:bx[j]? =some ⟨b,E,cs⟩) (hv:ev t v=some s)
  (h1:gb s=true) (hc:(aH s).length=k) (hw:aD ops t gd=some true) (h:HL P ops Q g n ⟨t,bx.set j ⟨b,E,pre++(aH s++post)⟩,tk⟩ rest):HL P ops Q g n ⟨t,bx,tk⟩ (⟨none,.store T x v,ty,ps,af,gd⟩:: rest):=by
 subst hcs
 exact ⟨fF (σ:=⟨t,bx,tk⟩) hw (tY (σ:=⟨t,bx,tk⟩) hs hx hv h1 hc hb (by rw [List.length_append,List.length_append];omega) (tn ho (by omega)) h.h)⟩
theorem CZ {T E:TypeId} {x v:Operand} {ag:Bool} {k b o:Nat} {cs:List Sd} {s:Sd} (j:Nat) (pre mid post:List Sd) (hcs:cs=pre++(mid++post)) (ho:pre.length=o) (hm:mid.length=k) (hs:Shp P T ag k) (hx:ev t x=some (.v (.pointer (some ⟨b,o,none⟩)))) (hb:bx[j]? =some ⟨b,E,cs⟩) (hv:ev t v=some s)
  (h1:gb s=true) (hc:(aH s).length=k) (hw:aD ops t gd=some true) (h:HA P ops Q g n ⟨t,bx.set j ⟨b,E,pre++(aH s++post)⟩,tk⟩ fuel listed):HW P ops Q g n ⟨t,bx,tk⟩ fuel listed ⟨none,.store T x v,ty,ps,af,gd⟩:=by
 subst hcs
 exact hw_ hw fun _ hK=>tY (σ:=⟨t,bx,tk⟩) hs hx hv h1 hc hb (by rw [List.length_append,List.length_append];omega) (tn ho (by omega)) (h.k hK)
theorem List.set_getElem?_self_ {α:Type} {l:List α} {i:Nat} {x:α} (h:l[i]? =some x):l.set i x=l:=by
 obtain ⟨hi,rfl⟩:=List.getElem?_eq_some_iff.1 h
 exact List.set_getElem_self hi
theorem bA (i:Nat) {b:Nat} {E:TypeId} {cs:List Sd} (cs':List Sd) (hb:bx[i]? =some ⟨b,E,cs⟩) (e:cs=cs') (h:HL P ops Q g n ⟨t,bx.set i ⟨b,E,cs'⟩,tk⟩ rest):HL P ops Q g n ⟨t,bx,tk⟩ rest:=by
 subst e
 rwa [List.set_getElem?_self_ hb] at h
theorem rv (i:Nat) {b:Nat} {E:TypeId} {cs:List Sd} (cs':List Sd) (hb:bx[i]? =some ⟨b,E,cs⟩) (e:cs=cs') (h:HA P ops Q g n ⟨t,bx.set i ⟨b,E,cs'⟩,tk⟩ fuel listed):HA P ops Q g n ⟨t,bx,tk⟩ fuel listed:=by
 subst e
 rwa [List.set_getElem?_self_ hb] at h
theorem ao {place:Nat→Option (Nat×Nat)} {cs:List Sd} {i off size:Nat} {s:Sd} {qs:List (Nat×Sd)} {r:List Sd} (pre mid post:List Sd) (hcs:cs=pre++(mid++post)) (ho:pre.length=off) (hm:mid.length=size) (hs:(aH s).length=size) (hp:place i=some (off,size)) (h1:gb s=true)
  (h:kf place (pre++(aH s++post)) qs=some r):kf place cs ((i,s) :: qs)=some r:=by
 subst hcs
 simp only [kf,hp]
 rw [hs,h1,show Nat.beq size size=true from Nat.beq_refl size,show Nat.ble (off+size) (pre++(mid++post)).length=true from Nat.ble_eq_true_of_le (by rw [List.length_append,List.length_append];omega),tn ho (by omega)]
 exact h
theorem mO {α:Type} {f:α→List Sd} (l:List α) {d:Nat} {T E:TypeId} {k bytes len:Nat} {zero:List Value} {parts:Array (Nat×Operand)} {ss:List Sd} (hu:P.underlying T=some (.slice E)) (hi:Inf P E k bytes zero) (hk0:Nat.blt 0 k=true)
  (he:EvP t k 0 parts.toList ss) (hm1:WkR (ss.map aH) (l.map f)) (hl:Nat.beq l.length len=true) (hm:Nat.ble (len * k) 16777216=true) (hw:aD ops t gd=some true) (hd:Nat.blt d n=true)
  (h:∀ b,HL P ops Q g n ⟨(d,.sl k (some (some (b,len))) (l.map f)) :: t,bx,⟨some (b,len),E,k,l.length⟩:: tk⟩ rest):
  HL P ops Q g n ⟨t,bx,tk⟩ (⟨some d,.buildSlice T len parts,ty,ps,af,gd⟩:: rest):=by
 have hlen:ss.length=l.length:=by have:=hm1.length;simpa using this
 refine qM hu hi hk0 he (by rw [hlen];exact hl) hm hw hd fun b=>?_
 have:=h b
 rw [Nat.eq_of_beq_eq_true hl] at this
 exact ⟨j0 (σ':=⟨_,_,_⟩) ⟨ImpT.consW (Wk.rows hm1) (ImpT.refl _),SubM.refl _ _⟩ this.h⟩
theorem eF {α:Type} {f:α→List Sd} (l:List α) {d:Nat} {T E:TypeId} {k bytes len:Nat} {zero:List Value} {parts:Array (Nat×Operand)} {ss:List Sd} (hu:P.underlying T=some (.slice E)) (hi:Inf P E k bytes zero) (hk0:Nat.blt 0 k=true)
  (he:EvP t k 0 parts.toList ss) (hm1:WkR (ss.map aH) (l.map f)) (hl:Nat.beq l.length len=true) (hm:Nat.ble (len * k) 16777216=true) (hw:aD ops t gd=some true) (hd:Nat.blt d n=true)
  (h:∀ b,HA P ops Q g n ⟨(d,.sl k (some (some (b,len))) (l.map f)) :: t,bx,⟨some (b,len),E,k,l.length⟩:: tk⟩ fuel listed):
  HW P ops Q g n ⟨t,bx,tk⟩ fuel listed ⟨some d,.buildSlice T len parts,ty,ps,af,gd⟩:=by
 have hlen:ss.length=l.length:=by have:=hm1.length;simpa using this
 refine qN hu hi hk0 he (by rw [hlen];exact hl) hm hw hd fun b=>?_
 have:=h b
 rw [Nat.eq_of_beq_eq_true hl] at this
 exact ⟨j0 (σ':=⟨_,_,_⟩) ⟨ImpT.consW (Wk.rows hm1) (ImpT.refl _),SubM.refl _ _⟩ this.h⟩
theorem ff {σ:St} (F:Nat) (L:Array Bool) (Mid:St→Prop) (h2:∀ σ',Mid σ'→HA P ops Q g n σ' F L) (h1:(∀ σ',Mid σ'→HA P ops Q g n σ' F L)→HA P ops Q g n σ fuel listed):HA P ops Q g n σ fuel listed:=h1 h2
theorem bm {σ σ':St} {F:Nat} {L:Array Bool} {Mid:St→Prop} (key:∀ σ',Mid σ'→HA P ops Q g n σ' F L) (hm:Mid σ') (hi:Imp σ σ') (hF:fuel=F) (hL:listed=L):HA P ops Q g n σ fuel listed:=by
 subst hF;subst hL
 exact ⟨j0 hi (key _ hm).h⟩
theorem mz {a b:Nat} (h:a=b):Nat.beq a b=true:=h▸Nat.beq_refl _
end
end Go.Proofs.YtnbceeholnkfeaaGreatDoor
namespace Go.Proofs.YtnbceeholnkfeaaGreatDoor
section
variable {P:Program} {ops:Array Oper} {Q:Exit→Act→World→Prop} {g:Gh} {n:Nat} {σ:St} {t:List (Nat×Sd)} {bx:List Bx} {tk:List Tk} {rest:List Oper} {ty:TypeId} {ps:String} {af:Array Edge} {gd:Option (Nat×Bool)} {fuel:Nat} {listed:Array Bool}
section
variable {d:Option Nat}
theorem kz {T yt:TypeId} {x y:Operand} {k k':IntKind} {a b z:Int} (h0:b≠0) (e:z=k.wrap (a.tdiv b)) (hk:k=k') (hx:ev σ.t x=some (.v (.int k a))) (hy:ev σ.t y=some (.v (.int k' b))):Val P g n σ ⟨d,.binOp .quo T x y yt,ty,ps,af,gd⟩ (.v (.int k z)):=by
 subst hk;subst e
 exact mA hx hy fun W=>by simp [eqGuard,binOp,Op.intDiv,h0]
theorem s7 {T yt:TypeId} {x y:Operand} {k k':IntKind} {a b z:Int} (h0:b≠0) (e:z=a.tmod b) (hk:k=k') (hx:ev σ.t x=some (.v (.int k a))) (hy:ev σ.t y=some (.v (.int k' b))):Val P g n σ ⟨d,.binOp .rem T x y yt,ty,ps,af,gd⟩ (.v (.int k z)):=by
 subst hk;subst e
 exact mA hx hy fun W=>by simp [eqGuard,binOp,Op.intDiv,h0]
theorem wC {T yt:TypeId} {x y:Operand} {k k':IntKind} {a b z:Int} (h0:0≤b) (e:z=k.wrap (a * 2 ^ (min b.toNat k.bits))) (hx:ev σ.t x=some (.v (.int k a))) (hy:ev σ.t y=some (.v (.int k' b))):Val P g n σ ⟨d,.binOp .shl T x y yt,ty,ps,af,gd⟩ (.v (.int k z)):=by
 subst e
 exact mA hx hy fun W=>by simp [eqGuard,binOp,Op.shift,show ¬ b<0 by omega]
theorem lY {T yt:TypeId} {x y:Operand} {k k':IntKind} {a b z:Int} (h0:0≤b) (e:z=a.fdiv (2 ^ (min b.toNat k.bits))) (hx:ev σ.t x=some (.v (.int k a))) (hy:ev σ.t y=some (.v (.int k' b))):Val P g n σ ⟨d,.binOp .shr T x y yt,ty,ps,af,gd⟩ (.v (.int k z)):=by
 subst e
 exact mA hx hy fun W=>by simp [eqGuard,binOp,Op.shift,show ¬ b<0 by omega]
end
inductive RetL (P:Program) (σ:St):List ResultVar→List Sd→Prop where
 | nil:RetL P σ [] []
 | tmp {d:Nat} {s s':Sd} {rs:List ResultVar} {ss:List Sd} (h:aX σ.t d=some s) (hw:Wk s s') (r:RetL P σ rs ss):RetL P σ (.tmp d :: rs) (s' :: ss)
 | cell {d:Nat} {T E:TypeId} {ag:Bool} {k b o:Nat} {cs:List Sd} {s s':Sd} {rs:List ResultVar} {ss:List Sd} (i:Nat) (hs:Shp P T ag k) (h:aX σ.t d=some (.v (.pointer (some ⟨b,o,none⟩)))) (hb:σ.bx[i]? =some ⟨b,E,cs⟩) (hp:ce ag k o cs=some s) (hl:o+k≤cs.length) (hw:Wk s s') (r:RetL P σ rs ss):RetL P σ (.cell d T :: rs) (s' :: ss)
theorem AI {R:Nat→Nat→Prop} {a:Act} {w:World} (hr:Rl R g n σ a w) {T E:TypeId} {ag:Bool} {k b o:Nat} {cs:List Sd} {s:Sd} (hb:⟨b,E,cs⟩∈σ.bx) (hs:Shp P T ag k) (hp:ce ag k o cs=some s) (hl:o+k≤cs.length):
  ∃ v,RepS R w s v∧(loadVar T ⟨b,o,none⟩).run P w= .ok v w:=by
 by_cases hcs:cs=[]
 ·subst hcs
  have hk0:o=0∧k=0:=by simp at hl;omega
  obtain ⟨rfl,rfl⟩:=hk0
  obtain ⟨v,k4,k5⟩:=o0 (b:=b) (R:=R) (w:=w) hs (cs:=[]) (us:=[]) rfl (by simp) hp hl
  exact ⟨v,k4,k5 w fun j u hj=>by simp at hj⟩
 ·obtain ⟨⟨us,k1,k2,k3⟩,_⟩:=hr.mem.box _ hb hcs
  obtain ⟨v,k4,k5⟩:=o0 hs k2 k3 hp hl
  exact ⟨v,k4,k5 w fun j u hj=>by rw [cell_of_row w _ j us _ (0,0) k1];simpa using hj⟩
theorem RetL.run {rs:List ResultVar} {ss:List Sd} (h:RetL P σ rs ss) {R:Nat→Nat→Prop} {a:Act} {w:World} (hr:Rl R g n σ a w):
  ∃ vs:List Value,RepL R w ss vs∧(rs.mapM (m:=Sem) fun | .tmp t=>pure (a.tmps.getD t undef) | .cell x t=>do loadVar t (← asAddr (a.tmps.getD x undef))).run P w= .ok vs w:=by
 induction h with
 | nil=>exact ⟨[],rfl,by simp⟩
 | tmp h hw _ ih=>
  obtain ⟨vs,h1,h2⟩:=ih
  refine ⟨_ :: vs,⟨_,_,rfl,hr.slot h hw,h1⟩,?_⟩
  rw [List.mapM_cons]
  simp only [Sem.run_bind,Sem.run_pure,Result.andThen_ok,h2]
 | cell i hs h hb hp hl hw _ ih=>
  obtain ⟨vs,h1,h2⟩:=ih
  have h3:=hr.slot h (.refl _)
  obtain ⟨v,k4,k6⟩:=AI hr (List.mem_of_getElem? hb) hs hp hl
  refine ⟨v :: vs,⟨_,_,rfl,hw _ _ _ k4,h1⟩,?_⟩
  have h4:a.tmps.getD _ undef=_:=h3
  rw [List.mapM_cons]
  have ha:∀ A:Addr,asAddr (.pointer (some A))=pure A:=fun _=>rfl
  simp only [h4,ha,Sem.run_bind,Sem.run_pure,Result.andThen_ok,k6,h2]
def D7:List Sd→Sd
 | [s]=>s
 | ss=>.tup ss
theorem BZ {fn:Func} {bx0 bx':List Bx} {tk0 tk':List Tk} {R:Sd→List Bx→List Tk→Prop} {rs:List ResultVar} {ss:List Sd} (hg:GOk g bx0 tk0) (hr:fn.results=rs.toArray) (hl:RetL P σ rs ss) (hm:SubM σ.bx σ.tk bx' tk') (hR:R (D7 ss) bx' tk'):HE (bodyPost P fn (RP bx0 tk0 g.R g.w R)) g n σ .ret:=by
 refine ⟨?_⟩
 rintro a w ⟨Rd,h⟩
 obtain ⟨vs,h1,h2⟩:=hl.run h
 have hres:(results fn a.tmps).run P w= .ok (if h:vs.toArray.size=1 then vs.toArray[0] else .tuple vs.toArray) w:=by
  unfold results
  rw [hr,List.mapM_toArray]
  rw [Sem.run_bind,map_eq_pure_bind,Sem.run_bind]
  erw [h2]
  rfl
 have hrep:RepS Rd w (D7 ss) (if h:vs.toArray.size=1 then vs.toArray[0] else .tuple vs.toArray):=by
  have hlen:=h1.length
  match ss,vs,h1 with
  | [],[],_=>exact ⟨_,rfl,rfl⟩
  | [s],[v],⟨_,_,e,k1,_⟩=>injection e with e1 e2;subst e1;exact k1
  | s :: s' :: ss,v :: v' :: vs,h1=>exact ⟨(v :: v' :: vs).toArray,rfl,h1⟩
 exact bodyPost_ret hres (h.df.trans hg.ds) ⟨_,_,bx',tk',Rd,rfl,hR,hm.mem _ _ h.mem,hrep,by rw [← hg.d];exact h.mv,fun b hb=>by rw [← hg.d];exact h.dm b (hm.dm b hb)⟩
theorem D8 {Φ:Act→World→Prop} (d:Nat) {α:Type} {f:α→List Sd} {l:List α} {k:Nat} {tok:Option (Option (Nat×Nat))} (hl:aX t d=some (.sl k tok (l.map f))) (h:∀ A c,(l≠[]→A.isNone=false)→Hx g n ⟨(d,.v (.slice A l.length c)) :: t,bx,tk⟩ Φ):Hx g n ⟨t,bx,tk⟩ Φ:=by
 rintro a w ⟨R,hr⟩
 obtain ⟨v,h1,h2⟩:=hr.tm d _ hl
 have h2':=h2
 obtain ⟨A,c,e,_,_,_,h4⟩:=h2
 refine h A c (fun hn=>?_) a w ⟨R,⟨hr.mem,hr.mv,hr.dm,hr.df,hr.sz,fun e' s hs=>?_⟩⟩
 ·rcases h4 with h4 | ⟨b,o,rfl,_⟩
  ·exact absurd (List.map_eq_nil_iff.1 h4) hn
  ·rfl
 ·unfold aX at hs
  split at hs
  ·rename_i he
   injection hs with hs
   subst hs
   have:=Nat.eq_of_beq_eq_true he
   subst this
   exact ⟨v,h1,by rw [e,List.length_map];rfl⟩
  ·exact hr.tm e' s hs
theorem D9 (d:Nat) {α:Type} {f:α→List Sd} {l:List α} {k:Nat} {tok:Option (Option (Nat×Nat))} (hl:aX t d=some (.sl k tok (l.map f))) (h:∀ A c,(l≠[]→A.isNone=false)→HL P ops Q g n ⟨(d,.v (.slice A l.length c)) :: t,bx,tk⟩ rest):HL P ops Q g n ⟨t,bx,tk⟩ rest:=
 ⟨D8 d hl fun A c hA=>(h A c hA).h⟩
theorem yM {d:Option Nat} {T E yt:TypeId} {x y:Operand} {A:Option Addr} {m c:Nat} (hu:P.underlying T=some (.slice E)) (hx:ev σ.t x=some (.v (.slice A m c))) (hy:ev σ.t y=some (.v (.slice none 0 0))):Val P g n σ ⟨d,.binOp .eql T x y yt,ty,ps,af,gd⟩ (.v (.bool A.isNone)):=
 zA hx hy (fun W=>by cases A with
  | none=>exact kB hu W rfl
  | some A=>exact kB hu W rfl) fun W=>by
 show Sem.run P (Op.equal T _ _ >>=fun q=>pure (Value.bool q)) W=_
 rw [Sem.run_bind];rfl
end
end Go.Proofs.YtnbceeholnkfeaaGreatDoor
namespace Go.Proofs.YtnbceeholnkfeaaGreatDoor
def mkS (ag:Bool) (cs:List Sd):Sd:=match ag with
 | true=>.agg cs
 | false=>cs.headD .any
class EqC (P:Program) (t:TypeId) {α:Type} [DecidableEq α] (f:α→List Sd) (ag:outParam Bool) (D:outParam Nat):Prop where
 h:∀ d,D≤d→∀ (x y:α) (R:Nat→Nat→Prop) (w:World) (u v:Value),RepS R w (mkS ag (f x)) u→RepS R w (mkS ag (f y)) v→∀ W:World,(Op.equalIn d t u v).run P W= .ok (decide (x=y)) W
section
variable {P:Program}
theorem nU {d D:Nat} (h:D+1≤d):∃ d',d=d'+1∧D≤d':=⟨d - 1,by omega,by omega⟩
instance GJ {t:TypeId} [hu:ai P t (.int .i64)]:EqC P t ei false 1:=⟨by
 rintro d hd x y R w _ _ rfl rfl W
 obtain ⟨d,rfl,_⟩:=nU hd
 rw [run_equalIn_int _ _ _ _ _ _ _ hu.h];rfl⟩
instance GL {t:TypeId} [hu:ai P t (.int .u8)]:EqC P t eb false 1:=⟨by
 rintro d hd x y R w _ _ rfl rfl W
 obtain ⟨d,rfl,_⟩:=nU hd
 rw [run_equalIn_int _ _ _ _ _ _ _ hu.h]
 congr 1
 show decide ((x.toNat:Int)=(y.toNat:Int))=_
 rw [decide_eq_decide,Int.ofNat_inj,UInt8.toNat_inj]⟩
instance GK {t:TypeId} [hu:ai P t (.int .u64)]:EqC P t ew false 1:=⟨by
 rintro d hd x y R w _ _ rfl rfl W
 obtain ⟨d,rfl,_⟩:=nU hd
 rw [run_equalIn_int _ _ _ _ _ _ _ hu.h]
 congr 1
 show decide ((x.toNat:Int)=(y.toNat:Int))=_
 rw [decide_eq_decide,Int.ofNat_inj,UInt64.toNat_inj]⟩
instance FG {t:TypeId} [hu:ai P t .bool]:EqC P t eB false 1:=⟨by
 rintro d hd x y R w _ _ rfl rfl W
 obtain ⟨d,rfl,_⟩:=nU hd
 rw [run_equalIn_bool' _ _ _ _ _ hu.h]
 cases x <;> cases y <;> rfl⟩
theorem CA (d:Nat) (us vs:Array Value) (W:World):(Op.eqFields d us vs []).run P W= .ok true W:=rfl
theorem kj {d:Nat} {us vs:Array Value} {fd:Field} {fs:List Field} {r:Bool} {R:Nat→Nat→Prop} {w W:World} {cs cs':List Sd} {α:Type} [DecidableEq α] {f:α→List Sd} {ag:Bool} {k D:Nat} {x y:α} (hu:RepL R w cs us.toList) (hu1:∀ x∈us.toList,x.oneCell'=true) (hv:RepL R w cs' vs.toList) (hv1:∀ x∈vs.toList,x.oneCell'=true)
  (hn:fd.name≠ "_") (hs:Shp P fd.type ag k) (he:EqC P fd.type f ag D) (hd:D≤d) (hx:ce ag k fd.offset cs=some (mkS ag (f x))) (hy:ce ag k fd.offset cs'=some (mkS ag (f y))) (h:(Op.eqFields d us vs fs).run P W= .ok r W):(Op.eqFields d us vs (fd :: fs)).run P W= .ok (decide (x=y) && r) W:=by
 obtain ⟨a,a1,a2⟩:=mc hs hu hu1 hx
 obtain ⟨b,b1,b2⟩:=mc hs hv hv1 hy
 simp only [Op.eqFields]
 rw [if_pos hn]
 simp only [Sem.run_bind,a2,b2,he.h d hd x y R w a b a1 b1,Result.andThen_ok]
 by_cases hxy:x=y
 ·rw [decide_eq_true hxy];simpa using h
 ·rw [decide_eq_false hxy];rfl
theorem eqI {d k:Nat} {e:TypeId} {us vs:Array Value} {R:Nat→Nat→Prop} {w W:World} {α:Type} [DecidableEq α] {f:α→List Sd} [hl:dR f k] {ag:Bool} {D:Nat} {xs ys:List α} (hlen:xs.length=ys.length) (hu:RepL R w (xs.map f).flatten us.toList) (hu1:∀ x∈us.toList,x.oneCell'=true) (hv:RepL R w (ys.map f).flatten vs.toList) (hv1:∀ x∈vs.toList,x.oneCell'=true)
  (hs:Shp P e ag k) (he:EqC P e f ag D) (hd:D≤d) (hp:∀ z,ce ag k 0 (f z)=some (mkS ag (f z))):∀ (m i:Nat),i+m=xs.length→(Op.eqItems d e k us vs (List.range' i m)).run P W= .ok (decide (xs.drop i=ys.drop i)) W
 | 0,i,hi=>by
  rw [List.drop_eq_nil_of_le (by omega),List.drop_eq_nil_of_le (by omega)]
  rfl
 | m+1,i,hi=>by
  have h1:i<xs.length:=by omega
  have h2:i<ys.length:=by omega
  have px:ce ag k (i * k) (xs.map f).flatten=some (mkS ag (f xs[i])):=by
   obtain ⟨X,Y,e1,e2,_⟩:=mp (pre:=[]) (post:=[]) (f9 (f:=f) xs) (kO (List.getElem?_eq_getElem h1))
   rw [show (xs.map f).flatten=[]++((xs.map f).flatten++[]) by simp,e1]
   exact mb (by simpa using e2) (hl.h _) (hp _)
  have py:ce ag k (i * k) (ys.map f).flatten=some (mkS ag (f ys[i])):=by
   obtain ⟨X,Y,e1,e2,_⟩:=mp (pre:=[]) (post:=[]) (f9 (f:=f) ys) (kO (List.getElem?_eq_getElem h2))
   rw [show (ys.map f).flatten=[]++((ys.map f).flatten++[]) by simp,e1]
   exact mb (by simpa using e2) (hl.h _) (hp _)
  obtain ⟨a,a1,a2⟩:=mc hs hu hu1 px
  obtain ⟨b,b1,b2⟩:=mc hs hv hv1 py
  have ih:=eqI (W:=W) hlen hu hu1 hv hv1 hs he hd hp m (i+1) (by omega)
  rw [List.range'_succ]
  simp only [Op.eqItems,Sem.run_bind,a2,b2,he.h d hd _ _ R w a b a1 b1,Result.andThen_ok]
  rw [List.drop_eq_getElem_cons h1]
  by_cases hxy:xs[i]=ys[i]
  ·rw [decide_eq_true hxy]
   simp only [Bool.not_true,Bool.false_eq_true,if_false,ih]
   congr 1
   rw [hxy]
   rw [decide_eq_decide,List.drop_eq_getElem_cons h2,List.cons.injEq]
   exact ⟨fun h=>⟨rfl,h⟩,fun h=>h.2⟩
  ·rw [decide_eq_false hxy]
   simp only [Bool.not_false,if_true,Sem.run_pure]
   congr 1
   symm
   rw [decide_eq_false_iff_not]
   intro hc
   rw [List.drop_eq_getElem_cons h2] at hc
   exact hxy (List.cons.inj hc).1
instance {n:Nat} {α:Type} [DecidableEq α]:DecidableEq (Arr n α):=fun a b=>match decEq a.l b.l with
 | isTrue h=>isTrue (Arr.ext h)
 | isFalse h=>isFalse fun e=>h (e▸rfl)
theorem lK {t e:TypeId} {n k:Nat} {α:Type} [DecidableEq α] {f:α→List Sd} [dR f k] {ag:Bool} {D:Nat} (hu:P.underlying t=some (.array n e)) (hs:Shp P e ag k) (hc:P.cellsOf e=k) (he:EqC P e f ag D) (hp:∀ z,ce ag k 0 (f z)=some (mkS ag (f z))):EqC P t (fun x:Arr n α=>(x.l.map f).flatten) true (D+1):=⟨by
 rintro d hd x y R w u v ⟨us,rfl,hu',hu1⟩ ⟨vs,rfl,hv,hv1⟩ W
 obtain ⟨d,rfl,hd'⟩:=nU hd
 obtain ⟨i,hi,_⟩:=hs.size
 rw [run_equalIn_array _ d us vs hu hi,hc,List.range_eq_range',eqI (by rw [x.len,y.len]) hu' hu1 hv hv1 hs he hd' hp n 0 (by rw [x.len,Nat.zero_add])]
 congr 1
 rw [decide_eq_decide]
 exact ⟨fun h=>Arr.ext h,fun h=>by rw [h]⟩⟩
section
variable {g:Gh} {n:Nat} {σ:St} {d:Option Nat} {ty:TypeId} {ps:String} {af:Array Edge} {gd:Option (Nat×Bool)}
theorem uF {T yt:TypeId} {α:Type} [DecidableEq α] {f:α→List Sd} {D:Nat} {a b:α} {x y:Operand} (he:EqC P T f true D) (hD:Nat.ble D 10000=true) (hm:P.eqGuardType P.depth T=false) (hx:ev σ.t x=some (.agg (f a))) (hy:ev σ.t y=some (.agg (f b))):Val P g n σ ⟨d,.binOp .eql T x y yt,ty,ps,af,gd⟩ (.v (.bool (decide (a=b)))):=by
 refine ⟨fun R a' w hr=>?_⟩
 obtain ⟨us,e1,h1,h2⟩:=hr.ev hx
 obtain ⟨vs,e2,h3,h4⟩:=hr.ev hy
 refine ⟨_,rfl,fun W=>?_⟩
 have h5:=he.h 10000 (Nat.le_of_ble_eq_true hD) a b R w (.agg us) (.agg vs) ⟨us,rfl,h1,h2⟩ ⟨vs,rfl,h3,h4⟩ W
 have h6:=run_eqGuard_agg (P:=P) W .eql T x y us vs hm
 simp only [execOp,Sem.run_bind,e1,e2,h6,Result.andThen_ok,run_eql_struct,h5]
 rfl
theorem kl {T yt:TypeId} {α:Type} [DecidableEq α] {f:α→List Sd} {D:Nat} {a b:α} {x y:Operand} (he:EqC P T f true D) (hD:Nat.ble D 10000=true) (hm:P.eqGuardType P.depth T=false) (hx:ev σ.t x=some (.agg (f a))) (hy:ev σ.t y=some (.agg (f b))):Val P g n σ ⟨d,.binOp .neq T x y yt,ty,ps,af,gd⟩ (.v (.bool (!decide (a=b)))):=by
 refine ⟨fun R a' w hr=>?_⟩
 obtain ⟨us,e1,h1,h2⟩:=hr.ev hx
 obtain ⟨vs,e2,h3,h4⟩:=hr.ev hy
 refine ⟨_,rfl,fun W=>?_⟩
 have h5:=he.h 10000 (Nat.le_of_ble_eq_true hD) a b R w (.agg us) (.agg vs) ⟨us,rfl,h1,h2⟩ ⟨vs,rfl,h3,h4⟩ W
 have h6:=run_eqGuard_agg (P:=P) W .neq T x y us vs hm
 simp only [execOp,Sem.run_bind,e1,e2,h6,Result.andThen_ok,run_neq_struct,h5]
 rfl
theorem CB {T:TypeId} {x:Operand} {z z':Int} (e:z'=IntKind.u64.wrap (BitVec.ofInt IntKind.u64.bits IntKind.u64.max ^^^ BitVec.ofInt IntKind.u64.bits z).toNat) (hx:ev σ.t x=some (.v (.int .u64 z))):Val P g n σ ⟨d,.unOp .xor T x,ty,ps,af,gd⟩ (.v (.int .u64 z')):=by
 subst e
 exact B6 hx fun W=>by
  show Sem.run P (Op.intBits .xor .u64 (if IntKind.u64.signed=true then -1 else IntKind.u64.max) z) W=_
  rw [if_neg (by decide)]
  simp [Op.intBits]
end
end
end Go.Proofs.YtnbceeholnkfeaaGreatDoor
namespace Go.Proofs.YtnbceeholnkfeaaGreatDoor
def uH (l:List UInt8) (c:UInt8):Int:=Lib.indexByte l c
section
variable {P:Program} {ops:Array Oper} {Q:Exit→Act→World→Prop} {g:Gh} {n:Nat} {σ:St} {t:List (Nat×Sd)} {bx:List Bx} {tk:List Tk} {rest:List Oper} {d:Option Nat} {ty:TypeId} {ps:String} {af:Array Edge} {gd:Option (Nat×Bool)}
theorem CE {f:FuncId} {fn:Func} {e:Array Value→Sem Value} (hf:P.funcs[f]? =some fn) (hname:(fn.name== "runtime.NumGoroutine")=false) (hb:fn.body.isNone=true) (hn:Extern.findNext fn=none) (he:Extern.find fn=some e)
  {x y:Operand} {ats:Array TypeId} {a:Act} {W:World} {v:Value} (h:(e #[a.eval x,a.eval y]).run P W= .ok v W):(execOp a.eval ⟨d,.call ⟨.value (.func f),#[x,y],ats⟩,ty,ps,af,gd⟩).run P W= .ok (.value v) W:=by
 unfold execOp
 have e1:a.eval (.func f)= .func (.func f) #[] #[]:=rfl
 simp only [resolve,e1,Deferred.ofValue,invoke,Sem.run_bind,Sem.run_pure,Result.andThen_ok]
 have hrun:=run_callFunc_extern hf hname hb hn he #[a.eval x,a.eval y] W
 rw [h,Result.andThen_ok] at hrun
 simpa using hrun
theorem Ay (c:UInt8):(c.toNat:Int).toNat.toUInt8=c:=by
 rw [Int.toNat_natCast]
 exact UInt8.ofNat_toNat
theorem CF {f:FuncId} {fn:Func} {x y:Operand} {ats:Array TypeId} {s:ByteArray} {c:UInt8} (hf:P.funcs[f]? =some fn) (hname:(fn.name== "runtime.NumGoroutine")=false) (hb:fn.body.isNone=true) (hn:Extern.findNext fn=none) (he:Extern.find fn=some Extern.BytealgIndexByte.indexByte)
  (hx:ev σ.t x=some (.v (.string s))) (hy:ev σ.t y=some (.v (.int .u8 (c.toNat:Int)))):Val P g n σ ⟨d,.call ⟨.value (.func f),#[x,y],ats⟩,ty,ps,af,gd⟩ (.v (.int .i64 (uH s.data.toList c))):=by
 refine ⟨fun R a w hr=>⟨_,rfl,fun W=>CE hf hname hb hn he ?_⟩⟩
 have h1:a.eval x=_:=hr.ev hx
 have h2:a.eval y=_:=hr.ev hy
 rw [h1,h2,Lib.run_indexByteString,Ay];rfl
end
section
variable {P:Program} {ops:Array Oper} {Q:Exit→Act→World→Prop} {g:Gh} {n:Nat} {t:List (Nat×Sd)} {bx:List Bx} {tk:List Tk} {ty:TypeId} {ps:String} {af:Array Edge} {gd:Option (Nat×Bool)} {fuel:Nat} {listed:Array Bool}
end
section
variable {P:Program} {g:Gh} {n:Nat} {σ:St} {d:Option Nat} {ty:TypeId} {ps:String} {af:Array Edge} {gd:Option (Nat×Bool)}
end
section
variable {P:Program} {g:Gh} {n:Nat} {σ:St} {d:Option Nat} {ty:TypeId} {ps:String} {af:Array Edge} {gd:Option (Nat×Bool)}
end
section
variable {P:Program} {g:Gh} {n:Nat} {σ:St} {d:Option Nat} {ty:TypeId} {ps:String} {af:Array Edge} {gd:Option (Nat×Bool)}
theorem jO {x y:Operand} {T yt:TypeId} {s u:ByteArray} (h:InR ((s.size:Int)+(u.size:Int))) (hx:ev σ.t x=some (.v (.string s))) (hy:ev σ.t y=some (.v (.string u))):
  Val P g n σ ⟨d,.binOp .add T x y yt,ty,ps,af,gd⟩ (.v (.string (s++u))):=by
 refine mA hx hy fun W=>?_
 have h1:¬ (((s.size+u.size:Nat):Int) > IntKind.i64.max):=by
  show ¬ (((s.size+u.size:Nat):Int) > 9223372036854775807)
  have:=h.2
  omega
 simp only [eqGuard,binOp,Op.stringOp,if_neg h1]
 rfl
end
section
variable {P:Program} {g:Gh} {n:Nat} {σ:St} {d:Option Nat} {ty:TypeId} {ps:String} {af:Array Edge} {gd:Option (Nat×Bool)}
end
end Go.Proofs.YtnbceeholnkfeaaGreatDoor
