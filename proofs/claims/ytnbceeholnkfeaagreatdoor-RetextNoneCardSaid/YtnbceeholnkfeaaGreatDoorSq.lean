/- A walk goes on by itself over the steps that want no word, up to the next one that does. -/
import Derived.Test.YtnbceeholnkfeaaGreatDoorFl
namespace Go.Proofs.YtnbceeholnkfeaaGreatDoor
open Go.RowKit
abbrev iv (x:Int):Sd:=.v (.int .i64 x)
abbrev bv (x:Bool):Sd:=.v (.bool x)
abbrev pw (b:Nat):Sd:=.v (.pointer (some ⟨b,0,none⟩))
abbrev uv (x:UInt8):Sd:=.v (.int .u8 (x.toNat:Int))
abbrev sb (l:List UInt8):Sd:=.sl 1 none (List.map eb l)
structure Fu (n:Nat):Prop where
 h:True
theorem Fu.s {n:Nat} (_:Fu (n+1)):Fu n:=⟨trivial⟩
theorem wm_ {a b:List Sd} (h:WkL a b:=by repeat (first | with_reducible exact WkL.refl _ | exact WkL.nil | refine WkL.cons wk_ ?_ | exact WkL.refl _)):WkL a b:=h
theorem wd_ {s s':Sd} (h:Wk s s':=by first | with_reducible exact Wk.refl _ | exact Wk.nil_own _ | exact Wk.nil_pl _ | with_reducible exact Wk.tok _ _ _ | exact Wk.tok _ _ _ | exact Wk.nil_pt _ | exact Wk.agg wm_ | exact .eq rfl | exact .eq (by simp)):Wk s s':=h
theorem it_ {t t':List (Nat×Sd)} (h:ImpT t t':=by repeat (first | exact ImpT.nil _ | refine ImpT.cons rfl wd_ ?_)):ImpT t t':=h
theorem ar_ {t:List (Nat×Sd)} {xs:List Operand} {ss:List Sd} (h:EvL t xs ss:=by repeat (first | exact EvL.nil | refine EvL.cons rfl wd_ ?_)):EvL t xs ss:=h
def lax:Ground→Bool
 | .gcOnly _=>true
 | .textOnly _=>true
 | _=>false
def A7 (ops:Array Oper) (listed:Array Bool) (i:Nat):List Nat:=
 (List.range ops.size).foldl (fun M j=>match (j !=i) && !(listed.getD j false) && ((ops[j]?).map fun o=>o.after.all fun e=>lax e.ground || listed.getD e.on false || M.contains e.on).getD false with
  | true=>M++[j]
  | false=>M) []
theorem q0_ {x:Bx} {l:List Bx}:(x :: l)[0]? =some x:=rfl
theorem q1_ {x a:Bx} {l:List Bx}:(a :: x :: l)[1]? =some x:=rfl
theorem q2_ {x a b:Bx} {l:List Bx}:(a :: b :: x :: l)[2]? =some x:=rfl
theorem q3_ {x a b c:Bx} {l:List Bx}:(a :: b :: c :: x :: l)[3]? =some x:=rfl
theorem q4_ {x a b c d:Bx} {l:List Bx}:(a :: b :: c :: d :: x :: l)[4]? =some x:=rfl
structure Nx (l:List Nat):Prop where
 h:True
theorem Nx.s {i:Nat} {l:List Nat} (_:Nx (i :: l)):Nx l:=⟨trivial⟩
structure HO (P:Program) (ops:Array Oper) (Q:Exit→Act→World→Prop) (g:Gh) (n:Nat) (σ:St) (fuel:Nat) (listed:Array Bool) (i:Nat) (o:Oper):Prop where
 h:ops[i]? =some o→Region.noSelect ops=true→(Region.ready .any ops listed).contains i=true→(∀ d c (a:Act) w v,Q (.panic c) (a.put (some d) v) w→Q (.panic c) a w)→HA P ops Q g n σ fuel listed
section
variable {P:Program} {ops:Array Oper} {Q:Exit→Act→World→Prop} {g:Gh} {n:Nat} {t:List (Nat×Sd)} {bx:List Bx} {tk:List Tk} {rest:List Oper} {ty:TypeId} {ps:String} {af:Array Edge} {gd:Option (Nat×Bool)} {fuel:Nat} {listed:Array Bool} {d i:Nat}
theorem ho_ {σ:St} {l:List Nat} {o:Oper} (x:Nx (i :: l)) (ho:ops[i]? =some o) (k:Nx l→HO P ops Q g n σ fuel listed i o) (hs:Region.noSelect ops=true:=by kernel_rfl) (hr:(Region.ready .any ops listed).contains i=true:=by kernel_rfl)
  (hq:∀ d c (a:Act) w v,Q (.panic c) (a.put (some d) v) w→Q (.panic c) a w:=by exact fun _ _ _ _ _ h=>h):HA P ops Q g n σ fuel listed:=(k x.s).h ho hs hr hq
theorem hoP {s:Sd} {op:Op} (hv:Val P g n ⟨t,bx,tk⟩ ⟨some d,op,ty,ps,af,gd⟩ s) (h:HA P ops Q g n ⟨(d,s) :: t,bx,tk⟩ fuel (listed.setIfInBounds i true)) (hw:aD ops t gd=some true) (hd:Nat.blt d n=true) (hf:Region.free .any ops listed i=true):HO P ops Q g n ⟨t,bx,tk⟩ (fuel+1) listed i ⟨some d,op,ty,ps,af,gd⟩:=⟨fun ho hs hr hq=>xk i ho hv hw hd hs hf hr (hq d) h⟩
theorem hoE {s:Sd} {op:Op} (hv:iw P g n ⟨t,bx,tk⟩ ⟨some d,op,ty,ps,af,gd⟩ s) (h:HA P ops Q g n ⟨(d,s) :: t,bx,tk⟩ fuel (listed.setIfInBounds i true)) (hw:aD ops t gd=some true) (hd:Nat.blt d n=true) (hf:qg .any ops listed i (A7 ops listed i)=true):HO P ops Q g n ⟨t,bx,tk⟩ (fuel+1) listed i ⟨some d,op,ty,ps,af,gd⟩:=⟨fun ho hs hr hq=>en i _ ho hv hw hd hs hf hr (hq d) h⟩
theorem pSk {op:Op} (h:HA P ops Q g n ⟨(d,.v undef) :: t,bx,tk⟩ fuel (listed.setIfInBounds i true)) (hw:aD ops t gd=some false:=by exact rfl) (hd:Nat.blt d n=true:=by exact rfl) (hf:Region.free .any ops listed i=true:=by kernel_rfl):HO P ops Q g n ⟨t,bx,tk⟩ (fuel+1) listed i ⟨some d,op,ty,ps,af,gd⟩:=⟨fun ho hs hr hq=>DO i ho hw hd hs hf hr (hq d) h⟩
theorem sSk {op:Op} (K:HL P ops Q g n ⟨(d,.v undef) :: t,bx,tk⟩ rest) (h2:aD ops t gd=some false:=by exact rfl) (h3:Nat.blt d n=true:=by exact rfl):HL P ops Q g n ⟨t,bx,tk⟩ (⟨some d,op,ty,ps,af,gd⟩:: rest):=ET h2 h3 K
theorem sS0 {op:Op} (K:HL P ops Q g n ⟨t,bx,tk⟩ rest) (h2:aD ops t gd=some false:=by exact rfl):HL P ops Q g n ⟨t,bx,tk⟩ (⟨none,op,ty,ps,af,gd⟩:: rest):=DK h2 K
theorem sSt {T E:TypeId} {x y:Operand} {j b o:Nat} {s:Sd} {cs:List Sd} {ag:Bool} {k:Nat} [F:ae P T ag k] (K:HL P ops Q g n ⟨t,bx.set j ⟨b,E,eh o (aH s) cs⟩,tk⟩ rest) (hx:ev t x=some (.v (.pointer (some ⟨b,o,none⟩))):=by exact rfl) (hb:bx[j]? =some ⟨b,E,cs⟩:=by first | exact q0_ | exact q1_ | exact q2_ | exact q3_ | exact q4_) (hy:ev t y=some s:=by exact rfl) (h1:gb s=true:=by exact rfl) (hk:Nat.beq (aH s).length k=true:=by exact rfl)
  (hlen:Nat.ble (o+k) cs.length=true:=by exact rfl) (hw:aD ops t gd=some true:=by exact rfl):HL P ops Q g n ⟨t,bx,tk⟩ (⟨none,.store T x y,ty,ps,af,gd⟩:: rest):=DL j F.h hx hb hy h1 hk hlen hw K
theorem sMv {x:Operand} {s:Sd} (K:HL P ops Q g n ⟨(d,s) :: t,bx,tk⟩ rest) (e0:ev t x=some s:=by exact rfl) (h2:aD ops t gd=some true:=by exact rfl) (h3:Nat.blt d n=true:=by exact rfl):HL P ops Q g n ⟨t,bx,tk⟩ (⟨some d,.move x,ty,ps,af,gd⟩:: rest):=vp_ (tq e0) K h2 h3
theorem pMv {x:Operand} {s:Sd} (K:HA P ops Q g n ⟨(d,s) :: t,bx,tk⟩ fuel (listed.setIfInBounds i true)) (e0:ev t x=some s:=by exact rfl) (h2:aD ops t gd=some true:=by exact rfl) (h3:Nat.blt d n=true:=by exact rfl) (h4:Region.free .any ops listed i=true:=by kernel_rfl):HO P ops Q g n ⟨t,bx,tk⟩ (fuel+1) listed i ⟨some d,.move x,ty,ps,af,gd⟩:=hoP (tq e0) K h2 h3 h4
theorem sAs {x:Operand} {s:Sd} (K:HL P ops Q g n ⟨(d,s) :: t,bx,tk⟩ rest) (e0:ev t x=some s:=by exact rfl) (h2:aD ops t gd=some true:=by exact rfl) (h3:Nat.blt d n=true:=by exact rfl):HL P ops Q g n ⟨t,bx,tk⟩ (⟨some d,.assign x,ty,ps,af,gd⟩:: rest):=vp_ (iF e0) K h2 h3
theorem pAs {x:Operand} {s:Sd} (K:HA P ops Q g n ⟨(d,s) :: t,bx,tk⟩ fuel (listed.setIfInBounds i true)) (e0:ev t x=some s:=by exact rfl) (h2:aD ops t gd=some true:=by exact rfl) (h3:Nat.blt d n=true:=by exact rfl) (h4:Region.free .any ops listed i=true:=by kernel_rfl):HO P ops Q g n ⟨t,bx,tk⟩ (fuel+1) listed i ⟨some d,.assign x,ty,ps,af,gd⟩:=hoP (iF e0) K h2 h3 h4
theorem sPk {c x y:Operand} {s:Sd} {b:Bool} (K:HL P ops Q g n ⟨(d,s) :: t,bx,tk⟩ rest) (e0:ev t c=some (.v (.bool b)):=by exact rfl) (e1:ev t (cond b x y)=some s:=by exact rfl) (h2:aD ops t gd=some true:=by exact rfl) (h3:Nat.blt d n=true:=by exact rfl):HL P ops Q g n ⟨t,bx,tk⟩ (⟨some d,.pick c x y,ty,ps,af,gd⟩:: rest):=vp_ (wP e0 e1) K h2 h3
theorem pPk {c x y:Operand} {s:Sd} {b:Bool} (K:HA P ops Q g n ⟨(d,s) :: t,bx,tk⟩ fuel (listed.setIfInBounds i true)) (e0:ev t c=some (.v (.bool b)):=by exact rfl) (e1:ev t (cond b x y)=some s:=by exact rfl) (h2:aD ops t gd=some true:=by exact rfl) (h3:Nat.blt d n=true:=by exact rfl) (h4:Region.free .any ops listed i=true:=by kernel_rfl):HO P ops Q g n ⟨t,bx,tk⟩ (fuel+1) listed i ⟨some d,.pick c x y,ty,ps,af,gd⟩:=hoP (wP e0 e1) K h2 h3 h4
theorem sNc {x:Operand} {A:Addr} (K:HL P ops Q g n ⟨(d,.v (.pointer (some A))) :: t,bx,tk⟩ rest) (e0:ev t x=some (.v (.pointer (some A))):=by exact rfl) (h2:aD ops t gd=some true:=by exact rfl) (h3:Nat.blt d n=true:=by exact rfl):HL P ops Q g n ⟨t,bx,tk⟩ (⟨some d,.nilCheck x,ty,ps,af,gd⟩:: rest):=vp_ (qR e0) K h2 h3
theorem pNc {x:Operand} {A:Addr} (K:HA P ops Q g n ⟨(d,.v (.pointer (some A))) :: t,bx,tk⟩ fuel (listed.setIfInBounds i true)) (e0:ev t x=some (.v (.pointer (some A))):=by exact rfl) (h2:aD ops t gd=some true:=by exact rfl) (h3:Nat.blt d n=true:=by exact rfl) (h4:Region.free .any ops listed i=true:=by kernel_rfl):HO P ops Q g n ⟨t,bx,tk⟩ (fuel+1) listed i ⟨some d,.nilCheck x,ty,ps,af,gd⟩:=hoP (qR e0) K h2 h3 h4
theorem sNe {x:Operand} {cs:List Sd} (K:HL P ops Q g n ⟨(d,.el cs) :: t,bx,tk⟩ rest) (e0:ev t x=some (.el cs):=by exact rfl) (h2:aD ops t gd=some true:=by exact rfl) (h3:Nat.blt d n=true:=by exact rfl):HL P ops Q g n ⟨t,bx,tk⟩ (⟨some d,.nilCheck x,ty,ps,af,gd⟩:: rest):=vp_ (pX e0) K h2 h3
theorem pNe {x:Operand} {cs:List Sd} (K:HA P ops Q g n ⟨(d,.el cs) :: t,bx,tk⟩ fuel (listed.setIfInBounds i true)) (e0:ev t x=some (.el cs):=by exact rfl) (h2:aD ops t gd=some true:=by exact rfl) (h3:Nat.blt d n=true:=by exact rfl) (h4:Region.free .any ops listed i=true:=by kernel_rfl):HO P ops Q g n ⟨t,bx,tk⟩ (fuel+1) listed i ⟨some d,.nilCheck x,ty,ps,af,gd⟩:=hoP (pX e0) K h2 h3 h4
theorem sNf {x:Operand} {f:FuncId} {c1 c2:Array Value} (K:HL P ops Q g n ⟨(d,.v (.func (.func f) c1 c2)) :: t,bx,tk⟩ rest) (e0:ev t x=some (.v (.func (.func f) c1 c2)):=by exact rfl) (h2:aD ops t gd=some true:=by exact rfl) (h3:Nat.blt d n=true:=by exact rfl):HL P ops Q g n ⟨t,bx,tk⟩ (⟨some d,.nilCheck x,ty,ps,af,gd⟩:: rest):=vp_ (vv e0) K h2 h3
theorem sFb {T:TypeId} {x:Operand} {f off k b o:Nat} {ag:Bool} [F:bE P T f off ag (k+1)] (K:HL P ops Q g n ⟨(d,.v (.pointer (some ⟨b,o+off,none⟩))) :: t,bx,tk⟩ rest) (e0:ev t x=some (.v (.pointer (some ⟨b,o,none⟩))):=by exact rfl) (h2:aD ops t gd=some true:=by exact rfl) (h3:Nat.blt d n=true:=by exact rfl):HL P ops Q g n ⟨t,bx,tk⟩ (⟨some d,.fieldAddr T x f,ty,ps,af,gd⟩:: rest):=vp_ (cd F.h e0) K h2 h3
theorem pFb {T:TypeId} {x:Operand} {f off k b o:Nat} {ag:Bool} [F:bE P T f off ag (k+1)] (K:HA P ops Q g n ⟨(d,.v (.pointer (some ⟨b,o+off,none⟩))) :: t,bx,tk⟩ fuel (listed.setIfInBounds i true)) (e0:ev t x=some (.v (.pointer (some ⟨b,o,none⟩))):=by exact rfl) (h2:aD ops t gd=some true:=by exact rfl) (h3:Nat.blt d n=true:=by exact rfl) (h4:Region.free .any ops listed i=true:=by kernel_rfl):HO P ops Q g n ⟨t,bx,tk⟩ (fuel+1) listed i ⟨some d,.fieldAddr T x f,ty,ps,af,gd⟩:=hoP (cd F.h e0) K h2 h3 h4
theorem sFe {T:TypeId} {x:Operand} {f off k:Nat} {cs:List Sd} {ag:Bool} [F:bE P T f off ag (k+1)] (K:HL P ops Q g n ⟨(d,.el (cs.drop off)) :: t,bx,tk⟩ rest) (e0:ev t x=some (.el cs):=by exact rfl) (h2:aD ops t gd=some true:=by exact rfl) (h3:Nat.blt d n=true:=by exact rfl):HL P ops Q g n ⟨t,bx,tk⟩ (⟨some d,.fieldAddr T x f,ty,ps,af,gd⟩:: rest):=vp_ (o7 F.h e0) K h2 h3
theorem pFe {T:TypeId} {x:Operand} {f off k:Nat} {cs:List Sd} {ag:Bool} [F:bE P T f off ag (k+1)] (K:HA P ops Q g n ⟨(d,.el (cs.drop off)) :: t,bx,tk⟩ fuel (listed.setIfInBounds i true)) (e0:ev t x=some (.el cs):=by exact rfl) (h2:aD ops t gd=some true:=by exact rfl) (h3:Nat.blt d n=true:=by exact rfl) (h4:Region.free .any ops listed i=true:=by kernel_rfl):HO P ops Q g n ⟨t,bx,tk⟩ (fuel+1) listed i ⟨some d,.fieldAddr T x f,ty,ps,af,gd⟩:=hoP (o7 F.h e0) K h2 h3 h4
theorem sQf {T:TypeId} {x:Operand} {f off k:Nat} {cs:List Sd} {s:Sd} {ag:Bool} [F:bE P T f off ag k] (K:HL P ops Q g n ⟨(d,s) :: t,bx,tk⟩ rest) (e0:ev t x=some (.agg cs):=by exact rfl) (e1:ce ag k off cs=some s:=by exact rfl) (h2:aD ops t gd=some true:=by exact rfl) (h3:Nat.blt d n=true:=by exact rfl):HL P ops Q g n ⟨t,bx,tk⟩ (⟨some d,.field T x f,ty,ps,af,gd⟩:: rest):=vp_ (uN F.h e0 e1) K h2 h3
theorem pQf {T:TypeId} {x:Operand} {f off k:Nat} {cs:List Sd} {s:Sd} {ag:Bool} [F:bE P T f off ag k] (K:HA P ops Q g n ⟨(d,s) :: t,bx,tk⟩ fuel (listed.setIfInBounds i true)) (e0:ev t x=some (.agg cs):=by exact rfl) (e1:ce ag k off cs=some s:=by exact rfl) (h2:aD ops t gd=some true:=by exact rfl) (h3:Nat.blt d n=true:=by exact rfl) (h4:Region.free .any ops listed i=true:=by kernel_rfl):HO P ops Q g n ⟨t,bx,tk⟩ (fuel+1) listed i ⟨some d,.field T x f,ty,ps,af,gd⟩:=hoP (uN F.h e0 e1) K h2 h3 h4
theorem sLb {T E:TypeId} {x:Operand} {k b o j:Nat} {cs:List Sd} {s:Sd} {ag:Bool} [F:ae P T ag k] (K:HL P ops Q g n ⟨(d,s) :: t,bx,tk⟩ rest) (e0:ev t x=some (.v (.pointer (some ⟨b,o,none⟩))):=by exact rfl) (e1:bx[j]? =some ⟨b,E,cs⟩:=by first | exact q0_ | exact q1_ | exact q2_ | exact q3_ | exact q4_) (e2:ce ag k o cs=some s:=by exact rfl) (e3:Nat.ble (o+k) cs.length=true:=by exact rfl) (h2:aD ops t gd=some true:=by exact rfl) (h3:Nat.blt d n=true:=by exact rfl):HL P ops Q g n ⟨t,bx,tk⟩ (⟨some d,.load T x,ty,ps,af,gd⟩:: rest):=v_ (aK j F.h e0 e1 e2 e3) K h2 h3
theorem pLb {T E:TypeId} {x:Operand} {k b o j:Nat} {cs:List Sd} {s:Sd} {ag:Bool} [F:ae P T ag k] (K:HA P ops Q g n ⟨(d,s) :: t,bx,tk⟩ fuel (listed.setIfInBounds i true)) (e0:ev t x=some (.v (.pointer (some ⟨b,o,none⟩))):=by exact rfl) (e1:bx[j]? =some ⟨b,E,cs⟩:=by first | exact q0_ | exact q1_ | exact q2_ | exact q3_ | exact q4_) (e2:ce ag k o cs=some s:=by exact rfl) (e3:Nat.ble (o+k) cs.length=true:=by exact rfl) (h2:aD ops t gd=some true:=by exact rfl) (h3:Nat.blt d n=true:=by exact rfl) (h4:qg .any ops listed i (A7 ops listed i)=true:=by kernel_rfl):HO P ops Q g n ⟨t,bx,tk⟩ (fuel+1) listed i ⟨some d,.load T x,ty,ps,af,gd⟩:=hoE (aK j F.h e0 e1 e2 e3) K h2 h3 h4
theorem sLe {T:TypeId} {x:Operand} {k:Nat} {cs:List Sd} {s:Sd} {ag:Bool} [F:ae P T ag k] (K:HL P ops Q g n ⟨(d,s) :: t,bx,tk⟩ rest) (e0:ev t x=some (.el cs):=by exact rfl) (e1:ce ag k 0 cs=some s:=by exact rfl) (e2:Nat.ble k cs.length=true:=by exact rfl) (h2:aD ops t gd=some true:=by exact rfl) (h3:Nat.blt d n=true:=by exact rfl):HL P ops Q g n ⟨t,bx,tk⟩ (⟨some d,.load T x,ty,ps,af,gd⟩:: rest):=v_ (cU F.h e0 e1 e2) K h2 h3
theorem pLe {T:TypeId} {x:Operand} {k:Nat} {cs:List Sd} {s:Sd} {ag:Bool} [F:ae P T ag k] (K:HA P ops Q g n ⟨(d,s) :: t,bx,tk⟩ fuel (listed.setIfInBounds i true)) (e0:ev t x=some (.el cs):=by exact rfl) (e1:ce ag k 0 cs=some s:=by exact rfl) (e2:Nat.ble k cs.length=true:=by exact rfl) (h2:aD ops t gd=some true:=by exact rfl) (h3:Nat.blt d n=true:=by exact rfl) (h4:qg .any ops listed i (A7 ops listed i)=true:=by kernel_rfl):HO P ops Q g n ⟨t,bx,tk⟩ (fuel+1) listed i ⟨some d,.load T x,ty,ps,af,gd⟩:=hoE (cU F.h e0 e1 e2) K h2 h3 h4
theorem sEx {x:Operand} {j:Nat} {ss:List Sd} {s:Sd} (K:HL P ops Q g n ⟨(d,s) :: t,bx,tk⟩ rest) (e0:ev t x=some (.tup ss):=by exact rfl) (e1:ss[j]? =some s:=by exact rfl) (h2:aD ops t gd=some true:=by exact rfl) (h3:Nat.blt d n=true:=by exact rfl):HL P ops Q g n ⟨t,bx,tk⟩ (⟨some d,.extract x j,ty,ps,af,gd⟩:: rest):=vp_ (sw e0 e1) K h2 h3
theorem pEx {x:Operand} {j:Nat} {ss:List Sd} {s:Sd} (K:HA P ops Q g n ⟨(d,s) :: t,bx,tk⟩ fuel (listed.setIfInBounds i true)) (e0:ev t x=some (.tup ss):=by exact rfl) (e1:ss[j]? =some s:=by exact rfl) (h2:aD ops t gd=some true:=by exact rfl) (h3:Nat.blt d n=true:=by exact rfl) (h4:Region.free .any ops listed i=true:=by kernel_rfl):HO P ops Q g n ⟨t,bx,tk⟩ (fuel+1) listed i ⟨some d,.extract x j,ty,ps,af,gd⟩:=hoP (sw e0 e1) K h2 h3 h4
theorem sAd {T yt:TypeId} {x y:Operand} {a b:Int} {H:Prop} (h:(InR (a+b))∧H) (K:H→HL P ops Q g n ⟨(d,.v (.int .i64 (a+b))) :: t,bx,tk⟩ rest) (e0:ev t x=some (.v (.int .i64 a)):=by exact rfl) (e1:ev t y=some (.v (.int .i64 b)):=by exact rfl) (h2:aD ops t gd=some true:=by exact rfl) (h3:Nat.blt d n=true:=by exact rfl):HL P ops Q g n ⟨t,bx,tk⟩ (⟨some d,.binOp .add T x y yt,ty,ps,af,gd⟩:: rest):=vp_ (wy h.1 e0 e1) (K h.2) h2 h3
theorem pAd {T yt:TypeId} {x y:Operand} {a b:Int} (K:HA P ops Q g n ⟨(d,.v (.int .i64 (a+b))) :: t,bx,tk⟩ fuel (listed.setIfInBounds i true)) (e0:ev t x=some (.v (.int .i64 a)):=by exact rfl) (e1:ev t y=some (.v (.int .i64 b)):=by exact rfl) (hf:InR (a+b):=by assumption) (h2:aD ops t gd=some true:=by exact rfl) (h3:Nat.blt d n=true:=by exact rfl) (h4:Region.free .any ops listed i=true:=by kernel_rfl):HO P ops Q g n ⟨t,bx,tk⟩ (fuel+1) listed i ⟨some d,.binOp .add T x y yt,ty,ps,af,gd⟩:=hoP (wy hf e0 e1) K h2 h3 h4
theorem sSu {T yt:TypeId} {x y:Operand} {a b:Int} {H:Prop} (h:(InR (a - b))∧H) (K:H→HL P ops Q g n ⟨(d,.v (.int .i64 (a - b))) :: t,bx,tk⟩ rest) (e0:ev t x=some (.v (.int .i64 a)):=by exact rfl) (e1:ev t y=some (.v (.int .i64 b)):=by exact rfl) (h2:aD ops t gd=some true:=by exact rfl) (h3:Nat.blt d n=true:=by exact rfl):HL P ops Q g n ⟨t,bx,tk⟩ (⟨some d,.binOp .sub T x y yt,ty,ps,af,gd⟩:: rest):=vp_ (wz h.1 e0 e1) (K h.2) h2 h3
theorem pSu {T yt:TypeId} {x y:Operand} {a b:Int} (K:HA P ops Q g n ⟨(d,.v (.int .i64 (a - b))) :: t,bx,tk⟩ fuel (listed.setIfInBounds i true)) (e0:ev t x=some (.v (.int .i64 a)):=by exact rfl) (e1:ev t y=some (.v (.int .i64 b)):=by exact rfl) (hf:InR (a - b):=by assumption) (h2:aD ops t gd=some true:=by exact rfl) (h3:Nat.blt d n=true:=by exact rfl) (h4:Region.free .any ops listed i=true:=by kernel_rfl):HO P ops Q g n ⟨t,bx,tk⟩ (fuel+1) listed i ⟨some d,.binOp .sub T x y yt,ty,ps,af,gd⟩:=hoP (wz hf e0 e1) K h2 h3 h4
theorem sMu {T yt:TypeId} {x y:Operand} {a b:Int} {H:Prop} (h:(InR (a * b))∧H) (K:H→HL P ops Q g n ⟨(d,.v (.int .i64 (a * b))) :: t,bx,tk⟩ rest) (e0:ev t x=some (.v (.int .i64 a)):=by exact rfl) (e1:ev t y=some (.v (.int .i64 b)):=by exact rfl) (h2:aD ops t gd=some true:=by exact rfl) (h3:Nat.blt d n=true:=by exact rfl):HL P ops Q g n ⟨t,bx,tk⟩ (⟨some d,.binOp .mul T x y yt,ty,ps,af,gd⟩:: rest):=vp_ (wA h.1 e0 e1) (K h.2) h2 h3
theorem pMu {T yt:TypeId} {x y:Operand} {a b:Int} (K:HA P ops Q g n ⟨(d,.v (.int .i64 (a * b))) :: t,bx,tk⟩ fuel (listed.setIfInBounds i true)) (e0:ev t x=some (.v (.int .i64 a)):=by exact rfl) (e1:ev t y=some (.v (.int .i64 b)):=by exact rfl) (hf:InR (a * b):=by assumption) (h2:aD ops t gd=some true:=by exact rfl) (h3:Nat.blt d n=true:=by exact rfl) (h4:Region.free .any ops listed i=true:=by kernel_rfl):HO P ops Q g n ⟨t,bx,tk⟩ (fuel+1) listed i ⟨some d,.binOp .mul T x y yt,ty,ps,af,gd⟩:=hoP (wA hf e0 e1) K h2 h3 h4
theorem sBi {op:BinOp} {T yt:TypeId} {x y:Operand} {u v r:Value} (K:HL P ops Q g n ⟨(d,.v r) :: t,bx,tk⟩ rest) (e0:ev t x=some (.v u):=by exact rfl) (e1:ev t y=some (.v v):=by exact rfl) (e2:tr op u v=some r:=by exact rfl) (h2:aD ops t gd=some true:=by exact rfl) (h3:Nat.blt d n=true:=by exact rfl):HL P ops Q g n ⟨t,bx,tk⟩ (⟨some d,.binOp op T x y yt,ty,ps,af,gd⟩:: rest):=vp_ (mZ e0 e1 e2) K h2 h3
theorem pBi {op:BinOp} {T yt:TypeId} {x y:Operand} {u v r:Value} (K:HA P ops Q g n ⟨(d,.v r) :: t,bx,tk⟩ fuel (listed.setIfInBounds i true)) (e0:ev t x=some (.v u):=by exact rfl) (e1:ev t y=some (.v v):=by exact rfl) (e2:tr op u v=some r:=by exact rfl) (h2:aD ops t gd=some true:=by exact rfl) (h3:Nat.blt d n=true:=by exact rfl) (h4:Region.free .any ops listed i=true:=by kernel_rfl):HO P ops Q g n ⟨t,bx,tk⟩ (fuel+1) listed i ⟨some d,.binOp op T x y yt,ty,ps,af,gd⟩:=hoP (mZ e0 e1 e2) K h2 h3 h4
theorem sEb {T yt:TypeId} {x y:Operand} {a b:Bool} [F:ai P T .bool] (K:HL P ops Q g n ⟨(d,.v (.bool (a==b))) :: t,bx,tk⟩ rest) (e0:ev t x=some (.v (.bool a)):=by exact rfl) (e1:ev t y=some (.v (.bool b)):=by exact rfl) (h2:aD ops t gd=some true:=by exact rfl) (h3:Nat.blt d n=true:=by exact rfl):HL P ops Q g n ⟨t,bx,tk⟩ (⟨some d,.binOp .eql T x y yt,ty,ps,af,gd⟩:: rest):=vp_ (zB F.h e0 e1) K h2 h3
theorem pEb {T yt:TypeId} {x y:Operand} {a b:Bool} [F:ai P T .bool] (K:HA P ops Q g n ⟨(d,.v (.bool (a==b))) :: t,bx,tk⟩ fuel (listed.setIfInBounds i true)) (e0:ev t x=some (.v (.bool a)):=by exact rfl) (e1:ev t y=some (.v (.bool b)):=by exact rfl) (h2:aD ops t gd=some true:=by exact rfl) (h3:Nat.blt d n=true:=by exact rfl) (h4:Region.free .any ops listed i=true:=by kernel_rfl):HO P ops Q g n ⟨t,bx,tk⟩ (fuel+1) listed i ⟨some d,.binOp .eql T x y yt,ty,ps,af,gd⟩:=hoP (zB F.h e0 e1) K h2 h3 h4
theorem sNb {T yt:TypeId} {x y:Operand} {a b:Bool} [F:ai P T .bool] (K:HL P ops Q g n ⟨(d,.v (.bool (!(a==b)))) :: t,bx,tk⟩ rest) (e0:ev t x=some (.v (.bool a)):=by exact rfl) (e1:ev t y=some (.v (.bool b)):=by exact rfl) (h2:aD ops t gd=some true:=by exact rfl) (h3:Nat.blt d n=true:=by exact rfl):HL P ops Q g n ⟨t,bx,tk⟩ (⟨some d,.binOp .neq T x y yt,ty,ps,af,gd⟩:: rest):=vp_ (zC F.h e0 e1) K h2 h3
theorem pNb {T yt:TypeId} {x y:Operand} {a b:Bool} [F:ai P T .bool] (K:HA P ops Q g n ⟨(d,.v (.bool (!(a==b)))) :: t,bx,tk⟩ fuel (listed.setIfInBounds i true)) (e0:ev t x=some (.v (.bool a)):=by exact rfl) (e1:ev t y=some (.v (.bool b)):=by exact rfl) (h2:aD ops t gd=some true:=by exact rfl) (h3:Nat.blt d n=true:=by exact rfl) (h4:Region.free .any ops listed i=true:=by kernel_rfl):HO P ops Q g n ⟨t,bx,tk⟩ (fuel+1) listed i ⟨some d,.binOp .neq T x y yt,ty,ps,af,gd⟩:=hoP (zC F.h e0 e1) K h2 h3 h4
theorem sNp {T yt e:TypeId} {x y:Operand} {z:Bool} {cs:List Sd} [F:ai P T (.pointer e)] (K:HL P ops Q g n ⟨(d,.v (.bool (!z))) :: t,bx,tk⟩ rest) (e0:ev t x=some (.pt z cs):=by exact rfl) (e1:ev t y=some (.v (.pointer none)):=by exact rfl) (h2:aD ops t gd=some true:=by exact rfl) (h3:Nat.blt d n=true:=by exact rfl):HL P ops Q g n ⟨t,bx,tk⟩ (⟨some d,.binOp .neq T x y yt,ty,ps,af,gd⟩:: rest):=vp_ (CM F.h e0 e1) K h2 h3
theorem sEp {T yt e:TypeId} {x y:Operand} {z:Bool} {cs:List Sd} [F:ai P T (.pointer e)] (K:HL P ops Q g n ⟨(d,.v (.bool z)) :: t,bx,tk⟩ rest) (e0:ev t x=some (.pt z cs):=by exact rfl) (e1:ev t y=some (.v (.pointer none)):=by exact rfl) (h2:aD ops t gd=some true:=by exact rfl) (h3:Nat.blt d n=true:=by exact rfl):HL P ops Q g n ⟨t,bx,tk⟩ (⟨some d,.binOp .eql T x y yt,ty,ps,af,gd⟩:: rest):=vp_ (CL F.h e0 e1) K h2 h3
theorem sNo {T:TypeId} {x:Operand} {b:Bool} (K:HL P ops Q g n ⟨(d,.v (.bool (!b))) :: t,bx,tk⟩ rest) (e0:ev t x=some (.v (.bool b)):=by exact rfl) (h2:aD ops t gd=some true:=by exact rfl) (h3:Nat.blt d n=true:=by exact rfl):HL P ops Q g n ⟨t,bx,tk⟩ (⟨some d,.unOp .not T x,ty,ps,af,gd⟩:: rest):=vp_ (zy e0) K h2 h3
theorem pNo {T:TypeId} {x:Operand} {b:Bool} (K:HA P ops Q g n ⟨(d,.v (.bool (!b))) :: t,bx,tk⟩ fuel (listed.setIfInBounds i true)) (e0:ev t x=some (.v (.bool b)):=by exact rfl) (h2:aD ops t gd=some true:=by exact rfl) (h3:Nat.blt d n=true:=by exact rfl) (h4:Region.free .any ops listed i=true:=by kernel_rfl):HO P ops Q g n ⟨t,bx,tk⟩ (fuel+1) listed i ⟨some d,.unOp .not T x,ty,ps,af,gd⟩:=hoP (zy e0) K h2 h3 h4
theorem sLm {T E:TypeId} {x:Operand} {α:Type} {f:α→List Sd} {l:List α} {k:Nat} {tok:Option (Option (Nat×Nat))} [F:ai P T (.slice E)] (K:HL P ops Q g n ⟨(d,.v (.int .i64 (l.length:Int))) :: t,bx,tk⟩ rest) (e0:ev t x=some (.sl k tok (l.map f)):=by exact rfl) (h2:aD ops t gd=some true:=by exact rfl) (h3:Nat.blt d n=true:=by exact rfl):HL P ops Q g n ⟨t,bx,tk⟩ (⟨some d,.call ⟨.builtin .len,#[x],#[T]⟩,ty,ps,af,gd⟩:: rest):=vp_ (wB F.h e0) K h2 h3
theorem pLm {T E:TypeId} {x:Operand} {α:Type} {f:α→List Sd} {l:List α} {k:Nat} {tok:Option (Option (Nat×Nat))} [F:ai P T (.slice E)] (K:HA P ops Q g n ⟨(d,.v (.int .i64 (l.length:Int))) :: t,bx,tk⟩ fuel (listed.setIfInBounds i true)) (e0:ev t x=some (.sl k tok (l.map f)):=by exact rfl) (h2:aD ops t gd=some true:=by exact rfl) (h3:Nat.blt d n=true:=by exact rfl) (h4:Region.free .any ops listed i=true:=by kernel_rfl):HO P ops Q g n ⟨t,bx,tk⟩ (fuel+1) listed i ⟨some d,.call ⟨.builtin .len,#[x],#[T]⟩,ty,ps,af,gd⟩:=hoP (wB F.h e0) K h2 h3 h4
theorem sLs {T:TypeId} {x:Operand} {z:ByteArray} [F:ai P T .string] (K:HL P ops Q g n ⟨(d,.v (.int .i64 (z.size:Int))) :: t,bx,tk⟩ rest) (e0:ev t x=some (.v (.string z)):=by exact rfl) (h2:aD ops t gd=some true:=by exact rfl) (h3:Nat.blt d n=true:=by exact rfl):HL P ops Q g n ⟨t,bx,tk⟩ (⟨some d,.call ⟨.builtin .len,#[x],#[T]⟩,ty,ps,af,gd⟩:: rest):=vp_ (wQ F.h e0) K h2 h3
theorem pLs {T:TypeId} {x:Operand} {z:ByteArray} [F:ai P T .string] (K:HA P ops Q g n ⟨(d,.v (.int .i64 (z.size:Int))) :: t,bx,tk⟩ fuel (listed.setIfInBounds i true)) (e0:ev t x=some (.v (.string z)):=by exact rfl) (h2:aD ops t gd=some true:=by exact rfl) (h3:Nat.blt d n=true:=by exact rfl) (h4:Region.free .any ops listed i=true:=by kernel_rfl):HO P ops Q g n ⟨t,bx,tk⟩ (fuel+1) listed i ⟨some d,.call ⟨.builtin .len,#[x],#[T]⟩,ty,ps,af,gd⟩:=hoP (wQ F.h e0) K h2 h3 h4
theorem sCw {T T':TypeId} {x:Operand} {c:UInt8} {d':TypeDesc} {ki:IntKind} [F:ai P T d'] [F':ai P T' (.int .i64)] (K:HL P ops Q g n ⟨(d,.v (.int .i64 (c.toNat:Int))) :: t,bx,tk⟩ rest) (e0:ev t x=some (.v (.int ki (c.toNat:Int))):=by exact rfl) (h2:aD ops t gd=some true:=by exact rfl) (h3:Nat.blt d n=true:=by exact rfl):HL P ops Q g n ⟨t,bx,tk⟩ (⟨some d,.convert T T' x,ty,ps,af,gd⟩:: rest):=vp_ (eU (w8 c) F.h F'.h e0) K h2 h3
theorem pCw {T T':TypeId} {x:Operand} {c:UInt8} {d':TypeDesc} {ki:IntKind} [F:ai P T d'] [F':ai P T' (.int .i64)] (K:HA P ops Q g n ⟨(d,.v (.int .i64 (c.toNat:Int))) :: t,bx,tk⟩ fuel (listed.setIfInBounds i true)) (e0:ev t x=some (.v (.int ki (c.toNat:Int))):=by exact rfl) (h2:aD ops t gd=some true:=by exact rfl) (h3:Nat.blt d n=true:=by exact rfl) (h4:Region.free .any ops listed i=true:=by kernel_rfl):HO P ops Q g n ⟨t,bx,tk⟩ (fuel+1) listed i ⟨some d,.convert T T' x,ty,ps,af,gd⟩:=hoP (eU (w8 c) F.h F'.h e0) K h2 h3 h4
theorem sSl {T E:TypeId} {x y:Operand} {α:Type} {f:α→List Sd} {l:List α} {ag:Bool} {k:Nat} {z:Int} {ki:IntKind} {tok:Option (Option (Nat×Nat))} [F:ai P T (.slice E)] [F':ae P E ag k] {H:Prop} (h:(0≤z∧z≤(l.length:Int))∧H) (K:H→HL P ops Q g n ⟨(d,.sl k none ((l.drop z.toNat).map f)) :: t,bx,tk⟩ rest) (e0:ev t x=some (.sl k tok (l.map f)):=by exact rfl) (e1:ev t y=some (.v (.int ki z)):=by exact rfl) (h2:aD ops t gd=some true:=by exact rfl) (h3:Nat.blt d n=true:=by exact rfl):HL P ops Q g n ⟨t,bx,tk⟩ (⟨some d,.slice T x (some y) none none,ty,ps,af,gd⟩:: rest):=vp_ (xw h.1 F.h F'.h e0 e1) (K h.2) h2 h3
theorem sSh {T E:TypeId} {x y:Operand} {α:Type} {f:α→List Sd} {l:List α} {ag:Bool} {k:Nat} {z:Int} {ki:IntKind} {tok:Option (Option (Nat×Nat))} [F:ai P T (.slice E)] [F':ae P E ag k] {H:Prop} (h:(0≤z∧z≤(l.length:Int))∧H) (K:H→HL P ops Q g n ⟨(d,.sl k none ((l.take z.toNat).map f)) :: t,bx,tk⟩ rest) (e0:ev t x=some (.sl k tok (l.map f)):=by exact rfl) (e1:ev t y=some (.v (.int ki z)):=by exact rfl) (h2:aD ops t gd=some true:=by exact rfl) (h3:Nat.blt d n=true:=by exact rfl):HL P ops Q g n ⟨t,bx,tk⟩ (⟨some d,.slice T x none (some y) none,ty,ps,af,gd⟩:: rest):=vp_ (oR h.1 F.h F'.h e0 e1) (K h.2) h2 h3
theorem sSb {T E:TypeId} {x y y':Operand} {α:Type} {f:α→List Sd} {l:List α} {ag:Bool} {k:Nat} {z z':Int} {ki ki':IntKind} {tok:Option (Option (Nat×Nat))} [F:ai P T (.slice E)] [F':ae P E ag k] {H:Prop} (h:(0≤z∧z≤z'∧z'≤(l.length:Int))∧H) (K:H→HL P ops Q g n ⟨(d,.sl k none (((l.take z'.toNat).drop z.toNat).map f)) :: t,bx,tk⟩ rest) (e0:ev t x=some (.sl k tok (l.map f)):=by exact rfl) (e1:ev t y=some (.v (.int ki z)):=by exact rfl) (e2:ev t y'=some (.v (.int ki' z')):=by exact rfl) (h2:aD ops t gd=some true:=by exact rfl) (h3:Nat.blt d n=true:=by exact rfl):HL P ops Q g n ⟨t,bx,tk⟩ (⟨some d,.slice T x (some y) (some y') none,ty,ps,af,gd⟩:: rest):=vp_ (sc h.1 F.h F'.h e0 e1 e2) (K h.2) h2 h3
end
section
variable {P:Program} {Q:Exit→Act→World→Prop} {g:Gh} {n:Nat} {σ:St} {c:Operand} {x y:Code} {id i:Nat}
theorem cT (h:HC P Q g n σ x) (hc:ev σ.t c=some (.v (.bool true)):=by exact rfl):HC P Q g n σ (.cond c x y):=yF hc h
theorem cF (h:HC P Q g n σ y) (hc:ev σ.t c=some (.v (.bool false)):=by exact rfl):HC P Q g n σ (.cond c x y):=yG hc h
theorem cS (h:HE Q g n σ .normal) (he:Nat.beq i id=true:=by exact rfl):HE (Exit.inBlock id Q) g n σ (.exit i):=Az he h
theorem cO (h:HE Q g n σ (.exit i)) (he:Nat.beq i id=false:=by exact rfl):HE (Exit.inBlock id Q) g n σ (.exit i):=yI he h
end
theorem wn_ (n:Nat) {H H' q p:Prop} (h:H) (k:H'→q) (w:Fu n→H→(H'→q)→p:=by
 intro f h k
 repeat ((first
  | refine sMv ?_ | refine sAs ?_ | refine FH ?_ | refine sSk ?_ | refine ER ?_ | refine fh ?_ | refine nY ?_
  | refine sNc ?_ | refine sFb ?_ | refine sLb ?_ | refine sEx ?_ | refine sPk ?_
  | refine sAd h fun h=>?_ | refine sSu h fun h=>?_ | refine sMu h fun h=>?_ | refine sBi ?_ | refine sLm ?_ | refine sNo ?_ | refine sSt ?_
  | refine DI ?_ | refine EQ ?_ | refine yH ?_ | refine CG ?_ | refine na ?_ | refine EP ?_ | refine xe ?_ | refine cS ?_ | refine cO ?_ | refine xf ?_ | refine cT ?_ | refine cF ?_
  | refine sLe ?_ | refine sFe ?_ | refine sNe ?_ | refine sNf ?_ | refine sQf ?_ | refine sLs ?_ | refine sEb ?_ | refine sNb ?_ | refine sNp ?_ | refine sEp ?_ | refine sCw ?_ | refine sS0 ?_
  | refine sSl h fun h=>?_ | refine sSh h fun h=>?_ | refine sSb h fun h=>?_
  | refine vp_ (pv_lenV ai.h rfl) ?_ | refine vp_ (Bn ai.h rfl) ?_);replace f:=f.s)
 exact k h):p:=w ⟨trivial⟩ h k
section
variable {P:Program} {ops:Array Oper} {Q:Exit→Act→World→Prop} {g:Gh} {n:Nat} {σ:St} {c:Operand} {x y:Code} {A B C:Prop} {b:Bool}
theorem xib (h:(b=true→A)∧(¬ (b=true)→B)) (hT:A→HC P Q g n σ x) (hF:B→HC P Q g n σ y) (hc:ev σ.t c=some (.v (.bool b)):=by rfl):HC P Q g n σ (.cond c x y):=by
 by_cases hb:b=true
 ·exact qp hb hc (hT (h.1 hb))
 ·exact qq (b_f hb) hc (hF (h.2 hb))
theorem xin (h:(¬ (b=true)→A)∧(¬ ¬ (b=true)→B)) (hT:A→HC P Q g n σ x) (hF:B→HC P Q g n σ y) (hc:ev σ.t c=some (.v (.bool (!b))):=by rfl):HC P Q g n σ (.cond c x y):=by
 by_cases hb:¬ (b=true)
 ·exact qp (qn (b_f hb)) hc (hT (h.1 hb))
 ·exact qq (qo (Decidable.not_not.1 hb)) hc (hF (h.2 hb))
theorem GD [Decidable C] (h:(¬ C→A)∧(¬ ¬ C→B)) (hT:A→HC P Q g n σ x) (hF:B→HC P Q g n σ y) (hc:ev σ.t c=some (.v (.bool (!(decide C)))):=by rfl):HC P Q g n σ (.cond c x y):=by
 by_cases hb:¬ C
 ·exact qp (qn (decide_eq_false hb)) hc (hT (h.1 hb))
 ·exact qq (qo (decide_eq_true (Decidable.not_not.1 hb))) hc (hF (h.2 hb))
theorem xid [Decidable C] (h:(C→A)∧(¬ C→B)) (hT:A→HC P Q g n σ x) (hF:B→HC P Q g n σ y) (hc:ev σ.t c=some (.v (.bool (decide C))):=by rfl):HC P Q g n σ (.cond c x y):=by
 by_cases hb:C
 ·exact qp (decide_eq_true hb) hc (hT (h.1 hb))
 ·exact qq (decide_eq_false hb) hc (hF (h.2 hb))
end
theorem i_ {H p A B q1 q2:Prop} (h:H) (k1:A→q1) (k2:B→q2) (w:H→(A→q1)→(B→q2)→p:=by
 intro h k1 k2
 refine wn_ 999 h fun h=>?_
 first | exact xid h k1 k2 | exact xib h k1 k2 | exact xin h k1 k2 | exact GD h k1 k2):p:=w h k1 k2
theorem r_ {H p G:Prop} (h:H) (hg:G) (w:H→G→p:=by
 intro h hg
 refine wn_ 999 h fun h=>?_
 subst h
 first
  | exact rY hg rfl rfl wd_ sm_ ⟨rfl,rfl,rfl⟩| exact xh hg rfl rfl wd_ rfl wd_ sm_ ⟨rfl,rfl,rfl⟩
  | exact rY hg rfl rfl wd_ sm_ ⟨_,rfl,rfl,rfl⟩| exact xh hg rfl rfl wd_ rfl wd_ sm_ ⟨_,rfl,rfl,rfl⟩
  | exact rY hg rfl rfl wd_ sm_ ⟨_,_,rfl,rfl,rfl⟩| exact xh hg rfl rfl wd_ rfl wd_ sm_ ⟨_,_,rfl,rfl,rfl⟩
  | exact BM hg rfl rfl wd_ rfl wd_ rfl wd_ sm_ ⟨rfl,rfl,rfl⟩| exact BM hg rfl rfl wd_ rfl wd_ rfl wd_ sm_ ⟨_,rfl,rfl,rfl⟩
  | exact BN hg rfl rfl wd_ rfl wd_ rfl wd_ rfl wd_ sm_ ⟨rfl,rfl,rfl⟩| exact BN hg rfl rfl wd_ rfl wd_ rfl wd_ rfl wd_ sm_ ⟨_,rfl,rfl,rfl⟩
  | exact BL hg rfl sm_ ⟨rfl,rfl,rfl⟩ (by simp) | exact BL hg rfl sm_ ⟨_,rfl,rfl,rfl⟩ (by simp)):p:=w h hg
theorem m_ {H p:Prop} (h:H) (w:H→p:=by
 intro h
 refine wn_ 999 h fun h=>?_
 apply rZ
 repeat (first | exact ⟨h,rfl⟩| apply Exists.intro)
 any_goals (exact ⟨it_,sm_⟩)):p:=w h
theorem g_ {H p A:Prop} (h:H) (ha:A) (w:H→A→p:=by
 intro h ha
 refine wn_ 999 h fun h=>?_
 obtain ⟨m',hm,hI⟩:=ha _ h
 apply jW (hm:=hm)
 repeat (first | exact ⟨hI,rfl⟩| apply Exists.intro)
 any_goals (exact ⟨it_,sm_⟩)):p:=w h ha
structure LpS {S:Type} (F:(S→Prop)→S→Prop) (Inv:S→Nat→Prop):Prop where
 h:∀ s m,Inv s m→F (fun s'=>∃ m',m'<m∧Inv s' m') s
theorem lq_ {S:Type} {F:(S→Prop)→S→Prop} {s0:S} (h:ba F s0):∃ Inv:S→Nat→Prop,(∃ m,Inv s0 m)∧LpS F Inv:=by
 obtain ⟨Inv,h1,h2⟩:=h
 exact ⟨Inv,h1,⟨h2⟩⟩
theorem cu {S:Type} {Inv:S→Nat→Prop} {F:(S→Prop)→S→Prop} (hS:LpS F Inv) {s:S} {m:Nat} (hI:Inv s m):∃ ag:S→Prop,(∀ s',ag s'→∃ m',m'<m∧Inv s' m')∧F ag s:=⟨_,fun _ h=>h,hS.h _ _ hI⟩
theorem lp_ {P:Program} {Q:Exit→Act→World→Prop} {g:Gh} {n:Nat} {σ:St} {c:Code} {I:Prop} (hI:I) (Sh:St→Nat→Prop) (round:∀ σ m,Sh σ m→HC P (Exit.then (xg Sh m g n) Q) g n σ c) (w:I→∃ σ0 m0,Sh σ0 m0∧Imp σ σ0:=by
 intro hI
 apply Exists.intro
 apply Exists.intro
 refine ⟨?_,?_⟩
 repeat (first | exact ⟨hI,rfl⟩| apply Exists.intro)
 any_goals (exact ⟨it_,sm_⟩)):HC P Q g n σ (.loop c):=by
 obtain ⟨σ0,m0,h0,hi⟩:=w hI
 exact ES Sh h0 hi round
theorem x_ {H0 p:Prop} {Y:Type} {H q:Y→Prop} (h:H0) (k:∀ y,H y→q y) (w:H0→(∀ y,H y→q y)→p:=by
 intro h k
 refine wn_ 999 h fun h=>?_
 obtain ⟨ha,y,hb,h⟩:=h
 first | refine vp_ (aJ ha hb ai.h ae.h rfl rfl) ?_ | refine vp_ (xS ha hb ai.h rfl rfl) ?_
 exact k y h):p:=w h k
inductive SelB (x':Bx):List Bx→List Bx→Prop where
 | here {x:Bx} {l:List Bx} (hb:x.b=x'.b) (hE:x.E=x'.E) (hc:WkL x.cs x'.cs):SelB x' (x :: l) l
 | there {y:Bx} {l l':List Bx} (h:SelB x' l l'):SelB x' (y :: l) (y :: l')
inductive SelT (x':Tk):List Tk→List Tk→Prop where
 | here {l:List Tk}:SelT x' (x' :: l) l
 | there {y:Tk} {l l':List Tk} (h:SelT x' l l'):SelT x' (y :: l) (y :: l')
theorem SelB.perm {x':Bx} {l l':List Bx} (h:SelB x' l l'):∃ x,x.b=x'.b∧x.E=x'.E∧WkL x.cs x'.cs∧l.Perm (x :: l'):=by
 induction h with
 | here hb hE hc=>exact ⟨_,hb,hE,hc,.refl _⟩
 | there _ ih=>obtain ⟨x,h1,h2,h3,h4⟩:=ih;exact ⟨x,h1,h2,h3,(h4.cons _).trans (.swap _ _ _)⟩
theorem SelT.perm {x':Tk} {l l':List Tk} (h:SelT x' l l'):l.Perm (x' :: l'):=by
 induction h with
 | here=>exact .refl _
 | there _ ih=>exact (ih.cons _).trans (.swap _ _ _)
inductive PkB:List Bx→List Bx→List Bx→Prop where
 | nil {l:List Bx}:PkB l [] l
 | cons {x:Bx} {l l' l'' ns:List Bx} (h:SelB x l l') (r:PkB l' ns l''):PkB l (x :: ns) l''
inductive PkT:List Tk→List Tk→List Tk→Prop where
 | nil {l:List Tk}:PkT l [] l
 | cons {x:Tk} {l l' l'' ns:List Tk} (h:SelT x l l') (r:PkT l' ns l''):PkT l (x :: ns) l''
 | add {E:TypeId} {k n:Nat} {l l'' ns:List Tk} (r:PkT l ns l''):PkT l (⟨none,E,k,n⟩:: ns) l''
theorem SubB.appR {a b:List Bx} (h:SubB a b) (F:List Bx):SubB (a++F) (b++F):=by
 induction h with
 | nil l=>induction l with
  | nil=>exact SubB.refl _
  | cons x l ih=>exact .drop ih
 | keep hb hE hc _ ih=>exact .keep hb hE hc ih
 | drop _ ih=>exact .drop ih
theorem SubT.appR {a b:List Tk} (h:SubT a b) (F:List Tk):SubT (a++F) (b++F):=by
 induction h with
 | nil l=>induction l with
  | nil=>exact SubT.refl _
  | cons x l ih=>exact .drop ih
 | keep h _ ih=>exact .keep h ih
 | drop _ ih=>exact .drop ih
 | add _ ih=>exact .add ih
theorem SubM.pk {bx bx0 Fb:List Bx} {tk tk0 Ft:List Tk} (h1:PkB bx bx0 Fb) (h2:PkT tk tk0 Ft):SubM bx tk (bx0++Fb) (tk0++Ft):=by
 have kb:∃ bx1,bx.Perm (bx1++Fb)∧SubB bx1 bx0:=by
  induction h1 with
  | nil=>exact ⟨[],.refl _,.nil _⟩
  | cons h _ ih=>
   obtain ⟨x,q1,q2,q3,q4⟩:=h.perm
   obtain ⟨b1,q5,q6⟩:=ih
   exact ⟨x :: b1,q4.trans (q5.cons _),.keep q1 q2 q3 q6⟩
 have kt:∃ tk1,tk.Perm (tk1++Ft)∧SubT tk1 tk0:=by
  induction h2 with
  | nil=>exact ⟨[],.refl _,.nil _⟩
  | cons h _ ih=>
   obtain ⟨b1,q5,q6⟩:=ih
   exact ⟨_ :: b1,h.perm.trans (q5.cons _),.keep rfl q6⟩
  | add _ ih=>
   obtain ⟨b1,q5,q6⟩:=ih
   exact ⟨b1,q5,.add q6⟩
 obtain ⟨bx1,p1,s1⟩:=kb
 obtain ⟨tk1,p2,s2⟩:=kt
 exact (SubM.perm p1 p2).trans (SubM.of (s1.appR Fb) (s2.appR Ft))
theorem fr_ {bx bx0 Fb:List Bx} {tk tk0 Ft:List Tk} (h1:PkB bx bx0 Fb:=by repeat (first | exact PkB.nil | (apply PkB.cons;focus ((repeat (first | exact SelB.here rfl rfl wm_ | apply SelB.there));done))))
  (h2:PkT tk tk0 Ft:=by repeat (first | exact PkT.nil | (apply PkT.cons;focus ((repeat (first | exact SelT.here | apply SelT.there));done)) | apply PkT.add)):SubM bx tk (bx0++Fb) (tk0++Ft):=.pk h1 h2
structure Cn (P:Program) (f:FuncId) (ss:List Sd) (bx:List Bx) (tk:List Tk) (R:Sd→List Bx→List Tk→Prop):Prop where
 c:Con P f ss bx tk R
 f:∃ fn,P.funcs[f]? =some fn∧(fn.name== "runtime.NumGoroutine")=false∧fn.body.isSome=true
theorem al {P:Program} {f:FuncId} {fn:Func} {c:Code} {ss:List Sd} {bx:List Bx} {tk:List Tk} {R:Sd→List Bx→List Tk→Prop} (hf:P.funcs[f]? =some fn) (hb:fn.body=some c) (hn:Nat.ble ss.length fn.ntmps=true) (hnm:(fn.name== "runtime.NumGoroutine")=false)
  (h:∀ g:Gh,GOk g bx tk→HC P (bodyPost P fn (RP bx tk g.R g.w R)) g fn.ntmps ⟨av 0 ss,bx,tk⟩ c):Cn P f ss bx tk R:=⟨DJ hf hb hn h,fn,hf,hnm,by rw [hb];rfl⟩
section
variable {P:Program} {ops:Array Oper} {Q:Exit→Act→World→Prop} {g:Gh} {n:Nat} {t:List (Nat×Sd)} {bx:List Bx} {tk:List Tk} {rest:List Oper} {ty:TypeId} {ps:String} {af:Array Edge} {gd:Option (Nat×Bool)} {fuel:Nat} {listed:Array Bool}
theorem su {d:Nat} {f:FuncId} {args:Array Operand} {ats:Array TypeId} {ss:List Sd} {bx0 Fb:List Bx} {tk0 Ft:List Tk} {Rr:Sd→List Bx→List Tk→Prop} (c:Cn P f ss bx0 tk0 Rr)
  (hargs:EvL t args.toList ss) (hm:SubM bx tk (bx0++Fb) (tk0++Ft)) (h:∀ r bx' tk',Rr r bx' tk'→HL P ops Q g n ⟨(d,r) :: t,bx'++Fb,tk'++Ft⟩ rest) (hwt:aD ops t gd=some true:=by rfl) (hd:Nat.blt d n=true:=by rfl):
  HL P ops Q g n ⟨t,bx,tk⟩ (⟨some d,.call ⟨.value (.func f),args,ats⟩,ty,ps,af,gd⟩:: rest):=by
 obtain ⟨fn,h1,h2,h3⟩:=c.f
 exact yJ c.c h1 h2 h3 hargs hm hwt hd h
theorem sv {d:Nat} {f:FuncId} {args:Array Operand} {ats:Array TypeId} {ss:List Sd} {bx0 Fb:List Bx} {tk0 Ft:List Tk} {Rr:Sd→List Bx→List Tk→Prop} (c:Cn P f ss bx0 tk0 Rr)
  (hargs:EvL t args.toList ss) (hm:SubM bx tk (bx0++Fb) (tk0++Ft)) (h:∀ r bx' tk',Rr r bx' tk'→HA P ops Q g n ⟨(d,r) :: t,bx'++Fb,tk'++Ft⟩ fuel listed) (hwt:aD ops t gd=some true:=by rfl) (hd:Nat.blt d n=true:=by rfl):
  HW P ops Q g n ⟨t,bx,tk⟩ fuel listed ⟨some d,.call ⟨.value (.func f),args,ats⟩,ty,ps,af,gd⟩:=by
 obtain ⟨fn,h1,h2,h3⟩:=c.f
 exact DQ c.c h1 h2 h3 hargs hm hwt hd h
structure Nr (n:Nat):Prop where
 h:True
theorem xsd {C A B:Prop} [Decidable C] {d:Nat} (_:Nr d) (h:(C→A)∧(¬ C→B)) (hT:A→HL P ops Q g n ⟨(d,.v (.bool true)) :: t,bx,tk⟩ rest) (hF:B→HL P ops Q g n ⟨(d,.v (.bool false)) :: t,bx,tk⟩ rest) (hl:aX t d=some (.v (.bool (decide C))):=by rfl):HL P ops Q g n ⟨t,bx,tk⟩ rest:=by
 by_cases hb:C
 ·exact lg d (decide_eq_true hb) hl (hT (h.1 hb))
 ·exact lg d (decide_eq_false hb) hl (hF (h.2 hb))
theorem xsb {b:Bool} {A B:Prop} {d:Nat} (_:Nr d) (h:(b=true→A)∧(¬ (b=true)→B)) (hT:A→HL P ops Q g n ⟨(d,.v (.bool true)) :: t,bx,tk⟩ rest) (hF:B→HL P ops Q g n ⟨(d,.v (.bool false)) :: t,bx,tk⟩ rest) (hl:aX t d=some (.v (.bool b)):=by rfl):HL P ops Q g n ⟨t,bx,tk⟩ rest:=by
 by_cases hb:b=true
 ·exact lg d hb hl (hT (h.1 hb))
 ·exact lg d (b_f hb) hl (hF (h.2 hb))
theorem xsn {b:Bool} {A B:Prop} {d:Nat} (_:Nr d) (h:(¬ (b=true)→A)∧(¬ ¬ (b=true)→B)) (hT:A→HL P ops Q g n ⟨(d,.v (.bool true)) :: t,bx,tk⟩ rest) (hF:B→HL P ops Q g n ⟨(d,.v (.bool false)) :: t,bx,tk⟩ rest) (hl:aX t d=some (.v (.bool (!b))):=by rfl):HL P ops Q g n ⟨t,bx,tk⟩ rest:=by
 by_cases hb:¬ (b=true)
 ·exact lg d (qn (b_f hb)) hl (hT (h.1 hb))
 ·exact lg d (qo (Decidable.not_not.1 hb)) hl (hF (h.2 hb))
theorem GE {C A B:Prop} [Decidable C] {d:Nat} (_:Nr d) (h:(¬ C→A)∧(¬ ¬ C→B)) (hT:A→HL P ops Q g n ⟨(d,.v (.bool true)) :: t,bx,tk⟩ rest) (hF:B→HL P ops Q g n ⟨(d,.v (.bool false)) :: t,bx,tk⟩ rest) (hl:aX t d=some (.v (.bool (!(decide C)))):=by rfl):HL P ops Q g n ⟨t,bx,tk⟩ rest:=by
 by_cases hb:¬ C
 ·exact lg d (qn (decide_eq_false hb)) hl (hT (h.1 hb))
 ·exact lg d (qo (decide_eq_true (Decidable.not_not.1 hb))) hl (hF (h.2 hb))
theorem psd {C A B:Prop} [Decidable C] {d:Nat} (_:Nr d) (h:(C→A)∧(¬ C→B)) (hT:A→HA P ops Q g n ⟨(d,.v (.bool true)) :: t,bx,tk⟩ fuel listed) (hF:B→HA P ops Q g n ⟨(d,.v (.bool false)) :: t,bx,tk⟩ fuel listed) (hl:aX t d=some (.v (.bool (decide C))):=by rfl):HA P ops Q g n ⟨t,bx,tk⟩ fuel listed:=by
 by_cases hb:C
 ·exact nz d (decide_eq_true hb) hl (hT (h.1 hb))
 ·exact nz d (decide_eq_false hb) hl (hF (h.2 hb))
theorem psb {b:Bool} {A B:Prop} {d:Nat} (_:Nr d) (h:(b=true→A)∧(¬ (b=true)→B)) (hT:A→HA P ops Q g n ⟨(d,.v (.bool true)) :: t,bx,tk⟩ fuel listed) (hF:B→HA P ops Q g n ⟨(d,.v (.bool false)) :: t,bx,tk⟩ fuel listed) (hl:aX t d=some (.v (.bool b)):=by rfl):HA P ops Q g n ⟨t,bx,tk⟩ fuel listed:=by
 by_cases hb:b=true
 ·exact nz d hb hl (hT (h.1 hb))
 ·exact nz d (b_f hb) hl (hF (h.2 hb))
theorem psn {b:Bool} {A B:Prop} {d:Nat} (_:Nr d) (h:(¬ (b=true)→A)∧(¬ ¬ (b=true)→B)) (hT:A→HA P ops Q g n ⟨(d,.v (.bool true)) :: t,bx,tk⟩ fuel listed) (hF:B→HA P ops Q g n ⟨(d,.v (.bool false)) :: t,bx,tk⟩ fuel listed) (hl:aX t d=some (.v (.bool (!b))):=by rfl):HA P ops Q g n ⟨t,bx,tk⟩ fuel listed:=by
 by_cases hb:¬ (b=true)
 ·exact nz d (qn (b_f hb)) hl (hT (h.1 hb))
 ·exact nz d (qo (Decidable.not_not.1 hb)) hl (hF (h.2 hb))
theorem GF {C A B:Prop} [Decidable C] {d:Nat} (_:Nr d) (h:(¬ C→A)∧(¬ ¬ C→B)) (hT:A→HA P ops Q g n ⟨(d,.v (.bool true)) :: t,bx,tk⟩ fuel listed) (hF:B→HA P ops Q g n ⟨(d,.v (.bool false)) :: t,bx,tk⟩ fuel listed) (hl:aX t d=some (.v (.bool (!(decide C)))):=by rfl):HA P ops Q g n ⟨t,bx,tk⟩ fuel listed:=by
 by_cases hb:¬ C
 ·exact nz d (qn (decide_eq_false hb)) hl (hT (h.1 hb))
 ·exact nz d (qo (decide_eq_true (Decidable.not_not.1 hb))) hl (hF (h.2 hb))
end
section
variable {P:Program} {ops:Array Oper} {Q:Exit→Act→World→Prop} {g:Gh} {n:Nat} {t:List (Nat×Sd)} {bx:List Bx} {tk:List Tk} {rest:List Oper} {fuel:Nat} {listed:Array Bool} {b:Bool} {d:Nat} {σ:St}
theorem xsk (_:Nr d) (hT:b=true→HL P ops Q g n ⟨(d,.v (.bool true)) :: t,bx,tk⟩ rest) (hF:b=false→HL P ops Q g n ⟨(d,.v (.bool false)) :: t,bx,tk⟩ rest) (hl:aX t d=some (.v (.bool b)):=by exact rfl):HL P ops Q g n ⟨t,bx,tk⟩ rest:=by
 cases hb:b with
 | true=>exact lg d hb hl (hT hb)
 | false=>exact lg d hb hl (hF hb)
theorem vr {k:Nat} {cs:List Sd} (h:cs.length=k):0+k≤cs.length:=by omega
theorem rt_ {rs:List ResultVar} {ss:List Sd} (h:RetL P σ rs ss:=by repeat (first | exact RetL.nil | refine RetL.tmp rfl wd_ ?_ | refine RetL.cell 0 ae.h rfl rfl (aq sl_) (vr sl_) wd_ ?_ | refine RetL.cell 1 ae.h rfl rfl (aq sl_) (vr sl_) wd_ ?_ | refine RetL.cell 2 ae.h rfl rfl (aq sl_) (vr sl_) wd_ ?_ | refine RetL.cell 3 ae.h rfl rfl (aq sl_) (vr sl_) wd_ ?_ | refine RetL.cell 4 ae.h rfl rfl (aq sl_) (vr sl_) wd_ ?_)):RetL P σ rs ss:=h
theorem xT {fn:Func} {bx0 bx':List Bx} {tk0 tk':List Tk} {R:Sd→List Bx→List Tk→Prop} {rs:List ResultVar} {s1 s2:Sd} {ss:List Sd} (hg:GOk g bx0 tk0) (hr:fn.results=rs.toArray) (hl:RetL P σ rs (s1 :: s2 :: ss)) (hm:SubM σ.bx σ.tk bx' tk') (hR:R (.tup (s1 :: s2 :: ss)) bx' tk'):HE (bodyPost P fn (RP bx0 tk0 g.R g.w R)) g n σ .ret:=BZ hg hr hl hm hR
theorem xU {fn:Func} {bx0 bx':List Bx} {tk0 tk':List Tk} {R:Sd→List Bx→List Tk→Prop} {rs:List ResultVar} {s1:Sd} (hg:GOk g bx0 tk0) (hr:fn.results=rs.toArray) (hl:RetL P σ rs [s1]) (hm:SubM σ.bx σ.tk bx' tk') (hR:R s1 bx' tk'):HE (bodyPost P fn (RP bx0 tk0 g.R g.w R)) g n σ .ret:=BZ hg hr hl hm hR
end
theorem rl_ {H p G:Prop} (h:H) (hg:G) (w:H→G→p:=by
 intro h hg
 refine wn_ 999 h fun h=>?_
 subst h
 first
  | exact xT hg rfl rt_ sm_ ⟨rfl,rfl,rfl⟩| exact xU hg rfl rt_ sm_ ⟨rfl,rfl,rfl⟩
  | exact xT hg rfl rt_ sm_ ⟨_,rfl,rfl,rfl⟩| exact xU hg rfl rt_ sm_ ⟨_,rfl,rfl,rfl⟩
  | exact xT hg rfl rt_ sm_ ⟨_,_,rfl,rfl,rfl⟩| exact xU hg rfl rt_ sm_ ⟨_,_,rfl,rfl,rfl⟩):p:=w h hg
theorem ks_ (d:Nat) {H p A B q1 q2:Prop} (h:H) (k1:A→q1) (k2:B→q2) (w:Nr d→H→(A→q1)→(B→q2)→p:=by
 intro d h k1 k2
 refine wn_ 999 h fun h=>?_
 refine xsk d (fun hb=>?_) (fun hb=>?_)
 ·first | rw [Cb hb] at h | rw [EE hb] at h | rw [Dt hb] at h
  exact k1 h
 ·first | rw [Cc hb] at h | rw [EF hb] at h | rw [Du hb] at h
  exact k2 h):p:=w ⟨trivial⟩ h k1 k2
theorem is_ (d:Nat) {H p A B q1 q2:Prop} (h:H) (k1:A→q1) (k2:B→q2) (w:Nr d→H→(A→q1)→(B→q2)→p:=by
 intro d h k1 k2
 refine wn_ 999 h fun h=>?_
 first | exact xsd d h k1 k2 | exact xsb d h k1 k2 | exact xsn d h k1 k2 | exact GE d h k1 k2):p:=w ⟨trivial⟩ h k1 k2
theorem ip_ (d:Nat) {H p A B q1 q2:Prop} (h:H) (k1:A→q1) (k2:B→q2) (w:Nr d→H→(A→q1)→(B→q2)→p:=by
 intro d h k1 k2
 first | exact psd d h k1 k2 | exact psb d h k1 k2 | exact psn d h k1 k2 | exact GF d h k1 k2):p:=w ⟨trivial⟩ h k1 k2
theorem c0_ {H0 p C:Prop} {Y:Type} {H q:Y→Prop} (c:C) (h:H0) (k:∀ y,H y→q y) (w:C→H0→(∀ y,H y→q y)→p:=by
 intro c h k
 refine wn_ 999 h fun h=>?_
 obtain ⟨y,hy,h⟩:=h
 refine su (c hy ..) ar_ fr_ ?_
 rintro _ _ _ ⟨rfl,rfl,rfl⟩
 simp only [List.nil_append,List.cons_append]
 exact k y h):p:=w c h k
theorem c1_ {H0 p C:Prop} {Y I1:Type} {H:Y→Prop} {q:Y→I1→Prop} (c:C) (h:H0) (k:∀ y i1,H y→q y i1) (w:C→H0→(∀ y i1,H y→q y i1)→p:=by
 intro c h k
 refine wn_ 999 h fun h=>?_
 obtain ⟨y,hy,h⟩:=h
 refine su (c hy ..) ar_ fr_ ?_
 rintro _ _ _ ⟨i1,rfl,rfl,rfl⟩
 simp only [List.nil_append,List.cons_append]
 exact k y i1 h):p:=w c h k
theorem A8 {p C F q:Prop} (c:C) (hy:F) (k:q) (w:C→F→q→p:=by
 intro c hy k
 refine sv (c hy ..) ar_ fr_ ?_
 rintro _ _ _ ⟨rfl,rfl,rfl⟩
 simp only [List.nil_append,List.cons_append]
 exact k):p:=w c hy k
theorem rx {p C F:Prop} {I1:Type} {q:I1→Prop} (c:C) (hy:F) (k:∀ i1,q i1) (w:C→F→(∀ i1,q i1)→p:=by
 intro c hy k
 refine sv (c hy ..) ar_ fr_ ?_
 rintro _ _ _ ⟨i1,rfl,rfl,rfl⟩
 simp only [List.nil_append,List.cons_append]
 exact k i1):p:=w c hy k
theorem El (x:Tk) (l:List Tk):[x]++l=x :: l:=rfl
theorem z0_ {H0 p C:Prop} {Y:Type} {H q:Y→Prop} (c:C) (h:H0) (k:∀ y,H y→q y) (w:C→H0→(∀ y,H y→q y)→p:=by
 intro c h k
 refine wn_ 999 h fun h=>?_
 obtain ⟨y,hy,h⟩:=h
 refine su (c hy ..) ar_ fr_ ?_
 rintro _ _ _ ⟨rfl,rfl,rfl⟩
 simp only [List.nil_append]
 exact k y h):p:=w c h k
theorem cM {p C F q:Prop} (c:C) (hy:F) (k:q) (w:C→F→q→p:=by
 intro c hy k
 refine sv (c hy ..) ar_ fr_ ?_
 rintro _ _ _ ⟨rfl,rfl,rfl⟩
 simp only [List.nil_append]
 exact k):p:=w c hy k
theorem z1_ {H0 p C:Prop} {Y I1:Type} {H:Y→Prop} {q:Y→I1→Prop} (c:C) (h:H0) (k:∀ y i1,H y→q y i1) (w:C→H0→(∀ y i1,H y→q y i1)→p:=by
 intro c h k
 refine wn_ 999 h fun h=>?_
 obtain ⟨y,hy,h⟩:=h
 refine su (c hy ..) ar_ fr_ ?_
 rintro _ _ _ ⟨i1,rfl,rfl,rfl⟩
 simp only [List.nil_append,El]
 exact k y i1 h):p:=w c h k
theorem pW {p C F:Prop} {I1:Type} {q:I1→Prop} (c:C) (hy:F) (k:∀ i1,q i1) (w:C→F→(∀ i1,q i1)→p:=by
 intro c hy k
 refine sv (c hy ..) ar_ fr_ ?_
 rintro _ _ _ ⟨i1,rfl,rfl,rfl⟩
 simp only [List.nil_append,El]
 exact k i1):p:=w c hy k
structure Lf (q:Prop):Prop where
 h:q
theorem o_ (l:List Nat) {p q:Prop} (k:q) (w:Nx l→Lf q→p:=by
 intro x k
 repeat (refine ho_ x rfl fun x=>?_;first
  | refine pMv ?_ | refine pAs ?_ | refine pNc ?_ | refine pFb ?_ | refine pLb ?_ | refine pSk ?_ | refine pPk ?_ | refine pEx ?_ | refine pAd ?_ | refine pSu ?_ | refine pMu ?_ | refine pBi ?_
  | refine pLm ?_ | refine pLs ?_ | refine pNo ?_ | refine pEb ?_ | refine pNb ?_ | refine pLe ?_ | refine pFe ?_ | refine pNe ?_ | refine pQf ?_ | refine pCw ?_)
 exact k.h):p:=w ⟨trivial⟩ ⟨k⟩
end Go.Proofs.YtnbceeholnkfeaaGreatDoor
