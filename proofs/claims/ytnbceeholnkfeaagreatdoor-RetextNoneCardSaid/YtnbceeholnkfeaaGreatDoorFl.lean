/- A statement whose order is open: loads that may come at any time beside a chain of other operations. -/
import Derived.Test.YtnbceeholnkfeaaGreatDoorRb
import Derived.Shelf.Bytes.SlIndexWhole
import Derived.Test.YtnbceeholnkfeaaGreatDoorProg
namespace Go.Proofs.YtnbceeholnkfeaaGreatDoor
open Go.RowKit
structure Flt where
 i:Nat
 d:Nat
 s:Sd
def qk (ops:Array Oper) (i:Option Nat) (l:Array Bool) (td:List Nat):Bool:=
 let r:=Region.ready .any ops l
 match i with
 | some i=>!r.isEmpty && r.all fun j=>Nat.beq j i || td.contains j
 | none=>td.isEmpty || (!r.isEmpty && r.all fun j=>td.contains j)
def flOK (ops:Array Oper) (i:Option Nat):Nat→Array Bool→List Nat→Bool
 | 0,l,td=>qk ops i l td
 | n+1,l,td=>qk ops i l td && td.all fun f=>flOK ops i n (l.setIfInBounds f true) (td.erase f)
def flFree (ops:Array Oper) (i:Nat):Nat→Array Bool→List Nat→Bool
 | 0,l,_=>Region.free .any ops l i && (Region.ready .any ops l).contains i
 | n+1,l,td=>(Region.free .any ops l i && (Region.ready .any ops l).contains i) && td.all fun f=>flFree ops i n (l.setIfInBounds f true) (td.erase f)
inductive Rch (listed:Array Bool) (Fl:List Nat):List Nat→Array Bool→List Nat→Prop where
 | start:Rch listed Fl [] listed Fl
 | exec {D:List Nat} {l:Array Bool} {td:List Nat} {f:Nat} (h:Rch listed Fl D l td) (hf:f∈td):Rch listed Fl (f :: D) (l.setIfInBounds f true) (td.erase f)
theorem Rch.mark {listed:Array Bool} {Fl D:List Nat} {l:Array Bool} {td:List Nat} (h:Rch listed Fl D l td) (c:Nat):Rch (listed.setIfInBounds c true) Fl D (l.setIfInBounds c true) td:=by
 induction h with
 | start=>exact .start
 | @exec D l td f h hf ih=>
  have:=ih.exec hf
  by_cases e:f=c
  ·subst e;exact this
  ·rw [Array.setIfInBounds_comm _ _ e];exact this
theorem Rch.len {listed:Array Bool} {Fl D:List Nat} {l:Array Bool} {td:List Nat} (h:Rch listed Fl D l td):D.length+td.length=Fl.length:=by
 induction h with
 | start=>simp
 | exec h hf ih=>
  have:=List.length_pos_of_mem hf
  rw [List.length_cons,List.length_erase_of_mem hf];omega
theorem Rch.ok {ops:Array Oper} {i:Option Nat} {listed:Array Bool} {Fl D:List Nat} {l:Array Bool} {td:List Nat} (h:Rch listed Fl D l td):flOK ops i Fl.length listed Fl=true→flOK ops i td.length l td=true:=by
 intro h0
 induction h with
 | start=>exact h0
 | @exec D l td f h hf ih=>
  have:=List.length_pos_of_mem hf
  obtain ⟨m,hm⟩:∃ m,td.length=m+1:=⟨td.length - 1,by omega⟩
  rw [hm] at ih
  unfold flOK at ih
  rw [Bool.and_eq_true,List.all_eq_true] at ih
  have:=ih.2 f hf
  rw [List.length_erase_of_mem hf,hm];exact this
theorem flOK.chk {ops:Array Oper} {i:Option Nat} {n:Nat} {l:Array Bool} {td:List Nat} (h:flOK ops i n l td=true):qk ops i l td=true:=by
 cases n with
 | zero=>exact h
 | succ n=>unfold flOK at h;rw [Bool.and_eq_true] at h;exact h.1
theorem Rch.free {ops:Array Oper} {i:Nat} {listed:Array Bool} {Fl D:List Nat} {l:Array Bool} {td:List Nat} (h:Rch listed Fl D l td):flFree ops i Fl.length listed Fl=true→flFree ops i td.length l td=true:=by
 intro h0
 induction h with
 | start=>exact h0
 | @exec D l td f h hf ih=>
  have:=List.length_pos_of_mem hf
  obtain ⟨m,hm⟩:∃ m,td.length=m+1:=⟨td.length - 1,by omega⟩
  rw [hm] at ih
  unfold flFree at ih
  rw [Bool.and_eq_true,List.all_eq_true] at ih
  have:=ih.2 f hf
  rw [List.length_erase_of_mem hf,hm];exact this
theorem flFree.chk {ops:Array Oper} {i:Nat} {n:Nat} {l:Array Bool} {td:List Nat} (h:flFree ops i n l td=true):Region.free .any ops l i=true∧(Region.ready .any ops l).contains i=true:=by
 cases n with
 | zero=>unfold flFree at h;rw [Bool.and_eq_true] at h;exact h
 | succ n=>unfold flFree at h;rw [Bool.and_eq_true,Bool.and_eq_true] at h;exact h.1
def flT (fs:List Flt):List Nat→List (Nat×Sd)
 | []=>[]
 | j :: D=>match fs.find? (fun f=>Nat.beq f.i j) with
  | some f=>(f.d,f.s) :: flT fs D
  | none=>flT fs D
theorem oM (t x:List (Nat×Sd)) (e:Nat):aX (t++x) e=match aX t e with | some s=>some s | none=>aX x e:=by
 induction t with
 | nil=>rfl
 | cons a t ih=>
  obtain ⟨k,s⟩:=a
  simp only [List.cons_append,aX]
  cases Nat.beq k e with
  | true=>rfl
  | false=>exact ih
section
variable {P:Program} {ops:Array Oper} {Q:Exit→Act→World→Prop} {g:Gh} {n:Nat} {t:List (Nat×Sd)} {bx:List Bx} {tk:List Tk} {ty:TypeId} {ps:String} {af:Array Edge} {gd:Option (Nat×Bool)} {fuel:Nat} {listed:Array Bool} {fs:List Flt}
structure HAF (P:Program) (ops:Array Oper) (Q:Exit→Act→World→Prop) (g:Gh) (n:Nat) (t:List (Nat×Sd)) (bx:List Bx) (tk:List Tk) (fuel:Nat) (listed:Array Bool) (fs:List Flt):Prop where
 h:∀ D l td,Rch listed (fs.map (·.i)) D l td→HA P ops Q g n ⟨t++flT fs D,bx,tk⟩ (fuel+td.length) l
def FlV (P:Program) (ops:Array Oper) (g:Gh) (n:Nat) (t:List (Nat×Sd)) (bx:List Bx) (tk:List Tk) (fs:List Flt):Prop:=
 ∀ f∈fs,∃ op ty ps af gd,ops[f.i]? =some ⟨some f.d,op,ty,ps,af,gd⟩∧(Nat.blt f.d n=true∧aX t f.d=none)∧∀ tl,aD ops (t++tl) gd=some true∧iw P g n ⟨t++tl,bx,tk⟩ ⟨some f.d,op,ty,ps,af,gd⟩ f.s
theorem FlV.nil:FlV P ops g n t bx tk []:=fun _ h=>by cases h
theorem FlV.cons {i d:Nat} {s:Sd} {op:Op} (ho:ops[i]? =some ⟨some d,op,ty,ps,af,gd⟩) (hd:Nat.blt d n=true) (hl:aX t d=none) (hw:∀ tl,aD ops (t++tl) gd=some true) (hv:∀ tl,iw P g n ⟨t++tl,bx,tk⟩ ⟨some d,op,ty,ps,af,gd⟩ s) (h:FlV P ops g n t bx tk fs):FlV P ops g n t bx tk (⟨i,d,s⟩:: fs):=fun f hf=>by
 rcases List.mem_cons.1 hf with rfl | hf
 ·exact ⟨op,ty,ps,af,gd,ho,⟨hd,hl⟩,fun tl=>⟨hw tl,hv tl⟩⟩
 ·exact h f hf
theorem uI {j:Nat} {D:List Nat} (h:j∈fs.map (·.i)):∃ f∈fs,f.i=j∧flT fs (j :: D)=(f.d,f.s) :: flT fs D:=by
 obtain ⟨f0,h0,e0⟩:=List.mem_map.1 h
 cases hf:fs.find? (fun f=>Nat.beq f.i j) with
 | none=>
  have:=List.find?_eq_none.1 hf f0 h0
  exact absurd (by rw [e0];exact Nat.beq_refl j) this
 | some f=>
  refine ⟨f,List.mem_of_find?_eq_some hf,Nat.eq_of_beq_eq_true (List.find?_some (p:=fun f:Flt=>Nat.beq f.i j) hf),?_⟩
  show (match fs.find? (fun f=>Nat.beq f.i j) with | some f=>(f.d,f.s) :: flT fs D | none=>flT fs D)=_
  rw [hf]
theorem eG (fs:List Flt) (fuel:Nat) {m:Nat} (h:HAF P ops Q g n t bx tk fuel listed fs) (e:fuel+(fs.map (·.i)).length=m:=by rfl):HA P ops Q g n ⟨t,bx,tk⟩ m listed:=by
 subst e
 have:=h.h [] listed _ .start
 simpa [flT] using this
theorem Rch.sub {listed:Array Bool} {Fl D:List Nat} {l:Array Bool} {td:List Nat} (h:Rch listed Fl D l td):∀ x∈td,x∈Fl:=by
 induction h with
 | start=>exact fun _ h=>h
 | exec h hf ih=>exact fun x hx=>ih x (List.mem_of_mem_erase hx)
theorem uJ {D:List Nat} {l:Array Bool} {td:List Nat} {j m:Nat} (hv:FlV P ops g n t bx tk fs) (hR:Rch listed (fs.map (·.i)) D l td) (hj:j∈td)
  (h:HA P ops Q g n ⟨t++flT fs (j :: D),bx,tk⟩ m (l.setIfInBounds j true)):∃ o,ops[j]? =some o∧HW P ops Q g n ⟨t++flT fs D,bx,tk⟩ m (l.setIfInBounds j true) o:=by
 obtain ⟨f,hf,rfl,e⟩:=uI (D:=D) (hR.sub j hj)
 obtain ⟨op,ty,ps,af,gd,h1,⟨h2,hn⟩,h3⟩:=hv f hf
 obtain ⟨h4,h5⟩:=h3 (flT fs D)
 refine ⟨_,h1,DP h5 h4 h2 ?_⟩
 rw [e] at h
 refine ⟨j0 (σ':=⟨t++(f.d,f.s) :: flT fs D,bx,tk⟩) ⟨fun d s' hs=>⟨s',?_,.refl _⟩,SubM.refl _ _⟩ h.h⟩
 rw [oM] at hs
 simp only [aX]
 cases hb:Nat.beq f.d d with
 | true=>
  have:=Nat.eq_of_beq_eq_true hb
  subst this
  rw [hn] at hs
  simp only [aX,Nat.beq_refl] at hs
  exact hs
 | false=>
  rw [oM]
  cases hl:aX t d with
  | some s=>rw [hl] at hs;exact hs
  | none=>rw [hl] at hs;simp only [aX,hb] at hs;exact hs
theorem bl (i:Nat) {o:Oper} (hr:flOK ops (some i) (fs.map (·.i)).length listed (fs.map (·.i))=true) (ho:ops[i]? =some o) (hv:FlV P ops g n t bx tk fs)
  (h:∀ D l td,Rch (listed.setIfInBounds i true) (fs.map (·.i)) D l td→HW P ops Q g n ⟨t++flT fs D,bx,tk⟩ (fuel+td.length) l o):HAF P ops Q g n t bx tk (fuel+1) listed fs:=by
 refine ⟨?_⟩
 intro D l td
 induction hn:td.length generalizing D l td with
 | zero=>
  intro hR
  have hc:=flOK.chk (hR.ok hr)
  obtain rfl:td=[]:=List.eq_nil_of_length_eq_zero hn
  have hw:=h D _ _ (hR.mark i)
  unfold qk at hc
  simp only [Bool.and_eq_true,Bool.not_eq_true',List.isEmpty_eq_false_iff,List.all_eq_true,Bool.or_eq_true] at hc
  refine cv (is:=Region.ready .any ops l) rfl hc.1 fun j hj=>?_
  rcases hc.2 j hj with e | e
  ·obtain rfl:=Nat.eq_of_beq_eq_true e
   exact ⟨o,ho,hw⟩
  ·simp at e
 | succ m ih=>
  intro hR
  have hc:=flOK.chk (hR.ok hr)
  have hw:=h D _ _ (hR.mark i)
  unfold qk at hc
  simp only [Bool.and_eq_true,Bool.not_eq_true',List.isEmpty_eq_false_iff,List.all_eq_true,Bool.or_eq_true] at hc
  refine cv (is:=Region.ready .any ops l) rfl hc.1 fun j hj=>?_
  rcases hc.2 j hj with e | e
  ·obtain rfl:=Nat.eq_of_beq_eq_true e
   refine ⟨o,ho,?_⟩
   rw [hn] at hw
   have e2:(fuel+1).add m=fuel+(m+1):=by show fuel+1+m=_;omega
   rw [e2];exact hw
  ·have hj':j∈td:=by simpa using e
   refine uJ hv hR hj' ?_
   have hl:(td.erase j).length=m:=by rw [List.length_erase_of_mem hj'];omega
   exact ih (j :: D) _ _ hl (hR.exec hj')
theorem Rch.mem {listed:Array Bool} {Fl D:List Nat} {l:Array Bool} {td:List Nat} (h:Rch listed Fl D l td):(∀ j,j∈Fl→j∈D∨j∈td)∧(∀ j,j∈D→j∈Fl)∧∀ j:Nat,l[j]? =if j∈D∧j<listed.size then some true else listed[j]?:=by
 induction h with
 | start=>exact ⟨fun j hj=>.inr hj,fun j hj=>(by simp at hj),fun j=>by simp⟩
 | @exec D l td f h hf ih=>
  obtain ⟨h1,h2,h3⟩:=ih
  refine ⟨fun j hj=>?_,fun j hj=>?_,fun j=>?_⟩
  ·rcases h1 j hj with e | e
   ·exact .inl (List.mem_cons_of_mem _ e)
   ·by_cases e2:j=f
    ·exact .inl (by rw [e2];exact List.mem_cons_self ..)
    ·exact .inr ((List.mem_erase_of_ne e2).2 e)
  ·rcases List.mem_cons.1 hj with rfl | e
   ·exact h.sub _ hf
   ·exact h2 j e
  ·have hsz:l.size=listed.size:=by
    have:=h3 l.size
    have h4:=h3 listed.size
    rw [Array.getElem?_eq_none (Nat.le_refl _)] at this
    rw [if_neg (by omega),Array.getElem?_eq_none (Nat.le_refl _)] at h4
    have a1:listed.size≥l.size:=by simpa using h4
    by_cases h5:l.size<listed.size
    ·split at this
     ·cases this
     ·rw [Array.getElem?_eq_getElem h5] at this;cases this
    ·omega
   by_cases e:f=j
   ·subst e
    rw [Array.getElem?_setIfInBounds_self,hsz]
    by_cases h6:f<listed.size
    ·rw [if_pos h6,if_pos ⟨List.mem_cons_self ..,h6⟩]
    ·rw [if_neg h6,if_neg (fun h=>h6 h.2),Array.getElem?_eq_none (by omega)]
   ·rw [Array.getElem?_setIfInBounds_ne e,h3 j]
    have:(j∈f :: D)↔j∈D:=by
     rw [List.mem_cons];exact ⟨fun h=>h.resolve_left (fun h=>e h.symm),.inr⟩
    simp only [this]
theorem uK:∀ (Fl:List Nat) (listed:Array Bool) (j:Nat),(Fl.foldl (fun l i=>l.setIfInBounds i true) listed)[j]? =if j∈Fl∧j<listed.size then some true else listed[j]?
 | [],listed,j=>by simp
 | f :: Fl,listed,j=>by
  rw [List.foldl_cons,uK Fl,Array.size_setIfInBounds]
  by_cases h1:j∈Fl∧j<listed.size
  ·rw [if_pos h1,if_pos ⟨List.mem_cons_of_mem _ h1.1,h1.2⟩]
  ·rw [if_neg h1]
   by_cases e:f=j
   ·subst e
    rw [Array.getElem?_setIfInBounds_self]
    by_cases h6:f<listed.size
    ·rw [if_pos h6,if_pos ⟨List.mem_cons_self ..,h6⟩]
    ·rw [if_neg h6,if_neg (fun h=>h6 h.2),Array.getElem?_eq_none (by omega)]
   ·rw [Array.getElem?_setIfInBounds_ne e,if_neg (fun h=>h1 ⟨(List.mem_cons.1 h.1).resolve_left (fun h=>e h.symm),h.2⟩)]
def ndB:List Nat→Bool
 | []=>true
 | x :: l=>!l.contains x && ndB l
theorem ndB.nd:∀ {l:List Nat},ndB l=true→l.Nodup
 | [],_=>List.nodup_nil
 | x :: l,h=>by
  unfold ndB at h
  simp only [Bool.and_eq_true,Bool.not_eq_true',List.contains_eq_mem,decide_eq_false_iff_not] at h
  exact List.nodup_cons.2 ⟨h.1,ndB.nd h.2⟩
theorem pF {α β:Type} {f:α→β}:∀ {l:List α},(l.map f).Nodup→∀ {x y:α},x∈l→y∈l→f x=f y→x=y
 | [],_,_,_,hx,_,_=>by cases hx
 | a :: l,h,x,y,hx,hy,e=>by
  rw [List.map_cons,List.nodup_cons] at h
  rcases List.mem_cons.1 hx with ex | hx
  ·rcases List.mem_cons.1 hy with ey | hy
   ·rw [ex,ey]
   ·exact absurd (by rw [← ex,e];exact List.mem_map_of_mem hy) h.1
  ·rcases List.mem_cons.1 hy with ey | hy
   ·exact absurd (by rw [← ey,← e];exact List.mem_map_of_mem hx) h.1
   ·exact pF h.2 hx hy e
theorem uL (hi:(fs.map (·.i)).Nodup) (hd:(fs.map (·.d)).Nodup) {f:Flt} (hf:f∈fs):∀ D:List Nat,(∀ j∈D,j∈fs.map (·.i))→f.i∈D→aX (flT fs D) f.d=some f.s
 | [],_,h=>by simp at h
 | j :: D,hD,h=>by
  obtain ⟨f2,hf2,e2,e3⟩:=uI (D:=D) (hD j (List.mem_cons_self ..))
  rw [e3]
  simp only [aX]
  cases hb:Nat.beq f2.d f.d with
  | true=>rw [pF hd hf2 hf (Nat.eq_of_beq_eq_true hb)]
  | false=>
   refine uL hi hd hf D (fun x hx=>hD x (List.mem_cons_of_mem _ hx)) ?_
   rcases List.mem_cons.1 h with h | h
   ·have:=pF hi hf hf2 (by rw [h,e2])
    subst this
    rw [Nat.beq_refl] at hb;cases hb
   ·exact h
theorem uM:∀ {l:List Flt} {e:Nat} {s:Sd},aX (l.map (fun f=>(f.d,f.s))) e=some s→∃ f∈l,f.d=e∧f.s=s
 | [],_,_,h=>by cases h
 | f :: l,e,s,h=>by
  simp only [List.map_cons,aX] at h
  cases hb:Nat.beq f.d e with
  | true=>rw [hb] at h;exact ⟨f,List.mem_cons_self ..,Nat.eq_of_beq_eq_true hb,Option.some.inj h⟩
  | false=>
   rw [hb] at h
   obtain ⟨f2,h1,h2⟩:=uM h
   exact ⟨f2,List.mem_cons_of_mem _ h1,h2⟩
theorem cw {t':List (Nat×Sd)} {l':Array Bool} (hr:flOK ops none (fs.map (·.i)).length listed (fs.map (·.i))=true) (hv:FlV P ops g n t bx tk fs) (hl:(fs.map (·.i)).foldl (fun l i=>l.setIfInBounds i true) listed=l') (ht:t++fs.map (fun f=>(f.d,f.s))=t') (hnd:ndB (fs.map (·.i))=true) (hdd:ndB (fs.map (·.d))=true)
  (h:HA P ops Q g n ⟨t',bx,tk⟩ fuel l'):HAF P ops Q g n t bx tk fuel listed fs:=by
 refine ⟨?_⟩
 intro D l td
 induction hn:td.length generalizing D l td with
 | zero=>
  intro hR
  obtain rfl:td=[]:=List.eq_nil_of_length_eq_zero hn
  obtain ⟨m1,m2,m3⟩:=hR.mem
  have hD:∀ j,j∈D↔j∈fs.map (·.i):=fun j=>⟨m2 j,fun h=>(m1 j h).resolve_right (by simp)⟩
  have hll:l=l':=by
   refine Array.ext_getElem? fun j=>?_
   rw [m3 j,← hl,uK]
   simp only [hD]
  subst hll
  refine ⟨j0 (σ':=⟨t',bx,tk⟩) ⟨fun e s' hs=>⟨s',?_,.refl _⟩,SubM.refl _ _⟩ (by simpa using h.h)⟩
  rw [← ht,oM] at hs
  rw [oM]
  cases hq:aX t e with
  | some s=>rw [hq] at hs;exact hs
  | none=>
   rw [hq] at hs
   obtain ⟨f,hf,rfl,rfl⟩:=uM hs
   exact uL (ndB.nd hnd) (ndB.nd hdd) hf D m2 ((hD _).2 (List.mem_map_of_mem hf))
 | succ m ih=>
  intro hR
  have hc:=flOK.chk (hR.ok hr)
  unfold qk at hc
  simp only [Bool.and_eq_true,Bool.not_eq_true',List.isEmpty_eq_false_iff,List.all_eq_true,Bool.or_eq_true] at hc
  have hc2:=hc.resolve_left (fun e=>by
   rw [List.isEmpty_iff] at e
   rw [e] at hn;cases hn)
  refine cv (is:=Region.ready .any ops l) rfl hc2.1 fun j hj=>?_
  have hj':j∈td:=by simpa using hc2.2 j hj
  refine uJ hv hR hj' ?_
  have hl2:(td.erase j).length=m:=by rw [List.length_erase_of_mem hj'];omega
  exact ih (j :: D) _ _ hl2 (hR.exec hj')
theorem nX (i:Nat) {d:Nat} {s:Sd} {op:Op} (hr:flFree ops i (fs.map (·.i)).length listed (fs.map (·.i))=true) (ho:ops[i]? =some ⟨some d,op,ty,ps,af,gd⟩) (hv:∀ tl,Val P g n ⟨t++tl,bx,tk⟩ ⟨some d,op,ty,ps,af,gd⟩ s) (hw:∀ tl,aD ops (t++tl) gd=some true) (hd:Nat.blt d n=true) (hs:Region.noSelect ops=true)
  (hq:∀ c (a:Act) w v,Q (.panic c) (a.put (some d) v) w→Q (.panic c) a w) (h:HAF P ops Q g n ((d,s) :: t) bx tk fuel (listed.setIfInBounds i true) fs):HAF P ops Q g n t bx tk (fuel+1) listed fs:=by
 refine ⟨fun D l td hR=>?_⟩
 obtain ⟨h1,h2⟩:=flFree.chk (hR.free hr)
 have:=h.h D _ _ (hR.mark i)
 rw [show fuel+1+td.length=fuel+td.length+1 by omega]
 exact xk i ho (hv _) (hw _) hd hs h1 h2 hq this
theorem fg {D:List Nat} {l:Array Bool} {td:List Nat} {x:Nat×Sd} {bx':List Bx} {tk':List Tk} (hR:Rch listed (fs.map (·.i)) D l td) (h:HAF P ops Q g n (x :: t) bx' tk' fuel listed fs):HA P ops Q g n ⟨x :: (t++flT fs D),bx',tk'⟩ (fuel+td.length) l:=h.h D l td hR
theorem ek {D:List Nat} {l:Array Bool} {td:List Nat} {bx':List Bx} {tk':List Tk} (hR:Rch listed (fs.map (·.i)) D l td) (h:HAF P ops Q g n t bx' tk' fuel listed fs):HA P ops Q g n ⟨t++flT fs D,bx',tk'⟩ (fuel+td.length) l:=h.h D l td hR
end
section
variable {P:Program} {Q:Exit→Act→World→Prop} {ops:Array Oper} {g:Gh} {n:Nat} {σ:St} {t:List (Nat×Sd)} {bx:List Bx} {tk:List Tk} {rest:List Oper} {ty:TypeId} {ps:String} {af:Array Edge} {gd:Option (Nat×Bool)} {fuel:Nat} {listed:Array Bool} {d:Nat} {s:Sd} {op:Op}
theorem vp_ (hv:Val P g n ⟨t,bx,tk⟩ ⟨some d,op,ty,ps,af,gd⟩ s) (h:HL P ops Q g n ⟨(d,s) :: t,bx,tk⟩ rest) (h2:aD ops t gd=some true:=by rfl) (h3:Nat.blt d n=true:=by rfl):HL P ops Q g n ⟨t,bx,tk⟩ (⟨some d,op,ty,ps,af,gd⟩:: rest):=xi hv h2 h3 h
theorem v_ (hv:iw P g n ⟨t,bx,tk⟩ ⟨some d,op,ty,ps,af,gd⟩ s) (h:HL P ops Q g n ⟨(d,s) :: t,bx,tk⟩ rest) (h2:aD ops t gd=some true:=by rfl) (h3:Nat.blt d n=true:=by rfl):HL P ops Q g n ⟨t,bx,tk⟩ (⟨some d,op,ty,ps,af,gd⟩:: rest):=FI hv h2 h3 h
theorem wv_ (hv:iw P g n ⟨t,bx,tk⟩ ⟨some d,op,ty,ps,af,gd⟩ s) (h:HA P ops Q g n ⟨(d,s) :: t,bx,tk⟩ fuel listed) (h2:aD ops t gd=some true:=by rfl) (h3:Nat.blt d n=true:=by rfl):HW P ops Q g n ⟨t,bx,tk⟩ fuel listed ⟨some d,op,ty,ps,af,gd⟩:=DP hv h2 h3 h
theorem mv_ {x:Operand} (h:HL P ops Q g n ⟨(d,s) :: t,bx,tk⟩ rest) (h1:ev t x=some s:=by rfl) (h2:aD ops t gd=some true:=by rfl) (h3:Nat.blt d n=true:=by rfl):HL P ops Q g n ⟨t,bx,tk⟩ (⟨some d,.move x,ty,ps,af,gd⟩:: rest):=xi (tq (σ:=⟨t,bx,tk⟩) h1) h2 h3 h
theorem as_ {x:Operand} (h:HL P ops Q g n ⟨(d,s) :: t,bx,tk⟩ rest) (h1:ev t x=some s:=by rfl) (h2:aD ops t gd=some true:=by rfl) (h3:Nat.blt d n=true:=by rfl):HL P ops Q g n ⟨t,bx,tk⟩ (⟨some d,.assign x,ty,ps,af,gd⟩:: rest):=xi (iF (σ:=⟨t,bx,tk⟩) h1) h2 h3 h
theorem pl_ (i:Nat) (ho:ops[i]? =some ⟨some d,op,ty,ps,af,gd⟩) (hv:Val P g n ⟨t,bx,tk⟩ ⟨some d,op,ty,ps,af,gd⟩ s) (h:HA P ops Q g n ⟨(d,s) :: t,bx,tk⟩ fuel (listed.setIfInBounds i true)) (hw:aD ops t gd=some true:=by rfl) (hd:Nat.blt d n=true:=by rfl) (hs:Region.noSelect ops=true:=by kernel_rfl)
  (hf:Region.free .any ops listed i=true:=by kernel_rfl) (hr:(Region.ready .any ops listed).contains i=true:=by kernel_rfl) (hq:∀ c (a:Act) w v,Q (.panic c) (a.put (some d) v) w→Q (.panic c) a w:=by exact fun _ _ _ _ h=>h):HA P ops Q g n ⟨t,bx,tk⟩ (fuel+1) listed:=xk i ho hv hw hd hs hf hr hq h
theorem lk_ {p:Prop} (h:p:=by repeat (first | exact .nil _ | refine .cons rfl (.refl _) ?_)):p:=h
end
end Go.Proofs.YtnbceeholnkfeaaGreatDoor
namespace Go.Proofs
open Go.Shelf Go.RowKit
def Tryz.laysM185_ren:Go.Shelf.Ren:=⟨fun | 185=>145 | 187=>147 | 115=>148 | 253=>149 | 224=>150 | 254=>151 | 255=>152 | 291=>153 | n=>n,fun | 37=>22 | 3=>3 | 4=>4 | 0=>0 | 5=>5 | 46=>151 | 9=>9 | 146=>179 | 51=>169 | n=>n,fun | 1=>0 | n=>n⟩
theorem Tryz.laysM185:Go.Proofs.LaysM.n185 Tryz.prog Tryz.laysM185_ren:={
 mixed:=by kernel_rfl
 f115:=Tryz.func148.trans (congrArg some (by kernel_rfl))
 f185:=Tryz.func145.trans (congrArg some (by kernel_rfl))
 f187:=Tryz.func147.trans (congrArg some (by kernel_rfl))
 f224:=Tryz.func150.trans (congrArg some (by kernel_rfl))
 f253:=Tryz.func149.trans (congrArg some (by kernel_rfl))
 f254:=Tryz.func151.trans (congrArg some (by kernel_rfl))
 f255:=Tryz.func152.trans (congrArg some (by kernel_rfl))
 f291:=Tryz.func153.trans (congrArg some (by kernel_rfl))
 t0:=Tryz.underlying0
 a0:=Tryz.isAgg0
 z0:=Tryz.sizeOf0
 v0:=Tryz.zeroValue0
 t3:=Tryz.underlying3
 a3:=Tryz.isAgg3
 z3:=Tryz.sizeOf3
 v3:=Tryz.zeroValue3
 t4:=Tryz.underlying4
 a4:=Tryz.isAgg4
 z4:=Tryz.sizeOf4
 v4:=Tryz.zeroValue4
 t5:=Tryz.underlying5
 a5:=Tryz.isAgg5
 z5:=Tryz.sizeOf5
 v5:=Tryz.zeroValue5
 t9:=Tryz.underlying9
 a9:=Tryz.isAgg9
 z9:=Tryz.sizeOf9
 v9:=Tryz.zeroValue9
 t37:=Tryz.underlying22
 a37:=Tryz.isAgg22
 z37:=Tryz.sizeOf22
 v37:=Tryz.zeroValue22
 t46:=Tryz.underlying151
 a46:=Tryz.isAgg151
 z46:=Tryz.sizeOf151
 v46:=Tryz.zeroValue151
 t51:=Tryz.underlying169
 a51:=Tryz.isAgg169
 z51:=Tryz.sizeOf169
 v51:=Tryz.zeroValue169
 t146:=Tryz.underlying179
 a146:=Tryz.isAgg179
 z146:=Tryz.sizeOf179
 v146:=Tryz.zeroValue179
 g1:=by kernel_rfl
 i0:=by kernel_rfl
 i3:=by kernel_rfl
 i4:=by kernel_rfl
 i5:=by kernel_rfl
 i9:=by kernel_rfl
 i37:=by kernel_rfl
 i46:=by kernel_rfl
 i51:=by kernel_rfl
 i146:=by kernel_rfl
 m1:=by kernel_rfl
 s1_3:=fun w h=>Go.Proofs.cell_of_shapedOpen_int (zero:=#[.int .i64 0]) (t:=3) h (of_decide_eq_true (by kernel_rfl)) (by kernel_rfl) rfl (by kernel_rfl) (by kernel_rfl) Tryz.underlying3 }
theorem Tryz.bytes_Index_at (a1 a2:Addr) (n c1 k c2:Nat) (xs ys:List Int) (m:Int) (w:World) (hx:xs.length=n) (hy:ys.length=k) (hr1:∀ x∈xs,0≤x∧x<256) (hr2:∀ y∈ys,0≤y∧y<256)
  (hc1:∀ i,i<n→w.cell? (a1.add i)=some (.int .u8 (xs.getD i 0))) (hc2:∀ i,i<k→w.cell? (a2.add i)=some (.int .u8 (ys.getD i 0))) (hcap:n≤c1) (hs:n<4294967281) (hk:k≤9223372036854775807) (hm:w.cell? ⟨0,0,none⟩=some (.int .i64 m)):
  Calls Tryz.prog 145 #[.slice (some a1) n c1,.slice (some a2) k c2] w fun e w'=>e= .returned (.int .i64 (Lib.index (Lib.bytesOf xs) (Lib.bytesOf ys)))∧∃ q,w'=w.drewN q:=Any.bytes_Index_at { Tryz.laysM185 with } a1 a2 n c1 k c2 xs ys m w hx hy hr1 hr2 hc1 hc2 hcap hs hk hm
theorem Tryz.bytes_Index_longer (p q:Option Addr) (n c m d:Nat) (w:World) (h2:2≤m) (hnm:n<m) (hm:m≤9223372036854775807):
  Calls Tryz.prog 145 #[.slice p n c,.slice q m d] w fun e w'=>e= .returned (.int .i64 (-1))∧w'=w:=Any.bytes_Index_longer { Tryz.laysM185 with } p q n c m d w h2 hnm hm
namespace YtnbceeholnkfeaaGreatDoor
open Go.RowKit
theorem yK (W:World) (h:W.ShapedOpen Tryz.prog):∀ b∈glb,∃ m:Int,W.cell? ⟨b,0,none⟩=some (.int .i64 m):=fun b hb=>by
 obtain rfl:=List.mem_singleton.1 hb
 exact Tryz.laysM185.s1_3 W h
theorem pN (l:List UInt8):Lib.bytesOf (l.map fun c=>(c.toNat:Int))=l:=by
 unfold Lib.bytesOf
 rw [List.map_map]
 conv=>rhs;rw [← List.map_id l]
 apply List.map_congr_left
 intro c _
 simp
theorem yL (l:List UInt8) (i:Nat) (h:i<l.length):(l.map fun c=>(c.toNat:Int)).getD i 0=((l[i]).toNat:Int):=by
 rw [List.getD_eq_getElem?_getD,List.getElem?_map,List.getElem?_eq_getElem h];rfl
theorem v8 {l sep:List UInt8} (h:l.length<sep.length):Lib.index l sep= -1:=by
 rcases Lib.index_spec l sep with h1 | ⟨i,h1,_,h3,_⟩
 ·exact h1.1
 ·rcases Lib.occAt_room h3 with h4 | h4
  ·omega
  ·rw [h4] at h;simp at h
def ph (l sep:List UInt8) (r:Int):Prop:=(l.length≤1000000000∧(2≤sep.length∧sep.length≤1000000000))∧r=Lib.index l sep
theorem wa (w:World) (q:Nat):(w.drewN q).os=w.os∧(w.drewN q).tape=w.tape∧(w.drewN q).output=w.output∧(w.drewN q).heap=w.heap:=⟨rfl,rfl,rfl,rfl⟩
theorem se (l sep:List UInt8) (r:Int) (h:ph l sep r):Con Tryz.prog 145 [.sl 1 none (List.map eb l),.sl 1 none (List.map eb sep)] [] [] (Ret (.v (.int .i64 r))):=by
 obtain ⟨⟨h1,h2,h3⟩,rfl⟩:=h
 rintro Rd w vals hgl hm ⟨u0,_,rfl,hs,u1,_,rfl,ht,rfl⟩
 obtain ⟨A,c,rfl,⟨hc1,hc2⟩,_,_,hrr⟩:=hs
 obtain ⟨B,d,rfl,⟨hd1,hd2⟩,_,_,htt⟩:=ht
 rw [List.length_map] at hc1 hd1 ⊢
 rw [List.length_map]
 have fin:∀ e w',e=Ending.returned (Value.int .i64 (Lib.index l sep))∧(∃ q,w'=w.drewN q)→RP [] [] Rd w (Ret (.v (.int .i64 (Lib.index l sep)))) e w':=by
  rintro e w' ⟨rfl,q,rfl⟩
  obtain ⟨e1,e2,e3,e4⟩:=wa w q
  refine ⟨_,_,[],[],Rd,rfl,⟨rfl,rfl,rfl⟩,⟨fun b o h=>by rw [e4];exact hm.lt b o h,by simp,by simp,by simp⟩,rfl,⟨e1,e2,e3,by rw [e4];exact Nat.le_refl _,fun k hk _=>by rw [e4],fun b o h=>⟨h,?_⟩,fun _ _ h=>.inl h⟩,fun b hb=>by simp [dom] at hb⟩
  simp only [World.cell?,e4]
 have hat:∀ (l:List UInt8) (bk o:Nat),RepR Rd w bk o 1 (List.map eb l)→∀ i,i<(l.map fun c=>(c.toNat:Int)).length→w.cell? ((⟨bk,o,none⟩:Addr).add i)=some (.int .u8 ((l.map fun c=>(c.toNat:Int)).getD i 0)):=fun l bk o hR i hi=>by
  rw [List.length_map] at hi
  rw [yL l i hi]
  have h3:(List.map eb l)[i]? =some (eb l[i]):=by rw [List.getElem?_map,List.getElem?_eq_getElem hi];rfl
  obtain ⟨_,h4,⟨v,h5,_,h6⟩,_⟩:=hR.at_ h3
  have h6:v=_:=h6
  subst h6
  rw [Nat.mul_one] at h5
  rw [eX]
  exact h5
 have hrng:∀ l:List UInt8,∀ x∈l.map (fun c=>(c.toNat:Int)),0≤x∧x<256:=fun l x hx=>by
  obtain ⟨c,_,rfl⟩:=List.mem_map.1 hx
  have:=c.toNat_lt
  omega
 by_cases hlt:l.length<sep.length
 ·refine (Tryz.bytes_Index_longer A B l.length c sep.length d w h2 hlt (by omega)).mono fun e w' ⟨he,hw⟩=>fin e w' ⟨?_,0,?_⟩
  ·rw [he,v8 hlt]
  ·rw [hw];rfl
 ·have hne:∀ l:List UInt8,2≤l.length→List.map eb l≠[]:=fun l hl e=>by
   rw [List.map_eq_nil_iff.1 e] at hl;simp at hl
  obtain ⟨bk,o,rfl,hR⟩:=hrr.resolve_left (hne l (by omega))
  obtain ⟨bk2,o2,rfl,hR2⟩:=htt.resolve_left (hne sep h2)
  obtain ⟨_,m,hmm⟩:=hgl.1 0 (by simp [glb])
  have:=Tryz.bytes_Index_at ⟨bk,o,none⟩ ⟨bk2,o2,none⟩ l.length c sep.length d (l.map fun c=>(c.toNat:Int)) (sep.map fun c=>(c.toNat:Int)) m w (List.length_map _) (List.length_map _) (hrng l) (hrng sep) (fun i hi=>hat l bk o hR i (by rwa [List.length_map])) (fun i hi=>hat sep bk2 o2 hR2 i (by rwa [List.length_map])) hc1 (by omega) (by omega) hmm
  rw [pN,pN] at this
  exact this.mono fin
end YtnbceeholnkfeaaGreatDoor
end Go.Proofs
