/- palinodelaw10.RetextNone returns true at every input, and every argument reads afterwards as it read before; no condition. -/
import Derived.Test.YtnbceeholnkfeaaGreatDoorNnL
import Derived.Test.YtnbceeholnkfeaaGreatDoorArg2
import Derived.Test.YtnbceeholnkfeaaGreatDoorChecked
import Derived.Test.YtnbceeholnkfeaaGreatDoorRows
import Derived.WalkKit
import Derived.ProofKit
import Derived.OpenShut
import Derived.ShutString
import Derived.ChangeOld
import Derived.Below
import Derived.LaidMore
import Derived.Lib.LaidTab
import Derived.Stop.Joined
import Derived.SevenTiedAt
import Derived.Test.YtnbceeholnkfeaaGreatDoorTie
import Derived.Test.YtnbceeholnkfeaaGreatDoorCards
import Derived.HandedShaped
namespace Go.Proofs.YtnbceeholnkfeaaGreatDoor.retextNone
open Go.ChangeShapes Go.WideShapes Go.ChangeAt Go.RowKit
open Go.ChangeMaps (open_string shut_string)
def lj:List (String×DataW Unit):=[("math/bits.deBruijn32tab",Rows.laid_math_bits_deBruijn32tab),("math/bits.deBruijn64tab",Rows.laid_math_bits_deBruijn64tab),("internal/strconv.uint64pow10",Rows.laid_internal_strconv_uint64pow10)]
set_option maxRecDepth 100000 in
theorem ro (os:Os) (args:Array Value):laidMetH Tryz.prog lj ((World.doorLaid Tryz.prog 400 os).forCall (fun _ _=>0) ⟨#[],args,[]⟩).memory:=
 laidMetH_of_parts3 (fuel:=8) (laidMet_of_run' 8 (by kernel_rfl) (by kernel_rfl)) (by kernel_rfl) (by kernel_rfl)
theorem u7 {W:World} (h:laidMetH Tryz.prog lj W):∀ x∈glt,x.1<W.heap.size∧∀ i,i≤x.2.length→W.cell? ⟨x.1,i,none⟩=x.2[i]?:=by
 rw [MakeChecks.laidMetH_plain _ _ _ (by kernel_rfl)] at h
 obtain ⟨ps,⟨g0,t0,cs0,f0,p0,q0,hg0,ht0,hv0,hd0,⟨g1,t1,cs1,f1,p1,q1,hg1,ht1,hv1,hd1,⟨g2,t2,cs2,f2,p2,q2,hg2,ht2,hv2,hd2,_,_⟩,_⟩,_⟩,_,_⟩:=h
 have hg:Tryz.prog.globalNamed "internal/strconv.uint64pow10" =some 1:=by kernel_rfl
 have hty:(Tryz.prog.globals[1]?).map (·.type)=some 168:=by kernel_rfl
 obtain rfl:=Option.some.inj (hg.symm.trans hg2)
 obtain rfl:=Option.some.inj (hty.symm.trans ht2)
 have hc:cs2.toList=Lib.pow10Tab.map fun z=>Value.int .u64 z:=Lib.cells_of_tab (k:=.u64) (zs:=Lib.pow10Tab) (e:=39) (n:=20) Tryz.underlying168 Tryz.underlying39 (by kernel_rfl) (by kernel_rfl) hd2
 unfold World.var? at hv2
 rw [hg2] at hv2
 simp only [Option.bind_some] at hv2
 intro x hx
 obtain rfl:=List.mem_singleton.1 ((show glt=[(1,Lib.pow10Tab.map fun z=>Value.int .u64 z)] by kernel_rfl)▸hx)
 cases ho:W.heap[1]? with
 | none=>rw [ho] at hv2;cases hv2
 | some ob=>
  rw [ho] at hv2
  cases ob with
  | cells cs T fr=>
   obtain rfl:cs=cs2:=Option.some.inj hv2
   refine ⟨(Array.getElem?_eq_some_iff.1 ho).1,fun i _=>?_⟩
   simp only [World.cell?,ho,← hc,Array.getElem?_toList];rfl
  | _=>cases hv2
theorem own:ownKnob Tryz.prog.godebug=none:=by kernel_rfl
theorem om:laidOutB Tryz.prog=true:=by kernel_rfl
set_option maxRecDepth 100000 in
theorem nj:sg Tryz.prog (List UInt8) 22:=sh Tryz.underlying22 (by kernel_rfl) (by decide) (uZ Tryz.underlying5)
set_option maxRecDepth 100000 in
theorem u9 (os:Os) (started:os.Started) (H:Type) (enc:TypeId×Value→H):
  ReturnsInHanded {} Tryz.checked os 6 .any (fun w args=>(Rows.retextNoneSpec.pre enc Tryz.prog Tryz.f6 [] false w args∧laidMetH Tryz.prog lj w)∧sizedMet enc Tryz.prog Tryz.f6 (OpenSpec.ofChange Rows.retextNoneSpec) false w args) (Rows.retextNoneSpec.post enc Tryz.prog Tryz.f6 false true false false):=by
 have main:∀ (W:World) (base:Nat) (args:Array Value) (ds gs:List (DataW H)) (before:List MemPlace),(∀ (j:Nat) t v,Tryz.f6.params[j]? =some t→args[j]? =some v→Value.okWide Tryz.prog W .any base t v)→DataW.Whole enc Tryz.prog Tryz.f6.params.toList Rows.retextNoneSpec.vars false W args.toList ds gs before→laidMetH Tryz.prog lj W→W.ShapedOpen Tryz.prog→
   Calls Tryz.prog 6 args W fun e W'=>∃ v,e= .returned v∧Rows.retextNoneSpec.post enc Tryz.prog Tryz.f6 false true false false W args v W':=by
  intro W base args ds gs before hval0 hW hL hsh
  have hval:∀ (j:Nat) t v,Tryz.f6.params[j]? =some t→args[j]? =some v→Value.okWide Tryz.prog W .any base t v:=hval0
  have hW':=hW
  obtain ⟨p,q,hA0,hV,rfl,hfz,hnd⟩:=hW
  have hA:DataW.TrodAll enc Tryz.prog W 0 (fun _=>true) true Tryz.f6.params.toList args.toList ds p:=hA0
  rw [Tryz.params6] at hA hval
  obtain ⟨v0,vs0,d0,ds0,p0,q0,hargs,rfl,rfl,h0,r0⟩:=trodAll_cons hA
  obtain ⟨v1,vs1,d1,ds1,p1,q1,rfl,rfl,rfl,h1,r1⟩:=trodAll_cons r0
  obtain ⟨rfl,rfl,rfl⟩:=trodAll_nil r1
  obtain rfl:args= #[v0,v1]:=by cases args;simp_all
  obtain ⟨rfl,rfl⟩:=trodVars_none hV
  have k0:=h0
  have lt0:∀ x∈p0,x.block<W.heap.size:=by obtain ⟨m,hm⟩:=k0;exact DataW.trod_lt m _ _ _ hm
  obtain ⟨a0,len0,cap0,rfl⟩:=okWide_slice Tryz.underlying22 (hval 0 22 v0 rfl rfl)
  obtain ⟨y0,s0,w0⟩:∃ y,RepS (Rd0 W) W (.sl _ none (List.map bV.enc y)) (.slice a0 len0 cap0)∧bV.wf y:=by
   obtain ⟨m,hm⟩:=k0
   obtain ⟨y,hy⟩:=nj.out _ _ _ hm
   exact ⟨y,sG (bV.ok hy).1 rfl,(bV.ok hy).2⟩
  have k1:=h1
  have lt1:∀ x∈p1,x.block<W.heap.size:=by obtain ⟨m,hm⟩:=k1;exact DataW.trod_lt m _ _ _ hm
  obtain ⟨a1,len1,cap1,rfl⟩:=okWide_slice Tryz.underlying22 (hval 1 22 v1 rfl rfl)
  obtain ⟨y1,s1,w1⟩:∃ y,RepS (Rd0 W) W (.sl _ none (List.map bV.enc y)) (.slice a1 len1 cap1)∧bV.wf y:=by
   obtain ⟨m,hm⟩:=k1
   obtain ⟨y,hy⟩:=nj.out _ _ _ hm
   exact ⟨y,sG (bV.ok hy).1 rfl,(bV.ok hy).2⟩
  clear hA0 hval0
  refine (tw ((EV (r:=true) (s8 y0 y1)).c) ⟨_,_,rfl,s0,⟨_,_,rfl,s1,rfl⟩⟩ (yK W hsh) (u7 hL)).mono fun e W' ⟨he,bel⟩=>?_
  subst he
  exact ⟨_,rfl,_,_,_,[],_,[],hW',trodAll_mk1 (shut_bool Tryz.underlying4 _),(trodAll_cons_mk (Below.trod om (by kernel_rfl) (of_decide_eq_true (by kernel_rfl)) k0 bel lt0) (trodAll_cons_mk (Below.trod om (by kernel_rfl) (of_decide_eq_true (by kernel_rfl)) k1 bel lt1) (trodAll_mk0))),rfl,bel.frame _,fun h=>by cases h⟩
 refine returnsInHanded_of_calls own started (by kernel_rfl)
  (ChangeSpec.witness_shaped (enc:=enc) (C:=Tryz.checked) (os:=os) (X:=fun w _=>laidMetH Tryz.prog lj w) false (World.doorLaid Tryz.prog 400 os) #[.slice none 0 0,.slice none 0 0] 8 rfl (World.shaped_of_RefB (by kernel_rfl) (by kernel_rfl)) (by kernel_rfl) (by kernel_rfl) (by kernel_rfl) (ro os _)) ?_
 intro w tape i _ hsh _ hok hpre _
 obtain ⟨_,_,_,fn',hfn',_,_,_,_,hval⟩:=hok
 obtain rfl:fn'=Tryz.f6:=Option.some.inj (hfn'.symm.trans Tryz.func6)
 obtain ⟨⟨⟨ds,gs,before,hw,_⟩,hL⟩,_⟩:=hpre
 refine (main (w.forCall tape i) w.heap.size i.args ds gs before hval (DataW.Whole.of_heap (by rfl) hw) (hL.of_heap (by rfl)) hsh).mono fun e W' ⟨v,he,hp⟩=>?_
 subst he
 exact ChangeSpec.post_blind hp
theorem pQ:Rows.RetextNoneSaid:=
 OpenClaim.holds_of_wide 6 Tryz.f6 rfl rfl rfl rfl rfl rfl rfl ⟨rfl,rfl,rfl,rfl,rfl⟩ rfl rfl rfl rfl rfl (by kernel_rfl) Tryz.func6 (by kernel_rfl)
  (of_decide_eq_true (by kernel_rfl)) (by unfold Func.isWrapper;first | (rw [if_pos (by decide+kernel)];kernel_rfl) | (rw [if_neg (by decide+kernel)];exact ⟨rfl,rfl⟩))
  (fun os started H enc _=>u9 os started H enc)
set_option maxRecDepth 100000 in
theorem proved:Rows.RetextNoneCardSaid:=
 Claim7.holds_tied_plain_at .later [] [.data,.data,.data] true (true,"34bf59c361b0e3fd4533a3883f32a66d074bf48402eafc414f1c8da8cf51a716") false
  pQ (fun _ h=>by cases h) (by kernel_rfl) (fun _ h=>by cases h) retextNone_row_tie rfl ⟨rfl,rfl⟩ (by kernel_rfl) rfl
  (fun f fn hf hfn=>by
   obtain rfl:f=6:=Option.some.inj ((show Tryz.prog.funcNamed "palinode/palinodelaw10.RetextNone" =some 6 by kernel_rfl).symm.trans hf) |>.symm
   obtain rfl:fn=Tryz.f6:=(Option.some.inj (Tryz.func6.symm.trans hfn)).symm
   exact ⟨by kernel_rfl,fun j t ht=>by
    rw [Tryz.params6] at ht
    have hm:t∈[22,22]:=by simpa using Array.mem_of_getElem? ht
    have hall:([22,22].all fun u=>!Tryz.prog.wantsStandIn u)=true:=by kernel_rfl
    exact (show Tryz.prog.wantsStandIn t=false by simpa using List.all_eq_true.1 hall t hm)⟩)
  (by kernel_rfl)
end Go.Proofs.YtnbceeholnkfeaaGreatDoor.retextNone
