/- The bytes of a string, as a slice. -/
import Derived.Lib.ConvBytes
import Derived.Test.YtnbceeholnkfeaaGreatDoorFl
import Derived.Shelf.Strings.Builder1
import Derived.Shelf.Strings.OnBuilder
import Derived.Test.YtnbceeholnkfeaaGreatDoorRb
import Derived.Test.YtnbceeholnkfeaaGreatDoorProg
import Derived.Shelf.Strconv.Itoa3
import Derived.Lib.LaidTab
namespace Go.Proofs.YtnbceeholnkfeaaGreatDoor
open Go.RowKit
theorem rS {R:Nat→Nat→Prop} {w:World} {b:Nat}:∀ (l:List UInt8) (o:Nat),(∀ j,j<l.length→R b (o+j)∧w.cell? ⟨b,o+j,none⟩=some (.int .u8 ((l.getD j 0).toNat:Int)))→RepR R w b o 1 (l.map eb)
 | [],_,_=>trivial
 | c :: l,o,h=>by
  refine ⟨rfl,⟨(h 0 (by simp)).1,⟨_,(h 0 (by simp)).2,rfl,rfl⟩,trivial⟩,rS l (o+1) fun j hj=>?_⟩
  have:=h (j+1) (by simpa using hj)
  rw [show o+(j+1)=o+1+j by omega] at this
  exact this
section
variable {P:Program} {Q:Exit→Act→World→Prop} {ops:Array Oper} {g:Gh} {n:Nat} {σ:St} {K:Act→World→Prop} {t:List (Nat×Sd)} {bx:List Bx} {tk:List Tk} {rest:List Oper} {ty:TypeId} {ps:String} {af:Array Edge} {gd:Option (Nat×Bool)} {fuel:Nat} {listed:Array Bool}
theorem yq {d:Nat} {S T E:TypeId} {u:TypeDesc} {x:Operand} {s:ByteArray} (hs:s.size≤maxLen) (hS:P.underlying S=some u) (hT:P.underlying T=some (.slice E)) (hE:P.underlying E=some (.int .u8)) (hx:ev σ.t x=some (.v (.string s))) (hd:Nat.blt d n=true)
  (h:Hx g n ⟨(d,.sl 1 none (s.data.toList.map eb)) :: σ.t,σ.bx,σ.tk⟩ K):Hx g n σ (fun a w=>Oper.wp P ⟨some d,.convert S T x,ty,ps,af,gd⟩ a w K Q):=by
 rintro a w ⟨R,hr⟩
 have ex:a.eval x= .string s:=hr.ev hx
 have hrun:(execOp a.eval ⟨some d,.convert S T x,ty,ps,af,gd⟩).run P w= .ok (.value (.slice (some ⟨w.heap.size,0,none⟩) s.size (grownCap w s.size 0 E))) (Lib.bytesWorld w E s):=by
  simp only [execOp,ex,Sem.run_bind,Lib.run_convert_string_bytes w S T E s hS hT hE,Result.andThen_ok,Sem.run_pure]
 unfold Oper.wp
 rw [hrun]
 have hsz:=Lib.bytesWorld_size w E s
 have kp:Kp R w (fun b o=>R b o∨(b=w.heap.size∧o<s.size)) (Lib.bytesWorld w E s):=fun b o hb=>⟨.inl hb,Lib.bytesWorld_old w E s _ (hr.mem.lt b o hb)⟩
 have hsl:s.size=s.data.toList.length:=by rw [Array.length_toList];rfl
 have hrl:Rl (fun b o=>R b o∨(b=w.heap.size∧o<s.size)) g n ⟨σ.t,σ.bx,σ.tk⟩ a (Lib.bytesWorld w E s):=by
  refine hr.move (D:=fun _=>False) ⟨fun b o hb=>?_,fun x hx hne=>?_,fun t ht b c e=>?_,hr.mem.nod⟩
   ⟨rfl,rfl,rfl,by omega,fun k hk _=>Lib.bytesWorld_at_old w E s k hk,kp,fun b o hb=>hb.imp id fun hb=>.inl (by omega)⟩ (fun _ h=>h.elim) fun _ h=>.inl h
  ·rcases hb with hb | hb
   ·have:=hr.mem.lt b o hb;omega
   ·omega
  ·obtain ⟨⟨us,k1,k2,k3⟩,k4⟩:=hr.mem.box x hx hne
   have hlt:x.b<w.heap.size:=by
    rcases Nat.lt_or_ge x.b w.heap.size with h | h
    ·exact h
    ·rw [Array.getElem?_eq_none h] at k1;cases k1
   exact ⟨⟨us,(Lib.bytesWorld_at_old w E s x.b hlt).trans k1,k2.mono kp,k3⟩,fun o ho=>ho.elim (k4 o) fun q=>by omega⟩
  ·obtain ⟨⟨us,k1,k2⟩,k3,k4⟩:=hr.mem.own t ht b c e
   have hlt:b<w.heap.size:=by
    rcases Nat.lt_or_ge b w.heap.size with h | h
    ·exact h
    ·rw [Array.getElem?_eq_none h] at k1;cases k1
   exact ⟨⟨us,(Lib.bytesWorld_at_old w E s b hlt).trans k1,k2⟩,k3,fun o ho q=>q.elim (k4 o ho) fun q=>by omega⟩
 refine h _ _ ⟨_,hrl.put (by simpa [Nat.blt_eq] using hd) ⟨_,_,by rw [List.length_map,← hsl],⟨by rw [List.length_map,← hsl];exact grownCap_ge w s.size 0 E,grownCap_le_maxLen w s.size 0 E hs⟩,fun e=>(by cases e),fun _ _ e=>(by cases e),.inr ⟨_,_,rfl,rS _ 0 fun j hj=>?_⟩⟩⟩
 rw [← hsl] at hj
 exact ⟨.inr ⟨rfl,by omega⟩,by rw [Nat.zero_add];exact Lib.bytesWorld_cell w E s j hj⟩
theorem Cl {d:Nat} {S T E:TypeId} {u:TypeDesc} {x:Operand} {s:ByteArray} (hs:s.size≤maxLen) (hS:P.underlying S=some u) (hT:P.underlying T=some (.slice E)) (hE:P.underlying E=some (.int .u8)) (hx:ev t x=some (.v (.string s))) (hw:aD ops t gd=some true) (hd:Nat.blt d n=true)
  (h:HL P ops Q g n ⟨(d,.sl 1 none (s.data.toList.map eb)) :: t,bx,tk⟩ rest):HL P ops Q g n ⟨t,bx,tk⟩ (⟨some d,.convert S T x,ty,ps,af,gd⟩:: rest):=
 ⟨fF (σ:=⟨t,bx,tk⟩) hw (yq (σ:=⟨t,bx,tk⟩) hs hS hT hE hx hd h.h)⟩
end
end Go.Proofs.YtnbceeholnkfeaaGreatDoor
namespace Go.Proofs
open Go.Shelf Go.RowKit
def Tryz.lays156_ren:Go.Shelf.Ren:=⟨fun | 156=>63 | 165=>82 | 166=>83 | 169=>84 | 240=>101 | 241=>102 | 276=>119 | 277=>120 | n=>n,fun | 31=>50 | 9=>9 | 3=>3 | 4=>4 | 0=>0 | 20=>20 | 72=>120 | 76=>124 | 70=>118 | 37=>22 | 75=>123 | 127=>138 | 164=>152 | 5=>5 | 80=>126 | n=>n,fun | n=>n⟩
theorem Tryz.lays156:Go.Proofs.Lays.n156 Tryz.prog Tryz.lays156_ren:={
 mixed:=by kernel_rfl
 f156:=Tryz.func63.trans (congrArg some (by kernel_rfl))
 f165:=Tryz.func82.trans (congrArg some (by kernel_rfl))
 f166:=Tryz.func83.trans (congrArg some (by kernel_rfl))
 f169:=Tryz.func84.trans (congrArg some (by kernel_rfl))
 f240:=Tryz.func101.trans (congrArg some (by kernel_rfl))
 f241:=Tryz.func102.trans (congrArg some (by kernel_rfl))
 f276:=Tryz.func119.trans (congrArg some (by kernel_rfl))
 f277:=Tryz.func120.trans (congrArg some (by kernel_rfl))
 t0:=Tryz.underlying0
 a0:=Tryz.isAgg0
 z0:=Tryz.sizeOf0
 v0:=Tryz.zeroValue0
 t3:=Tryz.underlying3
 a3:=Tryz.isAgg3
 z3:=Tryz.sizeOf3
 v3:=Tryz.zeroValue3
 t4:=Tryz.underlying4
 a4:=Tryz.isAgg4
 z4:=Tryz.sizeOf4
 v4:=Tryz.zeroValue4
 t9:=Tryz.underlying9
 a9:=Tryz.isAgg9
 z9:=Tryz.sizeOf9
 v9:=Tryz.zeroValue9
 t20:=Tryz.underlying20
 a20:=Tryz.isAgg20
 z20:=Tryz.sizeOf20
 v20:=Tryz.zeroValue20
 t31:=Tryz.underlying50
 a31:=Tryz.isAgg50
 z31:=Tryz.sizeOf50
 v31:=Tryz.zeroValue50
 t37:=Tryz.underlying22
 a37:=Tryz.isAgg22
 z37:=Tryz.sizeOf22
 v37:=Tryz.zeroValue22
 t70:=Tryz.underlying118
 a70:=Tryz.isAgg118
 z70:=Tryz.sizeOf118
 v70:=Tryz.zeroValue118
 t72:=Tryz.underlying120
 a72:=Tryz.isAgg120
 z72:=Tryz.sizeOf120
 v72:=Tryz.zeroValue120
 t75:=Tryz.underlying123
 a75:=Tryz.isAgg123
 z75:=Tryz.sizeOf123
 v75:=Tryz.zeroValue123
 t76:=Tryz.underlying124
 a76:=Tryz.isAgg124
 z76:=Tryz.sizeOf124
 v76:=Tryz.zeroValue124
 t127:=Tryz.underlying138
 a127:=Tryz.isAgg138
 z127:=Tryz.sizeOf138
 v127:=Tryz.zeroValue138
 t164:=Tryz.underlying152
 a164:=Tryz.isAgg152
 z164:=Tryz.sizeOf152
 v164:=Tryz.zeroValue152 }
theorem Tryz.Builder_Extra_156:Builder.Extra Tryz.prog Tryz.lays156_ren:={
 sizeBuilder:=by kernel_rfl
 liesBuilder:=by kernel_rfl
 t5:=Tryz.underlying5
 a5:=Tryz.isAgg5
 z5:=Tryz.sizeOf5
 v5:=Tryz.zeroValue5
 infoByte:=by kernel_rfl
 cellsByte:=by kernel_rfl
 sizeByte:=by kernel_rfl
 neB5:=by decide }
theorem Tryz.strings_Join_none (a:Option Addr) (c:Nat) (sep:ByteArray) (w:World):
  Calls Tryz.prog 63 #[.slice a 0 c,.string sep] w fun e w'=>e= .returned (.string ⟨#[]⟩)∧w'=w:=Any.strings_Join_none Tryz.lays156 Tryz.Builder_Extra_156 a c sep w
theorem Tryz.strings_Join (bk o c:Nat) (xs:List ByteArray) (sep:ByteArray) (w:World) (hcells:∀ (j:Nat) x,xs[j]? =some x→w.cell? ⟨bk,o+j,none⟩=some (.string x)) (hbk:bk<w.heap.size) (hN:xs.length≤140737488355328) (hcap:xs.length≤c) (hlen:(Lib.join (xs.map (·.data.toList)) sep.data.toList).length≤140737488355328):
  Calls Tryz.prog 63 #[.slice (some ⟨bk,o,none⟩) xs.length c,.string sep] w fun e w'=>e= .returned (.string ⟨(Lib.join (xs.map (·.data.toList)) sep.data.toList).toArray⟩)∧Below w.heap.size w w':=Any.strings_Join Tryz.lays156 Tryz.Builder_Extra_156 bk o c xs sep w hcells hbk hN hcap hlen
namespace YtnbceeholnkfeaaGreatDoor
open Go.RowKit
def oh (l:List ByteArray) (sep:ByteArray) (r:ByteArray):Prop:=(l.length≤1000000∧(Lib.join (l.map (·.data.toList)) sep.data.toList).length≤140737488355328)∧r=⟨(Lib.join (l.map (·.data.toList)) sep.data.toList).toArray⟩
theorem rh (l:List ByteArray) (sep r:ByteArray) (h:oh l sep r):Con Tryz.prog 63 [.sl 1 none (List.map es l),.v (.string sep)] [] [] (Ret (.v (.string r))):=by
 obtain ⟨⟨h1,h2⟩,rfl⟩:=h
 rintro Rd w vals _ hm ⟨u0,_,rfl,hs,u1,_,rfl,rfl,rfl⟩
 obtain ⟨A,c,rfl,⟨hc1,hc2⟩,_,_,hrr⟩:=hs
 rw [List.length_map] at hc1 ⊢
 have fin:∀ e w',e=Ending.returned (Value.string ⟨(Lib.join (l.map (·.data.toList)) sep.data.toList).toArray⟩)∧Below w.heap.size w w'→RP [] [] Rd w (Ret (.v (.string ⟨(Lib.join (l.map (·.data.toList)) sep.data.toList).toArray⟩))) e w':=by
  rintro e w' ⟨rfl,hb⟩
  refine ⟨_,_,[],[],Rd,rfl,⟨rfl,rfl,rfl⟩,⟨fun b o h=>Nat.lt_of_lt_of_le (hm.lt b o h) hb.size,by simp,by simp,by simp⟩,rfl,⟨hb.os,hb.tape,hb.output,hb.size,fun k hk _=>hb.block k hk,fun b o h=>⟨h,?_⟩,fun _ _ h=>.inl h⟩,fun b hb=>by simp [dom] at hb⟩
  simp only [World.cell?,hb.block b (hm.lt b o h)]
 rcases hrr with hnil | ⟨bk,o,rfl,hR⟩
 ·obtain rfl:=List.map_eq_nil_iff.1 hnil
  refine (Tryz.strings_Join_none A c sep w).mono fun e w' ⟨he,hw⟩=>fin e w' ⟨?_,hw▸Below.refl _ _⟩
  rw [he];rfl
 ·by_cases hl0:l=[]
  ·subst hl0
   refine (Tryz.strings_Join_none _ c sep w).mono fun e w' ⟨he,hw⟩=>fin e w' ⟨?_,hw▸Below.refl _ _⟩
   rw [he];rfl
  ·have hat:∀ (j:Nat) x,l[j]? =some x→Rd bk (o+j)∧w.cell? ⟨bk,o+j,none⟩=some (.string x):=fun j x hx=>by
    have h3:(List.map es l)[j]? =some (es x):=by rw [List.getElem?_map,hx];rfl
    obtain ⟨_,h4,⟨v,h5,_,h6⟩,_⟩:=hR.at_ h3
    have h6:v=_:=h6
    subst h6
    rw [Nat.mul_one] at h4 h5
    exact ⟨h4,h5⟩
   obtain ⟨x0,hx0⟩:∃ x,l[0]? =some x:=⟨_,List.getElem?_eq_getElem (List.length_pos_iff.2 hl0)⟩
   exact (Tryz.strings_Join bk o c l sep w (fun j x hx=>(hat j x hx).2) (hm.lt bk _ (hat 0 x0 hx0).1) (by omega) hc1 h2).mono fin
end YtnbceeholnkfeaaGreatDoor
end Go.Proofs
namespace Go.Proofs
open Go.Shelf Go.RowKit Go.Sort
def Tryz.laysM171_ren:Go.Shelf.Ren:=⟨fun | 171=>64 | 243=>85 | 246=>103 | 283=>121 | 284=>122 | 285=>123 | 286=>124 | 129=>138 | 317=>137 | 318=>139 | 319=>140 | 320=>141 | 337=>143 | 338=>144 | n=>n,fun | 3=>3 | 9=>9 | 2=>2 | 4=>4 | 171=>155 | 0=>0 | 53=>39 | 37=>22 | 5=>5 | 173=>157 | 212=>168 | 51=>169 | 20=>20 | 213=>170 | 46=>151 | 232=>176 | 233=>177 | n=>n,fun | 17=>1 | 18=>2 | 19=>3 | n=>n⟩
theorem Tryz.laysM171:Go.Proofs.LaysM.n171 Tryz.prog Tryz.laysM171_ren:={
 mixed:=by kernel_rfl
 f129:=Tryz.func138.trans (congrArg some (by kernel_rfl))
 f171:=Tryz.func64.trans (congrArg some (by kernel_rfl))
 f243:=Tryz.func85.trans (congrArg some (by kernel_rfl))
 f246:=Tryz.func103.trans (congrArg some (by kernel_rfl))
 f283:=Tryz.func121.trans (congrArg some (by kernel_rfl))
 f284:=Tryz.func122.trans (congrArg some (by kernel_rfl))
 f285:=Tryz.func123.trans (congrArg some (by kernel_rfl))
 f286:=Tryz.func124.trans (congrArg some (by kernel_rfl))
 f317:=Tryz.func137.trans (congrArg some (by kernel_rfl))
 f318:=Tryz.func139.trans (congrArg some (by kernel_rfl))
 f319:=Tryz.func140.trans (congrArg some (by kernel_rfl))
 f320:=Tryz.func141.trans (congrArg some (by kernel_rfl))
 f337:=Tryz.func143.trans (congrArg some (by kernel_rfl))
 f338:=Tryz.func144.trans (congrArg some (by kernel_rfl))
 t0:=Tryz.underlying0
 a0:=Tryz.isAgg0
 z0:=Tryz.sizeOf0
 v0:=Tryz.zeroValue0
 t2:=Tryz.underlying2
 a2:=Tryz.isAgg2
 z2:=Tryz.sizeOf2
 v2:=Tryz.zeroValue2
 t3:=Tryz.underlying3
 a3:=Tryz.isAgg3
 z3:=Tryz.sizeOf3
 v3:=Tryz.zeroValue3
 t4:=Tryz.underlying4
 a4:=Tryz.isAgg4
 z4:=Tryz.sizeOf4
 v4:=Tryz.zeroValue4
 t5:=Tryz.underlying5
 a5:=Tryz.isAgg5
 z5:=Tryz.sizeOf5
 v5:=Tryz.zeroValue5
 t9:=Tryz.underlying9
 a9:=Tryz.isAgg9
 z9:=Tryz.sizeOf9
 v9:=Tryz.zeroValue9
 t20:=Tryz.underlying20
 a20:=Tryz.isAgg20
 z20:=Tryz.sizeOf20
 v20:=Tryz.zeroValue20
 t37:=Tryz.underlying22
 a37:=Tryz.isAgg22
 z37:=Tryz.sizeOf22
 v37:=Tryz.zeroValue22
 t46:=Tryz.underlying151
 a46:=Tryz.isAgg151
 z46:=Tryz.sizeOf151
 v46:=Tryz.zeroValue151
 t51:=Tryz.underlying169
 a51:=Tryz.isAgg169
 z51:=Tryz.sizeOf169
 v51:=Tryz.zeroValue169
 t53:=Tryz.underlying39
 a53:=Tryz.isAgg39
 z53:=Tryz.sizeOf39
 v53:=Tryz.zeroValue39
 t171:=Tryz.underlying155
 a171:=Tryz.isAgg155
 z171:=Tryz.sizeOf155
 v171:=Tryz.zeroValue155
 t173:=Tryz.underlying157
 a173:=Tryz.isAgg157
 z173:=Tryz.sizeOf157
 v173:=Tryz.zeroValue157
 t212:=Tryz.underlying168
 a212:=Tryz.isAgg168
 z212:=Tryz.sizeOf168
 v212:=Tryz.zeroValue168
 t213:=Tryz.underlying170
 a213:=Tryz.isAgg170
 z213:=Tryz.sizeOf170
 t232:=Tryz.underlying176
 a232:=Tryz.isAgg176
 z232:=Tryz.sizeOf176
 v232:=Tryz.zeroValue176
 t233:=Tryz.underlying177
 a233:=Tryz.isAgg177
 z233:=Tryz.sizeOf177
 v233:=Tryz.zeroValue177
 g17:=by kernel_rfl
 g18:=by kernel_rfl
 g19:=by kernel_rfl
 i0:=by kernel_rfl
 i2:=by kernel_rfl
 i3:=by kernel_rfl
 i4:=by kernel_rfl
 i5:=by kernel_rfl
 i9:=by kernel_rfl
 i20:=by kernel_rfl
 i37:=by kernel_rfl
 i46:=by kernel_rfl
 i51:=by kernel_rfl
 i53:=by kernel_rfl
 i171:=by kernel_rfl
 i173:=by kernel_rfl
 i212:=by kernel_rfl
 i232:=by kernel_rfl
 i233:=by kernel_rfl
 m17:=by kernel_rfl
 m18:=by kernel_rfl
 m19:=by kernel_rfl }
theorem Tryz.strconv_Itoa_ok (n:Int) (h0: -9223372036854775808≤n) (h1:n≤9223372036854775807) (w:World) (htab:Lib.TabIs Tryz.prog w "internal/strconv.uint64pow10" .u64 Lib.pow10Tab):
  Calls Tryz.prog 64 #[.int .i64 n] w fun e w'=>e= .returned (.string ⟨(Lib.itoa n).toArray⟩)∧∃ k os,w'=grow (w.drewN k) os:=Any.strconv_Itoa { Tryz.laysM171 with } n h0 h1 w htab
namespace YtnbceeholnkfeaaGreatDoor
open Go.RowKit Go.Sort
theorem D5 {R:Nat→Nat→Prop} {w:World} (h:Glo R w):Lib.TabIs Tryz.prog w "internal/strconv.uint64pow10" .u64 Lib.pow10Tab:=by
 have hg:Tryz.prog.globalNamed "internal/strconv.uint64pow10" =some 1:=by kernel_rfl
 have hx:∀ i,i≤(Lib.pow10Tab.map fun z=>Value.int .u64 z).length→w.cell? ⟨1,i,none⟩=(Lib.pow10Tab.map fun z=>Value.int .u64 z)[i]?:=fun i hi=>(h.2 (1,Lib.pow10Tab.map fun z=>Value.int .u64 z) (by rw [show glt=[(1,Lib.pow10Tab.map fun z=>Value.int .u64 z)] by kernel_rfl];exact List.mem_singleton.2 rfl) i hi).2
 generalize hl:(Lib.pow10Tab.map fun z=>Value.int .u64 z)=l at hx
 have h0:0<l.length:=by rw [← hl];exact of_decide_eq_true (by kernel_rfl)
 unfold Lib.TabIs World.var?
 rw [hg,hl]
 simp only [Option.bind_some]
 have h1:=hx 0 (Nat.zero_le _)
 rw [List.getElem?_eq_getElem h0] at h1
 unfold World.cell? at h1 hx
 simp only at h1 hx
 cases ho:w.heap[1]? with
 | none=>rw [ho] at h1;cases h1
 | some ob=>
  rw [ho] at h1 hx
  cases ob with
  | cells cs T fr=>
   simp only at hx ⊢
   have hx:∀ i,i≤l.length→cs[i]? =l[i]?:=hx
   congr 1
   apply Array.ext'
   apply List.ext_getElem?
   intro i
   rw [Array.getElem?_toList]
   rcases Nat.lt_or_ge i (l.length+1) with hi | hi
   ·rw [hx i (by omega)]
   ·have hn:=hx l.length (Nat.le_refl _)
    rw [List.getElem?_eq_none (Nat.le_refl _)] at hn
    have:=Array.getElem?_eq_none_iff.1 hn
    rw [Array.getElem?_eq_none (by omega)];simp;try omega
  | _=>cases h1
def og (n:Int) (r:ByteArray):Prop:=InR n∧r=⟨(Lib.itoa n).toArray⟩
theorem uW (w:World) (k:Nat) (os:Array Obj) {j:Nat} (hj:j<w.heap.size):(grow (w.drewN k) os).heap[j]? =w.heap[j]?:=by
 show (w.heap++os)[j]? =_
 rw [Array.getElem?_append_left hj]
theorem rg (n:Int) (r:ByteArray) (h:og n r):Con Tryz.prog 64 [.v (.int .i64 n)] [] [] (Ret (.v (.string r))):=by
 obtain ⟨⟨h1,h2⟩,rfl⟩:=h
 rintro Rd w vals hgl hm ⟨u0,_,rfl,hs,rfl⟩
 obtain rfl:u0= .int .i64 n:=hs
 refine (Tryz.strconv_Itoa_ok n h1 h2 w (D5 hgl)).mono ?_
 rintro e w' ⟨rfl,k,os,rfl⟩
 have hsz:(grow (w.drewN k) os).heap.size=w.heap.size+os.size:=by show (w.heap++os).size=_;rw [Array.size_append]
 refine ⟨_,_,[],[],Rd,rfl,⟨rfl,rfl,rfl⟩,⟨fun b o h=>by rw [hsz];have:=hm.lt b o h;omega,by simp,by simp,by simp⟩,rfl,⟨rfl,rfl,rfl,by rw [hsz];omega,fun j hj _=>uW w k os hj,fun b o h=>⟨h,?_⟩,fun _ _ h=>.inl h⟩,fun b hb=>by simp [dom] at hb⟩
 simp only [World.cell?,uW w k os (hm.lt b o h)]
end YtnbceeholnkfeaaGreatDoor
end Go.Proofs
