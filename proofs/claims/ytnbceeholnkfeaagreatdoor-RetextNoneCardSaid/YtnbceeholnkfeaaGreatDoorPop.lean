/- How many bits a word has, by parts. -/
import Derived.Below
import Derived.Test.YtnbceeholnkfeaaGreatDoorBrS
namespace Go.Proofs.YtnbceeholnkfeaaGreatDoor
def aW:List Nat→Nat
 | []=>0
 | b :: l=>b+256 * aW l
theorem oU {b c v m:Nat} (hb:b<256) (hc:c<256):(b+256 * v) &&& (c+256 * m)=(b &&& c)+256 * (v &&& m):=by
 have h1:((b+256 * v) &&& (c+256 * m)) % 2 ^ 8=b &&& c:=by
  rw [Nat.and_mod_two_pow,show (b+256 * v) % 2 ^ 8=b by omega,show (c+256 * m) % 2 ^ 8=c by omega]
 have h2:((b+256 * v) &&& (c+256 * m)) / 2 ^ 8=v &&& m:=by
  rw [Nat.and_div_two_pow,show (b+256 * v) / 2 ^ 8=v by omega,show (c+256 * m) / 2 ^ 8=m by omega]
 omega
theorem rl (c:Nat) (hc:c<256):∀ l:List Nat,(∀ b∈l,b<256)→aW l &&& aW (List.replicate l.length c)=aW (l.map (· &&& c))
 | [],_=>Nat.zero_and 0
 | b :: l,h=>by
  show (b+256 * aW l) &&& (c+256 * aW (List.replicate l.length c))=_
  rw [oU (h b (by simp)) hc,rl c hc l fun x hx=>h x (by simp [hx])]
  rfl
theorem rm (f g:Nat→Nat):∀ l:List Nat,aW (l.map f)+aW (l.map g)=aW (l.map fun b=>f b+g b)
 | []=>rfl
 | b :: l=>by
  have ih:=rm f g l
  show (f b+256 * aW (l.map f))+(g b+256 * aW (l.map g))=(f b+g b)+256 * aW (l.map fun b=>f b+g b)
  omega
theorem u4:∀ l:List Nat,(∀ b∈l,b<256)→(aW l / 2) &&& aW (List.replicate l.length 85)=aW (l.map fun b=>(b / 2) &&& 85)
 | [],_=>rfl
 | b :: l,h=>by
  have hb:=h b (by simp)
  show ((b+256 * aW l) / 2) &&& (85+256 * aW (List.replicate l.length 85))=((b / 2) &&& 85)+256 * aW (l.map fun b=>(b / 2) &&& 85)
  rw [show (b+256 * aW l) / 2=(b / 2+128 * (aW l % 2))+256 * (aW l / 2) by omega,oU (by omega) (by omega),u4 l fun x hx=>h x (by simp [hx])]
  congr 1
  have:∀ b:Fin 256,∀ q:Fin 2,(b.1 / 2+128 * q.1) &&& 85=(b.1 / 2) &&& 85:=by decide+kernel
  exact this ⟨b,hb⟩ ⟨aW l % 2,by omega⟩
theorem u5:∀ l:List Nat,(∀ b∈l,b<256)→(aW l / 4) &&& aW (List.replicate l.length 51)=aW (l.map fun b=>(b / 4) &&& 51)
 | [],_=>rfl
 | b :: l,h=>by
  have hb:=h b (by simp)
  show ((b+256 * aW l) / 4) &&& (51+256 * aW (List.replicate l.length 51))=((b / 4) &&& 51)+256 * aW (l.map fun b=>(b / 4) &&& 51)
  rw [show (b+256 * aW l) / 4=(b / 4+64 * (aW l % 4))+256 * (aW l / 4) by omega,oU (by omega) (by omega),u5 l fun x hx=>h x (by simp [hx])]
  congr 1
  have:∀ b:Fin 256,∀ q:Fin 4,(b.1 / 4+64 * q.1) &&& 51=(b.1 / 4) &&& 51:=by decide+kernel
  exact this ⟨b,hb⟩ ⟨aW l % 4,by omega⟩
theorem u6:∀ l:List Nat,(∀ b∈l,b / 16≤4∧b % 16≤4)→(aW l / 16+aW l) &&& aW (List.replicate l.length 15)=aW (l.map fun b=>b / 16+b % 16)∧aW l % 16≤4
 | [],_=>⟨rfl,by decide⟩
 | b :: l,h=>by
  have hb:=h b (by simp)
  obtain ⟨ih,hv⟩:=u6 l fun x hx=>h x (by simp [hx])
  refine ⟨?_,by show (b+256 * aW l) % 16≤4;omega⟩
  show ((b+256 * aW l) / 16+(b+256 * aW l)) &&& (15+256 * aW (List.replicate l.length 15))=(b / 16+b % 16)+256 * aW (l.map fun b=>b / 16+b % 16)
  rw [show (b+256 * aW l) / 16+(b+256 * aW l)=(b / 16+b+16 * (aW l % 16))+256 * (aW l / 16+aW l) by omega,oU (by omega) (by omega),ih]
  congr 1
  rw [show (15:Nat)=2 ^ 4 - 1 from rfl,Nat.and_two_pow_sub_one_eq_mod]
  omega
def pc1 (b:Nat):Nat:=((b / 2) &&& 85)+(b &&& 85)
def pc2 (b:Nat):Nat:=((b / 4) &&& 51)+(b &&& 51)
def pc3 (b:Nat):Nat:=b / 16+b % 16
def pcB (b:Nat):Nat:=pc3 (pc2 (pc1 b))
theorem AO:∀ b:Fin 256,pcB b.1=b.1 % 2+b.1 / 2 % 2+b.1 / 4 % 2+b.1 / 8 % 2+b.1 / 16 % 2+b.1 / 32 % 2+b.1 / 64 % 2+b.1 / 128 % 2:=by decide+kernel
theorem qv:∀ b:Fin 256,pc1 b.1<256∧pc2 (pc1 b.1)<256∧pc2 (pc1 b.1) / 16≤4∧pc2 (pc1 b.1) % 16≤4∧pcB b.1≤8:=by decide+kernel
def fH (x:Nat):List Nat:=[x % 256,x / 256 % 256,x / 65536 % 256,x / 16777216 % 256,x / 4294967296 % 256,x / 1099511627776 % 256,x / 281474976710656 % 256,x / 72057594037927936 % 256]
theorem xB {x:Nat} (h:x<18446744073709551616):aW (fH x)=x:=by
 simp only [fH,aW];omega
theorem yS (x:Nat):∀ b∈fH x,b<256:=by
 intro b hb
 simp only [fH,List.mem_cons,List.not_mem_nil,or_false] at hb
 omega
def rn (x:Nat):Nat:=((fH x).map pcB).sum
theorem E7:aW (List.replicate 8 85)=6148914691236517205:=by decide+kernel
theorem E8:aW (List.replicate 8 51)=3689348814741910323:=by decide+kernel
theorem E9:aW (List.replicate 8 15)=1085102592571150095:=by decide+kernel
theorem kq {a:Nat} {l:List Nat} (h:a<256):aW (a :: l) / 256=aW l:=by
 show (a+256 * aW l) / 256=_
 omega
theorem qw:∀ {l:List Nat},(∀ b∈l,b<256)→aW l<256 ^ l.length
 | [],_=>by decide
 | b :: l,h=>by
  have h1:=h b (by simp)
  have h2:=qw (l:=l) fun x hx=>h x (by simp [hx])
  show b+256 * aW l<256 ^ (l.length+1)
  rw [Nat.pow_succ]
  omega
theorem tI:∀ (l:List Nat) (c:Nat),aW (l++[c])=aW l+256 ^ l.length * c
 | [],c=>by show c+256 * 0=0+1 * c;omega
 | b :: l,c=>by
  show b+256 * aW (l++[c])=b+256 * aW l+256 ^ (l.length+1) * c
  rw [tI l c,Nat.pow_succ,Nat.mul_add,Nat.mul_comm (256 ^ l.length) 256,Nat.mul_assoc,Nat.add_assoc]
theorem yT {c0 c1 c2 c3 c4 c5 c6 c7 y3 y4 y5 y6:Nat} (p0:c0≤8) (p1:c1≤8) (p2:c2≤8) (p3:c3≤8) (p4:c4≤8) (p5:c5≤8) (p6:c6≤8) (p7:c7≤8) (h3:y3=aW [c0,c1,c2,c3,c4,c5,c6,c7]) (h4:y4=y3+y3 / 256) (h5:y5=y4+y4 / 65536) (h6:y6=y5+y5 / 4294967296):
  y6 % 128=c0+c1+c2+c3+c4+c5+c6+c7∧y3<18446744073709551616∧y4<18446744073709551616∧y5<18446744073709551616∧y6<9223372036854775808:=by
 have e4:y4=aW [c0+c1,c1+c2,c2+c3,c3+c4,c4+c5,c5+c6,c6+c7,c7]:=by
  rw [h4,h3,kq (by omega)]
  simp only [aW]
  omega
 have e5:y5=aW [c0+c1+c2+c3,c1+c2+c3+c4,c2+c3+c4+c5,c3+c4+c5+c6,c4+c5+c6+c7,c5+c6+c7,c6+c7,c7]:=by
  rw [h5,show (65536:Nat)=256 * 256 from rfl,← Nat.div_div_eq_div_mul,e4,kq (by omega),kq (by omega)]
  simp only [aW]
  omega
 have e6:y6=aW [c0+c1+c2+c3+c4+c5+c6+c7,c1+c2+c3+c4+c5+c6+c7,c2+c3+c4+c5+c6+c7,c3+c4+c5+c6+c7,c4+c5+c6+c7,c5+c6+c7,c6+c7,c7]:=by
  rw [h6,show (4294967296:Nat)=256 * 256 * 256 * 256 from rfl,← Nat.div_div_eq_div_mul,← Nat.div_div_eq_div_mul,← Nat.div_div_eq_div_mul,e5,kq (by omega),kq (by omega),kq (by omega),kq (by omega)]
  simp only [aW]
  omega
 have lt:∀ a0 a1 a2 a3 a4 a5 a6 a7:Nat,a0<256→a1<256→a2<256→a3<256→a4<256→a5<256→a6<256→a7<256→aW [a0,a1,a2,a3,a4,a5,a6,a7]<18446744073709551616:=by
  intro a0 a1 a2 a3 a4 a5 a6 a7 h0 h1 h2 h3 h4 h5 h6 h7
  refine Nat.lt_of_lt_of_le (qw ?_) (show 256 ^ 8≤18446744073709551616 by decide)
  intro b hb
  simp only [List.mem_cons,List.not_mem_nil,or_false] at hb
  rcases hb with rfl | rfl | rfl | rfl | rfl | rfl | rfl | rfl <;> assumption
 refine ⟨?_,?_,?_,?_,?_⟩
 ·rw [e6]
  show (c0+c1+c2+c3+c4+c5+c6+c7+256 * aW _) % 128=_
  omega
 ·rw [h3];apply lt <;> omega
 ·rw [e4];apply lt <;> omega
 ·rw [e5];apply lt <;> omega
 ·rw [e6]
  have hv:aW [c0+c1+c2+c3+c4+c5+c6+c7,c1+c2+c3+c4+c5+c6+c7,c2+c3+c4+c5+c6+c7,c3+c4+c5+c6+c7,c4+c5+c6+c7,c5+c6+c7,c6+c7]<256 ^ 7:=by
   refine qw (l:=[_,_,_,_,_,_,_]) ?_
   intro b hb
   simp only [List.mem_cons,List.not_mem_nil,or_false] at hb
   rcases hb with rfl | rfl | rfl | rfl | rfl | rfl | rfl <;> omega
  have hs:=tI [c0+c1+c2+c3+c4+c5+c6+c7,c1+c2+c3+c4+c5+c6+c7,c2+c3+c4+c5+c6+c7,c3+c4+c5+c6+c7,c4+c5+c6+c7,c5+c6+c7,c6+c7] c7
  simp only [List.cons_append,List.nil_append] at hs
  rw [hs]
  generalize aW [c0+c1+c2+c3+c4+c5+c6+c7,c1+c2+c3+c4+c5+c6+c7,c2+c3+c4+c5+c6+c7,c3+c4+c5+c6+c7,c4+c5+c6+c7,c5+c6+c7,c6+c7]=v at hv
  show v+256 ^ 7 * c7<_
  simp only [Nat.reducePow] at hv ⊢
  omega
theorem yU {x y1 y2 y3 y4 y5 y6:Nat} (hx:x<18446744073709551616) (h1:y1=((x / 2) &&& 6148914691236517205)+(x &&& 6148914691236517205)) (h2:y2=((y1 / 4) &&& 3689348814741910323)+(y1 &&& 3689348814741910323)) (h3:y3=(y2 / 16+y2) &&& 1085102592571150095)
  (h4:y4=y3+y3 / 256) (h5:y5=y4+y4 / 65536) (h6:y6=y5+y5 / 4294967296):y6 &&& 127=rn x∧y1<18446744073709551616∧y2<18446744073709551616∧y2 / 16+y2<18446744073709551616∧y4<18446744073709551616∧y5<18446744073709551616∧y6<9223372036854775808∧rn x≤64:=by
 have hl:=yS x
 have e1:y1=aW ((fH x).map pc1):=by
  have a1:=u4 _ hl
  have a2:=rl 85 (by decide) _ hl
  rw [xB hx,show (fH x).length=8 from rfl,E7] at a1 a2
  rw [h1,a1,a2,rm];rfl
 have l1:∀ b∈(fH x).map pc1,b<256:=by
  intro b hb
  obtain ⟨c,hc,rfl⟩:=List.mem_map.1 hb
  exact (qv ⟨c,hl c hc⟩).1
 have e2:y2=aW (((fH x).map pc1).map pc2):=by
  have a1:=u5 _ l1
  have a2:=rl 51 (by decide) _ l1
  rw [← e1,show ((fH x).map pc1).length=8 from rfl,E8] at a1 a2
  rw [h2,a1,a2,rm];rfl
 have l2:∀ b∈((fH x).map pc1).map pc2,b / 16≤4∧b % 16≤4:=by
  intro b hb
  rw [List.map_map] at hb
  obtain ⟨c,hc,rfl⟩:=List.mem_map.1 hb
  exact ⟨(qv ⟨c,hl c hc⟩).2.2.1,(qv ⟨c,hl c hc⟩).2.2.2.1⟩
 have e3:y3=aW ((fH x).map pcB):=by
  have a1:=(u6 _ l2).1
  rw [← e2,show (((fH x).map pc1).map pc2).length=8 from rfl,E9] at a1
  rw [h3,a1,List.map_map,List.map_map];rfl
 have b1:y1<256 ^ 8:=by
  rw [e1];exact qw l1
 have b2:y2<68 * 256 ^ 7+68 * 256 ^ 7:=by
  rw [e2]
  have hq:∀ b∈((fH x).map pc1).map pc2,b≤68:=fun b hb=>by have:=l2 b hb;omega
  have hm:∀ l:List Nat,(∀ b∈l,b≤68)→255 * aW l≤68 * (256 ^ l.length - 1):=by
   intro l
   induction l with
   | nil=>intro _;decide
   | cons b l ih=>
    intro h
    have:=h b (by simp)
    have:=ih fun x hx=>h x (by simp [hx])
    have hp:0<256 ^ l.length:=Nat.pow_pos (by decide)
    show 255 * (b+256 * aW l)≤68 * (256 ^ (l.length+1) - 1)
    rw [Nat.pow_succ]
    omega
  have:=hm _ hq
  rw [show (((fH x).map pc1).map pc2).length=8 from rfl] at this
  omega
 have hc:∀ b,b<256→pcB b≤8:=fun b hb=>(qv ⟨b,hb⟩).2.2.2.2
 obtain ⟨s1,s2,s3,s4,s5⟩:=yT (hc _ (Nat.mod_lt x (by decide))) (hc _ (Nat.mod_lt _ (by decide))) (hc _ (Nat.mod_lt _ (by decide))) (hc _ (Nat.mod_lt _ (by decide))) (hc _ (Nat.mod_lt _ (by decide))) (hc _ (Nat.mod_lt _ (by decide))) (hc _ (Nat.mod_lt _ (by decide))) (hc _ (Nat.mod_lt _ (by decide))) e3 h4 h5 h6
 have hp:rn x=pcB (x % 256)+pcB (x / 256 % 256)+pcB (x / 65536 % 256)+pcB (x / 16777216 % 256)+pcB (x / 4294967296 % 256)+pcB (x / 1099511627776 % 256)+pcB (x / 281474976710656 % 256)+pcB (x / 72057594037927936 % 256):=by
  show pcB _+(pcB _+(pcB _+(pcB _+(pcB _+(pcB _+(pcB _+(pcB _+0)))))))=_
  omega
 refine ⟨?_,by omega,by omega,by omega,s3,s4,s5,?_⟩
 ·rw [show (127:Nat)=2 ^ 7 - 1 from rfl,Nat.and_two_pow_sub_one_eq_mod,hp];exact s1
 ·rw [hp]
  have:=hc _ (Nat.mod_lt x (show 0<256 by decide));have:=hc _ (Nat.mod_lt (x / 256) (show 0<256 by decide));have:=hc _ (Nat.mod_lt (x / 65536) (show 0<256 by decide));have:=hc _ (Nat.mod_lt (x / 16777216) (show 0<256 by decide))
  have:=hc _ (Nat.mod_lt (x / 4294967296) (show 0<256 by decide));have:=hc _ (Nat.mod_lt (x / 1099511627776) (show 0<256 by decide));have:=hc _ (Nat.mod_lt (x / 281474976710656) (show 0<256 by decide));have:=hc _ (Nat.mod_lt (x / 72057594037927936) (show 0<256 by decide))
  omega
end Go.Proofs.YtnbceeholnkfeaaGreatDoor
namespace Go.Proofs.YtnbceeholnkfeaaGreatDoor
theorem oA (s:ay) (c:UInt8):fW s c (aS s c.toNat):=by
 have hc:=c.toNat_lt
 have h1:(c.toNat:Int).tdiv 64=((c.toNat / 64:Nat):Int):=td _ 64
 have h2:(c.toNat:Int).tmod 64=((c.toNat % 64:Nat):Int):=tm _ 64
 unfold fW
 rw [h1,h2]
 refine ⟨by decide,iu (by omega) fun c4 h4=>atA (by omega) (by omega) fun y hy=>⟨by decide,xA (by omega) fun c8 h8=>⟨by omega,?_⟩⟩⟩
 have hmin:min ((c8.toNat:Int):Int).toNat IntKind.u64.bits=c.toNat % 64:=by show min _ 64=_;omega
 have hyl:=y.toNat_lt
 have hle:y.toNat / 2 ^ (c.toNat % 64)≤y.toNat:=Nat.div_le_self _ _
 rw [hmin,fdp]
 rw [show ((c4.toNat:Int):Int).toNat=c.toNat / 64 by omega] at hy
 rw [DA hy]
 generalize y.toNat / 2 ^ (c.toNat % 64)=q at hle
 refine yR (by omega) fun c10 h10=>B2 (b:=1) ?_
 rw [ decide_eq_decide,UInt64.toNat_and,show (1:UInt64).toNat=1 from rfl,Nat.and_one_is_mod]
 omega
def be (s:ay) (k:Nat):List UInt8:=((List.range k).filter (aS s)).map UInt8.ofNat
theorem nD (s:ay) (k:Nat):be s (k+1)=be s k++(if aS s k=true then [UInt8.ofNat k] else []):=by
 unfold be
 rw [List.range_succ,List.filter_append,List.map_append]
 congr 1
 by_cases h:aS s k=true <;> simp [h]
theorem mf (s:ay) (k:Nat):(be s k).length≤k:=by
 unfold be
 rw [List.length_map]
 exact Nat.le_trans (List.length_filter_le _ _) (by simp)
theorem rC (s:ay):ka s (be s 256):=by
 refine ct (fun st m=>∃ k,k≤256∧m=256 - k∧st.2=(k:Int)∧st.1=be s k) _ ⟨0,by omega,rfl,rfl,rfl⟩ ?_
 rintro ⟨o,x⟩ m ⟨k,hk,rfl,h1,h2⟩
 simp only at h1 h2
 subst h1;subst h2
 have hl:=mf s k
 show nZ s _ (be s k) (k:Int) _
 refine ab (fun h3=>?_) fun h3=>?_
 ·have hn:=nD s k
  refine iu (by omega) fun c hc=>⟨_,oA _ _,ab (fun h4=>?_) fun h4=>?_⟩
  ·rw [show c.toNat=k by omega] at h4
   refine iu (by omega) fun c' hc'=>dD (by simp;omega) (by omega) (au (by omega) ⟨256 - (k+1),by omega,k+1,by omega,rfl,by simp,?_⟩)
   show be s k++[c']=_
   rw [hn,if_pos h4,show UInt8.ofNat k=c' from UInt8.toNat_inj.1 (by rw [UInt8.toNat_ofNat_of_lt' (by simp [UInt8.size];omega)];omega)]
  ·rw [show c.toNat=k by omega] at h4
   refine au (by omega) ⟨256 - (k+1),by omega,k+1,by omega,rfl,by simp,?_⟩
   show be s k=_
   rw [hn,if_neg h4,List.append_nil]
 ·obtain rfl:k=256:=by omega
  rfl
theorem qa {a:UInt64} {z:Int} (b:UInt64) {P:UInt64→Prop} (hz:z=(b.toNat:Int)) (k:∀ c:UInt64,c.toNat=a.toNat &&& b.toNat→P c):∃ c:UInt64,(c.toNat:Int)=IntKind.u64.wrap (BitVec.ofInt IntKind.u64.bits (a.toNat:Int) &&& BitVec.ofInt IntKind.u64.bits z).toNat∧P c:=by
 subst hz
 exact B2 (k _ (UInt64.toNat_and _ _))
theorem qG {a:UInt64} {z:Int} (j:Nat) {P:UInt64→Prop} (hz:z=(j:Int)) (hj:j≤64) (k:∀ c:UInt64,c.toNat=a.toNat / 2 ^ j→P c):(0:Int)≤z∧∃ c:UInt64,(c.toNat:Int)=((a.toNat:Int):Int).fdiv (2 ^ (min (z:Int).toNat IntKind.u64.bits))∧P c:=by
 subst hz
 have hm:min ((j:Int):Int).toNat IntKind.u64.bits=j:=by show min _ 64=_;omega
 rw [hm,fdp]
 have h1:=a.toNat_lt
 have h2:a.toNat / 2 ^ j≤a.toNat:=Nat.div_le_self _ _
 generalize a.toNat / 2 ^ j=q at h2 k
 exact ⟨by omega,yR (by omega) fun c hc=>k c (by omega)⟩
theorem qH {a b:UInt64} {P:UInt64→Prop} (h:a.toNat+b.toNat<18446744073709551616) (k:∀ c:UInt64,c.toNat=a.toNat+b.toNat→P c):∃ c:UInt64,(c.toNat:Int)=IntKind.u64.wrap ((a.toNat:Int)+(b.toNat:Int))∧P c:=
 sj (by omega) fun c hc=>k c (by omega)
theorem Dm (w:UInt64):eI w (rn w.toNat:Nat):=by
 obtain ⟨x,hx⟩:∃ x,x=w.toNat:=⟨_,rfl⟩
 obtain ⟨y1,h1⟩:∃ y,y=((x / 2) &&& 6148914691236517205)+(x &&& 6148914691236517205):=⟨_,rfl⟩
 obtain ⟨y2,h2⟩:∃ y,y=((y1 / 4) &&& 3689348814741910323)+(y1 &&& 3689348814741910323):=⟨_,rfl⟩
 obtain ⟨y3,h3⟩:∃ y,y=(y2 / 16+y2) &&& 1085102592571150095:=⟨_,rfl⟩
 obtain ⟨y4,h4⟩:∃ y,y=y3+y3 / 256:=⟨_,rfl⟩
 obtain ⟨y5,h5⟩:∃ y,y=y4+y4 / 65536:=⟨_,rfl⟩
 obtain ⟨y6,h6⟩:∃ y,y=y5+y5 / 4294967296:=⟨_,rfl⟩
 obtain ⟨g1,g2,g3,g4,g5,g6,g7,g8⟩:=yU (by rw [hx];exact w.toNat_lt) h1 h2 h3 h4 h5 h6
 have n1:(6148914691236517205:UInt64).toNat=6148914691236517205:=by decide+kernel
 have n2:(3689348814741910323:UInt64).toNat=3689348814741910323:=by decide+kernel
 have n3:(1085102592571150095:UInt64).toNat=1085102592571150095:=by decide+kernel
 unfold eI
 refine qG 1 rfl (by decide) fun c3 k3=>qa 6148914691236517205 (by decide+kernel) fun c5 k5=>qa 6148914691236517205 (by decide+kernel) fun c7 k7=>?_
 have q1:c5.toNat+c7.toNat=y1:=by rw [h1,k5,k7,k3,hx,n1,Nat.pow_one]
 refine qH (by omega) fun c9 k9=>?_
 refine qG 2 rfl (by decide) fun c11 k11=>qa 3689348814741910323 (by decide+kernel) fun c13 k13=>qa 3689348814741910323 (by decide+kernel) fun c15 k15=>?_
 have q2:c13.toNat+c15.toNat=y2:=by rw [h2,k13,k15,k11,k9,q1,n2]
 refine qH (by omega) fun c17 k17=>?_
 refine qG 4 rfl (by decide) fun c19 k19=>?_
 have q3:c19.toNat+c17.toNat=y2 / 16+y2:=by rw [k19,k17,q2]
 refine qH (by omega) fun c21 k21=>qa 1085102592571150095 (by decide+kernel) fun c23 k23=>?_
 have q4:c23.toNat=y3:=by rw [h3,k23,k21,q3,n3]
 refine qG 8 rfl (by decide) fun c25 k25=>?_
 have q5:c23.toNat+c25.toNat=y4:=by rw [h4,k25,q4]
 refine qH (by omega) fun c27 k27=>qG 16 rfl (by decide) fun c29 k29=>?_
 have q6:c27.toNat+c29.toNat=y5:=by rw [h5,k29,k27,q5]
 refine qH (by omega) fun c31 k31=>qG 32 rfl (by decide) fun c33 k33=>?_
 have q7:c31.toNat+c33.toNat=y6:=by rw [h6,k33,k31,q6]
 refine qH (by omega) fun c35 k35=>exZ ?_
 have e35:c35.toNat=y6:=by rw [k35,q7]
 have hlt:y6 &&& 127≤127:=Nat.and_le_right
 refine exZ ?_
 have e1:(BitVec.ofInt IntKind.i64.bits (IntKind.i64.wrap (c35.toNat:Int)) &&& BitVec.ofInt IntKind.i64.bits 127).toNat=y6 &&& 127:=by
  have e2:BitVec.ofInt IntKind.i64.bits (IntKind.i64.wrap (c35.toNat:Int))=BitVec.ofNat 64 y6:=by
   rw [IntWalk.i64_in _ (by omega),e35]
   exact BitVec.ofInt_natCast _ _
  rw [e2]
  show (BitVec.ofNat 64 y6 &&& BitVec.ofInt 64 127).toNat=_
  rw [BitVec.toNat_and,BitVec.toNat_ofNat,Nat.mod_eq_of_lt (by omega)]
  rfl
 rw [e1,IntWalk.i64_in _ (by omega),g1,hx]
def qI (s:ay) (i:Nat):Nat:=(s.l.getD i 0).toNat
def o4 (s:ay) (q:Nat):Nat:=qI s (q / 8) / 2 ^ (8 * (q % 8)) % 256
theorem Bz (s:ay) (q j:Nat) (hj:j<8):aS s (8 * q+j)=decide (o4 s q / 2 ^ j % 2=1):=by
 unfold aS o4 qI
 rw [← tb,show (256:Nat)=2 ^ 8 from rfl,Nat.testBit_mod_two_pow,decide_eq_true hj,Bool.true_and,Nat.testBit_div_two_pow,show (8 * q+j) / 64=q / 8 by omega,show (8 * q+j) % 64=j+8 * (q % 8) by omega]
 try (rw [Nat.add_comm])
theorem BA (s:ay) (q j:Nat) (hj:j<8):(be s (8 * q+j+1)).length=(be s (8 * q+j)).length+o4 s q / 2 ^ j % 2:=by
 rw [nD,List.length_append,Bz s q j hj]
 congr 1
 have:o4 s q / 2 ^ j % 2<2:=Nat.mod_lt _ (by decide)
 by_cases h:o4 s q / 2 ^ j % 2=1
 ·rw [if_pos (decide_eq_true h),h];rfl
 ·rw [if_neg (by rw [decide_eq_false h];decide)]
  simp only [List.length_nil];omega
theorem EB {x0 x1 x2 x3 x4 x5 x6 x7 x8 t0 t1 t2 t3 t4 t5 t6 t7 p:Nat} (h0:x1=x0+t0) (h1:x2=x1+t1) (h2:x3=x2+t2) (h3:x4=x3+t3) (h4:x5=x4+t4) (h5:x6=x5+t5) (h6:x7=x6+t6) (h7:x8=x7+t7) (hp:p=t0+t1+t2+t3+t4+t5+t6+t7):x8=x0+p:=by omega
theorem Dn (b:Nat) (hb:b<256):pcB b=b / 2 ^ 0 % 2+b / 2 ^ 1 % 2+b / 2 ^ 2 % 2+b / 2 ^ 3 % 2+b / 2 ^ 4 % 2+b / 2 ^ 5 % 2+b / 2 ^ 6 % 2+b / 2 ^ 7 % 2:=by
 simp only [Nat.reducePow,Nat.div_one]
 exact AO ⟨b,hb⟩
theorem FD {f:Nat→Nat} {q b:Nat} (hb:b<256) (h:∀ j,j<8→f (8 * q+j+1)=f (8 * q+j)+b / 2 ^ j % 2):f (8 * q+8)=f (8 * q)+pcB b:=
 EB (h 0 (by decide)) (h 1 (by decide)) (h 2 (by decide)) (h 3 (by decide)) (h 4 (by decide)) (h 5 (by decide)) (h 6 (by decide)) (h 7 (by decide)) (Dn b hb)
theorem EC {f g:Nat→Nat} {k:Nat} (h:∀ j,j<8→f (64 * k+8 * (j+1))=f (64 * k+8 * j)+g j):f (64 * (k+1))=f (64 * k)+(g 0+(g 1+(g 2+(g 3+(g 4+(g 5+(g 6+(g 7+0)))))))):=by
 have h0:=h 0 (by decide);have h1:=h 1 (by decide);have h2:=h 2 (by decide);have h3:=h 3 (by decide)
 have h4:=h 4 (by decide);have h5:=h 5 (by decide);have h6:=h 6 (by decide);have h7:=h 7 (by decide)
 simp only [Nat.reduceMul,Nat.reduceAdd,Nat.add_zero] at h0 h1 h2 h3 h4 h5 h6 h7
 rw [show 64 * (k+1)=64 * k+64 by omega,h7,h6,h5,h4,h3,h2,h1,h0]
 simp only [Nat.add_assoc,Nat.add_zero]
theorem BB (s:ay) (q:Nat):(be s (8 * (q+1))).length=(be s (8 * q)).length+pcB (o4 s q):=
 FD (f:=fun n=>(be s n).length) (Nat.mod_lt _ (by decide)) fun j hj=>BA s q j hj
theorem Do (x:Nat):rn x=pcB (x / 2 ^ (8 * 0) % 256)+(pcB (x / 2 ^ (8 * 1) % 256)+(pcB (x / 2 ^ (8 * 2) % 256)+(pcB (x / 2 ^ (8 * 3) % 256)+(pcB (x / 2 ^ (8 * 4) % 256)+(pcB (x / 2 ^ (8 * 5) % 256)+(pcB (x / 2 ^ (8 * 6) % 256)+(pcB (x / 2 ^ (8 * 7) % 256)+0))))))):=by
 simp only [Nat.reduceMul,Nat.reducePow,Nat.div_one,rn,fH,List.map_cons,List.map_nil,List.sum_cons,List.sum_nil]
theorem BC (s:ay) (k:Nat):(be s (64 * (k+1))).length=(be s (64 * k)).length+rn (qI s k):=by
 rw [Do]
 refine EC (f:=fun n=>(be s n).length) (g:=fun j=>pcB (qI s k / 2 ^ (8 * j) % 256)) fun j hj=>?_
 have:=BB s (8 * k+j)
 unfold o4 at this
 rw [show (8 * k+j) / 8=k by omega,show (8 * k+j) % 8=j by omega,show 8 * (8 * k+j+1)=64 * k+8 * (j+1) by omega,show 8 * (8 * k+j)=64 * k+8 * j by omega] at this
 exact this
theorem BD (s:ay):mG s ((be s 256).length:Nat):=by
 refine ct (fun st m=>∃ k,k≤4∧m=4 - k∧st.1=((be s (64 * k)).length:Int)∧st.2=(k:Int)) 4 ⟨0,by omega,rfl,rfl,rfl⟩ ?_
 rintro ⟨n,i⟩ m ⟨k,hk,rfl,h1,h2⟩
 simp only at h1 h2
 subst h1;subst h2
 show n4 s _ ((be s (64 * k)).length:Int) (k:Int) _
 have hl:=mf s (64 * k)
 refine ab (fun h3=>?_) fun h3=>?_
 ·refine atA (by omega) (by omega) fun y hy=>⟨_,Dm y,?_⟩
  rw [Int.toNat_natCast] at hy
  have hw:qI s k=y.toNat:=by unfold qI;rw [List.getD_eq_getElem?_getD,hy];rfl
  have hc:=BC s k
  have hl2:=mf s (64 * (k+1))
  rw [hw] at hc
  exact au (by omega) (au (by omega) ⟨4 - (k+1),by omega,k+1,by omega,rfl,by show _=_;simp only;rw [hc];simp,by simp⟩)
 ·obtain rfl:k=4:=by omega
  rfl
theorem mY (s:ay) (c:Nat) (hc:c<256):aS (fI s) c= !aS s c:=by
 have h1:c / 64<s.l.length:=by rw [s.len];omega
 unfold aS fI
 simp only [List.getD_eq_getElem?_getD,List.getElem?_map,List.getElem?_eq_getElem h1,Option.map_some,Option.getD_some,UInt64.toNat_not]
 rw [show UInt64.size - 1 - (s.l[c / 64]).toNat=2 ^ 64 - ((s.l[c / 64]).toNat+1) by simp [UInt64.size],Nat.testBit_two_pow_sub_succ (s.l[c / 64]).toNat_lt,decide_eq_true (by omega),Bool.true_and]
theorem BE (s:ay):fI (fI s)=s:=by
 apply mX
 intro c hc
 rw [mY _ _ hc,mY _ _ hc,Bool.not_not]
theorem Dp (s:ay) (k:Nat) (hk:k≤256):(be (fI s) k).length+(be s k).length=k:=by
 induction k with
 | zero=>rfl
 | succ k ih=>
  have:=ih (by omega)
  rw [nD,nD,List.length_append,List.length_append,mY _ _ (by omega)]
  cases aS s k <;> simp <;> omega
end Go.Proofs.YtnbceeholnkfeaaGreatDoor
namespace Go.Proofs.YtnbceeholnkfeaaGreatDoor
def tx (c:UInt8):List UInt8:=if c.toNat=10 then [92,110] else [c]
def spc (c:UInt8):Bool:=decide (c.toNat=93) || (decide (c.toNat=91) || (decide (c.toNat=92) || (decide (c.toNat=94) || decide (c.toNat=45))))
def txm (c:UInt8):List UInt8:=if spc c=true then [] else tx c
def bQ (s:ay) (c:UInt8):Bool:=aS s c.toNat
def cR (s:ay):List UInt8:=if bQ s 93=true then [93] else []
def jG (s:ay):List UInt8:=(be s 256).flatMap txm
def dM (b:Bool):List UInt8:=if b=true then [45,94] else [91,92,94,45]
def fz (neg:Bool) (s:ay):Bool:=decide (neg=false∧cR s++jG s=[]∧bQ s 91=false∧bQ s 92=false)
def fT (neg:Bool):List UInt8:=if neg=true then [91,94] else [91]
def fU (neg:Bool) (s:ay):List UInt8:=fT neg++(cR s++jG s)++(dM (fz neg s)).filter (bQ s)++[93]
def rB (s:ay):Bool:=decide ((be s 256).length=0∨(128<(be s 256).length∧(be s 256).length<256)∨s=ofS [94])
def jH (s:ay):List UInt8:=if rB s=true then fU true (fI s) else fU false s
theorem vP (c:UInt8):(tx c).length≤2∧1≤(tx c).length:=by unfold tx;split <;> simp
theorem Dj (c:UInt8):(txm c).length≤2:=by
 unfold txm
 split
 ·simp
 ·exact (vP c).1
theorem vQ (l:List UInt8):(l.flatMap txm).length≤2 * l.length:=by
 induction l with
 | nil=>simp
 | cons c l ih=>rw [List.flatMap_cons,List.length_append,List.length_cons];have:=Dj c;omega
theorem Dk (s:ay) (o:List UInt8) (b:Bool) (ho:o.length≤10000):kc s o (dM b) (o++(dM b).filter (bQ s)++[93]):=by
 have htl:(dM b).length≤4:=by unfold dM;split <;> simp
 refine ct (fun (st:List UInt8×Int) m=>∃ k:Nat,k≤(dM b).length∧m=(dM b).length - k∧st=(o++((dM b).take k).filter (bQ s),(k:Int))) _ ⟨0,by omega,rfl,by simp⟩ ?_
 rintro _ m ⟨k,hk,rfl,rfl⟩
 show pc (dM b) s _ (o++((dM b).take k).filter (bQ s)) (k:Int) _
 have hfl:(((dM b).take k).filter (bQ s)).length≤4:=Nat.le_trans (List.length_filter_le _ _) (by rw [List.length_take];omega)
 refine ab (fun h=>at_ (by omega) (by omega) fun c hc=>⟨_,oA s c,?_⟩) fun h=>?_
 ·rw [Int.toNat_natCast] at hc
  have ht:(dM b).take (k+1)=(dM b).take k++[c]:=by rw [List.take_add_one,hc];rfl
  refine ab (fun h2=>dD (by rw [List.length_append,List.length_singleton];omega) (by omega) (au (by omega) ⟨(dM b).length - (k+1),by omega,k+1,by omega,rfl,?_⟩)) fun h2=>au (by omega) ⟨(dM b).length - (k+1),by omega,k+1,by omega,rfl,?_⟩
  ·rw [ht,List.filter_append,List.filter_cons_of_pos (show bQ s c=true from h2),List.filter_nil,List.append_assoc];rfl
  ·rw [ht,List.filter_append,List.filter_cons_of_neg (show ¬ bQ s c=true from h2),List.filter_nil,List.append_nil];rfl
 ·rw [List.take_of_length_le (by omega)] at hfl ⊢
  exact dD (by rw [List.length_append,List.length_singleton];omega) (by omega) rfl
theorem zK (s:ay) (neg:Bool):kd s (fT neg++cR s) (fU neg s):=by
 have hul:=mf s 256
 have hol:(fT neg++cR s).length≤3:=by
  unfold fT cR
  rw [List.length_append]
  split <;> split <;> simp
 refine ⟨_,rC s,?_⟩
 refine ct (fun (st:List UInt8×Int) m=>∃ k:Nat,k≤(be s 256).length∧m=(be s 256).length - k∧st=(fT neg++cR s++((be s 256).take k).flatMap txm,(k:Int))) _ ⟨0,by omega,rfl,by simp⟩ ?_
 rintro _ m ⟨k,hk,rfl,rfl⟩
 show pd (be s 256) s _ (fT neg++cR s++((be s 256).take k).flatMap txm) (k:Int) _
 have hml:=vQ ((be s 256).take k)
 rw [List.length_take] at hml
 refine ab (fun h=>at_ (by omega) (by omega) fun c hc=>?_) fun h=>?_
 ·rw [Int.toNat_natCast] at hc
  have ht:((be s 256).take (k+1)).flatMap txm=((be s 256).take k).flatMap txm++txm c:=by rw [List.take_add_one,hc,List.flatMap_append];simp
  have key:∀ z:Bool,(z=spc c)→fB (k:Int) (fun s'=>∃ m',m'<(be s 256).length - k∧∃ k:Nat,k≤(be s 256).length∧m'=(be s 256).length - k∧s'=(fT neg++cR s++((be s 256).take k).flatMap txm,(k:Int))) (fT neg++cR s++((be s 256).take k).flatMap txm) c z (fU neg s):=by
   intro z hz
   refine ab (fun h2=>au (by omega) ⟨(be s 256).length - (k+1),by omega,k+1,by omega,rfl,?_⟩) fun h2=>ab (fun h3=>dD (by rw [List.length_append];simp only [List.length_cons,List.length_nil];omega) (by omega) (au (by omega) ⟨(be s 256).length - (k+1),by omega,k+1,by omega,rfl,?_⟩)) fun h3=>dD (by rw [List.length_append];simp only [List.length_cons,List.length_nil];omega) (by omega) (au (by omega) ⟨(be s 256).length - (k+1),by omega,k+1,by omega,rfl,?_⟩)
   ·rw [ht,show txm c=[] from by unfold txm;rw [if_pos (by rw [← hz];exact h2)],List.append_nil];rfl
   ·rw [ht,show txm c=[92,110] from by unfold txm tx;rw [if_neg (by rw [← hz];exact h2),if_pos (by omega)],List.append_assoc];rfl
   ·rw [ht,show txm c=[c] from by unfold txm tx;rw [if_neg (by rw [← hz];exact h2),if_neg (by omega)],List.append_assoc];rfl
  have sp:∀ v:Nat,c.toNat=v→(v=93∨v=91∨v=92∨v=94∨v=45)→spc c=true:=fun v h1 h2=>by
   unfold spc
   simp only [Bool.or_eq_true,decide_eq_true_eq]
   omega
  refine ab (fun h1=>key _ (by rw [decide_eq_true h1,sp 93 (by omega) (by omega)])) fun h1=>ab (fun h2=>key _ (by rw [decide_eq_true h2,sp 91 (by omega) (by omega)])) fun h2=>ab (fun h3=>key _ (by rw [decide_eq_true h3,sp 92 (by omega) (by omega)])) fun h3=>ab (fun h4=>key _ (by rw [decide_eq_true h4,sp 94 (by omega) (by omega)])) fun h4=>key _ ?_
  unfold spc
  rw [decide_eq_false (show ¬ c.toNat=93 by omega),decide_eq_false (show ¬ c.toNat=91 by omega),decide_eq_false (show ¬ c.toNat=92 by omega),decide_eq_false (show ¬ c.toNat=94 by omega)]
  simp only [Bool.false_or]
  rw [decide_eq_decide];omega
 ·rw [List.take_of_length_le (by omega)] at hml ⊢
  have hj:∀ b,b=fz neg s→iY s (fT neg++cR s++jG s) b (fU neg s):=fun b hb=>by
   have:=Dk s (fT neg++cR s++jG s) b (by rw [List.length_append];unfold jG;omega)
   have hts:fU neg s=fT neg++cR s++jG s++(dM b).filter (bQ s)++[93]:=by unfold fU;rw [hb,← List.append_assoc (fT neg)]
   rw [← hts] at this
   refine ab (fun h=>?_) fun h=>?_
   ·rw [h] at this;exact this
   ·rw [show b=false from by simpa using h] at this;exact this
  have hal:∀ p:Prop,[Decidable p]→(fz neg s=true→p)→¬ p→fz neg s=false:=fun p _ h1 h2=>by
   cases h:fz neg s
   ·rfl
   ·exact absurd (h1 h) h2
  have h1l:fz neg s=true→((fT neg++cR s++jG s).length:Int)=1:=fun h=>by
   obtain ⟨h1,h2,_⟩:=of_decide_eq_true h
   rw [List.append_assoc,h2,h1];rfl
  refine ab (fun h1=>⟨_,oA s 91,ab (fun h2=>⟨_,oA s 92,hj _ ?_⟩) fun h2=>hj _ ?_⟩) fun h1=>hj _ ?_
  ·have h2:bQ s 91=false:=Bool.eq_false_iff.2 h2
   have hm:neg=false∧cR s++jG s=[]:=by
    have h1:(fT neg++cR s++jG s).length=1:=by
     have h1:((fT neg++cR s++jG s).length:Int)=1:=h1
     omega
    rw [List.append_assoc,List.length_append] at h1
    cases neg with
    | true=>rw [show (fT true).length=2 from rfl] at h1;omega
    | false=>exact ⟨rfl,List.eq_nil_of_length_eq_zero (by simp [fT] at h1;simp [h1])⟩
   show (!(bQ s 92))=fz neg s
   unfold fz
   cases h3:bQ s 92 with
   | true=>rw [decide_eq_false (by rintro ⟨_,_,_,h⟩;cases h)];rfl
   | false=>rw [decide_eq_true ⟨hm.1,hm.2,h2,rfl⟩];rfl
  ·have h2:bQ s 91=true:=Decidable.of_not_not h2
   refine (hal (bQ s 91=false) (fun h=>(of_decide_eq_true h).2.2.1) (by rw [h2];decide)).symm
  ·exact (hal _ h1l h1).symm
theorem vR (s:ay) (neg:Bool):ke (fT neg) s (fU neg s):=by
 refine ⟨_,oA s 93,ab (fun h=>dD (by unfold fT;split <;> simp) (by omega) ?_) fun h=>?_⟩
 ·have:=zK s neg
  unfold cR at this
  rwa [if_pos (show bQ s 93=true from h)] at this
 ·have:=zK s neg
  unfold cR at this
  rwa [if_neg (show ¬ bQ s 93=true from h),List.append_nil] at this
theorem Dl (s:ay):nb s (jH s):=by
 have hul:=mf s 256
 have hj:∀ b,b=rB s→gt s b (jH s):=fun b hb=>by
  unfold jH
  rw [← hb]
  refine ab (fun h=>dD (by simp) (by omega) ⟨_,rM s,?_⟩) fun h=>?_
  ·rw [if_pos h]
   exact vR (fI s) true
  ·rw [if_neg h]
   exact vR s false
 refine ⟨_,BD s,ab (fun h=>hj _ ?_) fun h=>ab (fun h2=>ab (fun h3=>hj _ ?_) fun h3=>⟨_,oE [94] (by simp),hj _ ?_⟩) fun h2=>⟨_,oE [94] (by simp),hj _ ?_⟩⟩
 ·unfold rB;rw [decide_eq_true (Or.inl (by omega))]
 ·unfold rB;rw [decide_eq_true (Or.inr (Or.inl ⟨by omega,by omega⟩))]
 ·unfold rB;rw [decide_eq_decide]
  exact ⟨fun h=>Or.inr (Or.inr h),fun h=>by
   rcases h with h | ⟨_,h⟩| h
   ·omega
   ·omega
   ·exact h⟩
 ·unfold rB;rw [decide_eq_decide]
  exact ⟨fun h=>Or.inr (Or.inr h),fun h=>by
   rcases h with h | ⟨h,_⟩| h
   ·omega
   ·omega
   ·exact h⟩
theorem By (neg:Bool) (s:ay):(fU neg s).length≤600:=by
 unfold fU
 have h1:=mf s 256
 have h2:=vQ (be s 256)
 have h3:(fT neg).length≤2:=by unfold fT;split <;> simp
 have h4:(cR s).length≤1:=by unfold cR;split <;> simp
 have h5:((dM (fz neg s)).filter (bQ s)).length≤4:=Nat.le_trans (List.length_filter_le _ _) (by unfold dM;split <;> simp)
 unfold jG
 simp only [List.length_append,List.length_cons,List.length_nil]
 omega
end Go.Proofs.YtnbceeholnkfeaaGreatDoor
