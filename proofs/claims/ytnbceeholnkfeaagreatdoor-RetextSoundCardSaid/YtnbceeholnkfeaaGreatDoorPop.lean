/- How many bits a word has, by parts. -/
import Derived.Below
import Derived.Test.YtnbceeholnkfeaaGreatDoorBrS
namespace Go.Proofs.YtnbceeholnkfeaaGreatDoor
def aS : List Nat→Nat
 | []=>0
 | b :: l=>b + 256 * aS l
theorem nT {b c v m : Nat} (hb : b < 256) (hc : c < 256) : (b + 256 * v) &&& (c + 256 * m) = (b &&& c) + 256 * (v &&& m):=by
 have h1 : ((b + 256 * v) &&& (c + 256 * m)) % 2 ^ 8 = b &&& c:=by
  rw [Nat.and_mod_two_pow,show (b + 256 * v) % 2 ^ 8 = b by omega,show (c + 256 * m) % 2 ^ 8 = c by omega]
 have h2 : ((b + 256 * v) &&& (c + 256 * m)) / 2 ^ 8 = v &&& m:=by
  rw [Nat.and_div_two_pow,show (b + 256 * v) / 2 ^ 8 = v by omega,show (c + 256 * m) / 2 ^ 8 = m by omega]
 omega
theorem qf (c : Nat) (hc : c < 256) : ∀ l : List Nat,(∀ b∈l,b < 256)→aS l &&& aS (List.replicate l.length c) = aS (l.map (· &&& c))
 | [],_=>Nat.zero_and 0
 | b :: l,h=>by
  show (b + 256 * aS l) &&& (c + 256 * aS (List.replicate l.length c)) = _
  rw [nT (h b (by simp)) hc,qf c hc l fun x hx=>h x (by simp [hx])]
  rfl
theorem qg (f g : Nat→Nat) : ∀ l : List Nat,aS (l.map f) + aS (l.map g) = aS (l.map fun b=>f b + g b)
 | []=>rfl
 | b :: l=>by
  have ih:=qg f g l
  show (f b + 256 * aS (l.map f)) + (g b + 256 * aS (l.map g)) = (f b + g b) + 256 * aS (l.map fun b=>f b + g b)
  omega
theorem tB : ∀ l : List Nat,(∀ b∈l,b < 256)→(aS l / 2) &&& aS (List.replicate l.length 85) = aS (l.map fun b=>(b / 2) &&& 85)
 | [],_=>rfl
 | b :: l,h=>by
  have hb:=h b (by simp)
  show ((b + 256 * aS l) / 2) &&& (85 + 256 * aS (List.replicate l.length 85)) = ((b / 2) &&& 85) + 256 * aS (l.map fun b=>(b / 2) &&& 85)
  rw [show (b + 256 * aS l) / 2 = (b / 2 + 128 * (aS l % 2)) + 256 * (aS l / 2) by omega,nT (by omega) (by omega),tB l fun x hx=>h x (by simp [hx])]
  congr 1
  have : ∀ b : Fin 256,∀ q : Fin 2,(b.1 / 2 + 128 * q.1) &&& 85 = (b.1 / 2) &&& 85:=by decide +kernel
  exact this ⟨b,hb⟩ ⟨aS l % 2,by omega⟩
theorem tC : ∀ l : List Nat,(∀ b∈l,b < 256)→(aS l / 4) &&& aS (List.replicate l.length 51) = aS (l.map fun b=>(b / 4) &&& 51)
 | [],_=>rfl
 | b :: l,h=>by
  have hb:=h b (by simp)
  show ((b + 256 * aS l) / 4) &&& (51 + 256 * aS (List.replicate l.length 51)) = ((b / 4) &&& 51) + 256 * aS (l.map fun b=>(b / 4) &&& 51)
  rw [show (b + 256 * aS l) / 4 = (b / 4 + 64 * (aS l % 4)) + 256 * (aS l / 4) by omega,nT (by omega) (by omega),tC l fun x hx=>h x (by simp [hx])]
  congr 1
  have : ∀ b : Fin 256,∀ q : Fin 4,(b.1 / 4 + 64 * q.1) &&& 51 = (b.1 / 4) &&& 51:=by decide +kernel
  exact this ⟨b,hb⟩ ⟨aS l % 4,by omega⟩
theorem tD : ∀ l : List Nat,(∀ b∈l,b / 16≤4∧b % 16≤4)→(aS l / 16 + aS l) &&& aS (List.replicate l.length 15) = aS (l.map fun b=>b / 16 + b % 16)∧aS l % 16≤4
 | [],_=>⟨rfl,by decide⟩
 | b :: l,h=>by
  have hb:=h b (by simp)
  obtain ⟨ih,hv⟩:=tD l fun x hx=>h x (by simp [hx])
  refine ⟨?_,by show (b + 256 * aS l) % 16≤4;omega⟩
  show ((b + 256 * aS l) / 16 + (b + 256 * aS l)) &&& (15 + 256 * aS (List.replicate l.length 15)) = (b / 16 + b % 16) + 256 * aS (l.map fun b=>b / 16 + b % 16)
  rw [show (b + 256 * aS l) / 16 + (b + 256 * aS l) = (b / 16 + b + 16 * (aS l % 16)) + 256 * (aS l / 16 + aS l) by omega,nT (by omega) (by omega),ih]
  congr 1
  rw [show (15 : Nat) = 2 ^ 4 - 1 from rfl,Nat.and_two_pow_sub_one_eq_mod]
  omega
def pc1 (b : Nat) : Nat:=((b / 2) &&& 85) + (b &&& 85)
def pc2 (b : Nat) : Nat:=((b / 4) &&& 51) + (b &&& 51)
def pc3 (b : Nat) : Nat:=b / 16 + b % 16
def pcB (b : Nat) : Nat:=pc3 (pc2 (pc1 b))
theorem yn : ∀ b : Fin 256,pcB b.1 = b.1 % 2 + b.1 / 2 % 2 + b.1 / 4 % 2 + b.1 / 8 % 2 + b.1 / 16 % 2 + b.1 / 32 % 2 + b.1 / 64 % 2 + b.1 / 128 % 2:=by decide +kernel
theorem pm : ∀ b : Fin 256,pc1 b.1 < 256∧pc2 (pc1 b.1) < 256∧pc2 (pc1 b.1) / 16≤4∧pc2 (pc1 b.1) % 16≤4∧pcB b.1≤8:=by decide +kernel
def fh (x : Nat) : List Nat:=[x % 256,x / 256 % 256,x / 65536 % 256,x / 16777216 % 256,x / 4294967296 % 256,x / 1099511627776 % 256,x / 281474976710656 % 256,x / 72057594037927936 % 256]
theorem vO {x : Nat} (h : x < 18446744073709551616) : aS (fh x) = x:=by
 simp only [fh,aS];omega
theorem wT (x : Nat) : ∀ b∈fh x,b < 256:=by
 intro b hb
 simp only [fh,List.mem_cons,List.not_mem_nil,or_false] at hb
 omega
def qh (x : Nat) : Nat:=((fh x).map pcB).sum
theorem CP : aS (List.replicate 8 85) = 6148914691236517205:=by decide +kernel
theorem CQ : aS (List.replicate 8 51) = 3689348814741910323:=by decide +kernel
theorem CR : aS (List.replicate 8 15) = 1085102592571150095:=by decide +kernel
theorem jS {a : Nat} {l : List Nat} (h : a < 256) : aS (a :: l) / 256 = aS l:=by
 show (a + 256 * aS l) / 256 = _
 omega
theorem pn : ∀ {l : List Nat},(∀ b∈l,b < 256)→aS l < 256 ^ l.length
 | [],_=>by decide
 | b :: l,h=>by
  have h1:=h b (by simp)
  have h2:=pn (l:=l) fun x hx=>h x (by simp [hx])
  show b + 256 * aS l < 256 ^ (l.length + 1)
  rw [Nat.pow_succ]
  omega
theorem sf : ∀ (l : List Nat) (c : Nat),aS (l++[c]) = aS l + 256 ^ l.length * c
 | [],c=>by show c + 256 * 0 = 0 + 1 * c;omega
 | b :: l,c=>by
  show b + 256 * aS (l++[c]) = b + 256 * aS l + 256 ^ (l.length + 1) * c
  rw [sf l c,Nat.pow_succ,Nat.mul_add,Nat.mul_comm (256 ^ l.length) 256,Nat.mul_assoc,Nat.add_assoc]
theorem wU {c0 c1 c2 c3 c4 c5 c6 c7 y3 y4 y5 y6 : Nat} (p0 : c0≤8) (p1 : c1≤8) (p2 : c2≤8) (p3 : c3≤8) (p4 : c4≤8) (p5 : c5≤8) (p6 : c6≤8) (p7 : c7≤8) (h3 : y3 = aS [c0,c1,c2,c3,c4,c5,c6,c7]) (h4 : y4 = y3 + y3 / 256) (h5 : y5 = y4 + y4 / 65536) (h6 : y6 = y5 + y5 / 4294967296) :
  y6 % 128 = c0 + c1 + c2 + c3 + c4 + c5 + c6 + c7∧y3 < 18446744073709551616∧y4 < 18446744073709551616∧y5 < 18446744073709551616∧y6 < 9223372036854775808:=by
 have e4 : y4 = aS [c0 + c1,c1 + c2,c2 + c3,c3 + c4,c4 + c5,c5 + c6,c6 + c7,c7]:=by
  rw [h4,h3,jS (by omega)]
  simp only [aS]
  omega
 have e5 : y5 = aS [c0 + c1 + c2 + c3,c1 + c2 + c3 + c4,c2 + c3 + c4 + c5,c3 + c4 + c5 + c6,c4 + c5 + c6 + c7,c5 + c6 + c7,c6 + c7,c7]:=by
  rw [h5,show (65536 : Nat) = 256 * 256 from rfl,← Nat.div_div_eq_div_mul,e4,jS (by omega),jS (by omega)]
  simp only [aS]
  omega
 have e6 : y6 = aS [c0 + c1 + c2 + c3 + c4 + c5 + c6 + c7,c1 + c2 + c3 + c4 + c5 + c6 + c7,c2 + c3 + c4 + c5 + c6 + c7,c3 + c4 + c5 + c6 + c7,c4 + c5 + c6 + c7,c5 + c6 + c7,c6 + c7,c7]:=by
  rw [h6,show (4294967296 : Nat) = 256 * 256 * 256 * 256 from rfl,← Nat.div_div_eq_div_mul,← Nat.div_div_eq_div_mul,← Nat.div_div_eq_div_mul,e5,jS (by omega),jS (by omega),jS (by omega),jS (by omega)]
  simp only [aS]
  omega
 have lt : ∀ a0 a1 a2 a3 a4 a5 a6 a7 : Nat,a0 < 256→a1 < 256→a2 < 256→a3 < 256→a4 < 256→a5 < 256→a6 < 256→a7 < 256→aS [a0,a1,a2,a3,a4,a5,a6,a7] < 18446744073709551616:=by
  intro a0 a1 a2 a3 a4 a5 a6 a7 h0 h1 h2 h3 h4 h5 h6 h7
  refine Nat.lt_of_lt_of_le (pn ?_) (show 256 ^ 8≤18446744073709551616 by decide)
  intro b hb
  simp only [List.mem_cons,List.not_mem_nil,or_false] at hb
  rcases hb with rfl | rfl | rfl | rfl | rfl | rfl | rfl | rfl <;> assumption
 refine ⟨?_,?_,?_,?_,?_⟩
 ·rw [e6]
  show (c0 + c1 + c2 + c3 + c4 + c5 + c6 + c7 + 256 * aS _) % 128 = _
  omega
 ·rw [h3];apply lt <;> omega
 ·rw [e4];apply lt <;> omega
 ·rw [e5];apply lt <;> omega
 ·rw [e6]
  have hv : aS [c0 + c1 + c2 + c3 + c4 + c5 + c6 + c7,c1 + c2 + c3 + c4 + c5 + c6 + c7,c2 + c3 + c4 + c5 + c6 + c7,c3 + c4 + c5 + c6 + c7,c4 + c5 + c6 + c7,c5 + c6 + c7,c6 + c7] < 256 ^ 7:=by
   refine pn (l:=[_,_,_,_,_,_,_]) ?_
   intro b hb
   simp only [List.mem_cons,List.not_mem_nil,or_false] at hb
   rcases hb with rfl | rfl | rfl | rfl | rfl | rfl | rfl <;> omega
  have hs:=sf [c0 + c1 + c2 + c3 + c4 + c5 + c6 + c7,c1 + c2 + c3 + c4 + c5 + c6 + c7,c2 + c3 + c4 + c5 + c6 + c7,c3 + c4 + c5 + c6 + c7,c4 + c5 + c6 + c7,c5 + c6 + c7,c6 + c7] c7
  simp only [List.cons_append,List.nil_append] at hs
  rw [hs]
  generalize aS [c0 + c1 + c2 + c3 + c4 + c5 + c6 + c7,c1 + c2 + c3 + c4 + c5 + c6 + c7,c2 + c3 + c4 + c5 + c6 + c7,c3 + c4 + c5 + c6 + c7,c4 + c5 + c6 + c7,c5 + c6 + c7,c6 + c7] = v at hv
  show v + 256 ^ 7 * c7 < _
  simp only [Nat.reducePow] at hv ⊢
  omega
theorem wV {x y1 y2 y3 y4 y5 y6 : Nat} (hx : x < 18446744073709551616) (h1 : y1 = ((x / 2) &&& 6148914691236517205) + (x &&& 6148914691236517205)) (h2 : y2 = ((y1 / 4) &&& 3689348814741910323) + (y1 &&& 3689348814741910323)) (h3 : y3 = (y2 / 16 + y2) &&& 1085102592571150095)
  (h4 : y4 = y3 + y3 / 256) (h5 : y5 = y4 + y4 / 65536) (h6 : y6 = y5 + y5 / 4294967296) : y6 &&& 127 = qh x∧y1 < 18446744073709551616∧y2 < 18446744073709551616∧y2 / 16 + y2 < 18446744073709551616∧y4 < 18446744073709551616∧y5 < 18446744073709551616∧y6 < 9223372036854775808∧qh x≤64:=by
 have hl:=wT x
 have e1 : y1 = aS ((fh x).map pc1):=by
  have a1:=tB _ hl
  have a2:=qf 85 (by decide) _ hl
  rw [vO hx,show (fh x).length = 8 from rfl,CP] at a1 a2
  rw [h1,a1,a2,qg];rfl
 have l1 : ∀ b∈(fh x).map pc1,b < 256:=by
  intro b hb
  obtain ⟨c,hc,rfl⟩:=List.mem_map.1 hb
  exact (pm ⟨c,hl c hc⟩).1
 have e2 : y2 = aS (((fh x).map pc1).map pc2):=by
  have a1:=tC _ l1
  have a2:=qf 51 (by decide) _ l1
  rw [← e1,show ((fh x).map pc1).length = 8 from rfl,CQ] at a1 a2
  rw [h2,a1,a2,qg];rfl
 have l2 : ∀ b∈((fh x).map pc1).map pc2,b / 16≤4∧b % 16≤4:=by
  intro b hb
  rw [List.map_map] at hb
  obtain ⟨c,hc,rfl⟩:=List.mem_map.1 hb
  exact ⟨(pm ⟨c,hl c hc⟩).2.2.1,(pm ⟨c,hl c hc⟩).2.2.2.1⟩
 have e3 : y3 = aS ((fh x).map pcB):=by
  have a1:=(tD _ l2).1
  rw [← e2,show (((fh x).map pc1).map pc2).length = 8 from rfl,CR] at a1
  rw [h3,a1,List.map_map,List.map_map];rfl
 have b1 : y1 < 256 ^ 8:=by
  rw [e1];exact pn l1
 have b2 : y2 < 68 * 256 ^ 7 + 68 * 256 ^ 7:=by
  rw [e2]
  have hq : ∀ b∈((fh x).map pc1).map pc2,b≤68:=fun b hb=>by have:=l2 b hb;omega
  have hm : ∀ l : List Nat,(∀ b∈l,b≤68)→255 * aS l≤68 * (256 ^ l.length - 1):=by
   intro l
   induction l with
   | nil=>intro _;decide
   | cons b l ih=>
    intro h
    have:=h b (by simp)
    have:=ih fun x hx=>h x (by simp [hx])
    have hp : 0 < 256 ^ l.length:=Nat.pow_pos (by decide)
    show 255 * (b + 256 * aS l)≤68 * (256 ^ (l.length + 1) - 1)
    rw [Nat.pow_succ]
    omega
  have:=hm _ hq
  rw [show (((fh x).map pc1).map pc2).length = 8 from rfl] at this
  omega
 have hc : ∀ b,b < 256→pcB b≤8:=fun b hb=>(pm ⟨b,hb⟩).2.2.2.2
 obtain ⟨s1,s2,s3,s4,s5⟩:=wU (hc _ (Nat.mod_lt x (by decide))) (hc _ (Nat.mod_lt _ (by decide))) (hc _ (Nat.mod_lt _ (by decide))) (hc _ (Nat.mod_lt _ (by decide))) (hc _ (Nat.mod_lt _ (by decide))) (hc _ (Nat.mod_lt _ (by decide))) (hc _ (Nat.mod_lt _ (by decide))) (hc _ (Nat.mod_lt _ (by decide))) e3 h4 h5 h6
 have hp : qh x = pcB (x % 256) + pcB (x / 256 % 256) + pcB (x / 65536 % 256) + pcB (x / 16777216 % 256) + pcB (x / 4294967296 % 256) + pcB (x / 1099511627776 % 256) + pcB (x / 281474976710656 % 256) + pcB (x / 72057594037927936 % 256):=by
  show pcB _ + (pcB _ + (pcB _ + (pcB _ + (pcB _ + (pcB _ + (pcB _ + (pcB _ + 0))))))) = _
  omega
 refine ⟨?_,by omega,by omega,by omega,s3,s4,s5,?_⟩
 ·rw [show (127 : Nat) = 2 ^ 7 - 1 from rfl,Nat.and_two_pow_sub_one_eq_mod,hp];exact s1
 ·rw [hp]
  have:=hc _ (Nat.mod_lt x (show 0 < 256 by decide));have:=hc _ (Nat.mod_lt (x / 256) (show 0 < 256 by decide));have:=hc _ (Nat.mod_lt (x / 65536) (show 0 < 256 by decide));have:=hc _ (Nat.mod_lt (x / 16777216) (show 0 < 256 by decide))
  have:=hc _ (Nat.mod_lt (x / 4294967296) (show 0 < 256 by decide));have:=hc _ (Nat.mod_lt (x / 1099511627776) (show 0 < 256 by decide));have:=hc _ (Nat.mod_lt (x / 281474976710656) (show 0 < 256 by decide));have:=hc _ (Nat.mod_lt (x / 72057594037927936) (show 0 < 256 by decide))
  omega
end Go.Proofs.YtnbceeholnkfeaaGreatDoor
namespace Go.Proofs.YtnbceeholnkfeaaGreatDoor
theorem nB (s : aG) (c : UInt8) : fy s c (aV s c.toNat):=by
 have hc:=c.toNat_lt
 have h1 : (c.toNat : Int).tdiv 64 = ((c.toNat / 64 : Nat) : Int):=td _ 64
 have h2 : (c.toNat : Int).tmod 64 = ((c.toNat % 64 : Nat) : Int):=tm _ 64
 unfold fy
 rw [h1,h2]
 refine ⟨by decide,gZ (by omega) fun c4 h4=>atA (by omega) (by omega) fun y hy=>⟨by decide,vN (by omega) fun c8 h8=>⟨by omega,?_⟩⟩⟩
 have hmin : min ((c8.toNat : Int) : Int).toNat IntKind.u64.bits = c.toNat % 64:=by show min _ 64 = _;omega
 have hyl:=y.toNat_lt
 have hle : y.toNat / 2 ^ (c.toNat % 64)≤y.toNat:=Nat.div_le_self _ _
 rw [hmin,fdp]
 rw [show ((c4.toNat : Int) : Int).toNat = c.toNat / 64 by omega] at hy
 rw [Bc hy]
 generalize y.toNat / 2 ^ (c.toNat % 64) = q at hle
 refine wS (by omega) fun c10 h10=>zF (b:=1) ?_
 rw [ decide_eq_decide,UInt64.toNat_and,show (1 : UInt64).toNat = 1 from rfl,Nat.and_one_is_mod]
 omega
def bT (s : aG) (k : Nat) : List UInt8:=((List.range k).filter (aV s)).map UInt8.ofNat
theorem sx (s : aG) (k : Nat) : bT s (k + 1) = bT s k++(if aV s k = true then [UInt8.ofNat k] else []):=by
 unfold bT
 rw [List.range_succ,List.filter_append,List.map_append]
 congr 1
 by_cases h : aV s k = true <;> simp [h]
theorem lv (s : aG) (k : Nat) : (bT s k).length≤k:=by
 unfold bT
 rw [List.length_map]
 exact Nat.le_trans (List.length_filter_le _ _) (by simp)
theorem qp (s : aG) : jH s (bT s 256):=by
 refine bP (fun st m=>∃ k,k≤256∧m = 256 - k∧st.2 = (k : Int)∧st.1 = bT s k) _ ⟨0,by omega,rfl,rfl,rfl⟩ ?_
 rintro ⟨o,x⟩ m ⟨k,hk,rfl,h1,h2⟩
 simp only at h1 h2
 subst h1;subst h2
 have hl:=lv s k
 show nh s _ (bT s k) (k : Int) _
 refine ab (fun h3=>?_) fun h3=>?_
 ·have hn:=sx s k
  refine gZ (by omega) fun c hc=>⟨_,nB _ _,ab (fun h4=>?_) fun h4=>?_⟩
  ·rw [show c.toNat = k by omega] at h4
   refine gZ (by omega) fun c' hc'=>dN (by simp;omega) (by omega) (aq (by omega) ⟨256 - (k + 1),by omega,k + 1,by omega,rfl,by simp,?_⟩)
   show bT s k++[c'] = _
   rw [hn,if_pos h4,show UInt8.ofNat k = c' from UInt8.toNat_inj.1 (by rw [UInt8.toNat_ofNat_of_lt' (by simp [UInt8.size];omega)];omega)]
  ·rw [show c.toNat = k by omega] at h4
   refine aq (by omega) ⟨256 - (k + 1),by omega,k + 1,by omega,rfl,by simp,?_⟩
   show bT s k = _
   rw [hn,if_neg h4,List.append_nil]
 ·obtain rfl : k = 256:=by omega
  rfl
theorem o3 {a : UInt64} {z : Int} (b : UInt64) {P : UInt64→Prop} (hz : z = (b.toNat : Int)) (k : ∀ c : UInt64,c.toNat = a.toNat &&& b.toNat→P c) : ∃ c : UInt64,(c.toNat : Int) = IntKind.u64.wrap (BitVec.ofInt IntKind.u64.bits (a.toNat : Int) &&& BitVec.ofInt IntKind.u64.bits z).toNat∧P c:=by
 subst hz
 exact zF (k _ (UInt64.toNat_and _ _))
theorem pu {a : UInt64} {z : Int} (j : Nat) {P : UInt64→Prop} (hz : z = (j : Int)) (hj : j≤64) (k : ∀ c : UInt64,c.toNat = a.toNat / 2 ^ j→P c) : (0 : Int)≤z∧∃ c : UInt64,(c.toNat : Int) = ((a.toNat : Int) : Int).fdiv (2 ^ (min (z : Int).toNat IntKind.u64.bits))∧P c:=by
 subst hz
 have hm : min ((j : Int) : Int).toNat IntKind.u64.bits = j:=by show min _ 64 = _;omega
 rw [hm,fdp]
 have h1:=a.toNat_lt
 have h2 : a.toNat / 2 ^ j≤a.toNat:=Nat.div_le_self _ _
 generalize a.toNat / 2 ^ j = q at h2 k
 exact ⟨by omega,wS (by omega) fun c hc=>k c (by omega)⟩
theorem pv {a b : UInt64} {P : UInt64→Prop} (h : a.toNat + b.toNat < 18446744073709551616) (k : ∀ c : UInt64,c.toNat = a.toNat + b.toNat→P c) : ∃ c : UInt64,(c.toNat : Int) = IntKind.u64.wrap ((a.toNat : Int) + (b.toNat : Int))∧P c:=
 qU (by omega) fun c hc=>k c (by omega)
theorem A0 (w : UInt64) : ea w (qh w.toNat : Nat):=by
 obtain ⟨x,hx⟩: ∃ x,x = w.toNat:=⟨_,rfl⟩
 obtain ⟨y1,h1⟩: ∃ y,y = ((x / 2) &&& 6148914691236517205) + (x &&& 6148914691236517205):=⟨_,rfl⟩
 obtain ⟨y2,h2⟩: ∃ y,y = ((y1 / 4) &&& 3689348814741910323) + (y1 &&& 3689348814741910323):=⟨_,rfl⟩
 obtain ⟨y3,h3⟩: ∃ y,y = (y2 / 16 + y2) &&& 1085102592571150095:=⟨_,rfl⟩
 obtain ⟨y4,h4⟩: ∃ y,y = y3 + y3 / 256:=⟨_,rfl⟩
 obtain ⟨y5,h5⟩: ∃ y,y = y4 + y4 / 65536:=⟨_,rfl⟩
 obtain ⟨y6,h6⟩: ∃ y,y = y5 + y5 / 4294967296:=⟨_,rfl⟩
 obtain ⟨g1,g2,g3,g4,g5,g6,g7,g8⟩:=wV (by rw [hx];exact w.toNat_lt) h1 h2 h3 h4 h5 h6
 have n1 : (6148914691236517205 : UInt64).toNat = 6148914691236517205:=by decide +kernel
 have n2 : (3689348814741910323 : UInt64).toNat = 3689348814741910323:=by decide +kernel
 have n3 : (1085102592571150095 : UInt64).toNat = 1085102592571150095:=by decide +kernel
 unfold ea
 refine pu 1 rfl (by decide) fun c3 k3=>o3 6148914691236517205 (by decide +kernel) fun c5 k5=>o3 6148914691236517205 (by decide +kernel) fun c7 k7=>?_
 have q1 : c5.toNat + c7.toNat = y1:=by rw [h1,k5,k7,k3,hx,n1,Nat.pow_one]
 refine pv (by omega) fun c9 k9=>?_
 refine pu 2 rfl (by decide) fun c11 k11=>o3 3689348814741910323 (by decide +kernel) fun c13 k13=>o3 3689348814741910323 (by decide +kernel) fun c15 k15=>?_
 have q2 : c13.toNat + c15.toNat = y2:=by rw [h2,k13,k15,k11,k9,q1,n2]
 refine pv (by omega) fun c17 k17=>?_
 refine pu 4 rfl (by decide) fun c19 k19=>?_
 have q3 : c19.toNat + c17.toNat = y2 / 16 + y2:=by rw [k19,k17,q2]
 refine pv (by omega) fun c21 k21=>o3 1085102592571150095 (by decide +kernel) fun c23 k23=>?_
 have q4 : c23.toNat = y3:=by rw [h3,k23,k21,q3,n3]
 refine pu 8 rfl (by decide) fun c25 k25=>?_
 have q5 : c23.toNat + c25.toNat = y4:=by rw [h4,k25,q4]
 refine pv (by omega) fun c27 k27=>pu 16 rfl (by decide) fun c29 k29=>?_
 have q6 : c27.toNat + c29.toNat = y5:=by rw [h5,k29,k27,q5]
 refine pv (by omega) fun c31 k31=>pu 32 rfl (by decide) fun c33 k33=>?_
 have q7 : c31.toNat + c33.toNat = y6:=by rw [h6,k33,k31,q6]
 refine pv (by omega) fun c35 k35=>exZ ?_
 have e35 : c35.toNat = y6:=by rw [k35,q7]
 have hlt : y6 &&& 127≤127:=Nat.and_le_right
 refine exZ ?_
 have e1 : (BitVec.ofInt IntKind.i64.bits (IntKind.i64.wrap (c35.toNat : Int)) &&& BitVec.ofInt IntKind.i64.bits 127).toNat = y6 &&& 127:=by
  have e2 : BitVec.ofInt IntKind.i64.bits (IntKind.i64.wrap (c35.toNat : Int)) = BitVec.ofNat 64 y6:=by
   rw [IntWalk.i64_in _ (by omega),e35]
   exact BitVec.ofInt_natCast _ _
  rw [e2]
  show (BitVec.ofNat 64 y6 &&& BitVec.ofInt 64 127).toNat = _
  rw [BitVec.toNat_and,BitVec.toNat_ofNat,Nat.mod_eq_of_lt (by omega)]
  rfl
 rw [e1,IntWalk.i64_in _ (by omega),g1,hx]
def pz (s : aG) (i : Nat) : Nat:=(s.l.getD i 0).toNat
def n7 (s : aG) (q : Nat) : Nat:=pz s (q / 8) / 2 ^ (8 * (q % 8)) % 256
theorem za (s : aG) (q j : Nat) (hj : j < 8) : aV s (8 * q + j) = decide (n7 s q / 2 ^ j % 2 = 1):=by
 unfold aV n7 pz
 rw [← tb,show (256 : Nat) = 2 ^ 8 from rfl,Nat.testBit_mod_two_pow,decide_eq_true hj,Bool.true_and,Nat.testBit_div_two_pow,show (8 * q + j) / 64 = q / 8 by omega,show (8 * q + j) % 64 = j + 8 * (q % 8) by omega]
 try (rw [Nat.add_comm])
theorem zb (s : aG) (q j : Nat) (hj : j < 8) : (bT s (8 * q + j + 1)).length = (bT s (8 * q + j)).length + n7 s q / 2 ^ j % 2:=by
 rw [sx,List.length_append,za s q j hj]
 congr 1
 have : n7 s q / 2 ^ j % 2 < 2:=Nat.mod_lt _ (by decide)
 by_cases h : n7 s q / 2 ^ j % 2 = 1
 ·rw [if_pos (decide_eq_true h),h];rfl
 ·rw [if_neg (by rw [decide_eq_false h];decide)]
  simp only [List.length_nil];omega
theorem Ci {x0 x1 x2 x3 x4 x5 x6 x7 x8 t0 t1 t2 t3 t4 t5 t6 t7 p : Nat} (h0 : x1 = x0 + t0) (h1 : x2 = x1 + t1) (h2 : x3 = x2 + t2) (h3 : x4 = x3 + t3) (h4 : x5 = x4 + t4) (h5 : x6 = x5 + t5) (h6 : x7 = x6 + t6) (h7 : x8 = x7 + t7) (hp : p = t0 + t1 + t2 + t3 + t4 + t5 + t6 + t7) : x8 = x0 + p:=by omega
theorem A1 (b : Nat) (hb : b < 256) : pcB b = b / 2 ^ 0 % 2 + b / 2 ^ 1 % 2 + b / 2 ^ 2 % 2 + b / 2 ^ 3 % 2 + b / 2 ^ 4 % 2 + b / 2 ^ 5 % 2 + b / 2 ^ 6 % 2 + b / 2 ^ 7 % 2:=by
 simp only [Nat.reducePow,Nat.div_one]
 exact yn ⟨b,hb⟩
theorem Dc {f : Nat→Nat} {q b : Nat} (hb : b < 256) (h : ∀ j,j < 8→f (8 * q + j + 1) = f (8 * q + j) + b / 2 ^ j % 2) : f (8 * q + 8) = f (8 * q) + pcB b:=
 Ci (h 0 (by decide)) (h 1 (by decide)) (h 2 (by decide)) (h 3 (by decide)) (h 4 (by decide)) (h 5 (by decide)) (h 6 (by decide)) (h 7 (by decide)) (A1 b hb)
theorem Cj {f g : Nat→Nat} {k : Nat} (h : ∀ j,j < 8→f (64 * k + 8 * (j + 1)) = f (64 * k + 8 * j) + g j) : f (64 * (k + 1)) = f (64 * k) + (g 0 + (g 1 + (g 2 + (g 3 + (g 4 + (g 5 + (g 6 + (g 7 + 0)))))))):=by
 have h0:=h 0 (by decide);have h1:=h 1 (by decide);have h2:=h 2 (by decide);have h3:=h 3 (by decide)
 have h4:=h 4 (by decide);have h5:=h 5 (by decide);have h6:=h 6 (by decide);have h7:=h 7 (by decide)
 simp only [Nat.reduceMul,Nat.reduceAdd,Nat.add_zero] at h0 h1 h2 h3 h4 h5 h6 h7
 rw [show 64 * (k + 1) = 64 * k + 64 by omega,h7,h6,h5,h4,h3,h2,h1,h0]
 simp only [Nat.add_assoc,Nat.add_zero]
theorem zc (s : aG) (q : Nat) : (bT s (8 * (q + 1))).length = (bT s (8 * q)).length + pcB (n7 s q):=
 Dc (f:=fun n=>(bT s n).length) (Nat.mod_lt _ (by decide)) fun j hj=>zb s q j hj
theorem A2 (x : Nat) : qh x = pcB (x / 2 ^ (8 * 0) % 256) + (pcB (x / 2 ^ (8 * 1) % 256) + (pcB (x / 2 ^ (8 * 2) % 256) + (pcB (x / 2 ^ (8 * 3) % 256) + (pcB (x / 2 ^ (8 * 4) % 256) + (pcB (x / 2 ^ (8 * 5) % 256) + (pcB (x / 2 ^ (8 * 6) % 256) + (pcB (x / 2 ^ (8 * 7) % 256) + 0))))))):=by
 simp only [Nat.reduceMul,Nat.reducePow,Nat.div_one,qh,fh,List.map_cons,List.map_nil,List.sum_cons,List.sum_nil]
theorem zd (s : aG) (k : Nat) : (bT s (64 * (k + 1))).length = (bT s (64 * k)).length + qh (pz s k):=by
 rw [A2]
 refine Cj (f:=fun n=>(bT s n).length) (g:=fun j=>pcB (pz s k / 2 ^ (8 * j) % 256)) fun j hj=>?_
 have:=zc s (8 * k + j)
 unfold n7 at this
 rw [show (8 * k + j) / 8 = k by omega,show (8 * k + j) % 8 = j by omega,show 8 * (8 * k + j + 1) = 64 * k + 8 * (j + 1) by omega,show 8 * (8 * k + j) = 64 * k + 8 * j by omega] at this
 exact this
theorem ze (s : aG) : lS s ((bT s 256).length : Nat):=by
 refine bP (fun st m=>∃ k,k≤4∧m = 4 - k∧st.1 = ((bT s (64 * k)).length : Int)∧st.2 = (k : Int)) 4 ⟨0,by omega,rfl,rfl,rfl⟩ ?_
 rintro ⟨n,i⟩ m ⟨k,hk,rfl,h1,h2⟩
 simp only at h1 h2
 subst h1;subst h2
 show ni s _ ((bT s (64 * k)).length : Int) (k : Int) _
 have hl:=lv s (64 * k)
 refine ab (fun h3=>?_) fun h3=>?_
 ·refine atA (by omega) (by omega) fun y hy=>⟨_,A0 y,?_⟩
  rw [Int.toNat_natCast] at hy
  have hw : pz s k = y.toNat:=by unfold pz;rw [List.getD_eq_getElem?_getD,hy];rfl
  have hc:=zd s k
  have hl2:=lv s (64 * (k + 1))
  rw [hw] at hc
  exact aq (by omega) (aq (by omega) ⟨4 - (k + 1),by omega,k + 1,by omega,rfl,by show _ = _;simp only;rw [hc];simp,by simp⟩)
 ·obtain rfl : k = 4:=by omega
  rfl
theorem u6 (s : aG) (c : Nat) (hc : c < 256) : aV (ic s) c = !aV s c:=by
 have h1 : c / 64 < s.l.length:=by rw [s.len];omega
 unfold aV ic
 simp only [List.getD_eq_getElem?_getD,List.getElem?_map,List.getElem?_eq_getElem h1,Option.map_some,Option.getD_some,UInt64.toNat_not]
 rw [show UInt64.size - 1 - (s.l[c / 64]).toNat = 2 ^ 64 - ((s.l[c / 64]).toNat + 1) by simp [UInt64.size],Nat.testBit_two_pow_sub_succ (s.l[c / 64]).toNat_lt,decide_eq_true (by omega),Bool.true_and]
end Go.Proofs.YtnbceeholnkfeaaGreatDoor
namespace Go.Proofs.YtnbceeholnkfeaaGreatDoor
def tx (c : UInt8) : List UInt8:=if c.toNat = 10 then [92,110] else [c]
def spc (c : UInt8) : Bool:=decide (c.toNat = 93) || (decide (c.toNat = 91) || (decide (c.toNat = 92) || (decide (c.toNat = 94) || decide (c.toNat = 45))))
def txm (c : UInt8) : List UInt8:=if spc c = true then [] else tx c
def iy (s : aG) (c : UInt8) : Bool:=aV s c.toNat
def e9 (s : aG) : List UInt8:=if iy s 93 = true then [93] else []
def mF (s : aG) : List UInt8:=(bT s 256).flatMap txm
def fL (b : Bool) : List UInt8:=if b = true then [45,94] else [91,92,94,45]
def me (neg : Bool) (s : aG) : Bool:=decide (neg = false∧e9 s++mF s = []∧iy s 91 = false∧iy s 92 = false)
def gz (neg : Bool) : List UInt8:=if neg = true then [91,94] else [91]
def lA (neg : Bool) (s : aG) : List UInt8:=gz neg++(e9 s++mF s)++(fL (me neg s)).filter (iy s)++[93]
def rU (s : aG) : Bool:=decide ((bT s 256).length = 0∨(128 < (bT s 256).length∧(bT s 256).length < 256)∨s = ofS [94])
def o0 (s : aG) : List UInt8:=if rU s = true then lA true (ic s) else lA false s
theorem Ch (c : UInt8) : (tx c).length≤2∧1≤(tx c).length:=by unfold tx;split <;> simp
theorem AX (c : UInt8) : (txm c).length≤2:=by
 unfold txm
 split
 ·simp
 ·exact (Ch c).1
theorem uj (l : List UInt8) : (l.flatMap txm).length≤2 * l.length:=by
 induction l with
 | nil=>simp
 | cons c l ih=>rw [List.flatMap_cons,List.length_append,List.length_cons];have:=AX c;omega
theorem AY (s : aG) (o : List UInt8) (b : Bool) (ho : o.length≤10000) : jI s o (fL b) (o++(fL b).filter (iy s)++[93]):=by
 have htl : (fL b).length≤4:=by unfold fL;split <;> simp
 refine bP (fun (st : List UInt8×Int) m=>∃ k : Nat,k≤(fL b).length∧m = (fL b).length - k∧st = (o++((fL b).take k).filter (iy s),(k : Int))) _ ⟨0,by omega,rfl,by simp⟩ ?_
 rintro _ m ⟨k,hk,rfl,rfl⟩
 show og (fL b) s _ (o++((fL b).take k).filter (iy s)) (k : Int) _
 have hfl : (((fL b).take k).filter (iy s)).length≤4:=Nat.le_trans (List.length_filter_le _ _) (by rw [List.length_take];omega)
 refine ab (fun h=>at_ (by omega) (by omega) fun c hc=>⟨_,nB s c,?_⟩) fun h=>?_
 ·rw [Int.toNat_natCast] at hc
  have ht : (fL b).take (k + 1) = (fL b).take k++[c]:=by rw [List.take_add_one,hc];rfl
  refine ab (fun h2=>dN (by rw [List.length_append,List.length_singleton];omega) (by omega) (aq (by omega) ⟨(fL b).length - (k + 1),by omega,k + 1,by omega,rfl,?_⟩)) fun h2=>aq (by omega) ⟨(fL b).length - (k + 1),by omega,k + 1,by omega,rfl,?_⟩
  ·rw [ht,List.filter_append,List.filter_cons_of_pos (show iy s c = true from h2),List.filter_nil,List.append_assoc];rfl
  ·rw [ht,List.filter_append,List.filter_cons_of_neg (show ¬ iy s c = true from h2),List.filter_nil,List.append_nil];rfl
 ·rw [List.take_of_length_le (by omega)] at hfl ⊢
  exact dN (by rw [List.length_append,List.length_singleton];omega) (by omega) rfl
theorem xq (s : aG) (neg : Bool) : jJ s (gz neg++e9 s) (lA neg s):=by
 have hul:=lv s 256
 have hol : (gz neg++e9 s).length≤3:=by
  unfold gz e9
  rw [List.length_append]
  split <;> split <;> simp
 refine ⟨_,qp s,?_⟩
 refine bP (fun (st : List UInt8×Int) m=>∃ k : Nat,k≤(bT s 256).length∧m = (bT s 256).length - k∧st = (gz neg++e9 s++((bT s 256).take k).flatMap txm,(k : Int))) _ ⟨0,by omega,rfl,by simp⟩ ?_
 rintro _ m ⟨k,hk,rfl,rfl⟩
 show oh (bT s 256) s _ (gz neg++e9 s++((bT s 256).take k).flatMap txm) (k : Int) _
 have hml:=uj ((bT s 256).take k)
 rw [List.length_take] at hml
 refine ab (fun h=>at_ (by omega) (by omega) fun c hc=>?_) fun h=>?_
 ·rw [Int.toNat_natCast] at hc
  have ht : ((bT s 256).take (k + 1)).flatMap txm = ((bT s 256).take k).flatMap txm++txm c:=by rw [List.take_add_one,hc,List.flatMap_append];simp
  have key : ∀ z : Bool,(z = spc c)→fa (k : Int) (fun s'=>∃ m',m' < (bT s 256).length - k∧∃ k : Nat,k≤(bT s 256).length∧m' = (bT s 256).length - k∧s' = (gz neg++e9 s++((bT s 256).take k).flatMap txm,(k : Int))) (gz neg++e9 s++((bT s 256).take k).flatMap txm) c z (lA neg s):=by
   intro z hz
   refine ab (fun h2=>aq (by omega) ⟨(bT s 256).length - (k + 1),by omega,k + 1,by omega,rfl,?_⟩) fun h2=>ab (fun h3=>dN (by rw [List.length_append];simp only [List.length_cons,List.length_nil];omega) (by omega) (aq (by omega) ⟨(bT s 256).length - (k + 1),by omega,k + 1,by omega,rfl,?_⟩)) fun h3=>dN (by rw [List.length_append];simp only [List.length_cons,List.length_nil];omega) (by omega) (aq (by omega) ⟨(bT s 256).length - (k + 1),by omega,k + 1,by omega,rfl,?_⟩)
   ·rw [ht,show txm c = [] from by unfold txm;rw [if_pos (by rw [← hz];exact h2)],List.append_nil];rfl
   ·rw [ht,show txm c = [92,110] from by unfold txm tx;rw [if_neg (by rw [← hz];exact h2),if_pos (by omega)],List.append_assoc];rfl
   ·rw [ht,show txm c = [c] from by unfold txm tx;rw [if_neg (by rw [← hz];exact h2),if_neg (by omega)],List.append_assoc];rfl
  have sp : ∀ v : Nat,c.toNat = v→(v = 93∨v = 91∨v = 92∨v = 94∨v = 45)→spc c = true:=fun v h1 h2=>by
   unfold spc
   simp only [Bool.or_eq_true,decide_eq_true_eq]
   omega
  refine ab (fun h1=>key _ (by rw [decide_eq_true h1,sp 93 (by omega) (by omega)])) fun h1=>ab (fun h2=>key _ (by rw [decide_eq_true h2,sp 91 (by omega) (by omega)])) fun h2=>ab (fun h3=>key _ (by rw [decide_eq_true h3,sp 92 (by omega) (by omega)])) fun h3=>ab (fun h4=>key _ (by rw [decide_eq_true h4,sp 94 (by omega) (by omega)])) fun h4=>key _ ?_
  unfold spc
  rw [decide_eq_false (show ¬ c.toNat = 93 by omega),decide_eq_false (show ¬ c.toNat = 91 by omega),decide_eq_false (show ¬ c.toNat = 92 by omega),decide_eq_false (show ¬ c.toNat = 94 by omega)]
  simp only [Bool.false_or]
  rw [decide_eq_decide];omega
 ·rw [List.take_of_length_le (by omega)] at hml ⊢
  have hj : ∀ b,b = me neg s→iD s (gz neg++e9 s++mF s) b (lA neg s):=fun b hb=>by
   have:=AY s (gz neg++e9 s++mF s) b (by rw [List.length_append];unfold mF;omega)
   have hts : lA neg s = gz neg++e9 s++mF s++(fL b).filter (iy s)++[93]:=by unfold lA;rw [hb,← List.append_assoc (gz neg)]
   rw [← hts] at this
   refine ab (fun h=>?_) fun h=>?_
   ·rw [h] at this;exact this
   ·rw [show b = false from by simpa using h] at this;exact this
  have hal : ∀ p : Prop,[Decidable p]→(me neg s = true→p)→¬ p→me neg s = false:=fun p _ h1 h2=>by
   cases h : me neg s
   ·rfl
   ·exact absurd (h1 h) h2
  have h1l : me neg s = true→((gz neg++e9 s++mF s).length : Int) = 1:=fun h=>by
   obtain ⟨h1,h2,_⟩:=of_decide_eq_true h
   rw [List.append_assoc,h2,h1];rfl
  refine ab (fun h1=>⟨_,nB s 91,ab (fun h2=>⟨_,nB s 92,hj _ ?_⟩) fun h2=>hj _ ?_⟩) fun h1=>hj _ ?_
  ·have h2 : iy s 91 = false:=Bool.eq_false_iff.2 h2
   have hm : neg = false∧e9 s++mF s = []:=by
    have h1 : (gz neg++e9 s++mF s).length = 1:=by
     have h1 : ((gz neg++e9 s++mF s).length : Int) = 1:=h1
     omega
    rw [List.append_assoc,List.length_append] at h1
    cases neg with
    | true=>rw [show (gz true).length = 2 from rfl] at h1;omega
    | false=>exact ⟨rfl,List.eq_nil_of_length_eq_zero (by simp [gz] at h1;simp [h1])⟩
   show (!(iy s 92)) = me neg s
   unfold me
   cases h3 : iy s 92 with
   | true=>rw [decide_eq_false (by rintro ⟨_,_,_,h⟩;cases h)];rfl
   | false=>rw [decide_eq_true ⟨hm.1,hm.2,h2,rfl⟩];rfl
  ·have h2 : iy s 91 = true:=Decidable.of_not_not h2
   refine (hal (iy s 91 = false) (fun h=>(of_decide_eq_true h).2.2.1) (by rw [h2];decide)).symm
  ·exact (hal _ h1l h1).symm
theorem uk (s : aG) (neg : Bool) : jK (gz neg) s (lA neg s):=by
 refine ⟨_,nB s 93,ab (fun h=>dN (by unfold gz;split <;> simp) (by omega) ?_) fun h=>?_⟩
 ·have:=xq s neg
  unfold e9 at this
  rwa [if_pos (show iy s 93 = true from h)] at this
 ·have:=xq s neg
  unfold e9 at this
  rwa [if_neg (show ¬ iy s 93 = true from h),List.append_nil] at this
theorem AZ (s : aG) : mr s (o0 s):=by
 have hul:=lv s 256
 have hj : ∀ b,b = rU s→fR s b (o0 s):=fun b hb=>by
  unfold o0
  rw [← hb]
  refine ab (fun h=>dN (by simp) (by omega) ⟨_,qy s,?_⟩) fun h=>?_
  ·rw [if_pos h]
   exact uk (ic s) true
  ·rw [if_neg h]
   exact uk s false
 refine ⟨_,ze s,ab (fun h=>hj _ ?_) fun h=>ab (fun h2=>ab (fun h3=>hj _ ?_) fun h3=>⟨_,nF [94] (by simp),hj _ ?_⟩) fun h2=>⟨_,nF [94] (by simp),hj _ ?_⟩⟩
 ·unfold rU;rw [decide_eq_true (Or.inl (by omega))]
 ·unfold rU;rw [decide_eq_true (Or.inr (Or.inl ⟨by omega,by omega⟩))]
 ·unfold rU;rw [decide_eq_decide]
  exact ⟨fun h=>Or.inr (Or.inr h),fun h=>by
   rcases h with h | ⟨_,h⟩| h
   ·omega
   ·omega
   ·exact h⟩
 ·unfold rU;rw [decide_eq_decide]
  exact ⟨fun h=>Or.inr (Or.inr h),fun h=>by
   rcases h with h | ⟨h,_⟩| h
   ·omega
   ·omega
   ·exact h⟩
theorem yZ (neg : Bool) (s : aG) : (lA neg s).length≤600:=by
 unfold lA
 have h1:=lv s 256
 have h2:=uj (bT s 256)
 have h3 : (gz neg).length≤2:=by unfold gz;split <;> simp
 have h4 : (e9 s).length≤1:=by unfold e9;split <;> simp
 have h5 : ((fL (me neg s)).filter (iy s)).length≤4:=Nat.le_trans (List.length_filter_le _ _) (by unfold fL;split <;> simp)
 unfold mF
 simp only [List.length_append,List.length_cons,List.length_nil]
 omega
end Go.Proofs.YtnbceeholnkfeaaGreatDoor
