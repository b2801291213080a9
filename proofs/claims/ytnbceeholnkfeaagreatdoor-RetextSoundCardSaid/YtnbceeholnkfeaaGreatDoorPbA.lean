/- Two rows of nodes are compared. -/
import Derived.Test.YtnbceeholnkfeaaGreatDoorPl
import Derived.Test.YtnbceeholnkfeaaGreatDoorPop
import Derived.Test.YtnbceeholnkfeaaGreatDoorLt
namespace Go.Proofs.YtnbceeholnkfeaaGreatDoor
set_option synthInstance.maxSize 4000 in
theorem tA (a b : List (Int×Int×Int×Int×Int×Int×(Arr 4 (UInt64)))) (hl : a.length≤1000000) : ll a b (decide (a = b)):=by
 refine ab (fun h=>?_) fun h=>?_
 ·exact decide_eq_false fun e : a = b=>h (by rw [e])
 ·have hlen : a.length = b.length:=by omega
  refine bP (fun st m=>∃ k : Nat,k≤a.length∧m = a.length - k∧st = (k : Int)∧a.take k = b.take k) _ ⟨0,by omega,rfl,rfl,rfl⟩ ?_
  rintro st m ⟨k,hk,rfl,rfl,h2⟩
  refine ab (fun h3=>?_) fun h3=>?_
  ·refine at_ (by omega) (by omega) fun x hx=>at_ (by omega) (by omega) fun y hy=>?_
   rw [Int.toNat_natCast] at hx hy
   refine ab (fun h4=>?_) fun h4=>?_
   ·refine decide_eq_false fun e : a = b=>h4 ?_
    rw [e,hy] at hx
    exact (Option.some.inj hx).symm
   ·have hxy : x = y:=Decidable.of_not_not h4
    refine aq (by omega) ⟨a.length - (k + 1),by omega,k + 1,by omega,rfl,by simp,?_⟩
    rw [List.take_add_one,List.take_add_one,h2,hx,hy,hxy]
  ·rw [List.take_of_length_le (by omega),List.take_of_length_le (by omega)] at h2
   exact (decide_eq_true h2).symm▸rfl
end Go.Proofs.YtnbceeholnkfeaaGreatDoor
namespace Go.Proofs.YtnbceeholnkfeaaGreatDoor
def mkB (l : List UInt8) : ByteArray:=⟨l.toArray⟩
theorem AS (l : List UInt8) : (mkB l).data.toList = l:=rfl
theorem fT (l : List UInt8) : ((mkB l).size : Int) = (l.length : Int):=rfl
theorem kE (a b : List UInt8) : mkB a++mkB b = mkB (a++b):=by
 apply ByteArray.ext
 rw [ByteArray.data_append]
 show a.toArray++b.toArray = (a++b).toArray
 simp
def n6 (x : Bool) : List UInt8:=if x = true then [46,91,92,42,94,36]++[40,41,124,43,63,123] else [46,91,92,42,94,36]
def rS (x : Bool) (c : UInt8) : List UInt8:=if c.toNat = 10 then [92,110] else if c∈n6 x then [92,c] else [c]
theorem CT : ((List.range 256).all fun n=>(decide (0≤s7 (n6 true) (UInt8.ofNat n)) == decide (UInt8.ofNat n∈n6 true)) && (decide (0≤s7 (n6 false) (UInt8.ofNat n)) == decide (UInt8.ofNat n∈n6 false))) = true:=by kernel_rfl
theorem AT (x : Bool) (c : UInt8) : 0≤s7 (n6 x) c↔c∈n6 x:=by
 have h:=List.all_eq_true.1 CT c.toNat (List.mem_range.2 c.toNat_lt)
 rw [Bool.and_eq_true,UInt8.ofNat_toNat] at h
 cases x with
 | true=>
  have:=beq_iff_eq.1 h.1
  rwa [decide_eq_decide] at this
 | false=>
  have:=beq_iff_eq.1 h.2
  rwa [decide_eq_decide] at this
theorem zH (x : Bool) (c : UInt8) : dR c (mkB (n6 x)) (mkB (rS x c)):=by
 have hc:=c.toNat_lt
 unfold rS
 refine ab (fun h=>?_) fun h=>⟨_,⟨_,rfl,rfl⟩,?_⟩
 ·rw [if_pos (by omega)];rfl
 ·rw [if_neg (by omega)]
  have hi:=AT x c
  refine ab (fun h2=>aq (show -9223372036854775808≤(1 : Int) + 1∧(1 : Int) + 1≤9223372036854775807 from by decide) ?_) fun h2=>?_
  ·rw [if_pos (hi.1 h2)]
   exact (kE [92] [c]).symm
  ·rw [if_neg (fun e=>h2 (hi.2 e))];rfl
theorem Ca (x : Bool) (c : UInt8) : fN x c (mkB (rS x c)):=by
 cases x with
 | true=>
  refine ab (fun _=>aq (by decide) ?_) fun h=>absurd rfl h
  have:=zH true c
  rwa [show mkB (n6 true) = mkB [46,91,92,42,94,36]++mkB [40,41,124,43,63,123] from (kE _ _).symm] at this
 | false=>exact ab (fun h=>by cases h) fun _=>zH false c
def ug (x : Bool) (S : aG) : List UInt8:=if (bT S 256).length = 1 then rS x ((bT S 256).headD 0) else if (bT S 256).length = 256 then [46] else o0 S
theorem AU (x : Bool) (S : aG) : fF x S (mkB (ug x S)):=by
 have hb:=qp S
 unfold ug
 refine ⟨_,hb,ab (fun h=>?_) fun h=>ab (fun h2=>?_) fun h2=>⟨_,AZ S,?_⟩⟩
 ·rw [if_pos (by omega)]
  cases hl : bT S 256 with
  | nil=>rw [hl] at h;cases h
  | cons c t=>exact ⟨Int.le_refl _,c,rfl,_,Ca x c,rfl⟩
 ·rw [if_neg (by omega),if_pos (by omega)];rfl
 ·rw [if_neg (by omega),if_neg (by omega)];rfl
theorem AV (x : Bool) (c : UInt8) : (rS x c).length≤2:=by
 unfold rS
 split
 ·exact Nat.le_refl _
 ·split
  ·exact Nat.le_refl _
  ·exact Nat.le_succ _
theorem AW (x : Bool) (S : aG) : (ug x S).length≤600:=by
 unfold ug
 split
 ·exact Nat.le_trans (AV _ _) (by decide)
 ·split
  ·show 1≤600
   decide
  ·unfold o0
   split <;> exact yZ _ _
def iP (u : Nat) : List UInt8:=if u < 10 then [UInt8.ofNat (48 + u)] else if u < 100 then [UInt8.ofNat (48 + u / 10),UInt8.ofNat (48 + u % 10)] else [UInt8.ofNat (48 + u / 10 / 10),UInt8.ofNat (48 + u / 10 % 10),UInt8.ofNat (48 + u % 10)]
theorem yT {u : Nat} (h : u≤255) : Lib.itoa (u : Int) = iP u:=by
 unfold Lib.itoa iP
 rw [if_neg (by omega),Int.toNat_natCast]
 by_cases h1 : u < 10
 ·rw [if_pos h1,Lib.decDigits,dif_pos h1]
 rw [if_neg h1,Lib.decDigits,dif_neg h1]
 by_cases h2 : u < 100
 ·rw [if_pos h2,Lib.decDigits,dif_pos (by omega)];rfl
 ·rw [if_neg h2,Lib.decDigits,dif_neg (by omega),Lib.decDigits,dif_pos (by omega)];rfl
theorem mh (u : Nat) : (iP u).length≤3:=by
 unfold iP
 split
 ·simp
 ·split <;> simp
theorem oZ {z : Int} (h0 : 0≤z) (h : z≤255) : iZ z (mkB (iP z.toNat)):=by
 refine ⟨_,⟨⟨by omega,by omega⟩,rfl⟩,?_⟩
 rw [show z = ((z.toNat : Nat) : Int) by omega,yT (by omega)];rfl
def kF (x : Bool) (c : UInt8) : List UInt8:=if x = true then [c] else [92,c]
theorem pr (x : Bool) (c : UInt8) : de x (mkB [c]) (mkB (kF x c)):=by
 cases x with
 | true=>exact ab (fun _=>rfl) fun h=>absurd rfl h
 | false=>exact ab (fun h=>by cases h) fun _=>aq (show -9223372036854775808≤(1 : Int) + 1∧(1 : Int) + 1≤9223372036854775807 from by decide) (kE [92] [c]).symm
theorem jk (x : Bool) (c : UInt8) : (kF x c).length≤2:=by unfold kF;split <;> simp
def v7 (lo hi : Int) : List UInt8:=iP lo.toNat++(if hi = -1 then [44] else if hi = lo then [] else [44]++iP hi.toNat)
def mE (x : Bool) (lo hi : Int) : List UInt8:=if lo = 0∧hi = -1 then [42] else kF x 123++v7 lo hi++kF x 125
theorem vf (lo hi : Int) : (v7 lo hi).length≤7:=by
 have h1:=mh lo.toNat
 have h2:=mh hi.toNat
 unfold v7
 rw [List.length_append]
 split
 ·simp;omega
 ·split
  ·simp;omega
  ·simp;omega
theorem su (x : Bool) (lo hi : Int) : (mE x lo hi).length≤11:=by
 have h1:=vf lo hi
 have h2:=jk x 123
 have h3:=jk x 125
 unfold mE
 split
 ·simp
 ·simp only [List.length_append];omega
theorem rT (x : Bool) (l : List UInt8) (hl : l.length≤7) : dz x (mkB l) (mkB (kF x 123++l++kF x 125)):=by
 have h2:=jk x 123
 have h3:=jk x 125
 refine ⟨_,pr x 123,aq (by rw [fT,fT];omega) ⟨_,pr x 125,aq ?_ ?_⟩⟩
 ·rw [kE,fT,fT,List.length_append];omega
 ·rw [kE,kE]
theorem yU (x : Bool) {lo hi : Int} (ht : eD lo hi = true) : gM x lo hi (mkB (mE x lo hi)):=by
 have ht' : 0≤lo∧lo≤255∧(hi = -1∨(lo≤hi∧hi≤255)):=by
  unfold eD at ht
  simp only [Bool.and_eq_true,Bool.or_eq_true,decide_eq_true_eq] at ht
  exact ht
 obtain ⟨h0,h1,h2⟩:=ht'
 have hd:=mh lo.toNat
 refine ⟨_,oZ h0 h1,?_⟩
 have key : ∀ z : Bool,z = (decide (lo = 0) && decide (hi = -1))→gk hi (mkB (iP lo.toNat)) x lo z (mkB (mE x lo hi)):=fun z hz=>by
  unfold mE
  refine ab (fun h=>?_) fun h=>?_
  ·rw [h] at hz
   have hz:=hz.symm
   rw [Bool.and_eq_true,decide_eq_true_eq,decide_eq_true_eq] at hz
   rw [if_pos hz];rfl
  ·rw [if_neg (fun e=>h (by rw [hz,decide_eq_true e.1,decide_eq_true e.2];rfl))]
   have hn:=vf lo hi
   unfold v7 at hn ⊢
   refine ab (fun h3=>aq (by rw [fT];show -9223372036854775808≤((iP lo.toNat).length : Int) + 1∧((iP lo.toNat).length : Int) + 1≤_;omega) ?_) fun h3=>ab (fun h4=>?_) fun h4=>?_
   ·rw [if_pos h3] at hn ⊢
    rw [show (mkB (iP lo.toNat)++(⟨#[44]⟩: ByteArray)) = mkB (iP lo.toNat++[44]) from kE _ [44]]
    exact rT x _ hn
   ·rw [if_neg h3,if_neg h4] at hn ⊢
    have hd2:=mh hi.toNat
    refine ⟨_,oZ (by omega) (by omega),aq (by rw [fT];show -9223372036854775808≤1 + ((iP hi.toNat).length : Int)∧1 + ((iP hi.toNat).length : Int)≤_;omega) ?_⟩
    rw [show ((⟨#[44]⟩: ByteArray)++mkB (iP hi.toNat)) = mkB ([44]++iP hi.toNat) from kE [44] _,kE]
    refine aq (by rw [fT,fT,List.length_append,List.length_singleton];omega) (rT x _ hn)
   ·have h4:=Decidable.not_not.1 h4
    rw [if_neg h3,if_pos h4,List.append_nil] at hn ⊢
    exact rT x _ hn
 exact key _ rfl
def at0 (l : List (List UInt8)) (z : Int) : List UInt8:=(l[z.toNat]?).getD []
def kG (x : Bool) (n : ND) (l : List (List UInt8)) : List UInt8:=
 if n.1 = 1 then ug x n.2.2.2.2.2.2
 else if n.1 = 2 then at0 l n.2.1++at0 l n.2.2.1
 else if n.1 = 3 then at0 l n.2.1++[124]++at0 l n.2.2.1
 else if n.1 = 4 then at0 l n.2.1++mE x n.2.2.2.1 n.2.2.2.2.1
 else if n.1 = 5 then kF x 40++at0 l n.2.1++kF x 41
 else if n.1 = 6 then [92]++iP n.2.2.2.2.2.1.toNat
 else if n.1 = 7 then [94]
 else if n.1 = 8 then [36]
 else []
theorem nA (sep : List UInt8) (l : List (List UInt8)) (r : List UInt8) (h : Lib.join l sep = r) (hl : l.length≤10) (hr : r.length≤1000000000) : fb (mkB sep) (l.map mkB) (mkB r):=by
 have e : (l.map mkB).map (fun y : ByteArray=>y.data.toList) = l:=by
  rw [List.map_map]
  exact (List.map_congr_left fun a _=>AS a).trans (List.map_id _)
 refine ⟨_,⟨⟨by rw [List.length_map];omega,?_⟩,rfl⟩,?_⟩
 ·show (Lib.join ((l.map mkB).map (fun y : ByteArray=>y.data.toList)) sep).length≤_
  rw [e,h];omega
 ·show mkB r = mkB (Lib.join ((l.map mkB).map (fun y : ByteArray=>y.data.toList)) sep)
  rw [e,h]
theorem sI (sep a b : List UInt8) : Lib.join [a,b] sep = a++sep++b:=by
 rw [Lib.join_cons];simp [Lib.joinTail]
theorem CU (a b c : List UInt8) : Lib.join [a,b,c] [] = a++b++c:=by
 rw [Lib.join_cons];simp [Lib.joinTail]
theorem mi {l : List (List UInt8)} {z : Int} (h0 : 0≤z) (h1 : z < (l.length : Int)) : (l.map mkB)[z.toNat]? = some (mkB (at0 l z)):=by
 rw [List.getElem?_map]
 unfold at0
 rw [List.getElem?_eq_getElem (by omega)];rfl
set_option synthInstance.maxSize 4000 in
theorem yV (x : Bool) (n : ND) (l : List (List UInt8)) (g : Int) (hn : aP n (l.length : Int) g = true) (hg : g≤9) (hM : ∀ t∈l,t.length≤16777216) : ii x n (l.map mkB) (mkB (kG x n l)):=by
 unfold aP at hn
 simp only [Bool.and_eq_true,Bool.or_eq_true,decide_eq_true_eq,Bool.not_eq_true',decide_eq_false_iff_not,List.all_eq_true] at hn
 obtain ⟨⟨⟨⟨⟨k0,k8⟩,_⟩,hp⟩,ht⟩,hgr⟩:=hn
 have hat : ∀ z,z∈aN n→0≤z∧z < (l.length : Int):=fun z hz=>hp z hz
 have hlen : ∀ z : Int,(at0 l z).length≤16777216:=fun z=>by
  unfold at0
  cases hz : l[z.toNat]? with
  | none=>exact Nat.zero_le _
  | some t=>exact hM t (List.mem_of_getElem? hz)
 have la:=hlen n.2.1
 have lb:=hlen n.2.2.1
 unfold kG
 refine ab (fun h1=>?_) fun h1=>ab (fun h2=>?_) fun h2=>ab (fun h3=>?_) fun h3=>ab (fun h4=>?_) fun h4=>ab (fun h5=>?_) fun h5=>ab (fun h6=>?_) fun h6=>ab (fun h7=>?_) fun h7=>ab (fun h8=>?_) fun h8=>?_
 ·rw [if_pos h1];exact ⟨_,AU x _,rfl⟩
 ·rw [if_neg h1,if_pos h2]
  have hpt : aN n = [n.2.1,n.2.2.1]:=by unfold aN;rw [if_pos (.inl h2)]
  have ha:=hat n.2.1 (by rw [hpt];simp)
  have hb:=hat n.2.2.1 (by rw [hpt];simp)
  refine ⟨ha.1,_,mi ha.1 ha.2,hb.1,_,mi hb.1 hb.2,_,nA [] [at0 l n.2.1,at0 l n.2.2.1] _ (by rw [sI,List.append_nil]) (by simp) (by rw [List.length_append];omega),rfl⟩
 ·rw [if_neg h1,if_neg h2,if_pos h3]
  have hpt : aN n = [n.2.1,n.2.2.1]:=by unfold aN;rw [if_pos (.inr h3)]
  have ha:=hat n.2.1 (by rw [hpt];simp)
  have hb:=hat n.2.2.1 (by rw [hpt];simp)
  refine ⟨ha.1,_,mi ha.1 ha.2,hb.1,_,mi hb.1 hb.2,_,nA [124] [at0 l n.2.1,at0 l n.2.2.1] _ (sI _ _ _) (by simp) (by simp only [List.length_append,List.length_singleton];omega),rfl⟩
 ·rw [if_neg h1,if_neg h2,if_neg h3,if_pos h4]
  have hpt : aN n = [n.2.1]:=by unfold aN;rw [if_neg (by omega),if_pos (.inl h4)]
  have ha:=hat n.2.1 (by rw [hpt];simp)
  have htm:=ht.resolve_left (fun e=>e h4)
  have:=su x n.2.2.2.1 n.2.2.2.2.1
  refine ⟨ha.1,_,mi ha.1 ha.2,_,yU x htm,_,nA [] [at0 l n.2.1,mE x n.2.2.2.1 n.2.2.2.2.1] _ (by rw [sI,List.append_nil]) (by simp) (by rw [List.length_append];omega),rfl⟩
 ·rw [if_neg h1,if_neg h2,if_neg h3,if_neg h4,if_pos h5]
  have hpt : aN n = [n.2.1]:=by unfold aN;rw [if_neg (by omega),if_pos (.inr h5)]
  have ha:=hat n.2.1 (by rw [hpt];simp)
  have s1:=jk x 40
  have s2:=jk x 41
  refine ⟨_,pr x 40,ha.1,_,mi ha.1 ha.2,_,pr x 41,_,nA [] [kF x 40,at0 l n.2.1,kF x 41] _ (CU _ _ _) (by simp) (by simp only [List.length_append];omega),rfl⟩
 ·rw [if_neg h1,if_neg h2,if_neg h3,if_neg h4,if_neg h5,if_pos h6]
  have hgg:=hgr.resolve_left (fun e=>e (.inr h6))
  have:=mh n.2.2.2.2.2.1.toNat
  refine ⟨_,oZ (by omega) (by omega),_,nA [] [[92],iP n.2.2.2.2.2.1.toNat] _ (by rw [sI,List.append_nil]) (by simp) (by rw [List.length_append,List.length_singleton];omega),rfl⟩
 ·rw [if_neg h1,if_neg h2,if_neg h3,if_neg h4,if_neg h5,if_neg h6,if_pos h7];rfl
 ·rw [if_neg h1,if_neg h2,if_neg h3,if_neg h4,if_neg h5,if_neg h6,if_neg h7,if_pos h8];rfl
 ·rw [if_neg h1,if_neg h2,if_neg h3,if_neg h4,if_neg h5,if_neg h6,if_neg h7,if_neg h8];rfl
end Go.Proofs.YtnbceeholnkfeaaGreatDoor
namespace Go.Proofs.YtnbceeholnkfeaaGreatDoor
def bH (x : Bool) (L : List ND) : List (List UInt8):=L.foldl (fun l n=>l++[kG x n l]) []
def iu (l : List (List UInt8)) : Nat:=(l.map List.length).sum
theorem v8 (x : Bool) (L : List ND) (n : ND) : bH x (L++[n]) = bH x L++[kG x n (bH x L)]:=by
 unfold bH
 rw [List.foldl_append];rfl
theorem sv (x : Bool) (L : List ND) : (bH x L).length = L.length:=by
 have key : ∀ (L : List ND) (acc : List (List UInt8)),(L.foldl (fun l n=>l++[kG x n l]) acc).length = acc.length + L.length:=by
  intro L
  induction L with
  | nil=>intro acc;rfl
  | cons n L ih=>intro acc;rw [List.foldl_cons,ih];simp;omega
 have:=key L []
 rw [List.length_nil,Nat.zero_add] at this
 exact this
theorem rc {x : Bool} {L : List ND} {k : Nat} {n : ND} (h : L[k]? = some n) : bH x (L.take (k + 1)) = bH x (L.take k)++[kG x n (bH x (L.take k))]:=by
 rw [List.take_add_one,h]
 exact v8 x _ n
theorem qo (l : List (List UInt8)) (t : List UInt8) : iu (l++[t]) = iu l + t.length:=by
 unfold iu
 rw [List.map_append,List.sum_append];simp
theorem rf {l : List (List UInt8)} {t : List UInt8} (h : t∈l) : t.length≤iu l:=by
 induction l with
 | nil=>cases h
 | cons a l ih=>
  have e : iu (a :: l) = a.length + iu l:=by unfold iu;rw [List.map_cons,List.sum_cons]
  rw [e]
  rcases List.mem_cons.1 h with rfl | h
  ·omega
  ·have:=ih h;omega
theorem yW (x : Bool) (L : List ND) (k : Nat) : ∀ d,iu (bH x (L.take k))≤iu (bH x (L.take (k + d))):=by
 intro d
 induction d with
 | zero=>exact Nat.le_refl _
 | succ d ih=>
  refine Nat.le_trans ih ?_
  cases h : L[k + d]? with
  | none=>rw [show k + (d + 1) = k + d + 1 by omega,List.take_add_one,h];simp
  | some n=>rw [show k + (d + 1) = k + d + 1 by omega,rc h,qo];omega
theorem mY {L : List ND} {g : Int} (h : dl L g = true) : 1≤L.length∧L.length≤1000∧0≤g∧g≤9∧kD L g = true:=by
 unfold dl at h
 simp only [Bool.and_eq_true,decide_eq_true_eq] at h
 obtain ⟨⟨⟨⟨⟨⟨a,b⟩,c⟩,d⟩,e⟩,_⟩,_⟩:=h
 exact ⟨a,b,c,d,e⟩
theorem yX (a : List ND) (g : Int) (L : List ND) (g' : Int) (h : a.length≤1000000) : lz (a,g) (L,g') (decide (g = g'∧a = L)):=by
 refine ab (fun e=>⟨_,tA a L h,?_⟩) fun e=>?_
 ·have e : g = g':=e
  rw [decide_eq_decide]
  exact ⟨fun h=>h.2,fun h=>⟨e,h⟩⟩
 ·exact decide_eq_false fun h=>e h.1
theorem sw (x : Bool) (L : List ND) (g : Int) (hr : dl L g = true) (r : List UInt8×Bool) (hov : 16777216 < iu (bH x L)→r = ([],false))
  (hend : iu (bH x L)≤16777216→∀ τ,(bH x L)[L.length - 1]? = some τ→∃ z : RE,dg τ x z∧((¬ (z.2.2 = 0)→gT (mkB τ) true r)∧(¬ (¬ (z.2.2 = 0))→∃ y : Bool,lz z.1 (L,g) y∧gT (mkB τ) (!y) r))) : fc (L,g) x r:=by
 obtain ⟨l1,l2,g0,g9,hno⟩:=mY hr
 have hR:=mD L g
 rw [hr] at hR
 refine ⟨true,hR,ab (fun h=>absurd rfl h) fun _=>?_⟩
 refine bP (fun (st : List ByteArray×Int×Int) m=>∃ k : Nat,k≤L.length∧m = L.length - k∧st = ((bH x (L.take k)).map mkB,(iu (bH x (L.take k)) : Int),(k : Int))∧iu (bH x (L.take k))≤16777216) L.length ⟨0,Nat.zero_le _,rfl,rfl,Nat.zero_le _⟩ ?_
 rintro _ m ⟨k,hk,rfl,rfl,hsz⟩
 show nt (L,g) x _ ((bH x (L.take k)).map mkB) (iu (bH x (L.take k)) : Int) (k : Int) r
 have hlen : (bH x (L.take k)).length = k:=by rw [sv,List.length_take];omega
 refine ab (fun h=>?_) fun h=>?_
 ·have h : (k : Int) < (L.length : Int):=h
  obtain ⟨n,hn⟩: ∃ n,L[k]? = some n:=⟨_,List.getElem?_eq_getElem (by omega)⟩
  have hnode:=qn hno hn
  rw [← hlen] at hnode
  have ht:=yV x n (bH x (L.take k)) g hnode g9 fun t h=>Nat.le_trans (rf h) hsz
  have e:=rc (x:=x) hn
  have es : iu (bH x (L.take (k + 1))) = iu (bH x (L.take k)) + (kG x n (bH x (L.take k))).length:=by rw [e,qo]
  have hmono:=yW x L (k + 1) (L.length - (k + 1))
  rw [show k + 1 + (L.length - (k + 1)) = L.length by omega,List.take_length] at hmono
  have hnl : (kG x n (bH x (L.take k))).length≤100000000:=by
   have h0 : ∀ z : Int,(at0 (bH x (L.take k)) z).length≤16777216:=fun z=>by
    unfold at0
    cases hz : (bH x (L.take k))[z.toNat]? with
    | none=>exact Nat.zero_le _
    | some t=>exact Nat.le_trans (rf (List.mem_of_getElem? hz)) hsz
   have c1:=h0 n.2.1
   have c2:=h0 n.2.2.1
   have c3:=AW x n.2.2.2.2.2.2
   have c4:=su x n.2.2.2.1 n.2.2.2.2.1
   have c5:=jk x 40
   have c6:=jk x 41
   have c7:=mh n.2.2.2.2.2.1.toNat
   unfold kG
   repeat' split
   all_goals (try simp only [List.length_append,List.length_cons,List.length_nil])
   all_goals omega
  refine ⟨by omega,n,by rw [Int.toNat_natCast];exact hn,_,ht,aq (by rw [fT];omega) (ab (fun h2=>?_) fun h2=>?_)⟩
  ·rw [fT] at h2
   exact hov (by omega)
  ·rw [fT] at h2
   refine dN (by rw [List.length_map,hlen];show k + 1≤_;omega) (by omega) (aq (by omega) ⟨L.length - (k + 1),by omega,k + 1,by omega,rfl,?_,by omega⟩)
   rw [e,qo,List.map_append]
   refine Prod.ext rfl (Prod.ext ?_ rfl)
   show (iu (bH x (L.take k)) : Int) + ((mkB (kG x n (bH x (L.take k)))).size : Int) = ((iu (bH x (L.take k)) + (kG x n (bH x (L.take k))).length : Nat) : Int)
   rw [fT];omega
 ·have h : ¬ (k : Int) < (L.length : Int):=h
  obtain rfl : k = L.length:=by omega
  rw [List.take_length] at hlen hsz ⊢
  obtain ⟨τ,hτ⟩: ∃ τ,(bH x L)[L.length - 1]? = some τ:=⟨_,List.getElem?_eq_getElem (by omega)⟩
  have hτl:=Nat.le_trans (rf (List.mem_of_getElem? hτ)) hsz
  obtain ⟨z,z1,z2⟩:=hend hsz τ hτ
  have hl : (((bH x L).map mkB).length : Int) = (L.length : Int):=by rw [List.length_map,hlen]
  refine ⟨⟨by rw [hl];omega,by rw [hl];omega⟩,by rw [hl];omega,mkB τ,?_,?_,z,z1,z2⟩
  ·rw [hl,show ((L.length : Int) - 1).toNat = L.length - 1 by omega,List.getElem?_map,hτ];rfl
  ·show τ.length≤maxLen
   unfold maxLen;omega
theorem yY (x : Bool) (L : List ND) (g : Int) (Q : List UInt8→RE→Prop) (hp : ∀ τ : List UInt8,τ.length≤16777216→∃ z : RE,dg τ x z∧z.1.1.length≤1000∧(z.2.2 = 0→z.2.1 = 0)∧Q τ z) :
  ∃ r,fc (L,g) x r∧(r = ([],false)∨∃ τ,r = (τ,true)∧dl L g = true∧τ.length≤16777216∧Q τ ((L,g),0,0)):=by
 cases hr : dl L g with
 | false=>
  have hR:=mD L g
  rw [hr] at hR
  exact ⟨([],false),⟨false,hR,ab (fun _=>rfl) fun h=>absurd (by simp) h⟩,.inl rfl⟩
 | true=>
  obtain ⟨l1,l2,g0,g9,hno⟩:=mY hr
  rcases Nat.lt_or_ge 16777216 (iu (bH x L)) with h | h
  ·exact ⟨([],false),sw x L g hr _ (fun _=>rfl) fun h2=>by omega,.inl rfl⟩
  ·obtain ⟨τ,hτ⟩: ∃ τ,(bH x L)[L.length - 1]? = some τ:=⟨_,List.getElem?_eq_getElem (by rw [sv];omega)⟩
   have hτl:=Nat.le_trans (rf (List.mem_of_getElem? hτ)) h
   obtain ⟨⟨⟨a,ga⟩,p,e⟩,z1,z2,z3,z4⟩:=hp τ hτl
   have z2 : a.length≤1000:=z2
   have z3 : e = 0→p = 0:=z3
   have fin : ∀ r,(e≠0→r = ([],false))→(e = 0→r = if ga = g∧a = L then (τ,true) else ([],false))→fc (L,g) x r:=fun r r1 r2=>by
    refine sw x L g hr r (fun h2=>by omega) fun _ τ' hτ'=>?_
    rw [hτ] at hτ'
    obtain rfl:=Option.some.inj hτ'
    refine ⟨((a,ga),p,e),z1,ab (fun he=>?_) fun he=>⟨_,yX a ga L g (by omega),?_⟩⟩
    ·exact ab (fun _=>r1 he) fun h=>absurd rfl h
    ·have he : e = 0:=Decidable.not_not.1 he
     by_cases hs : ga = g∧a = L
     ·rw [decide_eq_true hs]
      refine ab (fun h=>by cases h) fun _=>?_
      rw [r2 he,if_pos hs];rfl
     ·rw [decide_eq_false hs]
      refine ab (fun _=>?_) fun h=>absurd rfl h
      rw [r2 he,if_neg hs]
   by_cases he : e = 0
   ·by_cases hs : ga = g∧a = L
    ·refine ⟨(τ,true),fin _ (fun h=>absurd he h) (fun _=>by rw [if_pos hs]),.inr ⟨τ,rfl,rfl,hτl,?_⟩⟩
     obtain ⟨rfl,rfl⟩:=hs
     rw [z3 he,he] at z4
     exact z4
    ·exact ⟨([],false),fin _ (fun h=>absurd he h) (fun _=>by rw [if_neg hs]),.inl rfl⟩
   ·exact ⟨([],false),fin _ (fun _=>rfl) (fun h=>absurd h he),.inl rfl⟩
end Go.Proofs.YtnbceeholnkfeaaGreatDoor
