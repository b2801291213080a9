/- Two rows of nodes are compared. -/
import Derived.Test.YtnbceeholnkfeaaGreatDoorPl
import Derived.Test.YtnbceeholnkfeaaGreatDoorPop
import Derived.Test.YtnbceeholnkfeaaGreatDoorLt
import Derived.Test.YtnbceeholnkfeaaGreatDoorBrS
namespace Go.Proofs.YtnbceeholnkfeaaGreatDoor
set_option synthInstance.maxSize 4000 in
theorem u3 (a b:List (Int×Int×Int×Int×Int×Int×(Arr 4 (UInt64)))) (hl:a.length≤1000000):lX a b (decide (a=b)):=by
 refine ab (fun h=>?_) fun h=>?_
 ·exact decide_eq_false fun e:a=b=>h (by rw [e])
 ·have hlen:a.length=b.length:=by omega
  refine ct (fun st m=>∃ k:Nat,k≤a.length∧m=a.length - k∧st=(k:Int)∧a.take k=b.take k) _ ⟨0,by omega,rfl,rfl,rfl⟩ ?_
  rintro st m ⟨k,hk,rfl,rfl,h2⟩
  refine ab (fun h3=>?_) fun h3=>?_
  ·refine at_ (by omega) (by omega) fun x hx=>at_ (by omega) (by omega) fun y hy=>?_
   rw [Int.toNat_natCast] at hx hy
   refine ab (fun h4=>?_) fun h4=>?_
   ·refine decide_eq_false fun e:a=b=>h4 ?_
    rw [e,hy] at hx
    exact (Option.some.inj hx).symm
   ·have hxy:x=y:=Decidable.of_not_not h4
    refine au (by omega) ⟨a.length - (k+1),by omega,k+1,by omega,rfl,by simp,?_⟩
    rw [List.take_add_one,List.take_add_one,h2,hx,hy,hxy]
  ·rw [List.take_of_length_le (by omega),List.take_of_length_le (by omega)] at h2
   exact (decide_eq_true h2).symm▸rfl
end Go.Proofs.YtnbceeholnkfeaaGreatDoor
namespace Go.Proofs.YtnbceeholnkfeaaGreatDoor
def mkB (l:List UInt8):ByteArray:=⟨l.toArray⟩
theorem Df (l:List UInt8):(mkB l).data.toList=l:=rfl
theorem gx (l:List UInt8):((mkB l).size:Int)=(l.length:Int):=rfl
theorem lr (a b:List UInt8):mkB a++mkB b=mkB (a++b):=by
 apply ByteArray.ext
 rw [ByteArray.data_append]
 show a.toArray++b.toArray=(a++b).toArray
 simp
def jE (x:Bool):List UInt8:=if x=true then [46,91,92,42,94,36]++[40,41,124,43,63,123] else [46,91,92,42,94,36]
def jm (x:Bool) (c:UInt8):List UInt8:=if c.toNat=10 then [92,110] else if c∈jE x then [92,c] else [c]
theorem Fe:((List.range 256).all fun n=>(decide (0≤uH (jE true) (UInt8.ofNat n))==decide (UInt8.ofNat n∈jE true)) && (decide (0≤uH (jE false) (UInt8.ofNat n))==decide (UInt8.ofNat n∈jE false)))=true:=by kernel_rfl
theorem Dg (x:Bool) (c:UInt8):0≤uH (jE x) c↔c∈jE x:=by
 have h:=List.all_eq_true.1 Fe c.toNat (List.mem_range.2 c.toNat_lt)
 rw [Bool.and_eq_true,UInt8.ofNat_toNat] at h
 cases x with
 | true=>
  have:=beq_iff_eq.1 h.1
  rwa [decide_eq_decide] at this
 | false=>
  have:=beq_iff_eq.1 h.2
  rwa [decide_eq_decide] at this
theorem B7 (x:Bool) (c:UInt8):eo c (mkB (jE x)) (mkB (jm x c)):=by
 have hc:=c.toNat_lt
 unfold jm
 refine ab (fun h=>?_) fun h=>⟨_,⟨_,rfl,rfl⟩,?_⟩
 ·rw [if_pos (by omega)];rfl
 ·rw [if_neg (by omega)]
  have hi:=Dg x c
  refine ab (fun h2=>au (show -9223372036854775808≤(1:Int)+1∧(1:Int)+1≤9223372036854775807 from by decide) ?_) fun h2=>?_
  ·rw [if_pos (hi.1 h2)]
   exact (lr [92] [c]).symm
  ·rw [if_neg (fun e=>h2 (hi.2 e))];rfl
theorem Eu (x:Bool) (c:UInt8):gk x c (mkB (jm x c)):=by
 cases x with
 | true=>
  refine ab (fun _=>au (by decide) ?_) fun h=>absurd rfl h
  have:=B7 true c
  rwa [show mkB (jE true)=mkB [46,91,92,42,94,36]++mkB [40,41,124,43,63,123] from (lr _ _).symm] at this
 | false=>exact ab (fun h=>by cases h) fun _=>B7 false c
def iS (x:Bool) (S:ay):List UInt8:=if (be S 256).length=1 then jm x ((be S 256).headD 0) else if (be S 256).length=256 then [46] else jH S
theorem Dh (x:Bool) (S:ay):ge x S (mkB (iS x S)):=by
 have hb:=rC S
 unfold iS
 refine ⟨_,hb,ab (fun h=>?_) fun h=>ab (fun h2=>?_) fun h2=>⟨_,Dl S,?_⟩⟩
 ·rw [if_pos (by omega)]
  cases hl:be S 256 with
  | nil=>rw [hl] at h;cases h
  | cons c t=>exact ⟨Int.le_refl _,c,rfl,_,Eu x c,rfl⟩
 ·rw [if_neg (by omega),if_pos (by omega)];rfl
 ·rw [if_neg (by omega),if_neg (by omega)];rfl
theorem Di (x:Bool) (c:UInt8):(jm x c).length≤2:=by
 unfold jm
 split
 ·exact Nat.le_refl _
 ·split
  ·exact Nat.le_refl _
  ·exact Nat.le_succ _
theorem tu (x:Bool) (S:ay):(iS x S).length≤600:=by
 unfold iS
 split
 ·exact Nat.le_trans (Di _ _) (by decide)
 ·split
  ·show 1≤600
   decide
  ·unfold jH
   split <;> exact By _ _
def bj (u:Nat):List UInt8:=if u<10 then [UInt8.ofNat (48+u)] else if u<100 then [UInt8.ofNat (48+u / 10),UInt8.ofNat (48+u % 10)] else [UInt8.ofNat (48+u / 10 / 10),UInt8.ofNat (48+u / 10 % 10),UInt8.ofNat (48+u % 10)]
theorem Bs {u:Nat} (h:u≤255):Lib.itoa (u:Int)=bj u:=by
 unfold Lib.itoa bj
 rw [if_neg (by omega),Int.toNat_natCast]
 by_cases h1:u<10
 ·rw [if_pos h1,Lib.decDigits,dif_pos h1]
 rw [if_neg h1,Lib.decDigits,dif_neg h1]
 by_cases h2:u<100
 ·rw [if_pos h2,Lib.decDigits,dif_pos (by omega)];rfl
 ·rw [if_neg h2,Lib.decDigits,dif_neg (by omega),Lib.decDigits,dif_pos (by omega)];rfl
theorem m5 (u:Nat):(bj u).length≤3:=by
 unfold bj
 split
 ·simp
 ·split <;> simp
theorem p8 {z:Int} (h0:0≤z) (h:z≤255):jv z (mkB (bj z.toNat)):=by
 refine ⟨_,⟨⟨by omega,by omega⟩,rfl⟩,?_⟩
 rw [show z=((z.toNat:Nat):Int) by omega,Bs (by omega)];rfl
def hX (x:Bool) (c:UInt8):List UInt8:=if x=true then [c] else [92,c]
theorem qF (x:Bool) (c:UInt8):dz x (mkB [c]) (mkB (hX x c)):=by
 cases x with
 | true=>exact ab (fun _=>rfl) fun h=>absurd rfl h
 | false=>exact ab (fun h=>by cases h) fun _=>au (show -9223372036854775808≤(1:Int)+1∧(1:Int)+1≤9223372036854775807 from by decide) (lr [92] [c]).symm
theorem jF (x:Bool) (c:UInt8):(hX x c).length≤2:=by unfold hX;split <;> simp
def jV (lo hi:Int):List UInt8:=bj lo.toNat++(if hi= -1 then [44] else if hi=lo then [] else [44]++bj hi.toNat)
def bq (x:Bool) (lo hi:Int):List UInt8:=if lo=0∧hi= -1 then [42] else hX x 123++jV lo hi++hX x 125
theorem wW (lo hi:Int):(jV lo hi).length≤7:=by
 have h1:=m5 lo.toNat
 have h2:=m5 hi.toNat
 unfold jV
 rw [List.length_append]
 split
 ·simp;omega
 ·split
  ·simp;omega
  ·simp;omega
theorem nC (x:Bool) (lo hi:Int):(bq x lo hi).length≤11:=by
 have h1:=wW lo hi
 have h2:=jF x 123
 have h3:=jF x 125
 unfold bq
 split
 ·simp
 ·simp only [List.length_append];omega
theorem tv (x:Bool) (l:List UInt8) (hl:l.length≤7):dP x (mkB l) (mkB (hX x 123++l++hX x 125)):=by
 have h2:=jF x 123
 have h3:=jF x 125
 refine ⟨_,qF x 123,au (by rw [gx,gx];omega) ⟨_,qF x 125,au ?_ ?_⟩⟩
 ·rw [lr,gx,gx,List.length_append];omega
 ·rw [lr,lr]
theorem Bt (x:Bool) {lo hi:Int} (ht:db lo hi=true):ic x lo hi (mkB (bq x lo hi)):=by
 have ht':0≤lo∧lo≤255∧(hi= -1∨(lo≤hi∧hi≤255)):=by
  unfold db at ht
  simp only [Bool.and_eq_true,Bool.or_eq_true,decide_eq_true_eq] at ht
  exact ht
 obtain ⟨h0,h1,h2⟩:=ht'
 have hd:=m5 lo.toNat
 refine ⟨_,p8 h0 h1,?_⟩
 have key:∀ z:Bool,z=(decide (lo=0) && decide (hi= -1))→gM hi (mkB (bj lo.toNat)) x lo z (mkB (bq x lo hi)):=fun z hz=>by
  unfold bq
  refine ab (fun h=>?_) fun h=>?_
  ·rw [h] at hz
   have hz:=hz.symm
   rw [Bool.and_eq_true,decide_eq_true_eq,decide_eq_true_eq] at hz
   rw [if_pos hz];rfl
  ·rw [if_neg (fun e=>h (by rw [hz,decide_eq_true e.1,decide_eq_true e.2];rfl))]
   have hn:=wW lo hi
   unfold jV at hn ⊢
   refine ab (fun h3=>au (by rw [gx];show -9223372036854775808≤((bj lo.toNat).length:Int)+1∧((bj lo.toNat).length:Int)+1≤_;omega) ?_) fun h3=>ab (fun h4=>?_) fun h4=>?_
   ·rw [if_pos h3] at hn ⊢
    rw [show (mkB (bj lo.toNat)++(⟨#[44]⟩:ByteArray))=mkB (bj lo.toNat++[44]) from lr _ [44]]
    exact tv x _ hn
   ·rw [if_neg h3,if_neg h4] at hn ⊢
    have hd2:=m5 hi.toNat
    refine ⟨_,p8 (by omega) (by omega),au (by rw [gx];show -9223372036854775808≤1+((bj hi.toNat).length:Int)∧1+((bj hi.toNat).length:Int)≤_;omega) ?_⟩
    rw [show ((⟨#[44]⟩:ByteArray)++mkB (bj hi.toNat))=mkB ([44]++bj hi.toNat) from lr [44] _,lr]
    refine au (by rw [gx,gx,List.length_append,List.length_singleton];omega) (tv x _ hn)
   ·have h4:=Decidable.not_not.1 h4
    rw [if_neg h3,if_pos h4,List.append_nil] at hn ⊢
    exact tv x _ hn
 exact key _ rfl
def at0 (l:List (List UInt8)) (z:Int):List UInt8:=(l[z.toNat]?).getD []
def eD (x:Bool) (n:ND) (l:List (List UInt8)):List UInt8:=
 if n.1=1 then iS x n.2.2.2.2.2.2
 else if n.1=2 then at0 l n.2.1++at0 l n.2.2.1
 else if n.1=3 then at0 l n.2.1++[124]++at0 l n.2.2.1
 else if n.1=4 then at0 l n.2.1++bq x n.2.2.2.1 n.2.2.2.2.1
 else if n.1=5 then hX x 40++at0 l n.2.1++hX x 41
 else if n.1=6 then [92]++bj n.2.2.2.2.2.1.toNat
 else if n.1=7 then [94]
 else if n.1=8 then [36]
 else []
theorem oz (sep:List UInt8) (l:List (List UInt8)) (r:List UInt8) (h:Lib.join l sep=r) (hl:l.length≤10) (hr:r.length≤1000000000):fC (mkB sep) (l.map mkB) (mkB r):=by
 have e:(l.map mkB).map (fun y:ByteArray=>y.data.toList)=l:=by
  rw [List.map_map]
  exact (List.map_congr_left fun a _=>Df a).trans (List.map_id _)
 refine ⟨_,⟨⟨by rw [List.length_map];omega,?_⟩,rfl⟩,?_⟩
 ·show (Lib.join ((l.map mkB).map (fun y:ByteArray=>y.data.toList)) sep).length≤_
  rw [e,h];omega
 ·show mkB r=mkB (Lib.join ((l.map mkB).map (fun y:ByteArray=>y.data.toList)) sep)
  rw [e,h]
theorem um (sep a b:List UInt8):Lib.join [a,b] sep=a++sep++b:=by
 rw [Lib.join_cons];simp [Lib.joinTail]
theorem Ff (a b c:List UInt8):Lib.join [a,b,c] []=a++b++c:=by
 rw [Lib.join_cons];simp [Lib.joinTail]
theorem m6 {l:List (List UInt8)} {z:Int} (h0:0≤z) (h1:z<(l.length:Int)):(l.map mkB)[z.toNat]? =some (mkB (at0 l z)):=by
 rw [List.getElem?_map]
 unfold at0
 rw [List.getElem?_eq_getElem (by omega)];rfl
set_option synthInstance.maxSize 4000 in
theorem Bu (x:Bool) (n:ND) (l:List (List UInt8)) (g:Int) (hn:aP n (l.length:Int) g=true) (hg:g≤9) (hM:∀ t∈l,t.length≤16777216):iI x n (l.map mkB) (mkB (eD x n l)):=by
 unfold aP at hn
 simp only [Bool.and_eq_true,Bool.or_eq_true,decide_eq_true_eq,Bool.not_eq_true',decide_eq_false_iff_not,List.all_eq_true] at hn
 obtain ⟨⟨⟨⟨⟨k0,k8⟩,_⟩,hp⟩,ht⟩,hgr⟩:=hn
 have hat:∀ z,z∈aY n→0≤z∧z<(l.length:Int):=fun z hz=>hp z hz
 have hlen:∀ z:Int,(at0 l z).length≤16777216:=fun z=>by
  unfold at0
  cases hz:l[z.toNat]? with
  | none=>exact Nat.zero_le _
  | some t=>exact hM t (List.mem_of_getElem? hz)
 have la:=hlen n.2.1
 have lb:=hlen n.2.2.1
 unfold eD
 refine ab (fun h1=>?_) fun h1=>ab (fun h2=>?_) fun h2=>ab (fun h3=>?_) fun h3=>ab (fun h4=>?_) fun h4=>ab (fun h5=>?_) fun h5=>ab (fun h6=>?_) fun h6=>ab (fun h7=>?_) fun h7=>ab (fun h8=>?_) fun h8=>?_
 ·rw [if_pos h1];exact ⟨_,Dh x _,rfl⟩
 ·rw [if_neg h1,if_pos h2]
  have hpt:aY n=[n.2.1,n.2.2.1]:=by unfold aY;rw [if_pos (.inl h2)]
  have ha:=hat n.2.1 (by rw [hpt];simp)
  have hb:=hat n.2.2.1 (by rw [hpt];simp)
  refine ⟨ha.1,_,m6 ha.1 ha.2,hb.1,_,m6 hb.1 hb.2,_,oz [] [at0 l n.2.1,at0 l n.2.2.1] _ (by rw [um,List.append_nil]) (by simp) (by rw [List.length_append];omega),rfl⟩
 ·rw [if_neg h1,if_neg h2,if_pos h3]
  have hpt:aY n=[n.2.1,n.2.2.1]:=by unfold aY;rw [if_pos (.inr h3)]
  have ha:=hat n.2.1 (by rw [hpt];simp)
  have hb:=hat n.2.2.1 (by rw [hpt];simp)
  refine ⟨ha.1,_,m6 ha.1 ha.2,hb.1,_,m6 hb.1 hb.2,_,oz [124] [at0 l n.2.1,at0 l n.2.2.1] _ (um _ _ _) (by simp) (by simp only [List.length_append,List.length_singleton];omega),rfl⟩
 ·rw [if_neg h1,if_neg h2,if_neg h3,if_pos h4]
  have hpt:aY n=[n.2.1]:=by unfold aY;rw [if_neg (by omega),if_pos (.inl h4)]
  have ha:=hat n.2.1 (by rw [hpt];simp)
  have htm:=ht.resolve_left (fun e=>e h4)
  have:=nC x n.2.2.2.1 n.2.2.2.2.1
  refine ⟨ha.1,_,m6 ha.1 ha.2,_,Bt x htm,_,oz [] [at0 l n.2.1,bq x n.2.2.2.1 n.2.2.2.2.1] _ (by rw [um,List.append_nil]) (by simp) (by rw [List.length_append];omega),rfl⟩
 ·rw [if_neg h1,if_neg h2,if_neg h3,if_neg h4,if_pos h5]
  have hpt:aY n=[n.2.1]:=by unfold aY;rw [if_neg (by omega),if_pos (.inr h5)]
  have ha:=hat n.2.1 (by rw [hpt];simp)
  have s1:=jF x 40
  have s2:=jF x 41
  refine ⟨_,qF x 40,ha.1,_,m6 ha.1 ha.2,_,qF x 41,_,oz [] [hX x 40,at0 l n.2.1,hX x 41] _ (Ff _ _ _) (by simp) (by simp only [List.length_append];omega),rfl⟩
 ·rw [if_neg h1,if_neg h2,if_neg h3,if_neg h4,if_neg h5,if_pos h6]
  have hgg:=hgr.resolve_left (fun e=>e (.inr h6))
  have:=m5 n.2.2.2.2.2.1.toNat
  refine ⟨_,p8 (by omega) (by omega),_,oz [] [[92],bj n.2.2.2.2.2.1.toNat] _ (by rw [um,List.append_nil]) (by simp) (by rw [List.length_append,List.length_singleton];omega),rfl⟩
 ·rw [if_neg h1,if_neg h2,if_neg h3,if_neg h4,if_neg h5,if_neg h6,if_pos h7];rfl
 ·rw [if_neg h1,if_neg h2,if_neg h3,if_neg h4,if_neg h5,if_neg h6,if_neg h7,if_pos h8];rfl
 ·rw [if_neg h1,if_neg h2,if_neg h3,if_neg h4,if_neg h5,if_neg h6,if_neg h7,if_neg h8];rfl
end Go.Proofs.YtnbceeholnkfeaaGreatDoor
namespace Go.Proofs.YtnbceeholnkfeaaGreatDoor
def aT (x:Bool) (L:List ND):List (List UInt8):=L.foldl (fun l n=>l++[eD x n l]) []
def eY (l:List (List UInt8)):Nat:=(l.map List.length).sum
theorem sA (x:Bool) (L:List ND) (n:ND):aT x (L++[n])=aT x L++[eD x n (aT x L)]:=by
 unfold aT
 rw [List.foldl_append];rfl
theorem gK (x:Bool) (L:List ND):(aT x L).length=L.length:=by
 have key:∀ (L:List ND) (acc:List (List UInt8)),(L.foldl (fun l n=>l++[eD x n l]) acc).length=acc.length+L.length:=by
  intro L
  induction L with
  | nil=>intro acc;rfl
  | cons n L ih=>intro acc;rw [List.foldl_cons,ih];simp;omega
 have:=key L []
 rw [List.length_nil,Nat.zero_add] at this
 exact this
theorem sB {x:Bool} {L:List ND} {k:Nat} {n:ND} (h:L[k]? =some n):aT x (L.take (k+1))=aT x (L.take k)++[eD x n (aT x (L.take k))]:=by
 rw [List.take_add_one,h]
 exact sA x _ n
theorem rz (l:List (List UInt8)) (t:List UInt8):eY (l++[t])=eY l+t.length:=by
 unfold eY
 rw [List.map_append,List.sum_append];simp
theorem sC {l:List (List UInt8)} {t:List UInt8} (h:t∈l):t.length≤eY l:=by
 induction l with
 | nil=>cases h
 | cons a l ih=>
  have e:eY (a :: l)=a.length+eY l:=by unfold eY;rw [List.map_cons,List.sum_cons]
  rw [e]
  rcases List.mem_cons.1 h with rfl | h
  ·omega
  ·have:=ih h;omega
theorem Bv (x:Bool) (L:List ND) (k:Nat):∀ d,eY (aT x (L.take k))≤eY (aT x (L.take (k+d))):=by
 intro d
 induction d with
 | zero=>exact Nat.le_refl _
 | succ d ih=>
  refine Nat.le_trans ih ?_
  cases h:L[k+d]? with
  | none=>rw [show k+(d+1)=k+d+1 by omega,List.take_add_one,h];simp
  | some n=>rw [show k+(d+1)=k+d+1 by omega,sB h,rz];omega
theorem nM {L:List ND} {g:Int} (h:eC L g=true):1≤L.length∧L.length≤1000∧0≤g∧g≤9∧np L g=true:=by
 unfold eC at h
 simp only [Bool.and_eq_true,decide_eq_true_eq] at h
 obtain ⟨⟨⟨⟨⟨⟨a,b⟩,c⟩,d⟩,e⟩,_⟩,_⟩:=h
 exact ⟨a,b,c,d,e⟩
theorem vM (a:List ND) (g:Int) (L:List ND) (g':Int) (h:a.length≤1000000):mi (a,g) (L,g') (decide (g=g'∧a=L)):=by
 refine ab (fun e=>⟨_,u3 a L h,?_⟩) fun e=>?_
 ·have e:g=g':=e
  rw [decide_eq_decide]
  exact ⟨fun h=>h.2,fun h=>⟨e,h⟩⟩
 ·exact decide_eq_false fun h=>e h.1
theorem p9 (x:Bool) (L:List ND) (g:Int) (hr:eC L g=true) (r:List UInt8×Bool) (hov:16777216<eY (aT x L)→r=([],false))
  (hend:eY (aT x L)≤16777216→∀ τ,(aT x L)[L.length - 1]? =some τ→∃ z:RE,cW τ x z∧((¬ (z.2.2=0)→im (mkB τ) true r)∧(¬ (¬ (z.2.2=0))→∃ y:Bool,mi z.1 (L,g) y∧im (mkB τ) (!y) r))):bU (L,g) x r:=by
 obtain ⟨l1,l2,g0,g9,hno⟩:=nM hr
 have hR:=nt L g
 rw [hr] at hR
 refine ⟨true,hR,ab (fun h=>absurd rfl h) fun _=>?_⟩
 refine ct (fun (st:List ByteArray×Int×Int) m=>∃ k:Nat,k≤L.length∧m=L.length - k∧st=((aT x (L.take k)).map mkB,(eY (aT x (L.take k)):Int),(k:Int))∧eY (aT x (L.take k))≤16777216) L.length ⟨0,Nat.zero_le _,rfl,rfl,Nat.zero_le _⟩ ?_
 rintro _ m ⟨k,hk,rfl,rfl,hsz⟩
 show od (L,g) x _ ((aT x (L.take k)).map mkB) (eY (aT x (L.take k)):Int) (k:Int) r
 have hlen:(aT x (L.take k)).length=k:=by rw [gK,List.length_take];omega
 refine ab (fun h=>?_) fun h=>?_
 ·have h:(k:Int)<(L.length:Int):=h
  obtain ⟨n,hn⟩:∃ n,L[k]? =some n:=⟨_,List.getElem?_eq_getElem (by omega)⟩
  have hnode:=vK hno hn
  rw [← hlen] at hnode
  have ht:=Bu x n (aT x (L.take k)) g hnode g9 fun t h=>Nat.le_trans (sC h) hsz
  have e:=sB (x:=x) hn
  have es:eY (aT x (L.take (k+1)))=eY (aT x (L.take k))+(eD x n (aT x (L.take k))).length:=by rw [e,rz]
  have hmono:=Bv x L (k+1) (L.length - (k+1))
  rw [show k+1+(L.length - (k+1))=L.length by omega,List.take_length] at hmono
  have hnl:(eD x n (aT x (L.take k))).length≤100000000:=by
   have h0:∀ z:Int,(at0 (aT x (L.take k)) z).length≤16777216:=fun z=>by
    unfold at0
    cases hz:(aT x (L.take k))[z.toNat]? with
    | none=>exact Nat.zero_le _
    | some t=>exact Nat.le_trans (sC (List.mem_of_getElem? hz)) hsz
   have c1:=h0 n.2.1
   have c2:=h0 n.2.2.1
   have c3:=tu x n.2.2.2.2.2.2
   have c4:=nC x n.2.2.2.1 n.2.2.2.2.1
   have c5:=jF x 40
   have c6:=jF x 41
   have c7:=m5 n.2.2.2.2.2.1.toNat
   unfold eD
   repeat' split
   all_goals (try simp only [List.length_append,List.length_cons,List.length_nil])
   all_goals omega
  refine ⟨by omega,n,by rw [Int.toNat_natCast];exact hn,_,ht,au (by rw [gx];omega) (ab (fun h2=>?_) fun h2=>?_)⟩
  ·rw [gx] at h2
   exact hov (by omega)
  ·rw [gx] at h2
   refine dD (by rw [List.length_map,hlen];show k+1≤_;omega) (by omega) (au (by omega) ⟨L.length - (k+1),by omega,k+1,by omega,rfl,?_,by omega⟩)
   rw [e,rz,List.map_append]
   refine Prod.ext rfl (Prod.ext ?_ rfl)
   show (eY (aT x (L.take k)):Int)+((mkB (eD x n (aT x (L.take k)))).size:Int)=((eY (aT x (L.take k))+(eD x n (aT x (L.take k))).length:Nat):Int)
   rw [gx];omega
 ·have h:¬ (k:Int)<(L.length:Int):=h
  obtain rfl:k=L.length:=by omega
  rw [List.take_length] at hlen hsz ⊢
  obtain ⟨τ,hτ⟩:∃ τ,(aT x L)[L.length - 1]? =some τ:=⟨_,List.getElem?_eq_getElem (by omega)⟩
  have hτl:=Nat.le_trans (sC (List.mem_of_getElem? hτ)) hsz
  obtain ⟨z,z1,z2⟩:=hend hsz τ hτ
  have hl:(((aT x L).map mkB).length:Int)=(L.length:Int):=by rw [List.length_map,hlen]
  refine ⟨⟨by rw [hl];omega,by rw [hl];omega⟩,by rw [hl];omega,mkB τ,?_,?_,z,z1,z2⟩
  ·rw [hl,show ((L.length:Int) - 1).toNat=L.length - 1 by omega,List.getElem?_map,hτ];rfl
  ·show τ.length≤maxLen
   unfold maxLen;omega
theorem Bw (x:Bool) (L:List ND) (g:Int) (Q:List UInt8→RE→Prop) (hp:∀ τ:List UInt8,τ.length≤16777216→∃ z:RE,cW τ x z∧z.1.1.length≤1000∧(z.2.2=0→z.2.1=0)∧Q τ z):
  ∃ r,bU (L,g) x r∧(r=([],false)∨∃ τ,r=(τ,true)∧eC L g=true∧τ.length≤16777216∧Q τ ((L,g),0,0)):=by
 cases hr:eC L g with
 | false=>
  have hR:=nt L g
  rw [hr] at hR
  exact ⟨([],false),⟨false,hR,ab (fun _=>rfl) fun h=>absurd (by simp) h⟩,.inl rfl⟩
 | true=>
  obtain ⟨l1,l2,g0,g9,hno⟩:=nM hr
  rcases Nat.lt_or_ge 16777216 (eY (aT x L)) with h | h
  ·exact ⟨([],false),p9 x L g hr _ (fun _=>rfl) fun h2=>by omega,.inl rfl⟩
  ·obtain ⟨τ,hτ⟩:∃ τ,(aT x L)[L.length - 1]? =some τ:=⟨_,List.getElem?_eq_getElem (by rw [gK];omega)⟩
   have hτl:=Nat.le_trans (sC (List.mem_of_getElem? hτ)) h
   obtain ⟨⟨⟨a,ga⟩,p,e⟩,z1,z2,z3,z4⟩:=hp τ hτl
   have z2:a.length≤1000:=z2
   have z3:e=0→p=0:=z3
   have fin:∀ r,(e≠0→r=([],false))→(e=0→r=if ga=g∧a=L then (τ,true) else ([],false))→bU (L,g) x r:=fun r r1 r2=>by
    refine p9 x L g hr r (fun h2=>by omega) fun _ τ' hτ'=>?_
    rw [hτ] at hτ'
    obtain rfl:=Option.some.inj hτ'
    refine ⟨((a,ga),p,e),z1,ab (fun he=>?_) fun he=>⟨_,vM a ga L g (by omega),?_⟩⟩
    ·exact ab (fun _=>r1 he) fun h=>absurd rfl h
    ·have he:e=0:=Decidable.not_not.1 he
     by_cases hs:ga=g∧a=L
     ·rw [decide_eq_true hs]
      refine ab (fun h=>by cases h) fun _=>?_
      rw [r2 he,if_pos hs];rfl
     ·rw [decide_eq_false hs]
      refine ab (fun _=>?_) fun h=>absurd rfl h
      rw [r2 he,if_neg hs]
   by_cases he:e=0
   ·by_cases hs:ga=g∧a=L
    ·refine ⟨(τ,true),fin _ (fun h=>absurd he h) (fun _=>by rw [if_pos hs]),.inr ⟨τ,rfl,rfl,hτl,?_⟩⟩
     obtain ⟨rfl,rfl⟩:=hs
     rw [z3 he,he] at z4
     exact z4
    ·exact ⟨([],false),fin _ (fun h=>absurd he h) (fun _=>by rw [if_neg hs]),.inl rfl⟩
   ·exact ⟨([],false),fin _ (fun _=>rfl) (fun h=>absurd h he),.inl rfl⟩
theorem rA {x:Bool} {L:List ND} {g:Int} {τ:List UInt8} (hr:eC L g=true) (hs:eY (aT x L)≤16777216) (hτ:(aT x L)[L.length - 1]? =some τ) (hp:cW τ x ((L,g),0,0)):bU (L,g) x (τ,true):=by
 have hl:=(nM hr).2.1
 refine p9 x L g hr _ (fun h=>by omega) fun _ τ' hτ'=>?_
 rw [hτ] at hτ'
 obtain rfl:=Option.some.inj hτ'
 refine ⟨_,hp,ab (fun h=>absurd rfl h) fun _=>⟨_,vM L g L g (by omega),?_⟩⟩
 rw [decide_eq_true ⟨rfl,rfl⟩]
 exact ab (fun h=>by cases h) fun _=>rfl
end Go.Proofs.YtnbceeholnkfeaaGreatDoor
namespace Go.Proofs.YtnbceeholnkfeaaGreatDoor
def nbU:List UInt8→Nat
 | []=>93
 | c :: _=>if c.toNat=10 then 92 else c.toNat
theorem rD (c:UInt8) (U:List UInt8):nbU (c :: U)=if c.toNat=10 then 92 else c.toNat:=rfl
def kg:Bool→List UInt8→Prop
 | _,[]=>True
 | first,c :: U=>(c.toNat=93→first=true)∧(c.toNat=91→nbU U≠58∧nbU U≠46∧nbU U≠61)∧(c.toNat=92→nbU U≠110)∧(nbU U=45→U=[45])∧kg false U
def iy (U rest:List UInt8):List UInt8:=U.flatMap tx++93 :: rest
theorem t8 (c:UInt8) (U rest:List UInt8):iy (c :: U) rest=tx c++iy U rest:=by unfold iy;rw [List.flatMap_cons,List.append_assoc]
theorem nE (U rest:List UInt8):∃ x t,iy U rest=x :: t∧x.toNat=nbU U:=by
 cases U with
 | nil=>exact ⟨93,rest,rfl,rfl⟩
 | cons c U=>
  rw [t8,rD]
  unfold tx
  by_cases h:c.toNat=10
  ·rw [if_pos h,if_pos h];exact ⟨92,_,rfl,rfl⟩
  ·rw [if_neg h,if_neg h];exact ⟨c,_,rfl,rfl⟩
theorem ls {c:UInt8} {n:UInt8} (h:c.toNat=n.toNat):c=n:=UInt8.toNat_inj.1 h
theorem zL (c:UInt8) (U rest:List UInt8) (h1:c.toNat=91→nbU U≠58∧nbU U≠46∧nbU U≠61) (h2:c.toNat=92→nbU U≠110):eZ (tx c++iy U rest)= .ok (c,z4,false,(tx c).length):=by
 obtain ⟨x,t,hx,hn⟩:=nE U rest
 unfold tx
 by_cases h:c.toNat=10
 ·rw [if_pos h,ls (n:=10) h];rfl
 ·rw [if_neg h,hx]
  show gZ c x (x :: t)=_
  unfold gZ
  rw [if_neg (by omega),if_neg (by omega)];rfl
theorem zM (U rest:List UInt8) (h:nbU U=45→U=[45]):isD (iy U rest)=false:=by
 by_cases hu:nbU U=45
 ·rw [h hu];rfl
 ·obtain ⟨x,t,hx,hn⟩:=nE U rest
  rw [hx]
  show (decide (x.toNat=45) && _)=false
  rw [decide_eq_false (by omega)];rfl
theorem zN (c:UInt8) (U rest:List UInt8) (h1:c.toNat=91→nbU U≠58∧nbU U≠46∧nbU U≠61) (h2:c.toNat=92→nbU U≠110) (h3:nbU U=45→U=[45]):gc (tx c++iy U rest)= .ok (ofS [c],(tx c).length):=by
 unfold gc
 rw [zL c U rest h1 h2]
 show jL _ (c,z4,false,(tx c).length)=_
 unfold jL
 simp only [List.drop_left]
 rw [if_pos (zM U rest h3),if_neg Bool.false_ne_true]
def rE (f:ay) (U:List UInt8):ay:=U.foldl (fun f c=>unS [f,ofS [c]]) f
theorem ye (rest:List UInt8):∀ (U:List UInt8) (n:Nat) (first:Bool) (f:ay) (len:Nat),kg first U→U.length<n→(first=true→U≠[])→dj n first (iy U rest) f len= .ok (rE f U,len+(U.flatMap tx).length+1):=by
 intro U
 induction U with
 | nil=>
  intro n first f len _ hn hf
  obtain ⟨n,rfl⟩:∃ j,n=j+1:=⟨n - 1,by rw [List.length_nil] at hn;omega⟩
  have:first=false:=by
   cases first with
   | true=>exact absurd rfl (hf rfl)
   | false=>rfl
  rw [gy,if_pos ⟨this,rfl⟩];rfl
 | cons c U ih=>
  intro n first f len hg hn _
  obtain ⟨h0,h1,h2,h3,h4⟩:=hg
  obtain ⟨n,rfl⟩:∃ j,n=j+1:=⟨n - 1,by rw [List.length_cons] at hn;omega⟩
  have hno:¬ (first=false∧mB (iy (c :: U) rest)=true):=by
   rintro ⟨hf,h⟩
   obtain ⟨x,t,hx,hn⟩:=nE (c :: U) rest
   rw [hx] at h
   have hx93:x.toNat=93:=of_decide_eq_true h
   rw [rD] at hn
   by_cases hc:c.toNat=10
   ·rw [if_pos hc] at hn;omega
   ·rw [if_neg hc] at hn
    rw [h0 (by omega)] at hf
    cases hf
  rw [gy,if_neg hno,t8,zN c U rest h1 h2 h3]
  simp only [List.drop_left]
  rw [ih n false _ _ h4 (by rw [List.length_cons] at hn;omega) (fun h=>by cases h),List.flatMap_cons,List.length_append]
  show Except.ok (rE f (c :: U),_)=Except.ok (rE f (c :: U),_)
  congr 2
  omega
theorem Dq:∀ (U:List UInt8) (f:ay) (d:Nat),d<256→aS (rE f U) d=(aS f d || U.any (fun c=>decide (c.toNat=d))):=by
 intro U
 induction U with
 | nil=>intro f d hd;simp [rE]
 | cons c U ih=>
  intro f d hd
  show aS (rE (unS [f,ofS [c]]) U) d=_
  rw [ih _ d hd,yo _ d hd,List.any_cons]
  simp only [List.any_cons,List.any_nil,Bool.or_false]
  rw [rN [c] d hd]
  simp only [List.any_cons,List.any_nil,Bool.or_false,Bool.or_assoc]
def mj (s:ay):List UInt8:=(be s 256).filter (fun c=>!spc c)
def ck (neg:Bool) (s:ay):List UInt8:=cR s++(mj s++(dM (fz neg s)).filter (bQ s))
theorem qd (l:List UInt8):l.flatMap txm=(l.filter (fun c=>!spc c)).flatMap tx:=by
 induction l with
 | nil=>rfl
 | cons c l ih=>
  rw [List.flatMap_cons,ih]
  unfold txm
  by_cases h:spc c=true
  ·rw [if_pos h,List.filter_cons_of_neg (by simp [h])];rfl
  ·rw [if_neg h,List.filter_cons_of_pos (by simp [h]),List.flatMap_cons]
theorem Dr {c:UInt8} (h:c.toNat≠10):tx c=[c]:=by unfold tx;rw [if_neg h]
theorem ua:∀ l:List UInt8,(∀ c∈l,c.toNat≠10)→l.flatMap tx=l:=by
 intro l
 induction l with
 | nil=>intro _;rfl
 | cons c l ih=>
  intro h
  rw [List.flatMap_cons,Dr (h c (by simp)),ih fun x hx=>h x (by simp [hx])];rfl
theorem zO (b:Bool) (c:UInt8) (h:c∈dM b):c.toNat=91∨c.toNat=92∨c.toNat=94∨c.toNat=45:=by
 cases b
 ·have h:c∈([91,92,94,45]:List UInt8):=h
  simp only [List.mem_cons,List.not_mem_nil,or_false] at h
  rcases h with rfl | rfl | rfl | rfl <;> decide
 ·have h:c∈([45,94]:List UInt8):=h
  simp only [List.mem_cons,List.not_mem_nil,or_false] at h
  rcases h with rfl | rfl <;> decide
theorem sD (neg:Bool) (s:ay) (rest:List UInt8):fU neg s++rest=fT neg++iy (ck neg s) rest:=by
 unfold fU iy ck jG
 rw [qd,List.flatMap_append,List.flatMap_append,ua ((dM (fz neg s)).filter (bQ s)) fun c hc=>by have:=zO _ c (List.mem_filter.1 hc).1;omega]
 rw [ua (cR s) fun c hc=>by
  unfold cR at hc
  split at hc
  ·rw [List.mem_singleton.1 hc];decide
  ·cases hc]
 simp [mj]
theorem wX (c:UInt8):spc c=true↔(c.toNat=93∨c.toNat=91∨c.toNat=92∨c.toNat=94∨c.toNat=45):=by
 unfold spc
 simp only [Bool.or_eq_true,decide_eq_true_eq]
theorem zP (neg:Bool) (s:ay):kg false ((dM (fz neg s)).filter (bQ s))∧(nbU ((dM (fz neg s)).filter (bQ s))=45→(fz neg s=true∨(dM (fz neg s)).filter (bQ s)=[45])):=by
 cases fz neg s with
 | true=>
  show kg false (List.filter (bQ s) [45,94])∧_
  refine ⟨?_,fun _=>Or.inl rfl⟩
  cases h1:bQ s 45 <;> cases h2:bQ s 94 <;> simp [List.filter,h1,h2,kg,nbU]
 | false=>
  show kg false (List.filter (bQ s) [91,92,94,45])∧(nbU (List.filter (bQ s) [91,92,94,45])=45→(false=true∨List.filter (bQ s) [91,92,94,45]=[45]))
  cases h1:bQ s 91 <;> cases h2:bQ s 92 <;> cases h3:bQ s 94 <;> cases h4:bQ s 45 <;> simp [List.filter,h1,h2,h3,h4,kg,nbU]
theorem zQ (T:List UInt8) (hT:kg false T) (hb:nbU T=45→T=[45]):∀ (M:List UInt8),(∀ c∈M,spc c=false)→kg false (M++T)∧(nbU (M++T)=45→M++T=[45]):=by
 intro M
 induction M with
 | nil=>intro _;exact ⟨hT,hb⟩
 | cons c M ih=>
  intro h
  have hc:¬ (c.toNat=93∨c.toNat=91∨c.toNat=92∨c.toNat=94∨c.toNat=45):=fun e=>by
   have:=(wX c).2 e
   rw [h c (by simp)] at this;cases this
  obtain ⟨k1,k2⟩:=ih fun x hx=>h x (by simp [hx])
  refine ⟨⟨fun e=>absurd e (by omega),fun e=>absurd e (by omega),fun e=>absurd e (by omega),k2,k1⟩,fun e=>?_⟩
  exfalso
  have e:(if c.toNat=10 then 92 else c.toNat)=45:=e
  split at e <;> omega
theorem sE {U:List UInt8} (h:kg false U):kg true U:=by
 cases U with
 | nil=>trivial
 | cons c U=>exact ⟨fun _=>rfl,h.2⟩
theorem vS (s:ay):∀ c∈mj s,spc c=false:=fun c hc=>by
 have:=(List.mem_filter.1 hc).2
 simpa using this
theorem yf (neg:Bool) (s:ay):kg true (ck neg s):=by
 obtain ⟨t1,t2⟩:=zP neg s
 unfold ck
 cases ha:fz neg s with
 | true=>
  have h0:cR s++jG s=[]:=(of_decide_eq_true ha).2.1
  have hh:cR s=[]:=(List.append_eq_nil_iff.1 h0).1
  have hm:mj s=[]:=by
   have h1:jG s=[]:=(List.append_eq_nil_iff.1 h0).2
   unfold jG at h1
   rw [qd] at h1
   cases hq:mj s with
   | nil=>rfl
   | cons c M=>
    unfold mj at hq
    rw [hq,List.flatMap_cons] at h1
    have:=(vP c).2
    rw [(List.append_eq_nil_iff.1 h1).1] at this
    simp at this
  rw [ha] at t1
  rw [hh,hm]
  exact sE t1
 | false=>
  rw [ha] at t1 t2
  have hb:nbU ((dM false).filter (bQ s))=45→(dM false).filter (bQ s)=[45]:=fun h=>(t2 h).resolve_left (by decide)
  obtain ⟨k1,k2⟩:=zQ _ t1 hb (mj s) (vS s)
  unfold cR
  split
  ·exact ⟨fun _=>rfl,fun h=>absurd h (by decide),fun h=>absurd h (by decide),k2,k1⟩
  ·exact sE k1
theorem o5 (s:ay) (c:UInt8):c∈be s 256↔bQ s c=true:=by
 unfold be bQ
 rw [List.mem_map]
 constructor
 ·rintro ⟨n,hn,rfl⟩
  rw [List.mem_filter,List.mem_range] at hn
  rw [UInt8.toNat_ofNat_of_lt' (by simp [UInt8.size];omega)]
  exact hn.2
 ·intro h
  exact ⟨c.toNat,List.mem_filter.2 ⟨List.mem_range.2 c.toNat_lt,h⟩,UInt8.ofNat_toNat⟩
theorem nF (neg:Bool) (s:ay) (c:UInt8):c∈ck neg s↔bQ s c=true:=by
 unfold ck
 rw [List.mem_append,List.mem_append]
 constructor
 ·rintro (h | h | h)
  ·unfold cR at h
   split at h
   ·rename_i h1;rw [List.mem_singleton.1 h];exact h1
   ·cases h
  ·exact (o5 s c).1 (List.mem_filter.1 h).1
  ·exact (List.mem_filter.1 h).2
 ·intro h
  by_cases hs:spc c=true
  ·rcases (wX c).1 hs with e | e
   ·left
    have:c=93:=ls e
    subst this
    unfold cR
    rw [if_pos h];simp
   ·right;right
    refine List.mem_filter.2 ⟨?_,h⟩
    cases ha:fz neg s with
    | true=>
     obtain ⟨_,_,a1,a2⟩:=of_decide_eq_true ha
     rcases e with e | e | e | e
     ·have:c=91:=ls e
      subst this;rw [a1] at h;cases h
     ·have:c=92:=ls e
      subst this;rw [a2] at h;cases h
     ·have:c=94:=ls e
      subst this;decide
     ·have:c=45:=ls e
      subst this;decide
    | false=>
     rcases e with e | e | e | e
     ·have:c=91:=ls e
      subst this;decide
     ·have:c=92:=ls e
      subst this;decide
     ·have:c=94:=ls e
      subst this;decide
     ·have:c=45:=ls e
      subst this;decide
  ·right;left
   exact List.mem_filter.2 ⟨(o5 s c).2 h,by simpa using hs⟩
theorem zR (neg:Bool) (s:ay):rE z4 (ck neg s)=s:=by
 refine mX fun d hd=>?_
 rw [Dq _ _ _ hd,lH d hd,Bool.false_or]
 have e:(UInt8.ofNat d).toNat=d:=by rw [UInt8.toNat_ofNat_of_lt' (by simp [UInt8.size];omega)]
 cases h:aS s d with
 | true=>
  refine List.any_eq_true.2 ⟨UInt8.ofNat d,(nF neg s _).2 ?_,decide_eq_true e⟩
  unfold bQ;rw [e];exact h
 | false=>
  refine Bool.eq_false_iff.2 fun h2=>?_
  obtain ⟨c,hc,hd2⟩:=List.any_eq_true.1 h2
  have:=(nF neg s c).1 hc
  unfold bQ at this
  rw [of_decide_eq_true hd2,h] at this
  cases this
theorem BF (neg:Bool) (s:ay) (h:(be s 256).length≠0):ck neg s≠[]:=by
 intro e
 cases hq:be s 256 with
 | nil=>exact h (by rw [hq];rfl)
 | cons c l=>
  have:c∈be s 256:=by rw [hq];simp
  have:=(nF neg s c).2 ((o5 s c).1 this)
  rw [e] at this;cases this
theorem yg (s:ay) (h94:s≠ofS [94]) (t:List UInt8) (h:ck false s=94 :: t):False:=by
 unfold ck at h
 have hh:cR s=[]:=by
  unfold cR at h ⊢
  split at h
  ·injection h with h;exact absurd h (by decide)
  ·rename_i h1;rw [if_neg h1]
 rw [hh,List.nil_append] at h
 have hm:mj s=[]:=by
  cases hq:mj s with
  | nil=>rfl
  | cons c M=>
   rw [hq] at h
   injection h with h
   have:=vS s c (by rw [hq];simp)
   rw [h] at this;exact absurd this (by decide)
 rw [hm,List.nil_append] at h
 have hmt:jG s=[]:=by
  unfold jG
  rw [qd]
  show (mj s).flatMap tx=[]
  rw [hm];rfl
 cases ha:fz false s with
 | false=>
  rw [ha] at h
  have h:List.filter (bQ s) [91,92,94,45]=94 :: t:=h
  have h1:bQ s 91=false:=by
   cases h1:bQ s 91 with
   | false=>rfl
   | true=>rw [List.filter_cons_of_pos h1] at h;injection h with h;exact absurd h (by decide)
  have h2:bQ s 92=false:=by
   cases h2:bQ s 92 with
   | false=>rfl
   | true=>rw [List.filter_cons_of_neg (by rw [h1];decide),List.filter_cons_of_pos h2] at h;injection h with h;exact absurd h (by decide)
  have:fz false s=true:=decide_eq_true ⟨rfl,by rw [hh,hmt];rfl,h1,h2⟩
  rw [ha] at this;cases this
 | true=>
  rw [ha] at h
  obtain ⟨_,_,a1,a2⟩:=of_decide_eq_true ha
  have h:List.filter (bQ s) [45,94]=94 :: t:=h
  have h1:bQ s 45=false:=by
   cases h1:bQ s 45 with
   | false=>rfl
   | true=>rw [List.filter_cons_of_pos h1] at h;injection h with h;exact absurd h (by decide)
  have h94':bQ s 94=true:=by
   have:(94:UInt8)∈List.filter (bQ s) [45,94]:=by rw [h];simp
   exact (List.mem_filter.1 this).2
  refine h94 (mX fun d hd=>?_)
  have e:(UInt8.ofNat d).toNat=d:=by rw [UInt8.toNat_ofNat_of_lt' (by simp [UInt8.size];omega)]
  rw [rN [94] d hd]
  simp only [List.any_cons,List.any_nil,Bool.or_false]
  by_cases hd94:d=94
  ·subst hd94;exact h94'
  ·rw [decide_eq_false (show ¬ (94:UInt8).toNat=d from fun e=>hd94 e.symm)]
   refine Bool.eq_false_iff.2 fun hm2=>?_
   have hin:bQ s (UInt8.ofNat d)=true:=by unfold bQ;rw [e];exact hm2
   have:=(nF false s _).2 hin
   unfold ck at this
   rw [hh,hm,ha,List.nil_append,List.nil_append] at this
   have this:UInt8.ofNat d∈List.filter (bQ s) [45,94]:=this
   rw [List.filter_cons_of_neg (by rw [h1];decide),List.filter_cons_of_pos h94'] at this
   have:=List.mem_singleton.1 this
   exact hd94 (by rw [← e,this];rfl)
theorem zS (neg:Bool) (s:ay):(fU neg s).length=(fT neg).length+((ck neg s).flatMap tx).length+1:=by
 have:=congrArg List.length (sD neg s [])
 rw [List.append_nil,List.length_append] at this
 rw [this]
 unfold iy
 rw [List.length_append,List.length_singleton];omega
end Go.Proofs.YtnbceeholnkfeaaGreatDoor
