/- A tree that was read is right: the document's test of it. -/
import Derived.Test.YtnbceeholnkfeaaGreatDoorRkP
namespace Go.Proofs.YtnbceeholnkfeaaGreatDoor
theorem B1 {n : ND} (h : n.1 = 2∨n.1 = 3∨n.1 = 4∨n.1 = 5) : n.2.1∈aN n:=by
 unfold aN
 split
 ·simp
 ·split
  ·simp
  ·omega
theorem B2 {n : ND} (h : n.1 = 2∨n.1 = 3) : n.2.2.1∈aN n:=by
 unfold aN
 rw [if_pos h];simp
theorem rK {n : Nat} {p : List Int} {z : Int} {P : Int→Prop} (h0 : 0≤z) (h1 : z < n) (hp : p.length≤500000000) (k : (cy n p).set z.toNat (((p.count z : Nat) : Int) + 1) = cy n (p++[z])→P ((p.count z : Nat) : Int)) :
  0≤z∧∃ y,(cy n p)[z.toNat]? = some y∧InR (y + 1)∧0≤z∧∃ y2,(cy n p)[z.toNat]? = some y2∧P y:=by
 have hc : (cy n p)[z.toNat]? = some ((p.count z : Nat) : Int):=by
  rw [jj (by omega),Int.toNat_of_nonneg h0]
 have hl : p.count z≤p.length:=List.count_le_length
 exact ⟨h0,_,hc,aq (by omega) ⟨h0,_,hc,k (rQ h0 (by omega))⟩⟩
theorem vT (l : List ND) (g : Int) (hg0 : 0≤g) (hg : g≤9) :
  aR (fun ag s=>fM (l,g) (cy 10 (bW l)) ag s ((List.range g.toNat).all fun (j : Nat)=>decide ((bW l).count ((j : Int) + 1) = 1))) 1:=by
 refine bP (fun st m=>∃ k : Nat,k≤g.toNat∧g.toNat - k = m∧st = (k : Int) + 1∧∀ j,j < k→(bW l).count ((j : Int) + 1) = 1) _ ⟨0,by omega,rfl,rfl,fun j hj=>by omega⟩ ?_
 rintro st m ⟨k,hk,rfl,rfl,hall⟩
 unfold fM
 simp only
 refine ab (fun h=>?_) fun h=>?_
 ·have hc : (cy 10 (bW l))[((k : Int) + 1).toNat]? = some (((bW l).count ((k : Int) + 1) : Nat) : Int):=by
   rw [jj (by omega),show ((((k : Int) + 1).toNat : Nat) : Int) = (k : Int) + 1 by omega]
  refine ⟨by omega,_,hc,ab (fun h1=>?_) fun h1=>aq (by omega) ⟨g.toNat - (k + 1),by omega,k + 1,by omega,rfl,by omega,fun j hj=>?_⟩⟩
  ·rw [Bool.eq_false_iff]
   intro hc
   have:=of_decide_eq_true (List.all_eq_true.1 hc k (List.mem_range.2 (by omega)))
   exact h1 (by rw [this];rfl)
  ·rcases Nat.lt_or_ge j k with h2 | h2
   ·exact hall j h2
   ·obtain rfl : j = k:=by omega
    have h3:=Decidable.of_not_not h1
    omega
 ·exact List.all_eq_true.2 fun j hj=>decide_eq_true (hall j (by have:=List.mem_range.1 hj;omega))
theorem w6 (l : List ND) (g : Int) (hl : 1≤l.length) (hl2 : l.length≤1000) (hg0 : 0≤g) (hg : g≤9) :
  aR (fun ag s=>gi (l,g) (cy l.length (bd l)) (cy 10 (bW l)) ag s (((List.range (l.length - 1)).all fun (j : Nat)=>decide ((bd l).count (j : Int) = 1)) && ((List.range g.toNat).all fun (j : Nat)=>decide ((bW l).count ((j : Int) + 1) = 1)))) 0:=by
 refine bP (fun st m=>∃ k : Nat,k≤l.length - 1∧l.length - 1 - k = m∧st = (k : Int)∧∀ j,j < k→(bd l).count (j : Int) = 1) _ ⟨0,by omega,rfl,rfl,fun j hj=>by omega⟩ ?_
 rintro st m ⟨k,hk,rfl,rfl,hall⟩
 unfold gi
 simp only
 refine aq (by omega) (ab (fun h=>?_) fun h=>?_)
 ·have hx : (cy l.length (bd l))[(k : Int).toNat]? = some (((bd l).count (k : Int) : Nat) : Int):=by
   rw [Int.toNat_natCast,jj (by omega)]
  refine ⟨by omega,_,hx,ab (fun h1=>?_) fun h1=>aq (by omega) ⟨l.length - 1 - (k + 1),by omega,k + 1,by omega,rfl,by simp,fun j hj=>?_⟩⟩
  ·rw [Bool.eq_false_iff]
   intro hc
   rw [Bool.and_eq_true] at hc
   have:=of_decide_eq_true (List.all_eq_true.1 hc.1 k (List.mem_range.2 (by omega)))
   exact h1 (by rw [this];rfl)
  ·rcases Nat.lt_or_ge j k with h2 | h2
   ·exact hall j h2
   ·obtain rfl : j = k:=by omega
    have h3:=Decidable.of_not_not h1
    omega
 ·have e : ((List.range (l.length - 1)).all fun (j : Nat)=>decide ((bd l).count (j : Int) = 1)) = true:=List.all_eq_true.2 fun j hj=>decide_eq_true (hall j (by have:=List.mem_range.1 hj;omega))
  rw [e,Bool.true_and]
  exact vT l g hg0 hg
theorem w7 (l : List ND) (g : Int) : eS (l,g) (dl l g):=by
 show gj (l,g) _ _
 refine ab (fun h=>?_) fun h=>?_
 ·simp only [Bool.or_eq_true,decide_eq_true_eq] at h
  unfold dl
  rcases h with h | h | h | h
  ·have : ¬ 1≤l.length:=by omega
   simp [this]
  ·have : ¬ l.length≤1000:=by omega
   simp [this]
  ·have : ¬ 0≤g:=by omega
   simp [this]
  ·have : ¬ g≤9:=by omega
   simp [this]
 simp only [Bool.or_eq_true,decide_eq_true_eq,not_or] at h
 obtain ⟨q1,q2,q3,q4⟩:=h
 have hl : 1≤l.length:=by omega
 have hl2 : l.length≤1000:=by omega
 have hg0 : 0≤g:=by omega
 have hg : g≤9:=by omega
 have hR : dl l g = (kD l g && (((List.range (l.length - 1)).all fun (j : Nat)=>decide ((bd l).count (j : Int) = 1)) && ((List.range g.toNat).all fun (j : Nat)=>decide ((bW l).count ((j : Int) + 1) = 1)))):=by
  unfold dl
  rw [decide_eq_true hl,decide_eq_true hl2,decide_eq_true hg0,decide_eq_true hg]
  simp only [Bool.true_and,Bool.and_assoc]
 refine bP (fun (st : Int) m=>∃ k : Nat,k≤l.length∧l.length - k = m∧st = (k : Int)∧∀ (i : Nat) x,i < k→l[i]? = some x→aP x i g = true) l.length ⟨0,by omega,by omega,rfl,fun i x hi=>by omega⟩ ?_
 rintro _ m ⟨k,hk,rfl,rfl,hall⟩
 unfold jz
 simp only
 refine ab (fun h=>?_) fun h=>?_
 ·refine at_ (by omega) h fun x hx=>⟨_,tM x (k : Int) g,?_⟩
  rw [Int.toNat_natCast] at hx
  refine ab (fun hb=>?_) fun hb=>?_
  ·rw [hR,sr hx (by simpa using hb)];rfl
  ·have hb : aP x k g = true:=Decidable.of_not_not hb
   refine aq (by omega) ⟨l.length - (k + 1),by omega,k + 1,by omega,rfl,rfl,fun i y hi hy=>?_⟩
   rcases Nat.lt_or_ge i k with h3 | h3
   ·exact hall i y h3 hy
   ·obtain rfl : i = k:=by omega
    rw [hx] at hy
    obtain rfl:=Option.some.inj hy
    exact hb
 ·obtain rfl : k = l.length:=by omega
  have hn : kD l g = true:=oW fun i x hx=>hall i x (List.getElem?_eq_some_iff.1 hx).1 hx
  rw [hR,hn,Bool.true_and]
  refine ⟨by unfold mz;omega,by decide,?_⟩
  have e0 : ∀ n : Nat,(List.replicate n 0 : List Int) = cy n []:=fun n=>by
   apply List.ext_getElem?
   intro i
   rcases Nat.lt_or_ge i n with hi | hi
   ·rw [jj hi,List.getElem?_replicate,if_pos hi];rfl
   ·rw [List.getElem?_eq_none (by simpa using hi),List.getElem?_eq_none (by rw [lu];omega)]
  rw [Int.toNat_natCast,e0,e0]
  refine bP (fun (st : Int×List Int×List Int) m=>∃ k : Nat,k≤l.length∧l.length - k = m∧st = ((k : Int),cy l.length (bd (l.take k)),cy 10 (bW (l.take k)))) l.length ⟨0,by omega,by omega,rfl⟩ ?_
  rintro _ m ⟨k,hk,rfl,rfl⟩
  unfold jy
  simp only
  refine ab (fun h=>?_) fun h=>?_
  ·refine at_ (by omega) h fun x hx=>?_
   rw [Int.toNat_natCast] at hx
   have hkl : k < l.length:=by omega
   have hb:=qn hn hx
   obtain ⟨hp,h5⟩:=n5 hb
   have hul:=qm (l.take k)
   have hgl:=rR (l.take k)
   rw [List.length_take] at hul hgl
   have j7 : ∀ L,L = bd (l.take (k + 1))→eE x (cy 10 (bW (l.take k))) (k : Int) (fun s'=>∃ m',m' < l.length - k∧∃ k : Nat,k≤l.length∧l.length - k = m'∧s' = ((k : Int),cy l.length (bd (l.take k)),cy 10 (bW (l.take k)))) (cy l.length L)
     (((List.range (l.length - 1)).all fun (j : Nat)=>decide ((bd l).count (j : Int) = 1)) && ((List.range g.toNat).all fun (j : Nat)=>decide ((bW l).count ((j : Int) + 1) = 1))):=by
    rintro L rfl
    refine ab (fun h6=>?_) fun h6=>?_
    ·obtain ⟨g1,g2⟩:=h5 h6
     refine rK (n:=10) (p:=bW (l.take k)) (z:=x.2.2.2.2.2.1) (by omega) (by omega) (by omega) fun e=>?_
     rw [e]
     refine aq (by omega) ⟨l.length - (k + 1),by omega,k + 1,by omega,rfl,?_⟩
     rw [n4 hx,if_pos h6];rfl
    ·refine aq (by omega) ⟨l.length - (k + 1),by omega,k + 1,by omega,rfl,?_⟩
     rw [n4 hx,if_neg h6,List.append_nil];rfl
   have hus:=sq hx
   unfold gh
   refine ab (fun h6=>?_) fun h6=>?_
   ·simp only [Bool.and_eq_true,decide_eq_true_eq] at h6
    have hA:=hp x.2.1 (B1 (by omega))
    refine rK (n:=l.length) (p:=bd (l.take k)) hA.1 (by omega) (by omega) fun e=>?_
    rw [e]
    unfold cC eF
    refine ab (fun h7=>?_) fun h7=>?_
    ·simp only [Bool.or_eq_true,decide_eq_true_eq] at h7
     have hB:=hp x.2.2.1 (B2 h7)
     refine rK (n:=l.length) (p:=bd (l.take k)++[x.2.1]) hB.1 (by omega) (by simp only [List.length_append,List.length_cons,List.length_nil];omega) fun e=>?_
     rw [e]
     refine j7 _ ?_
     rw [hus,aN,if_pos h7,List.append_assoc];rfl
    ·simp only [Bool.or_eq_true,decide_eq_true_eq] at h7
     refine j7 _ ?_
     rw [hus,aN,if_neg h7,if_pos (by omega)]
   ·simp only [Bool.and_eq_true,decide_eq_true_eq] at h6
    unfold cC eF
    refine ab (fun h7=>?_) fun h7=>?_
    ·simp only [Bool.or_eq_true,decide_eq_true_eq] at h7;omega
    ·simp only [Bool.or_eq_true,decide_eq_true_eq] at h7
     refine j7 _ ?_
     rw [hus,aN,if_neg h7,if_neg (by omega),List.append_nil]
  ·obtain rfl : k = l.length:=by omega
   rw [List.take_length]
   exact w6 l g hl hl2 hg0 hg
end Go.Proofs.YtnbceeholnkfeaaGreatDoor
