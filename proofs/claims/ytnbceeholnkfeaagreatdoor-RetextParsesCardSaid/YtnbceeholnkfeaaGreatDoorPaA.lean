/- The bytes of a set; two rows of nodes are compared. -/
import Derived.Test.YtnbceeholnkfeaaGreatDoorBrS
import Derived.Test.YtnbceeholnkfeaaGreatDoorPl
namespace Go.Proofs.YtnbceeholnkfeaaGreatDoor
theorem xJ (s : aO) (c : UInt8) : eY s c (aU s c.toNat):=by
 have hc:=c.toNat_lt
 have h1 : (c.toNat : Int).tdiv 64 = ((c.toNat / 64 : Nat) : Int):=td _ 64
 have h2 : (c.toNat : Int).tmod 64 = ((c.toNat % 64 : Nat) : Int):=tm _ 64
 unfold eY
 rw [h1,h2]
 refine ⟨by decide,gq (by omega) fun c4 h4=>atA (by omega) (by omega) fun y hy=>⟨by decide,tF (by omega) fun c8 h8=>⟨by omega,?_⟩⟩⟩
 have hmin : min ((c8.toNat : Int) : Int).toNat IntKind.u64.bits = c.toNat % 64:=by show min _ 64 = _;omega
 have hyl:=y.toNat_lt
 have hle : y.toNat / 2 ^ (c.toNat % 64)≤y.toNat:=Nat.div_le_self _ _
 rw [hmin,fdp]
 rw [show ((c4.toNat : Int) : Int).toNat = c.toNat / 64 by omega] at hy
 rw [yq hy]
 generalize y.toNat / 2 ^ (c.toNat % 64) = q at hle
 refine zi (by omega) fun c10 h10=>Ag (b:=1) ?_
 rw [ decide_eq_decide,UInt64.toNat_and,show (1 : UInt64).toNat = 1 from rfl,Nat.and_one_is_mod]
 omega
def lw (s : aO) (k : Nat) : List UInt8:=((List.range k).filter (aU s)).map UInt8.ofNat
theorem ux (s : aO) (k : Nat) : lw s (k + 1) = lw s k++(if aU s k = true then [UInt8.ofNat k] else []):=by
 unfold lw
 rw [List.range_succ,List.filter_append,List.map_append]
 congr 1
 by_cases h : aU s k = true <;> simp [h]
theorem vP (s : aO) (k : Nat) : (lw s k).length≤k:=by
 unfold lw
 rw [List.length_map]
 exact Nat.le_trans (List.length_filter_le _ _) (by simp)
theorem vQ (s : aO) : iL s (lw s 256):=by
 refine ct (fun st m=>∃ k,k≤256∧m = 256 - k∧st.2 = (k : Int)∧st.1 = lw s k) _ ⟨0,by omega,rfl,rfl,rfl⟩ ?_
 rintro ⟨o,x⟩ m ⟨k,hk,rfl,h1,h2⟩
 simp only at h1 h2
 subst h1;subst h2
 have hl:=vP s k
 show l8 s _ (lw s k) (k : Int) _
 refine ab (fun h3=>?_) fun h3=>?_
 ·have hn:=ux s k
  refine gq (by omega) fun c hc=>⟨_,xJ _ _,ab (fun h4=>?_) fun h4=>?_⟩
  ·rw [show c.toNat = k by omega] at h4
   refine gq (by omega) fun c' hc'=>fK (by simp;omega) (by omega) (av (by omega) ⟨256 - (k + 1),by omega,k + 1,by omega,rfl,by simp,?_⟩)
   show lw s k++[c'] = _
   rw [hn,if_pos h4,show UInt8.ofNat k = c' from UInt8.toNat_inj.1 (by rw [UInt8.toNat_ofNat_of_lt' (by simp [UInt8.size];omega)];omega)]
  ·rw [show c.toNat = k by omega] at h4
   refine av (by omega) ⟨256 - (k + 1),by omega,k + 1,by omega,rfl,by simp,?_⟩
   show lw s k = _
   rw [hn,if_neg h4,List.append_nil]
 ·obtain rfl : k = 256:=by omega
  rfl
set_option synthInstance.maxSize 4000 in
theorem vR (a b : List (Int×Int×Int×Int×Int×Int×(Arr 4 (UInt64)))) (hl : a.length≤1000000) : ke a b (decide (a = b)):=by
 refine ab (fun h=>?_) fun h=>?_
 ·exact decide_eq_false fun e : a = b=>h (by rw [e])
 ·have hlen : a.length = b.length:=by omega
  refine ct (fun st m=>∃ k : Nat,k≤a.length∧m = a.length - k∧st = (k : Int)∧a.take k = b.take k) _ ⟨0,by omega,rfl,rfl,rfl⟩ ?_
  rintro st m ⟨k,hk,rfl,rfl,h2⟩
  refine ab (fun h3=>?_) fun h3=>?_
  ·refine at_ (by omega) (by omega) fun x hx=>at_ (by omega) (by omega) fun y hy=>?_
   rw [Int.toNat_natCast] at hx hy
   refine ab (fun h4=>?_) fun h4=>?_
   ·refine decide_eq_false fun e : a = b=>h4 ?_
    rw [e,hy] at hx
    exact (Option.some.inj hx).symm
   ·have hxy : x = y:=Decidable.of_not_not h4
    refine av (by omega) ⟨a.length - (k + 1),by omega,k + 1,by omega,rfl,by simp,?_⟩
    rw [List.take_add_one,List.take_add_one,h2,hx,hy,hxy]
  ·rw [List.take_of_length_le (by omega),List.take_of_length_le (by omega)] at h2
   exact (decide_eq_true h2).symm▸rfl
end Go.Proofs.YtnbceeholnkfeaaGreatDoor
