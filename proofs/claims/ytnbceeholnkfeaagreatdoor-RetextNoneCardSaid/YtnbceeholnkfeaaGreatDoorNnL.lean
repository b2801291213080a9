/- Where branches stand beside each other there is no basic text, but an extended one. -/
import Derived.Test.YtnbceeholnkfeaaGreatDoorNnA
import Derived.Test.YtnbceeholnkfeaaGreatDoorGKL4
namespace Go.Proofs.YtnbceeholnkfeaaGreatDoor
theorem s8 (a b:List UInt8):fA a b true:=by
 show fj a b ((decide (40<(a.length:Int))) || (decide (40<(b.length:Int)))) true
 by_cases hl:40<(a.length:Int)∨40<(b.length:Int)
 ·rw [← Bool.decide_or,decide_eq_true hl]
  exact ab (fun _=>⟨true,ol,rfl⟩) fun h=>absurd rfl h
 rw [← Bool.decide_or,decide_eq_false hl]
 refine ab (fun h=>by cases h) fun _=>?_
 obtain ⟨z,h1,h2,h3⟩:=vh (a++[124]++b) true (.inr ⟨by simp only [List.length_append,List.length_singleton];omega,rfl⟩)
 refine dD (by show 0+a.length≤_;omega) (by omega) (dD (by show ([]++a).length+1≤_;rw [List.nil_append];omega) (by omega) (dD (by show ([]++a++[124]).length+b.length≤_;simp only [List.nil_append,List.length_append,List.length_singleton];omega) (by omega) ⟨z,h1,?_⟩))
 obtain ⟨⟨L,g⟩,p,e⟩:=z
 have h2:L.length≤1000:=h2
 refine ct (fun (st:Bool×Int) m=>∃ k:Nat,k≤L.length∧m=L.length - k∧st.2=(k:Int)∧(st.1=true→∃ x∈L,x.1=3)) L.length ⟨0,Nat.zero_le _,rfl,rfl,fun h=>by cases h⟩ ?_
 rintro ⟨alt,i⟩ m ⟨k,hk,rfl,h4,h5⟩
 have h4:i=(k:Int):=h4
 subst h4
 have h5:alt=true→∃ x∈L,x.1=3:=h5
 show iz ((L,g),p,e) _ alt (k:Int) true
 refine ab (fun h=>?_) fun h=>?_
 ·have h:(k:Int)<(L.length:Int):=h
  have next:∀ alt':Bool,(alt'=true→∃ x∈L,x.1=3)→dJ (k:Int) (fun s'=>∃ m',m'<L.length - k∧∃ k:Nat,k≤L.length∧m'=L.length - k∧s'.2=(k:Int)∧(s'.1=true→∃ x∈L,x.1=3)) alt' true:=fun alt' ha=>au (by omega) ⟨L.length - (k+1),by omega,k+1,by omega,rfl,by show (k:Int)+1=((k+1:Nat):Int);omega,ha⟩
  refine ab (fun h6=>next true fun _=>h5 h6) fun h6=>?_
  obtain ⟨x,hx⟩:∃ x,L[k]? =some x:=⟨_,List.getElem?_eq_getElem (by omega)⟩
  exact ⟨by omega,x,by rw [Int.toNat_natCast];exact hx,next _ fun h7=>⟨x,List.mem_of_getElem? hx,of_decide_eq_true h7⟩⟩
 ·have key:∀ y:Bool,y=((!(decide (e=0))) || (!alt))→fi ((L,g),p,e) y true:=fun y hy=>by
   refine ab (fun _=>⟨true,ol,rfl⟩) fun h6=>?_
   have h7:y=false:=by simpa using h6
   rw [h7] at hy
   have hy:=hy.symm
   rw [Bool.or_eq_false_iff] at hy
   have he:e=0:=by
    have:=hy.1
    rw [Bool.not_eq_false'] at this
    exact of_decide_eq_true this
   have ha:alt=true:=by
    have:=hy.2
    rwa [Bool.not_eq_false'] at this
   obtain ⟨x,hx,hx3⟩:=h5 ha
   obtain ⟨τ,t1,_⟩:=h3 he
   exact ⟨([],false),xy L g hx hx3,(τ,true),t1,ab (fun _=>ab (fun _=>⟨true,ol,rfl⟩) fun h=>absurd rfl h) fun h=>absurd (by simp) h⟩
  exact key _ rfl
end Go.Proofs.YtnbceeholnkfeaaGreatDoor
