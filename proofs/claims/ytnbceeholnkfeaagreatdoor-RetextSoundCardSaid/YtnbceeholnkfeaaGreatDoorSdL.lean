/- What is told as a regular expression's text is one. -/
import Derived.Test.YtnbceeholnkfeaaGreatDoorPaK
import Derived.Test.YtnbceeholnkfeaaGreatDoorPbA
import Derived.Test.YtnbceeholnkfeaaGreatDoorRr
import Derived.Test.YtnbceeholnkfeaaGreatDoorGKL2
namespace Go.Proofs.YtnbceeholnkfeaaGreatDoor
theorem qY (re : List ND×Int) (x : Bool) : hO re x true:=by
 obtain ⟨L,g⟩:=re
 refine ab (fun _=>⟨true,tz,rfl⟩) fun h=>?_
 obtain ⟨r,hr,ho⟩:=yY x L g (fun τ z=>z.2.2 = 0→cN τ x z) fun τ hτ=>by
  obtain ⟨z,z1,z2,z3,z4,_⟩:=wQ τ x hτ
  exact ⟨z,z1,z2,z3,fun h=>z4 (.inr h)⟩
 refine ⟨r,hr,?_⟩
 rcases ho with rfl | ⟨τ,rfl,h1,h2,h3⟩
 ·refine ab (fun _=>ab (fun _=>⟨true,tz,rfl⟩) fun h=>absurd rfl h) fun h=>absurd (by simp) h
 ·have hl:=(mY h1).2.1
  have hri:=w7 L g
  rw [h1] at hri
  refine ab (fun h=>absurd rfl h) fun _=>⟨true,hri,ab (fun _=>⟨true,⟨_,h3 rfl,ab (fun _=>⟨true,tw L g (by omega),rfl⟩) fun h=>absurd rfl h⟩,ab (fun _=>⟨true,tz,rfl⟩) fun h=>absurd rfl h⟩) fun h=>absurd rfl h⟩
end Go.Proofs.YtnbceeholnkfeaaGreatDoor
