/- What was parsed has a text. -/
import Derived.Test.YtnbceeholnkfeaaGreatDoorReD
import Derived.Test.YtnbceeholnkfeaaGreatDoorGKL3
namespace Go.Proofs.YtnbceeholnkfeaaGreatDoor
theorem sH (b:List UInt8) (x:Bool):iW b x true:=by
 refine ab (fun _=>⟨true,ol,rfl⟩) fun h=>?_
 obtain ⟨z,h1,h2,h3⟩:=vh b x (.inl (by omega))
 refine ⟨z,h1,ab (fun _=>⟨true,ol,rfl⟩) fun h0=>?_⟩
 obtain ⟨τ,t1,t2⟩:=h3 (Decidable.not_not.1 h0)
 exact ⟨(τ,true),t1,ab (fun _=>⟨true,⟨_,t2,ab (fun _=>⟨true,u2 _ _ (Nat.le_trans h2 (by decide)),rfl⟩) fun h=>absurd rfl h⟩,ab (fun _=>⟨true,ol,rfl⟩) fun h=>absurd rfl h⟩) fun h=>absurd rfl h⟩
end Go.Proofs.YtnbceeholnkfeaaGreatDoor
