/- What functions' texts ask for, and the walks that show it (printed by a program). -/
import Derived.Test.YtnbceeholnkfeaaGreatDoorGK
namespace Go.Proofs.YtnbceeholnkfeaaGreatDoor
def ca (x26 : Bool) (r : Bool) : Prop:=
 r = x26
def f8 (bv1 : List UInt8) (extended2 : Bool) (r : Bool) : Prop:=
 ((80 < (bv1.length : Int)→∃ y12 : Bool,eE y12∧r = y12)∧(¬ (80 < (bv1.length : Int))→∃ y14 : T0t×Int×Int,dw bv1 extended2 y14∧∃ y16 : T0t×Int×Int,cE bv1 extended2 y16∧∃ y28 : Bool,dE y14.1 y16.1 y28∧((y28 = true→((y14.2.1 = y16.2.1→((y14.2.2 = y16.2.2→∃ y35 : Bool,eE y35∧ca y35 r)∧(¬ (y14.2.2 = y16.2.2)→ca false r)))∧(¬ (y14.2.1 = y16.2.1)→ca false r)))∧(¬ (y28 = true)→ca false r))))
set_option maxHeartbeats 4000000 in
theorem jm ⦃bv1 : List UInt8⦄ ⦃extended2 : Bool⦄ ⦃r : Bool⦄ (h : f8 bv1 extended2 r) : Cn Tryz.prog 3 [sb bv1, bv extended2] [] [] (Ret (bv r)) := by
 refine aj Tryz.func3 rfl rfl (by kernel_rfl) fun g hg=>?_;simp only [Tryz.ntmps3,ar];refine i_ h (fun h=>?_) fun h=>?_
 ·refine z0_ wL h fun y12 h=>?_;exact r_ h hg
 refine z0_ vL h fun y14 h=>?_;refine wn_ 4 h fun h=>?_;refine aJ aq.h rfl rfl fun b5 => ?_;refine z0_ wJ h fun y16 h=>?_;refine wn_ 4 h fun h=>?_;refine aJ aq.h rfl rfl fun b8 => ?_;refine wn_ 5 h fun h=>?_;refine aw (fun σ=>∃ x26, ca x26 r ∧ σ=⟨[(4, bv x26)], [], []⟩) ?_ ?_
 ·refine z0_ wK h fun y28 h=>?_;refine is_ 32 h (fun h=>?_) fun h=>?_
  ·refine is_ 37 h (fun h=>?_) fun h=>?_
   ·refine is_ 42 h (fun h=>?_) fun h=>?_
    ·refine z0_ wL h fun y35 h=>?_;exact m_ h
    exact m_ h
   exact m_ h
  exact m_ h
 rintro _ ⟨x26,h,rfl⟩;exact r_ h hg
end Go.Proofs.YtnbceeholnkfeaaGreatDoor
