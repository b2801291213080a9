/- What functions' texts ask for, and the walks that show it (printed by a program). -/
import Derived.Test.YtnbceeholnkfeaaGreatDoorGK
namespace Go.Proofs.YtnbceeholnkfeaaGreatDoor
def iW (bv1:List UInt8) (extended2:Bool) (r:Bool):Prop:=
 ((80<(bv1.length:Int)→∃ y12:Bool,ci y12∧r=y12)∧(¬ (80<(bv1.length:Int))→∃ y14:T0t×Int×Int,bp bv1 extended2 y14∧((¬ (y14.2.2=0)→∃ y22:Bool,ci y22∧r=y22)∧(¬ (¬ (y14.2.2=0))→∃ y24:(List UInt8)×Bool,bU y14.1 extended2 y24∧((y24.2=true→∃ y33:Bool,jB y24.1 extended2 y14.1 y33∧((y33=true→∃ y36:Bool,ci y36∧r=y36)∧(¬ (y33=true)→r=false)))∧(¬ (y24.2=true)→r=false))))))
set_option maxHeartbeats 4000000 in
theorem EU ⦃bv1: List UInt8⦄ ⦃extended2: Bool⦄ ⦃r: Bool⦄ (h: iW bv1 extended2 r) : Cn Tryz.prog 4 [sb bv1, bv extended2] [] [] (Ret (bv r)) := by
 refine al Tryz.func4 rfl rfl (by kernel_rfl) fun g hg=>?_;simp only [Tryz.ntmps4,av];refine i_ h (fun h=>?_) fun h=>?_
 ·refine z0_ qm h fun y12 h=>?_;exact r_ h hg
 refine z0_ xv h fun y14 h=>?_;refine wn_ 4 h fun h=>?_;refine aN ar.h rfl rfl fun b5 => ?_;refine i_ h (fun h=>?_) fun h=>?_
 ·refine z0_ qm h fun y22 h=>?_;exact r_ h hg
 refine z0_ xt h fun y24 h=>?_;refine is_ 31 h (fun h=>?_) fun h=>?_
 ·refine z0_ BY h fun y33 h=>?_;refine is_ 37 h (fun h=>?_) fun h=>?_
  ·refine z0_ qm h fun y36 h=>?_;exact r_ h hg
  exact r_ h hg
 exact r_ h hg
end Go.Proofs.YtnbceeholnkfeaaGreatDoor
