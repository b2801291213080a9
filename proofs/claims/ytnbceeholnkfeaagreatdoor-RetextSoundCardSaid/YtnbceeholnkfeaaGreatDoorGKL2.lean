/- What functions' texts ask for, and the walks that show it (printed by a program). -/
import Derived.Test.YtnbceeholnkfeaaGreatDoorGK
namespace Go.Proofs.YtnbceeholnkfeaaGreatDoor
def hO (re1: (List T4t)×Int) (extended2: Bool) (r: Bool) : Prop:=
 ((60 < (re1.1.length : Int)→∃ y12 : Bool,dL y12∧r = y12)∧(¬ (60 < (re1.1.length : Int))→∃ y14 : (List UInt8)×Bool,fc re1 extended2 y14∧((¬ (y14.2 = true)→(((y14.1.length : Int) = 0→∃ y36 : Bool,dL y36∧r = y36)∧(¬ ((y14.1.length : Int) = 0)→r = false)))∧(¬ (¬ (y14.2 = true))→∃ y46 : Bool,eS re1 y46∧((y46 = true→∃ y49 : Bool,jf y14.1 extended2 re1 y49∧((y49 = true→∃ y52 : Bool,dL y52∧r = y52)∧(¬ (y49 = true)→r = false)))∧(¬ (y46 = true)→r = false))))))
set_option maxHeartbeats 4000000 in
theorem CD ⦃re1: (List T4t) × Int⦄ ⦃extended2: Bool⦄ ⦃r: Bool⦄ (h: hO re1 extended2 r) : Cn Tryz.prog 5 [.agg [.sl 10 none (List.map aa re1.1), iv re1.2], bv extended2] [] [] (Ret (bv r)) := by
 refine aj Tryz.func5 rfl rfl (by kernel_rfl) fun g hg=>?_;simp only [Tryz.ntmps5,au];refine wn_ 2 h fun h=>?_;refine cr rfl rfl rfl rfl fun b2 => ?_;refine i_ h (fun h=>?_) fun h=>?_
 ·refine z0_ vI h fun y12 h=>?_;exact r_ h hg
 refine z0_ BK h fun y14 h=>?_;refine i_ h (fun h=>?_) fun h=>?_
 ·refine is_ 23 h (fun h=>?_) fun h=>?_
  ·refine z0_ vI h fun y36 h=>?_;exact r_ h hg
  exact r_ h hg
 refine z0_ CC h fun y46 h=>?_;refine is_ 28 h (fun h=>?_) fun h=>?_
 ·refine z0_ zC h fun y49 h=>?_;refine is_ 34 h (fun h=>?_) fun h=>?_
  ·refine z0_ vI h fun y52 h=>?_;exact r_ h hg
  exact r_ h hg
 exact r_ h hg
end Go.Proofs.YtnbceeholnkfeaaGreatDoor
