/- What functions' texts ask for, and the walks that show it (printed by a program). -/
import Derived.Test.YtfhakeapepafbaaGK
namespace Go.Proofs.Ytfhakeapepafbaa
def palinodelaw09_EreReads_j1 (x32 : Bool) (r : Bool) : Prop :=
  r = x32
def palinodelaw09_EreReads_R (bv1 : List UInt8) (r : Bool) : Prop :=
  ((80 < (bv1.length : Int) → ∃ y11 : Bool, palinodelaw09_awake_R y11 ∧ r = y11) ∧ (¬ (80 < (bv1.length : Int)) → ∃ y13 : T0t × Int × Int, ere_Parse_R bv1 y13 ∧ ∃ y15 : T0t × Int × Int, palinoderef08_Extended_R bv1 y15 ∧ ∃ y34 : Bool, palinoderef06_Same_R y13.1 y15.1 y34 ∧ ((y34 = true → ((y13.2.1 = y15.2.1 → ((y13.2.2 = y15.2.2 → ((¬ (y13.2.2 = 0) → ∃ y43 : Bool, palinodelaw09_awake_R y43 ∧ palinodelaw09_EreReads_j1 y43 r) ∧ (¬ (¬ (y13.2.2 = 0)) → ∃ y45 : Bool, palinoderef06_Right_R y13.1 y45 ∧ ((y45 = true → ∃ y48 : Bool, palinodelaw09_awake_R y48 ∧ palinodelaw09_EreReads_j1 y48 r) ∧ (¬ (y45 = true) → palinodelaw09_EreReads_j1 false r))))) ∧ (¬ (y13.2.2 = y15.2.2) → palinodelaw09_EreReads_j1 false r))) ∧ (¬ (y13.2.1 = y15.2.1) → palinodelaw09_EreReads_j1 false r))) ∧ (¬ (y34 = true) → palinodelaw09_EreReads_j1 false r))))
set_option maxHeartbeats 4000000 in
theorem palinodelaw09_EreReads_con ⦃bv1 : List UInt8⦄ ⦃r : Bool⦄ (h : palinodelaw09_EreReads_R bv1 r) : Cn Try.prog 3 [sb bv1] [] [] (Ret (bv r)) := by
 refine xenterN Try.func3 rfl rfl (by kernel_rfl) fun g hg=>?_;simp only [Try.ntmps3,slots];refine i_ h (fun h=>?_) fun h=>?_
 ·refine z0_ k57_ h fun y11 h=>?_;exact r_ h hg
 refine z0_ k56_ h fun y13 h=>?_;refine wn_ 4 h fun h=>?_;refine xalloc InfC.h rfl rfl fun b3 => ?_;refine z0_ k83_ h fun y15 h=>?_;refine wn_ 4 h fun h=>?_;refine xalloc InfC.h rfl rfl fun b6 => ?_;refine wn_ 5 h fun h=>?_;refine xseqM (fun σ=>∃ x32, palinodelaw09_EreReads_j1 x32 r ∧ σ=⟨[(2, bv x32)], [], []⟩) ?_ ?_
 ·refine z0_ k84_ h fun y34 h=>?_;refine is_ 28 h (fun h=>?_) fun h=>?_
  ·refine is_ 33 h (fun h=>?_) fun h=>?_
   ·refine is_ 38 h (fun h=>?_) fun h=>?_
    ·refine is_ 41 h (fun h=>?_) fun h=>?_
     ·refine z0_ k57_ h fun y43 h=>?_;exact m_ h
     refine z0_ k85_ h fun y45 h=>?_;refine is_ 46 h (fun h=>?_) fun h=>?_
     ·refine z0_ k57_ h fun y48 h=>?_;exact m_ h
     exact m_ h
    exact m_ h
   exact m_ h
  exact m_ h
 rintro _ ⟨x32,h,rfl⟩;exact r_ h hg
end Go.Proofs.Ytfhakeapepafbaa
