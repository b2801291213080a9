/- What functions' texts ask for, and the walks that show it (printed by a program). -/
import Derived.Test.YtfhakeapepafbaaGK
namespace Go.Proofs.Ytfhakeapepafbaa
def palinodelaw09_ErePlain_j2 (x425 : Int) (ag1 : (Int) → Prop) (x606 : Bool) (r : Bool) : Prop :=
  ((x606 = true → ∃ y630 : Bool, palinodelaw09_awake_R y630 ∧ r = y630) ∧ (¬ (x606 = true) → InR (x425 + 1) ∧ ag1 (x425 + 1)))
def palinodelaw09_ErePlain_j3 (x647 : Bool) (r : Bool) : Prop :=
  r = x647
def palinodelaw09_ErePlain_l1 (x1 : List UInt8) (ag1 : (Int) → Prop) (x425 : Int) (r : Bool) : Prop :=
  ((x425 < (x1.length : Int) → 0 ≤ (x425 : Int) ∧ ∃ y583 : UInt8, x1[(x425 : Int).toNat]? = some y583 ∧ palinodelaw09_ErePlain_j2 x425 ag1 ((decide ((y583.toNat : Int) = 92)) || ((decide ((y583.toNat : Int) = 91)) || ((decide ((y583.toNat : Int) = 42)) || ((decide ((y583.toNat : Int) = 36)) || ((decide ((y583.toNat : Int) = 94)) || ((decide ((y583.toNat : Int) = 43)) || ((decide ((y583.toNat : Int) = 63)) || ((decide ((y583.toNat : Int) = 123)) || ((decide ((y583.toNat : Int) = 40)) || ((decide ((y583.toNat : Int) = 41)) || (decide ((y583.toNat : Int) = 124)))))))))))) r) ∧ (¬ (x425 < (x1.length : Int)) → ∃ y633 : T0t × Int × Int, ere_Parse_R x1 y633 ∧ ∃ y635 : T0t × Int × Int, bre_Parse_R x1 y635 ∧ ∃ y649 : Bool, palinoderef06_Same_R y633.1 y635.1 y649 ∧ ((y649 = true → ((y633.2.1 = y635.2.1 → ((y633.2.2 = 0 → ((y635.2.2 = 0 → ∃ y658 : Bool, palinodelaw09_awake_R y658 ∧ palinodelaw09_ErePlain_j3 y658 r) ∧ (¬ (y635.2.2 = 0) → palinodelaw09_ErePlain_j3 false r))) ∧ (¬ (y633.2.2 = 0) → palinodelaw09_ErePlain_j3 false r))) ∧ (¬ (y633.2.1 = y635.2.1) → palinodelaw09_ErePlain_j3 false r))) ∧ (¬ (y649 = true) → palinodelaw09_ErePlain_j3 false r))))
def palinodelaw09_ErePlain_R (x1 : List UInt8) (r : Bool) : Prop :=
  ((80 < (x1.length : Int) → ∃ y11 : Bool, palinodelaw09_awake_R y11 ∧ r = y11) ∧ (¬ (80 < (x1.length : Int)) → LoopR (fun ag1 s => palinodelaw09_ErePlain_l1 x1 ag1 s r) 0))
set_option maxHeartbeats 4000000 in
theorem palinodelaw09_ErePlain_con ⦃x1 : List UInt8⦄ ⦃r : Bool⦄ (h : palinodelaw09_ErePlain_R x1 r) : Cn Try.prog 6 [sb x1] [] [] (Ret (bv r)) := by
 refine xenterN Try.func6 rfl rfl (by kernel_rfl) fun g hg=>?_;simp only [Try.ntmps6,slots];refine i_ h (fun h=>?_) fun h=>?_
 ·refine z0_ k57_ h fun y11 h=>?_;exact r_ h hg
 refine wn_ 9 h fun h=>?_;obtain ⟨Inv,⟨m0,hI⟩,hS⟩ := lq_ h;refine lp_ hI (fun σ m=>∃ x425, Inv x425 m ∧ σ=⟨[(0, sb x1), (3, iv x425)], [], []⟩) ?_;rintro _ m ⟨x425,hI,rfl⟩;obtain ⟨ag1,hag1,h⟩ := lpo_ hS hI;refine i_ h (fun h=>?_) fun h=>?_
 ·refine x_ h fun y583 h=>?_;refine wn_ 4 h fun h=>?_;refine xseqM (fun σ=>∃ x606, palinodelaw09_ErePlain_j2 x425 ag1 x606 r ∧ σ=⟨[(0, sb x1), (3, iv x425), (66, bv x606)], [], []⟩) ?_ ?_
  ·refine ks_ 27 h (fun h=>?_) fun h=>?_
   ·exact m_ h
   refine ks_ 31 h (fun h=>?_) fun h=>?_
   ·exact m_ h
   refine ks_ 35 h (fun h=>?_) fun h=>?_
   ·exact m_ h
   refine ks_ 39 h (fun h=>?_) fun h=>?_
   ·exact m_ h
   refine ks_ 43 h (fun h=>?_) fun h=>?_
   ·exact m_ h
   refine ks_ 47 h (fun h=>?_) fun h=>?_
   ·exact m_ h
   refine ks_ 51 h (fun h=>?_) fun h=>?_
   ·exact m_ h
   refine ks_ 55 h (fun h=>?_) fun h=>?_
   ·exact m_ h
   refine ks_ 59 h (fun h=>?_) fun h=>?_
   ·exact m_ h
   refine ks_ 63 h (fun h=>?_) fun h=>?_
   ·exact m_ h
   exact m_ h
  rintro _ ⟨x606,h,rfl⟩;refine i_ h (fun h=>?_) fun h=>?_
  ·refine z0_ k57_ h fun y630 h=>?_;exact r_ h hg
  exact g_ h hag1
 refine z0_ k56_ h fun y633 h=>?_;refine wn_ 4 h fun h=>?_;refine xalloc InfC.h rfl rfl fun b5 => ?_;refine z0_ k81_ h fun y635 h=>?_;refine wn_ 4 h fun h=>?_;refine xalloc InfC.h rfl rfl fun b8 => ?_;refine wn_ 5 h fun h=>?_;refine xseqM (fun σ=>∃ x647, palinodelaw09_ErePlain_j3 x647 r ∧ σ=⟨[(2, bv x647)], [], []⟩) ?_ ?_
 ·refine z0_ k82_ h fun y649 h=>?_;refine is_ 83 h (fun h=>?_) fun h=>?_
  ·refine is_ 88 h (fun h=>?_) fun h=>?_
   ·refine is_ 92 h (fun h=>?_) fun h=>?_
    ·refine is_ 96 h (fun h=>?_) fun h=>?_
     ·refine z0_ k57_ h fun y658 h=>?_;exact m_ h
     exact m_ h
    exact m_ h
   exact m_ h
  exact m_ h
 rintro _ ⟨x647,h,rfl⟩;exact r_ h hg
end Go.Proofs.Ytfhakeapepafbaa
