/- What functions' texts ask for, and the walks that show it (printed by a program). -/
import Derived.Test.YtnbceeholnkfeaaGreatDoorGK
namespace Go.Proofs.YtnbceeholnkfeaaGreatDoor
def dJ (x100:Int) (ag2:(Bool×Int)→Prop) (x127:Bool) (_r:Bool):Prop:=
 InR (x100+1)∧ag2 (x127,(x100+1))
def fi (y38:T0t×Int×Int) (x143:Bool) (r:Bool):Prop:=
 ((x143=true→∃ y148:Bool,ci y148∧r=y148)∧(¬ (x143=true)→∃ y150:(List UInt8)×Bool,bU y38.1 false y150∧∃ y152:(List UInt8)×Bool,bU y38.1 true y152∧((¬ (y150.2=true)→((y152.2=true→∃ y160:Bool,ci y160∧r=y160)∧(¬ (y152.2=true)→r=false)))∧(¬ (¬ (y150.2=true))→r=false))))
def iz (y38:T0t×Int×Int) (ag2:(Bool×Int)→Prop) (x99:Bool) (x100:Int) (r:Bool):Prop:=
 ((x100<(y38.1.1.length:Int)→((x99=true→dJ x100 ag2 true r)∧(¬ (x99=true)→0≤(x100:Int)∧∃ y129:Int×Int×Int×Int×Int×Int×T7t,y38.1.1[(x100:Int).toNat]? =some y129∧dJ x100 ag2 (decide (y129.1=3)) r)))∧(¬ (x100<(y38.1.1.length:Int))→fi y38 ((!(decide (y38.2.2=0))) || (!x99)) r))
def fj (x1:List UInt8) (x2:List UInt8) (x22:Bool) (r:Bool):Prop:=
 ((x22=true→∃ y30:Bool,ci y30∧r=y30)∧(¬ (x22=true)→ef ((([]:List UInt8)).length+x1.length) 1∧ef (((([]:List UInt8)++x1)).length+([(124:UInt8)]).length) 1∧ef ((((([]:List UInt8)++x1)++[(124:UInt8)])).length+x2.length) 1∧∃ y38:T0t×Int×Int,bp (((([]:List UInt8)++x1)++[(124:UInt8)])++x2) true y38∧ba (fun ag2 s=>iz y38 ag2 s.1 s.2 r) (false,0)))
def fA (x1:List UInt8) (x2:List UInt8) (r:Bool):Prop:=
 fj x1 x2 ((decide (40<(x1.length:Int))) || (decide (40<(x2.length:Int)))) r
set_option maxHeartbeats 4000000 in
theorem EV ⦃x1: List UInt8⦄ ⦃x2: List UInt8⦄ ⦃r: Bool⦄ (h: fA x1 x2 r) : Cn Tryz.prog 6 [sb x1, sb x2] [] [] (Ret (bv r)) := by
 refine al Tryz.func6 rfl rfl (by kernel_rfl) fun g hg=>?_;simp only [Tryz.ntmps6,av];unfold fA at h;refine wn_ 6 h fun h=>?_;refine ax (fun σ=>∃ x22, fj x1 x2 x22 r ∧ σ=⟨[(0, sb x1), (1, sb x2), (21, bv x22)], [], []⟩) ?_ ?_
 ·refine ks_ 17 h (fun h=>?_) fun h=>?_
  ·exact m_ h
  exact m_ h
 rintro _ ⟨x22,h,rfl⟩;refine i_ h (fun h=>?_) fun h=>?_
 ·refine z0_ qm h fun y30 h=>?_;exact r_ h hg
 refine wn_ 4 h fun h=>?_;refine aM (f := eb) ([] : List UInt8) ai.h ar.h rfl rfl wr_ rfl rfl rfl rfl fun s24 => ?_;refine mv_ ?_;obtain ⟨h31, h⟩ := h;refine dv (l := ([] : List UInt8)) (l2 := x1) 0 h31 ai.h ar.h rfl rfl rfl (.refl _) rfl rfl rfl fun i32 => ?_;refine aM (f := eb) [(124 : UInt8)] ai.h ar.h rfl rfl wr_ rfl rfl rfl rfl fun s27 => ?_;obtain ⟨h33, h⟩ := h
 refine dv (l := (([] : List UInt8) ++ x1)) (l2 := [(124 : UInt8)]) 1 h33 ai.h ar.h rfl rfl rfl (.refl _) rfl rfl rfl fun i34 => ?_;refine mv_ ?_;obtain ⟨h35, h⟩ := h;refine dv (l := ((([] : List UInt8) ++ x1) ++ [(124 : UInt8)])) (l2 := x2) 1 h35 ai.h ar.h rfl rfl rfl (.refl _) rfl rfl rfl fun i36 => ?_;refine z0_ xv h fun y38 h=>?_;refine wn_ 4 h fun h=>?_
 refine aN ar.h rfl rfl fun b5 => ?_;refine wn_ 17 h fun h=>?_;obtain ⟨Inv,⟨m0,hI⟩,hS⟩ := lq_ h;refine lp_ hI (fun σ m=>∃ x99 x100, Inv (x99, x100) m ∧ σ=⟨[(5, pw b5), (7, iv y38.2.2), (8, bv x99), (9, iv x100)], [⟨b5, 26, [.sl 10 none (List.map aa y38.1.1), iv y38.1.2]⟩], []⟩) ?_;rintro _ m ⟨x99,x100,hI,rfl⟩
 obtain ⟨ag2,hag2,h⟩ := cu hS hI;refine i_ h (fun h=>?_) fun h=>?_
 ·refine wn_ 2 h fun h=>?_;refine ax (fun σ=>∃ x127, dJ x100 ag2 x127 r ∧ σ=⟨[(5, pw b5), (7, iv y38.2.2), (8, bv x127), (9, iv x100)], [⟨b5, 26, [.sl 10 none (List.map aa y38.1.1), iv y38.1.2]⟩], []⟩) ?_ ?_
  ·refine is_ 43 h (fun h=>?_) fun h=>?_
   ·exact m_ h
   refine x_ h fun y129 h=>?_;exact m_ h
  rintro _ ⟨x127,h,rfl⟩;exact g_ h hag2
 refine wn_ 6 h fun h=>?_;refine ax (fun σ=>∃ x143, fi y38 x143 r ∧ σ=⟨[(5, pw b5), (57, bv x143)], [⟨b5, 26, [.sl 10 none (List.map aa y38.1.1), iv y38.1.2]⟩], []⟩) ?_ ?_
 ·refine ks_ 54 h (fun h=>?_) fun h=>?_
  ·exact m_ h
  exact m_ h
 rintro _ ⟨x143,h,rfl⟩;refine i_ h (fun h=>?_) fun h=>?_
 ·refine z0_ qm h fun y148 h=>?_;exact r_ h hg
 refine z0_ xt h fun y150 h=>?_;refine z0_ xt h fun y152 h=>?_;refine is_ 71 h (fun h=>?_) fun h=>?_
 ·refine is_ 74 h (fun h=>?_) fun h=>?_
  ·refine z0_ qm h fun y160 h=>?_;exact r_ h hg
  exact r_ h hg
 exact r_ h hg
end Go.Proofs.YtnbceeholnkfeaaGreatDoor
