/- What functions' texts ask for, and the walks that show it (printed by a program). -/
import Derived.Test.YtpddiffpanihdaaStr
import Derived.Test.YtpddiffpanihdaaGK
namespace Go.Proofs.Ytpddiffpanihdaa
def palinodelaw08_BreGroups_j3 (x132 : Bool) (r : Bool) : Prop :=
  r = x132
def palinodelaw08_BreGroups_l2 (x2 : UInt8) (y16 : T3t × Int × Int) (ag2 : ((List UInt8) × Int) → Prop) (x82 : List UInt8) (x84 : Int) (r : Bool) : Prop :=
  ((x84 < (((x2.toNat : Int) : Int).tmod (10)) → Room (([(92 : UInt8), (40 : UInt8)]).length + x82.length) 1 ∧ Room ((([(92 : UInt8), (40 : UInt8)] ++ x82)).length + ((⟨#[92, 41]⟩ : ByteArray)).data.toList.length) 1 ∧ InR (x84 + 1) ∧ ag2 ((([(92 : UInt8), (40 : UInt8)] ++ x82) ++ ((⟨#[92, 41]⟩ : ByteArray)).data.toList), (x84 + 1))) ∧ (¬ (x84 < (((x2.toNat : Int) : Int).tmod (10))) → ∃ y106 : T3t × Int × Int, bre_Parse_R x82 y106 ∧ Room ((([] : List UInt8)).length + x82.length) 1 ∧ Room (((([] : List UInt8) ++ x82)).length + ((⟨#[92, 40, 92, 40, 92, 40, 92, 40, 92, 40, 92, 40, 92, 40, 92, 40, 92, 40, 92, 40, 97]⟩ : ByteArray)).data.toList.length) 1 ∧ ∃ y112 : T3t × Int × Int, bre_Parse_R ((([] : List UInt8) ++ x82) ++ ((⟨#[92, 40, 92, 40, 92, 40, 92, 40, 92, 40, 92, 40, 92, 40, 92, 40, 92, 40, 92, 40, 97]⟩ : ByteArray)).data.toList) y112 ∧ ((y106.2.2 = 0 → ((y106.1.2 = (((x2.toNat : Int) : Int).tmod (10)) → InR ((y16.1.1.length : Int) + (((x2.toNat : Int) : Int).tmod (10))) ∧ (((y106.1.1.length : Int) = ((y16.1.1.length : Int) + (((x2.toNat : Int) : Int).tmod (10))) → ((y112.2.2 = 17 → InR (9 - (((x2.toNat : Int) : Int).tmod (10))) ∧ InR (2 * (9 - (((x2.toNat : Int) : Int).tmod (10)))) ∧ InR ((x82.length : Int) + (2 * (9 - (((x2.toNat : Int) : Int).tmod (10))))) ∧ ((y112.2.1 = ((x82.length : Int) + (2 * (9 - (((x2.toNat : Int) : Int).tmod (10))))) → ∃ y151 : Bool, palinodelaw08_awake_R y151 ∧ palinodelaw08_BreGroups_j3 y151 r) ∧ (¬ (y112.2.1 = ((x82.length : Int) + (2 * (9 - (((x2.toNat : Int) : Int).tmod (10)))))) → palinodelaw08_BreGroups_j3 false r))) ∧ (¬ (y112.2.2 = 17) → palinodelaw08_BreGroups_j3 false r))) ∧ (¬ ((y106.1.1.length : Int) = ((y16.1.1.length : Int) + (((x2.toNat : Int) : Int).tmod (10)))) → palinodelaw08_BreGroups_j3 false r))) ∧ (¬ (y106.1.2 = (((x2.toNat : Int) : Int).tmod (10))) → palinodelaw08_BreGroups_j3 false r))) ∧ (¬ (y106.2.2 = 0) → palinodelaw08_BreGroups_j3 false r))))
def palinodelaw08_BreGroups_j1 (x1 : List UInt8) (x2 : UInt8) (y16 : T3t × Int × Int) (x30 : Bool) (r : Bool) : Prop :=
  ((x30 = true → ∃ y36 : Bool, palinodelaw08_awake_R y36 ∧ r = y36) ∧ (¬ (x30 = true) → Room ((([] : List UInt8)).length + x1.length) 1 ∧ LoopR (fun ag2 s => palinodelaw08_BreGroups_l2 x2 y16 ag2 s.1 s.2 r) ((([] : List UInt8) ++ x1), 0)))
def palinodelaw08_BreGroups_R (x1 : List UInt8) (x2 : UInt8) (r : Bool) : Prop :=
  ((60 < (x1.length : Int) → ∃ y12 : Bool, palinodelaw08_awake_R y12 ∧ r = y12) ∧ (¬ (60 < (x1.length : Int)) → (10 : Int) ≠ 0 ∧ ∃ y16 : T3t × Int × Int, bre_Parse_R x1 y16 ∧ palinodelaw08_BreGroups_j1 x1 x2 y16 ((!(decide (y16.2.2 = 0))) || (decide (0 < y16.1.2))) r))
set_option maxHeartbeats 4000000 in
theorem palinodelaw08_BreGroups_con ⦃x1 : List UInt8⦄ ⦃x2 : UInt8⦄ ⦃r : Bool⦄ (h : palinodelaw08_BreGroups_R x1 x2 r) : Cn Try.prog 6 [sb x1, uv x2] [] [] (Ret (bv r)) := by
 refine xenterN Try.func6 rfl rfl (by kernel_rfl) fun g hg=>?_;simp only [Try.ntmps6,slots];refine i_ h (fun h=>?_) fun h=>?_
 ·refine z0_ k53_ h fun y12 h=>?_;exact r_ h hg
 refine wn_ 6 h fun h=>?_;obtain ⟨h14, h⟩ := h;refine vp_ (pv_remW h14 rfl rfl rfl rfl) ?_;refine z0_ k52_ h fun y16 h=>?_;refine wn_ 4 h fun h=>?_;refine xalloc InfC.h rfl rfl fun b6 => ?_;refine wn_ 6 h fun h=>?_;refine xseqM (fun σ=>∃ x30, palinodelaw08_BreGroups_j1 x1 x2 y16 x30 r ∧ σ=⟨[(0, sb x1), (5, iv ((((x2.toNat : Int) : Int).tmod (10)))), (6, pw b6), (36, bv x30)], [⟨b6, 26, [.sl 10 none (List.map E_palinode_api_Node y16.1.1), iv y16.1.2]⟩], []⟩) ?_ ?_
 ·refine ks_ 32 h (fun h=>?_) fun h=>?_
  ·exact m_ h
  exact m_ h
 rintro _ ⟨x30,h,rfl⟩;refine i_ h (fun h=>?_) fun h=>?_
 ·refine z0_ k53_ h fun y36 h=>?_;exact r_ h hg
 refine wn_ 4 h fun h=>?_;refine xbuildSliceM (f := eb) ([] : List UInt8) UndC.h InfC.h rfl rfl wr_ rfl rfl rfl rfl fun s38 => ?_;refine mv_ ?_;obtain ⟨h37, h⟩ := h;refine xappendM (l := ([] : List UInt8)) (l2 := x1) 0 h37 UndC.h InfC.h rfl rfl rfl (.refl _) rfl rfl rfl fun i38 => ?_;refine wn_ 10 h fun h=>?_;obtain ⟨Inv,⟨m0,hI⟩,hS⟩ := lq_ h;refine lp_ hI (fun σ m=>∃ x82 x84 i83, Inv (x82, x84) m ∧ σ=⟨[(5, iv ((((x2.toNat : Int) : Int).tmod (10)))), (6, pw b6), (9, .sl 1 (some i83) (List.map eb x82)), (10, iv x84)], [⟨b6, 26, [.sl 10 none (List.map E_palinode_api_Node y16.1.1), iv y16.1.2]⟩], [⟨i83, 5, 1, x82.length⟩]⟩) ?_
 rintro _ m ⟨x82,x84,i83,hI,rfl⟩;obtain ⟨ag2,hag2,h⟩ := lpo_ hS hI;refine i_ h (fun h=>?_) fun h=>?_
 ·refine wn_ 5 h fun h=>?_;refine xbuildSliceM (f := eb) [(92 : UInt8), (40 : UInt8)] UndC.h InfC.h rfl rfl wr_ rfl rfl rfl rfl fun s46 => ?_;refine xmarkO 0 UndC.h UndC.h rfl rfl rfl rfl ?_;refine mv_ ?_;obtain ⟨h100, h⟩ := h;refine xappendM (l := [(92 : UInt8), (40 : UInt8)]) (l2 := x82) 0 h100 UndC.h InfC.h rfl rfl rfl (.refl _) rfl rfl rfl fun i101 => ?_;obtain ⟨h102, h⟩ := h;refine xappendSM (l := ([(92 : UInt8), (40 : UInt8)] ++ x82)) (s := (⟨#[92, 41]⟩ : ByteArray)) 0 h102 UndC.h UndC.h InfC.h rfl rfl rfl rfl rfl fun i103 => ?_
  exact g_ h hag2
 refine z0_ k52_ h fun y106 h=>?_;refine wn_ 4 h fun h=>?_;refine xalloc InfC.h rfl rfl fun b11 => ?_;refine wn_ 7 h fun h=>?_;refine xbuildSliceM (f := eb) ([] : List UInt8) UndC.h InfC.h rfl rfl wr_ rfl rfl rfl rfl fun s58 => ?_;refine mv_ ?_;obtain ⟨h107, h⟩ := h;refine xappendM (l := ([] : List UInt8)) (l2 := x82) 0 h107 UndC.h InfC.h rfl rfl rfl (.refl _) rfl rfl rfl fun i108 => ?_;obtain ⟨h109, h⟩ := h
 refine xappendSM (l := (([] : List UInt8) ++ x82)) (s := (⟨#[92, 40, 92, 40, 92, 40, 92, 40, 92, 40, 92, 40, 92, 40, 92, 40, 92, 40, 92, 40, 97]⟩ : ByteArray)) 0 h109 UndC.h UndC.h InfC.h rfl rfl rfl rfl rfl fun i110 => ?_;refine z0_ k52_ h fun y112 h=>?_;refine wn_ 4 h fun h=>?_;refine xalloc InfC.h rfl rfl fun b14 => ?_;refine wn_ 5 h fun h=>?_;refine xseqM (fun σ=>∃ x132, palinodelaw08_BreGroups_j3 x132 r ∧ σ=⟨[(4, bv x132)], [], []⟩) ?_ ?_
 ·refine is_ 68 h (fun h=>?_) fun h=>?_
  ·refine is_ 74 h (fun h=>?_) fun h=>?_
   ·refine is_ 85 h (fun h=>?_) fun h=>?_
    ·refine is_ 89 h (fun h=>?_) fun h=>?_
     ·refine is_ 99 h (fun h=>?_) fun h=>?_
      ·refine z0_ k53_ h fun y151 h=>?_;exact m_ h
      exact m_ h
     exact m_ h
    exact m_ h
   exact m_ h
  exact m_ h
 rintro _ ⟨x132,h,rfl⟩;exact r_ h hg
end Go.Proofs.Ytpddiffpanihdaa
