/- What functions' texts ask for, and the walks that show it (printed by a program). -/
import Derived.Test.YtfhakeapepafbaaGK
import Derived.Test.YtfhakeapepafbaaStr
namespace Go.Proofs.Ytfhakeapepafbaa
def palinodelaw09_EreShort_j2 (x250 : Int) (ag1 : (Int) → Prop) (x353 : Bool) (r : Bool) : Prop :=
  ((x353 = true → ∃ y367 : Bool, palinodelaw09_awake_R y367 ∧ r = y367) ∧ (¬ (x353 = true) → InR (x250 + 1) ∧ ag1 (x250 + 1)))
def palinodelaw09_EreShort_j3 (x402 : Bool) (r : Bool) : Prop :=
  r = x402
def palinodelaw09_EreShort_l1 (x1 : List UInt8) (x2 : UInt8) (ag1 : (Int) → Prop) (x250 : Int) (r : Bool) : Prop :=
  ((x250 < (x1.length : Int) → 0 ≤ (x250 : Int) ∧ ∃ y354 : UInt8, x1[(x250 : Int).toNat]? = some y354 ∧ (((y354.toNat : Int) = 92 → palinodelaw09_EreShort_j2 x250 ag1 true r) ∧ (¬ ((y354.toNat : Int) = 92) → 0 ≤ (x250 : Int) ∧ ∃ y358 : UInt8, x1[(x250 : Int).toNat]? = some y358 ∧ (((y358.toNat : Int) = 91 → palinodelaw09_EreShort_j2 x250 ag1 true r) ∧ (¬ ((y358.toNat : Int) = 91) → 0 ≤ (x250 : Int) ∧ ∃ y362 : UInt8, x1[(x250 : Int).toNat]? = some y362 ∧ palinodelaw09_EreShort_j2 x250 ag1 (decide ((y362.toNat : Int) = 123)) r))))) ∧ (¬ (x250 < (x1.length : Int)) → (3 : Int) ≠ 0 ∧ 0 ≤ ((((x2.toNat : Int) : Int).tmod (3)) : Int) ∧ ∃ y371 : ByteArray, ([(⟨#[42]⟩ : ByteArray), (⟨#[43]⟩ : ByteArray), (⟨#[63]⟩ : ByteArray)])[((((x2.toNat : Int) : Int).tmod (3)) : Int).toNat]? = some y371 ∧ (3 : Int) ≠ 0 ∧ 0 ≤ ((((x2.toNat : Int) : Int).tmod (3)) : Int) ∧ ∃ y375 : ByteArray, ([(⟨#[123, 48, 44, 125]⟩ : ByteArray), (⟨#[123, 49, 44, 125]⟩ : ByteArray), (⟨#[123, 48, 44, 49, 125]⟩ : ByteArray)])[((((x2.toNat : Int) : Int).tmod (3)) : Int).toNat]? = some y375 ∧ Room ((([] : List UInt8)).length + x1.length) 1 ∧ Room (((([] : List UInt8) ++ x1)).length + y371.data.toList.length) 1 ∧ ∃ y382 : T2t × Int × Int, ere_Parse_R ((([] : List UInt8) ++ x1) ++ y371.data.toList) y382 ∧ Room ((([] : List UInt8)).length + x1.length) 1 ∧ Room (((([] : List UInt8) ++ x1)).length + y375.data.toList.length) 1 ∧ ∃ y388 : T2t × Int × Int, ere_Parse_R ((([] : List UInt8) ++ x1) ++ y375.data.toList) y388 ∧ ((y382.2.2 = y388.2.2 → ∃ y406 : Bool, palinoderef06_Same_R y382.1 y388.1 y406 ∧ ((y406 = true → ((y382.2.1 = y388.2.1 → ∃ y411 : Bool, palinodelaw09_awake_R y411 ∧ palinodelaw09_EreShort_j3 y411 r) ∧ (¬ (y382.2.1 = y388.2.1) → ((y382.2.2 = 14 → ∃ y415 : Bool, palinodelaw09_awake_R y415 ∧ palinodelaw09_EreShort_j3 y415 r) ∧ (¬ (y382.2.2 = 14) → palinodelaw09_EreShort_j3 false r))))) ∧ (¬ (y406 = true) → palinodelaw09_EreShort_j3 false r))) ∧ (¬ (y382.2.2 = y388.2.2) → palinodelaw09_EreShort_j3 false r))))
def palinodelaw09_EreShort_R (x1 : List UInt8) (x2 : UInt8) (r : Bool) : Prop :=
  ((40 < (x1.length : Int) → ∃ y12 : Bool, palinodelaw09_awake_R y12 ∧ r = y12) ∧ (¬ (40 < (x1.length : Int)) → LoopR (fun ag1 s => palinodelaw09_EreShort_l1 x1 x2 ag1 s r) 0))
set_option maxHeartbeats 4000000 in
theorem palinodelaw09_EreShort_con ⦃x1 : List UInt8⦄ ⦃x2 : UInt8⦄ ⦃r : Bool⦄ (h : palinodelaw09_EreShort_R x1 x2 r) : Cn Try.prog 5 [sb x1, uv x2] [] [] (Ret (bv r)) := by
 refine xenterN Try.func5 rfl rfl (by kernel_rfl) fun g hg=>?_;simp only [Try.ntmps5,slots];refine i_ h (fun h=>?_) fun h=>?_
 ·refine z0_ k57_ h fun y12 h=>?_;exact r_ h hg
 refine wn_ 9 h fun h=>?_;obtain ⟨Inv,⟨m0,hI⟩,hS⟩ := lq_ h;refine lp_ hI (fun σ m=>∃ x250, Inv x250 m ∧ σ=⟨[(0, sb x1), (1, uv x2), (5, iv x250)], [], []⟩) ?_;rintro _ m ⟨x250,hI,rfl⟩;obtain ⟨ag1,hag1,h⟩ := lpo_ hS hI;refine i_ h (fun h=>?_) fun h=>?_
 ·refine wn_ 4 h fun h=>?_;refine xseqM (fun σ=>∃ x353, palinodelaw09_EreShort_j2 x250 ag1 x353 r ∧ σ=⟨[(0, sb x1), (1, uv x2), (5, iv x250), (42, bv x353)], [], []⟩) ?_ ?_
  ·refine x_ h fun y354 h=>?_;refine is_ 29 h (fun h=>?_) fun h=>?_
   ·exact m_ h
   refine x_ h fun y358 h=>?_;refine is_ 36 h (fun h=>?_) fun h=>?_
   ·exact m_ h
   refine x_ h fun y362 h=>?_;exact m_ h
  rintro _ ⟨x353,h,rfl⟩;refine i_ h (fun h=>?_) fun h=>?_
  ·refine z0_ k57_ h fun y367 h=>?_;exact r_ h hg
  exact g_ h hag1
 refine wn_ 7 h fun h=>?_;refine xbuildSliceM (f := es) [(⟨#[42]⟩ : ByteArray), (⟨#[43]⟩ : ByteArray), (⟨#[63]⟩ : ByteArray)] UndC.h InfC.h rfl rfl wr_ rfl rfl rfl rfl fun s44 => ?_;refine wn_ 2 h fun h=>?_;obtain ⟨h370, h⟩ := h;refine vp_ (pv_remW h370 rfl rfl rfl rfl) ?_;refine x_ h fun y371 h=>?_;refine wn_ 6 h fun h=>?_;refine xbuildSliceM (f := es) [(⟨#[123, 48, 44, 125]⟩ : ByteArray), (⟨#[123, 49, 44, 125]⟩ : ByteArray), (⟨#[123, 48, 44, 49, 125]⟩ : ByteArray)] UndC.h InfC.h rfl rfl wr_ rfl rfl rfl rfl fun s50 => ?_
 refine wn_ 2 h fun h=>?_;obtain ⟨h374, h⟩ := h;refine vp_ (pv_remW h374 rfl rfl rfl rfl) ?_;refine x_ h fun y375 h=>?_;refine wn_ 6 h fun h=>?_;refine xbuildSliceM (f := eb) ([] : List UInt8) UndC.h InfC.h rfl rfl wr_ rfl rfl rfl rfl fun s57 => ?_;refine mv_ ?_;obtain ⟨h377, h⟩ := h;refine xappendM (l := ([] : List UInt8)) (l2 := x1) 0 h377 UndC.h InfC.h rfl rfl rfl (.refl _) rfl rfl rfl fun i378 => ?_
 refine mv_ ?_;obtain ⟨h379, h⟩ := h;refine xappendSM (l := (([] : List UInt8) ++ x1)) (s := y371) 0 h379 UndC.h UndC.h InfC.h rfl rfl rfl rfl rfl fun i380 => ?_;refine z0_ k56_ h fun y382 h=>?_;refine wn_ 4 h fun h=>?_;refine xalloc InfC.h rfl rfl fun b8 => ?_;refine wn_ 7 h fun h=>?_;refine xbuildSliceM (f := eb) ([] : List UInt8) UndC.h InfC.h rfl rfl wr_ rfl rfl rfl rfl fun s67 => ?_;refine mv_ ?_
 obtain ⟨h383, h⟩ := h;refine xappendM (l := ([] : List UInt8)) (l2 := x1) 0 h383 UndC.h InfC.h rfl rfl rfl (.refl _) rfl rfl rfl fun i384 => ?_;refine mv_ ?_;obtain ⟨h385, h⟩ := h;refine xappendSM (l := (([] : List UInt8) ++ x1)) (s := y375) 0 h385 UndC.h UndC.h InfC.h rfl rfl rfl rfl rfl fun i386 => ?_;refine z0_ k56_ h fun y388 h=>?_;refine wn_ 4 h fun h=>?_;refine xalloc InfC.h rfl rfl fun b11 => ?_
 refine wn_ 5 h fun h=>?_;refine xseqM (fun σ=>∃ x402, palinodelaw09_EreShort_j3 x402 r ∧ σ=⟨[(4, bv x402)], [], []⟩) ?_ ?_
 ·refine is_ 79 h (fun h=>?_) fun h=>?_
  ·refine z0_ k58_ h fun y406 h=>?_;refine is_ 84 h (fun h=>?_) fun h=>?_
   ·refine is_ 88 h (fun h=>?_) fun h=>?_
    ·refine z0_ k57_ h fun y411 h=>?_;exact m_ h
    refine is_ 93 h (fun h=>?_) fun h=>?_
    ·refine z0_ k57_ h fun y415 h=>?_;exact m_ h
    exact m_ h
   exact m_ h
  exact m_ h
 rintro _ ⟨x402,h,rfl⟩;exact r_ h hg
end Go.Proofs.Ytfhakeapepafbaa
