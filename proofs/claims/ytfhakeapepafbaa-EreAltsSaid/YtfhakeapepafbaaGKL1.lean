/- What functions' texts ask for, and the walks that show it (printed by a program). -/
import Derived.Test.YtfhakeapepafbaaGK
namespace Go.Proofs.Ytfhakeapepafbaa
def palinodelaw09_EreAlts_j4 (x265 : Bool) (r : Bool) : Prop :=
  r = x265
def palinodelaw09_EreAlts_j3 (x1 : List UInt8) (x2 : List UInt8) (y56 : T2t × Int × Int) (y58 : T2t × Int × Int) (x173 : Bool) (r : Bool) : Prop :=
  ((x173 = true → ∃ y194 : Bool, palinodelaw09_awake_R y194 ∧ r = y194) ∧ (¬ (x173 = true) → Room ((([] : List UInt8)).length + x1.length) 1 ∧ Room (((([] : List UInt8) ++ x1)).length + ([(124 : UInt8)]).length) 1 ∧ Room ((((([] : List UInt8) ++ x1) ++ [(124 : UInt8)])).length + x2.length) 1 ∧ ∃ y202 : T2t × Int × Int, ere_Parse_R (((([] : List UInt8) ++ x1) ++ [(124 : UInt8)]) ++ x2) y202 ∧ ((¬ (y202.2.2 = 0) → r = false) ∧ (¬ (¬ (y202.2.2 = 0)) → InR ((y56.1.1.length : Int) + (y58.1.1.length : Int)) ∧ InR (((y56.1.1.length : Int) + (y58.1.1.length : Int)) + 1) ∧ ((¬ ((y202.1.1.length : Int) = (((y56.1.1.length : Int) + (y58.1.1.length : Int)) + 1)) → r = false) ∧ (¬ (¬ ((y202.1.1.length : Int) = (((y56.1.1.length : Int) + (y58.1.1.length : Int)) + 1))) → (0 ≤ ((y56.1.1.length : Int) : Int) ∧ ((y56.1.1.length : Int) : Int) ≤ (y202.1.1.length : Int)) ∧ ∃ y248 : Bool, palinoderef06_Same_R ((y202.1.1.take ((y56.1.1.length : Int) : Int).toNat), 0) y56.1 y248 ∧ ((¬ (y248 = true) → r = false) ∧ (¬ (¬ (y248 = true)) → InR ((y202.1.1.length : Int) - 1) ∧ 0 ≤ (((y202.1.1.length : Int) - 1) : Int) ∧ ∃ y252 : Int × Int × Int × Int × Int × Int × T3t, y202.1.1[(((y202.1.1.length : Int) - 1) : Int).toNat]? = some y252 ∧ ((y252.1 = 3 → InR ((y56.1.1.length : Int) - 1) ∧ ((y252.2.1 = ((y56.1.1.length : Int) - 1) → InR ((y202.1.1.length : Int) - 2) ∧ ((y252.2.2.1 = ((y202.1.1.length : Int) - 2) → ∃ y276 : Bool, palinodelaw09_awake_R y276 ∧ palinodelaw09_EreAlts_j4 y276 r) ∧ (¬ (y252.2.2.1 = ((y202.1.1.length : Int) - 2)) → palinodelaw09_EreAlts_j4 false r))) ∧ (¬ (y252.2.1 = ((y56.1.1.length : Int) - 1)) → palinodelaw09_EreAlts_j4 false r))) ∧ (¬ (y252.1 = 3) → palinodelaw09_EreAlts_j4 false r))))))))))
def palinodelaw09_EreAlts_j2 (y56 : T2t × Int × Int) (x1 : List UInt8) (x2 : List UInt8) (y58 : T2t × Int × Int) (x100 : Bool) (r : Bool) : Prop :=
  ((x100 = true → r = false) ∧ (¬ (x100 = true) → ((¬ (y56.2.2 = 0) → palinodelaw09_EreAlts_j3 x1 x2 y56 y58 true r) ∧ (¬ (¬ (y56.2.2 = 0)) → ((¬ (y58.2.2 = 0) → palinodelaw09_EreAlts_j3 x1 x2 y56 y58 true r) ∧ (¬ (¬ (y58.2.2 = 0)) → InR (y56.1.2 + y58.1.2) ∧ ((0 < (y56.1.2 + y58.1.2) → palinodelaw09_EreAlts_j3 x1 x2 y56 y58 true r) ∧ (¬ (0 < (y56.1.2 + y58.1.2)) → InR ((y56.1.1.length : Int) - 1) ∧ 0 ≤ (((y56.1.1.length : Int) - 1) : Int) ∧ ∃ y183 : Int × Int × Int × Int × Int × Int × T3t, y56.1.1[(((y56.1.1.length : Int) - 1) : Int).toNat]? = some y183 ∧ ((y183.1 = 3 → palinodelaw09_EreAlts_j3 x1 x2 y56 y58 true r) ∧ (¬ (y183.1 = 3) → InR ((y58.1.1.length : Int) - 1) ∧ 0 ≤ (((y58.1.1.length : Int) - 1) : Int) ∧ ∃ y189 : Int × Int × Int × Int × Int × Int × T3t, y58.1.1[(((y58.1.1.length : Int) - 1) : Int).toNat]? = some y189 ∧ palinodelaw09_EreAlts_j3 x1 x2 y56 y58 (decide (y189.1 = 3)) r))))))))))
def palinodelaw09_EreAlts_j1 (x1 : List UInt8) (x2 : List UInt8) (x40 : Bool) (r : Bool) : Prop :=
  ((x40 = true → ∃ y54 : Bool, palinodelaw09_awake_R y54 ∧ r = y54) ∧ (¬ (x40 = true) → ∃ y56 : T2t × Int × Int, ere_Parse_R x1 y56 ∧ ∃ y58 : T2t × Int × Int, ere_Parse_R x2 y58 ∧ palinodelaw09_EreAlts_j2 y56 x1 x2 y58 (bif (decide (y56.2.2 = 0)) then ((decide ((y56.1.1.length : Int) = 0)) || ((decide (y58.2.2 = 0)) && (decide ((y58.1.1.length : Int) = 0)))) else ((decide (y58.2.2 = 0)) && (decide ((y58.1.1.length : Int) = 0)))) r))
def palinodelaw09_EreAlts_R (x1 : List UInt8) (x2 : List UInt8) (r : Bool) : Prop :=
  palinodelaw09_EreAlts_j1 x1 x2 ((decide (40 < (x1.length : Int))) || ((decide (40 < (x2.length : Int))) || ((decide ((x1.length : Int) < 1)) || (decide ((x2.length : Int) < 1))))) r
set_option maxHeartbeats 4000000 in
theorem palinodelaw09_EreAlts_con ⦃x1 : List UInt8⦄ ⦃x2 : List UInt8⦄ ⦃r : Bool⦄ (h : palinodelaw09_EreAlts_R x1 x2 r) : Cn Try.prog 4 [sb x1, sb x2] [] [] (Ret (bv r)) := by
 refine xenterN Try.func4 rfl rfl (by kernel_rfl) fun g hg=>?_;simp only [Try.ntmps4,slots];unfold palinodelaw09_EreAlts_R at h;refine wn_ 6 h fun h=>?_;refine xseqM (fun σ=>∃ x40, palinodelaw09_EreAlts_j1 x1 x2 x40 r ∧ σ=⟨[(0, sb x1), (1, sb x2), (33, bv x40)], [], []⟩) ?_ ?_
 ·refine ks_ 19 h (fun h=>?_) fun h=>?_
  ·exact m_ h
  refine ks_ 24 h (fun h=>?_) fun h=>?_
  ·exact m_ h
  refine ks_ 29 h (fun h=>?_) fun h=>?_
  ·exact m_ h
  exact m_ h
 rintro _ ⟨x40,h,rfl⟩;refine i_ h (fun h=>?_) fun h=>?_
 ·refine z0_ k57_ h fun y54 h=>?_;exact r_ h hg
 refine z0_ k56_ h fun y56 h=>?_;refine wn_ 4 h fun h=>?_;refine xalloc InfC.h rfl rfl fun b5 => ?_;refine z0_ k56_ h fun y58 h=>?_;refine wn_ 4 h fun h=>?_;refine xalloc InfC.h rfl rfl fun b8 => ?_;refine wn_ 6 h fun h=>?_;refine xseqM (fun σ=>∃ x100, palinodelaw09_EreAlts_j2 y56 x1 x2 y58 x100 r ∧ σ=⟨[(0, sb x1), (1, sb x2), (5, pw b5), (7, iv y56.2.2), (8, pw b8), (10, iv y58.2.2), (64, bv x100)], [⟨b8, 26, [.sl 10 none (List.map E_palinode_api_Node y58.1.1), iv y58.1.2]⟩, ⟨b5, 26, [.sl 10 none (List.map E_palinode_api_Node y56.1.1), iv y56.1.2]⟩], []⟩) ?_ ?_
 ·refine ks_ 49 h (fun h=>?_) fun h=>?_
  ·refine ks_ 55 h (fun h=>?_) fun h=>?_
   ·exact m_ h
   refine ks_ 58 h (fun h=>?_) fun h=>?_
   ·exact m_ h
   exact m_ h
  refine ks_ 58 h (fun h=>?_) fun h=>?_
  ·exact m_ h
  exact m_ h
 rintro _ ⟨x100,h,rfl⟩;refine i_ h (fun h=>?_) fun h=>?_
 ·exact r_ h hg
 refine wn_ 3 h fun h=>?_;refine xseqM (fun σ=>∃ x173, palinodelaw09_EreAlts_j3 x1 x2 y56 y58 x173 r ∧ σ=⟨[(0, sb x1), (1, sb x2), (5, pw b5), (8, pw b8), (102, bv x173)], [⟨b8, 26, [.sl 10 none (List.map E_palinode_api_Node y58.1.1), iv y58.1.2]⟩, ⟨b5, 26, [.sl 10 none (List.map E_palinode_api_Node y56.1.1), iv y56.1.2]⟩], []⟩) ?_ ?_
 ·refine is_ 67 h (fun h=>?_) fun h=>?_
  ·exact m_ h
  refine is_ 71 h (fun h=>?_) fun h=>?_
  ·exact m_ h
  refine is_ 79 h (fun h=>?_) fun h=>?_
  ·exact m_ h
  refine x_ h fun y183 h=>?_;refine is_ 91 h (fun h=>?_) fun h=>?_
  ·exact m_ h
  refine x_ h fun y189 h=>?_;exact m_ h
 rintro _ ⟨x173,h,rfl⟩;refine i_ h (fun h=>?_) fun h=>?_
 ·refine z0_ k57_ h fun y194 h=>?_;exact r_ h hg
 refine wn_ 4 h fun h=>?_;refine xbuildSliceM (f := eb) ([] : List UInt8) UndC.h InfC.h rfl rfl wr_ rfl rfl rfl rfl fun s105 => ?_;refine mv_ ?_;obtain ⟨h195, h⟩ := h;refine xappendM (l := ([] : List UInt8)) (l2 := x1) 0 h195 UndC.h InfC.h rfl rfl rfl (.refl _) rfl rfl rfl fun i196 => ?_;refine xbuildSliceM (f := eb) [(124 : UInt8)] UndC.h InfC.h rfl rfl wr_ rfl rfl rfl rfl fun s108 => ?_;obtain ⟨h197, h⟩ := h
 refine xappendM (l := (([] : List UInt8) ++ x1)) (l2 := [(124 : UInt8)]) 1 h197 UndC.h InfC.h rfl rfl rfl (.refl _) rfl rfl rfl fun i198 => ?_;refine mv_ ?_;obtain ⟨h199, h⟩ := h;refine xappendM (l := ((([] : List UInt8) ++ x1) ++ [(124 : UInt8)])) (l2 := x2) 1 h199 UndC.h InfC.h rfl rfl rfl (.refl _) rfl rfl rfl fun i200 => ?_;refine z0_ k56_ h fun y202 h=>?_;refine wn_ 4 h fun h=>?_;refine xalloc InfC.h rfl rfl fun b11 => ?_
 refine wn_ 15 h fun h=>?_;refine xregionD (m := 24) (by kernel_rfl) rfl ?_;refine o_ [0,1,2] ?_;refine ip_ 121 h (fun h=>?_) fun h=>?_
 ·refine o_ [3,4,5,6,7,8,9,10,11,12,13,14,15,16,17,18,19,20,21,22,23] ?_;refine xpdone (by kernel_rfl) ?_;exact r_ h hg
 obtain ⟨h242, h⟩ := h;obtain ⟨h243, h⟩ := h;refine o_ [3,6,7,8,9,10,11,4,5,12,13,14] ?_;refine ip_ 133 h (fun h=>?_) fun h=>?_
 ·refine o_ [15,16,17,18,19,20,21,22,23] ?_;refine xpdone (by kernel_rfl) ?_;exact r_ h hg
 obtain ⟨h246, h⟩ := h;obtain ⟨y248, h247, h⟩ := h;refine o_ [15,17,16] ?_;refine pl_ 18 rfl (pv_sliceHi h246 UndC.h ShpC.h rfl rfl) ?_;refine pl_ 19 rfl (pv_buildC StrC.h rfl rfl) ?_;refine o_ [20] ?_;refine xpstep (i := 21) (by kernel_rfl) rfl ?_;refine wz0_ k58_ h247 ?_;refine o_ [22,23] ?_;refine xpdone (by kernel_rfl) ?_;refine i_ h (fun h=>?_) fun h=>?_
 ·exact r_ h hg
 refine x_ h fun y252 h=>?_;refine v_ (qv_loadEP (E_palinode_api_Node y252) [] sq_ sl_ (part_all sl_) ShpC.h rfl) ?_;refine xalloc InfC.h rfl rfl fun b15 => ?_;refine xreb 0 ([iv 0, iv 0, iv 0, iv 0, iv 0, iv 0] ++ (List.map ew ((Arr.rep 4 (0 : UInt64))).l).flatten) rfl rfl ?_
 refine xstoreQ 0 [] ([iv 0, iv 0, iv 0, iv 0, iv 0, iv 0] ++ (List.map ew ((Arr.rep 4 (0 : UInt64))).l).flatten) [] (E_palinode_api_Node y252) ShpC.h rfl rfl rfl rfl rfl ?_
 refine wn_ 2 h fun h=>?_;refine xseqM (fun σ=>∃ x265, palinodelaw09_EreAlts_j4 x265 r ∧ σ=⟨[(4, bv x265)], [], []⟩) ?_ ?_
 ·refine is_ 154 h (fun h=>?_) fun h=>?_
  ·refine is_ 161 h (fun h=>?_) fun h=>?_
   ·refine is_ 170 h (fun h=>?_) fun h=>?_
    ·refine z0_ k57_ h fun y276 h=>?_;exact m_ h
    exact m_ h
   exact m_ h
  exact m_ h
 rintro _ ⟨x265,h,rfl⟩;exact r_ h hg
end Go.Proofs.Ytfhakeapepafbaa
