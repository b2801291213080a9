
/- What functions' texts ask for, and the walks that show it (printed by a program). -/
import Derived.Test.YtpddiffpanihdaaGKp7
namespace Go.Proofs.Ytpddiffpanihdaa
/-- slices.Clone [ []api.Node,api.Node] -/
def slices_Clone_R (sv1 : List (Int × Int × Int × Int × Int × Int × (Arr 4 (UInt64)))) (r : (List (Int × Int × Int × Int × Int × Int × (Arr 4 (UInt64))))) : Prop :=
 ∀ bv6 : Bool, (sv1 ≠ [] → bv6 = false) → ((bv6 = true → r = ([] : List (Int × Int × Int × Int × Int × Int × (Arr 4 (UInt64))))) ∧ (¬ (bv6 = true) → Room ((([] : List (Int × Int × Int × Int × Int × Int × (Arr 4 (UInt64))))).length + sv1.length) 80 ∧ r = (([] : List (Int × Int × Int × Int × Int × Int × (Arr 4 (UInt64)))) ++ sv1)))
def slices_Clone_ev (fuel : Nat) (sv1 : List (Int × Int × Int × Int × Int × Int × (Arr 4 (UInt64)))) : Option ((List (Int × Int × Int × Int × Int × Int × (Arr 4 (UInt64))))) :=
 (bothE (decide (sv1 ≠ [])) fun bv6 => (if bv6 = true then some ([] : List (Int × Int × Int × Int × Int × Int × (Arr 4 (UInt64)))) else (if Room ((([] : List (Int × Int × Int × Int × Int × Int × (Arr 4 (UInt64))))).length + sv1.length) 80 then some (([] : List (Int × Int × Int × Int × Int × Int × (Arr 4 (UInt64)))) ++ sv1) else none)))
theorem slices_Clone_ok {fuel : Nat} {sv1 : List (Int × Int × Int × Int × Int × Int × (Arr 4 (UInt64)))} {r : (List (Int × Int × Int × Int × Int × Int × (Arr 4 (UInt64))))} (h : slices_Clone_ev fuel sv1 = some r) : slices_Clone_R sv1 r := by
 unfold slices_Clone_ev at h
 unfold slices_Clone_R
 intro q375 g375
 replace h := bothE_ok h q375 (fun e => g375 (of_decide_eq_true e))
 refine ⟨fun g376 => ?_, fun g376 => ?_⟩
 ·rw [if_pos g376] at h
  exact (Option.some.inj h).symm
 ·rw [if_neg g376] at h
  obtain ⟨g377, h⟩ := if_ok h
  refine ⟨g377, ?_⟩
  exact (Option.some.inj h).symm
set_option maxHeartbeats 4000000 in
theorem slices_Clone_con (sv1 : List (Int × Int × Int × Int × Int × Int × (Arr 4 (UInt64)))) (r : (List (Int × Int × Int × Int × Int × Int × (Arr 4 (UInt64))))) (h : slices_Clone_R sv1 r) : Con Try.prog 25 [.sl 10 none (List.map E_palinode_api_Node sv1)] [] [] (RetM 10 42 E_palinode_api_Node r) := by
 refine xenter Try.func25 rfl rfl fun g hg => ?_
 simp only [Try.ntmps25, slots]
 refine sr_ ?_
 refine as_ ?_
 refine nt_ ?_
 refine xseq ?_
 refine sr_ ?_
 refine mv_ ?_
 refine xexact 3 rfl fun A5 c5 hA5 => ?_
 refine vp_ (pv_eqNilV UndC.h rfl rfl) ?_
 obtain ⟨bv6, hb5⟩ : ∃ b : Bool, A5.isNone = b := ⟨_, rfl⟩
 replace h := h bv6 (fun q => hb5 ▸ hA5 q)
 refine xsetB 4 (b' := bv6) (by rw [hb5]) rfl ?_
 refine nt_ ?_
 by_cases hp7 : bv6 = true
 ·replace h := h.1 hp7
  refine xcondT' hp7 rfl ?_
  refine sr_ ?_
  refine as_ ?_
  refine nt_ ?_
  refine xretc ?_
  refine xthen_ret ?_
  replace h := h.symm
  subst h
  exact xret1 hg rfl rfl (.nil_own _) sm_ ⟨none, rfl, rfl, rfl⟩
 ·replace h := h.2 hp7
  refine xcondF' (b_f hp7) rfl ?_
  refine xskipc ?_
  refine xthen ?_
  refine sr_ ?_
  refine xbuildSliceME (f := E_palinode_api_Node) ([] : List (Int × Int × Int × Int × Int × Int × (Arr 4 (UInt64)))) UndC.h InfC.h rfl .nil wr_ rfl rfl rfl rfl fun s5 => ?_
  refine mv_ ?_
  obtain ⟨h8, h⟩ := h
  refine xappendM (l := ([] : List (Int × Int × Int × Int × Int × Int × (Arr 4 (UInt64))))) (l2 := sv1) 0 h8 UndC.h InfC.h rfl rfl rfl (.refl _) rfl rfl rfl fun i9 => ?_
  refine as_ ?_
  refine nt_ ?_
  refine xretc ?_
  replace h := h.symm
  subst h
  exact xret1 hg rfl rfl (.refl _) (SubM.of (.nil _) (.keep rfl (.nil _))) ⟨i9, rfl, rfl, rfl⟩
/-- tree.Right -/
def tree_Right_l3 (y1213 : (List Int)) (y1162 : Int × Int × Int × Int × Int × Int × (Arr 4 (UInt64))) (f856 : Arr 10 (Int)) (x854 : Int) (ag2 : (Int × (List Int) × (Arr 10 (Int))) → Prop) (ag3 : (Int × (List Int)) → Prop) (x1228 : Int) (l1229 : List Int) (r : Bool) : Prop :=
 ((x1228 < (y1213.length : Int) → 0 ≤ (x1228 : Int) ∧ ∃ y1245 : Int, y1213[(x1228 : Int).toNat]? = some y1245 ∧ 0 ≤ (y1245 : Int) ∧ ∃ y1247 : Int, l1229[(y1245 : Int).toNat]? = some y1247 ∧ InR (y1247 + 1) ∧ 0 ≤ (y1245 : Int) ∧ ∃ y1250 : Int, l1229[(y1245 : Int).toNat]? = some y1250 ∧ InR (x1228 + 1) ∧ ag3 ((x1228 + 1), (l1229.set (y1245 : Int).toNat (y1247 + 1)))) ∧ (¬ (x1228 < (y1213.length : Int)) → ((y1162.1 = 5 → (0 ≤ (y1162.2.2.2.2.2.1 : Int) ∧ (y1162.2.2.2.2.2.1 : Int) < 10) ∧ ∃ y1257 : Int, f856.l[(y1162.2.2.2.2.2.1 : Int).toNat]? = some y1257 ∧ InR (y1257 + 1) ∧ (0 ≤ (y1162.2.2.2.2.2.1 : Int) ∧ (y1162.2.2.2.2.2.1 : Int) < 10) ∧ ∃ y1260 : Int, f856.l[(y1162.2.2.2.2.2.1 : Int).toNat]? = some y1260 ∧ InR (x854 + 1) ∧ ag2 ((x854 + 1), l1229, (Arr.set f856 (y1162.2.2.2.2.2.1 : Int).toNat ((y1257 + 1))))) ∧ (¬ (y1162.1 = 5) → InR (x854 + 1) ∧ ag2 ((x854 + 1), l1229, f856)))))
def tree_Right_l5 (x1 : (List (Int × Int × Int × Int × Int × Int × (Arr 4 (UInt64)))) × Int) (f856 : Arr 10 (Int)) (ag5 : (Int) → Prop) (x1398 : Int) (r : Bool) : Prop :=
 ((x1398 < ((((x1.2 + 1) : Int).toNat - (1 : Int).toNat : Nat) : Int) → (0 ≤ (x1398 : Int) ∧ (x1398 : Int) < ((((x1.2 + 1) : Int).toNat - (1 : Int).toNat : Nat) : Int)) ∧ ∃ y1418 : Int, f856.l[((((1 : Int).toNat + (x1398 : Int).toNat : Nat) : Int) : Int).toNat]? = some y1418 ∧ ((¬ (y1418 = 1) → r = false) ∧ (¬ (¬ (y1418 = 1)) → InR (x1398 + 1) ∧ ag5 (x1398 + 1)))) ∧ (¬ (x1398 < ((((x1.2 + 1) : Int).toNat - (1 : Int).toNat : Nat) : Int)) → r = true))
def tree_Right_l4 (l855 : List Int) (x1 : (List (Int × Int × Int × Int × Int × Int × (Arr 4 (UInt64)))) × Int) (f856 : Arr 10 (Int)) (ag4 : (Int) → Prop) (x1318 : Int) (r : Bool) : Prop :=
 ((x1318 < (((l855.take (((x1.1.length : Int) - 1) : Int).toNat).length : Nat) : Int) → 0 ≤ (x1318 : Int) ∧ ∃ y1338 : Int, ((l855.take (((x1.1.length : Int) - 1) : Int).toNat))[(x1318 : Int).toNat]? = some y1338 ∧ ((¬ (y1338 = 1) → r = false) ∧ (¬ (¬ (y1338 = 1)) → InR (x1318 + 1) ∧ ag4 (x1318 + 1)))) ∧ (¬ (x1318 < (((l855.take (((x1.1.length : Int) - 1) : Int).toNat).length : Nat) : Int)) → InR (x1.2 + 1) ∧ (0 : Int) ≤ 1 ∧ (0 : Int) ≤ (x1.2 + 1) ∧ ((1 : Int).toNat ≤ ((x1.2 + 1) : Int).toNat ∧ ((x1.2 + 1) : Int).toNat ≤ 10 ∧ (1 : Int).toNat < 10) ∧ LoopR (fun ag5 s => tree_Right_l5 x1 f856 ag5 s r) 0))
def tree_Right_l2 (x1 : (List (Int × Int × Int × Int × Int × Int × (Arr 4 (UInt64)))) × Int) (ag2 : (Int × (List Int) × (Arr 10 (Int))) → Prop) (x854 : Int) (l855 : List Int) (f856 : Arr 10 (Int)) (r : Bool) : Prop :=
 ((x854 < (x1.1.length : Int) → 0 ≤ (x854 : Int) ∧ ∃ y1162 : Int × Int × Int × Int × Int × Int × (Arr 4 (UInt64)), x1.1[(x854 : Int).toNat]? = some y1162 ∧ ∃ y1168 : Bool, tree_isNode_R y1162 x854 x1.2 y1168 ∧ ((¬ (y1168 = true) → r = false) ∧ (¬ (¬ (y1168 = true)) → ∃ y1213 : (List Int), tree_parts_R y1162 y1213 ∧ LoopR (fun ag3 s => tree_Right_l3 y1213 y1162 f856 x854 ag2 ag3 s.1 s.2 r) (0, l855)))) ∧ (¬ (x854 < (x1.1.length : Int)) → InR ((x1.1.length : Int) - 1) ∧ (0 ≤ (((x1.1.length : Int) - 1) : Int) ∧ (((x1.1.length : Int) - 1) : Int) ≤ ((l855.length : Nat) : Int)) ∧ LoopR (fun ag4 s => tree_Right_l4 l855 x1 f856 ag4 s r) 0))
def tree_Right_j1 (x1 : (List (Int × Int × Int × Int × Int × Int × (Arr 4 (UInt64)))) × Int) (x26 : Bool) (r : Bool) : Prop :=
 ((x26 = true → r = false) ∧ (¬ (x26 = true) → MakeOk ((x1.1.length : Int)) ((x1.1.length : Int)) 8 ∧ LoopR (fun ag2 s => tree_Right_l2 x1 ag2 s.1 s.2.1 s.2.2 r) (0, (List.replicate ((x1.1.length : Int) : Int).toNat 0), (Arr.rep 10 0))))
def tree_Right_R (x1 : (List (Int × Int × Int × Int × Int × Int × (Arr 4 (UInt64)))) × Int) (r : Bool) : Prop :=
 tree_Right_j1 x1 ((decide ((x1.1.length : Int) < 1)) || ((decide (1000 < (x1.1.length : Int))) || ((decide (x1.2 < 0)) || (decide (9 < x1.2))))) r
def tree_Right_l3_ev (fuel : Nat) (y1213 : (List Int)) (y1162 : Int × Int × Int × Int × Int × Int × (Arr 4 (UInt64))) (f856 : Arr 10 (Int)) (x854 : Int) (ag2e : (Int × (List Int) × (Arr 10 (Int))) → Option (Bool)) (ag3e : (Int × (List Int)) → Option (Bool)) (x1228 : Int) (l1229 : List Int) : Option (Bool) :=
 (if x1228 < (y1213.length : Int) then (if 0 ≤ (x1228 : Int) then ((y1213[(x1228 : Int).toNat]?).bind fun y1245 => (if 0 ≤ (y1245 : Int) then ((l1229[(y1245 : Int).toNat]?).bind fun y1247 => (if InR (y1247 + 1) then (if 0 ≤ (y1245 : Int) then ((l1229[(y1245 : Int).toNat]?).bind fun y1250 => (if InR (x1228 + 1) then ag3e ((x1228 + 1), (l1229.set (y1245 : Int).toNat (y1247 + 1))) else none)) else none) else none)) else none)) else none) else (if y1162.1 = 5 then (if (0 ≤ (y1162.2.2.2.2.2.1 : Int) ∧ (y1162.2.2.2.2.2.1 : Int) < 10) then ((f856.l[(y1162.2.2.2.2.2.1 : Int).toNat]?).bind fun y1257 => (if InR (y1257 + 1) then (if (0 ≤ (y1162.2.2.2.2.2.1 : Int) ∧ (y1162.2.2.2.2.2.1 : Int) < 10) then ((f856.l[(y1162.2.2.2.2.2.1 : Int).toNat]?).bind fun y1260 => (if InR (x854 + 1) then ag2e ((x854 + 1), l1229, (Arr.set f856 (y1162.2.2.2.2.2.1 : Int).toNat ((y1257 + 1)))) else none)) else none) else none)) else none) else (if InR (x854 + 1) then ag2e ((x854 + 1), l1229, f856) else none)))
theorem tree_Right_l3_ok {fuel : Nat} {y1213 : (List Int)} {y1162 : Int × Int × Int × Int × Int × Int × (Arr 4 (UInt64))} {f856 : Arr 10 (Int)} {x854 : Int} {ag2 : (Int × (List Int) × (Arr 10 (Int))) → Prop} {ag2e : (Int × (List Int) × (Arr 10 (Int))) → Option (Bool)} {ag3e : (Int × (List Int)) → Option (Bool)} {ag3 : (Int × (List Int)) → Prop} {x1228 : Int} {l1229 : List Int} {r : Bool} (hagag2 : ∀ s, ag2e s = some r → ag2 s) (hagag3 : ∀ s, ag3e s = some r → ag3 s) (h : tree_Right_l3_ev fuel y1213 y1162 f856 x854 ag2e ag3e x1228 l1229 = some r) : tree_Right_l3 y1213 y1162 f856 x854 ag2 ag3 x1228 l1229 r := by
 unfold tree_Right_l3_ev at h
 unfold tree_Right_l3
 refine ⟨fun g378 => ?_, fun g378 => ?_⟩
 ·rw [if_pos g378] at h
  obtain ⟨g379, h⟩ := if_ok h
  refine ⟨g379, ?_⟩
  obtain ⟨q380, g380, h⟩ := bind_ok h
  refine ⟨q380, g380, ?_⟩
  obtain ⟨g381, h⟩ := if_ok h
  refine ⟨g381, ?_⟩
  obtain ⟨q382, g382, h⟩ := bind_ok h
  refine ⟨q382, g382, ?_⟩
  obtain ⟨g383, h⟩ := if_ok h
  refine ⟨g383, ?_⟩
  obtain ⟨g384, h⟩ := if_ok h
  refine ⟨g384, ?_⟩
  obtain ⟨q385, g385, h⟩ := bind_ok h
  refine ⟨q385, g385, ?_⟩
  obtain ⟨g386, h⟩ := if_ok h
  refine ⟨g386, ?_⟩
  exact hagag3 _ h
 ·rw [if_neg g378] at h
  refine ⟨fun g387 => ?_, fun g387 => ?_⟩
  ·rw [if_pos g387] at h
   obtain ⟨g388, h⟩ := if_ok h
   refine ⟨g388, ?_⟩
   obtain ⟨q389, g389, h⟩ := bind_ok h
   refine ⟨q389, g389, ?_⟩
   obtain ⟨g390, h⟩ := if_ok h
   refine ⟨g390, ?_⟩
   obtain ⟨g391, h⟩ := if_ok h
   refine ⟨g391, ?_⟩
   obtain ⟨q392, g392, h⟩ := bind_ok h
   refine ⟨q392, g392, ?_⟩
   obtain ⟨g393, h⟩ := if_ok h
   refine ⟨g393, ?_⟩
   exact hagag2 _ h
  ·rw [if_neg g387] at h
   obtain ⟨g394, h⟩ := if_ok h
   refine ⟨g394, ?_⟩
   exact hagag2 _ h
def tree_Right_l5_ev (fuel : Nat) (x1 : (List (Int × Int × Int × Int × Int × Int × (Arr 4 (UInt64)))) × Int) (f856 : Arr 10 (Int)) (ag5e : (Int) → Option (Bool)) (x1398 : Int) : Option (Bool) :=
 (if x1398 < ((((x1.2 + 1) : Int).toNat - (1 : Int).toNat : Nat) : Int) then (if (0 ≤ (x1398 : Int) ∧ (x1398 : Int) < ((((x1.2 + 1) : Int).toNat - (1 : Int).toNat : Nat) : Int)) then ((f856.l[((((1 : Int).toNat + (x1398 : Int).toNat : Nat) : Int) : Int).toNat]?).bind fun y1418 => (if ¬ (y1418 = 1) then some false else (if InR (x1398 + 1) then ag5e (x1398 + 1) else none))) else none) else some true)
theorem tree_Right_l5_ok {fuel : Nat} {x1 : (List (Int × Int × Int × Int × Int × Int × (Arr 4 (UInt64)))) × Int} {f856 : Arr 10 (Int)} {ag5e : (Int) → Option (Bool)} {ag5 : (Int) → Prop} {x1398 : Int} {r : Bool} (hagag5 : ∀ s, ag5e s = some r → ag5 s) (h : tree_Right_l5_ev fuel x1 f856 ag5e x1398 = some r) : tree_Right_l5 x1 f856 ag5 x1398 r := by
 unfold tree_Right_l5_ev at h
 unfold tree_Right_l5
 refine ⟨fun g395 => ?_, fun g395 => ?_⟩
 ·rw [if_pos g395] at h
  obtain ⟨g396, h⟩ := if_ok h
  refine ⟨g396, ?_⟩
  obtain ⟨q397, g397, h⟩ := bind_ok h
  refine ⟨q397, g397, ?_⟩
  refine ⟨fun g398 => ?_, fun g398 => ?_⟩
  ·rw [if_pos g398] at h
   exact (Option.some.inj h).symm
  ·rw [if_neg g398] at h
   obtain ⟨g399, h⟩ := if_ok h
   refine ⟨g399, ?_⟩
   exact hagag5 _ h
 ·rw [if_neg g395] at h
  exact (Option.some.inj h).symm
def tree_Right_l4_ev (fuel : Nat) (l855 : List Int) (x1 : (List (Int × Int × Int × Int × Int × Int × (Arr 4 (UInt64)))) × Int) (f856 : Arr 10 (Int)) (ag4e : (Int) → Option (Bool)) (x1318 : Int) : Option (Bool) :=
 (if x1318 < (((l855.take (((x1.1.length : Int) - 1) : Int).toNat).length : Nat) : Int) then (if 0 ≤ (x1318 : Int) then ((((l855.take (((x1.1.length : Int) - 1) : Int).toNat))[(x1318 : Int).toNat]?).bind fun y1338 => (if ¬ (y1338 = 1) then some false else (if InR (x1318 + 1) then ag4e (x1318 + 1) else none))) else none) else (if InR (x1.2 + 1) then (if (0 : Int) ≤ 1 then (if (0 : Int) ≤ (x1.2 + 1) then (if ((1 : Int).toNat ≤ ((x1.2 + 1) : Int).toNat ∧ ((x1.2 + 1) : Int).toNat ≤ 10 ∧ (1 : Int).toNat < 10) then (loopE (fun ag5e s => tree_Right_l5_ev fuel x1 f856 ag5e s) fuel 0) else none) else none) else none) else none))
theorem tree_Right_l4_ok {fuel : Nat} {l855 : List Int} {x1 : (List (Int × Int × Int × Int × Int × Int × (Arr 4 (UInt64)))) × Int} {f856 : Arr 10 (Int)} {ag4e : (Int) → Option (Bool)} {ag4 : (Int) → Prop} {x1318 : Int} {r : Bool} (hagag4 : ∀ s, ag4e s = some r → ag4 s) (h : tree_Right_l4_ev fuel l855 x1 f856 ag4e x1318 = some r) : tree_Right_l4 l855 x1 f856 ag4 x1318 r := by
 unfold tree_Right_l4_ev at h
 unfold tree_Right_l4
 refine ⟨fun g400 => ?_, fun g400 => ?_⟩
 ·rw [if_pos g400] at h
  obtain ⟨g401, h⟩ := if_ok h
  refine ⟨g401, ?_⟩
  obtain ⟨q402, g402, h⟩ := bind_ok h
  refine ⟨q402, g402, ?_⟩
  refine ⟨fun g403 => ?_, fun g403 => ?_⟩
  ·rw [if_pos g403] at h
   exact (Option.some.inj h).symm
  ·rw [if_neg g403] at h
   obtain ⟨g404, h⟩ := if_ok h
   refine ⟨g404, ?_⟩
   exact hagag4 _ h
 ·rw [if_neg g400] at h
  obtain ⟨g405, h⟩ := if_ok h
  refine ⟨g405, ?_⟩
  obtain ⟨g406, h⟩ := if_ok h
  refine ⟨g406, ?_⟩
  obtain ⟨g407, h⟩ := if_ok h
  refine ⟨g407, ?_⟩
  obtain ⟨g408, h⟩ := if_ok h
  refine ⟨g408, ?_⟩
  refine loopE_ok ?_ h
  intro ae ag s hag h
  exact tree_Right_l5_ok hag h
def tree_Right_l2_ev (fuel : Nat) (x1 : (List (Int × Int × Int × Int × Int × Int × (Arr 4 (UInt64)))) × Int) (ag2e : (Int × (List Int) × (Arr 10 (Int))) → Option (Bool)) (x854 : Int) (l855 : List Int) (f856 : Arr 10 (Int)) : Option (Bool) :=
 (if x854 < (x1.1.length : Int) then (if 0 ≤ (x854 : Int) then ((x1.1[(x854 : Int).toNat]?).bind fun y1162 => ((tree_isNode_ev fuel y1162 x854 x1.2).bind fun y1168 => (if ¬ (y1168 = true) then some false else ((tree_parts_ev fuel y1162).bind fun y1213 => (loopE (fun ag3e s => tree_Right_l3_ev fuel y1213 y1162 f856 x854 ag2e ag3e s.1 s.2) fuel (0, l855)))))) else none) else (if InR ((x1.1.length : Int) - 1) then (if (0 ≤ (((x1.1.length : Int) - 1) : Int) ∧ (((x1.1.length : Int) - 1) : Int) ≤ ((l855.length : Nat) : Int)) then (loopE (fun ag4e s => tree_Right_l4_ev fuel l855 x1 f856 ag4e s) fuel 0) else none) else none))
theorem tree_Right_l2_ok {fuel : Nat} {x1 : (List (Int × Int × Int × Int × Int × Int × (Arr 4 (UInt64)))) × Int} {ag2e : (Int × (List Int) × (Arr 10 (Int))) → Option (Bool)} {ag2 : (Int × (List Int) × (Arr 10 (Int))) → Prop} {x854 : Int} {l855 : List Int} {f856 : Arr 10 (Int)} {r : Bool} (hagag2 : ∀ s, ag2e s = some r → ag2 s) (h : tree_Right_l2_ev fuel x1 ag2e x854 l855 f856 = some r) : tree_Right_l2 x1 ag2 x854 l855 f856 r := by
 unfold tree_Right_l2_ev at h
 unfold tree_Right_l2
 refine ⟨fun g409 => ?_, fun g409 => ?_⟩
 ·rw [if_pos g409] at h
  obtain ⟨g410, h⟩ := if_ok h
  refine ⟨g410, ?_⟩
  obtain ⟨q411, g411, h⟩ := bind_ok h
  refine ⟨q411, g411, ?_⟩
  obtain ⟨q412, g412, h⟩ := bind_ok h
  refine ⟨q412, tree_isNode_ok g412, ?_⟩
  refine ⟨fun g413 => ?_, fun g413 => ?_⟩
  ·rw [if_pos g413] at h
   exact (Option.some.inj h).symm
  ·rw [if_neg g413] at h
   obtain ⟨q414, g414, h⟩ := bind_ok h
   refine ⟨q414, tree_parts_ok g414, ?_⟩
   refine loopE_ok ?_ h
   intro ae ag s hag h
   exact tree_Right_l3_ok hagag2 hag h
 ·rw [if_neg g409] at h
  obtain ⟨g415, h⟩ := if_ok h
  refine ⟨g415, ?_⟩
  obtain ⟨g416, h⟩ := if_ok h
  refine ⟨g416, ?_⟩
  refine loopE_ok ?_ h
  intro ae ag s hag h
  exact tree_Right_l4_ok hag h
def tree_Right_j1_ev (fuel : Nat) (x1 : (List (Int × Int × Int × Int × Int × Int × (Arr 4 (UInt64)))) × Int) (x26 : Bool) : Option (Bool) :=
 (if x26 = true then some false else (if MakeOk ((x1.1.length : Int)) ((x1.1.length : Int)) 8 then (loopE (fun ag2e s => tree_Right_l2_ev fuel x1 ag2e s.1 s.2.1 s.2.2) fuel (0, (List.replicate ((x1.1.length : Int) : Int).toNat 0), (Arr.rep 10 0))) else none))
theorem tree_Right_j1_ok {fuel : Nat} {x1 : (List (Int × Int × Int × Int × Int × Int × (Arr 4 (UInt64)))) × Int} {x26 : Bool} {r : Bool} (h : tree_Right_j1_ev fuel x1 x26 = some r) : tree_Right_j1 x1 x26 r := by
 unfold tree_Right_j1_ev at h
 unfold tree_Right_j1
 refine ⟨fun g417 => ?_, fun g417 => ?_⟩
 ·rw [if_pos g417] at h
  exact (Option.some.inj h).symm
 ·rw [if_neg g417] at h
  obtain ⟨g418, h⟩ := if_ok h
  refine ⟨g418, ?_⟩
  refine loopE_ok ?_ h
  intro ae ag s hag h
  exact tree_Right_l2_ok hag h
def tree_Right_ev (fuel : Nat) (x1 : (List (Int × Int × Int × Int × Int × Int × (Arr 4 (UInt64)))) × Int) : Option (Bool) :=
 tree_Right_j1_ev fuel x1 ((decide ((x1.1.length : Int) < 1)) || ((decide (1000 < (x1.1.length : Int))) || ((decide (x1.2 < 0)) || (decide (9 < x1.2)))))
theorem tree_Right_ok {fuel : Nat} {x1 : (List (Int × Int × Int × Int × Int × Int × (Arr 4 (UInt64)))) × Int} {r : Bool} (h : tree_Right_ev fuel x1 = some r) : tree_Right_R x1 r := by
 unfold tree_Right_ev at h
 unfold tree_Right_R
 exact tree_Right_j1_ok h
set_option maxRecDepth 100000 in
set_option maxHeartbeats 4000000 in
theorem tree_Right_con (x1 : (List (Int × Int × Int × Int × Int × Int × (Arr 4 (UInt64)))) × Int) (r : Bool) (h : tree_Right_R x1 r) : Con Try.prog 26 [.agg [.sl 10 none (List.map E_palinode_api_Node x1.1), .v (.int .i64 x1.2)]] [] [] (Ret (.v (.bool r))) := by
 refine xenter Try.func26 rfl rfl fun g hg => ?_
 simp only [Try.ntmps26, slots]
 unfold tree_Right_R at h
 refine sr_ ?_
 refine xbox rfl rfl rfl rfl fun b1 => ?_
 refine as_ ?_
 refine nt_ ?_
 refine sr_ ?_
 refine vp_ (qv_fieldAddrB FldC.h rfl) ?_
 refine v_ (qv_loadB 0 ShpC.h rfl rfl rfl rfl) ?_
 refine vp_ (pv_lenM UndC.h rfl) ?_
 refine as_ ?_
 refine nt_ ?_
 refine xseq ?_
 refine xseqM (fun σ => ∃ (x26 : Bool), tree_Right_j1 x1 x26 r ∧ σ = ⟨[(1, .v (.pointer (some ⟨b1, 0, none⟩))), (3, .v (.int .i64 ((x1.1.length : Int)))), (32, .v (.bool x26))], [⟨b1, 26, [.sl 10 none (List.map E_palinode_api_Node x1.1), .v (.int .i64 x1.2)]⟩], []⟩) ?_ ?_
 ·refine xregion ?_
  refine mv_ ?_
  refine vp_ (pv_bin2 rfl rfl rfl) ?_
  refine mv_ ?_
  by_cases hp28 : (x1.1.length : Int) < 1
  ·rw [or_tt (show (decide ((x1.1.length : Int) < 1)) = true from (decide_eq_true hp28))] at h
   refine xsetB 19 (decide_eq_true hp28) rfl ?_
   refine sk_ ?_
   refine sk_ ?_
   refine pk_ ?_
   refine mv_ ?_
   refine sk_ ?_
   refine sk_ ?_
   refine sk_ ?_
   refine pk_ ?_
   refine mv_ ?_
   refine sk_ ?_
   refine sk_ ?_
   refine sk_ ?_
   refine pk_ ?_
   refine xnil ?_
   exact xmeet ⟨true, h, rfl⟩ ⟨lk_, (SubM.of (.keep rfl rfl (.refl _) (.nil _)) (.nil _))⟩
  ·rw [or_ff (show (decide ((x1.1.length : Int) < 1)) = false from (decide_eq_false hp28))] at h
   refine xsetB 19 (decide_eq_false hp28) rfl ?_
   refine mv_ ?_
   refine vp_ (pv_bin2 rfl rfl rfl) ?_
   refine pk_ ?_
   refine mv_ ?_
   by_cases hp30 : 1000 < (x1.1.length : Int)
   ·rw [or_tt (show (decide (1000 < (x1.1.length : Int))) = true from (decide_eq_true hp30))] at h
    refine xsetB 23 (decide_eq_true hp30) rfl ?_
    refine sk_ ?_
    refine sk_ ?_
    refine sk_ ?_
    refine pk_ ?_
    refine mv_ ?_
    refine sk_ ?_
    refine sk_ ?_
    refine sk_ ?_
    refine pk_ ?_
    refine xnil ?_
    exact xmeet ⟨true, h, rfl⟩ ⟨lk_, (SubM.of (.keep rfl rfl (.refl _) (.nil _)) (.nil _))⟩
   ·rw [or_ff (show (decide (1000 < (x1.1.length : Int))) = false from (decide_eq_false hp30))] at h
    refine xsetB 23 (decide_eq_false hp30) rfl ?_
    refine vp_ (qv_fieldAddrB FldC.h rfl) ?_
    refine v_ (qv_loadB 0 ShpC.h rfl rfl rfl rfl) ?_
    refine vp_ (pv_bin2 rfl rfl rfl) ?_
    refine pk_ ?_
    refine mv_ ?_
    by_cases hp32 : x1.2 < 0
    ·rw [or_tt (show (decide (x1.2 < 0)) = true from (decide_eq_true hp32))] at h
     refine xsetB 28 (decide_eq_true hp32) rfl ?_
     refine sk_ ?_
     refine sk_ ?_
     refine sk_ ?_
     refine pk_ ?_
     refine xnil ?_
     exact xmeet ⟨true, h, rfl⟩ ⟨lk_, (SubM.of (.keep rfl rfl (.refl _) (.nil _)) (.nil _))⟩
    ·rw [or_ff (show (decide (x1.2 < 0)) = false from (decide_eq_false hp32))] at h
     refine xsetB 28 (decide_eq_false hp32) rfl ?_
     refine vp_ (qv_fieldAddrB FldC.h rfl) ?_
     refine v_ (qv_loadB 0 ShpC.h rfl rfl rfl rfl) ?_
     refine vp_ (pv_bin2 rfl rfl rfl) ?_
     refine pk_ ?_
     refine xnil ?_
     exact xmeet ⟨(decide (9 < x1.2)), h, rfl⟩ ⟨lk_, (SubM.of (.keep rfl rfl (.refl _) (.nil _)) (.nil _))⟩
 ·clear h
  rintro _ ⟨x26, h, rfl⟩
  by_cases hp34 : x26 = true
  ·replace h := h.1 hp34
   refine xcondT' hp34 rfl ?_
   refine sr_ ?_
   refine as_ ?_
   refine nt_ ?_
   refine xretc ?_
   refine xthen_ret ?_
   replace h := h.symm
   subst h
   exact xret1 hg rfl rfl (.refl _) (SubM.of (.nil _) (.nil _)) ⟨rfl, rfl, rfl⟩
  ·replace h := h.2 hp34
   refine xcondF' (b_f hp34) rfl ?_
   refine xskipc ?_
   refine xthen ?_
   refine sr_ ?_
   refine mv_ ?_
   obtain ⟨h35, h⟩ := h
   refine xmakeRb (f := ei) 0 h35 UndC.h InfC.h (.refl _) rfl rfl rfl rfl fun i36 => ?_
   refine as_ ?_
   refine nt_ ?_
   refine sr_ ?_
   refine xalloc InfC.h rfl rfl fun b5 => ?_
   refine xreb 0 ((List.map ei ((Arr.rep 10 0)).l).flatten) rfl rfl ?_
   refine nt_ ?_
   refine xseq ?_
   refine sr_ ?_
   refine vp_ (qv_fieldAddrB FldC.h rfl) ?_
   refine v_ (qv_loadB 2 ShpC.h rfl rfl rfl rfl) ?_
   refine vp_ (pv_lenM UndC.h rfl) ?_
   refine mv_ ?_
   refine nt_ ?_
   refine xblock ?_
   obtain ⟨Inv, ⟨m0, hI⟩, hS⟩ := h
   refine xloop (fun σ m => ∃ (x854 : Int), ∃ (l855 : List Int), ∃ (f856 : Arr 10 (Int)), Inv (x854, l855, f856) m ∧ σ = ⟨[(1, .v (.pointer (some ⟨b1, 0, none⟩))), (3, .v (.int .i64 ((x1.1.length : Int)))), (4, .rb i36 l855.length), (5, .v (.pointer (some ⟨b5, 0, none⟩))), (36, .sl 10 none (List.map E_palinode_api_Node x1.1)), (37, .v (.int .i64 ((x1.1.length : Int)))), (38, .v (.int .i64 x854))], [⟨b5, 81, ((List.map ei f856.l).flatten)⟩, rbx i36 3 1 (List.map ei l855), ⟨b1, 26, [.sl 10 none (List.map E_palinode_api_Node x1.1), .v (.int .i64 x1.2)]⟩], []⟩) ⟨0, (List.replicate ((x1.1.length : Int) : Int).toNat 0), (Arr.rep 10 0), hI, rfl⟩ (by exact ⟨(.cons rfl (.refl _) (.cons rfl (.refl _) (.cons rfl (.eq (by first | rfl | simp)) lk_))), by exact (SubM.of (.keep rfl rfl (.refl _) (.keep rfl rfl (.refl _) (.keep rfl rfl (.refl _) (.nil _)))) (.nil _))⟩) ?_
   rintro _ m ⟨x854, l855, f856, hI, rfl⟩
   obtain ⟨ag2, hag2, h⟩ : ∃ ag, (∀ s', ag s' → ∃ m', m' < m ∧ Inv s' m') ∧ tree_Right_l2 x1 ag x854 l855 f856 r := ⟨_, fun _ h => h, hS (x854, l855, f856) _ hI⟩
   clear hS hI
   refine sr_ ?_
   refine vp_ (pv_bin2 rfl rfl rfl) ?_
   refine nt_ ?_
   refine xseq ?_
   by_cases hp1062 : x854 < (x1.1.length : Int)
   ·replace h := h.1 hp1062
    refine xcondT' (decide_eq_true hp1062) rfl ?_
    refine xskipc ?_
    refine xthen ?_
    refine xseq ?_
    refine xblock ?_
    refine sr_ ?_
    refine mv_ ?_
    obtain ⟨h1163a, h⟩ := h
    obtain ⟨y1162, h1163b, h⟩ := h
    refine vp_ (pv_indexAddrM h1163a h1163b UndC.h ShpC.h rfl rfl) ?_
    refine v_ (qv_loadEP ([.v (.int .i64 y1162.1), .v (.int .i64 y1162.2.1), .v (.int .i64 y1162.2.2.1), .v (.int .i64 y1162.2.2.2.1), .v (.int .i64 y1162.2.2.2.2.1), .v (.int .i64 y1162.2.2.2.2.2.1)] ++ (List.map ew y1162.2.2.2.2.2.2.l).flatten) [] sq_ sl_ (part_all sl_) ShpC.h rfl) ?_
    refine xalloc InfC.h rfl rfl fun b7 => ?_
    refine xreb 0 ([.v (.int .i64 0), .v (.int .i64 0), .v (.int .i64 0), .v (.int .i64 0), .v (.int .i64 0), .v (.int .i64 0)] ++ (List.map ew ((Arr.rep 4 (0 : UInt64))).l).flatten) rfl rfl ?_
    refine as_ ?_
    refine xstoreQ 0 [] ([.v (.int .i64 0), .v (.int .i64 0), .v (.int .i64 0), .v (.int .i64 0), .v (.int .i64 0), .v (.int .i64 0)] ++ (List.map ew ((Arr.rep 4 (0 : UInt64))).l).flatten) [] ([.v (.int .i64 y1162.1), .v (.int .i64 y1162.2.1), .v (.int .i64 y1162.2.2.1), .v (.int .i64 y1162.2.2.2.1), .v (.int .i64 y1162.2.2.2.2.1), .v (.int .i64 y1162.2.2.2.2.2.1)] ++ (List.map ew y1162.2.2.2.2.2.2.l).flatten) ShpC.h rfl rfl rfl rfl rfl ?_
    refine nt_ ?_
    refine xseq ?_
    refine sr_ ?_
    refine v_ (qv_loadP 0 [] ([.v (.int .i64 y1162.1), .v (.int .i64 y1162.2.1), .v (.int .i64 y1162.2.2.1), .v (.int .i64 y1162.2.2.2.1), .v (.int .i64 y1162.2.2.2.2.1), .v (.int .i64 y1162.2.2.2.2.2.1)] ++ (List.map ew y1162.2.2.2.2.2.2.l).flatten) [] sq_ sl_ sl_ (part_all sl_) ShpC.h rfl rfl) ?_
    refine mv_ ?_
    refine vp_ (qv_fieldAddrB FldC.h rfl) ?_
    refine v_ (qv_loadB 3 ShpC.h rfl rfl rfl rfl) ?_
    obtain ⟨y1168, h1167, h⟩ := h
    refine xcall0 (tree_isNode_con y1162 x854 x1.2 _ h1167) Try.func37 (by kernel_rfl) rfl (.cons rfl (.refl _) (.cons rfl (.refl _) (.cons rfl (.refl _) .nil))) rfl rfl ?_
    refine vp_ (pv_not rfl) ?_
    refine nt_ ?_
    by_cases hp1169 : ¬ (y1168 = true)
    ·replace h := h.1 hp1169
     refine xcondT' (not_t (b_f hp1169)) rfl ?_
     refine sr_ ?_
     refine as_ ?_
     refine nt_ ?_
     refine xretc ?_
     refine xthen_ret ?_
     refine xin_ret ?_
     refine xthen_ret ?_
     refine xthen_ret ?_
     refine xin_ret ?_
     refine xthen_ret ?_
     replace h := h.symm
     subst h
     exact xret1 (bx' := []) (tk' := []) hg rfl rfl (.refl _) (SubM.of (.nil _) (.nil _)) ⟨rfl, rfl, rfl⟩
    ·replace h := h.2 hp1169
     refine xcondF' (not_f (Decidable.of_not_not hp1169)) rfl ?_
     refine xskipc ?_
     refine xthen ?_
     refine xseq ?_
     refine sr_ ?_
     refine v_ (qv_loadP 0 [] ([.v (.int .i64 y1162.1), .v (.int .i64 y1162.2.1), .v (.int .i64 y1162.2.2.1), .v (.int .i64 y1162.2.2.2.1), .v (.int .i64 y1162.2.2.2.2.1), .v (.int .i64 y1162.2.2.2.2.2.1)] ++ (List.map ew y1162.2.2.2.2.2.2.l).flatten) [] sq_ sl_ sl_ (part_all sl_) ShpC.h rfl rfl) ?_
     obtain ⟨y1213, h1212, h⟩ := h
     refine xcallM (tree_parts_con y1162 _ h1212) Try.func38 (by kernel_rfl) rfl (.cons rfl (.refl _) .nil) rfl rfl fun i1214 => ?_
     refine vp_ (pv_lenM UndC.h rfl) ?_
     refine mv_ ?_
     refine nt_ ?_
     refine xblock ?_
     obtain ⟨Inv, ⟨m0, hI⟩, hS⟩ := h
     refine xloop (fun σ m => ∃ (x1228 : Int), ∃ (l1229 : List Int), Inv (x1228, l1229) m ∧ σ = ⟨[(1, .v (.pointer (some ⟨b1, 0, none⟩))), (3, .v (.int .i64 ((x1.1.length : Int)))), (4, .rb i36 l1229.length), (5, .v (.pointer (some ⟨b5, 0, none⟩))), (7, .v (.pointer (some ⟨b7, 0, none⟩))), (36, .sl 10 none (List.map E_palinode_api_Node x1.1)), (37, .v (.int .i64 ((x1.1.length : Int)))), (38, .v (.int .i64 x854)), (50, .sl 1 (some i1214) (List.map ei y1213)), (51, .v (.int .i64 ((y1213.length : Int)))), (52, .v (.int .i64 x1228))], [⟨b7, 42, ([.v (.int .i64 y1162.1), .v (.int .i64 y1162.2.1), .v (.int .i64 y1162.2.2.1), .v (.int .i64 y1162.2.2.2.1), .v (.int .i64 y1162.2.2.2.2.1), .v (.int .i64 y1162.2.2.2.2.2.1)] ++ (List.map ew y1162.2.2.2.2.2.2.l).flatten)⟩, ⟨b5, 81, ((List.map ei f856.l).flatten)⟩, rbx i36 3 1 (List.map ei l1229), ⟨b1, 26, [.sl 10 none (List.map E_palinode_api_Node x1.1), .v (.int .i64 x1.2)]⟩], [⟨i1214, 3, 1, y1213.length⟩]⟩) ⟨0, l855, hI, rfl⟩ (by exact ⟨(.cons rfl (.refl _) (.cons rfl (.refl _) (.cons rfl (.eq (by first | rfl | simp)) lk_))), by exact (SubM.of (.keep rfl rfl (.refl _) (.keep rfl rfl (.refl _) (.keep rfl rfl (.refl _) (.keep rfl rfl (.refl _) (.nil _))))) (.keep rfl (.nil _)))⟩) ?_
     rintro _ m ⟨x1228, l1229, hI, rfl⟩
     obtain ⟨ag3, hag3, h⟩ : ∃ ag, (∀ s', ag s' → ∃ m', m' < m ∧ Inv s' m') ∧ tree_Right_l3 y1213 y1162 f856 x854 ag2 ag x1228 l1229 r := ⟨_, fun _ h => h, hS (x1228, l1229) _ hI⟩
     clear hS hI
     refine sr_ ?_
     refine vp_ (pv_bin2 rfl rfl rfl) ?_
     refine nt_ ?_
     refine xseq ?_
     by_cases hp1244 : x1228 < (y1213.length : Int)
     ·replace h := h.1 hp1244
      refine xcondT' (decide_eq_true hp1244) rfl ?_
      refine xskipc ?_
      refine xthen ?_
      refine xseq ?_
      refine xblock ?_
      refine sr_ ?_
      obtain ⟨h1246a, h⟩ := h
      obtain ⟨y1245, h1246b, h⟩ := h
      refine vp_ (pv_indexAddrM h1246a h1246b UndC.h ShpC.h rfl rfl) ?_
      refine v_ (qv_load ShpC.h rfl rfl rfl) ?_
      refine as_ ?_
      refine nt_ ?_
      refine xregion ?_
      refine mv_ ?_
      refine mv_ ?_
      obtain ⟨h1248a, h⟩ := h
      obtain ⟨y1247, h1248b, h⟩ := h
      refine vp_ (pv_indexAddrRbM rfl h1248a h1248b UndC.h ShpC.h rfl rfl) ?_
      refine v_ (qv_loadRb (f := ei) (k := 1) (off := 0) (i := (y1245 : Int).toNat) 2 h1248b rfl (by decide) rfl ShpC.h rfl rfl) ?_
      obtain ⟨h1249, h⟩ := h
      refine vp_ (pv_addI h1249 rfl rfl) ?_
      obtain ⟨h1251a, h⟩ := h
      obtain ⟨y1250, h1251b, h⟩ := h
      refine vp_ (pv_indexAddrRbM rfl h1251a h1251b UndC.h ShpC.h rfl rfl) ?_
      refine xstoreRb (f := ei) (k := 1) (off := 0) (i := (y1245 : Int).toNat) 2 (y1247 + 1) h1251b rfl (by decide) ShpC.h rfl rfl rfl rfl sl_ (.refl _) rfl ?_
      refine xnil ?_
      refine xin_normal ?_
      refine xthen ?_
      refine xregion ?_
      obtain ⟨h1253, h⟩ := h
      refine vp_ (pv_addI h1253 rfl rfl) ?_
      refine mv_ ?_
      refine xnil ?_
      obtain ⟨m', hm, hI⟩ := hag3 _ h
      exact xagain ⟨(x1228 + 1), (l1229.set (y1245 : Int).toNat (y1247 + 1)), hI, rfl⟩ hm ⟨(.cons rfl (.refl _) (.cons rfl (.refl _) (.cons rfl (.eq (by first | rfl | simp)) lk_))), by exact (SubM.of (.keep rfl rfl (.refl _) (.keep rfl rfl (.refl _) (.keep rfl rfl (.refl _) (.keep rfl rfl (.refl _) (.nil _))))) (.keep rfl (.nil _)))⟩
     ·replace h := h.2 hp1244
      refine xcondF' (decide_eq_false hp1244) rfl ?_
      refine xexit ?_
      refine xthen_exit ?_
      refine xthen_exit ?_
      refine xin_same rfl ?_
      refine xthen ?_
      refine sr_ ?_
      refine vp_ (qv_fieldAddrB FldC.h rfl) ?_
      refine v_ (qv_loadB 0 ShpC.h rfl rfl rfl rfl) ?_
      refine vp_ (pv_bin2 rfl rfl rfl) ?_
      refine nt_ ?_
      by_cases hp1255 : y1162.1 = 5
      ·replace h := h.1 hp1255
       refine xcondT' (decide_eq_true hp1255) rfl ?_
       refine xregion ?_
       refine vp_ (qv_fieldAddrB FldC.h rfl) ?_
       refine v_ (qv_loadB 0 ShpC.h rfl rfl rfl rfl) ?_
       obtain ⟨h1256, h⟩ := h
       obtain ⟨y1257, h1256b, h⟩ := h
       refine vp_ (pv_indexAddrBA h1256 UndC.h ShpC.h rfl rfl) ?_
       refine v_ (qv_loadA (f := ei) (a := f856) (k := 1) (off := 0) (i := (y1162.2.2.2.2.2.1 : Int).toNat) 1 [] [] h1256b sq_ so_ (by decide) rfl ShpC.h rfl rfl) ?_
       obtain ⟨h1258, h⟩ := h
       refine vp_ (pv_addI h1258 rfl rfl) ?_
       obtain ⟨h1259, h⟩ := h
       obtain ⟨y1260, h1259b, h⟩ := h
       refine vp_ (pv_indexAddrBA h1259 UndC.h ShpC.h rfl rfl) ?_
       refine xstoreA (f := ei) (a := f856) (k := 1) (off := 0) (i := (y1162.2.2.2.2.2.1 : Int).toNat) 1 [] [] (y1257 + 1) h1259b sq_ so_ (by decide) ShpC.h rfl rfl rfl rfl sl_ rfl rfl ?_
       refine xreb 1 ((List.map ei ((Arr.set f856 (y1162.2.2.2.2.2.1 : Int).toNat ((y1257 + 1)))).l).flatten) rfl sq_ ?_
       refine xnil ?_
       refine xin_normal ?_
       refine xthen ?_
       refine xregion ?_
       obtain ⟨h1261, h⟩ := h
       refine vp_ (pv_addI h1261 rfl rfl) ?_
       refine mv_ ?_
       refine xnil ?_
       obtain ⟨m', hm, hI⟩ := hag2 _ h
       exact xagain ⟨(x854 + 1), l1229, (Arr.set f856 (y1162.2.2.2.2.2.1 : Int).toNat ((y1257 + 1))), hI, rfl⟩ hm ⟨(.cons rfl (.refl _) (.cons rfl (.refl _) (.cons rfl (.eq (by first | rfl | simp)) lk_))), by exact (SubM.of (.drop (.keep rfl rfl (.refl _) (.keep rfl rfl (.refl _) (.keep rfl rfl (.refl _) (.nil _))))) (.nil _))⟩
      ·replace h := h.2 hp1255
       refine xcondF' (decide_eq_false hp1255) rfl ?_
       refine xskipc ?_
       refine xin_normal ?_
       refine xthen ?_
       refine xregion ?_
       obtain ⟨h1262, h⟩ := h
       refine vp_ (pv_addI h1262 rfl rfl) ?_
       refine mv_ ?_
       refine xnil ?_
       obtain ⟨m', hm, hI⟩ := hag2 _ h
       exact xagain ⟨(x854 + 1), l1229, f856, hI, rfl⟩ hm ⟨(.cons rfl (.refl _) (.cons rfl (.refl _) (.cons rfl (.eq (by first | rfl | simp)) lk_))), by exact (SubM.of (.drop (.keep rfl rfl (.refl _) (.keep rfl rfl (.refl _) (.keep rfl rfl (.refl _) (.nil _))))) (.nil _))⟩
   ·replace h := h.2 hp1062
    refine xcondF' (decide_eq_false hp1062) rfl ?_
    refine xexit ?_
    refine xthen_exit ?_
    refine xthen_exit ?_
    refine xin_same rfl ?_
    refine xthen ?_
    refine xseq ?_
    refine sr_ ?_
    refine mv_ ?_
    refine mv_ ?_
    obtain ⟨h1303, h⟩ := h
    refine vp_ (pv_subI h1303 rfl rfl) ?_
    obtain ⟨h1304, h⟩ := h
    refine vp_ (pv_sliceRbHi h1304 UndC.h ShpC.h rfl rfl) ?_
    refine xtakeRb (f := ei) (l := l855) 1 73 76 (((x1.1.length : Int) - 1) : Int).toNat rfl (by have := h1304; first | omega | (simp at this ⊢; done) | (simp at this ⊢; omega)) rfl rfl rfl ?_
    refine vp_ (pv_lenRb UndC.h rfl) ?_
    refine mv_ ?_
    refine nt_ ?_
    refine xblock ?_
    obtain ⟨Inv, ⟨m0, hI⟩, hS⟩ := h
    refine xloop (fun σ m => ∃ (x1318 : Int), Inv x1318 m ∧ σ = ⟨[(1, .v (.pointer (some ⟨b1, 0, none⟩))), (5, .v (.pointer (some ⟨b5, 0, none⟩))), (76, .rb i36 ((l855.take (((x1.1.length : Int) - 1) : Int).toNat).length)), (77, .v (.int .i64 ((((l855.take (((x1.1.length : Int) - 1) : Int).toNat).length : Nat) : Int)))), (78, .v (.int .i64 x1318))], [⟨b5, 81, ((List.map ei f856.l).flatten)⟩, rbx i36 3 1 (List.map ei ((l855.take (((x1.1.length : Int) - 1) : Int).toNat))), ⟨b1, 26, [.sl 10 none (List.map E_palinode_api_Node x1.1), .v (.int .i64 x1.2)]⟩], []⟩) ⟨0, hI, rfl⟩ (by exact ⟨(.cons rfl (.refl _) (.cons rfl (.refl _) (.cons rfl (.eq (by first | rfl | simp)) lk_))), by exact (SubM.of (.keep rfl rfl (.refl _) (.keep rfl rfl (.refl _) (.keep rfl rfl (.refl _) (.nil _)))) (.nil _))⟩) ?_
    rintro _ m ⟨x1318, hI, rfl⟩
    obtain ⟨ag4, hag4, h⟩ : ∃ ag, (∀ s', ag s' → ∃ m', m' < m ∧ Inv s' m') ∧ tree_Right_l4 l855 x1 f856 ag x1318 r := ⟨_, fun _ h => h, hS x1318 _ hI⟩
    clear hS hI
    refine sr_ ?_
    refine vp_ (pv_bin2 rfl rfl rfl) ?_
    refine nt_ ?_
    refine xseq ?_
    by_cases hp1333 : x1318 < (((l855.take (((x1.1.length : Int) - 1) : Int).toNat).length : Nat) : Int)
    ·replace h := h.1 hp1333
     refine xcondT' (decide_eq_true hp1333) rfl ?_
     refine xskipc ?_
     refine xthen ?_
     refine xseq ?_
     refine xblock ?_
     refine sr_ ?_
     obtain ⟨h1339a, h⟩ := h
     obtain ⟨y1338, h1339b, h⟩ := h
     refine vp_ (pv_indexAddrRbM (by simp) h1339a h1339b UndC.h ShpC.h rfl rfl) ?_
     refine v_ (qv_loadRb (f := ei) (k := 1) (off := 0) (i := (x1318 : Int).toNat) 1 h1339b rfl (by decide) rfl ShpC.h rfl rfl) ?_
     refine as_ ?_
     refine nt_ ?_
     refine sr_ ?_
     refine mv_ ?_
     refine vp_ (pv_bin2 rfl rfl rfl) ?_
     refine nt_ ?_
     by_cases hp1341 : ¬ (y1338 = 1)
     ·replace h := h.1 hp1341
      refine xcondT' (not_t (decide_eq_false hp1341)) rfl ?_
      refine sr_ ?_
      refine as_ ?_
      refine nt_ ?_
      refine xretc ?_
      refine xin_ret ?_
      refine xthen_ret ?_
      refine xthen_ret ?_
      refine xin_ret ?_
      refine xthen_ret ?_
      replace h := h.symm
      subst h
      exact xret1 (bx' := []) (tk' := []) hg rfl rfl (.refl _) (SubM.of (.nil _) (.nil _)) ⟨rfl, rfl, rfl⟩
     ·replace h := h.2 hp1341
      refine xcondF' (not_f (decide_eq_true (Decidable.of_not_not hp1341))) rfl ?_
      refine xskipc ?_
      refine xin_normal ?_
      refine xthen ?_
      refine xregion ?_
      obtain ⟨h1342, h⟩ := h
      refine vp_ (pv_addI h1342 rfl rfl) ?_
      refine mv_ ?_
      refine xnil ?_
      obtain ⟨m', hm, hI⟩ := hag4 _ h
      exact xagain ⟨(x1318 + 1), hI, rfl⟩ hm ⟨(.cons rfl (.refl _) (.cons rfl (.refl _) (.cons rfl (.eq (by first | rfl | simp)) lk_))), by exact (SubM.of (.keep rfl rfl (.refl _) (.keep rfl rfl (.refl _) (.keep rfl rfl (.refl _) (.nil _)))) (.nil _))⟩
    ·replace h := h.2 hp1333
     refine xcondF' (decide_eq_false hp1333) rfl ?_
     refine xexit ?_
     refine xthen_exit ?_
     refine xthen_exit ?_
     refine xin_same rfl ?_
     refine xthen ?_
     refine xseq ?_
     refine sr_ ?_
     refine vp_ (qv_fieldAddrB FldC.h rfl) ?_
     refine v_ (qv_loadB 2 ShpC.h rfl rfl rfl rfl) ?_
     obtain ⟨h1383, h⟩ := h
     refine vp_ (pv_addI h1383 rfl rfl) ?_
     obtain ⟨h1384a, h⟩ := h
     obtain ⟨h1384b, h⟩ := h
     obtain ⟨h1384, h⟩ := h
     refine vp_ (pv_sliceArr h1384 UndC.h ShpC.h rfl (Bd.int_ h1384a rfl) (Bd.int_ h1384b rfl)) ?_
     refine vp_ (pv_lenVN UndC.h rfl) ?_
     refine mv_ ?_
     refine nt_ ?_
     refine xblock ?_
     obtain ⟨Inv, ⟨m0, hI⟩, hS⟩ := h
     refine xloop (fun σ m => ∃ (x1398 : Int), Inv x1398 m ∧ σ = ⟨[(88, .v (.slice (some ⟨b5, 0 + (1 : Int).toNat * 1, none⟩) (((x1.2 + 1) : Int).toNat - (1 : Int).toNat) (10 - (1 : Int).toNat))), (89, .v (.int .i64 (((((x1.2 + 1) : Int).toNat - (1 : Int).toNat : Nat) : Int)))), (90, .v (.int .i64 x1398))], [⟨b5, 81, ((List.map ei f856.l).flatten)⟩], []⟩) ⟨0, hI, rfl⟩ (by exact ⟨lk_, (SubM.of (.keep rfl rfl (.refl _) (.nil _)) (.nil _))⟩) ?_
     rintro _ m ⟨x1398, hI, rfl⟩
     obtain ⟨ag5, hag5, h⟩ : ∃ ag, (∀ s', ag s' → ∃ m', m' < m ∧ Inv s' m') ∧ tree_Right_l5 x1 f856 ag x1398 r := ⟨_, fun _ h => h, hS x1398 _ hI⟩
     clear hS hI
     refine sr_ ?_
     refine vp_ (pv_bin2 rfl rfl rfl) ?_
     refine nt_ ?_
     refine xseq ?_
     by_cases hp1413 : x1398 < ((((x1.2 + 1) : Int).toNat - (1 : Int).toNat : Nat) : Int)
     ·replace h := h.1 hp1413
      refine xcondT' (decide_eq_true hp1413) rfl ?_
      refine xskipc ?_
      refine xthen ?_
      refine xseq ?_
      refine xblock ?_
      refine sr_ ?_
      obtain ⟨h1419, h⟩ := h
      obtain ⟨y1418, h1419b, h⟩ := h
      refine vp_ (pv_indexAddrVN h1419 UndC.h ShpC.h rfl rfl) ?_
      refine v_ (qv_loadA (f := ei) (a := f856) (k := 1) (off := 0) (i := ((((1 : Int).toNat + (x1398 : Int).toNat : Nat) : Int) : Int).toNat) 0 [] [] h1419b sq_ so_ (by decide) rfl ShpC.h rfl rfl) ?_
      refine as_ ?_
      refine nt_ ?_
      refine sr_ ?_
      refine mv_ ?_
      refine vp_ (pv_bin2 rfl rfl rfl) ?_
      refine nt_ ?_
      by_cases hp1421 : ¬ (y1418 = 1)
      ·replace h := h.1 hp1421
       refine xcondT' (not_t (decide_eq_false hp1421)) rfl ?_
       refine sr_ ?_
       refine as_ ?_
       refine nt_ ?_
       refine xretc ?_
       refine xin_ret ?_
       refine xthen_ret ?_
       refine xthen_ret ?_
       refine xin_ret ?_
       refine xthen_ret ?_
       replace h := h.symm
       subst h
       exact xret1 hg rfl rfl (.refl _) (SubM.of (.nil _) (.nil _)) ⟨rfl, rfl, rfl⟩
      ·replace h := h.2 hp1421
       refine xcondF' (not_f (decide_eq_true (Decidable.of_not_not hp1421))) rfl ?_
       refine xskipc ?_
       refine xin_normal ?_
       refine xthen ?_
       refine xregion ?_
       obtain ⟨h1422, h⟩ := h
       refine vp_ (pv_addI h1422 rfl rfl) ?_
       refine mv_ ?_
       refine xnil ?_
       obtain ⟨m', hm, hI⟩ := hag5 _ h
       exact xagain ⟨(x1398 + 1), hI, rfl⟩ hm ⟨lk_, (SubM.of (.keep rfl rfl (.refl _) (.nil _)) (.nil _))⟩
     ·replace h := h.2 hp1413
      refine xcondF' (decide_eq_false hp1413) rfl ?_
      refine xexit ?_
      refine xthen_exit ?_
      refine xthen_exit ?_
      refine xin_same rfl ?_
      refine xthen ?_
      refine sr_ ?_
      refine as_ ?_
      refine nt_ ?_
      refine xretc ?_
      replace h := h.symm
      subst h
      exact xret1 hg rfl rfl (.refl _) (SubM.of (.nil _) (.nil _)) ⟨rfl, rfl, rfl⟩
/-- (*tree.Builder).Re -/
def tree_Builder_Re_j1 (root3 : Int) (o1 : ((List (Int × Int × Int × Int × Int × Int × (Arr 4 (UInt64)))) × Int) × (List UInt8) × Int × (Arr 10 (Bool))) (x18 : Bool) (r : ((List (Int × Int × Int × Int × Int × Int × (Arr 4 (UInt64)))) × Int) × Bool) : Prop :=
 ((x18 = true → r = ((([] : List (Int × Int × Int × Int × Int × Int × (Arr 4 (UInt64)))), 0), false)) ∧ (¬ (x18 = true) → InR (root3 + 1) ∧ (0 ≤ ((root3 + 1) : Int) ∧ ((root3 + 1) : Int) ≤ (o1.1.1.length : Int)) ∧ ∃ y34 : (List (Int × Int × Int × Int × Int × Int × (Arr 4 (UInt64)))), slices_Clone_R (o1.1.1.take ((root3 + 1) : Int).toNat) y34 ∧ ∃ y41 : Bool, tree_Right_R (y34, o1.1.2) y41 ∧ ((¬ (y41 = true) → r = ((([] : List (Int × Int × Int × Int × Int × Int × (Arr 4 (UInt64)))), 0), false)) ∧ (¬ (¬ (y41 = true)) → r = ((y34, o1.1.2), true)))))
def tree_Builder_Re_R (o1 : ((List (Int × Int × Int × Int × Int × Int × (Arr 4 (UInt64)))) × Int) × (List UInt8) × Int × (Arr 10 (Bool))) (root3 : Int) (r : ((List (Int × Int × Int × Int × Int × Int × (Arr 4 (UInt64)))) × Int) × Bool) : Prop :=
 tree_Builder_Re_j1 root3 o1 ((decide (root3 < 0)) || (decide ((o1.1.1.length : Int) ≤ root3))) r
def tree_Builder_Re_j1_ev (fuel : Nat) (root3 : Int) (o1 : ((List (Int × Int × Int × Int × Int × Int × (Arr 4 (UInt64)))) × Int) × (List UInt8) × Int × (Arr 10 (Bool))) (x18 : Bool) : Option (((List (Int × Int × Int × Int × Int × Int × (Arr 4 (UInt64)))) × Int) × Bool) :=
 (if x18 = true then some ((([] : List (Int × Int × Int × Int × Int × Int × (Arr 4 (UInt64)))), 0), false) else (if InR (root3 + 1) then (if (0 ≤ ((root3 + 1) : Int) ∧ ((root3 + 1) : Int) ≤ (o1.1.1.length : Int)) then ((slices_Clone_ev fuel (o1.1.1.take ((root3 + 1) : Int).toNat)).bind fun y34 => ((tree_Right_ev fuel (y34, o1.1.2)).bind fun y41 => (if ¬ (y41 = true) then some ((([] : List (Int × Int × Int × Int × Int × Int × (Arr 4 (UInt64)))), 0), false) else some ((y34, o1.1.2), true)))) else none) else none))
theorem tree_Builder_Re_j1_ok {fuel : Nat} {root3 : Int} {o1 : ((List (Int × Int × Int × Int × Int × Int × (Arr 4 (UInt64)))) × Int) × (List UInt8) × Int × (Arr 10 (Bool))} {x18 : Bool} {r : ((List (Int × Int × Int × Int × Int × Int × (Arr 4 (UInt64)))) × Int) × Bool} (h : tree_Builder_Re_j1_ev fuel root3 o1 x18 = some r) : tree_Builder_Re_j1 root3 o1 x18 r := by
 unfold tree_Builder_Re_j1_ev at h
 unfold tree_Builder_Re_j1
 refine ⟨fun g419 => ?_, fun g419 => ?_⟩
 ·rw [if_pos g419] at h
  exact (Option.some.inj h).symm
 ·rw [if_neg g419] at h
  obtain ⟨g420, h⟩ := if_ok h
  refine ⟨g420, ?_⟩
  obtain ⟨g421, h⟩ := if_ok h
  refine ⟨g421, ?_⟩
  obtain ⟨q422, g422, h⟩ := bind_ok h
  refine ⟨q422, slices_Clone_ok g422, ?_⟩
  obtain ⟨q423, g423, h⟩ := bind_ok h
  refine ⟨q423, tree_Right_ok g423, ?_⟩
  refine ⟨fun g424 => ?_, fun g424 => ?_⟩
  ·rw [if_pos g424] at h
   exact (Option.some.inj h).symm
  ·rw [if_neg g424] at h
   exact (Option.some.inj h).symm
def tree_Builder_Re_ev (fuel : Nat) (o1 : ((List (Int × Int × Int × Int × Int × Int × (Arr 4 (UInt64)))) × Int) × (List UInt8) × Int × (Arr 10 (Bool))) (root3 : Int) : Option (((List (Int × Int × Int × Int × Int × Int × (Arr 4 (UInt64)))) × Int) × Bool) :=
 tree_Builder_Re_j1_ev fuel root3 o1 ((decide (root3 < 0)) || (decide ((o1.1.1.length : Int) ≤ root3)))
theorem tree_Builder_Re_ok {fuel : Nat} {o1 : ((List (Int × Int × Int × Int × Int × Int × (Arr 4 (UInt64)))) × Int) × (List UInt8) × Int × (Arr 10 (Bool))} {root3 : Int} {r : ((List (Int × Int × Int × Int × Int × Int × (Arr 4 (UInt64)))) × Int) × Bool} (h : tree_Builder_Re_ev fuel o1 root3 = some r) : tree_Builder_Re_R o1 root3 r := by
 unfold tree_Builder_Re_ev at h
 unfold tree_Builder_Re_R
 exact tree_Builder_Re_j1_ok h
set_option maxHeartbeats 4000000 in
theorem tree_Builder_Re_con (o1 : ((List (Int × Int × Int × Int × Int × Int × (Arr 4 (UInt64)))) × Int) × (List UInt8) × Int × (Arr 10 (Bool))) (root3 : Int) (bx0 : Nat) (ia2 : Option (Nat × Nat)) (r : ((List (Int × Int × Int × Int × Int × Int × (Arr 4 (UInt64)))) × Int) × Bool) (h : tree_Builder_Re_R o1 root3 r) : Con Try.prog 15 [.v (.pointer (some ⟨bx0, 0, none⟩)), .v (.int .i64 root3)] [⟨bx0, 50, ([.sl 10 (some ia2) (List.map E_palinode_api_Node o1.1.1), .v (.int .i64 o1.1.2), .sl 1 none (List.map eb o1.2.1), .v (.int .i64 o1.2.2.1)] ++ (List.map eB o1.2.2.2.l).flatten)⟩] [⟨ia2, 42, 10, o1.1.1.length⟩] (fun rr bx tk => rr = .tup [.agg [.sl 10 none (List.map E_palinode_api_Node r.1.1), .v (.int .i64 r.1.2)], .v (.bool r.2)] ∧ bx = [⟨bx0, 50, ([.sl 10 (some ia2) (List.map E_palinode_api_Node o1.1.1), .v (.int .i64 o1.1.2), .sl 1 none (List.map eb o1.2.1), .v (.int .i64 o1.2.2.1)] ++ (List.map eB o1.2.2.2.l).flatten)⟩] ∧ tk = [⟨ia2, 42, 10, o1.1.1.length⟩]) := by
 refine xenter Try.func15 rfl rfl fun g hg => ?_
 simp only [Try.ntmps15, slots]
 unfold tree_Builder_Re_R at h
 refine sr_ ?_
 refine xalloc InfC.h rfl rfl fun b4 => ?_
 refine as_ ?_
 refine nt_ ?_
 refine xseq ?_
 refine xseqM (fun σ => ∃ (x18 : Bool), tree_Builder_Re_j1 root3 o1 x18 r ∧ σ = ⟨[(0, .v (.pointer (some ⟨bx0, 0, none⟩))), (1, .v (.int .i64 root3)), (4, .v (.pointer (some ⟨b4, 0, none⟩))), (17, .v (.bool x18))], [⟨b4, 26, [.v (.slice none 0 0), .v (.int .i64 0)]⟩, ⟨bx0, 50, ([.sl 10 (some ia2) (List.map E_palinode_api_Node o1.1.1), .v (.int .i64 o1.1.2), .sl 1 none (List.map eb o1.2.1), .v (.int .i64 o1.2.2.1)] ++ (List.map eB o1.2.2.2.l).flatten)⟩], [⟨ia2, 42, 10, o1.1.1.length⟩]⟩) ?_ ?_
 ·refine xregion ?_
  refine mv_ ?_
  refine vp_ (pv_bin2 rfl rfl rfl) ?_
  refine mv_ ?_
  by_cases hp20 : root3 < 0
  ·rw [or_tt (show (decide (root3 < 0)) = true from (decide_eq_true hp20))] at h
   refine xsetB 9 (decide_eq_true hp20) rfl ?_
   refine sk_ ?_
   refine sk_ ?_
   refine sk_ ?_
   refine sk_ ?_
   refine sk_ ?_
   refine sk_ ?_
   refine sk_ ?_
   refine pk_ ?_
   refine xnil ?_
   exact xmeet ⟨true, h, rfl⟩ ⟨lk_, (SubM.of (.keep rfl rfl (.refl _) (.keep rfl rfl (.refl _) (.nil _))) (.keep rfl (.nil _)))⟩
  ·rw [or_ff (show (decide (root3 < 0)) = false from (decide_eq_false hp20))] at h
   refine xsetB 9 (decide_eq_false hp20) rfl ?_
   refine mv_ ?_
   refine mv_ ?_
   refine vp_ (pv_nilCheck rfl) ?_
   refine vp_ (qv_fieldAddrB FldC.h rfl) ?_
   refine v_ (qv_loadB 1 ShpC.h rfl rfl rfl rfl) ?_
   refine vp_ (pv_lenM UndC.h rfl) ?_
   refine vp_ (pv_bin2 rfl rfl rfl) ?_
   refine pk_ ?_
   refine xnil ?_
   exact xmeet ⟨(decide ((o1.1.1.length : Int) ≤ root3)), h, rfl⟩ ⟨lk_, (SubM.of (.keep rfl rfl (.refl _) (.keep rfl rfl (.refl _) (.nil _))) (.keep rfl (.nil _)))⟩
 ·clear h
  rintro _ ⟨x18, h, rfl⟩
  by_cases hp23 : x18 = true
  ·replace h := h.1 hp23
   refine xcondT' hp23 rfl ?_
   refine sr_ ?_
   refine vp_ (pv_buildC StrC.h rfl rfl) ?_
   refine xstore 0 ShpC.h rfl rfl rfl rfl rfl rfl rfl ?_
   refine as_ ?_
   refine nt_ ?_
   refine xretc ?_
   refine xthen_ret ?_
   replace h := h.symm
   subst h
   exact xretL (rs := [.cell 4 26, .tmp 5]) (ss := [.agg [.sl 10 none (List.map E_palinode_api_Node (([] : List (Int × Int × Int × Int × Int × Int × (Arr 4 (UInt64)))))), .v (.int .i64 0)], .v (.bool false)]) hg rfl (by refine RetL.cell 0 ShpC.h rfl rfl rfl (Nat.le_of_ble_eq_true rfl) (.agg (.cons (.nil_pl _) (.cons (.refl _) .nil))) ?_; refine RetL.tmp rfl (.refl _) ?_; exact RetL.nil) (SubM.of (.drop (.keep rfl rfl (.refl _) (.nil _))) (.keep rfl (.nil _))) ⟨rfl, rfl, rfl⟩
  ·replace h := h.2 hp23
   refine xcondF' (b_f hp23) rfl ?_
   refine xskipc ?_
   refine xthen ?_
   refine xseq ?_
   refine xregionD (m := 15) (by kernel_rfl) rfl ?_
   obtain ⟨h31, h⟩ := h
   obtain ⟨h32, h⟩ := h
   obtain ⟨y34, h33, h⟩ := h
   refine xpcut 1 #[true, true, true, true, true, true, true, true, true, true, true, true, true, true, false] (fun σ => ∃ (b6 : Nat), ∃ (i35 : Option (Nat × Nat)), σ = ⟨[(4, .v (.pointer (some ⟨b4, 0, none⟩))), (6, .v (.pointer (some ⟨b6, 0, none⟩))), (31, .agg [.sl 10 (some i35) (List.map E_palinode_api_Node y34), .v (.int .i64 o1.1.2)])], [⟨b6, 26, [.v (.slice none 0 0), .v (.int .i64 0)]⟩, ⟨b4, 26, [.v (.slice none 0 0), .v (.int .i64 0)]⟩, ⟨bx0, 50, ([.sl 10 (some ia2) (List.map E_palinode_api_Node o1.1.1), .v (.int .i64 o1.1.2), .sl 1 none (List.map eb o1.2.1), .v (.int .i64 o1.2.2.1)] ++ (List.map eB o1.2.2.2.l).flatten)⟩], [⟨i35, 42, 10, y34.length⟩, ⟨ia2, 42, 10, o1.1.1.length⟩]⟩) ?_ (fun key36 => ?_)
   ·rintro _ ⟨b6, i35, rfl⟩
    refine xpstep (i := 14) (by kernel_rfl) rfl ?_
    refine wstore 0 ShpC.h rfl rfl rfl rfl rfl rfl rfl ?_
    refine xpdone (by kernel_rfl) ?_
    refine xthen ?_
    refine xseq ?_
    refine sr_ ?_
    refine v_ (qv_loadB 0 ShpC.h rfl rfl rfl rfl) ?_
    obtain ⟨y41, h40, h⟩ := h
    refine xcall0 (tree_Right_con (y34, o1.1.2) _ h40) Try.func26 (by kernel_rfl) rfl (.cons rfl (.agg (.cons (.tok _ _ _) (.cons (.refl _) .nil))) .nil) rfl rfl ?_
    refine vp_ (pv_not rfl) ?_
    refine nt_ ?_
    by_cases hp42 : ¬ (y41 = true)
    ·replace h := h.1 hp42
     refine xcondT' (not_t (b_f hp42)) rfl ?_
     refine sr_ ?_
     refine vp_ (pv_buildC StrC.h rfl rfl) ?_
     refine xstore 1 ShpC.h rfl rfl rfl rfl rfl rfl rfl ?_
     refine as_ ?_
     refine nt_ ?_
     refine xretc ?_
     refine xthen_ret ?_
     replace h := h.symm
     subst h
     exact xretL (rs := [.cell 4 26, .tmp 5]) (ss := [.agg [.sl 10 none (List.map E_palinode_api_Node (([] : List (Int × Int × Int × Int × Int × Int × (Arr 4 (UInt64)))))), .v (.int .i64 0)], .v (.bool false)]) hg rfl (by refine RetL.cell 1 ShpC.h rfl rfl rfl (Nat.le_of_ble_eq_true rfl) (.agg (.cons (.nil_pl _) (.cons (.refl _) .nil))) ?_; refine RetL.tmp rfl (.refl _) ?_; exact RetL.nil) (SubM.of (.drop (.drop (.keep rfl rfl (.refl _) (.nil _)))) (.drop (.keep rfl (.nil _)))) ⟨rfl, rfl, rfl⟩
    ·replace h := h.2 hp42
     refine xcondF' (not_f (Decidable.of_not_not hp42)) rfl ?_
     refine xskipc ?_
     refine xthen ?_
     refine sr_ ?_
     refine v_ (qv_loadB 0 ShpC.h rfl rfl rfl rfl) ?_
     refine xstore 1 ShpC.h rfl rfl rfl rfl rfl rfl rfl ?_
     refine as_ ?_
     refine nt_ ?_
     refine xretc ?_
     replace h := h.symm
     subst h
     exact xretL (rs := [.cell 4 26, .tmp 5]) (ss := [.agg [.sl 10 none (List.map E_palinode_api_Node y34), .v (.int .i64 o1.1.2)], .v (.bool true)]) hg rfl (by refine RetL.cell 1 ShpC.h rfl rfl rfl (Nat.le_of_ble_eq_true rfl) (.agg (.cons (.tok _ _ _) (.cons (.refl _) .nil))) ?_; refine RetL.tmp rfl (.refl _) ?_; exact RetL.nil) (SubM.of (.drop (.drop (.keep rfl rfl (.refl _) (.nil _)))) (.drop (.keep rfl (.nil _)))) ⟨rfl, rfl, rfl⟩
   refine xpcut 2 #[true, true, true, true, true, true, true, true, true, true, true, true, true, false, false] (fun σ => ∃ (i35 : Option (Nat × Nat)), σ = ⟨[(4, .v (.pointer (some ⟨b4, 0, none⟩))), (31, .agg [.sl 10 (some i35) (List.map E_palinode_api_Node y34), .v (.int .i64 o1.1.2)])], [⟨b4, 26, [.v (.slice none 0 0), .v (.int .i64 0)]⟩, ⟨bx0, 50, ([.sl 10 (some ia2) (List.map E_palinode_api_Node o1.1.1), .v (.int .i64 o1.1.2), .sl 1 none (List.map eb o1.2.1), .v (.int .i64 o1.2.2.1)] ++ (List.map eB o1.2.2.2.l).flatten)⟩], [⟨i35, 42, 10, y34.length⟩, ⟨ia2, 42, 10, o1.1.1.length⟩]⟩) ?_ (fun key43 => ?_)
   ·rintro _ ⟨i35, rfl⟩
    refine xpstep (i := 13) (by kernel_rfl) rfl ?_
    refine walloc InfC.h rfl rfl fun b6 => ?_
    exact xpuse key36 ⟨b6, i35, rfl⟩ ⟨lk_, (SubM.of (.keep rfl rfl (.refl _) (.keep rfl rfl (.refl _) (.keep rfl rfl (.refl _) (.nil _)))) (.keep rfl (.keep rfl (.nil _))))⟩ rfl (by kernel_rfl)
   refine pl_ 0 rfl (pv_move rfl) ?_
   refine pl_ 1 rfl (pv_nilCheck rfl) ?_
   refine pl_ 2 rfl (qv_fieldAddrB FldC.h rfl) ?_
   refine pl_ 4 rfl (pv_move rfl) ?_
   refine pl_ 5 rfl (pv_addI h31 rfl rfl) ?_
   refine pl_ 8 rfl (pv_move rfl) ?_
   refine pl_ 9 rfl (pv_nilCheck rfl) ?_
   refine pl_ 10 rfl (qv_fieldAddrB FldC.h rfl) ?_
   refine xpvalE 3 [11, 13] rfl (qv_loadB 1 ShpC.h rfl rfl rfl rfl) rfl rfl (by kernel_rfl) (by kernel_rfl) (by kernel_rfl) (fun _ _ _ _ h => h) ?_
   refine pl_ 6 rfl (pv_sliceHi h32 UndC.h ShpC.h rfl rfl) ?_
   refine xpstepN (is := [7, 11, 13]) (by kernel_rfl) (by simp) ?_
   intro i hi; simp only [List.mem_cons, List.not_mem_nil, or_false] at hi; rcases hi with rfl | rfl | rfl
   ·refine ⟨_, rfl, ?_⟩
    refine wcallM (slices_Clone_con (o1.1.1.take ((root3 + 1) : Int).toNat) _ h33) Try.func25 (by kernel_rfl) rfl (.cons rfl (.refl _) .nil) rfl rfl fun i35 => ?_
    refine xpvalE 11 [13] rfl (qv_loadB 1 ShpC.h rfl rfl rfl rfl) rfl rfl (by kernel_rfl) (by kernel_rfl) (by kernel_rfl) (fun _ _ _ _ h => h) ?_
    refine pl_ 12 rfl (pv_buildC StrC.h rfl rfl) ?_
    exact xpuse key43 ⟨i35, rfl⟩ ⟨lk_, (SubM.of (.keep rfl rfl (.refl _) (.keep rfl rfl (.refl _) (.nil _))) (.keep rfl (.keep rfl (.nil _))))⟩ rfl (by kernel_rfl)
   ·refine ⟨_, rfl, ?_⟩
    refine wv_ (qv_loadB 1 ShpC.h rfl rfl rfl rfl) ?_
    refine xpstepN (is := [7, 13]) (by kernel_rfl) (by simp) ?_
    intro i hi; simp only [List.mem_cons, List.not_mem_nil, or_false] at hi; rcases hi with rfl | rfl
    ·refine ⟨_, rfl, ?_⟩
     refine wcallM (slices_Clone_con (o1.1.1.take ((root3 + 1) : Int).toNat) _ h33) Try.func25 (by kernel_rfl) rfl (.cons rfl (.refl _) .nil) rfl rfl fun i35 => ?_
     refine pl_ 12 rfl (pv_buildC StrC.h rfl rfl) ?_
     exact xpuse key43 ⟨i35, rfl⟩ ⟨lk_, (SubM.of (.keep rfl rfl (.refl _) (.keep rfl rfl (.refl _) (.nil _))) (.keep rfl (.keep rfl (.nil _))))⟩ rfl (by kernel_rfl)
    ·refine ⟨_, rfl, ?_⟩
     refine walloc InfC.h rfl rfl fun b6 => ?_
     refine xpstep (i := 7) (by kernel_rfl) rfl ?_
     refine wcallM (slices_Clone_con (o1.1.1.take ((root3 + 1) : Int).toNat) _ h33) Try.func25 (by kernel_rfl) rfl (.cons rfl (.refl _) .nil) rfl rfl fun i35 => ?_
     refine pl_ 12 rfl (pv_buildC StrC.h rfl rfl) ?_
     exact xpuse key36 ⟨b6, i35, rfl⟩ ⟨lk_, (SubM.of (.keep rfl rfl (.refl _) (.keep rfl rfl (.refl _) (.keep rfl rfl (.refl _) (.nil _)))) (.keep rfl (.keep rfl (.nil _))))⟩ rfl (by kernel_rfl)
   ·refine ⟨_, rfl, ?_⟩
    refine walloc InfC.h rfl rfl fun b6 => ?_
    refine xfl0 [⟨11, 30, .v (.int .i64 o1.1.2)⟩] 3 ?_
    refine xflstep 7 (by kernel_rfl) rfl (.cons rfl rfl rfl (fun _ => rfl) (fun _ => qv_loadB 2 ShpC.h rfl rfl rfl rfl) .nil) fun D l td hR => ?_
    refine wcallM (slices_Clone_con (o1.1.1.take ((root3 + 1) : Int).toNat) _ h33) Try.func25 (by kernel_rfl) rfl (.cons rfl (.refl _) .nil) rfl rfl fun i35 => ?_
    refine xflgo1 hR ?_
    refine xflend (l' := #[true, true, true, true, true, true, true, true, true, true, true, true, false, true, false]) (by kernel_rfl) (.cons rfl rfl rfl (fun _ => rfl) (fun _ => qv_loadB 2 ShpC.h rfl rfl rfl rfl) .nil) (by kernel_rfl) rfl (by kernel_rfl) (by kernel_rfl) ?_
    simp only [List.nil_append, List.cons_append, List.map_cons, List.map_nil]
    refine pl_ 12 rfl (pv_buildC StrC.h rfl rfl) ?_
    exact xpuse key36 ⟨b6, i35, rfl⟩ ⟨lk_, (SubM.of (.keep rfl rfl (.refl _) (.keep rfl rfl (.refl _) (.keep rfl rfl (.refl _) (.nil _)))) (.keep rfl (.keep rfl (.nil _))))⟩ rfl (by kernel_rfl)
/-- bre.Parse -/
def bre_Parse_R (bv1 : List UInt8) (r : ((List (Int × Int × Int × Int × Int × Int × (Arr 4 (UInt64)))) × Int) × Int × Int) : Prop :=
 ∃ y3 : Int × (List (Int × Int)) × (((List (Int × Int × Int × Int × Int × Int × (Arr 4 (UInt64)))) × Int) × (List UInt8) × Int × (Arr 10 (Bool))), bre_parser_branch_R ((([] : List (Int × Int × Int × Int × Int × Int × (Arr 4 (UInt64)))), 0), bv1, 0, (Arr.rep 10 false)) false y3 ∧ ((¬ ((List.isEmpty y3.2.1) = true) → ∃ y21 : Int × Int, ∃ tl22 : List (Int × Int), y3.2.1 = y21 :: tl22 ∧ r = ((([] : List (Int × Int × Int × Int × Int × Int × (Arr 4 (UInt64)))), 0), y21.1, y21.2)) ∧ (¬ (¬ ((List.isEmpty y3.2.1) = true)) → ∃ y26 : ((List (Int × Int × Int × Int × Int × Int × (Arr 4 (UInt64)))) × Int) × Bool, tree_Builder_Re_R ((y3.2.2.1.1, y3.2.2.1.2), y3.2.2.2.1, y3.2.2.2.2.1, y3.2.2.2.2.2) y3.1 y26 ∧ ((¬ (y26.2 = true) → r = ((([] : List (Int × Int × Int × Int × Int × Int × (Arr 4 (UInt64)))), 0), y3.2.2.2.2.1, 8)) ∧ (¬ (¬ (y26.2 = true)) → r = (y26.1, 0, 0)))))
def bre_Parse_ev (fuel : Nat) (bv1 : List UInt8) : Option (((List (Int × Int × Int × Int × Int × Int × (Arr 4 (UInt64)))) × Int) × Int × Int) :=
 ((bre_parser_branch_ev fuel ((([] : List (Int × Int × Int × Int × Int × Int × (Arr 4 (UInt64)))), 0), bv1, 0, (Arr.rep 10 false)) false).bind fun y3 => (if ¬ ((List.isEmpty y3.2.1) = true) then (consE (y3.2.1) fun y21 tl22 => some ((([] : List (Int × Int × Int × Int × Int × Int × (Arr 4 (UInt64)))), 0), y21.1, y21.2)) else ((tree_Builder_Re_ev fuel ((y3.2.2.1.1, y3.2.2.1.2), y3.2.2.2.1, y3.2.2.2.2.1, y3.2.2.2.2.2) y3.1).bind fun y26 => (if ¬ (y26.2 = true) then some ((([] : List (Int × Int × Int × Int × Int × Int × (Arr 4 (UInt64)))), 0), y3.2.2.2.2.1, 8) else some (y26.1, 0, 0)))))
theorem bre_Parse_ok {fuel : Nat} {bv1 : List UInt8} {r : ((List (Int × Int × Int × Int × Int × Int × (Arr 4 (UInt64)))) × Int) × Int × Int} (h : bre_Parse_ev fuel bv1 = some r) : bre_Parse_R bv1 r := by
 unfold bre_Parse_ev at h
 unfold bre_Parse_R
 obtain ⟨q425, g425, h⟩ := bind_ok h
 refine ⟨q425, bre_parser_branch_ok g425, ?_⟩
 refine ⟨fun g426 => ?_, fun g426 => ?_⟩
 ·rw [if_pos g426] at h
  obtain ⟨q427, p427, g427, h⟩ := consE_ok h
  refine ⟨q427, p427, g427, ?_⟩
  exact (Option.some.inj h).symm
 ·rw [if_neg g426] at h
  obtain ⟨q428, g428, h⟩ := bind_ok h
  refine ⟨q428, tree_Builder_Re_ok g428, ?_⟩
  refine ⟨fun g429 => ?_, fun g429 => ?_⟩
  ·rw [if_pos g429] at h
   exact (Option.some.inj h).symm
  ·rw [if_neg g429] at h
   exact (Option.some.inj h).symm
set_option maxRecDepth 100000 in
set_option maxHeartbeats 4000000 in
theorem bre_Parse_con (bv1 : List UInt8) (r : ((List (Int × Int × Int × Int × Int × Int × (Arr 4 (UInt64)))) × Int) × Int × Int) (h : bre_Parse_R bv1 r) : Con Try.prog 8 [.sl 1 none (List.map eb bv1)] [] [] (fun rr bx tk => rr = .tup [.agg [.sl 10 none (List.map E_palinode_api_Node r.1.1), .v (.int .i64 r.1.2)], .v (.int .i64 r.2.1), .v (.int .i64 r.2.2)] ∧ bx = [] ∧ tk = []) := by
 refine xenter Try.func8 rfl rfl fun g hg => ?_
 simp only [Try.ntmps8, slots]
 refine sr_ ?_
 refine xalloc InfC.h rfl rfl fun b2 => ?_
 refine as_ ?_
 refine as_ ?_
 refine nt_ ?_
 refine sr_ ?_
 refine mv_ ?_
 refine vp_ (pv_buildC (cs := ([.v (.slice none 0 0), .v (.int .i64 0), .sl 1 none (List.map eb bv1), .v (.int .i64 0)] ++ (List.map eB ((Arr.rep 10 false)).l).flatten)) StrC.h rfl (by refine fill_step [.v (.slice none 0 0), .v (.int .i64 0)] [.v (.slice none 0 0)] ([.v (.int .i64 0)] ++ (List.map eB ((Arr.rep 10 false)).l).flatten) sq_ sl_ sl_ sl_ rfl rfl ?_; exact congrArg some sq_)) ?_
 refine xbox rfl rfl rfl rfl fun b12 => ?_
 refine as_ ?_
 refine nt_ ?_
 refine sr_ ?_
 refine mv_ ?_
 obtain ⟨y3, h2, h⟩ := h
 refine xcallF (Fb := [⟨b2, 26, [.v (.slice none 0 0), .v (.int .i64 0)]⟩]) (Ft := []) (bre_parser_branch_con ((([] : List (Int × Int × Int × Int × Int × Int × (Arr 4 (UInt64)))), 0), bv1, 0, (Arr.rep 10 false)) false b12 none _ h2) Try.func14 (by kernel_rfl) rfl (.cons rfl (.refl _) (.cons rfl (.refl _) .nil)) (by exact sm_) rfl rfl ?_
 rintro _ _ _ ⟨i4, rfl, rfl, rfl⟩
 simp only [List.nil_append, List.cons_append]
 refine mv_ ?_
 refine vp_ (pv_extract rfl rfl) ?_
 refine vp_ (pv_extract rfl rfl) ?_
 refine as_ ?_
 refine as_ ?_
 refine nt_ ?_
 refine xseq ?_
 refine sr_ ?_
 refine mv_ ?_
 refine vp_ (pv_nePt UndC.h rfl rfl) ?_
 refine nt_ ?_
 by_cases hp16 : ¬ ((List.isEmpty y3.2.1) = true)
 ·replace h := h.1 hp16
  refine xcondT' (not_t (b_f hp16)) rfl ?_
  refine xseq ?_
  refine xregionD (m := 12) (by kernel_rfl) rfl ?_
  obtain ⟨y21, tl22, h23, h⟩ := h
  refine xpcut 0 #[true, true, true, true, true, true, true, true, true, true, true, true] (fun σ => σ = ⟨[(2, .v (.pointer (some ⟨b2, 0, none⟩))), (3, .v (.int .i64 y21.1)), (4, .v (.int .i64 y21.2))], [⟨b2, 26, [.v (.slice none 0 0), .v (.int .i64 0)]⟩], []⟩) ?_ (fun key24 => ?_)
  ·rintro _ rfl
   refine xpdone (by kernel_rfl) ?_
   refine xthen ?_
   refine xretc ?_
   refine xthen_ret ?_
   replace h := h.symm
   subst h
   exact xretL (rs := [.cell 2 26, .tmp 3, .tmp 4]) (ss := [.agg [.sl 10 none (List.map E_palinode_api_Node (([] : List (Int × Int × Int × Int × Int × Int × (Arr 4 (UInt64)))))), .v (.int .i64 0)], .v (.int .i64 y21.1), .v (.int .i64 y21.2)]) hg rfl (by refine RetL.cell 0 ShpC.h rfl rfl rfl (Nat.le_of_ble_eq_true rfl) (.agg (.cons (.nil_pl _) (.cons (.refl _) .nil))) ?_; refine RetL.tmp rfl (.refl _) ?_; refine RetL.tmp rfl (.refl _) ?_; exact RetL.nil) (SubM.of (.nil _) (.nil _)) ⟨rfl, rfl, rfl⟩
  refine pl_ 0 rfl (pv_buildC StrC.h rfl rfl) ?_
  refine pl_ 1 rfl (pv_move rfl) ?_
  refine pl_ 2 rfl (pv_nilCheckPt (cs' := [.v (.int .i64 y21.1), .v (.int .i64 y21.2)]) (by rw [h23]; rfl) (by rw [h23]; rfl) rfl) ?_
  refine pl_ 3 rfl (qv_fieldAddrE FldC.h rfl) ?_
  refine pl_ 5 rfl (pv_move rfl) ?_
  refine pl_ 6 rfl (pv_nilCheckPt (cs' := [.v (.int .i64 y21.1), .v (.int .i64 y21.2)]) (by rw [h23]; rfl) (by rw [h23]; rfl) rfl) ?_
  refine pl_ 7 rfl (qv_fieldAddrE FldC.h rfl) ?_
  refine xpstepN (is := [4, 8, 9]) (by kernel_rfl) (by simp) ?_
  intro i hi; simp only [List.mem_cons, List.not_mem_nil, or_false] at hi; rcases hi with rfl | rfl | rfl
  ·refine ⟨_, rfl, ?_⟩
   refine wv_ (qv_load ShpC.h rfl rfl rfl) ?_
   refine xfl0 [⟨8, 28, .v (.int .i64 y21.2)⟩] 3 ?_
   refine xflstep 9 (by kernel_rfl) rfl (.cons rfl rfl rfl (fun _ => rfl) (fun _ => qv_load ShpC.h rfl rfl rfl) .nil) fun D l td hR => ?_
   refine wstore 1 ShpC.h rfl rfl rfl rfl rfl rfl rfl ?_
   refine xflgo0 hR ?_
   refine xflval 10 (by kernel_rfl) rfl (fun _ => pv_assign rfl) (fun _ => rfl) rfl (by kernel_rfl) (fun _ _ _ _ h => h) ?_
   refine xflend (l' := #[true, true, true, true, true, true, true, true, true, true, true, false]) (by kernel_rfl) (.cons rfl rfl rfl (fun _ => rfl) (fun _ => qv_load ShpC.h rfl rfl rfl) .nil) (by kernel_rfl) rfl (by kernel_rfl) (by kernel_rfl) ?_
   simp only [List.nil_append, List.cons_append, List.map_cons, List.map_nil]
   refine pl_ 11 rfl (pv_assign rfl) ?_
   exact xpuse key24 rfl ⟨lk_, (SubM.of (.drop (.keep rfl rfl (.refl _) (.nil _))) (.nil _))⟩ rfl (by kernel_rfl)
  ·refine ⟨_, rfl, ?_⟩
   refine wv_ (qv_load ShpC.h rfl rfl rfl) ?_
   refine xfl0 [⟨4, 24, .v (.int .i64 y21.1)⟩] 3 ?_
   refine xflstep 9 (by kernel_rfl) rfl (.cons rfl rfl rfl (fun _ => rfl) (fun _ => qv_load ShpC.h rfl rfl rfl) .nil) fun D l td hR => ?_
   refine wstore 1 ShpC.h rfl rfl rfl rfl rfl rfl rfl ?_
   refine xflgo0 hR ?_
   refine xflend (l' := #[true, true, true, true, true, true, true, true, true, true, false, false]) (by kernel_rfl) (.cons rfl rfl rfl (fun _ => rfl) (fun _ => qv_load ShpC.h rfl rfl rfl) .nil) (by kernel_rfl) rfl (by kernel_rfl) (by kernel_rfl) ?_
   simp only [List.nil_append, List.cons_append, List.map_cons, List.map_nil]
   refine pl_ 10 rfl (pv_assign rfl) ?_
   refine pl_ 11 rfl (pv_assign rfl) ?_
   exact xpuse key24 rfl ⟨lk_, (SubM.of (.drop (.keep rfl rfl (.refl _) (.nil _))) (.nil _))⟩ rfl (by kernel_rfl)
  ·refine ⟨_, rfl, ?_⟩
   refine wstore 1 ShpC.h rfl rfl rfl rfl rfl rfl rfl ?_
   refine xpvalE 4 [8] rfl (qv_load ShpC.h rfl rfl rfl) rfl rfl (by kernel_rfl) (by kernel_rfl) (by kernel_rfl) (fun _ _ _ _ h => h) ?_
   refine pl_ 10 rfl (pv_assign rfl) ?_
   refine xpvalE 8 [] rfl (qv_load ShpC.h rfl rfl rfl) rfl rfl (by kernel_rfl) (by kernel_rfl) (by kernel_rfl) (fun _ _ _ _ h => h) ?_
   refine pl_ 11 rfl (pv_assign rfl) ?_
   exact xpuse key24 rfl ⟨lk_, (SubM.of (.drop (.keep rfl rfl (.refl _) (.nil _))) (.nil _))⟩ rfl (by kernel_rfl)
 ·replace h := h.2 hp16
  refine xcondF' (not_f (Decidable.of_not_not hp16)) rfl ?_
  refine xskipc ?_
  refine xthen ?_
  refine sr_ ?_
  refine mv_ ?_
  refine vp_ (pv_nilCheck rfl) ?_
  refine vp_ (qv_fieldAddrB FldC.h rfl) ?_
  refine mv_ ?_
  obtain ⟨y26, h25, h⟩ := h
  refine xcallF (Fb := [⟨b2, 26, [.v (.slice none 0 0), .v (.int .i64 0)]⟩]) (Ft := []) (tree_Builder_Re_con ((y3.2.2.1.1, y3.2.2.1.2), y3.2.2.2.1, y3.2.2.2.2.1, y3.2.2.2.2.2) y3.1 b12 i4 _ h25) Try.func15 (by kernel_rfl) rfl (.cons rfl (.refl _) (.cons rfl (.refl _) .nil)) (by exact sm_) rfl rfl ?_
  rintro _ _ _ ⟨rfl, rfl, rfl⟩
  simp only [List.nil_append, List.cons_append]
  refine mv_ ?_
  refine vp_ (pv_extract rfl rfl) ?_
  refine vp_ (pv_extract rfl rfl) ?_
  refine xalloc InfC.h rfl rfl fun b8 => ?_
  refine xstore 0 ShpC.h rfl rfl rfl rfl rfl rfl rfl ?_
  refine as_ ?_
  refine nt_ ?_
  refine xseq ?_
  refine sr_ ?_
  refine mv_ ?_
  refine vp_ (pv_not rfl) ?_
  refine nt_ ?_
  by_cases hp28 : ¬ (y26.2 = true)
  ·replace h := h.1 hp28
   refine xcondT' (not_t (b_f hp28)) rfl ?_
   refine xseq ?_
   refine xregionD (m := 8) (by kernel_rfl) rfl ?_
   refine pl_ 0 rfl (pv_buildC StrC.h rfl rfl) ?_
   refine pl_ 1 rfl (pv_move rfl) ?_
   refine pl_ 2 rfl (pv_nilCheck rfl) ?_
   refine pl_ 3 rfl (qv_fieldAddrB FldC.h rfl) ?_
   refine xfl0 [⟨4, 43, .v (.int .i64 y3.2.2.2.2.1)⟩] 3 ?_
   refine xflstep 5 (by kernel_rfl) rfl (.cons rfl rfl rfl (fun _ => rfl) (fun _ => qv_loadB 1 ShpC.h rfl rfl rfl rfl) .nil) fun D l td hR => ?_
   refine wstore 2 ShpC.h rfl rfl rfl rfl rfl rfl rfl ?_
   refine xflgo0 hR ?_
   refine xflend (l' := #[true, true, true, true, true, true, false, false]) (by kernel_rfl) (.cons rfl rfl rfl (fun _ => rfl) (fun _ => qv_loadB 1 ShpC.h rfl rfl rfl rfl) .nil) (by kernel_rfl) rfl (by kernel_rfl) (by kernel_rfl) ?_
   simp only [List.nil_append, List.cons_append, List.map_cons, List.map_nil]
   refine pl_ 6 rfl (pv_assign rfl) ?_
   refine pl_ 7 rfl (pv_assign rfl) ?_
   refine xpdone (by kernel_rfl) ?_
   refine xthen ?_
   refine xretc ?_
   refine xthen_ret ?_
   replace h := h.symm
   subst h
   exact xretL (rs := [.cell 2 26, .tmp 3, .tmp 4]) (ss := [.agg [.sl 10 none (List.map E_palinode_api_Node (([] : List (Int × Int × Int × Int × Int × Int × (Arr 4 (UInt64)))))), .v (.int .i64 0)], .v (.int .i64 y3.2.2.2.2.1), .v (.int .i64 8)]) hg rfl (by refine RetL.cell 2 ShpC.h rfl rfl rfl (Nat.le_of_ble_eq_true rfl) (.agg (.cons (.nil_pl _) (.cons (.refl _) .nil))) ?_; refine RetL.tmp rfl (.refl _) ?_; refine RetL.tmp rfl (.refl _) ?_; exact RetL.nil) (SubM.of (.nil _) (.nil _)) ⟨rfl, rfl, rfl⟩
  ·replace h := h.2 hp28
   refine xcondF' (not_f (Decidable.of_not_not hp28)) rfl ?_
   refine xskipc ?_
   refine xthen ?_
   refine sr_ ?_
   refine v_ (qv_loadB 0 ShpC.h rfl rfl rfl rfl) ?_
   refine xstore 2 ShpC.h rfl rfl rfl rfl rfl rfl rfl ?_
   refine as_ ?_
   refine as_ ?_
   refine nt_ ?_
   refine xretc ?_
   replace h := h.symm
   subst h
   exact xretL (rs := [.cell 2 26, .tmp 3, .tmp 4]) (ss := [.agg [.sl 10 none (List.map E_palinode_api_Node y26.1.1), .v (.int .i64 y26.1.2)], .v (.int .i64 0), .v (.int .i64 0)]) hg rfl (by refine RetL.cell 2 ShpC.h rfl rfl rfl (Nat.le_of_ble_eq_true rfl) (.refl _) ?_; refine RetL.tmp rfl (.refl _) ?_; refine RetL.tmp rfl (.refl _) ?_; exact RetL.nil) (SubM.of (.nil _) (.nil _)) ⟨rfl, rfl, rfl⟩
end Go.Proofs.Ytpddiffpanihdaa
