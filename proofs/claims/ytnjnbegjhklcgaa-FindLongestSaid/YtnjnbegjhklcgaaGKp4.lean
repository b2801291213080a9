
/- What functions' texts ask for, and the walks that show it (printed by a program). -/
import Derived.Test.YtnjnbegjhklcgaaGKp3
namespace Go.Proofs.Ytnjnbegjhklcgaa
/-- tree.Right -/
def tree_Right_l3 (y1213 : (List Int)) (y1162 : Int × Int × Int × Int × Int × Int × (Arr 4 (UInt64))) (f856 : Arr 10 (Int)) (x854 : Int) (ag2 : (Int × (List Int) × (Arr 10 (Int))) → Prop) (ag3 : (Int × (List Int)) → Prop) (x1228 : Int) (l1229 : List Int) (r : Bool) : Prop :=
 ((x1228 < (y1213.length : Int) → 0 ≤ (x1228 : Int) ∧ ∃ y1245 : Int, y1213[(x1228 : Int).toNat]? = some y1245 ∧ 0 ≤ (y1245 : Int) ∧ ∃ y1247 : Int, l1229[(y1245 : Int).toNat]? = some y1247 ∧ InR (y1247 + 1) ∧ 0 ≤ (y1245 : Int) ∧ ∃ y1250 : Int, l1229[(y1245 : Int).toNat]? = some y1250 ∧ InR (x1228 + 1) ∧ ag3 ((x1228 + 1), (l1229.set (y1245 : Int).toNat (y1247 + 1)))) ∧ (¬ (x1228 < (y1213.length : Int)) → ((y1162.1 = 5 → (0 ≤ (y1162.2.2.2.2.2.1 : Int) ∧ (y1162.2.2.2.2.2.1 : Int) < 10) ∧ ∃ y1257 : Int, f856.l[(y1162.2.2.2.2.2.1 : Int).toNat]? = some y1257 ∧ InR (y1257 + 1) ∧ (0 ≤ (y1162.2.2.2.2.2.1 : Int) ∧ (y1162.2.2.2.2.2.1 : Int) < 10) ∧ ∃ y1260 : Int, f856.l[(y1162.2.2.2.2.2.1 : Int).toNat]? = some y1260 ∧ InR (x854 + 1) ∧ ag2 ((x854 + 1), l1229, (Arr.set f856 (y1162.2.2.2.2.2.1 : Int).toNat ((y1257 + 1))))) ∧ (¬ (y1162.1 = 5) → InR (x854 + 1) ∧ ag2 ((x854 + 1), l1229, f856)))))
def tree_Right_l5 (x1 : (List (Int × Int × Int × Int × Int × Int × (Arr 4 (UInt64)))) × Int) (f856 : Arr 10 (Int)) (ag5 : (Int) → Prop) (x1398 : Int) (r : Bool) : Prop :=
 ((x1398 < ((((x1.2 + 1) : Int).toNat - (1 : Int).toNat : Nat) : Int) → (0 ≤ (x1398 : Int) ∧ (x1398 : Int) < ((((x1.2 + 1) : Int).toNat - (1 : Int).toNat : Nat) : Int)) ∧ ∃ y1418 : Int, f856.l[((((1 : Int).toNat + (x1398 : Int).toNat : Nat) : Int) : Int).toNat]? = some y1418 ∧ ((¬ (y1418 = 1) → r = false) ∧ (¬ (¬ (y1418 = 1)) → InR (x1398 + 1) ∧ ag5 (x1398 + 1)))) ∧ (¬ (x1398 < ((((x1.2 + 1) : Int).toNat - (1 : Int).toNat : Nat) : Int)) → r = true))
def tree_Right_l4 (l855 : List Int) (x1 : (List (Int × Int × Int × Int × Int × Int × (Arr 4 (UInt64)))) × Int) (f856 : Arr 10 (Int)) (ag4 : (Int) → Prop) (x1318 : Int) (r : Bool) : Prop :=
 ((x1318 < (((l855.take (((x1.1.length : Int) - 1) : Int).toNat).length : Nat) : Int) → 0 ≤ (x1318 : Int) ∧ ∃ y1338 : Int, ((l855.take (((x1.1.length : Int) - 1) : Int).toNat))[(x1318 : Int).toNat]? = some y1338 ∧ ((¬ (y1338 = 1) → r = false) ∧ (¬ (¬ (y1338 = 1)) → InR (x1318 + 1) ∧ ag4 (x1318 + 1)))) ∧ (¬ (x1318 < (((l855.take (((x1.1.length : Int) - 1) : Int).toNat).length : Nat) : Int)) → InR (x1.2 + 1) ∧ (0 : Int) ≤ 1 ∧ (0 : Int) ≤ (x1.2 + 1) ∧ ((1 : Int).toNat ≤ ((x1.2 + 1) : Int).toNat ∧ ((x1.2 + 1) : Int).toNat ≤ 10 ∧ (1 : Int).toNat < 10) ∧ LoopR (fun ag5 s => tree_Right_l5 x1 f856 ag5 s r) 0))
def tree_Right_l2 (x1 : (List (Int × Int × Int × Int × Int × Int × (Arr 4 (UInt64)))) × Int) (ag2 : (Int × (List Int) × (Arr 10 (Int))) → Prop) (x854 : Int) (l855 : List Int) (f856 : Arr 10 (Int)) (r : Bool) : Prop :=
 ((x854 < (x1.1.length : Int) → 0 ≤ (x854 : Int) ∧ ∃ y1162 : Int × Int × Int × Int × Int × Int × (Arr 4 (UInt64)), x1.1[(x854 : Int).toNat]? = some y1162 ∧ ∃ y1168 : Bool, tree_isNode_R y1162 x854 x1.2 y1168 ∧ ((¬ (y1168 = true) → r = false) ∧ (¬ (¬ (y1168 = true)) → ∃ y1213 : (List Int), tree_parts_R y1162 y1213 ∧ LoopR (fun ag3 s => tree_Right_l3 y1213 y1162 f856 x854 ag2 ag3 s.1 s.2 r) (0, l855)))) ∧ (¬ (x854 < (x1.1.length : Int)) → InR ((x1.1.length : Int) - 1) ∧ (0 ≤ (((x1.1.length : Int) - 1) : Int) ∧ (((x1.1.length : Int) - 1) : Int) ≤ ((l855.length : Nat) : Int)) ∧ LoopR (fun ag4 s => tree_Right_l4 l855 x1 f856 ag4 s r) 0))
def tree_Right_j1 (x1 : (List (Int × Int × Int × Int × Int × Int × (Arr 4 (UInt64)))) × Int) (x26 : Bool) (r : Bool) : Prop :=
 ((x26 = true → r = false) ∧ (¬ (x26 = true) → MakeOk ((x1.1.length : Int)) ((x1.1.length : Int)) 8 ∧ LoopR (fun ag2 s => tree_Right_l2 x1 ag2 s.1 s.2.1 s.2.2 r) (0, (List.replicate ((x1.1.length : Int) : Int).toNat 0), (Arr.rep 10 0))))
def tree_Right_R (x1 : (List (Int × Int × Int × Int × Int × Int × (Arr 4 (UInt64)))) × Int) (r : Bool) : Prop :=
 tree_Right_j1 x1 ((decide ((x1.1.length : Int) < 1)) || ((decide (1000 < (x1.1.length : Int))) || ((decide (x1.2 < 0)) || (decide (9 < x1.2))))) r
def tree_Right_l3_ev (fuel : Nat) (y1213 : (List Int)) (y1162 : Int × Int × Int × Int × Int × Int × (Arr 4 (UInt64))) (f856 : Arr 10 (Int)) (x854 : Int) (ag2e : (Int × (List Int) × (Arr 10 (Int))) → Option (Bool)) (ag3e : (Int × (List Int)) → Option (Bool)) (x1228 : Int) (l1229 : List Int) : Option (Bool) :=
 (if x1228 < (y1213.length : Int) then (if 0 ≤ (x1228 : Int) then ((y1213[(x1228 : Int).toNat]?).bind fun y1245 => (if 0 ≤ (y1245 : Int) then ((l1229[(y1245 : Int).toNat]?).bind fun y1247 => (if InR (y1247 + 1) then (if 0 ≤ (y1245 : Int) then ((l1229[(y1245 : Int).toNat]?).bind fun y1250 => (if InR (x1228 + 1) then ag3e ((x1228 + 1), (l1229.set (y1245 : Int).toNat (y1247 + 1))) else none)) else none) else none)) else none)) else none) else (if y1162.1 = 5 then (if (0 ≤ (y1162.2.2.2.2.2.1 : Int) ∧ (y1162.2.2.2.2.2.1 : Int) < 10) then ((f856.l[(y1162.2.2.2.2.2.1 : Int).toNat]?).bind fun y1257 => (if InR (y1257 + 1) then (if (0 ≤ (y1162.2.2.2.2.2.1 : Int) ∧ (y1162.2.2.2.2.2.1 : Int) < 10) then ((f856.l[(y1162.2.2.2.2.2.1 : Int).toNat]?).bind fun y1260 => (if InR (x854 + 1) then ag2e ((x854 + 1), l1229, (Arr.set f856 (y1162.2.2.2.2.2.1 : Int).toNat ((y1257 + 1)))) else none)) else none) else none)) else none) else (if InR (x854 + 1) then ag2e ((x854 + 1), l1229, f856) else none)))
theorem tree_Right_l3_ok {fuel : Nat} {y1213 : (List Int)} {y1162 : Int × Int × Int × Int × Int × Int × (Arr 4 (UInt64))} {f856 : Arr 10 (Int)} {x854 : Int} {ag2 : (Int × (List Int) × (Arr 10 (Int))) → Prop} {ag2e : (Int × (List Int) × (Arr 10 (Int))) → Option (Bool)} {ag3e : (Int × (List Int)) → Option (Bool)} {ag3 : (Int × (List Int)) → Prop} {x1228 : Int} {l1229 : List Int} {r : Bool} (hagag2 : ∀ s, ag2e s = some r → ag2 s) (hagag3 : ∀ s, ag3e s = some r → ag3 s) (h : tree_Right_l3_ev fuel y1213 y1162 f856 x854 ag2e ag3e x1228 l1229 = some r) : tree_Right_l3 y1213 y1162 f856 x854 ag2 ag3 x1228 l1229 r := by
 unfold tree_Right_l3_ev at h
 unfold tree_Right_l3
 refine ⟨fun g86 => ?_, fun g86 => ?_⟩
 ·rw [if_pos g86] at h
  obtain ⟨g87, h⟩ := if_ok h
  refine ⟨g87, ?_⟩
  obtain ⟨q88, g88, h⟩ := bind_ok h
  refine ⟨q88, g88, ?_⟩
  obtain ⟨g89, h⟩ := if_ok h
  refine ⟨g89, ?_⟩
  obtain ⟨q90, g90, h⟩ := bind_ok h
  refine ⟨q90, g90, ?_⟩
  obtain ⟨g91, h⟩ := if_ok h
  refine ⟨g91, ?_⟩
  obtain ⟨g92, h⟩ := if_ok h
  refine ⟨g92, ?_⟩
  obtain ⟨q93, g93, h⟩ := bind_ok h
  refine ⟨q93, g93, ?_⟩
  obtain ⟨g94, h⟩ := if_ok h
  refine ⟨g94, ?_⟩
  exact hagag3 _ h
 ·rw [if_neg g86] at h
  refine ⟨fun g95 => ?_, fun g95 => ?_⟩
  ·rw [if_pos g95] at h
   obtain ⟨g96, h⟩ := if_ok h
   refine ⟨g96, ?_⟩
   obtain ⟨q97, g97, h⟩ := bind_ok h
   refine ⟨q97, g97, ?_⟩
   obtain ⟨g98, h⟩ := if_ok h
   refine ⟨g98, ?_⟩
   obtain ⟨g99, h⟩ := if_ok h
   refine ⟨g99, ?_⟩
   obtain ⟨q100, g100, h⟩ := bind_ok h
   refine ⟨q100, g100, ?_⟩
   obtain ⟨g101, h⟩ := if_ok h
   refine ⟨g101, ?_⟩
   exact hagag2 _ h
  ·rw [if_neg g95] at h
   obtain ⟨g102, h⟩ := if_ok h
   refine ⟨g102, ?_⟩
   exact hagag2 _ h
def tree_Right_l5_ev (fuel : Nat) (x1 : (List (Int × Int × Int × Int × Int × Int × (Arr 4 (UInt64)))) × Int) (f856 : Arr 10 (Int)) (ag5e : (Int) → Option (Bool)) (x1398 : Int) : Option (Bool) :=
 (if x1398 < ((((x1.2 + 1) : Int).toNat - (1 : Int).toNat : Nat) : Int) then (if (0 ≤ (x1398 : Int) ∧ (x1398 : Int) < ((((x1.2 + 1) : Int).toNat - (1 : Int).toNat : Nat) : Int)) then ((f856.l[((((1 : Int).toNat + (x1398 : Int).toNat : Nat) : Int) : Int).toNat]?).bind fun y1418 => (if ¬ (y1418 = 1) then some false else (if InR (x1398 + 1) then ag5e (x1398 + 1) else none))) else none) else some true)
theorem tree_Right_l5_ok {fuel : Nat} {x1 : (List (Int × Int × Int × Int × Int × Int × (Arr 4 (UInt64)))) × Int} {f856 : Arr 10 (Int)} {ag5e : (Int) → Option (Bool)} {ag5 : (Int) → Prop} {x1398 : Int} {r : Bool} (hagag5 : ∀ s, ag5e s = some r → ag5 s) (h : tree_Right_l5_ev fuel x1 f856 ag5e x1398 = some r) : tree_Right_l5 x1 f856 ag5 x1398 r := by
 unfold tree_Right_l5_ev at h
 unfold tree_Right_l5
 refine ⟨fun g103 => ?_, fun g103 => ?_⟩
 ·rw [if_pos g103] at h
  obtain ⟨g104, h⟩ := if_ok h
  refine ⟨g104, ?_⟩
  obtain ⟨q105, g105, h⟩ := bind_ok h
  refine ⟨q105, g105, ?_⟩
  refine ⟨fun g106 => ?_, fun g106 => ?_⟩
  ·rw [if_pos g106] at h
   exact (Option.some.inj h).symm
  ·rw [if_neg g106] at h
   obtain ⟨g107, h⟩ := if_ok h
   refine ⟨g107, ?_⟩
   exact hagag5 _ h
 ·rw [if_neg g103] at h
  exact (Option.some.inj h).symm
def tree_Right_l4_ev (fuel : Nat) (l855 : List Int) (x1 : (List (Int × Int × Int × Int × Int × Int × (Arr 4 (UInt64)))) × Int) (f856 : Arr 10 (Int)) (ag4e : (Int) → Option (Bool)) (x1318 : Int) : Option (Bool) :=
 (if x1318 < (((l855.take (((x1.1.length : Int) - 1) : Int).toNat).length : Nat) : Int) then (if 0 ≤ (x1318 : Int) then ((((l855.take (((x1.1.length : Int) - 1) : Int).toNat))[(x1318 : Int).toNat]?).bind fun y1338 => (if ¬ (y1338 = 1) then some false else (if InR (x1318 + 1) then ag4e (x1318 + 1) else none))) else none) else (if InR (x1.2 + 1) then (if (0 : Int) ≤ 1 then (if (0 : Int) ≤ (x1.2 + 1) then (if ((1 : Int).toNat ≤ ((x1.2 + 1) : Int).toNat ∧ ((x1.2 + 1) : Int).toNat ≤ 10 ∧ (1 : Int).toNat < 10) then (loopE (fun ag5e s => tree_Right_l5_ev fuel x1 f856 ag5e s) fuel 0) else none) else none) else none) else none))
theorem tree_Right_l4_ok {fuel : Nat} {l855 : List Int} {x1 : (List (Int × Int × Int × Int × Int × Int × (Arr 4 (UInt64)))) × Int} {f856 : Arr 10 (Int)} {ag4e : (Int) → Option (Bool)} {ag4 : (Int) → Prop} {x1318 : Int} {r : Bool} (hagag4 : ∀ s, ag4e s = some r → ag4 s) (h : tree_Right_l4_ev fuel l855 x1 f856 ag4e x1318 = some r) : tree_Right_l4 l855 x1 f856 ag4 x1318 r := by
 unfold tree_Right_l4_ev at h
 unfold tree_Right_l4
 refine ⟨fun g108 => ?_, fun g108 => ?_⟩
 ·rw [if_pos g108] at h
  obtain ⟨g109, h⟩ := if_ok h
  refine ⟨g109, ?_⟩
  obtain ⟨q110, g110, h⟩ := bind_ok h
  refine ⟨q110, g110, ?_⟩
  refine ⟨fun g111 => ?_, fun g111 => ?_⟩
  ·rw [if_pos g111] at h
   exact (Option.some.inj h).symm
  ·rw [if_neg g111] at h
   obtain ⟨g112, h⟩ := if_ok h
   refine ⟨g112, ?_⟩
   exact hagag4 _ h
 ·rw [if_neg g108] at h
  obtain ⟨g113, h⟩ := if_ok h
  refine ⟨g113, ?_⟩
  obtain ⟨g114, h⟩ := if_ok h
  refine ⟨g114, ?_⟩
  obtain ⟨g115, h⟩ := if_ok h
  refine ⟨g115, ?_⟩
  obtain ⟨g116, h⟩ := if_ok h
  refine ⟨g116, ?_⟩
  refine loopE_ok ?_ h
  intro ae ag s hag h
  exact tree_Right_l5_ok hag h
def tree_Right_l2_ev (fuel : Nat) (x1 : (List (Int × Int × Int × Int × Int × Int × (Arr 4 (UInt64)))) × Int) (ag2e : (Int × (List Int) × (Arr 10 (Int))) → Option (Bool)) (x854 : Int) (l855 : List Int) (f856 : Arr 10 (Int)) : Option (Bool) :=
 (if x854 < (x1.1.length : Int) then (if 0 ≤ (x854 : Int) then ((x1.1[(x854 : Int).toNat]?).bind fun y1162 => ((tree_isNode_ev fuel y1162 x854 x1.2).bind fun y1168 => (if ¬ (y1168 = true) then some false else ((tree_parts_ev fuel y1162).bind fun y1213 => (loopE (fun ag3e s => tree_Right_l3_ev fuel y1213 y1162 f856 x854 ag2e ag3e s.1 s.2) fuel (0, l855)))))) else none) else (if InR ((x1.1.length : Int) - 1) then (if (0 ≤ (((x1.1.length : Int) - 1) : Int) ∧ (((x1.1.length : Int) - 1) : Int) ≤ ((l855.length : Nat) : Int)) then (loopE (fun ag4e s => tree_Right_l4_ev fuel l855 x1 f856 ag4e s) fuel 0) else none) else none))
theorem tree_Right_l2_ok {fuel : Nat} {x1 : (List (Int × Int × Int × Int × Int × Int × (Arr 4 (UInt64)))) × Int} {ag2e : (Int × (List Int) × (Arr 10 (Int))) → Option (Bool)} {ag2 : (Int × (List Int) × (Arr 10 (Int))) → Prop} {x854 : Int} {l855 : List Int} {f856 : Arr 10 (Int)} {r : Bool} (hagag2 : ∀ s, ag2e s = some r → ag2 s) (h : tree_Right_l2_ev fuel x1 ag2e x854 l855 f856 = some r) : tree_Right_l2 x1 ag2 x854 l855 f856 r := by
 unfold tree_Right_l2_ev at h
 unfold tree_Right_l2
 refine ⟨fun g117 => ?_, fun g117 => ?_⟩
 ·rw [if_pos g117] at h
  obtain ⟨g118, h⟩ := if_ok h
  refine ⟨g118, ?_⟩
  obtain ⟨q119, g119, h⟩ := bind_ok h
  refine ⟨q119, g119, ?_⟩
  obtain ⟨q120, g120, h⟩ := bind_ok h
  refine ⟨q120, tree_isNode_ok g120, ?_⟩
  refine ⟨fun g121 => ?_, fun g121 => ?_⟩
  ·rw [if_pos g121] at h
   exact (Option.some.inj h).symm
  ·rw [if_neg g121] at h
   obtain ⟨q122, g122, h⟩ := bind_ok h
   refine ⟨q122, tree_parts_ok g122, ?_⟩
   refine loopE_ok ?_ h
   intro ae ag s hag h
   exact tree_Right_l3_ok hagag2 hag h
 ·rw [if_neg g117] at h
  obtain ⟨g123, h⟩ := if_ok h
  refine ⟨g123, ?_⟩
  obtain ⟨g124, h⟩ := if_ok h
  refine ⟨g124, ?_⟩
  refine loopE_ok ?_ h
  intro ae ag s hag h
  exact tree_Right_l4_ok hag h
def tree_Right_j1_ev (fuel : Nat) (x1 : (List (Int × Int × Int × Int × Int × Int × (Arr 4 (UInt64)))) × Int) (x26 : Bool) : Option (Bool) :=
 (if x26 = true then some false else (if MakeOk ((x1.1.length : Int)) ((x1.1.length : Int)) 8 then (loopE (fun ag2e s => tree_Right_l2_ev fuel x1 ag2e s.1 s.2.1 s.2.2) fuel (0, (List.replicate ((x1.1.length : Int) : Int).toNat 0), (Arr.rep 10 0))) else none))
theorem tree_Right_j1_ok {fuel : Nat} {x1 : (List (Int × Int × Int × Int × Int × Int × (Arr 4 (UInt64)))) × Int} {x26 : Bool} {r : Bool} (h : tree_Right_j1_ev fuel x1 x26 = some r) : tree_Right_j1 x1 x26 r := by
 unfold tree_Right_j1_ev at h
 unfold tree_Right_j1
 refine ⟨fun g125 => ?_, fun g125 => ?_⟩
 ·rw [if_pos g125] at h
  exact (Option.some.inj h).symm
 ·rw [if_neg g125] at h
  obtain ⟨g126, h⟩ := if_ok h
  refine ⟨g126, ?_⟩
  refine loopE_ok ?_ h
  intro ae ag s hag h
  exact tree_Right_l2_ok hag h
def tree_Right_ev (fuel : Nat) (x1 : (List (Int × Int × Int × Int × Int × Int × (Arr 4 (UInt64)))) × Int) : Option (Bool) :=
 tree_Right_j1_ev fuel x1 ((decide ((x1.1.length : Int) < 1)) || ((decide (1000 < (x1.1.length : Int))) || ((decide (x1.2 < 0)) || (decide (9 < x1.2)))))
theorem tree_Right_ok {fuel : Nat} {x1 : (List (Int × Int × Int × Int × Int × Int × (Arr 4 (UInt64)))) × Int} {r : Bool} (h : tree_Right_ev fuel x1 = some r) : tree_Right_R x1 r := by
 unfold tree_Right_ev at h
 unfold tree_Right_R
 exact tree_Right_j1_ok h
set_option maxRecDepth 100000 in
set_option maxHeartbeats 4000000 in
theorem tree_Right_con (x1 : (List (Int × Int × Int × Int × Int × Int × (Arr 4 (UInt64)))) × Int) (r : Bool) (h : tree_Right_R x1 r) : Con Try.prog 21 [.agg [.sl 10 none (List.map E_palinode_api_Node x1.1), .v (.int .i64 x1.2)]] [] [] (Ret (.v (.bool r))) := by
 refine xenter Try.func21 rfl rfl fun g hg => ?_
 simp only [Try.ntmps21, slots]
 unfold tree_Right_R at h
 refine sr_ ?_
 refine xbox rfl rfl rfl rfl fun b1 => ?_
 refine as_ ?_
 refine nt_ ?_
 refine sr_ ?_
 refine vp_ (qv_fieldAddrB FldC.h rfl) ?_
 refine v_ (qv_loadB 0 ShpC.h rfl rfl rfl rfl) ?_
 refine vp_ (pv_lenM UndC.h rfl) ?_
 refine as_ ?_
 refine nt_ ?_
 refine xseq ?_
 refine xseqM (fun σ => ∃ (x26 : Bool), tree_Right_j1 x1 x26 r ∧ σ = ⟨[(1, .v (.pointer (some ⟨b1, 0, none⟩))), (3, .v (.int .i64 ((x1.1.length : Int)))), (32, .v (.bool x26))], [⟨b1, 24, [.sl 10 none (List.map E_palinode_api_Node x1.1), .v (.int .i64 x1.2)]⟩], []⟩) ?_ ?_
 ·refine xregion ?_
  refine mv_ ?_
  refine vp_ (pv_bin2 rfl rfl rfl) ?_
  refine mv_ ?_
  by_cases hp28 : (x1.1.length : Int) < 1
  ·rw [or_tt (show (decide ((x1.1.length : Int) < 1)) = true from (decide_eq_true hp28))] at h
   refine xsetB 19 (decide_eq_true hp28) rfl ?_
   refine sk_ ?_
   refine sk_ ?_
   refine pk_ ?_
   refine mv_ ?_
   refine sk_ ?_
   refine sk_ ?_
   refine sk_ ?_
   refine pk_ ?_
   refine mv_ ?_
   refine sk_ ?_
   refine sk_ ?_
   refine sk_ ?_
   refine pk_ ?_
   refine xnil ?_
   exact xmeet ⟨true, h, rfl⟩ ⟨lk_, (SubM.of (.keep rfl rfl (.refl _) (.nil _)) (.nil _))⟩
  ·rw [or_ff (show (decide ((x1.1.length : Int) < 1)) = false from (decide_eq_false hp28))] at h
   refine xsetB 19 (decide_eq_false hp28) rfl ?_
   refine mv_ ?_
   refine vp_ (pv_bin2 rfl rfl rfl) ?_
   refine pk_ ?_
   refine mv_ ?_
   by_cases hp30 : 1000 < (x1.1.length : Int)
   ·rw [or_tt (show (decide (1000 < (x1.1.length : Int))) = true from (decide_eq_true hp30))] at h
    refine xsetB 23 (decide_eq_true hp30) rfl ?_
    refine sk_ ?_
    refine sk_ ?_
    refine sk_ ?_
    refine pk_ ?_
    refine mv_ ?_
    refine sk_ ?_
    refine sk_ ?_
    refine sk_ ?_
    refine pk_ ?_
    refine xnil ?_
    exact xmeet ⟨true, h, rfl⟩ ⟨lk_, (SubM.of (.keep rfl rfl (.refl _) (.nil _)) (.nil _))⟩
   ·rw [or_ff (show (decide (1000 < (x1.1.length : Int))) = false from (decide_eq_false hp30))] at h
    refine xsetB 23 (decide_eq_false hp30) rfl ?_
    refine vp_ (qv_fieldAddrB FldC.h rfl) ?_
    refine v_ (qv_loadB 0 ShpC.h rfl rfl rfl rfl) ?_
    refine vp_ (pv_bin2 rfl rfl rfl) ?_
    refine pk_ ?_
    refine mv_ ?_
    by_cases hp32 : x1.2 < 0
    ·rw [or_tt (show (decide (x1.2 < 0)) = true from (decide_eq_true hp32))] at h
     refine xsetB 28 (decide_eq_true hp32) rfl ?_
     refine sk_ ?_
     refine sk_ ?_
     refine sk_ ?_
     refine pk_ ?_
     refine xnil ?_
     exact xmeet ⟨true, h, rfl⟩ ⟨lk_, (SubM.of (.keep rfl rfl (.refl _) (.nil _)) (.nil _))⟩
    ·rw [or_ff (show (decide (x1.2 < 0)) = false from (decide_eq_false hp32))] at h
     refine xsetB 28 (decide_eq_false hp32) rfl ?_
     refine vp_ (qv_fieldAddrB FldC.h rfl) ?_
     refine v_ (qv_loadB 0 ShpC.h rfl rfl rfl rfl) ?_
     refine vp_ (pv_bin2 rfl rfl rfl) ?_
     refine pk_ ?_
     refine xnil ?_
     exact xmeet ⟨(decide (9 < x1.2)), h, rfl⟩ ⟨lk_, (SubM.of (.keep rfl rfl (.refl _) (.nil _)) (.nil _))⟩
 ·clear h
  rintro _ ⟨x26, h, rfl⟩
  by_cases hp34 : x26 = true
  ·replace h := h.1 hp34
   refine xcondT' hp34 rfl ?_
   refine sr_ ?_
   refine as_ ?_
   refine nt_ ?_
   refine xretc ?_
   refine xthen_ret ?_
   replace h := h.symm
   subst h
   exact xret1 hg rfl rfl (.refl _) (SubM.of (.nil _) (.nil _)) ⟨rfl, rfl, rfl⟩
  ·replace h := h.2 hp34
   refine xcondF' (b_f hp34) rfl ?_
   refine xskipc ?_
   refine xthen ?_
   refine sr_ ?_
   refine mv_ ?_
   obtain ⟨h35, h⟩ := h
   refine xmakeRb (f := ei) 0 h35 UndC.h InfC.h (.refl _) rfl rfl rfl rfl fun i36 => ?_
   refine as_ ?_
   refine nt_ ?_
   refine sr_ ?_
   refine xalloc InfC.h rfl rfl fun b5 => ?_
   refine xreb 0 ((List.map ei ((Arr.rep 10 0)).l).flatten) rfl rfl ?_
   refine nt_ ?_
   refine xseq ?_
   refine sr_ ?_
   refine vp_ (qv_fieldAddrB FldC.h rfl) ?_
   refine v_ (qv_loadB 2 ShpC.h rfl rfl rfl rfl) ?_
   refine vp_ (pv_lenM UndC.h rfl) ?_
   refine mv_ ?_
   refine nt_ ?_
   refine xblock ?_
   obtain ⟨Inv, ⟨m0, hI⟩, hS⟩ := h
   refine xloop (fun σ m => ∃ (x854 : Int), ∃ (l855 : List Int), ∃ (f856 : Arr 10 (Int)), Inv (x854, l855, f856) m ∧ σ = ⟨[(1, .v (.pointer (some ⟨b1, 0, none⟩))), (3, .v (.int .i64 ((x1.1.length : Int)))), (4, .rb i36 l855.length), (5, .v (.pointer (some ⟨b5, 0, none⟩))), (36, .sl 10 none (List.map E_palinode_api_Node x1.1)), (37, .v (.int .i64 ((x1.1.length : Int)))), (38, .v (.int .i64 x854))], [⟨b5, 69, ((List.map ei f856.l).flatten)⟩, rbx i36 3 1 (List.map ei l855), ⟨b1, 24, [.sl 10 none (List.map E_palinode_api_Node x1.1), .v (.int .i64 x1.2)]⟩], []⟩) ⟨0, (List.replicate ((x1.1.length : Int) : Int).toNat 0), (Arr.rep 10 0), hI, rfl⟩ (by exact ⟨(.cons rfl (.refl _) (.cons rfl (.refl _) (.cons rfl (.eq (by first | rfl | simp)) lk_))), by exact (SubM.of (.keep rfl rfl (.refl _) (.keep rfl rfl (.refl _) (.keep rfl rfl (.refl _) (.nil _)))) (.nil _))⟩) ?_
   rintro _ m ⟨x854, l855, f856, hI, rfl⟩
   obtain ⟨ag2, hag2, h⟩ : ∃ ag, (∀ s', ag s' → ∃ m', m' < m ∧ Inv s' m') ∧ tree_Right_l2 x1 ag x854 l855 f856 r := ⟨_, fun _ h => h, hS (x854, l855, f856) _ hI⟩
   clear hS hI
   refine sr_ ?_
   refine vp_ (pv_bin2 rfl rfl rfl) ?_
   refine nt_ ?_
   refine xseq ?_
   by_cases hp1062 : x854 < (x1.1.length : Int)
   ·replace h := h.1 hp1062
    refine xcondT' (decide_eq_true hp1062) rfl ?_
    refine xskipc ?_
    refine xthen ?_
    refine xseq ?_
    refine xblock ?_
    refine sr_ ?_
    refine mv_ ?_
    obtain ⟨h1163a, h⟩ := h
    obtain ⟨y1162, h1163b, h⟩ := h
    refine vp_ (pv_indexAddrM h1163a h1163b UndC.h ShpC.h rfl rfl) ?_
    refine v_ (qv_loadEP ([.v (.int .i64 y1162.1), .v (.int .i64 y1162.2.1), .v (.int .i64 y1162.2.2.1), .v (.int .i64 y1162.2.2.2.1), .v (.int .i64 y1162.2.2.2.2.1), .v (.int .i64 y1162.2.2.2.2.2.1)] ++ (List.map ew y1162.2.2.2.2.2.2.l).flatten) [] sq_ sl_ (part_all sl_) ShpC.h rfl) ?_
    refine xalloc InfC.h rfl rfl fun b7 => ?_
    refine xreb 0 ([.v (.int .i64 0), .v (.int .i64 0), .v (.int .i64 0), .v (.int .i64 0), .v (.int .i64 0), .v (.int .i64 0)] ++ (List.map ew ((Arr.rep 4 (0 : UInt64))).l).flatten) rfl rfl ?_
    refine as_ ?_
    refine xstoreQ 0 [] ([.v (.int .i64 0), .v (.int .i64 0), .v (.int .i64 0), .v (.int .i64 0), .v (.int .i64 0), .v (.int .i64 0)] ++ (List.map ew ((Arr.rep 4 (0 : UInt64))).l).flatten) [] ([.v (.int .i64 y1162.1), .v (.int .i64 y1162.2.1), .v (.int .i64 y1162.2.2.1), .v (.int .i64 y1162.2.2.2.1), .v (.int .i64 y1162.2.2.2.2.1), .v (.int .i64 y1162.2.2.2.2.2.1)] ++ (List.map ew y1162.2.2.2.2.2.2.l).flatten) ShpC.h rfl rfl rfl rfl rfl ?_
    refine nt_ ?_
    refine xseq ?_
    refine sr_ ?_
    refine v_ (qv_loadP 0 [] ([.v (.int .i64 y1162.1), .v (.int .i64 y1162.2.1), .v (.int .i64 y1162.2.2.1), .v (.int .i64 y1162.2.2.2.1), .v (.int .i64 y1162.2.2.2.2.1), .v (.int .i64 y1162.2.2.2.2.2.1)] ++ (List.map ew y1162.2.2.2.2.2.2.l).flatten) [] sq_ sl_ sl_ (part_all sl_) ShpC.h rfl rfl) ?_
    refine mv_ ?_
    refine vp_ (qv_fieldAddrB FldC.h rfl) ?_
    refine v_ (qv_loadB 3 ShpC.h rfl rfl rfl rfl) ?_
    obtain ⟨y1168, h1167, h⟩ := h
    refine xcall0 (tree_isNode_con y1162 x854 x1.2 _ h1167) Try.func24 (by kernel_rfl) rfl (.cons rfl (.refl _) (.cons rfl (.refl _) (.cons rfl (.refl _) .nil))) rfl rfl ?_
    refine vp_ (pv_not rfl) ?_
    refine nt_ ?_
    by_cases hp1169 : ¬ (y1168 = true)
    ·replace h := h.1 hp1169
     refine xcondT' (not_t (b_f hp1169)) rfl ?_
     refine sr_ ?_
     refine as_ ?_
     refine nt_ ?_
     refine xretc ?_
     refine xthen_ret ?_
     refine xin_ret ?_
     refine xthen_ret ?_
     refine xthen_ret ?_
     refine xin_ret ?_
     refine xthen_ret ?_
     replace h := h.symm
     subst h
     exact xret1 (bx' := []) (tk' := []) hg rfl rfl (.refl _) (SubM.of (.nil _) (.nil _)) ⟨rfl, rfl, rfl⟩
    ·replace h := h.2 hp1169
     refine xcondF' (not_f (Decidable.of_not_not hp1169)) rfl ?_
     refine xskipc ?_
     refine xthen ?_
     refine xseq ?_
     refine sr_ ?_
     refine v_ (qv_loadP 0 [] ([.v (.int .i64 y1162.1), .v (.int .i64 y1162.2.1), .v (.int .i64 y1162.2.2.1), .v (.int .i64 y1162.2.2.2.1), .v (.int .i64 y1162.2.2.2.2.1), .v (.int .i64 y1162.2.2.2.2.2.1)] ++ (List.map ew y1162.2.2.2.2.2.2.l).flatten) [] sq_ sl_ sl_ (part_all sl_) ShpC.h rfl rfl) ?_
     obtain ⟨y1213, h1212, h⟩ := h
     refine xcallM (tree_parts_con y1162 _ h1212) Try.func25 (by kernel_rfl) rfl (.cons rfl (.refl _) .nil) rfl rfl fun i1214 => ?_
     refine vp_ (pv_lenM UndC.h rfl) ?_
     refine mv_ ?_
     refine nt_ ?_
     refine xblock ?_
     obtain ⟨Inv, ⟨m0, hI⟩, hS⟩ := h
     refine xloop (fun σ m => ∃ (x1228 : Int), ∃ (l1229 : List Int), Inv (x1228, l1229) m ∧ σ = ⟨[(1, .v (.pointer (some ⟨b1, 0, none⟩))), (3, .v (.int .i64 ((x1.1.length : Int)))), (4, .rb i36 l1229.length), (5, .v (.pointer (some ⟨b5, 0, none⟩))), (7, .v (.pointer (some ⟨b7, 0, none⟩))), (36, .sl 10 none (List.map E_palinode_api_Node x1.1)), (37, .v (.int .i64 ((x1.1.length : Int)))), (38, .v (.int .i64 x854)), (50, .sl 1 (some i1214) (List.map ei y1213)), (51, .v (.int .i64 ((y1213.length : Int)))), (52, .v (.int .i64 x1228))], [⟨b7, 45, ([.v (.int .i64 y1162.1), .v (.int .i64 y1162.2.1), .v (.int .i64 y1162.2.2.1), .v (.int .i64 y1162.2.2.2.1), .v (.int .i64 y1162.2.2.2.2.1), .v (.int .i64 y1162.2.2.2.2.2.1)] ++ (List.map ew y1162.2.2.2.2.2.2.l).flatten)⟩, ⟨b5, 69, ((List.map ei f856.l).flatten)⟩, rbx i36 3 1 (List.map ei l1229), ⟨b1, 24, [.sl 10 none (List.map E_palinode_api_Node x1.1), .v (.int .i64 x1.2)]⟩], [⟨i1214, 3, 1, y1213.length⟩]⟩) ⟨0, l855, hI, rfl⟩ (by exact ⟨(.cons rfl (.refl _) (.cons rfl (.refl _) (.cons rfl (.eq (by first | rfl | simp)) lk_))), by exact (SubM.of (.keep rfl rfl (.refl _) (.keep rfl rfl (.refl _) (.keep rfl rfl (.refl _) (.keep rfl rfl (.refl _) (.nil _))))) (.keep rfl (.nil _)))⟩) ?_
     rintro _ m ⟨x1228, l1229, hI, rfl⟩
     obtain ⟨ag3, hag3, h⟩ : ∃ ag, (∀ s', ag s' → ∃ m', m' < m ∧ Inv s' m') ∧ tree_Right_l3 y1213 y1162 f856 x854 ag2 ag x1228 l1229 r := ⟨_, fun _ h => h, hS (x1228, l1229) _ hI⟩
     clear hS hI
     refine sr_ ?_
     refine vp_ (pv_bin2 rfl rfl rfl) ?_
     refine nt_ ?_
     refine xseq ?_
     by_cases hp1244 : x1228 < (y1213.length : Int)
     ·replace h := h.1 hp1244
      refine xcondT' (decide_eq_true hp1244) rfl ?_
      refine xskipc ?_
      refine xthen ?_
      refine xseq ?_
      refine xblock ?_
      refine sr_ ?_
      obtain ⟨h1246a, h⟩ := h
      obtain ⟨y1245, h1246b, h⟩ := h
      refine vp_ (pv_indexAddrM h1246a h1246b UndC.h ShpC.h rfl rfl) ?_
      refine v_ (qv_load ShpC.h rfl rfl rfl) ?_
      refine as_ ?_
      refine nt_ ?_
      refine xregion ?_
      refine mv_ ?_
      refine mv_ ?_
      obtain ⟨h1248a, h⟩ := h
      obtain ⟨y1247, h1248b, h⟩ := h
      refine vp_ (pv_indexAddrRbM rfl h1248a h1248b UndC.h ShpC.h rfl rfl) ?_
      refine v_ (qv_loadRb (f := ei) (k := 1) (off := 0) (i := (y1245 : Int).toNat) 2 h1248b rfl (by decide) rfl ShpC.h rfl rfl) ?_
      obtain ⟨h1249, h⟩ := h
      refine vp_ (pv_addI h1249 rfl rfl) ?_
      obtain ⟨h1251a, h⟩ := h
      obtain ⟨y1250, h1251b, h⟩ := h
      refine vp_ (pv_indexAddrRbM rfl h1251a h1251b UndC.h ShpC.h rfl rfl) ?_
      refine xstoreRb (f := ei) (k := 1) (off := 0) (i := (y1245 : Int).toNat) 2 (y1247 + 1) h1251b rfl (by decide) ShpC.h rfl rfl rfl rfl sl_ (.refl _) rfl ?_
      refine xnil ?_
      refine xin_normal ?_
      refine xthen ?_
      refine xregion ?_
      obtain ⟨h1253, h⟩ := h
      refine vp_ (pv_addI h1253 rfl rfl) ?_
      refine mv_ ?_
      refine xnil ?_
      obtain ⟨m', hm, hI⟩ := hag3 _ h
      exact xagain ⟨(x1228 + 1), (l1229.set (y1245 : Int).toNat (y1247 + 1)), hI, rfl⟩ hm ⟨(.cons rfl (.refl _) (.cons rfl (.refl _) (.cons rfl (.eq (by first | rfl | simp)) lk_))), by exact (SubM.of (.keep rfl rfl (.refl _) (.keep rfl rfl (.refl _) (.keep rfl rfl (.refl _) (.keep rfl rfl (.refl _) (.nil _))))) (.keep rfl (.nil _)))⟩
     ·replace h := h.2 hp1244
      refine xcondF' (decide_eq_false hp1244) rfl ?_
      refine xexit ?_
      refine xthen_exit ?_
      refine xthen_exit ?_
      refine xin_same rfl ?_
      refine xthen ?_
      refine sr_ ?_
      refine vp_ (qv_fieldAddrB FldC.h rfl) ?_
      refine v_ (qv_loadB 0 ShpC.h rfl rfl rfl rfl) ?_
      refine vp_ (pv_bin2 rfl rfl rfl) ?_
      refine nt_ ?_
      by_cases hp1255 : y1162.1 = 5
      ·replace h := h.1 hp1255
       refine xcondT' (decide_eq_true hp1255) rfl ?_
       refine xregion ?_
       refine vp_ (qv_fieldAddrB FldC.h rfl) ?_
       refine v_ (qv_loadB 0 ShpC.h rfl rfl rfl rfl) ?_
       obtain ⟨h1256, h⟩ := h
       obtain ⟨y1257, h1256b, h⟩ := h
       refine vp_ (pv_indexAddrBA h1256 UndC.h ShpC.h rfl rfl) ?_
       refine v_ (qv_loadA (f := ei) (a := f856) (k := 1) (off := 0) (i := (y1162.2.2.2.2.2.1 : Int).toNat) 1 [] [] h1256b sq_ so_ (by decide) rfl ShpC.h rfl rfl) ?_
       obtain ⟨h1258, h⟩ := h
       refine vp_ (pv_addI h1258 rfl rfl) ?_
       obtain ⟨h1259, h⟩ := h
       obtain ⟨y1260, h1259b, h⟩ := h
       refine vp_ (pv_indexAddrBA h1259 UndC.h ShpC.h rfl rfl) ?_
       refine xstoreA (f := ei) (a := f856) (k := 1) (off := 0) (i := (y1162.2.2.2.2.2.1 : Int).toNat) 1 [] [] (y1257 + 1) h1259b sq_ so_ (by decide) ShpC.h rfl rfl rfl rfl sl_ rfl rfl ?_
       refine xreb 1 ((List.map ei ((Arr.set f856 (y1162.2.2.2.2.2.1 : Int).toNat ((y1257 + 1)))).l).flatten) rfl sq_ ?_
       refine xnil ?_
       refine xin_normal ?_
       refine xthen ?_
       refine xregion ?_
       obtain ⟨h1261, h⟩ := h
       refine vp_ (pv_addI h1261 rfl rfl) ?_
       refine mv_ ?_
       refine xnil ?_
       obtain ⟨m', hm, hI⟩ := hag2 _ h
       exact xagain ⟨(x854 + 1), l1229, (Arr.set f856 (y1162.2.2.2.2.2.1 : Int).toNat ((y1257 + 1))), hI, rfl⟩ hm ⟨(.cons rfl (.refl _) (.cons rfl (.refl _) (.cons rfl (.eq (by first | rfl | simp)) lk_))), by exact (SubM.of (.drop (.keep rfl rfl (.refl _) (.keep rfl rfl (.refl _) (.keep rfl rfl (.refl _) (.nil _))))) (.nil _))⟩
      ·replace h := h.2 hp1255
       refine xcondF' (decide_eq_false hp1255) rfl ?_
       refine xskipc ?_
       refine xin_normal ?_
       refine xthen ?_
       refine xregion ?_
       obtain ⟨h1262, h⟩ := h
       refine vp_ (pv_addI h1262 rfl rfl) ?_
       refine mv_ ?_
       refine xnil ?_
       obtain ⟨m', hm, hI⟩ := hag2 _ h
       exact xagain ⟨(x854 + 1), l1229, f856, hI, rfl⟩ hm ⟨(.cons rfl (.refl _) (.cons rfl (.refl _) (.cons rfl (.eq (by first | rfl | simp)) lk_))), by exact (SubM.of (.drop (.keep rfl rfl (.refl _) (.keep rfl rfl (.refl _) (.keep rfl rfl (.refl _) (.nil _))))) (.nil _))⟩
   ·replace h := h.2 hp1062
    refine xcondF' (decide_eq_false hp1062) rfl ?_
    refine xexit ?_
    refine xthen_exit ?_
    refine xthen_exit ?_
    refine xin_same rfl ?_
    refine xthen ?_
    refine xseq ?_
    refine sr_ ?_
    refine mv_ ?_
    refine mv_ ?_
    obtain ⟨h1303, h⟩ := h
    refine vp_ (pv_subI h1303 rfl rfl) ?_
    obtain ⟨h1304, h⟩ := h
    refine vp_ (pv_sliceRbHi h1304 UndC.h ShpC.h rfl rfl) ?_
    refine xtakeRb (f := ei) (l := l855) 1 73 76 (((x1.1.length : Int) - 1) : Int).toNat rfl (by have := h1304; first | omega | (simp at this ⊢; done) | (simp at this ⊢; omega)) rfl rfl rfl ?_
    refine vp_ (pv_lenRb UndC.h rfl) ?_
    refine mv_ ?_
    refine nt_ ?_
    refine xblock ?_
    obtain ⟨Inv, ⟨m0, hI⟩, hS⟩ := h
    refine xloop (fun σ m => ∃ (x1318 : Int), Inv x1318 m ∧ σ = ⟨[(1, .v (.pointer (some ⟨b1, 0, none⟩))), (5, .v (.pointer (some ⟨b5, 0, none⟩))), (76, .rb i36 ((l855.take (((x1.1.length : Int) - 1) : Int).toNat).length)), (77, .v (.int .i64 ((((l855.take (((x1.1.length : Int) - 1) : Int).toNat).length : Nat) : Int)))), (78, .v (.int .i64 x1318))], [⟨b5, 69, ((List.map ei f856.l).flatten)⟩, rbx i36 3 1 (List.map ei ((l855.take (((x1.1.length : Int) - 1) : Int).toNat))), ⟨b1, 24, [.sl 10 none (List.map E_palinode_api_Node x1.1), .v (.int .i64 x1.2)]⟩], []⟩) ⟨0, hI, rfl⟩ (by exact ⟨(.cons rfl (.refl _) (.cons rfl (.refl _) (.cons rfl (.eq (by first | rfl | simp)) lk_))), by exact (SubM.of (.keep rfl rfl (.refl _) (.keep rfl rfl (.refl _) (.keep rfl rfl (.refl _) (.nil _)))) (.nil _))⟩) ?_
    rintro _ m ⟨x1318, hI, rfl⟩
    obtain ⟨ag4, hag4, h⟩ : ∃ ag, (∀ s', ag s' → ∃ m', m' < m ∧ Inv s' m') ∧ tree_Right_l4 l855 x1 f856 ag x1318 r := ⟨_, fun _ h => h, hS x1318 _ hI⟩
    clear hS hI
    refine sr_ ?_
    refine vp_ (pv_bin2 rfl rfl rfl) ?_
    refine nt_ ?_
    refine xseq ?_
    by_cases hp1333 : x1318 < (((l855.take (((x1.1.length : Int) - 1) : Int).toNat).length : Nat) : Int)
    ·replace h := h.1 hp1333
     refine xcondT' (decide_eq_true hp1333) rfl ?_
     refine xskipc ?_
     refine xthen ?_
     refine xseq ?_
     refine xblock ?_
     refine sr_ ?_
     obtain ⟨h1339a, h⟩ := h
     obtain ⟨y1338, h1339b, h⟩ := h
     refine vp_ (pv_indexAddrRbM (by simp) h1339a h1339b UndC.h ShpC.h rfl rfl) ?_
     refine v_ (qv_loadRb (f := ei) (k := 1) (off := 0) (i := (x1318 : Int).toNat) 1 h1339b rfl (by decide) rfl ShpC.h rfl rfl) ?_
     refine as_ ?_
     refine nt_ ?_
     refine sr_ ?_
     refine mv_ ?_
     refine vp_ (pv_bin2 rfl rfl rfl) ?_
     refine nt_ ?_
     by_cases hp1341 : ¬ (y1338 = 1)
     ·replace h := h.1 hp1341
      refine xcondT' (not_t (decide_eq_false hp1341)) rfl ?_
      refine sr_ ?_
      refine as_ ?_
      refine nt_ ?_
      refine xretc ?_
      refine xin_ret ?_
      refine xthen_ret ?_
      refine xthen_ret ?_
      refine xin_ret ?_
      refine xthen_ret ?_
      replace h := h.symm
      subst h
      exact xret1 (bx' := []) (tk' := []) hg rfl rfl (.refl _) (SubM.of (.nil _) (.nil _)) ⟨rfl, rfl, rfl⟩
     ·replace h := h.2 hp1341
      refine xcondF' (not_f (decide_eq_true (Decidable.of_not_not hp1341))) rfl ?_
      refine xskipc ?_
      refine xin_normal ?_
      refine xthen ?_
      refine xregion ?_
      obtain ⟨h1342, h⟩ := h
      refine vp_ (pv_addI h1342 rfl rfl) ?_
      refine mv_ ?_
      refine xnil ?_
      obtain ⟨m', hm, hI⟩ := hag4 _ h
      exact xagain ⟨(x1318 + 1), hI, rfl⟩ hm ⟨(.cons rfl (.refl _) (.cons rfl (.refl _) (.cons rfl (.eq (by first | rfl | simp)) lk_))), by exact (SubM.of (.keep rfl rfl (.refl _) (.keep rfl rfl (.refl _) (.keep rfl rfl (.refl _) (.nil _)))) (.nil _))⟩
    ·replace h := h.2 hp1333
     refine xcondF' (decide_eq_false hp1333) rfl ?_
     refine xexit ?_
     refine xthen_exit ?_
     refine xthen_exit ?_
     refine xin_same rfl ?_
     refine xthen ?_
     refine xseq ?_
     refine sr_ ?_
     refine vp_ (qv_fieldAddrB FldC.h rfl) ?_
     refine v_ (qv_loadB 2 ShpC.h rfl rfl rfl rfl) ?_
     obtain ⟨h1383, h⟩ := h
     refine vp_ (pv_addI h1383 rfl rfl) ?_
     obtain ⟨h1384a, h⟩ := h
     obtain ⟨h1384b, h⟩ := h
     obtain ⟨h1384, h⟩ := h
     refine vp_ (pv_sliceArr h1384 UndC.h ShpC.h rfl (Bd.int_ h1384a rfl) (Bd.int_ h1384b rfl)) ?_
     refine vp_ (pv_lenVN UndC.h rfl) ?_
     refine mv_ ?_
     refine nt_ ?_
     refine xblock ?_
     obtain ⟨Inv, ⟨m0, hI⟩, hS⟩ := h
     refine xloop (fun σ m => ∃ (x1398 : Int), Inv x1398 m ∧ σ = ⟨[(88, .v (.slice (some ⟨b5, 0 + (1 : Int).toNat * 1, none⟩) (((x1.2 + 1) : Int).toNat - (1 : Int).toNat) (10 - (1 : Int).toNat))), (89, .v (.int .i64 (((((x1.2 + 1) : Int).toNat - (1 : Int).toNat : Nat) : Int)))), (90, .v (.int .i64 x1398))], [⟨b5, 69, ((List.map ei f856.l).flatten)⟩], []⟩) ⟨0, hI, rfl⟩ (by exact ⟨lk_, (SubM.of (.keep rfl rfl (.refl _) (.nil _)) (.nil _))⟩) ?_
     rintro _ m ⟨x1398, hI, rfl⟩
     obtain ⟨ag5, hag5, h⟩ : ∃ ag, (∀ s', ag s' → ∃ m', m' < m ∧ Inv s' m') ∧ tree_Right_l5 x1 f856 ag x1398 r := ⟨_, fun _ h => h, hS x1398 _ hI⟩
     clear hS hI
     refine sr_ ?_
     refine vp_ (pv_bin2 rfl rfl rfl) ?_
     refine nt_ ?_
     refine xseq ?_
     by_cases hp1413 : x1398 < ((((x1.2 + 1) : Int).toNat - (1 : Int).toNat : Nat) : Int)
     ·replace h := h.1 hp1413
      refine xcondT' (decide_eq_true hp1413) rfl ?_
      refine xskipc ?_
      refine xthen ?_
      refine xseq ?_
      refine xblock ?_
      refine sr_ ?_
      obtain ⟨h1419, h⟩ := h
      obtain ⟨y1418, h1419b, h⟩ := h
      refine vp_ (pv_indexAddrVN h1419 UndC.h ShpC.h rfl rfl) ?_
      refine v_ (qv_loadA (f := ei) (a := f856) (k := 1) (off := 0) (i := ((((1 : Int).toNat + (x1398 : Int).toNat : Nat) : Int) : Int).toNat) 0 [] [] h1419b sq_ so_ (by decide) rfl ShpC.h rfl rfl) ?_
      refine as_ ?_
      refine nt_ ?_
      refine sr_ ?_
      refine mv_ ?_
      refine vp_ (pv_bin2 rfl rfl rfl) ?_
      refine nt_ ?_
      by_cases hp1421 : ¬ (y1418 = 1)
      ·replace h := h.1 hp1421
       refine xcondT' (not_t (decide_eq_false hp1421)) rfl ?_
       refine sr_ ?_
       refine as_ ?_
       refine nt_ ?_
       refine xretc ?_
       refine xin_ret ?_
       refine xthen_ret ?_
       refine xthen_ret ?_
       refine xin_ret ?_
       refine xthen_ret ?_
       replace h := h.symm
       subst h
       exact xret1 hg rfl rfl (.refl _) (SubM.of (.nil _) (.nil _)) ⟨rfl, rfl, rfl⟩
      ·replace h := h.2 hp1421
       refine xcondF' (not_f (decide_eq_true (Decidable.of_not_not hp1421))) rfl ?_
       refine xskipc ?_
       refine xin_normal ?_
       refine xthen ?_
       refine xregion ?_
       obtain ⟨h1422, h⟩ := h
       refine vp_ (pv_addI h1422 rfl rfl) ?_
       refine mv_ ?_
       refine xnil ?_
       obtain ⟨m', hm, hI⟩ := hag5 _ h
       exact xagain ⟨(x1398 + 1), hI, rfl⟩ hm ⟨lk_, (SubM.of (.keep rfl rfl (.refl _) (.nil _)) (.nil _))⟩
     ·replace h := h.2 hp1413
      refine xcondF' (decide_eq_false hp1413) rfl ?_
      refine xexit ?_
      refine xthen_exit ?_
      refine xthen_exit ?_
      refine xin_same rfl ?_
      refine xthen ?_
      refine sr_ ?_
      refine as_ ?_
      refine nt_ ?_
      refine xretc ?_
      replace h := h.symm
      subst h
      exact xret1 hg rfl rfl (.refl _) (SubM.of (.nil _) (.nil _)) ⟨rfl, rfl, rfl⟩
/-- tree.Least -/
def tree_Least_j2 (x743 : Int) (ag1 : (Int × (List Int)) → Prop) (l1061 : List Int) (r : Int) : Prop :=
 0 ≤ (x743 : Int) ∧ ∃ y1102 : Int, l1061[(x743 : Int).toNat]? = some y1102 ∧ 0 ≤ (x743 : Int) ∧ ∃ y1105 : Int, l1061[(x743 : Int).toNat]? = some y1105 ∧ InR (x743 + 1) ∧ ag1 ((x743 + 1), (l1061.set (x743 : Int).toNat (if 65537 < y1102 then 65537 else y1102)))
def tree_Least_l1 (x1 : (List (Int × Int × Int × Int × Int × Int × (Arr 4 (UInt64)))) × Int) (ag1 : (Int × (List Int)) → Prop) (x743 : Int) (l744 : List Int) (r : Int) : Prop :=
 ((x743 < (x1.1.length : Int) → 0 ≤ (x743 : Int) ∧ ∃ y1019 : Int × Int × Int × Int × Int × Int × (Arr 4 (UInt64)), x1.1[(x743 : Int).toNat]? = some y1019 ∧ ((y1019.1 = 1 → 0 ≤ (x743 : Int) ∧ ∃ y1064 : Int, l744[(x743 : Int).toNat]? = some y1064 ∧ tree_Least_j2 x743 ag1 (l744.set (x743 : Int).toNat 1) r) ∧ (¬ (y1019.1 = 1) → ((y1019.1 = 2 → 0 ≤ (y1019.2.1 : Int) ∧ ∃ y1069 : Int, l744[(y1019.2.1 : Int).toNat]? = some y1069 ∧ 0 ≤ (y1019.2.2.1 : Int) ∧ ∃ y1071 : Int, l744[(y1019.2.2.1 : Int).toNat]? = some y1071 ∧ InR (y1069 + y1071) ∧ 0 ≤ (x743 : Int) ∧ ∃ y1074 : Int, l744[(x743 : Int).toNat]? = some y1074 ∧ tree_Least_j2 x743 ag1 (l744.set (x743 : Int).toNat (y1069 + y1071)) r) ∧ (¬ (y1019.1 = 2) → ((y1019.1 = 3 → 0 ≤ (y1019.2.1 : Int) ∧ ∃ y1079 : Int, l744[(y1019.2.1 : Int).toNat]? = some y1079 ∧ 0 ≤ (y1019.2.2.1 : Int) ∧ ∃ y1081 : Int, l744[(y1019.2.2.1 : Int).toNat]? = some y1081 ∧ 0 ≤ (x743 : Int) ∧ ∃ y1084 : Int, l744[(x743 : Int).toNat]? = some y1084 ∧ tree_Least_j2 x743 ag1 (l744.set (x743 : Int).toNat (if y1081 < y1079 then y1081 else y1079)) r) ∧ (¬ (y1019.1 = 3) → ((y1019.1 = 4 → 0 ≤ (y1019.2.1 : Int) ∧ ∃ y1089 : Int, l744[(y1019.2.1 : Int).toNat]? = some y1089 ∧ InR (y1019.2.2.2.1 * y1089) ∧ 0 ≤ (x743 : Int) ∧ ∃ y1092 : Int, l744[(x743 : Int).toNat]? = some y1092 ∧ tree_Least_j2 x743 ag1 (l744.set (x743 : Int).toNat (y1019.2.2.2.1 * y1089)) r) ∧ (¬ (y1019.1 = 4) → ((y1019.1 = 5 → 0 ≤ (y1019.2.1 : Int) ∧ ∃ y1097 : Int, l744[(y1019.2.1 : Int).toNat]? = some y1097 ∧ 0 ≤ (x743 : Int) ∧ ∃ y1099 : Int, l744[(x743 : Int).toNat]? = some y1099 ∧ tree_Least_j2 x743 ag1 (l744.set (x743 : Int).toNat y1097) r) ∧ (¬ (y1019.1 = 5) → tree_Least_j2 x743 ag1 l744 r))))))))))) ∧ (¬ (x743 < (x1.1.length : Int)) → InR (((l744.length : Nat) : Int) - 1) ∧ 0 ≤ ((((l744.length : Nat) : Int) - 1) : Int) ∧ ∃ y1111 : Int, l744[((((l744.length : Nat) : Int) - 1) : Int).toNat]? = some y1111 ∧ r = y1111))
def tree_Least_R (x1 : (List (Int × Int × Int × Int × Int × Int × (Arr 4 (UInt64)))) × Int) (r : Int) : Prop :=
 ∃ y6 : Bool, tree_Right_R x1 y6 ∧ ((¬ (y6 = true) → r = 0) ∧ (¬ (¬ (y6 = true)) → MakeOk ((x1.1.length : Int)) ((x1.1.length : Int)) 8 ∧ LoopR (fun ag1 s => tree_Least_l1 x1 ag1 s.1 s.2 r) (0, (List.replicate ((x1.1.length : Int) : Int).toNat 0))))
def tree_Least_j2_ev (fuel : Nat) (x743 : Int) (ag1e : (Int × (List Int)) → Option (Int)) (l1061 : List Int) : Option (Int) :=
 (if 0 ≤ (x743 : Int) then ((l1061[(x743 : Int).toNat]?).bind fun y1102 => (if 0 ≤ (x743 : Int) then ((l1061[(x743 : Int).toNat]?).bind fun y1105 => (if InR (x743 + 1) then ag1e ((x743 + 1), (l1061.set (x743 : Int).toNat (if 65537 < y1102 then 65537 else y1102))) else none)) else none)) else none)
theorem tree_Least_j2_ok {fuel : Nat} {x743 : Int} {ag1 : (Int × (List Int)) → Prop} {ag1e : (Int × (List Int)) → Option (Int)} {l1061 : List Int} {r : Int} (hagag1 : ∀ s, ag1e s = some r → ag1 s) (h : tree_Least_j2_ev fuel x743 ag1e l1061 = some r) : tree_Least_j2 x743 ag1 l1061 r := by
 unfold tree_Least_j2_ev at h
 unfold tree_Least_j2
 obtain ⟨g127, h⟩ := if_ok h
 refine ⟨g127, ?_⟩
 obtain ⟨q128, g128, h⟩ := bind_ok h
 refine ⟨q128, g128, ?_⟩
 obtain ⟨g129, h⟩ := if_ok h
 refine ⟨g129, ?_⟩
 obtain ⟨q130, g130, h⟩ := bind_ok h
 refine ⟨q130, g130, ?_⟩
 obtain ⟨g131, h⟩ := if_ok h
 refine ⟨g131, ?_⟩
 exact hagag1 _ h
def tree_Least_l1_ev (fuel : Nat) (x1 : (List (Int × Int × Int × Int × Int × Int × (Arr 4 (UInt64)))) × Int) (ag1e : (Int × (List Int)) → Option (Int)) (x743 : Int) (l744 : List Int) : Option (Int) :=
 (if x743 < (x1.1.length : Int) then (if 0 ≤ (x743 : Int) then ((x1.1[(x743 : Int).toNat]?).bind fun y1019 => (if y1019.1 = 1 then (if 0 ≤ (x743 : Int) then ((l744[(x743 : Int).toNat]?).bind fun y1064 => tree_Least_j2_ev fuel x743 ag1e (l744.set (x743 : Int).toNat 1)) else none) else (if y1019.1 = 2 then (if 0 ≤ (y1019.2.1 : Int) then ((l744[(y1019.2.1 : Int).toNat]?).bind fun y1069 => (if 0 ≤ (y1019.2.2.1 : Int) then ((l744[(y1019.2.2.1 : Int).toNat]?).bind fun y1071 => (if InR (y1069 + y1071) then (if 0 ≤ (x743 : Int) then ((l744[(x743 : Int).toNat]?).bind fun y1074 => tree_Least_j2_ev fuel x743 ag1e (l744.set (x743 : Int).toNat (y1069 + y1071))) else none) else none)) else none)) else none) else (if y1019.1 = 3 then (if 0 ≤ (y1019.2.1 : Int) then ((l744[(y1019.2.1 : Int).toNat]?).bind fun y1079 => (if 0 ≤ (y1019.2.2.1 : Int) then ((l744[(y1019.2.2.1 : Int).toNat]?).bind fun y1081 => (if 0 ≤ (x743 : Int) then ((l744[(x743 : Int).toNat]?).bind fun y1084 => tree_Least_j2_ev fuel x743 ag1e (l744.set (x743 : Int).toNat (if y1081 < y1079 then y1081 else y1079))) else none)) else none)) else none) else (if y1019.1 = 4 then (if 0 ≤ (y1019.2.1 : Int) then ((l744[(y1019.2.1 : Int).toNat]?).bind fun y1089 => (if InR (y1019.2.2.2.1 * y1089) then (if 0 ≤ (x743 : Int) then ((l744[(x743 : Int).toNat]?).bind fun y1092 => tree_Least_j2_ev fuel x743 ag1e (l744.set (x743 : Int).toNat (y1019.2.2.2.1 * y1089))) else none) else none)) else none) else (if y1019.1 = 5 then (if 0 ≤ (y1019.2.1 : Int) then ((l744[(y1019.2.1 : Int).toNat]?).bind fun y1097 => (if 0 ≤ (x743 : Int) then ((l744[(x743 : Int).toNat]?).bind fun y1099 => tree_Least_j2_ev fuel x743 ag1e (l744.set (x743 : Int).toNat y1097)) else none)) else none) else tree_Least_j2_ev fuel x743 ag1e l744)))))) else none) else (if InR (((l744.length : Nat) : Int) - 1) then (if 0 ≤ ((((l744.length : Nat) : Int) - 1) : Int) then ((l744[((((l744.length : Nat) : Int) - 1) : Int).toNat]?).bind fun y1111 => some y1111) else none) else none))
theorem tree_Least_l1_ok {fuel : Nat} {x1 : (List (Int × Int × Int × Int × Int × Int × (Arr 4 (UInt64)))) × Int} {ag1e : (Int × (List Int)) → Option (Int)} {ag1 : (Int × (List Int)) → Prop} {x743 : Int} {l744 : List Int} {r : Int} (hagag1 : ∀ s, ag1e s = some r → ag1 s) (h : tree_Least_l1_ev fuel x1 ag1e x743 l744 = some r) : tree_Least_l1 x1 ag1 x743 l744 r := by
 unfold tree_Least_l1_ev at h
 unfold tree_Least_l1
 refine ⟨fun g132 => ?_, fun g132 => ?_⟩
 ·rw [if_pos g132] at h
  obtain ⟨g133, h⟩ := if_ok h
  refine ⟨g133, ?_⟩
  obtain ⟨q134, g134, h⟩ := bind_ok h
  refine ⟨q134, g134, ?_⟩
  refine ⟨fun g135 => ?_, fun g135 => ?_⟩
  ·rw [if_pos g135] at h
   obtain ⟨g136, h⟩ := if_ok h
   refine ⟨g136, ?_⟩
   obtain ⟨q137, g137, h⟩ := bind_ok h
   refine ⟨q137, g137, ?_⟩
   exact tree_Least_j2_ok hagag1 h
  ·rw [if_neg g135] at h
   refine ⟨fun g138 => ?_, fun g138 => ?_⟩
   ·rw [if_pos g138] at h
    obtain ⟨g139, h⟩ := if_ok h
    refine ⟨g139, ?_⟩
    obtain ⟨q140, g140, h⟩ := bind_ok h
    refine ⟨q140, g140, ?_⟩
    obtain ⟨g141, h⟩ := if_ok h
    refine ⟨g141, ?_⟩
    obtain ⟨q142, g142, h⟩ := bind_ok h
    refine ⟨q142, g142, ?_⟩
    obtain ⟨g143, h⟩ := if_ok h
    refine ⟨g143, ?_⟩
    obtain ⟨g144, h⟩ := if_ok h
    refine ⟨g144, ?_⟩
    obtain ⟨q145, g145, h⟩ := bind_ok h
    refine ⟨q145, g145, ?_⟩
    exact tree_Least_j2_ok hagag1 h
   ·rw [if_neg g138] at h
    refine ⟨fun g146 => ?_, fun g146 => ?_⟩
    ·rw [if_pos g146] at h
     obtain ⟨g147, h⟩ := if_ok h
     refine ⟨g147, ?_⟩
     obtain ⟨q148, g148, h⟩ := bind_ok h
     refine ⟨q148, g148, ?_⟩
     obtain ⟨g149, h⟩ := if_ok h
     refine ⟨g149, ?_⟩
     obtain ⟨q150, g150, h⟩ := bind_ok h
     refine ⟨q150, g150, ?_⟩
     obtain ⟨g151, h⟩ := if_ok h
     refine ⟨g151, ?_⟩
     obtain ⟨q152, g152, h⟩ := bind_ok h
     refine ⟨q152, g152, ?_⟩
     exact tree_Least_j2_ok hagag1 h
    ·rw [if_neg g146] at h
     refine ⟨fun g153 => ?_, fun g153 => ?_⟩
     ·rw [if_pos g153] at h
      obtain ⟨g154, h⟩ := if_ok h
      refine ⟨g154, ?_⟩
      obtain ⟨q155, g155, h⟩ := bind_ok h
      refine ⟨q155, g155, ?_⟩
      obtain ⟨g156, h⟩ := if_ok h
      refine ⟨g156, ?_⟩
      obtain ⟨g157, h⟩ := if_ok h
      refine ⟨g157, ?_⟩
      obtain ⟨q158, g158, h⟩ := bind_ok h
      refine ⟨q158, g158, ?_⟩
      exact tree_Least_j2_ok hagag1 h
     ·rw [if_neg g153] at h
      refine ⟨fun g159 => ?_, fun g159 => ?_⟩
      ·rw [if_pos g159] at h
       obtain ⟨g160, h⟩ := if_ok h
       refine ⟨g160, ?_⟩
       obtain ⟨q161, g161, h⟩ := bind_ok h
       refine ⟨q161, g161, ?_⟩
       obtain ⟨g162, h⟩ := if_ok h
       refine ⟨g162, ?_⟩
       obtain ⟨q163, g163, h⟩ := bind_ok h
       refine ⟨q163, g163, ?_⟩
       exact tree_Least_j2_ok hagag1 h
      ·rw [if_neg g159] at h
       exact tree_Least_j2_ok hagag1 h
 ·rw [if_neg g132] at h
  obtain ⟨g164, h⟩ := if_ok h
  refine ⟨g164, ?_⟩
  obtain ⟨g165, h⟩ := if_ok h
  refine ⟨g165, ?_⟩
  obtain ⟨q166, g166, h⟩ := bind_ok h
  refine ⟨q166, g166, ?_⟩
  exact (Option.some.inj h).symm
def tree_Least_ev (fuel : Nat) (x1 : (List (Int × Int × Int × Int × Int × Int × (Arr 4 (UInt64)))) × Int) : Option (Int) :=
 ((tree_Right_ev fuel x1).bind fun y6 => (if ¬ (y6 = true) then some 0 else (if MakeOk ((x1.1.length : Int)) ((x1.1.length : Int)) 8 then (loopE (fun ag1e s => tree_Least_l1_ev fuel x1 ag1e s.1 s.2) fuel (0, (List.replicate ((x1.1.length : Int) : Int).toNat 0))) else none)))
theorem tree_Least_ok {fuel : Nat} {x1 : (List (Int × Int × Int × Int × Int × Int × (Arr 4 (UInt64)))) × Int} {r : Int} (h : tree_Least_ev fuel x1 = some r) : tree_Least_R x1 r := by
 unfold tree_Least_ev at h
 unfold tree_Least_R
 obtain ⟨q167, g167, h⟩ := bind_ok h
 refine ⟨q167, tree_Right_ok g167, ?_⟩
 refine ⟨fun g168 => ?_, fun g168 => ?_⟩
 ·rw [if_pos g168] at h
  exact (Option.some.inj h).symm
 ·rw [if_neg g168] at h
  obtain ⟨g169, h⟩ := if_ok h
  refine ⟨g169, ?_⟩
  refine loopE_ok ?_ h
  intro ae ag s hag h
  exact tree_Least_l1_ok hag h
set_option maxHeartbeats 4000000 in
theorem tree_Least_con (x1 : (List (Int × Int × Int × Int × Int × Int × (Arr 4 (UInt64)))) × Int) (r : Int) (h : tree_Least_R x1 r) : Con Try.prog 22 [.agg [.sl 10 none (List.map E_palinode_api_Node x1.1), .v (.int .i64 x1.2)]] [] [] (Ret (.v (.int .i64 r))) := by
 refine xenter Try.func22 rfl rfl fun g hg => ?_
 simp only [Try.ntmps22, slots]
 refine sr_ ?_
 refine xbox rfl rfl rfl rfl fun b1 => ?_
 refine as_ ?_
 refine nt_ ?_
 refine xseq ?_
 refine sr_ ?_
 refine v_ (qv_loadB 0 ShpC.h rfl rfl rfl rfl) ?_
 obtain ⟨y6, h5, h⟩ := h
 refine xcall0 (tree_Right_con x1 _ h5) Try.func21 (by kernel_rfl) rfl (.cons rfl (.refl _) .nil) rfl rfl ?_
 refine vp_ (pv_not rfl) ?_
 refine nt_ ?_
 by_cases hp7 : ¬ (y6 = true)
 ·replace h := h.1 hp7
  refine xcondT' (not_t (b_f hp7)) rfl ?_
  refine sr_ ?_
  refine as_ ?_
  refine nt_ ?_
  refine xretc ?_
  refine xthen_ret ?_
  replace h := h.symm
  subst h
  exact xret1 hg rfl rfl (.refl _) (SubM.of (.nil _) (.nil _)) ⟨rfl, rfl, rfl⟩
 ·replace h := h.2 hp7
  refine xcondF' (not_f (Decidable.of_not_not hp7)) rfl ?_
  refine xskipc ?_
  refine xthen ?_
  refine sr_ ?_
  refine vp_ (qv_fieldAddrB FldC.h rfl) ?_
  refine v_ (qv_loadB 0 ShpC.h rfl rfl rfl rfl) ?_
  refine vp_ (pv_lenM UndC.h rfl) ?_
  obtain ⟨h9, h⟩ := h
  refine xmakeRb (f := ei) 0 h9 UndC.h InfC.h (.refl _) rfl rfl rfl rfl fun i10 => ?_
  refine as_ ?_
  refine nt_ ?_
  refine xseq ?_
  refine sr_ ?_
  refine vp_ (qv_fieldAddrB FldC.h rfl) ?_
  refine v_ (qv_loadB 1 ShpC.h rfl rfl rfl rfl) ?_
  refine vp_ (pv_lenM UndC.h rfl) ?_
  refine mv_ ?_
  refine nt_ ?_
  refine xblock ?_
  obtain ⟨Inv, ⟨m0, hI⟩, hS⟩ := h
  refine xloop (fun σ m => ∃ (x743 : Int), ∃ (l744 : List Int), Inv (x743, l744) m ∧ σ = ⟨[(3, .rb i10 l744.length), (14, .sl 10 none (List.map E_palinode_api_Node x1.1)), (15, .v (.int .i64 ((x1.1.length : Int)))), (16, .v (.int .i64 x743))], [rbx i10 3 1 (List.map ei l744)], []⟩) ⟨0, (List.replicate ((x1.1.length : Int) : Int).toNat 0), hI, rfl⟩ (by exact ⟨(.cons rfl (.eq (by first | rfl | simp)) lk_), by exact (SubM.of (.keep rfl rfl (.refl _) (.nil _)) (.nil _))⟩) ?_
  rintro _ m ⟨x743, l744, hI, rfl⟩
  obtain ⟨ag1, hag1, h⟩ : ∃ ag, (∀ s', ag s' → ∃ m', m' < m ∧ Inv s' m') ∧ tree_Least_l1 x1 ag x743 l744 r := ⟨_, fun _ h => h, hS (x743, l744) _ hI⟩
  clear hS hI
  refine sr_ ?_
  refine vp_ (pv_bin2 rfl rfl rfl) ?_
  refine nt_ ?_
  refine xseq ?_
  by_cases hp929 : x743 < (x1.1.length : Int)
  ·replace h := h.1 hp929
   refine xcondT' (decide_eq_true hp929) rfl ?_
   refine xskipc ?_
   refine xthen ?_
   refine xseq ?_
   refine xblock ?_
   refine sr_ ?_
   refine mv_ ?_
   obtain ⟨h1020a, h⟩ := h
   obtain ⟨y1019, h1020b, h⟩ := h
   refine vp_ (pv_indexAddrM h1020a h1020b UndC.h ShpC.h rfl rfl) ?_
   refine v_ (qv_loadEP ([.v (.int .i64 y1019.1), .v (.int .i64 y1019.2.1), .v (.int .i64 y1019.2.2.1), .v (.int .i64 y1019.2.2.2.1), .v (.int .i64 y1019.2.2.2.2.1), .v (.int .i64 y1019.2.2.2.2.2.1)] ++ (List.map ew y1019.2.2.2.2.2.2.l).flatten) [] sq_ sl_ (part_all sl_) ShpC.h rfl) ?_
   refine xalloc InfC.h rfl rfl fun b5 => ?_
   refine xreb 0 ([.v (.int .i64 0), .v (.int .i64 0), .v (.int .i64 0), .v (.int .i64 0), .v (.int .i64 0), .v (.int .i64 0)] ++ (List.map ew ((Arr.rep 4 (0 : UInt64))).l).flatten) rfl rfl ?_
   refine as_ ?_
   refine xstoreQ 0 [] ([.v (.int .i64 0), .v (.int .i64 0), .v (.int .i64 0), .v (.int .i64 0), .v (.int .i64 0), .v (.int .i64 0)] ++ (List.map ew ((Arr.rep 4 (0 : UInt64))).l).flatten) [] ([.v (.int .i64 y1019.1), .v (.int .i64 y1019.2.1), .v (.int .i64 y1019.2.2.1), .v (.int .i64 y1019.2.2.2.1), .v (.int .i64 y1019.2.2.2.2.1), .v (.int .i64 y1019.2.2.2.2.2.1)] ++ (List.map ew y1019.2.2.2.2.2.2.l).flatten) ShpC.h rfl rfl rfl rfl rfl ?_
   refine nt_ ?_
   refine xseqM (fun σ => ∃ (l1061 : List Int), tree_Least_j2 x743 ag1 l1061 r ∧ σ = ⟨[(3, .rb i10 l1061.length), (4, .v (.int .i64 x743)), (14, .sl 10 none (List.map E_palinode_api_Node x1.1)), (15, .v (.int .i64 ((x1.1.length : Int)))), (16, .v (.int .i64 x743))], [rbx i10 3 1 (List.map ei l1061)], []⟩) ?_ ?_
   ·refine xseq ?_
    refine xregion ?_
    refine vp_ (qv_fieldAddrB FldC.h rfl) ?_
    refine v_ (qv_loadB 0 ShpC.h rfl rfl rfl rfl) ?_
    refine nt_ ?_
    refine xblock ?_
    refine sr_ ?_
    refine vp_ (pv_bin2 rfl rfl rfl) ?_
    refine as_ ?_
    refine nt_ ?_
    by_cases hp1063 : y1019.1 = 1
    ·replace h := h.1 hp1063
     refine xcondT' (decide_eq_true hp1063) rfl ?_
     refine xregion ?_
     refine mv_ ?_
     refine mv_ ?_
     obtain ⟨h1065a, h⟩ := h
     obtain ⟨y1064, h1065b, h⟩ := h
     refine vp_ (pv_indexAddrRbM rfl h1065a h1065b UndC.h ShpC.h rfl rfl) ?_
     refine xstoreRb (f := ei) (k := 1) (off := 0) (i := (x743 : Int).toNat) 1 1 h1065b rfl (by decide) ShpC.h rfl rfl rfl rfl sl_ (.refl _) rfl ?_
     refine xnil ?_
     refine xin_normal ?_
     exact xmeet ⟨(l744.set (x743 : Int).toNat 1), h, rfl⟩ ⟨(.cons rfl (.eq (by first | rfl | simp)) lk_), by exact (SubM.of (.drop (.keep rfl rfl (.refl _) (.nil _))) (.nil _))⟩
    ·replace h := h.2 hp1063
     refine xcondF' (decide_eq_false hp1063) rfl ?_
     refine sr_ ?_
     refine vp_ (pv_bin2 rfl rfl rfl) ?_
     refine as_ ?_
     refine nt_ ?_
     by_cases hp1068 : y1019.1 = 2
     ·replace h := h.1 hp1068
      refine xcondT' (decide_eq_true hp1068) rfl ?_
      refine xregionD (m := 15) (by kernel_rfl) rfl ?_
      obtain ⟨h1070a, h⟩ := h
      obtain ⟨y1069, h1070b, h⟩ := h
      obtain ⟨h1072a, h⟩ := h
      obtain ⟨y1071, h1072b, h⟩ := h
      obtain ⟨h1073, h⟩ := h
      obtain ⟨h1075a, h⟩ := h
      obtain ⟨y1074, h1075b, h⟩ := h
      refine pl_ 0 rfl (pv_move rfl) ?_
      refine pl_ 1 rfl (pv_move rfl) ?_
      refine pl_ 2 rfl (pv_move rfl) ?_
      refine pl_ 3 rfl (qv_fieldAddrB FldC.h rfl) ?_
      refine pl_ 7 rfl (pv_move rfl) ?_
      refine pl_ 8 rfl (qv_fieldAddrB FldC.h rfl) ?_
      refine xpvalE 4 [9, 10, 11] rfl (qv_loadB 0 ShpC.h rfl rfl rfl rfl) rfl rfl (by kernel_rfl) (by kernel_rfl) (by kernel_rfl) (fun _ _ _ _ h => h) ?_
      refine pl_ 5 rfl (pv_indexAddrRbM rfl h1070a h1070b UndC.h ShpC.h rfl rfl) ?_
      refine xpvalE 6 [9, 10, 11] rfl (qv_loadRb (f := ei) (k := 1) (off := 0) (i := (y1019.2.1 : Int).toNat) 1 h1070b rfl (by decide) rfl ShpC.h rfl rfl) rfl rfl (by kernel_rfl) (by kernel_rfl) (by kernel_rfl) (fun _ _ _ _ h => h) ?_
      refine xpvalE 9 [] rfl (qv_loadB 0 ShpC.h rfl rfl rfl rfl) rfl rfl (by kernel_rfl) (by kernel_rfl) (by kernel_rfl) (fun _ _ _ _ h => h) ?_
      refine pl_ 10 rfl (pv_indexAddrRbM rfl h1072a h1072b UndC.h ShpC.h rfl rfl) ?_
      refine xpvalE 11 [] rfl (qv_loadRb (f := ei) (k := 1) (off := 0) (i := (y1019.2.2.1 : Int).toNat) 1 h1072b rfl (by decide) rfl ShpC.h rfl rfl) rfl rfl (by kernel_rfl) (by kernel_rfl) (by kernel_rfl) (fun _ _ _ _ h => h) ?_
      refine pl_ 12 rfl (pv_addI h1073 rfl rfl) ?_
      refine pl_ 13 rfl (pv_indexAddrRbM rfl h1075a h1075b UndC.h ShpC.h rfl rfl) ?_
      refine xpstep (i := 14) (by kernel_rfl) rfl ?_
      refine wstoreRb (f := ei) (k := 1) (off := 0) (i := (x743 : Int).toNat) 1 (y1069 + y1071) h1075b rfl (by decide) ShpC.h rfl rfl rfl rfl sl_ (.refl _) rfl ?_
      refine xpdone (by kernel_rfl) ?_
      refine xin_normal ?_
      exact xmeet ⟨(l744.set (x743 : Int).toNat (y1069 + y1071)), h, rfl⟩ ⟨(.cons rfl (.eq (by first | rfl | simp)) lk_), by exact (SubM.of (.drop (.keep rfl rfl (.refl _) (.nil _))) (.nil _))⟩
     ·replace h := h.2 hp1068
      refine xcondF' (decide_eq_false hp1068) rfl ?_
      refine sr_ ?_
      refine vp_ (pv_bin2 rfl rfl rfl) ?_
      refine as_ ?_
      refine nt_ ?_
      by_cases hp1078 : y1019.1 = 3
      ·replace h := h.1 hp1078
       refine xcondT' (decide_eq_true hp1078) rfl ?_
       refine xregionD (m := 15) (by kernel_rfl) rfl ?_
       obtain ⟨h1080a, h⟩ := h
       obtain ⟨y1079, h1080b, h⟩ := h
       obtain ⟨h1082a, h⟩ := h
       obtain ⟨y1081, h1082b, h⟩ := h
       obtain ⟨h1085a, h⟩ := h
       obtain ⟨y1084, h1085b, h⟩ := h
       refine pl_ 0 rfl (pv_move rfl) ?_
       refine pl_ 1 rfl (pv_move rfl) ?_
       refine pl_ 2 rfl (pv_move rfl) ?_
       refine pl_ 3 rfl (qv_fieldAddrB FldC.h rfl) ?_
       refine pl_ 7 rfl (pv_move rfl) ?_
       refine pl_ 8 rfl (qv_fieldAddrB FldC.h rfl) ?_
       refine xpvalE 4 [9, 10, 11] rfl (qv_loadB 0 ShpC.h rfl rfl rfl rfl) rfl rfl (by kernel_rfl) (by kernel_rfl) (by kernel_rfl) (fun _ _ _ _ h => h) ?_
       refine pl_ 5 rfl (pv_indexAddrRbM rfl h1080a h1080b UndC.h ShpC.h rfl rfl) ?_
       refine xpvalE 6 [9, 10, 11] rfl (qv_loadRb (f := ei) (k := 1) (off := 0) (i := (y1019.2.1 : Int).toNat) 1 h1080b rfl (by decide) rfl ShpC.h rfl rfl) rfl rfl (by kernel_rfl) (by kernel_rfl) (by kernel_rfl) (fun _ _ _ _ h => h) ?_
       refine xpvalE 9 [] rfl (qv_loadB 0 ShpC.h rfl rfl rfl rfl) rfl rfl (by kernel_rfl) (by kernel_rfl) (by kernel_rfl) (fun _ _ _ _ h => h) ?_
       refine pl_ 10 rfl (pv_indexAddrRbM rfl h1082a h1082b UndC.h ShpC.h rfl rfl) ?_
       refine xpvalE 11 [] rfl (qv_loadRb (f := ei) (k := 1) (off := 0) (i := (y1019.2.2.1 : Int).toNat) 1 h1082b rfl (by decide) rfl ShpC.h rfl rfl) rfl rfl (by kernel_rfl) (by kernel_rfl) (by kernel_rfl) (fun _ _ _ _ h => h) ?_
       refine pl_ 12 rfl (pv_min rfl rfl) ?_
       refine pl_ 13 rfl (pv_indexAddrRbM rfl h1085a h1085b UndC.h ShpC.h rfl rfl) ?_
       refine xpstep (i := 14) (by kernel_rfl) rfl ?_
       refine wstoreRb (f := ei) (k := 1) (off := 0) (i := (x743 : Int).toNat) 1 (if y1081 < y1079 then y1081 else y1079) h1085b rfl (by decide) ShpC.h rfl rfl rfl rfl sl_ (.refl _) rfl ?_
       refine xpdone (by kernel_rfl) ?_
       refine xin_normal ?_
       exact xmeet ⟨(l744.set (x743 : Int).toNat (if y1081 < y1079 then y1081 else y1079)), h, rfl⟩ ⟨(.cons rfl (.eq (by first | rfl | simp)) lk_), by exact (SubM.of (.drop (.keep rfl rfl (.refl _) (.nil _))) (.nil _))⟩
      ·replace h := h.2 hp1078
       refine xcondF' (decide_eq_false hp1078) rfl ?_
       refine sr_ ?_
       refine vp_ (pv_bin2 rfl rfl rfl) ?_
       refine as_ ?_
       refine nt_ ?_
       by_cases hp1088 : y1019.1 = 4
       ·replace h := h.1 hp1088
        refine xcondT' (decide_eq_true hp1088) rfl ?_
        refine xregionD (m := 12) (by kernel_rfl) rfl ?_
        obtain ⟨h1090a, h⟩ := h
        obtain ⟨y1089, h1090b, h⟩ := h
        obtain ⟨h1091, h⟩ := h
        obtain ⟨h1093a, h⟩ := h
        obtain ⟨y1092, h1093b, h⟩ := h
        refine pl_ 0 rfl (pv_move rfl) ?_
        refine pl_ 1 rfl (pv_move rfl) ?_
        refine pl_ 2 rfl (qv_fieldAddrB FldC.h rfl) ?_
        refine pl_ 4 rfl (pv_move rfl) ?_
        refine pl_ 5 rfl (qv_fieldAddrB FldC.h rfl) ?_
        refine xpvalE 3 [6, 7, 8] rfl (qv_loadB 0 ShpC.h rfl rfl rfl rfl) rfl rfl (by kernel_rfl) (by kernel_rfl) (by kernel_rfl) (fun _ _ _ _ h => h) ?_
        refine xpvalE 6 [] rfl (qv_loadB 0 ShpC.h rfl rfl rfl rfl) rfl rfl (by kernel_rfl) (by kernel_rfl) (by kernel_rfl) (fun _ _ _ _ h => h) ?_
        refine pl_ 7 rfl (pv_indexAddrRbM rfl h1090a h1090b UndC.h ShpC.h rfl rfl) ?_
        refine xpvalE 8 [] rfl (qv_loadRb (f := ei) (k := 1) (off := 0) (i := (y1019.2.1 : Int).toNat) 1 h1090b rfl (by decide) rfl ShpC.h rfl rfl) rfl rfl (by kernel_rfl) (by kernel_rfl) (by kernel_rfl) (fun _ _ _ _ h => h) ?_
        refine pl_ 9 rfl (pv_mulI h1091 rfl rfl) ?_
        refine pl_ 10 rfl (pv_indexAddrRbM rfl h1093a h1093b UndC.h ShpC.h rfl rfl) ?_
        refine xpstep (i := 11) (by kernel_rfl) rfl ?_
        refine wstoreRb (f := ei) (k := 1) (off := 0) (i := (x743 : Int).toNat) 1 (y1019.2.2.2.1 * y1089) h1093b rfl (by decide) ShpC.h rfl rfl rfl rfl sl_ (.refl _) rfl ?_
        refine xpdone (by kernel_rfl) ?_
        refine xin_normal ?_
        exact xmeet ⟨(l744.set (x743 : Int).toNat (y1019.2.2.2.1 * y1089)), h, rfl⟩ ⟨(.cons rfl (.eq (by first | rfl | simp)) lk_), by exact (SubM.of (.drop (.keep rfl rfl (.refl _) (.nil _))) (.nil _))⟩
       ·replace h := h.2 hp1088
        refine xcondF' (decide_eq_false hp1088) rfl ?_
        refine sr_ ?_
        refine vp_ (pv_bin2 rfl rfl rfl) ?_
        refine as_ ?_
        refine nt_ ?_
        by_cases hp1096 : y1019.1 = 5
        ·replace h := h.1 hp1096
         refine xcondT' (decide_eq_true hp1096) rfl ?_
         refine xregion ?_
         refine mv_ ?_
         refine mv_ ?_
         refine mv_ ?_
         refine vp_ (qv_fieldAddrB FldC.h rfl) ?_
         refine v_ (qv_loadB 0 ShpC.h rfl rfl rfl rfl) ?_
         obtain ⟨h1098a, h⟩ := h
         obtain ⟨y1097, h1098b, h⟩ := h
         refine vp_ (pv_indexAddrRbM rfl h1098a h1098b UndC.h ShpC.h rfl rfl) ?_
         refine v_ (qv_loadRb (f := ei) (k := 1) (off := 0) (i := (y1019.2.1 : Int).toNat) 1 h1098b rfl (by decide) rfl ShpC.h rfl rfl) ?_
         obtain ⟨h1100a, h⟩ := h
         obtain ⟨y1099, h1100b, h⟩ := h
         refine vp_ (pv_indexAddrRbM rfl h1100a h1100b UndC.h ShpC.h rfl rfl) ?_
         refine xstoreRb (f := ei) (k := 1) (off := 0) (i := (x743 : Int).toNat) 1 y1097 h1100b rfl (by decide) ShpC.h rfl rfl rfl rfl sl_ (.refl _) rfl ?_
         refine xnil ?_
         refine xin_normal ?_
         exact xmeet ⟨(l744.set (x743 : Int).toNat y1097), h, rfl⟩ ⟨(.cons rfl (.eq (by first | rfl | simp)) lk_), by exact (SubM.of (.drop (.keep rfl rfl (.refl _) (.nil _))) (.nil _))⟩
        ·replace h := h.2 hp1096
         refine xcondF' (decide_eq_false hp1096) rfl ?_
         refine xskipc ?_
         refine xin_normal ?_
         exact xmeet ⟨l744, h, rfl⟩ ⟨(.cons rfl (.eq (by first | rfl | simp)) lk_), by exact (SubM.of (.drop (.keep rfl rfl (.refl _) (.nil _))) (.nil _))⟩
   ·clear h
    rintro _ ⟨l1061, h, rfl⟩
    refine xregion ?_
    refine mv_ ?_
    refine mv_ ?_
    refine mv_ ?_
    refine mv_ ?_
    obtain ⟨h1103a, h⟩ := h
    obtain ⟨y1102, h1103b, h⟩ := h
    refine vp_ (pv_indexAddrRbM rfl h1103a h1103b UndC.h ShpC.h rfl rfl) ?_
    refine v_ (qv_loadRb (f := ei) (k := 1) (off := 0) (i := (x743 : Int).toNat) 0 h1103b rfl (by decide) rfl ShpC.h rfl rfl) ?_
    refine vp_ (pv_min rfl rfl) ?_
    obtain ⟨h1106a, h⟩ := h
    obtain ⟨y1105, h1106b, h⟩ := h
    refine vp_ (pv_indexAddrRbM rfl h1106a h1106b UndC.h ShpC.h rfl rfl) ?_
    refine xstoreRb (f := ei) (k := 1) (off := 0) (i := (x743 : Int).toNat) 0 (if 65537 < y1102 then 65537 else y1102) h1106b rfl (by decide) ShpC.h rfl rfl rfl rfl sl_ (.refl _) rfl ?_
    refine xnil ?_
    refine xin_normal ?_
    refine xthen ?_
    refine xregion ?_
    obtain ⟨h1108, h⟩ := h
    refine vp_ (pv_addI h1108 rfl rfl) ?_
    refine mv_ ?_
    refine xnil ?_
    obtain ⟨m', hm, hI⟩ := hag1 _ h
    exact xagain ⟨(x743 + 1), (l1061.set (x743 : Int).toNat (if 65537 < y1102 then 65537 else y1102)), hI, rfl⟩ hm ⟨(.cons rfl (.eq (by first | rfl | simp)) lk_), by exact (SubM.of (.keep rfl rfl (.refl _) (.nil _)) (.nil _))⟩
  ·replace h := h.2 hp929
   refine xcondF' (decide_eq_false hp929) rfl ?_
   refine xexit ?_
   refine xthen_exit ?_
   refine xthen_exit ?_
   refine xin_same rfl ?_
   refine xthen ?_
   refine sr_ ?_
   refine mv_ ?_
   refine mv_ ?_
   refine vp_ (pv_lenRb UndC.h rfl) ?_
   obtain ⟨h1110, h⟩ := h
   refine vp_ (pv_subI h1110 rfl rfl) ?_
   obtain ⟨h1112a, h⟩ := h
   obtain ⟨y1111, h1112b, h⟩ := h
   refine vp_ (pv_indexAddrRbM rfl h1112a h1112b UndC.h ShpC.h rfl rfl) ?_
   refine v_ (qv_loadRb (f := ei) (k := 1) (off := 0) (i := ((((l744.length : Nat) : Int) - 1) : Int).toNat) 0 h1112b rfl (by decide) rfl ShpC.h rfl rfl) ?_
   refine as_ ?_
   refine nt_ ?_
   refine xretc ?_
   replace h := h.symm
   subst h
   exact xret1 (bx' := []) (tk' := []) hg rfl rfl (.refl _) (SubM.of (.nil _) (.nil _)) ⟨rfl, rfl, rfl⟩
end Go.Proofs.Ytnjnbegjhklcgaa
