
/- What functions' texts ask for, and the walks that show it (printed by a program). -/
import Derived.Test.YtnefabncdpkbmaaGKp3
namespace Go.Proofs.Ytnefabncdpkbmaa
/-- tree.Right -/
def tree_Right_l3 (y1213 : (List Int)) (y1162 : Int × Int × Int × Int × Int × Int × (Arr 4 (UInt64))) (f856 : Arr 10 (Int)) (x854 : Int) (ag2 : (Int × (List Int) × (Arr 10 (Int))) → Prop) (ag3 : (Int × (List Int)) → Prop) (x1228 : Int) (l1229 : List Int) (r : Bool) : Prop :=
 ((x1228 < (y1213.length : Int) → 0 ≤ (x1228 : Int) ∧ ∃ y1245 : Int, y1213[(x1228 : Int).toNat]? = some y1245 ∧ 0 ≤ (y1245 : Int) ∧ ∃ y1247 : Int, l1229[(y1245 : Int).toNat]? = some y1247 ∧ InR (y1247 + 1) ∧ 0 ≤ (y1245 : Int) ∧ ∃ y1250 : Int, l1229[(y1245 : Int).toNat]? = some y1250 ∧ InR (x1228 + 1) ∧ ag3 ((x1228 + 1), (l1229.set (y1245 : Int).toNat (y1247 + 1)))) ∧ (¬ (x1228 < (y1213.length : Int)) → ((y1162.1 = 5 → (0 ≤ (y1162.2.2.2.2.2.1 : Int) ∧ (y1162.2.2.2.2.2.1 : Int) < 10) ∧ ∃ y1257 : Int, f856.l[(y1162.2.2.2.2.2.1 : Int).toNat]? = some y1257 ∧ InR (y1257 + 1) ∧ (0 ≤ (y1162.2.2.2.2.2.1 : Int) ∧ (y1162.2.2.2.2.2.1 : Int) < 10) ∧ ∃ y1260 : Int, f856.l[(y1162.2.2.2.2.2.1 : Int).toNat]? = some y1260 ∧ InR (x854 + 1) ∧ ag2 ((x854 + 1), l1229, (Arr.set f856 (y1162.2.2.2.2.2.1 : Int).toNat ((y1257 + 1))))) ∧ (¬ (y1162.1 = 5) → InR (x854 + 1) ∧ ag2 ((x854 + 1), l1229, f856)))))
def tree_Right_l5 (x1 : (List (Int × Int × Int × Int × Int × Int × (Arr 4 (UInt64)))) × Int) (f856 : Arr 10 (Int)) (ag5 : (Int) → Prop) (x1398 : Int) (r : Bool) : Prop :=
 ((x1398 < ((((x1.2 + 1) : Int).toNat - (1 : Int).toNat : Nat) : Int) → (0 ≤ (x1398 : Int) ∧ (x1398 : Int) < ((((x1.2 + 1) : Int).toNat - (1 : Int).toNat : Nat) : Int)) ∧ ∃ y1418 : Int, f856.l[((((1 : Int).toNat + (x1398 : Int).toNat : Nat) : Int) : Int).toNat]? = some y1418 ∧ ((¬ (y1418 = 1) → r = false) ∧ (¬ (¬ (y1418 = 1)) → InR (x1398 + 1) ∧ ag5 (x1398 + 1)))) ∧ (¬ (x1398 < ((((x1.2 + 1) : Int).toNat - (1 : Int).toNat : Nat) : Int)) → r = true))
def tree_Right_l4 (l855 : List Int) (x1 : (List (Int × Int × Int × Int × Int × Int × (Arr 4 (UInt64)))) × Int) (f856 : Arr 10 (Int)) (ag4 : (Int) → Prop) (x1318 : Int) (r : Bool) : Prop :=
 ((x1318 < (((l855.take (((x1.1.length : Int) - 1) : Int).toNat).length : Nat) : Int) → 0 ≤ (x1318 : Int) ∧ ∃ y1338 : Int, ((l855.take (((x1.1.length : Int) - 1) : Int).toNat))[(x1318 : Int).toNat]? = some y1338 ∧ ((¬ (y1338 = 1) → r = false) ∧ (¬ (¬ (y1338 = 1)) → InR (x1318 + 1) ∧ ag4 (x1318 + 1)))) ∧ (¬ (x1318 < (((l855.take (((x1.1.length : Int) - 1) : Int).toNat).length : Nat) : Int)) → InR (x1.2 + 1) ∧ (0 : Int) ≤ 1 ∧ (0 : Int) ≤ (x1.2 + 1) ∧ ((1 : Int).toNat ≤ ((x1.2 + 1) : Int).toNat ∧ ((x1.2 + 1) : Int).toNat ≤ 10 ∧ (1 : Int).toNat < 10) ∧ LoopR (fun ag5 s => tree_Right_l5 x1 f856 ag5 s r) 0))
def tree_Right_l2 (x1 : (List (Int × Int × Int × Int × Int × Int × (Arr 4 (UInt64)))) × Int) (ag2 : (Int × (List Int) × (Arr 10 (Int))) → Prop) (x854 : Int) (l855 : List Int) (f856 : Arr 10 (Int)) (r : Bool) : Prop :=
 ((x854 < (x1.1.length : Int) → 0 ≤ (x854 : Int) ∧ ∃ y1162 : Int × Int × Int × Int × Int × Int × (Arr 4 (UInt64)), x1.1[(x854 : Int).toNat]? = some y1162 ∧ ∃ y1168 : Bool, tree_isNode_R y1162 x854 x1.2 y1168 ∧ ((¬ (y1168 = true) → r = false) ∧ (¬ (¬ (y1168 = true)) → ∃ y1213 : (List Int), tree_parts_R y1162 y1213 ∧ LoopR (fun ag3 s => tree_Right_l3 y1213 y1162 f856 x854 ag2 ag3 s.1 s.2 r) (0, l855)))) ∧ (¬ (x854 < (x1.1.length : Int)) → InR ((x1.1.length : Int) - 1) ∧ (0 ≤ (((x1.1.length : Int) - 1) : Int) ∧ (((x1.1.length : Int) - 1) : Int) ≤ ((l855.length : Nat) : Int)) ∧ LoopR (fun ag4 s => tree_Right_l4 l855 x1 f856 ag4 s r) 0))
def tree_Right_j1 (x1 : (List (Int × Int × Int × Int × Int × Int × (Arr 4 (UInt64)))) × Int) (x26 : Bool) (r : Bool) : Prop :=
 ((x26 = true → r = false) ∧ (¬ (x26 = true) → MakeOk ((x1.1.length : Int)) ((x1.1.length : Int)) 8 ∧ LoopR (fun ag2 s => tree_Right_l2 x1 ag2 s.1 s.2.1 s.2.2 r) (0, (List.replicate ((x1.1.length : Int) : Int).toNat 0), (Arr.rep 10 0))))
def tree_Right_R (x1 : (List (Int × Int × Int × Int × Int × Int × (Arr 4 (UInt64)))) × Int) (r : Bool) : Prop :=
 tree_Right_j1 x1 ((decide ((x1.1.length : Int) < 1)) || ((decide (1000 < (x1.1.length : Int))) || ((decide (x1.2 < 0)) || (decide (9 < x1.2))))) r
def tree_Right_l3_ev (fuel : Nat) (y1213 : (List Int)) (y1162 : Int × Int × Int × Int × Int × Int × (Arr 4 (UInt64))) (f856 : Arr 10 (Int)) (x854 : Int) (ag2e : (Int × (List Int) × (Arr 10 (Int))) → Option (Bool)) (ag3e : (Int × (List Int)) → Option (Bool)) (x1228 : Int) (l1229 : List Int) : Option (Bool) :=
 (if x1228 < (y1213.length : Int) then (if 0 ≤ (x1228 : Int) then ((y1213[(x1228 : Int).toNat]?).bind fun y1245 => (if 0 ≤ (y1245 : Int) then ((l1229[(y1245 : Int).toNat]?).bind fun y1247 => (if InR (y1247 + 1) then (if 0 ≤ (y1245 : Int) then ((l1229[(y1245 : Int).toNat]?).bind fun y1250 => (if InR (x1228 + 1) then ag3e ((x1228 + 1), (l1229.set (y1245 : Int).toNat (y1247 + 1))) else none)) else none) else none)) else none)) else none) else (if y1162.1 = 5 then (if (0 ≤ (y1162.2.2.2.2.2.1 : Int) ∧ (y1162.2.2.2.2.2.1 : Int) < 10) then ((f856.l[(y1162.2.2.2.2.2.1 : Int).toNat]?).bind fun y1257 => (if InR (y1257 + 1) then (if (0 ≤ (y1162.2.2.2.2.2.1 : Int) ∧ (y1162.2.2.2.2.2.1 : Int) < 10) then ((f856.l[(y1162.2.2.2.2.2.1 : Int).toNat]?).bind fun y1260 => (if InR (x854 + 1) then ag2e ((x854 + 1), l1229, (Arr.set f856 (y1162.2.2.2.2.2.1 : Int).toNat ((y1257 + 1)))) else none)) else none) else none)) else none) else (if InR (x854 + 1) then ag2e ((x854 + 1), l1229, f856) else none)))
theorem tree_Right_l3_ok {fuel : Nat} {y1213 : (List Int)} {y1162 : Int × Int × Int × Int × Int × Int × (Arr 4 (UInt64))} {f856 : Arr 10 (Int)} {x854 : Int} {ag2 : (Int × (List Int) × (Arr 10 (Int))) → Prop} {ag2e : (Int × (List Int) × (Arr 10 (Int))) → Option (Bool)} {ag3e : (Int × (List Int)) → Option (Bool)} {ag3 : (Int × (List Int)) → Prop} {x1228 : Int} {l1229 : List Int} {r : Bool} (hagag2 : ∀ s, ag2e s = some r → ag2 s) (hagag3 : ∀ s, ag3e s = some r → ag3 s) (h : tree_Right_l3_ev fuel y1213 y1162 f856 x854 ag2e ag3e x1228 l1229 = some r) : tree_Right_l3 y1213 y1162 f856 x854 ag2 ag3 x1228 l1229 r := by
 unfold tree_Right_l3_ev at h
 unfold tree_Right_l3
 refine ⟨fun g85 => ?_, fun g85 => ?_⟩
 ·rw [if_pos g85] at h
  obtain ⟨g86, h⟩ := if_ok h
  refine ⟨g86, ?_⟩
  obtain ⟨q87, g87, h⟩ := bind_ok h
  refine ⟨q87, g87, ?_⟩
  obtain ⟨g88, h⟩ := if_ok h
  refine ⟨g88, ?_⟩
  obtain ⟨q89, g89, h⟩ := bind_ok h
  refine ⟨q89, g89, ?_⟩
  obtain ⟨g90, h⟩ := if_ok h
  refine ⟨g90, ?_⟩
  obtain ⟨g91, h⟩ := if_ok h
  refine ⟨g91, ?_⟩
  obtain ⟨q92, g92, h⟩ := bind_ok h
  refine ⟨q92, g92, ?_⟩
  obtain ⟨g93, h⟩ := if_ok h
  refine ⟨g93, ?_⟩
  exact hagag3 _ h
 ·rw [if_neg g85] at h
  refine ⟨fun g94 => ?_, fun g94 => ?_⟩
  ·rw [if_pos g94] at h
   obtain ⟨g95, h⟩ := if_ok h
   refine ⟨g95, ?_⟩
   obtain ⟨q96, g96, h⟩ := bind_ok h
   refine ⟨q96, g96, ?_⟩
   obtain ⟨g97, h⟩ := if_ok h
   refine ⟨g97, ?_⟩
   obtain ⟨g98, h⟩ := if_ok h
   refine ⟨g98, ?_⟩
   obtain ⟨q99, g99, h⟩ := bind_ok h
   refine ⟨q99, g99, ?_⟩
   obtain ⟨g100, h⟩ := if_ok h
   refine ⟨g100, ?_⟩
   exact hagag2 _ h
  ·rw [if_neg g94] at h
   obtain ⟨g101, h⟩ := if_ok h
   refine ⟨g101, ?_⟩
   exact hagag2 _ h
def tree_Right_l5_ev (fuel : Nat) (x1 : (List (Int × Int × Int × Int × Int × Int × (Arr 4 (UInt64)))) × Int) (f856 : Arr 10 (Int)) (ag5e : (Int) → Option (Bool)) (x1398 : Int) : Option (Bool) :=
 (if x1398 < ((((x1.2 + 1) : Int).toNat - (1 : Int).toNat : Nat) : Int) then (if (0 ≤ (x1398 : Int) ∧ (x1398 : Int) < ((((x1.2 + 1) : Int).toNat - (1 : Int).toNat : Nat) : Int)) then ((f856.l[((((1 : Int).toNat + (x1398 : Int).toNat : Nat) : Int) : Int).toNat]?).bind fun y1418 => (if ¬ (y1418 = 1) then some false else (if InR (x1398 + 1) then ag5e (x1398 + 1) else none))) else none) else some true)
theorem tree_Right_l5_ok {fuel : Nat} {x1 : (List (Int × Int × Int × Int × Int × Int × (Arr 4 (UInt64)))) × Int} {f856 : Arr 10 (Int)} {ag5e : (Int) → Option (Bool)} {ag5 : (Int) → Prop} {x1398 : Int} {r : Bool} (hagag5 : ∀ s, ag5e s = some r → ag5 s) (h : tree_Right_l5_ev fuel x1 f856 ag5e x1398 = some r) : tree_Right_l5 x1 f856 ag5 x1398 r := by
 unfold tree_Right_l5_ev at h
 unfold tree_Right_l5
 refine ⟨fun g102 => ?_, fun g102 => ?_⟩
 ·rw [if_pos g102] at h
  obtain ⟨g103, h⟩ := if_ok h
  refine ⟨g103, ?_⟩
  obtain ⟨q104, g104, h⟩ := bind_ok h
  refine ⟨q104, g104, ?_⟩
  refine ⟨fun g105 => ?_, fun g105 => ?_⟩
  ·rw [if_pos g105] at h
   exact (Option.some.inj h).symm
  ·rw [if_neg g105] at h
   obtain ⟨g106, h⟩ := if_ok h
   refine ⟨g106, ?_⟩
   exact hagag5 _ h
 ·rw [if_neg g102] at h
  exact (Option.some.inj h).symm
def tree_Right_l4_ev (fuel : Nat) (l855 : List Int) (x1 : (List (Int × Int × Int × Int × Int × Int × (Arr 4 (UInt64)))) × Int) (f856 : Arr 10 (Int)) (ag4e : (Int) → Option (Bool)) (x1318 : Int) : Option (Bool) :=
 (if x1318 < (((l855.take (((x1.1.length : Int) - 1) : Int).toNat).length : Nat) : Int) then (if 0 ≤ (x1318 : Int) then ((((l855.take (((x1.1.length : Int) - 1) : Int).toNat))[(x1318 : Int).toNat]?).bind fun y1338 => (if ¬ (y1338 = 1) then some false else (if InR (x1318 + 1) then ag4e (x1318 + 1) else none))) else none) else (if InR (x1.2 + 1) then (if (0 : Int) ≤ 1 then (if (0 : Int) ≤ (x1.2 + 1) then (if ((1 : Int).toNat ≤ ((x1.2 + 1) : Int).toNat ∧ ((x1.2 + 1) : Int).toNat ≤ 10 ∧ (1 : Int).toNat < 10) then (loopE (fun ag5e s => tree_Right_l5_ev fuel x1 f856 ag5e s) fuel 0) else none) else none) else none) else none))
theorem tree_Right_l4_ok {fuel : Nat} {l855 : List Int} {x1 : (List (Int × Int × Int × Int × Int × Int × (Arr 4 (UInt64)))) × Int} {f856 : Arr 10 (Int)} {ag4e : (Int) → Option (Bool)} {ag4 : (Int) → Prop} {x1318 : Int} {r : Bool} (hagag4 : ∀ s, ag4e s = some r → ag4 s) (h : tree_Right_l4_ev fuel l855 x1 f856 ag4e x1318 = some r) : tree_Right_l4 l855 x1 f856 ag4 x1318 r := by
 unfold tree_Right_l4_ev at h
 unfold tree_Right_l4
 refine ⟨fun g107 => ?_, fun g107 => ?_⟩
 ·rw [if_pos g107] at h
  obtain ⟨g108, h⟩ := if_ok h
  refine ⟨g108, ?_⟩
  obtain ⟨q109, g109, h⟩ := bind_ok h
  refine ⟨q109, g109, ?_⟩
  refine ⟨fun g110 => ?_, fun g110 => ?_⟩
  ·rw [if_pos g110] at h
   exact (Option.some.inj h).symm
  ·rw [if_neg g110] at h
   obtain ⟨g111, h⟩ := if_ok h
   refine ⟨g111, ?_⟩
   exact hagag4 _ h
 ·rw [if_neg g107] at h
  obtain ⟨g112, h⟩ := if_ok h
  refine ⟨g112, ?_⟩
  obtain ⟨g113, h⟩ := if_ok h
  refine ⟨g113, ?_⟩
  obtain ⟨g114, h⟩ := if_ok h
  refine ⟨g114, ?_⟩
  obtain ⟨g115, h⟩ := if_ok h
  refine ⟨g115, ?_⟩
  refine loopE_ok ?_ h
  intro ae ag s hag h
  exact tree_Right_l5_ok hag h
def tree_Right_l2_ev (fuel : Nat) (x1 : (List (Int × Int × Int × Int × Int × Int × (Arr 4 (UInt64)))) × Int) (ag2e : (Int × (List Int) × (Arr 10 (Int))) → Option (Bool)) (x854 : Int) (l855 : List Int) (f856 : Arr 10 (Int)) : Option (Bool) :=
 (if x854 < (x1.1.length : Int) then (if 0 ≤ (x854 : Int) then ((x1.1[(x854 : Int).toNat]?).bind fun y1162 => ((tree_isNode_ev fuel y1162 x854 x1.2).bind fun y1168 => (if ¬ (y1168 = true) then some false else ((tree_parts_ev fuel y1162).bind fun y1213 => (loopE (fun ag3e s => tree_Right_l3_ev fuel y1213 y1162 f856 x854 ag2e ag3e s.1 s.2) fuel (0, l855)))))) else none) else (if InR ((x1.1.length : Int) - 1) then (if (0 ≤ (((x1.1.length : Int) - 1) : Int) ∧ (((x1.1.length : Int) - 1) : Int) ≤ ((l855.length : Nat) : Int)) then (loopE (fun ag4e s => tree_Right_l4_ev fuel l855 x1 f856 ag4e s) fuel 0) else none) else none))
theorem tree_Right_l2_ok {fuel : Nat} {x1 : (List (Int × Int × Int × Int × Int × Int × (Arr 4 (UInt64)))) × Int} {ag2e : (Int × (List Int) × (Arr 10 (Int))) → Option (Bool)} {ag2 : (Int × (List Int) × (Arr 10 (Int))) → Prop} {x854 : Int} {l855 : List Int} {f856 : Arr 10 (Int)} {r : Bool} (hagag2 : ∀ s, ag2e s = some r → ag2 s) (h : tree_Right_l2_ev fuel x1 ag2e x854 l855 f856 = some r) : tree_Right_l2 x1 ag2 x854 l855 f856 r := by
 unfold tree_Right_l2_ev at h
 unfold tree_Right_l2
 refine ⟨fun g116 => ?_, fun g116 => ?_⟩
 ·rw [if_pos g116] at h
  obtain ⟨g117, h⟩ := if_ok h
  refine ⟨g117, ?_⟩
  obtain ⟨q118, g118, h⟩ := bind_ok h
  refine ⟨q118, g118, ?_⟩
  obtain ⟨q119, g119, h⟩ := bind_ok h
  refine ⟨q119, tree_isNode_ok g119, ?_⟩
  refine ⟨fun g120 => ?_, fun g120 => ?_⟩
  ·rw [if_pos g120] at h
   exact (Option.some.inj h).symm
  ·rw [if_neg g120] at h
   obtain ⟨q121, g121, h⟩ := bind_ok h
   refine ⟨q121, tree_parts_ok g121, ?_⟩
   refine loopE_ok ?_ h
   intro ae ag s hag h
   exact tree_Right_l3_ok hagag2 hag h
 ·rw [if_neg g116] at h
  obtain ⟨g122, h⟩ := if_ok h
  refine ⟨g122, ?_⟩
  obtain ⟨g123, h⟩ := if_ok h
  refine ⟨g123, ?_⟩
  refine loopE_ok ?_ h
  intro ae ag s hag h
  exact tree_Right_l4_ok hag h
def tree_Right_j1_ev (fuel : Nat) (x1 : (List (Int × Int × Int × Int × Int × Int × (Arr 4 (UInt64)))) × Int) (x26 : Bool) : Option (Bool) :=
 (if x26 = true then some false else (if MakeOk ((x1.1.length : Int)) ((x1.1.length : Int)) 8 then (loopE (fun ag2e s => tree_Right_l2_ev fuel x1 ag2e s.1 s.2.1 s.2.2) fuel (0, (List.replicate ((x1.1.length : Int) : Int).toNat 0), (Arr.rep 10 0))) else none))
theorem tree_Right_j1_ok {fuel : Nat} {x1 : (List (Int × Int × Int × Int × Int × Int × (Arr 4 (UInt64)))) × Int} {x26 : Bool} {r : Bool} (h : tree_Right_j1_ev fuel x1 x26 = some r) : tree_Right_j1 x1 x26 r := by
 unfold tree_Right_j1_ev at h
 unfold tree_Right_j1
 refine ⟨fun g124 => ?_, fun g124 => ?_⟩
 ·rw [if_pos g124] at h
  exact (Option.some.inj h).symm
 ·rw [if_neg g124] at h
  obtain ⟨g125, h⟩ := if_ok h
  refine ⟨g125, ?_⟩
  refine loopE_ok ?_ h
  intro ae ag s hag h
  exact tree_Right_l2_ok hag h
def tree_Right_ev (fuel : Nat) (x1 : (List (Int × Int × Int × Int × Int × Int × (Arr 4 (UInt64)))) × Int) : Option (Bool) :=
 tree_Right_j1_ev fuel x1 ((decide ((x1.1.length : Int) < 1)) || ((decide (1000 < (x1.1.length : Int))) || ((decide (x1.2 < 0)) || (decide (9 < x1.2)))))
theorem tree_Right_ok {fuel : Nat} {x1 : (List (Int × Int × Int × Int × Int × Int × (Arr 4 (UInt64)))) × Int} {r : Bool} (h : tree_Right_ev fuel x1 = some r) : tree_Right_R x1 r := by
 unfold tree_Right_ev at h
 unfold tree_Right_R
 exact tree_Right_j1_ok h
set_option maxRecDepth 100000 in
set_option maxHeartbeats 4000000 in
theorem tree_Right_con (x1 : (List (Int × Int × Int × Int × Int × Int × (Arr 4 (UInt64)))) × Int) (r : Bool) (h : tree_Right_R x1 r) : Con Try.prog 13 [.agg [.sl 10 none (List.map E_palinode_api_Node x1.1), .v (.int .i64 x1.2)]] [] [] (Ret (.v (.bool r))) := by
 refine xenter Try.func13 rfl rfl fun g hg => ?_
 simp only [Try.ntmps13, slots]
 unfold tree_Right_R at h
 refine sr_ ?_
 refine xbox rfl rfl rfl rfl fun b1 => ?_
 refine as_ ?_
 refine nt_ ?_
 refine sr_ ?_
 refine vp_ (qv_fieldAddrB FldC.h rfl) ?_
 refine v_ (qv_loadB 0 ShpC.h rfl rfl rfl rfl) ?_
 refine vp_ (pv_lenM UndC.h rfl) ?_
 refine as_ ?_
 refine nt_ ?_
 refine xseq ?_
 refine xseqM (fun σ => ∃ (x26 : Bool), tree_Right_j1 x1 x26 r ∧ σ = ⟨[(1, .v (.pointer (some ⟨b1, 0, none⟩))), (3, .v (.int .i64 ((x1.1.length : Int)))), (32, .v (.bool x26))], [⟨b1, 24, [.sl 10 none (List.map E_palinode_api_Node x1.1), .v (.int .i64 x1.2)]⟩], []⟩) ?_ ?_
 ·refine xregion ?_
  refine mv_ ?_
  refine vp_ (pv_bin2 rfl rfl rfl) ?_
  refine mv_ ?_
  by_cases hp28 : (x1.1.length : Int) < 1
  ·rw [or_tt (show (decide ((x1.1.length : Int) < 1)) = true from (decide_eq_true hp28))] at h
   refine xsetB 19 (decide_eq_true hp28) rfl ?_
   refine sk_ ?_
   refine sk_ ?_
   refine pk_ ?_
   refine mv_ ?_
   refine sk_ ?_
   refine sk_ ?_
   refine sk_ ?_
   refine pk_ ?_
   refine mv_ ?_
   refine sk_ ?_
   refine sk_ ?_
   refine sk_ ?_
   refine pk_ ?_
   refine xnil ?_
   exact xmeet ⟨true, h, rfl⟩ ⟨lk_, (SubM.of (.keep rfl rfl (.refl _) (.nil _)) (.nil _))⟩
  ·rw [or_ff (show (decide ((x1.1.length : Int) < 1)) = false from (decide_eq_false hp28))] at h
   refine xsetB 19 (decide_eq_false hp28) rfl ?_
   refine mv_ ?_
   refine vp_ (pv_bin2 rfl rfl rfl) ?_
   refine pk_ ?_
   refine mv_ ?_
   by_cases hp30 : 1000 < (x1.1.length : Int)
   ·rw [or_tt (show (decide (1000 < (x1.1.length : Int))) = true from (decide_eq_true hp30))] at h
    refine xsetB 23 (decide_eq_true hp30) rfl ?_
    refine sk_ ?_
    refine sk_ ?_
    refine sk_ ?_
    refine pk_ ?_
    refine mv_ ?_
    refine sk_ ?_
    refine sk_ ?_
    refine sk_ ?_
    refine pk_ ?_
    refine xnil ?_
    exact xmeet ⟨true, h, rfl⟩ ⟨lk_, (SubM.of (.keep rfl rfl (.refl _) (.nil _)) (.nil _))⟩
   ·rw [or_ff (show (decide (1000 < (x1.1.length : Int))) = false from (decide_eq_false hp30))] at h
    refine xsetB 23 (decide_eq_false hp30) rfl ?_
    refine vp_ (qv_fieldAddrB FldC.h rfl) ?_
    refine v_ (qv_loadB 0 ShpC.h rfl rfl rfl rfl) ?_
    refine vp_ (pv_bin2 rfl rfl rfl) ?_
    refine pk_ ?_
    refine mv_ ?_
    by_cases hp32 : x1.2 < 0
    ·rw [or_tt (show (decide (x1.2 < 0)) = true from (decide_eq_true hp32))] at h
     refine xsetB 28 (decide_eq_true hp32) rfl ?_
     refine sk_ ?_
     refine sk_ ?_
     refine sk_ ?_
     refine pk_ ?_
     refine xnil ?_
     exact xmeet ⟨true, h, rfl⟩ ⟨lk_, (SubM.of (.keep rfl rfl (.refl _) (.nil _)) (.nil _))⟩
    ·rw [or_ff (show (decide (x1.2 < 0)) = false from (decide_eq_false hp32))] at h
     refine xsetB 28 (decide_eq_false hp32) rfl ?_
     refine vp_ (qv_fieldAddrB FldC.h rfl) ?_
     refine v_ (qv_loadB 0 ShpC.h rfl rfl rfl rfl) ?_
     refine vp_ (pv_bin2 rfl rfl rfl) ?_
     refine pk_ ?_
     refine xnil ?_
     exact xmeet ⟨(decide (9 < x1.2)), h, rfl⟩ ⟨lk_, (SubM.of (.keep rfl rfl (.refl _) (.nil _)) (.nil _))⟩
 ·clear h
  rintro _ ⟨x26, h, rfl⟩
  by_cases hp34 : x26 = true
  ·replace h := h.1 hp34
   refine xcondT' hp34 rfl ?_
   refine sr_ ?_
   refine as_ ?_
   refine nt_ ?_
   refine xretc ?_
   refine xthen_ret ?_
   replace h := h.symm
   subst h
   exact xret1 hg rfl rfl (.refl _) (SubM.of (.nil _) (.nil _)) ⟨rfl, rfl, rfl⟩
  ·replace h := h.2 hp34
   refine xcondF' (b_f hp34) rfl ?_
   refine xskipc ?_
   refine xthen ?_
   refine sr_ ?_
   refine mv_ ?_
   obtain ⟨h35, h⟩ := h
   refine xmakeRb (f := ei) 0 h35 UndC.h InfC.h (.refl _) rfl rfl rfl rfl fun i36 => ?_
   refine as_ ?_
   refine nt_ ?_
   refine sr_ ?_
   refine xalloc InfC.h rfl rfl fun b5 => ?_
   refine xreb 0 ((List.map ei ((Arr.rep 10 0)).l).flatten) rfl rfl ?_
   refine nt_ ?_
   refine xseq ?_
   refine sr_ ?_
   refine vp_ (qv_fieldAddrB FldC.h rfl) ?_
   refine v_ (qv_loadB 2 ShpC.h rfl rfl rfl rfl) ?_
   refine vp_ (pv_lenM UndC.h rfl) ?_
   refine mv_ ?_
   refine nt_ ?_
   refine xblock ?_
   obtain ⟨Inv, ⟨m0, hI⟩, hS⟩ := h
   refine xloop (fun σ m => ∃ (x854 : Int), ∃ (l855 : List Int), ∃ (f856 : Arr 10 (Int)), Inv (x854, l855, f856) m ∧ σ = ⟨[(1, .v (.pointer (some ⟨b1, 0, none⟩))), (3, .v (.int .i64 ((x1.1.length : Int)))), (4, .rb i36 l855.length), (5, .v (.pointer (some ⟨b5, 0, none⟩))), (36, .sl 10 none (List.map E_palinode_api_Node x1.1)), (37, .v (.int .i64 ((x1.1.length : Int)))), (38, .v (.int .i64 x854))], [⟨b5, 75, ((List.map ei f856.l).flatten)⟩, rbx i36 3 1 (List.map ei l855), ⟨b1, 24, [.sl 10 none (List.map E_palinode_api_Node x1.1), .v (.int .i64 x1.2)]⟩], []⟩) ⟨0, (List.replicate ((x1.1.length : Int) : Int).toNat 0), (Arr.rep 10 0), hI, rfl⟩ (by exact ⟨(.cons rfl (.refl _) (.cons rfl (.refl _) (.cons rfl (.eq (by first | rfl | simp)) lk_))), by exact (SubM.of (.keep rfl rfl (.refl _) (.keep rfl rfl (.refl _) (.keep rfl rfl (.refl _) (.nil _)))) (.nil _))⟩) ?_
   rintro _ m ⟨x854, l855, f856, hI, rfl⟩
   obtain ⟨ag2, hag2, h⟩ : ∃ ag, (∀ s', ag s' → ∃ m', m' < m ∧ Inv s' m') ∧ tree_Right_l2 x1 ag x854 l855 f856 r := ⟨_, fun _ h => h, hS (x854, l855, f856) _ hI⟩
   clear hS hI
   refine sr_ ?_
   refine vp_ (pv_bin2 rfl rfl rfl) ?_
   refine nt_ ?_
   refine xseq ?_
   by_cases hp1062 : x854 < (x1.1.length : Int)
   ·replace h := h.1 hp1062
    refine xcondT' (decide_eq_true hp1062) rfl ?_
    refine xskipc ?_
    refine xthen ?_
    refine xseq ?_
    refine xblock ?_
    refine sr_ ?_
    refine mv_ ?_
    obtain ⟨h1163a, h⟩ := h
    obtain ⟨y1162, h1163b, h⟩ := h
    refine vp_ (pv_indexAddrM h1163a h1163b UndC.h ShpC.h rfl rfl) ?_
    refine v_ (qv_loadEP ([.v (.int .i64 y1162.1), .v (.int .i64 y1162.2.1), .v (.int .i64 y1162.2.2.1), .v (.int .i64 y1162.2.2.2.1), .v (.int .i64 y1162.2.2.2.2.1), .v (.int .i64 y1162.2.2.2.2.2.1)] ++ (List.map ew y1162.2.2.2.2.2.2.l).flatten) [] sq_ sl_ (part_all sl_) ShpC.h rfl) ?_
    refine xalloc InfC.h rfl rfl fun b7 => ?_
    refine xreb 0 ([.v (.int .i64 0), .v (.int .i64 0), .v (.int .i64 0), .v (.int .i64 0), .v (.int .i64 0), .v (.int .i64 0)] ++ (List.map ew ((Arr.rep 4 (0 : UInt64))).l).flatten) rfl rfl ?_
    refine as_ ?_
    refine xstoreQ 0 [] ([.v (.int .i64 0), .v (.int .i64 0), .v (.int .i64 0), .v (.int .i64 0), .v (.int .i64 0), .v (.int .i64 0)] ++ (List.map ew ((Arr.rep 4 (0 : UInt64))).l).flatten) [] ([.v (.int .i64 y1162.1), .v (.int .i64 y1162.2.1), .v (.int .i64 y1162.2.2.1), .v (.int .i64 y1162.2.2.2.1), .v (.int .i64 y1162.2.2.2.2.1), .v (.int .i64 y1162.2.2.2.2.2.1)] ++ (List.map ew y1162.2.2.2.2.2.2.l).flatten) ShpC.h rfl rfl rfl rfl rfl ?_
    refine nt_ ?_
    refine xseq ?_
    refine sr_ ?_
    refine v_ (qv_loadP 0 [] ([.v (.int .i64 y1162.1), .v (.int .i64 y1162.2.1), .v (.int .i64 y1162.2.2.1), .v (.int .i64 y1162.2.2.2.1), .v (.int .i64 y1162.2.2.2.2.1), .v (.int .i64 y1162.2.2.2.2.2.1)] ++ (List.map ew y1162.2.2.2.2.2.2.l).flatten) [] sq_ sl_ sl_ (part_all sl_) ShpC.h rfl rfl) ?_
    refine mv_ ?_
    refine vp_ (qv_fieldAddrB FldC.h rfl) ?_
    refine v_ (qv_loadB 3 ShpC.h rfl rfl rfl rfl) ?_
    obtain ⟨y1168, h1167, h⟩ := h
    refine xcall0 (tree_isNode_con y1162 x854 x1.2 _ h1167) Try.func21 (by kernel_rfl) rfl (.cons rfl (.refl _) (.cons rfl (.refl _) (.cons rfl (.refl _) .nil))) rfl rfl ?_
    refine vp_ (pv_not rfl) ?_
    refine nt_ ?_
    by_cases hp1169 : ¬ (y1168 = true)
    ·replace h := h.1 hp1169
     refine xcondT' (not_t (b_f hp1169)) rfl ?_
     refine sr_ ?_
     refine as_ ?_
     refine nt_ ?_
     refine xretc ?_
     refine xthen_ret ?_
     refine xin_ret ?_
     refine xthen_ret ?_
     refine xthen_ret ?_
     refine xin_ret ?_
     refine xthen_ret ?_
     replace h := h.symm
     subst h
     exact xret1 (bx' := []) (tk' := []) hg rfl rfl (.refl _) (SubM.of (.nil _) (.nil _)) ⟨rfl, rfl, rfl⟩
    ·replace h := h.2 hp1169
     refine xcondF' (not_f (Decidable.of_not_not hp1169)) rfl ?_
     refine xskipc ?_
     refine xthen ?_
     refine xseq ?_
     refine sr_ ?_
     refine v_ (qv_loadP 0 [] ([.v (.int .i64 y1162.1), .v (.int .i64 y1162.2.1), .v (.int .i64 y1162.2.2.1), .v (.int .i64 y1162.2.2.2.1), .v (.int .i64 y1162.2.2.2.2.1), .v (.int .i64 y1162.2.2.2.2.2.1)] ++ (List.map ew y1162.2.2.2.2.2.2.l).flatten) [] sq_ sl_ sl_ (part_all sl_) ShpC.h rfl rfl) ?_
     obtain ⟨y1213, h1212, h⟩ := h
     refine xcallM (tree_parts_con y1162 _ h1212) Try.func22 (by kernel_rfl) rfl (.cons rfl (.refl _) .nil) rfl rfl fun i1214 => ?_
     refine vp_ (pv_lenM UndC.h rfl) ?_
     refine mv_ ?_
     refine nt_ ?_
     refine xblock ?_
     obtain ⟨Inv, ⟨m0, hI⟩, hS⟩ := h
     refine xloop (fun σ m => ∃ (x1228 : Int), ∃ (l1229 : List Int), Inv (x1228, l1229) m ∧ σ = ⟨[(1, .v (.pointer (some ⟨b1, 0, none⟩))), (3, .v (.int .i64 ((x1.1.length : Int)))), (4, .rb i36 l1229.length), (5, .v (.pointer (some ⟨b5, 0, none⟩))), (7, .v (.pointer (some ⟨b7, 0, none⟩))), (36, .sl 10 none (List.map E_palinode_api_Node x1.1)), (37, .v (.int .i64 ((x1.1.length : Int)))), (38, .v (.int .i64 x854)), (50, .sl 1 (some i1214) (List.map ei y1213)), (51, .v (.int .i64 ((y1213.length : Int)))), (52, .v (.int .i64 x1228))], [⟨b7, 49, ([.v (.int .i64 y1162.1), .v (.int .i64 y1162.2.1), .v (.int .i64 y1162.2.2.1), .v (.int .i64 y1162.2.2.2.1), .v (.int .i64 y1162.2.2.2.2.1), .v (.int .i64 y1162.2.2.2.2.2.1)] ++ (List.map ew y1162.2.2.2.2.2.2.l).flatten)⟩, ⟨b5, 75, ((List.map ei f856.l).flatten)⟩, rbx i36 3 1 (List.map ei l1229), ⟨b1, 24, [.sl 10 none (List.map E_palinode_api_Node x1.1), .v (.int .i64 x1.2)]⟩], [⟨i1214, 3, 1, y1213.length⟩]⟩) ⟨0, l855, hI, rfl⟩ (by exact ⟨(.cons rfl (.refl _) (.cons rfl (.refl _) (.cons rfl (.eq (by first | rfl | simp)) lk_))), by exact (SubM.of (.keep rfl rfl (.refl _) (.keep rfl rfl (.refl _) (.keep rfl rfl (.refl _) (.keep rfl rfl (.refl _) (.nil _))))) (.keep rfl (.nil _)))⟩) ?_
     rintro _ m ⟨x1228, l1229, hI, rfl⟩
     obtain ⟨ag3, hag3, h⟩ : ∃ ag, (∀ s', ag s' → ∃ m', m' < m ∧ Inv s' m') ∧ tree_Right_l3 y1213 y1162 f856 x854 ag2 ag x1228 l1229 r := ⟨_, fun _ h => h, hS (x1228, l1229) _ hI⟩
     clear hS hI
     refine sr_ ?_
     refine vp_ (pv_bin2 rfl rfl rfl) ?_
     refine nt_ ?_
     refine xseq ?_
     by_cases hp1244 : x1228 < (y1213.length : Int)
     ·replace h := h.1 hp1244
      refine xcondT' (decide_eq_true hp1244) rfl ?_
      refine xskipc ?_
      refine xthen ?_
      refine xseq ?_
      refine xblock ?_
      refine sr_ ?_
      obtain ⟨h1246a, h⟩ := h
      obtain ⟨y1245, h1246b, h⟩ := h
      refine vp_ (pv_indexAddrM h1246a h1246b UndC.h ShpC.h rfl rfl) ?_
      refine v_ (qv_load ShpC.h rfl rfl rfl) ?_
      refine as_ ?_
      refine nt_ ?_
      refine xregion ?_
      refine mv_ ?_
      refine mv_ ?_
      obtain ⟨h1248a, h⟩ := h
      obtain ⟨y1247, h1248b, h⟩ := h
      refine vp_ (pv_indexAddrRbM rfl h1248a h1248b UndC.h ShpC.h rfl rfl) ?_
      refine v_ (qv_loadRb (f := ei) (k := 1) (off := 0) (i := (y1245 : Int).toNat) 2 h1248b rfl (by decide) rfl ShpC.h rfl rfl) ?_
      obtain ⟨h1249, h⟩ := h
      refine vp_ (pv_addI h1249 rfl rfl) ?_
      obtain ⟨h1251a, h⟩ := h
      obtain ⟨y1250, h1251b, h⟩ := h
      refine vp_ (pv_indexAddrRbM rfl h1251a h1251b UndC.h ShpC.h rfl rfl) ?_
      refine xstoreRb (f := ei) (k := 1) (off := 0) (i := (y1245 : Int).toNat) 2 (y1247 + 1) h1251b rfl (by decide) ShpC.h rfl rfl rfl rfl sl_ (.refl _) rfl ?_
      refine xnil ?_
      refine xin_normal ?_
      refine xthen ?_
      refine xregion ?_
      obtain ⟨h1253, h⟩ := h
      refine vp_ (pv_addI h1253 rfl rfl) ?_
      refine mv_ ?_
      refine xnil ?_
      obtain ⟨m', hm, hI⟩ := hag3 _ h
      exact xagain ⟨(x1228 + 1), (l1229.set (y1245 : Int).toNat (y1247 + 1)), hI, rfl⟩ hm ⟨(.cons rfl (.refl _) (.cons rfl (.refl _) (.cons rfl (.eq (by first | rfl | simp)) lk_))), by exact (SubM.of (.keep rfl rfl (.refl _) (.keep rfl rfl (.refl _) (.keep rfl rfl (.refl _) (.keep rfl rfl (.refl _) (.nil _))))) (.keep rfl (.nil _)))⟩
     ·replace h := h.2 hp1244
      refine xcondF' (decide_eq_false hp1244) rfl ?_
      refine xexit ?_
      refine xthen_exit ?_
      refine xthen_exit ?_
      refine xin_same rfl ?_
      refine xthen ?_
      refine sr_ ?_
      refine vp_ (qv_fieldAddrB FldC.h rfl) ?_
      refine v_ (qv_loadB 0 ShpC.h rfl rfl rfl rfl) ?_
      refine vp_ (pv_bin2 rfl rfl rfl) ?_
      refine nt_ ?_
      by_cases hp1255 : y1162.1 = 5
      ·replace h := h.1 hp1255
       refine xcondT' (decide_eq_true hp1255) rfl ?_
       refine xregion ?_
       refine vp_ (qv_fieldAddrB FldC.h rfl) ?_
       refine v_ (qv_loadB 0 ShpC.h rfl rfl rfl rfl) ?_
       obtain ⟨h1256, h⟩ := h
       obtain ⟨y1257, h1256b, h⟩ := h
       refine vp_ (pv_indexAddrBA h1256 UndC.h ShpC.h rfl rfl) ?_
       refine v_ (qv_loadA (f := ei) (a := f856) (k := 1) (off := 0) (i := (y1162.2.2.2.2.2.1 : Int).toNat) 1 [] [] h1256b sq_ so_ (by decide) rfl ShpC.h rfl rfl) ?_
       obtain ⟨h1258, h⟩ := h
       refine vp_ (pv_addI h1258 rfl rfl) ?_
       obtain ⟨h1259, h⟩ := h
       obtain ⟨y1260, h1259b, h⟩ := h
       refine vp_ (pv_indexAddrBA h1259 UndC.h ShpC.h rfl rfl) ?_
       refine xstoreA (f := ei) (a := f856) (k := 1) (off := 0) (i := (y1162.2.2.2.2.2.1 : Int).toNat) 1 [] [] (y1257 + 1) h1259b sq_ so_ (by decide) ShpC.h rfl rfl rfl rfl sl_ rfl rfl ?_
       refine xreb 1 ((List.map ei ((Arr.set f856 (y1162.2.2.2.2.2.1 : Int).toNat ((y1257 + 1)))).l).flatten) rfl sq_ ?_
       refine xnil ?_
       refine xin_normal ?_
       refine xthen ?_
       refine xregion ?_
       obtain ⟨h1261, h⟩ := h
       refine vp_ (pv_addI h1261 rfl rfl) ?_
       refine mv_ ?_
       refine xnil ?_
       obtain ⟨m', hm, hI⟩ := hag2 _ h
       exact xagain ⟨(x854 + 1), l1229, (Arr.set f856 (y1162.2.2.2.2.2.1 : Int).toNat ((y1257 + 1))), hI, rfl⟩ hm ⟨(.cons rfl (.refl _) (.cons rfl (.refl _) (.cons rfl (.eq (by first | rfl | simp)) lk_))), by exact (SubM.of (.drop (.keep rfl rfl (.refl _) (.keep rfl rfl (.refl _) (.keep rfl rfl (.refl _) (.nil _))))) (.nil _))⟩
      ·replace h := h.2 hp1255
       refine xcondF' (decide_eq_false hp1255) rfl ?_
       refine xskipc ?_
       refine xin_normal ?_
       refine xthen ?_
       refine xregion ?_
       obtain ⟨h1262, h⟩ := h
       refine vp_ (pv_addI h1262 rfl rfl) ?_
       refine mv_ ?_
       refine xnil ?_
       obtain ⟨m', hm, hI⟩ := hag2 _ h
       exact xagain ⟨(x854 + 1), l1229, f856, hI, rfl⟩ hm ⟨(.cons rfl (.refl _) (.cons rfl (.refl _) (.cons rfl (.eq (by first | rfl | simp)) lk_))), by exact (SubM.of (.drop (.keep rfl rfl (.refl _) (.keep rfl rfl (.refl _) (.keep rfl rfl (.refl _) (.nil _))))) (.nil _))⟩
   ·replace h := h.2 hp1062
    refine xcondF' (decide_eq_false hp1062) rfl ?_
    refine xexit ?_
    refine xthen_exit ?_
    refine xthen_exit ?_
    refine xin_same rfl ?_
    refine xthen ?_
    refine xseq ?_
    refine sr_ ?_
    refine mv_ ?_
    refine mv_ ?_
    obtain ⟨h1303, h⟩ := h
    refine vp_ (pv_subI h1303 rfl rfl) ?_
    obtain ⟨h1304, h⟩ := h
    refine vp_ (pv_sliceRbHi h1304 UndC.h ShpC.h rfl rfl) ?_
    refine xtakeRb (f := ei) (l := l855) 1 73 76 (((x1.1.length : Int) - 1) : Int).toNat rfl (by have := h1304; first | omega | (simp at this ⊢; done) | (simp at this ⊢; omega)) rfl rfl rfl ?_
    refine vp_ (pv_lenRb UndC.h rfl) ?_
    refine mv_ ?_
    refine nt_ ?_
    refine xblock ?_
    obtain ⟨Inv, ⟨m0, hI⟩, hS⟩ := h
    refine xloop (fun σ m => ∃ (x1318 : Int), Inv x1318 m ∧ σ = ⟨[(1, .v (.pointer (some ⟨b1, 0, none⟩))), (5, .v (.pointer (some ⟨b5, 0, none⟩))), (76, .rb i36 ((l855.take (((x1.1.length : Int) - 1) : Int).toNat).length)), (77, .v (.int .i64 ((((l855.take (((x1.1.length : Int) - 1) : Int).toNat).length : Nat) : Int)))), (78, .v (.int .i64 x1318))], [⟨b5, 75, ((List.map ei f856.l).flatten)⟩, rbx i36 3 1 (List.map ei ((l855.take (((x1.1.length : Int) - 1) : Int).toNat))), ⟨b1, 24, [.sl 10 none (List.map E_palinode_api_Node x1.1), .v (.int .i64 x1.2)]⟩], []⟩) ⟨0, hI, rfl⟩ (by exact ⟨(.cons rfl (.refl _) (.cons rfl (.refl _) (.cons rfl (.eq (by first | rfl | simp)) lk_))), by exact (SubM.of (.keep rfl rfl (.refl _) (.keep rfl rfl (.refl _) (.keep rfl rfl (.refl _) (.nil _)))) (.nil _))⟩) ?_
    rintro _ m ⟨x1318, hI, rfl⟩
    obtain ⟨ag4, hag4, h⟩ : ∃ ag, (∀ s', ag s' → ∃ m', m' < m ∧ Inv s' m') ∧ tree_Right_l4 l855 x1 f856 ag x1318 r := ⟨_, fun _ h => h, hS x1318 _ hI⟩
    clear hS hI
    refine sr_ ?_
    refine vp_ (pv_bin2 rfl rfl rfl) ?_
    refine nt_ ?_
    refine xseq ?_
    by_cases hp1333 : x1318 < (((l855.take (((x1.1.length : Int) - 1) : Int).toNat).length : Nat) : Int)
    ·replace h := h.1 hp1333
     refine xcondT' (decide_eq_true hp1333) rfl ?_
     refine xskipc ?_
     refine xthen ?_
     refine xseq ?_
     refine xblock ?_
     refine sr_ ?_
     obtain ⟨h1339a, h⟩ := h
     obtain ⟨y1338, h1339b, h⟩ := h
     refine vp_ (pv_indexAddrRbM (by simp) h1339a h1339b UndC.h ShpC.h rfl rfl) ?_
     refine v_ (qv_loadRb (f := ei) (k := 1) (off := 0) (i := (x1318 : Int).toNat) 1 h1339b rfl (by decide) rfl ShpC.h rfl rfl) ?_
     refine as_ ?_
     refine nt_ ?_
     refine sr_ ?_
     refine mv_ ?_
     refine vp_ (pv_bin2 rfl rfl rfl) ?_
     refine nt_ ?_
     by_cases hp1341 : ¬ (y1338 = 1)
     ·replace h := h.1 hp1341
      refine xcondT' (not_t (decide_eq_false hp1341)) rfl ?_
      refine sr_ ?_
      refine as_ ?_
      refine nt_ ?_
      refine xretc ?_
      refine xin_ret ?_
      refine xthen_ret ?_
      refine xthen_ret ?_
      refine xin_ret ?_
      refine xthen_ret ?_
      replace h := h.symm
      subst h
      exact xret1 (bx' := []) (tk' := []) hg rfl rfl (.refl _) (SubM.of (.nil _) (.nil _)) ⟨rfl, rfl, rfl⟩
     ·replace h := h.2 hp1341
      refine xcondF' (not_f (decide_eq_true (Decidable.of_not_not hp1341))) rfl ?_
      refine xskipc ?_
      refine xin_normal ?_
      refine xthen ?_
      refine xregion ?_
      obtain ⟨h1342, h⟩ := h
      refine vp_ (pv_addI h1342 rfl rfl) ?_
      refine mv_ ?_
      refine xnil ?_
      obtain ⟨m', hm, hI⟩ := hag4 _ h
      exact xagain ⟨(x1318 + 1), hI, rfl⟩ hm ⟨(.cons rfl (.refl _) (.cons rfl (.refl _) (.cons rfl (.eq (by first | rfl | simp)) lk_))), by exact (SubM.of (.keep rfl rfl (.refl _) (.keep rfl rfl (.refl _) (.keep rfl rfl (.refl _) (.nil _)))) (.nil _))⟩
    ·replace h := h.2 hp1333
     refine xcondF' (decide_eq_false hp1333) rfl ?_
     refine xexit ?_
     refine xthen_exit ?_
     refine xthen_exit ?_
     refine xin_same rfl ?_
     refine xthen ?_
     refine xseq ?_
     refine sr_ ?_
     refine vp_ (qv_fieldAddrB FldC.h rfl) ?_
     refine v_ (qv_loadB 2 ShpC.h rfl rfl rfl rfl) ?_
     obtain ⟨h1383, h⟩ := h
     refine vp_ (pv_addI h1383 rfl rfl) ?_
     obtain ⟨h1384a, h⟩ := h
     obtain ⟨h1384b, h⟩ := h
     obtain ⟨h1384, h⟩ := h
     refine vp_ (pv_sliceArr h1384 UndC.h ShpC.h rfl (Bd.int_ h1384a rfl) (Bd.int_ h1384b rfl)) ?_
     refine vp_ (pv_lenVN UndC.h rfl) ?_
     refine mv_ ?_
     refine nt_ ?_
     refine xblock ?_
     obtain ⟨Inv, ⟨m0, hI⟩, hS⟩ := h
     refine xloop (fun σ m => ∃ (x1398 : Int), Inv x1398 m ∧ σ = ⟨[(88, .v (.slice (some ⟨b5, 0 + (1 : Int).toNat * 1, none⟩) (((x1.2 + 1) : Int).toNat - (1 : Int).toNat) (10 - (1 : Int).toNat))), (89, .v (.int .i64 (((((x1.2 + 1) : Int).toNat - (1 : Int).toNat : Nat) : Int)))), (90, .v (.int .i64 x1398))], [⟨b5, 75, ((List.map ei f856.l).flatten)⟩], []⟩) ⟨0, hI, rfl⟩ (by exact ⟨lk_, (SubM.of (.keep rfl rfl (.refl _) (.nil _)) (.nil _))⟩) ?_
     rintro _ m ⟨x1398, hI, rfl⟩
     obtain ⟨ag5, hag5, h⟩ : ∃ ag, (∀ s', ag s' → ∃ m', m' < m ∧ Inv s' m') ∧ tree_Right_l5 x1 f856 ag x1398 r := ⟨_, fun _ h => h, hS x1398 _ hI⟩
     clear hS hI
     refine sr_ ?_
     refine vp_ (pv_bin2 rfl rfl rfl) ?_
     refine nt_ ?_
     refine xseq ?_
     by_cases hp1413 : x1398 < ((((x1.2 + 1) : Int).toNat - (1 : Int).toNat : Nat) : Int)
     ·replace h := h.1 hp1413
      refine xcondT' (decide_eq_true hp1413) rfl ?_
      refine xskipc ?_
      refine xthen ?_
      refine xseq ?_
      refine xblock ?_
      refine sr_ ?_
      obtain ⟨h1419, h⟩ := h
      obtain ⟨y1418, h1419b, h⟩ := h
      refine vp_ (pv_indexAddrVN h1419 UndC.h ShpC.h rfl rfl) ?_
      refine v_ (qv_loadA (f := ei) (a := f856) (k := 1) (off := 0) (i := ((((1 : Int).toNat + (x1398 : Int).toNat : Nat) : Int) : Int).toNat) 0 [] [] h1419b sq_ so_ (by decide) rfl ShpC.h rfl rfl) ?_
      refine as_ ?_
      refine nt_ ?_
      refine sr_ ?_
      refine mv_ ?_
      refine vp_ (pv_bin2 rfl rfl rfl) ?_
      refine nt_ ?_
      by_cases hp1421 : ¬ (y1418 = 1)
      ·replace h := h.1 hp1421
       refine xcondT' (not_t (decide_eq_false hp1421)) rfl ?_
       refine sr_ ?_
       refine as_ ?_
       refine nt_ ?_
       refine xretc ?_
       refine xin_ret ?_
       refine xthen_ret ?_
       refine xthen_ret ?_
       refine xin_ret ?_
       refine xthen_ret ?_
       replace h := h.symm
       subst h
       exact xret1 hg rfl rfl (.refl _) (SubM.of (.nil _) (.nil _)) ⟨rfl, rfl, rfl⟩
      ·replace h := h.2 hp1421
       refine xcondF' (not_f (decide_eq_true (Decidable.of_not_not hp1421))) rfl ?_
       refine xskipc ?_
       refine xin_normal ?_
       refine xthen ?_
       refine xregion ?_
       obtain ⟨h1422, h⟩ := h
       refine vp_ (pv_addI h1422 rfl rfl) ?_
       refine mv_ ?_
       refine xnil ?_
       obtain ⟨m', hm, hI⟩ := hag5 _ h
       exact xagain ⟨(x1398 + 1), hI, rfl⟩ hm ⟨lk_, (SubM.of (.keep rfl rfl (.refl _) (.nil _)) (.nil _))⟩
     ·replace h := h.2 hp1413
      refine xcondF' (decide_eq_false hp1413) rfl ?_
      refine xexit ?_
      refine xthen_exit ?_
      refine xthen_exit ?_
      refine xin_same rfl ?_
      refine xthen ?_
      refine sr_ ?_
      refine as_ ?_
      refine nt_ ?_
      refine xretc ?_
      replace h := h.symm
      subst h
      exact xret1 hg rfl rfl (.refl _) (SubM.of (.nil _) (.nil _)) ⟨rfl, rfl, rfl⟩
/-- match.Better -/
def match_Better_j2 (y417 : Int × Int) (y415 : Int × Int) (x425 : Bool) (r : Bool) : Prop :=
 ((x425 = true → ((y417.1 < 0 → r = (decide (0 ≤ y415.1))) ∧ (¬ (y417.1 < 0) → r = false))) ∧ (¬ (x425 = true) → ((¬ (y415.1 = y417.1) → r = (decide (y415.1 < y417.1))) ∧ (¬ (¬ (y415.1 = y417.1)) → r = (decide (y417.2 < y415.2))))))
def match_Better_l1 (x1 : (Arr 10 (Int × Int))) (x2 : (Arr 10 (Int × Int))) (ag1 : (Int) → Prop) (x302 : Int) (r : Bool) : Prop :=
 ((x302 < 10 → (0 ≤ (x302 : Int) ∧ (x302 : Int) < 10) ∧ ∃ y415 : Int × Int, x1.l[(x302 : Int).toNat]? = some y415 ∧ (0 ≤ (x302 : Int) ∧ (x302 : Int) < 10) ∧ ∃ y417 : Int × Int, x2.l[(x302 : Int).toNat]? = some y417 ∧ (((y415 : Int × Int) = y417 → InR (x302 + 1) ∧ ag1 (x302 + 1)) ∧ (¬ ((y415 : Int × Int) = y417) → match_Better_j2 y417 y415 ((decide (y415.1 < 0)) || (decide (y417.1 < 0))) r))) ∧ (¬ (x302 < 10) → r = false))
def match_Better_R (x1 : (Arr 10 (Int × Int))) (x2 : (Arr 10 (Int × Int))) (r : Bool) : Prop :=
 (0 ≤ (0 : Int) ∧ (0 : Int) < 10) ∧ ∃ y15 : Int × Int, x1.l[(0 : Int).toNat]? = some y15 ∧ (0 ≤ (0 : Int) ∧ (0 : Int) < 10) ∧ ∃ y17 : Int × Int, x2.l[(0 : Int).toNat]? = some y17 ∧ ((¬ (y15.2 = y17.2) → (0 ≤ (0 : Int) ∧ (0 : Int) < 10) ∧ ∃ y21 : Int × Int, x1.l[(0 : Int).toNat]? = some y21 ∧ (0 ≤ (0 : Int) ∧ (0 : Int) < 10) ∧ ∃ y23 : Int × Int, x2.l[(0 : Int).toNat]? = some y23 ∧ r = (decide (y23.2 < y21.2))) ∧ (¬ (¬ (y15.2 = y17.2)) → LoopR (fun ag1 s => match_Better_l1 x1 x2 ag1 s r) 1))
def match_Better_j2_ev (fuel : Nat) (y417 : Int × Int) (y415 : Int × Int) (x425 : Bool) : Option (Bool) :=
 (if x425 = true then (if y417.1 < 0 then some (decide (0 ≤ y415.1)) else some false) else (if ¬ (y415.1 = y417.1) then some (decide (y415.1 < y417.1)) else some (decide (y417.2 < y415.2))))
theorem match_Better_j2_ok {fuel : Nat} {y417 : Int × Int} {y415 : Int × Int} {x425 : Bool} {r : Bool} (h : match_Better_j2_ev fuel y417 y415 x425 = some r) : match_Better_j2 y417 y415 x425 r := by
 unfold match_Better_j2_ev at h
 unfold match_Better_j2
 refine ⟨fun g126 => ?_, fun g126 => ?_⟩
 ·rw [if_pos g126] at h
  refine ⟨fun g127 => ?_, fun g127 => ?_⟩
  ·rw [if_pos g127] at h
   exact (Option.some.inj h).symm
  ·rw [if_neg g127] at h
   exact (Option.some.inj h).symm
 ·rw [if_neg g126] at h
  refine ⟨fun g128 => ?_, fun g128 => ?_⟩
  ·rw [if_pos g128] at h
   exact (Option.some.inj h).symm
  ·rw [if_neg g128] at h
   exact (Option.some.inj h).symm
def match_Better_l1_ev (fuel : Nat) (x1 : (Arr 10 (Int × Int))) (x2 : (Arr 10 (Int × Int))) (ag1e : (Int) → Option (Bool)) (x302 : Int) : Option (Bool) :=
 (if x302 < 10 then (if (0 ≤ (x302 : Int) ∧ (x302 : Int) < 10) then ((x1.l[(x302 : Int).toNat]?).bind fun y415 => (if (0 ≤ (x302 : Int) ∧ (x302 : Int) < 10) then ((x2.l[(x302 : Int).toNat]?).bind fun y417 => (if (y415 : Int × Int) = y417 then (if InR (x302 + 1) then ag1e (x302 + 1) else none) else match_Better_j2_ev fuel y417 y415 ((decide (y415.1 < 0)) || (decide (y417.1 < 0))))) else none)) else none) else some false)
theorem match_Better_l1_ok {fuel : Nat} {x1 : (Arr 10 (Int × Int))} {x2 : (Arr 10 (Int × Int))} {ag1e : (Int) → Option (Bool)} {ag1 : (Int) → Prop} {x302 : Int} {r : Bool} (hagag1 : ∀ s, ag1e s = some r → ag1 s) (h : match_Better_l1_ev fuel x1 x2 ag1e x302 = some r) : match_Better_l1 x1 x2 ag1 x302 r := by
 unfold match_Better_l1_ev at h
 unfold match_Better_l1
 refine ⟨fun g129 => ?_, fun g129 => ?_⟩
 ·rw [if_pos g129] at h
  obtain ⟨g130, h⟩ := if_ok h
  refine ⟨g130, ?_⟩
  obtain ⟨q131, g131, h⟩ := bind_ok h
  refine ⟨q131, g131, ?_⟩
  obtain ⟨g132, h⟩ := if_ok h
  refine ⟨g132, ?_⟩
  obtain ⟨q133, g133, h⟩ := bind_ok h
  refine ⟨q133, g133, ?_⟩
  refine ⟨fun g134 => ?_, fun g134 => ?_⟩
  ·rw [if_pos g134] at h
   obtain ⟨g135, h⟩ := if_ok h
   refine ⟨g135, ?_⟩
   exact hagag1 _ h
  ·rw [if_neg g134] at h
   exact match_Better_j2_ok h
 ·rw [if_neg g129] at h
  exact (Option.some.inj h).symm
def match_Better_ev (fuel : Nat) (x1 : (Arr 10 (Int × Int))) (x2 : (Arr 10 (Int × Int))) : Option (Bool) :=
 (if (0 ≤ (0 : Int) ∧ (0 : Int) < 10) then ((x1.l[(0 : Int).toNat]?).bind fun y15 => (if (0 ≤ (0 : Int) ∧ (0 : Int) < 10) then ((x2.l[(0 : Int).toNat]?).bind fun y17 => (if ¬ (y15.2 = y17.2) then (if (0 ≤ (0 : Int) ∧ (0 : Int) < 10) then ((x1.l[(0 : Int).toNat]?).bind fun y21 => (if (0 ≤ (0 : Int) ∧ (0 : Int) < 10) then ((x2.l[(0 : Int).toNat]?).bind fun y23 => some (decide (y23.2 < y21.2))) else none)) else none) else (loopE (fun ag1e s => match_Better_l1_ev fuel x1 x2 ag1e s) fuel 1))) else none)) else none)
theorem match_Better_ok {fuel : Nat} {x1 : (Arr 10 (Int × Int))} {x2 : (Arr 10 (Int × Int))} {r : Bool} (h : match_Better_ev fuel x1 x2 = some r) : match_Better_R x1 x2 r := by
 unfold match_Better_ev at h
 unfold match_Better_R
 obtain ⟨g136, h⟩ := if_ok h
 refine ⟨g136, ?_⟩
 obtain ⟨q137, g137, h⟩ := bind_ok h
 refine ⟨q137, g137, ?_⟩
 obtain ⟨g138, h⟩ := if_ok h
 refine ⟨g138, ?_⟩
 obtain ⟨q139, g139, h⟩ := bind_ok h
 refine ⟨q139, g139, ?_⟩
 refine ⟨fun g140 => ?_, fun g140 => ?_⟩
 ·rw [if_pos g140] at h
  obtain ⟨g141, h⟩ := if_ok h
  refine ⟨g141, ?_⟩
  obtain ⟨q142, g142, h⟩ := bind_ok h
  refine ⟨q142, g142, ?_⟩
  obtain ⟨g143, h⟩ := if_ok h
  refine ⟨g143, ?_⟩
  obtain ⟨q144, g144, h⟩ := bind_ok h
  refine ⟨q144, g144, ?_⟩
  exact (Option.some.inj h).symm
 ·rw [if_neg g140] at h
  refine loopE_ok ?_ h
  intro ae ag s hag h
  exact match_Better_l1_ok hag h
set_option maxHeartbeats 4000000 in
theorem match_Better_con (x1 : (Arr 10 (Int × Int))) (x2 : (Arr 10 (Int × Int))) (r : Bool) (h : match_Better_R x1 x2 r) : Con Try.prog 23 [.agg ((List.map E_palinode_api_Span x1.l).flatten), .agg ((List.map E_palinode_api_Span x2.l).flatten)] [] [] (Ret (.v (.bool r))) := by
 refine xenter Try.func23 rfl rfl fun g hg => ?_
 simp only [Try.ntmps23, slots]
 refine sr_ ?_
 refine xbox rfl rfl rfl rfl fun b2 => ?_
 refine xbox rfl rfl rfl rfl fun b3 => ?_
 refine as_ ?_
 refine nt_ ?_
 refine xseq ?_
 refine sr_ ?_
 refine vp_ (qv_fieldAddrB FldC.h rfl) ?_
 obtain ⟨h14, h⟩ := h
 obtain ⟨y15, h14b, h⟩ := h
 refine vp_ (pv_indexAddrBA h14 UndC.h ShpC.h rfl rfl) ?_
 refine vp_ (qv_fieldAddrB FldC.h rfl) ?_
 refine v_ (qv_loadA (f := E_palinode_api_Span) (a := x1) (k := 2) (off := 1) (i := (0 : Int).toNat) 1 [] [] h14b sq_ so_ (by decide) rfl ShpC.h rfl rfl) ?_
 refine vp_ (qv_fieldAddrB FldC.h rfl) ?_
 obtain ⟨h16, h⟩ := h
 obtain ⟨y17, h16b, h⟩ := h
 refine vp_ (pv_indexAddrBA h16 UndC.h ShpC.h rfl rfl) ?_
 refine vp_ (qv_fieldAddrB FldC.h rfl) ?_
 refine v_ (qv_loadA (f := E_palinode_api_Span) (a := x2) (k := 2) (off := 1) (i := (0 : Int).toNat) 0 [] [] h16b sq_ so_ (by decide) rfl ShpC.h rfl rfl) ?_
 refine vp_ (pv_bin2 rfl rfl rfl) ?_
 refine nt_ ?_
 by_cases hp19 : ¬ (y15.2 = y17.2)
 ·replace h := h.1 hp19
  refine xcondT' (not_t (decide_eq_false hp19)) rfl ?_
  refine sr_ ?_
  refine vp_ (qv_fieldAddrB FldC.h rfl) ?_
  obtain ⟨h20, h⟩ := h
  obtain ⟨y21, h20b, h⟩ := h
  refine vp_ (pv_indexAddrBA h20 UndC.h ShpC.h rfl rfl) ?_
  refine vp_ (qv_fieldAddrB FldC.h rfl) ?_
  refine v_ (qv_loadA (f := E_palinode_api_Span) (a := x1) (k := 2) (off := 1) (i := (0 : Int).toNat) 1 [] [] h20b sq_ so_ (by decide) rfl ShpC.h rfl rfl) ?_
  refine vp_ (qv_fieldAddrB FldC.h rfl) ?_
  obtain ⟨h22, h⟩ := h
  obtain ⟨y23, h22b, h⟩ := h
  refine vp_ (pv_indexAddrBA h22 UndC.h ShpC.h rfl rfl) ?_
  refine vp_ (qv_fieldAddrB FldC.h rfl) ?_
  refine v_ (qv_loadA (f := E_palinode_api_Span) (a := x2) (k := 2) (off := 1) (i := (0 : Int).toNat) 0 [] [] h22b sq_ so_ (by decide) rfl ShpC.h rfl rfl) ?_
  refine vp_ (pv_bin2 rfl rfl rfl) ?_
  refine as_ ?_
  refine nt_ ?_
  refine xretc ?_
  refine xthen_ret ?_
  replace h := h.symm
  subst h
  exact xret1 hg rfl rfl (.refl _) (SubM.of (.nil _) (.nil _)) ⟨rfl, rfl, rfl⟩
 ·replace h := h.2 hp19
  refine xcondF' (not_f (decide_eq_true (Decidable.of_not_not hp19))) rfl ?_
  refine xskipc ?_
  refine xthen ?_
  refine xseq ?_
  refine sr_ ?_
  refine as_ ?_
  refine nt_ ?_
  refine xblock ?_
  obtain ⟨Inv, ⟨m0, hI⟩, hS⟩ := h
  refine xloop (fun σ m => ∃ (x302 : Int), Inv x302 m ∧ σ = ⟨[(2, .v (.pointer (some ⟨b2, 0, none⟩))), (3, .v (.pointer (some ⟨b3, 0, none⟩))), (5, .v (.int .i64 x302))], [⟨b3, 31, ((List.map E_palinode_api_Span x2.l).flatten)⟩, ⟨b2, 31, ((List.map E_palinode_api_Span x1.l).flatten)⟩], []⟩) ⟨1, hI, rfl⟩ (by exact ⟨lk_, (SubM.of (.keep rfl rfl (.refl _) (.keep rfl rfl (.refl _) (.nil _))) (.nil _))⟩) ?_
  rintro _ m ⟨x302, hI, rfl⟩
  obtain ⟨ag1, hag1, h⟩ : ∃ ag, (∀ s', ag s' → ∃ m', m' < m ∧ Inv s' m') ∧ match_Better_l1 x1 x2 ag x302 r := ⟨_, fun _ h => h, hS x302 _ hI⟩
  clear hS hI
  refine xseq ?_
  refine sr_ ?_
  refine mv_ ?_
  refine vp_ (pv_bin2 rfl rfl rfl) ?_
  refine nt_ ?_
  by_cases hp375 : x302 < 10
  ·replace h := h.1 hp375
   refine xcondT' (decide_eq_true hp375) rfl ?_
   refine xskipc ?_
   refine xthen ?_
   refine xseq ?_
   refine xblock ?_
   refine xseq ?_
   refine xregionD (m := 12) (by kernel_rfl) rfl ?_
   obtain ⟨h414, h⟩ := h
   obtain ⟨y415, h414b, h⟩ := h
   obtain ⟨h416, h⟩ := h
   obtain ⟨y417, h416b, h⟩ := h
   refine xpcut 1 #[true, true, true, true, true, true, true, true, true, true, true, false] (fun σ => ∃ (b7 : Nat), ∃ (b6 : Nat), σ = ⟨[(2, .v (.pointer (some ⟨b2, 0, none⟩))), (3, .v (.pointer (some ⟨b3, 0, none⟩))), (5, .v (.int .i64 x302)), (6, .v (.pointer (some ⟨b6, 0, none⟩))), (7, .v (.pointer (some ⟨b7, 0, none⟩))), (37, .agg [.v (.int .i64 y417.1), .v (.int .i64 y417.2)])], [⟨b7, 28, [.v (.int .i64 0), .v (.int .i64 0)]⟩, ⟨b6, 28, [.v (.int .i64 y415.1), .v (.int .i64 y415.2)]⟩, ⟨b3, 31, ((List.map E_palinode_api_Span x2.l).flatten)⟩, ⟨b2, 31, ((List.map E_palinode_api_Span x1.l).flatten)⟩], []⟩) ?_ (fun key418 => ?_)
   ·rintro _ ⟨b7, b6, rfl⟩
    refine xpstep (i := 11) (by kernel_rfl) rfl ?_
    refine wstore 0 ShpC.h rfl rfl rfl rfl rfl rfl rfl ?_
    refine xpdone (by kernel_rfl) ?_
    refine xthen ?_
    refine xblock ?_
    refine sr_ ?_
    refine v_ (qv_loadB 1 ShpC.h rfl rfl rfl rfl) ?_
    refine v_ (qv_loadB 0 ShpC.h rfl rfl rfl rfl) ?_
    refine vp_ (pv_eqAgg (f := E_palinode_api_Span) (a := y415) (b := y417) eqc_28 (by decide) (by kernel_rfl) ev_ ev_) ?_
    refine as_ ?_
    refine nt_ ?_
    by_cases hp420 : (y415 : Int × Int) = y417
    ·replace h := h.1 hp420
     refine xcondT' (decide_eq_true hp420) rfl ?_
     refine xskipc ?_
     refine xin_normal ?_
     refine xin_normal ?_
     refine xthen ?_
     refine xregion ?_
     refine mv_ ?_
     obtain ⟨h421, h⟩ := h
     refine vp_ (pv_addI h421 rfl rfl) ?_
     refine as_ ?_
     refine xnil ?_
     obtain ⟨m', hm, hI⟩ := hag1 _ h
     exact xagain ⟨(x302 + 1), hI, rfl⟩ hm ⟨lk_, (SubM.of (.drop (.drop (.keep rfl rfl (.refl _) (.keep rfl rfl (.refl _) (.nil _))))) (.nil _))⟩
    ·replace h := h.2 hp420
     refine xcondF' (decide_eq_false hp420) rfl ?_
     refine xseqM (fun σ => ∃ (x425 : Bool), match_Better_j2 y417 y415 x425 r ∧ σ = ⟨[(6, .v (.pointer (some ⟨b6, 0, none⟩))), (7, .v (.pointer (some ⟨b7, 0, none⟩))), (47, .v (.bool x425))], [⟨b7, 28, [.v (.int .i64 y417.1), .v (.int .i64 y417.2)]⟩, ⟨b6, 28, [.v (.int .i64 y415.1), .v (.int .i64 y415.2)]⟩], []⟩) ?_ ?_
     ·refine xregion ?_
      refine vp_ (qv_fieldAddrB FldC.h rfl) ?_
      refine v_ (qv_loadB 1 ShpC.h rfl rfl rfl rfl) ?_
      refine vp_ (pv_bin2 rfl rfl rfl) ?_
      refine mv_ ?_
      by_cases hp427 : y415.1 < 0
      ·rw [or_tt (show (decide (y415.1 < 0)) = true from (decide_eq_true hp427))] at h
       refine xsetB 51 (decide_eq_true hp427) rfl ?_
       refine sk_ ?_
       refine sk_ ?_
       refine sk_ ?_
       refine pk_ ?_
       refine as_ ?_
       refine xnil ?_
       exact xmeet ⟨true, h, rfl⟩ ⟨lk_, (SubM.of (.keep rfl rfl (.refl _) (.keep rfl rfl (.refl _) (.nil _))) (.nil _))⟩
      ·rw [or_ff (show (decide (y415.1 < 0)) = false from (decide_eq_false hp427))] at h
       refine xsetB 51 (decide_eq_false hp427) rfl ?_
       refine vp_ (qv_fieldAddrB FldC.h rfl) ?_
       refine v_ (qv_loadB 0 ShpC.h rfl rfl rfl rfl) ?_
       refine vp_ (pv_bin2 rfl rfl rfl) ?_
       refine pk_ ?_
       refine as_ ?_
       refine xnil ?_
       exact xmeet ⟨(decide (y417.1 < 0)), h, rfl⟩ ⟨lk_, (SubM.of (.keep rfl rfl (.refl _) (.keep rfl rfl (.refl _) (.nil _))) (.nil _))⟩
     ·clear h
      rintro _ ⟨x425, h, rfl⟩
      by_cases hp429 : x425 = true
      ·replace h := h.1 hp429
       refine xcondT' hp429 rfl ?_
       refine sr_ ?_
       refine vp_ (qv_fieldAddrB FldC.h rfl) ?_
       refine v_ (qv_loadB 0 ShpC.h rfl rfl rfl rfl) ?_
       refine vp_ (pv_bin2 rfl rfl rfl) ?_
       refine mv_ ?_
       by_cases hp434 : y417.1 < 0
       ·replace h := h.1 hp434
        refine xsetB 59 (decide_eq_true hp434) rfl ?_
        refine vp_ (qv_fieldAddrB FldC.h rfl) ?_
        refine v_ (qv_loadB 1 ShpC.h rfl rfl rfl rfl) ?_
        refine vp_ (pv_bin2 rfl rfl rfl) ?_
        refine pk_ ?_
        refine as_ ?_
        refine nt_ ?_
        refine xretc ?_
        refine xin_ret ?_
        refine xin_ret ?_
        refine xthen_ret ?_
        refine xthen_ret ?_
        refine xin_ret ?_
        refine xthen_ret ?_
        replace h := h.symm
        subst h
        exact xret1 hg rfl rfl (.refl _) (SubM.of (.nil _) (.nil _)) ⟨rfl, rfl, rfl⟩
       ·replace h := h.2 hp434
        refine xsetB 59 (decide_eq_false hp434) rfl ?_
        refine sk_ ?_
        refine sk_ ?_
        refine sk_ ?_
        refine pk_ ?_
        refine as_ ?_
        refine nt_ ?_
        refine xretc ?_
        refine xin_ret ?_
        refine xin_ret ?_
        refine xthen_ret ?_
        refine xthen_ret ?_
        refine xin_ret ?_
        refine xthen_ret ?_
        replace h := h.symm
        subst h
        exact xret1 hg rfl rfl (.refl _) (SubM.of (.nil _) (.nil _)) ⟨rfl, rfl, rfl⟩
      ·replace h := h.2 hp429
       refine xcondF' (b_f hp429) rfl ?_
       refine sr_ ?_
       refine vp_ (qv_fieldAddrB FldC.h rfl) ?_
       refine v_ (qv_loadB 1 ShpC.h rfl rfl rfl rfl) ?_
       refine vp_ (qv_fieldAddrB FldC.h rfl) ?_
       refine v_ (qv_loadB 0 ShpC.h rfl rfl rfl rfl) ?_
       refine vp_ (pv_bin2 rfl rfl rfl) ?_
       refine as_ ?_
       refine nt_ ?_
       by_cases hp437 : ¬ (y415.1 = y417.1)
       ·replace h := h.1 hp437
        refine xcondT' (not_t (decide_eq_false hp437)) rfl ?_
        refine sr_ ?_
        refine vp_ (qv_fieldAddrB FldC.h rfl) ?_
        refine v_ (qv_loadB 1 ShpC.h rfl rfl rfl rfl) ?_
        refine vp_ (qv_fieldAddrB FldC.h rfl) ?_
        refine v_ (qv_loadB 0 ShpC.h rfl rfl rfl rfl) ?_
        refine vp_ (pv_bin2 rfl rfl rfl) ?_
        refine as_ ?_
        refine nt_ ?_
        refine xretc ?_
        refine xin_ret ?_
        refine xin_ret ?_
        refine xthen_ret ?_
        refine xthen_ret ?_
        refine xin_ret ?_
        refine xthen_ret ?_
        replace h := h.symm
        subst h
        exact xret1 hg rfl rfl (.refl _) (SubM.of (.nil _) (.nil _)) ⟨rfl, rfl, rfl⟩
       ·replace h := h.2 hp437
        refine xcondF' (not_f (decide_eq_true (Decidable.of_not_not hp437))) rfl ?_
        refine sr_ ?_
        refine vp_ (qv_fieldAddrB FldC.h rfl) ?_
        refine v_ (qv_loadB 1 ShpC.h rfl rfl rfl rfl) ?_
        refine vp_ (qv_fieldAddrB FldC.h rfl) ?_
        refine v_ (qv_loadB 0 ShpC.h rfl rfl rfl rfl) ?_
        refine vp_ (pv_bin2 rfl rfl rfl) ?_
        refine as_ ?_
        refine nt_ ?_
        refine xretc ?_
        refine xin_ret ?_
        refine xin_ret ?_
        refine xthen_ret ?_
        refine xthen_ret ?_
        refine xin_ret ?_
        refine xthen_ret ?_
        replace h := h.symm
        subst h
        exact xret1 hg rfl rfl (.refl _) (SubM.of (.nil _) (.nil _)) ⟨rfl, rfl, rfl⟩
   refine xpcut 2 #[true, true, true, true, true, true, true, true, true, true, false, false] (fun σ => ∃ (b7 : Nat), ∃ (b6 : Nat), σ = ⟨[(2, .v (.pointer (some ⟨b2, 0, none⟩))), (3, .v (.pointer (some ⟨b3, 0, none⟩))), (5, .v (.int .i64 x302)), (6, .v (.pointer (some ⟨b6, 0, none⟩))), (7, .v (.pointer (some ⟨b7, 0, none⟩))), (33, .agg [.v (.int .i64 y415.1), .v (.int .i64 y415.2)]), (37, .agg [.v (.int .i64 y417.1), .v (.int .i64 y417.2)])], [⟨b7, 28, [.v (.int .i64 0), .v (.int .i64 0)]⟩, ⟨b6, 28, [.v (.int .i64 0), .v (.int .i64 0)]⟩, ⟨b3, 31, ((List.map E_palinode_api_Span x2.l).flatten)⟩, ⟨b2, 31, ((List.map E_palinode_api_Span x1.l).flatten)⟩], []⟩) ?_ (fun key440 => ?_)
   ·rintro _ ⟨b7, b6, rfl⟩
    refine xpstep (i := 10) (by kernel_rfl) rfl ?_
    refine wstore 1 ShpC.h rfl rfl rfl rfl rfl rfl rfl ?_
    exact xpuse key418 ⟨b7, b6, rfl⟩ ⟨lk_, (SubM.of (.keep rfl rfl (.refl _) (.keep rfl rfl (.refl _) (.keep rfl rfl (.refl _) (.keep rfl rfl (.refl _) (.nil _))))) (.nil _))⟩ rfl (by kernel_rfl)
   refine pl_ 0 rfl (pv_move rfl) ?_
   refine pl_ 1 rfl (qv_fieldAddrB FldC.h rfl) ?_
   refine pl_ 2 rfl (pv_indexAddrBA h414 UndC.h ShpC.h rfl rfl) ?_
   refine pl_ 4 rfl (pv_move rfl) ?_
   refine pl_ 5 rfl (qv_fieldAddrB FldC.h rfl) ?_
   refine pl_ 6 rfl (pv_indexAddrBA h416 UndC.h ShpC.h rfl rfl) ?_
   refine xpvalE 3 [7, 8, 9] rfl (qv_loadA (f := E_palinode_api_Span) (a := x1) (k := 2) (off := 0) (i := (x302 : Int).toNat) 1 [] [] h414b sq_ so_ (by decide) (by first | rfl | exact part_all sl_) ShpC.h rfl rfl) rfl rfl (by kernel_rfl) (by kernel_rfl) (by kernel_rfl) (fun _ _ _ _ h => h) ?_
   refine xpstepN (is := [7, 8, 9]) (by kernel_rfl) (by simp) ?_
   intro i hi; simp only [List.mem_cons, List.not_mem_nil, or_false] at hi; rcases hi with rfl | rfl | rfl
   ·refine ⟨_, rfl, ?_⟩
    refine wv_ (qv_loadA (f := E_palinode_api_Span) (a := x2) (k := 2) (off := 0) (i := (x302 : Int).toNat) 0 [] [] h416b sq_ so_ (by decide) (by first | rfl | exact part_all sl_) ShpC.h rfl rfl) ?_
    refine xpstepN (is := [8, 9]) (by kernel_rfl) (by simp) ?_
    intro i hi; simp only [List.mem_cons, List.not_mem_nil, or_false] at hi; rcases hi with rfl | rfl
    ·refine ⟨_, rfl, ?_⟩
     refine walloc InfC.h rfl rfl fun b6 => ?_
     refine xpstep (i := 9) (by kernel_rfl) rfl ?_
     refine walloc InfC.h rfl rfl fun b7 => ?_
     exact xpuse key440 ⟨b7, b6, rfl⟩ ⟨lk_, (SubM.of (.keep rfl rfl (.refl _) (.keep rfl rfl (.refl _) (.keep rfl rfl (.refl _) (.keep rfl rfl (.refl _) (.nil _))))) (.nil _))⟩ rfl (by kernel_rfl)
    ·refine ⟨_, rfl, ?_⟩
     refine walloc InfC.h rfl rfl fun b7 => ?_
     refine xpstep (i := 8) (by kernel_rfl) rfl ?_
     refine walloc InfC.h rfl rfl fun b6 => ?_
     exact xpuse key440 ⟨b7, b6, rfl⟩ ⟨lk_, by refine SubM.trans (SubM.mvB 3 rfl) ?_; refine SubM.trans (SubM.mvB 3 rfl) ?_; refine SubM.trans (SubM.mvB 2 rfl) ?_; refine SubM.trans (SubM.mvB 3 rfl) ?_; (simp only [List.eraseIdx]); exact sm_⟩ rfl (by kernel_rfl)
   ·refine ⟨_, rfl, ?_⟩
    refine walloc InfC.h rfl rfl fun b6 => ?_
    refine xfl0 [⟨7, 37, .agg [.v (.int .i64 y417.1), .v (.int .i64 y417.2)]⟩] 3 ?_
    refine xflstep 9 (by kernel_rfl) rfl (.cons rfl rfl rfl (fun _ => rfl) (fun _ => qv_loadA (f := E_palinode_api_Span) (a := x2) (k := 2) (off := 0) (i := (x302 : Int).toNat) 1 [] [] h416b sq_ so_ (by decide) (by first | rfl | exact part_all sl_) ShpC.h rfl rfl) .nil) fun D l td hR => ?_
    refine walloc InfC.h rfl rfl fun b7 => ?_
    refine xflgo1 hR ?_
    refine xflstep 10 (by kernel_rfl) rfl (.cons rfl rfl rfl (fun _ => rfl) (fun _ => qv_loadA (f := E_palinode_api_Span) (a := x2) (k := 2) (off := 0) (i := (x302 : Int).toNat) 2 [] [] h416b sq_ so_ (by decide) (by first | rfl | exact part_all sl_) ShpC.h rfl rfl) .nil) fun D l td hR => ?_
    refine wstore 1 ShpC.h rfl rfl rfl rfl rfl rfl rfl ?_
    refine xflgo0 hR ?_
    refine xflend (l' := #[true, true, true, true, true, true, true, true, true, true, true, false]) (by kernel_rfl) (.cons rfl rfl rfl (fun _ => rfl) (fun _ => qv_loadA (f := E_palinode_api_Span) (a := x2) (k := 2) (off := 0) (i := (x302 : Int).toNat) 2 [] [] h416b sq_ so_ (by decide) (by first | rfl | exact part_all sl_) ShpC.h rfl rfl) .nil) (by kernel_rfl) rfl (by kernel_rfl) (by kernel_rfl) ?_
    simp only [List.nil_append, List.cons_append, List.map_cons, List.map_nil]
    exact xpuse key418 ⟨b7, b6, rfl⟩ ⟨lk_, (SubM.of (.keep rfl rfl (.refl _) (.keep rfl rfl (.refl _) (.keep rfl rfl (.refl _) (.keep rfl rfl (.refl _) (.nil _))))) (.nil _))⟩ rfl (by kernel_rfl)
   ·refine ⟨_, rfl, ?_⟩
    refine walloc InfC.h rfl rfl fun b7 => ?_
    refine xfl0 [⟨7, 37, .agg [.v (.int .i64 y417.1), .v (.int .i64 y417.2)]⟩] 3 ?_
    refine xflstep 8 (by kernel_rfl) rfl (.cons rfl rfl rfl (fun _ => rfl) (fun _ => qv_loadA (f := E_palinode_api_Span) (a := x2) (k := 2) (off := 0) (i := (x302 : Int).toNat) 1 [] [] h416b sq_ so_ (by decide) (by first | rfl | exact part_all sl_) ShpC.h rfl rfl) .nil) fun D l td hR => ?_
    refine walloc InfC.h rfl rfl fun b6 => ?_
    refine xflgo1 hR ?_
    refine xflstep 10 (by kernel_rfl) rfl (.cons rfl rfl rfl (fun _ => rfl) (fun _ => qv_loadA (f := E_palinode_api_Span) (a := x2) (k := 2) (off := 0) (i := (x302 : Int).toNat) 2 [] [] h416b sq_ so_ (by decide) (by first | rfl | exact part_all sl_) ShpC.h rfl rfl) .nil) fun D l td hR => ?_
    refine wstore 0 ShpC.h rfl rfl rfl rfl rfl rfl rfl ?_
    refine xflgo0 hR ?_
    refine xflend (l' := #[true, true, true, true, true, true, true, true, true, true, true, false]) (by kernel_rfl) (.cons rfl rfl rfl (fun _ => rfl) (fun _ => qv_loadA (f := E_palinode_api_Span) (a := x2) (k := 2) (off := 0) (i := (x302 : Int).toNat) 2 [] [] h416b sq_ so_ (by decide) (by first | rfl | exact part_all sl_) ShpC.h rfl rfl) .nil) (by kernel_rfl) rfl (by kernel_rfl) (by kernel_rfl) ?_
    simp only [List.nil_append, List.cons_append, List.map_cons, List.map_nil]
    exact xpuse key418 ⟨b7, b6, rfl⟩ ⟨lk_, by refine SubM.trans (SubM.mvB 3 rfl) ?_; refine SubM.trans (SubM.mvB 3 rfl) ?_; refine SubM.trans (SubM.mvB 2 rfl) ?_; refine SubM.trans (SubM.mvB 3 rfl) ?_; (simp only [List.eraseIdx]); exact sm_⟩ rfl (by kernel_rfl)
  ·replace h := h.2 hp375
   refine xcondF' (decide_eq_false hp375) rfl ?_
   refine xexit ?_
   refine xthen_exit ?_
   refine xthen_exit ?_
   refine xin_same rfl ?_
   refine xthen ?_
   refine sr_ ?_
   refine as_ ?_
   refine nt_ ?_
   refine xretc ?_
   replace h := h.symm
   subst h
   exact xret1 hg rfl rfl (.refl _) (SubM.of (.nil _) (.nil _)) ⟨rfl, rfl, rfl⟩
end Go.Proofs.Ytnefabncdpkbmaa
