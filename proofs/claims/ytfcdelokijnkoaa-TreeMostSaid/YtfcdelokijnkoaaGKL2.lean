/- What functions' texts ask for, and the walks that show it (printed by a program). -/
import Derived.Test.YtfcdelokijnkoaaGK
namespace Go.Proofs.Ytfcdelokijnkoaa
/-- palinodelaw06.TreeMost -/
def palinodelaw06_TreeMost_j3 (x413 : Int) (ag2 : (Int × Int × (List (Int × Int × Int × Int × Int × Int × (Arr 4 (UInt64)))) × Int) → Prop) (x526 : Int) (f527 : List (Int × Int × Int × Int × Int × Int × (Arr 4 (UInt64)))) (f529 : Int) (r : Bool) : Prop :=
  InR (x413 + 1) ∧ ag2 (x526, (x413 + 1), f527, f529)
def palinodelaw06_TreeMost_j5 (x998 : Bool) (r : Bool) : Prop :=
  r = x998
def palinodelaw06_TreeMost_l4 (x1 : UInt8) (x412 : Int) (ag4 : (Int × (List (Int × Int × Int × Int × Int × Int × (Arr 4 (UInt64)))) × Int) → Prop) (x835 : Int) (f836 : List (Int × Int × Int × Int × Int × Int × (Arr 4 (UInt64)))) (f838 : Int) (r : Bool) : Prop :=
  (5 : Int) ≠ 0 ∧ ((x835 ≤ (((x1.toNat : Int) : Int).tmod (5)) → ∃ y958 : Int × ((List (Int × Int × Int × Int × Int × Int × (Arr 4 (UInt64)))) × Int), tree_Builder_Empty_R (f836, f838) y958 ∧ ((¬ (y958.1 = (-1)) → r = false) ∧ (¬ (¬ (y958.1 = (-1))) → ∃ y963 : Int × ((List (Int × Int × Int × Int × Int × Int × (Arr 4 (UInt64)))) × Int), tree_Builder_Cat_R (y958.2.1, y958.2.2) ([x412, 999]) y963 ∧ ((¬ (y963.1 = (-1)) → r = false) ∧ (¬ (¬ (y963.1 = (-1))) → ∃ y968 : Int × ((List (Int × Int × Int × Int × Int × Int × (Arr 4 (UInt64)))) × Int), tree_Builder_Open_R (y963.2.1, y963.2.2) y968 ∧ ((¬ (y968.1 = (-1)) → r = false) ∧ (¬ (¬ (y968.1 = (-1))) → InR (x835 + 1) ∧ ag4 ((x835 + 1), y968.2.1, y968.2.2)))))))) ∧ (¬ (x835 ≤ (((x1.toNat : Int) : Int).tmod (5))) → ∃ y974 : ((List (Int × Int × Int × Int × Int × Int × (Arr 4 (UInt64)))) × Int) × Bool, tree_Builder_Re_R (f836, f838) x412 y974 ∧ ((¬ (y974.2 = true) → ∃ y1001 : Int × ((List (Int × Int × Int × Int × Int × Int × (Arr 4 (UInt64)))) × Int), tree_Builder_Cat_R (f836, f838) ([x412]) y1001 ∧ ((y1001.1 = x412 → ∃ y1006 : Int × ((List (Int × Int × Int × Int × Int × Int × (Arr 4 (UInt64)))) × Int), tree_Builder_Alt_R (y1001.2.1, y1001.2.2) ([x412]) y1006 ∧ ((y1006.1 = x412 → ∃ y1011 : Int × ((List (Int × Int × Int × Int × Int × Int × (Arr 4 (UInt64)))) × Int), tree_Builder_Alt_R (y1006.2.1, y1006.2.2) ([] : List Int) y1011 ∧ ((y1011.1 = (-1) → ∃ y1016 : Int × ((List (Int × Int × Int × Int × Int × Int × (Arr 4 (UInt64)))) × Int), tree_Builder_Cat_R (y1011.2.1, y1011.2.2) ([1000]) y1016 ∧ ((y1016.1 = (-1) → ∃ y1021 : Bool, palinodelaw06_awake_R y1021 ∧ palinodelaw06_TreeMost_j5 y1021 r) ∧ (¬ (y1016.1 = (-1)) → palinodelaw06_TreeMost_j5 false r))) ∧ (¬ (y1011.1 = (-1)) → palinodelaw06_TreeMost_j5 false r))) ∧ (¬ (y1006.1 = x412) → palinodelaw06_TreeMost_j5 false r))) ∧ (¬ (y1001.1 = x412) → palinodelaw06_TreeMost_j5 false r))) ∧ (¬ (¬ (y974.2 = true)) → palinodelaw06_TreeMost_j5 false r))))
def palinodelaw06_TreeMost_l2 (x1 : UInt8) (ag2 : (Int × Int × (List (Int × Int × Int × Int × Int × Int × (Arr 4 (UInt64)))) × Int) → Prop) (x412 : Int) (x413 : Int) (f414 : List (Int × Int × Int × Int × Int × Int × (Arr 4 (UInt64)))) (f416 : Int) (r : Bool) : Prop :=
  ((x413 < 1000 → (2 : Int) ≠ 0 ∧ ((((x413 : Int).tmod (2)) = 1 → ∃ y552 : Int × ((List (Int × Int × Int × Int × Int × Int × (Arr 4 (UInt64)))) × Int), tree_Builder_Set_R (f414, f416) (Arr.rep 4 (0 : UInt64)) y552 ∧ ((¬ (y552.1 = x413) → r = false) ∧ (¬ (¬ (y552.1 = x413)) → palinodelaw06_TreeMost_j3 x413 ag2 x412 y552.2.1 y552.2.2 r))) ∧ (¬ (((x413 : Int).tmod (2)) = 1) → InR (x413 - 1) ∧ ∃ y558 : Int × ((List (Int × Int × Int × Int × Int × Int × (Arr 4 (UInt64)))) × Int), tree_Builder_Cat_R (f414, f416) ([x412, (x413 - 1)]) y558 ∧ ((¬ (y558.1 = x413) → r = false) ∧ (¬ (¬ (y558.1 = x413)) → palinodelaw06_TreeMost_j3 x413 ag2 y558.1 y558.2.1 y558.2.2 r))))) ∧ (¬ (x413 < 1000) → LoopR (fun ag4 s => palinodelaw06_TreeMost_l4 x1 x412 ag4 s.1 s.2.1 s.2.2 r) (0, f414, f416)))
def palinodelaw06_TreeMost_l1 (x1 : UInt8) (ag1 : (Int × (List (Int × Int × Int × Int × Int × Int × (Arr 4 (UInt64)))) × Int) → Prop) (x74 : Int) (f75 : List (Int × Int × Int × Int × Int × Int × (Arr 4 (UInt64)))) (f77 : Int) (r : Bool) : Prop :=
  ((x74 < 9 → ∃ y106 : Int × ((List (Int × Int × Int × Int × Int × Int × (Arr 4 (UInt64)))) × Int), tree_Builder_Open_R (f75, f77) y106 ∧ InR (x74 + 1) ∧ ((¬ (y106.1 = (x74 + 1)) → r = false) ∧ (¬ (¬ (y106.1 = (x74 + 1))) → InR (x74 + 1) ∧ ag1 ((x74 + 1), y106.2.1, y106.2.2)))) ∧ (¬ (x74 < 9) → ∃ y113 : Int × ((List (Int × Int × Int × Int × Int × Int × (Arr 4 (UInt64)))) × Int), tree_Builder_Bol_R (f75, f77) y113 ∧ LoopR (fun ag2 s => palinodelaw06_TreeMost_l2 x1 ag2 s.1 s.2.1 s.2.2.1 s.2.2.2 r) (y113.1, 1, y113.2.1, y113.2.2)))
def palinodelaw06_TreeMost_R (x1 : UInt8) (r : Bool) : Prop :=
  LoopR (fun ag1 s => palinodelaw06_TreeMost_l1 x1 ag1 s.1 s.2.1 s.2.2 r) (0, ([] : List (Int × Int × Int × Int × Int × Int × (Arr 4 (UInt64)))), 0)
def palinodelaw06_TreeMost_j3_ev (fuel : Nat) (x413 : Int) (ag2e : (Int × Int × (List (Int × Int × Int × Int × Int × Int × (Arr 4 (UInt64)))) × Int) → Option (Bool)) (x526 : Int) (f527 : List (Int × Int × Int × Int × Int × Int × (Arr 4 (UInt64)))) (f529 : Int) : Option (Bool) :=
  (if InR (x413 + 1) then ag2e (x526, (x413 + 1), f527, f529) else none)
theorem palinodelaw06_TreeMost_j3_ok {fuel : Nat} {x413 : Int} {ag2 : (Int × Int × (List (Int × Int × Int × Int × Int × Int × (Arr 4 (UInt64)))) × Int) → Prop} {ag2e : (Int × Int × (List (Int × Int × Int × Int × Int × Int × (Arr 4 (UInt64)))) × Int) → Option (Bool)} {x526 : Int} {f527 : List (Int × Int × Int × Int × Int × Int × (Arr 4 (UInt64)))} {f529 : Int} {r : Bool} (hagag2 : ∀ s, ag2e s = some r → ag2 s) (h : palinodelaw06_TreeMost_j3_ev fuel x413 ag2e x526 f527 f529 = some r) : palinodelaw06_TreeMost_j3 x413 ag2 x526 f527 f529 r := by
  unfold palinodelaw06_TreeMost_j3_ev at h
  unfold palinodelaw06_TreeMost_j3
  obtain ⟨g193, h⟩ := if_ok h
  refine ⟨g193, ?_⟩
  exact hagag2 _ h
def palinodelaw06_TreeMost_j5_ev (fuel : Nat) (x998 : Bool) : Option (Bool) :=
  some x998
theorem palinodelaw06_TreeMost_j5_ok {fuel : Nat} {x998 : Bool} {r : Bool} (h : palinodelaw06_TreeMost_j5_ev fuel x998 = some r) : palinodelaw06_TreeMost_j5 x998 r := by
  unfold palinodelaw06_TreeMost_j5_ev at h
  unfold palinodelaw06_TreeMost_j5
  exact (Option.some.inj h).symm
def palinodelaw06_TreeMost_l4_ev (fuel : Nat) (x1 : UInt8) (x412 : Int) (ag4e : (Int × (List (Int × Int × Int × Int × Int × Int × (Arr 4 (UInt64)))) × Int) → Option (Bool)) (x835 : Int) (f836 : List (Int × Int × Int × Int × Int × Int × (Arr 4 (UInt64)))) (f838 : Int) : Option (Bool) :=
  (if (5 : Int) ≠ 0 then (if x835 ≤ (((x1.toNat : Int) : Int).tmod (5)) then ((tree_Builder_Empty_ev fuel (f836, f838)).bind fun y958 => (if ¬ (y958.1 = (-1)) then some false else ((tree_Builder_Cat_ev fuel (y958.2.1, y958.2.2) ([x412, 999])).bind fun y963 => (if ¬ (y963.1 = (-1)) then some false else ((tree_Builder_Open_ev fuel (y963.2.1, y963.2.2)).bind fun y968 => (if ¬ (y968.1 = (-1)) then some false else (if InR (x835 + 1) then ag4e ((x835 + 1), y968.2.1, y968.2.2) else none))))))) else ((tree_Builder_Re_ev fuel (f836, f838) x412).bind fun y974 => (if ¬ (y974.2 = true) then ((tree_Builder_Cat_ev fuel (f836, f838) ([x412])).bind fun y1001 => (if y1001.1 = x412 then ((tree_Builder_Alt_ev fuel (y1001.2.1, y1001.2.2) ([x412])).bind fun y1006 => (if y1006.1 = x412 then ((tree_Builder_Alt_ev fuel (y1006.2.1, y1006.2.2) ([] : List Int)).bind fun y1011 => (if y1011.1 = (-1) then ((tree_Builder_Cat_ev fuel (y1011.2.1, y1011.2.2) ([1000])).bind fun y1016 => (if y1016.1 = (-1) then ((palinodelaw06_awake_ev fuel).bind fun y1021 => palinodelaw06_TreeMost_j5_ev fuel y1021) else palinodelaw06_TreeMost_j5_ev fuel false)) else palinodelaw06_TreeMost_j5_ev fuel false)) else palinodelaw06_TreeMost_j5_ev fuel false)) else palinodelaw06_TreeMost_j5_ev fuel false)) else palinodelaw06_TreeMost_j5_ev fuel false))) else none)
theorem palinodelaw06_TreeMost_l4_ok {fuel : Nat} {x1 : UInt8} {x412 : Int} {ag4e : (Int × (List (Int × Int × Int × Int × Int × Int × (Arr 4 (UInt64)))) × Int) → Option (Bool)} {ag4 : (Int × (List (Int × Int × Int × Int × Int × Int × (Arr 4 (UInt64)))) × Int) → Prop} {x835 : Int} {f836 : List (Int × Int × Int × Int × Int × Int × (Arr 4 (UInt64)))} {f838 : Int} {r : Bool} (hagag4 : ∀ s, ag4e s = some r → ag4 s) (h : palinodelaw06_TreeMost_l4_ev fuel x1 x412 ag4e x835 f836 f838 = some r) : palinodelaw06_TreeMost_l4 x1 x412 ag4 x835 f836 f838 r := by
  unfold palinodelaw06_TreeMost_l4_ev at h
  unfold palinodelaw06_TreeMost_l4
  obtain ⟨g194, h⟩ := if_ok h
  refine ⟨g194, ?_⟩
  refine ⟨fun g195 => ?_, fun g195 => ?_⟩
  · rw [if_pos g195] at h
    obtain ⟨q196, g196, h⟩ := bind_ok h
    refine ⟨q196, tree_Builder_Empty_ok g196, ?_⟩
    refine ⟨fun g197 => ?_, fun g197 => ?_⟩
    · rw [if_pos g197] at h
      exact (Option.some.inj h).symm
    · rw [if_neg g197] at h
      obtain ⟨q198, g198, h⟩ := bind_ok h
      refine ⟨q198, tree_Builder_Cat_ok g198, ?_⟩
      refine ⟨fun g199 => ?_, fun g199 => ?_⟩
      · rw [if_pos g199] at h
        exact (Option.some.inj h).symm
      · rw [if_neg g199] at h
        obtain ⟨q200, g200, h⟩ := bind_ok h
        refine ⟨q200, tree_Builder_Open_ok g200, ?_⟩
        refine ⟨fun g201 => ?_, fun g201 => ?_⟩
        · rw [if_pos g201] at h
          exact (Option.some.inj h).symm
        · rw [if_neg g201] at h
          obtain ⟨g202, h⟩ := if_ok h
          refine ⟨g202, ?_⟩
          exact hagag4 _ h
  · rw [if_neg g195] at h
    obtain ⟨q203, g203, h⟩ := bind_ok h
    refine ⟨q203, tree_Builder_Re_ok g203, ?_⟩
    refine ⟨fun g204 => ?_, fun g204 => ?_⟩
    · rw [if_pos g204] at h
      obtain ⟨q205, g205, h⟩ := bind_ok h
      refine ⟨q205, tree_Builder_Cat_ok g205, ?_⟩
      refine ⟨fun g206 => ?_, fun g206 => ?_⟩
      · rw [if_pos g206] at h
        obtain ⟨q207, g207, h⟩ := bind_ok h
        refine ⟨q207, tree_Builder_Alt_ok g207, ?_⟩
        refine ⟨fun g208 => ?_, fun g208 => ?_⟩
        · rw [if_pos g208] at h
          obtain ⟨q209, g209, h⟩ := bind_ok h
          refine ⟨q209, tree_Builder_Alt_ok g209, ?_⟩
          refine ⟨fun g210 => ?_, fun g210 => ?_⟩
          · rw [if_pos g210] at h
            obtain ⟨q211, g211, h⟩ := bind_ok h
            refine ⟨q211, tree_Builder_Cat_ok g211, ?_⟩
            refine ⟨fun g212 => ?_, fun g212 => ?_⟩
            · rw [if_pos g212] at h
              obtain ⟨q213, g213, h⟩ := bind_ok h
              refine ⟨q213, palinodelaw06_awake_ok g213, ?_⟩
              exact palinodelaw06_TreeMost_j5_ok h
            · rw [if_neg g212] at h
              exact palinodelaw06_TreeMost_j5_ok h
          · rw [if_neg g210] at h
            exact palinodelaw06_TreeMost_j5_ok h
        · rw [if_neg g208] at h
          exact palinodelaw06_TreeMost_j5_ok h
      · rw [if_neg g206] at h
        exact palinodelaw06_TreeMost_j5_ok h
    · rw [if_neg g204] at h
      exact palinodelaw06_TreeMost_j5_ok h
def palinodelaw06_TreeMost_l2_ev (fuel : Nat) (x1 : UInt8) (ag2e : (Int × Int × (List (Int × Int × Int × Int × Int × Int × (Arr 4 (UInt64)))) × Int) → Option (Bool)) (x412 : Int) (x413 : Int) (f414 : List (Int × Int × Int × Int × Int × Int × (Arr 4 (UInt64)))) (f416 : Int) : Option (Bool) :=
  (if x413 < 1000 then (if (2 : Int) ≠ 0 then (if ((x413 : Int).tmod (2)) = 1 then ((tree_Builder_Set_ev fuel (f414, f416) (Arr.rep 4 (0 : UInt64))).bind fun y552 => (if ¬ (y552.1 = x413) then some false else palinodelaw06_TreeMost_j3_ev fuel x413 ag2e x412 y552.2.1 y552.2.2)) else (if InR (x413 - 1) then ((tree_Builder_Cat_ev fuel (f414, f416) ([x412, (x413 - 1)])).bind fun y558 => (if ¬ (y558.1 = x413) then some false else palinodelaw06_TreeMost_j3_ev fuel x413 ag2e y558.1 y558.2.1 y558.2.2)) else none)) else none) else (loopE (fun ag4e s => palinodelaw06_TreeMost_l4_ev fuel x1 x412 ag4e s.1 s.2.1 s.2.2) fuel (0, f414, f416)))
theorem palinodelaw06_TreeMost_l2_ok {fuel : Nat} {x1 : UInt8} {ag2e : (Int × Int × (List (Int × Int × Int × Int × Int × Int × (Arr 4 (UInt64)))) × Int) → Option (Bool)} {ag2 : (Int × Int × (List (Int × Int × Int × Int × Int × Int × (Arr 4 (UInt64)))) × Int) → Prop} {x412 : Int} {x413 : Int} {f414 : List (Int × Int × Int × Int × Int × Int × (Arr 4 (UInt64)))} {f416 : Int} {r : Bool} (hagag2 : ∀ s, ag2e s = some r → ag2 s) (h : palinodelaw06_TreeMost_l2_ev fuel x1 ag2e x412 x413 f414 f416 = some r) : palinodelaw06_TreeMost_l2 x1 ag2 x412 x413 f414 f416 r := by
  unfold palinodelaw06_TreeMost_l2_ev at h
  unfold palinodelaw06_TreeMost_l2
  refine ⟨fun g214 => ?_, fun g214 => ?_⟩
  · rw [if_pos g214] at h
    obtain ⟨g215, h⟩ := if_ok h
    refine ⟨g215, ?_⟩
    refine ⟨fun g216 => ?_, fun g216 => ?_⟩
    · rw [if_pos g216] at h
      obtain ⟨q217, g217, h⟩ := bind_ok h
      refine ⟨q217, tree_Builder_Set_ok g217, ?_⟩
      refine ⟨fun g218 => ?_, fun g218 => ?_⟩
      · rw [if_pos g218] at h
        exact (Option.some.inj h).symm
      · rw [if_neg g218] at h
        exact palinodelaw06_TreeMost_j3_ok hagag2 h
    · rw [if_neg g216] at h
      obtain ⟨g219, h⟩ := if_ok h
      refine ⟨g219, ?_⟩
      obtain ⟨q220, g220, h⟩ := bind_ok h
      refine ⟨q220, tree_Builder_Cat_ok g220, ?_⟩
      refine ⟨fun g221 => ?_, fun g221 => ?_⟩
      · rw [if_pos g221] at h
        exact (Option.some.inj h).symm
      · rw [if_neg g221] at h
        exact palinodelaw06_TreeMost_j3_ok hagag2 h
  · rw [if_neg g214] at h
    refine loopE_ok ?_ h
    intro ae ag s hag h
    exact palinodelaw06_TreeMost_l4_ok hag h
def palinodelaw06_TreeMost_l1_ev (fuel : Nat) (x1 : UInt8) (ag1e : (Int × (List (Int × Int × Int × Int × Int × Int × (Arr 4 (UInt64)))) × Int) → Option (Bool)) (x74 : Int) (f75 : List (Int × Int × Int × Int × Int × Int × (Arr 4 (UInt64)))) (f77 : Int) : Option (Bool) :=
  (if x74 < 9 then ((tree_Builder_Open_ev fuel (f75, f77)).bind fun y106 => (if InR (x74 + 1) then (if ¬ (y106.1 = (x74 + 1)) then some false else (if InR (x74 + 1) then ag1e ((x74 + 1), y106.2.1, y106.2.2) else none)) else none)) else ((tree_Builder_Bol_ev fuel (f75, f77)).bind fun y113 => (loopE (fun ag2e s => palinodelaw06_TreeMost_l2_ev fuel x1 ag2e s.1 s.2.1 s.2.2.1 s.2.2.2) fuel (y113.1, 1, y113.2.1, y113.2.2))))
theorem palinodelaw06_TreeMost_l1_ok {fuel : Nat} {x1 : UInt8} {ag1e : (Int × (List (Int × Int × Int × Int × Int × Int × (Arr 4 (UInt64)))) × Int) → Option (Bool)} {ag1 : (Int × (List (Int × Int × Int × Int × Int × Int × (Arr 4 (UInt64)))) × Int) → Prop} {x74 : Int} {f75 : List (Int × Int × Int × Int × Int × Int × (Arr 4 (UInt64)))} {f77 : Int} {r : Bool} (hagag1 : ∀ s, ag1e s = some r → ag1 s) (h : palinodelaw06_TreeMost_l1_ev fuel x1 ag1e x74 f75 f77 = some r) : palinodelaw06_TreeMost_l1 x1 ag1 x74 f75 f77 r := by
  unfold palinodelaw06_TreeMost_l1_ev at h
  unfold palinodelaw06_TreeMost_l1
  refine ⟨fun g222 => ?_, fun g222 => ?_⟩
  · rw [if_pos g222] at h
    obtain ⟨q223, g223, h⟩ := bind_ok h
    refine ⟨q223, tree_Builder_Open_ok g223, ?_⟩
    obtain ⟨g224, h⟩ := if_ok h
    refine ⟨g224, ?_⟩
    refine ⟨fun g225 => ?_, fun g225 => ?_⟩
    · rw [if_pos g225] at h
      exact (Option.some.inj h).symm
    · rw [if_neg g225] at h
      obtain ⟨g226, h⟩ := if_ok h
      refine ⟨g226, ?_⟩
      exact hagag1 _ h
  · rw [if_neg g222] at h
    obtain ⟨q227, g227, h⟩ := bind_ok h
    refine ⟨q227, tree_Builder_Bol_ok g227, ?_⟩
    refine loopE_ok ?_ h
    intro ae ag s hag h
    exact palinodelaw06_TreeMost_l2_ok hag h
def palinodelaw06_TreeMost_ev (fuel : Nat) (x1 : UInt8) : Option (Bool) :=
  (loopE (fun ag1e s => palinodelaw06_TreeMost_l1_ev fuel x1 ag1e s.1 s.2.1 s.2.2) fuel (0, ([] : List (Int × Int × Int × Int × Int × Int × (Arr 4 (UInt64)))), 0))
theorem palinodelaw06_TreeMost_ok {fuel : Nat} {x1 : UInt8} {r : Bool} (h : palinodelaw06_TreeMost_ev fuel x1 = some r) : palinodelaw06_TreeMost_R x1 r := by
  unfold palinodelaw06_TreeMost_ev at h
  unfold palinodelaw06_TreeMost_R
  refine loopE_ok ?_ h
  intro ae ag s hag h
  exact palinodelaw06_TreeMost_l1_ok hag h
set_option maxHeartbeats 4000000 in
theorem palinodelaw06_TreeMost_con (x1 : UInt8) (r : Bool) (h : palinodelaw06_TreeMost_R x1 r) : Con Try.prog 4 [.v (.int .u8 ((x1.toNat : Int)))] [] [] (Ret (.v (.bool r))) := by
  refine xenter Try.func4 rfl rfl fun g hg => ?_
  simp only [Try.ntmps4, slots]
  refine xseq ?_
  refine xregion ?_
  refine xvalP (pv_assign rfl) rfl rfl ?_
  refine xnil ?_
  refine xthen ?_
  refine xseq ?_
  refine xregion ?_
  refine xalloc InfC.h rfl rfl fun b3 => ?_
  refine xnil ?_
  refine xthen ?_
  refine xseq ?_
  refine xseq ?_
  refine xregion ?_
  refine xvalP (pv_assign rfl) rfl rfl ?_
  refine xnil ?_
  refine xthen ?_
  refine xblock ?_
  obtain ⟨Inv, ⟨m0, hI⟩, hS⟩ := h
  refine xloop (fun σ m => ∃ (x74 : Int), ∃ (f75 : List (Int × Int × Int × Int × Int × Int × (Arr 4 (UInt64)))), ∃ (f77 : Int), ∃ (i76 : Option (Nat × Nat)), Inv (x74, f75, f77) m ∧ σ = ⟨[(0, .v (.int .u8 ((x1.toNat : Int)))), (3, .v (.pointer (some ⟨b3, 0, none⟩))), (4, .v (.int .i64 x74))], [⟨b3, 28, [.sl 10 (some i76) (List.map E_palinode_api_Node f75), .v (.int .i64 f77)]⟩], [⟨i76, 42, 10, f75.length⟩]⟩) ⟨0, ([] : List (Int × Int × Int × Int × Int × Int × (Arr 4 (UInt64)))), 0, none, hI, rfl⟩ ⟨(.cons rfl (.refl _) (.cons rfl (.refl _) (.cons rfl (.refl _) (.nil _)))), (SubM.of (.keep rfl rfl (.cons (.nil_own _) (.cons (.refl _) .nil)) (.nil _)) (.add (.nil _)))⟩ ?_
  rintro _ m ⟨x74, f75, f77, i76, hI, rfl⟩
  obtain ⟨ag1, hag1, h⟩ : ∃ ag, (∀ s', ag s' → ∃ m', m' < m ∧ Inv s' m') ∧ palinodelaw06_TreeMost_l1 x1 ag x74 f75 f77 r := ⟨_, fun _ h => h, hS (x74, f75, f77) _ hI⟩
  clear hS hI
  refine xseq ?_
  refine xseq ?_
  refine xregion ?_
  refine xvalP (pv_move rfl) rfl rfl ?_
  refine xvalP (pv_bin2 rfl rfl rfl) rfl rfl ?_
  refine xnil ?_
  refine xthen ?_
  by_cases hp98 : x74 < 9
  · replace h := h.1 hp98
    refine xcondT' (decide_eq_true hp98) rfl ?_
    refine xskipc ?_
    refine xthen ?_
    refine xseq ?_
    refine xblock ?_
    refine xseq ?_
    refine xregion ?_
    obtain ⟨y106, h105, h⟩ := h
    refine xcallF (Fb := []) (Ft := []) (tree_Builder_Open_con (f75, f77) b3 i76 _ h105) Try.func8 (by kernel_rfl) rfl (.cons rfl (.refl _) .nil) (by exact (SubM.of (by repeat (first | with_reducible exact SubB.refl _ | exact SubB.nil _ | refine SubB.keep rfl rfl (by first | with_reducible exact WkL.refl _ | ((repeat (first | exact WkL.nil | refine WkL.cons (by first | with_reducible exact Wk.refl _ | exact Wk.nil_own _ | exact Wk.nil_pl _ | with_reducible exact Wk.tok _ _ _ | exact Wk.tok _ _ _ | exact Wk.eq (by first | rfl | (simp []; done) | (simp []; omega))) ?_)); done) | exact WkL.refl _) ?_ | refine SubB.drop ?_)) (by repeat (first | exact SubT.nil _ | refine SubT.add ?_ | (refine SubT.keep ?_ ?_; focus (first | with_reducible rfl | (simp []; done))) | refine SubT.drop ?_)))) rfl rfl ?_
    rintro _ _ _ ⟨i107, rfl, rfl, rfl⟩
    simp only [List.nil_append, List.cons_append]
    refine xvalP (pv_move rfl) rfl rfl ?_
    obtain ⟨h108, h⟩ := h
    refine xvalP (pv_addI h108 rfl rfl) rfl rfl ?_
    refine xvalP (pv_bin2 rfl rfl rfl) rfl rfl ?_
    refine xnil ?_
    refine xthen ?_
    by_cases hp110 : ¬ (y106.1 = (x74 + 1))
    · replace h := h.1 hp110
      refine xcondT' (not_t (decide_eq_false hp110)) rfl ?_
      refine xseq ?_
      refine xregion ?_
      refine xvalP (pv_assign rfl) rfl rfl ?_
      refine xnil ?_
      refine xthen ?_
      refine xretc ?_
      refine xin_ret ?_
      refine xthen_ret ?_
      refine xthen_ret ?_
      refine xin_ret ?_
      refine xthen_ret ?_
      replace h := h.symm
      subst h
      exact xret1 hg rfl rfl (.refl _) (SubM.of (.nil _) (.nil _)) ⟨rfl, rfl, rfl⟩
    · replace h := h.2 hp110
      refine xcondF' (not_f (decide_eq_true (Decidable.of_not_not hp110))) rfl ?_
      refine xskipc ?_
      refine xin_normal ?_
      refine xthen ?_
      refine xregion ?_
      refine xvalP (pv_move rfl) rfl rfl ?_
      obtain ⟨h111, h⟩ := h
      refine xvalP (pv_addI h111 rfl rfl) rfl rfl ?_
      refine xvalP (pv_assign rfl) rfl rfl ?_
      refine xnil ?_
      obtain ⟨m', hm, hI⟩ := hag1 _ h
      exact xagain ⟨(x74 + 1), y106.2.1, y106.2.2, i107, hI, rfl⟩ hm ⟨(.cons rfl (.refl _) (.cons rfl (.refl _) (.cons rfl (.refl _) (.nil _)))), (SubM.of (.keep rfl rfl (.refl _) (.nil _)) (.keep rfl (.nil _)))⟩
  · replace h := h.2 hp98
    refine xcondF' (decide_eq_false hp98) rfl ?_
    refine xexit ?_
    refine xthen_exit ?_
    refine xthen_exit ?_
    refine xin_same rfl ?_
    refine xthen ?_
    refine xseq ?_
    refine xregion ?_
    obtain ⟨y113, h112, h⟩ := h
    refine xcallF (Fb := []) (Ft := []) (tree_Builder_Bol_con (f75, f77) b3 i76 _ h112) Try.func9 (by kernel_rfl) rfl (.cons rfl (.refl _) .nil) (by exact (SubM.of (by repeat (first | with_reducible exact SubB.refl _ | exact SubB.nil _ | refine SubB.keep rfl rfl (by first | with_reducible exact WkL.refl _ | ((repeat (first | exact WkL.nil | refine WkL.cons (by first | with_reducible exact Wk.refl _ | exact Wk.nil_own _ | exact Wk.nil_pl _ | with_reducible exact Wk.tok _ _ _ | exact Wk.tok _ _ _ | exact Wk.eq (by first | rfl | (simp []; done) | (simp []; omega))) ?_)); done) | exact WkL.refl _) ?_ | refine SubB.drop ?_)) (by repeat (first | exact SubT.nil _ | refine SubT.add ?_ | (refine SubT.keep ?_ ?_; focus (first | with_reducible rfl | (simp []; done))) | refine SubT.drop ?_)))) rfl rfl ?_
    rintro _ _ _ ⟨i114, rfl, rfl, rfl⟩
    simp only [List.nil_append, List.cons_append]
    refine xvalP (pv_assign rfl) rfl rfl ?_
    refine xnil ?_
    refine xthen ?_
    refine xseq ?_
    refine xseq ?_
    refine xregion ?_
    refine xvalP (pv_assign rfl) rfl rfl ?_
    refine xnil ?_
    refine xthen ?_
    refine xblock ?_
    obtain ⟨Inv, ⟨m0, hI⟩, hS⟩ := h
    refine xloop (fun σ m => ∃ (x412 : Int), ∃ (x413 : Int), ∃ (f414 : List (Int × Int × Int × Int × Int × Int × (Arr 4 (UInt64)))), ∃ (f416 : Int), ∃ (i415 : Option (Nat × Nat)), Inv (x412, x413, f414, f416) m ∧ σ = ⟨[(0, .v (.int .u8 ((x1.toNat : Int)))), (3, .v (.pointer (some ⟨b3, 0, none⟩))), (5, .v (.int .i64 x412)), (6, .v (.int .i64 x413))], [⟨b3, 28, [.sl 10 (some i415) (List.map E_palinode_api_Node f414), .v (.int .i64 f416)]⟩], [⟨i415, 42, 10, f414.length⟩]⟩) ⟨y113.1, 1, y113.2.1, y113.2.2, i114, hI, rfl⟩ ⟨(.cons rfl (.refl _) (.cons rfl (.refl _) (.cons rfl (.refl _) (.cons rfl (.refl _) (.nil _))))), (SubM.of (.keep rfl rfl (.refl _) (.nil _)) (.keep rfl (.nil _)))⟩ ?_
    rintro _ m ⟨x412, x413, f414, f416, i415, hI, rfl⟩
    obtain ⟨ag2, hag2, h⟩ : ∃ ag, (∀ s', ag s' → ∃ m', m' < m ∧ Inv s' m') ∧ palinodelaw06_TreeMost_l2 x1 ag x412 x413 f414 f416 r := ⟨_, fun _ h => h, hS (x412, x413, f414, f416) _ hI⟩
    clear hS hI
    refine xseq ?_
    refine xseq ?_
    refine xregion ?_
    refine xvalP (pv_move rfl) rfl rfl ?_
    refine xvalP (pv_bin2 rfl rfl rfl) rfl rfl ?_
    refine xnil ?_
    refine xthen ?_
    by_cases hp493 : x413 < 1000
    · replace h := h.1 hp493
      refine xcondT' (decide_eq_true hp493) rfl ?_
      refine xskipc ?_
      refine xthen ?_
      refine xseqM (fun σ => ∃ (x526 : Int), ∃ (f527 : List (Int × Int × Int × Int × Int × Int × (Arr 4 (UInt64)))), ∃ (f529 : Int), ∃ (i528 : Option (Nat × Nat)), palinodelaw06_TreeMost_j3 x413 ag2 x526 f527 f529 r ∧ σ = ⟨[(0, .v (.int .u8 ((x1.toNat : Int)))), (3, .v (.pointer (some ⟨b3, 0, none⟩))), (5, .v (.int .i64 x526)), (6, .v (.int .i64 x413))], [⟨b3, 28, [.sl 10 (some i528) (List.map E_palinode_api_Node f527), .v (.int .i64 f529)]⟩], [⟨i528, 42, 10, f527.length⟩]⟩) ?_ ?_
      · refine xblock ?_
        refine xseq ?_
        refine xseq ?_
        refine xregion ?_
        refine xvalP (pv_move rfl) rfl rfl ?_
        obtain ⟨h543, h⟩ := h
        refine xvalP (pv_remW h543 rfl rfl rfl rfl) rfl rfl ?_
        refine xvalP (pv_bin2 rfl rfl rfl) rfl rfl ?_
        refine xnil ?_
        refine xthen ?_
        by_cases hp545 : ((x413 : Int).tmod (2)) = 1
        · replace h := h.1 hp545
          refine xcondT' (decide_eq_true hp545) rfl ?_
          refine xseq ?_
          refine xseq ?_
          refine xregion ?_
          refine xvalP (pv_buildAC (cs := ((List.map ew ((Arr.rep 4 (0 : UInt64))).l).flatten)) UndC.h ShpC.h InfC.h rfl (by rfl)) rfl rfl ?_
          obtain ⟨y552, h551, h⟩ := h
          refine xcallF (Fb := []) (Ft := []) (tree_Builder_Set_con (f414, f416) (Arr.rep 4 (0 : UInt64)) b3 i415 _ h551) Try.func10 (by kernel_rfl) rfl (.cons rfl (.refl _) (.cons rfl (.refl _) .nil)) (by exact (SubM.of (by repeat (first | with_reducible exact SubB.refl _ | exact SubB.nil _ | refine SubB.keep rfl rfl (by first | with_reducible exact WkL.refl _ | ((repeat (first | exact WkL.nil | refine WkL.cons (by first | with_reducible exact Wk.refl _ | exact Wk.nil_own _ | exact Wk.nil_pl _ | with_reducible exact Wk.tok _ _ _ | exact Wk.tok _ _ _ | exact Wk.eq (by first | rfl | (simp []; done) | (simp []; omega))) ?_)); done) | exact WkL.refl _) ?_ | refine SubB.drop ?_)) (by repeat (first | exact SubT.nil _ | refine SubT.add ?_ | (refine SubT.keep ?_ ?_; focus (first | with_reducible rfl | (simp []; done))) | refine SubT.drop ?_)))) rfl rfl ?_
          rintro _ _ _ ⟨i553, rfl, rfl, rfl⟩
          simp only [List.nil_append, List.cons_append]
          refine xvalP (pv_move rfl) rfl rfl ?_
          refine xvalP (pv_bin2 rfl rfl rfl) rfl rfl ?_
          refine xnil ?_
          refine xthen ?_
          by_cases hp555 : ¬ (y552.1 = x413)
          · replace h := h.1 hp555
            refine xcondT' (not_t (decide_eq_false hp555)) rfl ?_
            refine xseq ?_
            refine xregion ?_
            refine xvalP (pv_assign rfl) rfl rfl ?_
            refine xnil ?_
            refine xthen ?_
            refine xretc ?_
            refine xthen_ret ?_
            refine xthen_ret ?_
            refine xin_ret ?_
            refine xthen_ret ?_
            refine xthen_ret ?_
            refine xin_ret ?_
            refine xthen_ret ?_
            replace h := h.symm
            subst h
            exact xret1 hg rfl rfl (.refl _) (SubM.of (.nil _) (.nil _)) ⟨rfl, rfl, rfl⟩
          · replace h := h.2 hp555
            refine xcondF' (not_f (decide_eq_true (Decidable.of_not_not hp555))) rfl ?_
            refine xskipc ?_
            refine xthen ?_
            refine xexit ?_
            refine xthen_exit ?_
            refine xin_same rfl ?_
            exact xmeet ⟨x412, y552.2.1, y552.2.2, i553, h, rfl⟩ ⟨(.cons rfl (.refl _) (.cons rfl (.refl _) (.cons rfl (.refl _) (.cons rfl (.refl _) (.nil _))))), (SubM.of (.keep rfl rfl (.refl _) (.nil _)) (.keep rfl (.nil _)))⟩
        · replace h := h.2 hp545
          refine xcondF' (decide_eq_false hp545) rfl ?_
          refine xskipc ?_
          refine xthen ?_
          refine xseq ?_
          refine xregion ?_
          refine xvalP (pv_move rfl) rfl rfl ?_
          refine xvalP (pv_move rfl) rfl rfl ?_
          obtain ⟨h556, h⟩ := h
          refine xvalP (pv_subI h556 rfl rfl) rfl rfl ?_
          refine xbuildSliceM (f := ei) [x412, (x413 - 1)] UndC.h InfC.h rfl rfl (by first | exact wkR_of rfl | (repeat (first | exact WkR.nil | refine WkR.cons (by (repeat (first | exact WkL.nil | refine WkL.cons (by first | with_reducible exact Wk.refl _ | exact Wk.nil_own _ | exact Wk.nil_pl _ | with_reducible exact Wk.tok _ _ _ | exact Wk.tok _ _ _ | exact Wk.eq (by first | rfl | (simp []; done) | (simp []; omega))) ?_))) ?_))) rfl rfl rfl rfl fun s33 => ?_
          obtain ⟨y558, h557, h⟩ := h
          refine xcallF (Fb := []) (Ft := [⟨(some (s33, 2)), 3, 1, ([x412, (x413 - 1)]).length⟩]) (tree_Builder_Cat_con (f414, f416) ([x412, (x413 - 1)]) b3 i415 _ h557) Try.func11 (by kernel_rfl) rfl (.cons rfl (.refl _) (.cons rfl (.tok _ _ _) .nil)) (by refine SubM.trans (SubM.mvT 1 rfl) ?_; (simp only [List.eraseIdx]); exact (SubM.of (by repeat (first | with_reducible exact SubB.refl _ | exact SubB.nil _ | refine SubB.keep rfl rfl (by first | with_reducible exact WkL.refl _ | ((repeat (first | exact WkL.nil | refine WkL.cons (by first | with_reducible exact Wk.refl _ | exact Wk.nil_own _ | exact Wk.nil_pl _ | with_reducible exact Wk.tok _ _ _ | exact Wk.tok _ _ _ | exact Wk.eq (by first | rfl | (simp []; done) | (simp []; omega))) ?_)); done) | exact WkL.refl _) ?_ | refine SubB.drop ?_)) (by repeat (first | exact SubT.nil _ | refine SubT.add ?_ | (refine SubT.keep ?_ ?_; focus (first | with_reducible rfl | (simp []; done))) | refine SubT.drop ?_)))) rfl rfl ?_
          rintro _ _ _ ⟨i559, rfl, rfl, rfl⟩
          simp only [List.nil_append, List.cons_append]
          refine xvalP (pv_assign rfl) rfl rfl ?_
          refine xnil ?_
          refine xthen ?_
          refine xseq ?_
          refine xregion ?_
          refine xvalP (pv_move rfl) rfl rfl ?_
          refine xvalP (pv_move rfl) rfl rfl ?_
          refine xvalP (pv_bin2 rfl rfl rfl) rfl rfl ?_
          refine xnil ?_
          refine xthen ?_
          by_cases hp561 : ¬ (y558.1 = x413)
          · replace h := h.1 hp561
            refine xcondT' (not_t (decide_eq_false hp561)) rfl ?_
            refine xseq ?_
            refine xregion ?_
            refine xvalP (pv_assign rfl) rfl rfl ?_
            refine xnil ?_
            refine xthen ?_
            refine xretc ?_
            refine xin_ret ?_
            refine xthen_ret ?_
            refine xthen_ret ?_
            refine xin_ret ?_
            refine xthen_ret ?_
            replace h := h.symm
            subst h
            exact xret1 hg rfl rfl (.refl _) (SubM.of (.nil _) (.nil _)) ⟨rfl, rfl, rfl⟩
          · replace h := h.2 hp561
            refine xcondF' (not_f (decide_eq_true (Decidable.of_not_not hp561))) rfl ?_
            refine xskipc ?_
            refine xin_normal ?_
            exact xmeet ⟨y558.1, y558.2.1, y558.2.2, i559, h, rfl⟩ ⟨(.cons rfl (.refl _) (.cons rfl (.refl _) (.cons rfl (.refl _) (.cons rfl (.refl _) (.nil _))))), (SubM.of (.keep rfl rfl (.refl _) (.nil _)) (.keep rfl (.nil _)))⟩
      · clear h
        rintro _ ⟨x526, f527, f529, i528, h, rfl⟩
        refine xregion ?_
        refine xvalP (pv_move rfl) rfl rfl ?_
        obtain ⟨h562, h⟩ := h
        refine xvalP (pv_addI h562 rfl rfl) rfl rfl ?_
        refine xvalP (pv_assign rfl) rfl rfl ?_
        refine xnil ?_
        obtain ⟨m', hm, hI⟩ := hag2 _ h
        exact xagain ⟨x526, (x413 + 1), f527, f529, i528, hI, rfl⟩ hm ⟨(.cons rfl (.refl _) (.cons rfl (.refl _) (.cons rfl (.refl _) (.cons rfl (.refl _) (.nil _))))), (SubM.of (.keep rfl rfl (.refl _) (.nil _)) (.keep rfl (.nil _)))⟩
    · replace h := h.2 hp493
      refine xcondF' (decide_eq_false hp493) rfl ?_
      refine xexit ?_
      refine xthen_exit ?_
      refine xthen_exit ?_
      refine xin_same rfl ?_
      refine xthen ?_
      refine xseq ?_
      refine xseq ?_
      refine xregion ?_
      refine xvalP (pv_assign rfl) rfl rfl ?_
      refine xnil ?_
      refine xthen ?_
      refine xblock ?_
      obtain ⟨Inv, ⟨m0, hI⟩, hS⟩ := h
      refine xloop (fun σ m => ∃ (x835 : Int), ∃ (f836 : List (Int × Int × Int × Int × Int × Int × (Arr 4 (UInt64)))), ∃ (f838 : Int), ∃ (i837 : Option (Nat × Nat)), Inv (x835, f836, f838) m ∧ σ = ⟨[(0, .v (.int .u8 ((x1.toNat : Int)))), (3, .v (.pointer (some ⟨b3, 0, none⟩))), (5, .v (.int .i64 x412)), (7, .v (.int .i64 x835))], [⟨b3, 28, [.sl 10 (some i837) (List.map E_palinode_api_Node f836), .v (.int .i64 f838)]⟩], [⟨i837, 42, 10, f836.length⟩]⟩) ⟨0, f414, f416, i415, hI, rfl⟩ ⟨(.cons rfl (.refl _) (.cons rfl (.refl _) (.cons rfl (.refl _) (.cons rfl (.refl _) (.nil _))))), (SubM.of (.keep rfl rfl (.refl _) (.nil _)) (.keep rfl (.nil _)))⟩ ?_
      rintro _ m ⟨x835, f836, f838, i837, hI, rfl⟩
      obtain ⟨ag4, hag4, h⟩ : ∃ ag, (∀ s', ag s' → ∃ m', m' < m ∧ Inv s' m') ∧ palinodelaw06_TreeMost_l4 x1 x412 ag x835 f836 f838 r := ⟨_, fun _ h => h, hS (x835, f836, f838) _ hI⟩
      clear hS hI
      refine xseq ?_
      refine xseq ?_
      refine xregion ?_
      refine xvalP (pv_move rfl) rfl rfl ?_
      refine xvalP (pv_move rfl) rfl rfl ?_
      refine xvalP (pv_convW (w8 x1) UndC.h UndC.h rfl) rfl rfl ?_
      obtain ⟨h911, h⟩ := h
      refine xvalP (pv_remW h911 rfl rfl rfl rfl) rfl rfl ?_
      refine xvalP (pv_bin2 rfl rfl rfl) rfl rfl ?_
      refine xnil ?_
      refine xthen ?_
      by_cases hp913 : x835 ≤ (((x1.toNat : Int) : Int).tmod (5))
      · replace h := h.1 hp913
        refine xcondT' (decide_eq_true hp913) rfl ?_
        refine xskipc ?_
        refine xthen ?_
        refine xseq ?_
        refine xblock ?_
        refine xseq ?_
        refine xregion ?_
        obtain ⟨y958, h957, h⟩ := h
        refine xcallF (Fb := []) (Ft := []) (tree_Builder_Empty_con (f836, f838) b3 i837 _ h957) Try.func12 (by kernel_rfl) rfl (.cons rfl (.refl _) .nil) (by exact (SubM.of (by repeat (first | with_reducible exact SubB.refl _ | exact SubB.nil _ | refine SubB.keep rfl rfl (by first | with_reducible exact WkL.refl _ | ((repeat (first | exact WkL.nil | refine WkL.cons (by first | with_reducible exact Wk.refl _ | exact Wk.nil_own _ | exact Wk.nil_pl _ | with_reducible exact Wk.tok _ _ _ | exact Wk.tok _ _ _ | exact Wk.eq (by first | rfl | (simp []; done) | (simp []; omega))) ?_)); done) | exact WkL.refl _) ?_ | refine SubB.drop ?_)) (by repeat (first | exact SubT.nil _ | refine SubT.add ?_ | (refine SubT.keep ?_ ?_; focus (first | with_reducible rfl | (simp []; done))) | refine SubT.drop ?_)))) rfl rfl ?_
        rintro _ _ _ ⟨i959, rfl, rfl, rfl⟩
        simp only [List.nil_append, List.cons_append]
        refine xvalP (pv_bin2 rfl rfl rfl) rfl rfl ?_
        refine xvalP (pv_move rfl) rfl rfl ?_
        by_cases hp961 : ¬ (y958.1 = (-1))
        · replace h := h.1 hp961
          refine xsetB 47 (not_t (decide_eq_false hp961)) rfl ?_
          refine xskip rfl rfl ?_
          refine xskip rfl rfl ?_
          refine xskip rfl rfl ?_
          refine xskip rfl rfl ?_
          refine xvalP (pv_pick rfl rfl) rfl rfl ?_
          refine xvalP (pv_move rfl) rfl rfl ?_
          refine xskip rfl rfl ?_
          refine xskip rfl rfl ?_
          refine xvalP (pv_pick rfl rfl) rfl rfl ?_
          refine xnil ?_
          refine xthen ?_
          refine xcondT rfl ?_
          refine xseq ?_
          refine xregion ?_
          refine xvalP (pv_assign rfl) rfl rfl ?_
          refine xnil ?_
          refine xthen ?_
          refine xretc ?_
          refine xin_ret ?_
          refine xthen_ret ?_
          refine xthen_ret ?_
          refine xin_ret ?_
          refine xthen_ret ?_
          replace h := h.symm
          subst h
          exact xret1 hg rfl rfl (.refl _) (SubM.of (.nil _) (.nil _)) ⟨rfl, rfl, rfl⟩
        · replace h := h.2 hp961
          refine xsetB 47 (not_f (decide_eq_true (Decidable.of_not_not hp961))) rfl ?_
          refine xvalP (pv_move rfl) rfl rfl ?_
          refine xbuildSliceM (f := ei) [x412, 999] UndC.h InfC.h rfl rfl (by first | exact wkR_of rfl | (repeat (first | exact WkR.nil | refine WkR.cons (by (repeat (first | exact WkL.nil | refine WkL.cons (by first | with_reducible exact Wk.refl _ | exact Wk.nil_own _ | exact Wk.nil_pl _ | with_reducible exact Wk.tok _ _ _ | exact Wk.tok _ _ _ | exact Wk.eq (by first | rfl | (simp []; done) | (simp []; omega))) ?_))) ?_))) rfl rfl rfl rfl fun s49 => ?_
          obtain ⟨y963, h962, h⟩ := h
          refine xcallF (Fb := []) (Ft := [⟨(some (s49, 2)), 3, 1, ([x412, 999]).length⟩]) (tree_Builder_Cat_con (y958.2.1, y958.2.2) ([x412, 999]) b3 i959 _ h962) Try.func11 (by kernel_rfl) rfl (.cons rfl (.refl _) (.cons rfl (.tok _ _ _) .nil)) (by refine SubM.trans (SubM.mvT 1 rfl) ?_; (simp only [List.eraseIdx]); exact (SubM.of (by repeat (first | with_reducible exact SubB.refl _ | exact SubB.nil _ | refine SubB.keep rfl rfl (by first | with_reducible exact WkL.refl _ | ((repeat (first | exact WkL.nil | refine WkL.cons (by first | with_reducible exact Wk.refl _ | exact Wk.nil_own _ | exact Wk.nil_pl _ | with_reducible exact Wk.tok _ _ _ | exact Wk.tok _ _ _ | exact Wk.eq (by first | rfl | (simp []; done) | (simp []; omega))) ?_)); done) | exact WkL.refl _) ?_ | refine SubB.drop ?_)) (by repeat (first | exact SubT.nil _ | refine SubT.add ?_ | (refine SubT.keep ?_ ?_; focus (first | with_reducible rfl | (simp []; done))) | refine SubT.drop ?_)))) rfl rfl ?_
          rintro _ _ _ ⟨i964, rfl, rfl, rfl⟩
          simp only [List.nil_append, List.cons_append]
          refine xvalP (pv_bin2 rfl rfl rfl) rfl rfl ?_
          refine xvalP (pv_pick rfl rfl) rfl rfl ?_
          refine xvalP (pv_move rfl) rfl rfl ?_
          by_cases hp966 : ¬ (y963.1 = (-1))
          · replace h := h.1 hp966
            refine xsetB 53 (not_t (decide_eq_false hp966)) rfl ?_
            refine xskip rfl rfl ?_
            refine xskip rfl rfl ?_
            refine xvalP (pv_pick rfl rfl) rfl rfl ?_
            refine xnil ?_
            refine xthen ?_
            refine xcondT rfl ?_
            refine xseq ?_
            refine xregion ?_
            refine xvalP (pv_assign rfl) rfl rfl ?_
            refine xnil ?_
            refine xthen ?_
            refine xretc ?_
            refine xin_ret ?_
            refine xthen_ret ?_
            refine xthen_ret ?_
            refine xin_ret ?_
            refine xthen_ret ?_
            replace h := h.symm
            subst h
            exact xret1 hg rfl rfl (.refl _) (SubM.of (.nil _) (.nil _)) ⟨rfl, rfl, rfl⟩
          · replace h := h.2 hp966
            refine xsetB 53 (not_f (decide_eq_true (Decidable.of_not_not hp966))) rfl ?_
            obtain ⟨y968, h967, h⟩ := h
            refine xcallF (Fb := []) (Ft := [⟨(some (s49, 2)), 3, 1, ([x412, 999]).length⟩]) (tree_Builder_Open_con (y963.2.1, y963.2.2) b3 i964 _ h967) Try.func8 (by kernel_rfl) rfl (.cons rfl (.refl _) .nil) (by exact (SubM.of (by repeat (first | with_reducible exact SubB.refl _ | exact SubB.nil _ | refine SubB.keep rfl rfl (by first | with_reducible exact WkL.refl _ | ((repeat (first | exact WkL.nil | refine WkL.cons (by first | with_reducible exact Wk.refl _ | exact Wk.nil_own _ | exact Wk.nil_pl _ | with_reducible exact Wk.tok _ _ _ | exact Wk.tok _ _ _ | exact Wk.eq (by first | rfl | (simp []; done) | (simp []; omega))) ?_)); done) | exact WkL.refl _) ?_ | refine SubB.drop ?_)) (by repeat (first | exact SubT.nil _ | refine SubT.add ?_ | (refine SubT.keep ?_ ?_; focus (first | with_reducible rfl | (simp []; done))) | refine SubT.drop ?_)))) rfl rfl ?_
            rintro _ _ _ ⟨i969, rfl, rfl, rfl⟩
            simp only [List.nil_append, List.cons_append]
            refine xvalP (pv_bin2 rfl rfl rfl) rfl rfl ?_
            refine xvalP (pv_pick rfl rfl) rfl rfl ?_
            refine xnil ?_
            refine xthen ?_
            by_cases hp971 : ¬ (y968.1 = (-1))
            · replace h := h.1 hp971
              refine xcondT' (not_t (decide_eq_false hp971)) rfl ?_
              refine xseq ?_
              refine xregion ?_
              refine xvalP (pv_assign rfl) rfl rfl ?_
              refine xnil ?_
              refine xthen ?_
              refine xretc ?_
              refine xin_ret ?_
              refine xthen_ret ?_
              refine xthen_ret ?_
              refine xin_ret ?_
              refine xthen_ret ?_
              replace h := h.symm
              subst h
              exact xret1 hg rfl rfl (.refl _) (SubM.of (.nil _) (.nil _)) ⟨rfl, rfl, rfl⟩
            · replace h := h.2 hp971
              refine xcondF' (not_f (decide_eq_true (Decidable.of_not_not hp971))) rfl ?_
              refine xskipc ?_
              refine xin_normal ?_
              refine xthen ?_
              refine xregion ?_
              refine xvalP (pv_move rfl) rfl rfl ?_
              obtain ⟨h972, h⟩ := h
              refine xvalP (pv_addI h972 rfl rfl) rfl rfl ?_
              refine xvalP (pv_assign rfl) rfl rfl ?_
              refine xnil ?_
              obtain ⟨m', hm, hI⟩ := hag4 _ h
              exact xagain ⟨(x835 + 1), y968.2.1, y968.2.2, i969, hI, rfl⟩ hm ⟨(.cons rfl (.refl _) (.cons rfl (.refl _) (.cons rfl (.refl _) (.cons rfl (.refl _) (.nil _))))), (SubM.of (.keep rfl rfl (.refl _) (.nil _)) (.keep rfl (.nil _)))⟩
      · replace h := h.2 hp913
        refine xcondF' (decide_eq_false hp913) rfl ?_
        refine xexit ?_
        refine xthen_exit ?_
        refine xthen_exit ?_
        refine xin_same rfl ?_
        refine xthen ?_
        refine xseq ?_
        refine xregion ?_
        refine xvalP (pv_move rfl) rfl rfl ?_
        obtain ⟨y974, h973, h⟩ := h
        refine xcallF (Fb := []) (Ft := []) (tree_Builder_Re_con (f836, f838) x412 b3 i837 _ h973) Try.func13 (by kernel_rfl) rfl (.cons rfl (.refl _) (.cons rfl (.refl _) .nil)) (by exact (SubM.of (by repeat (first | with_reducible exact SubB.refl _ | exact SubB.nil _ | refine SubB.keep rfl rfl (by first | with_reducible exact WkL.refl _ | ((repeat (first | exact WkL.nil | refine WkL.cons (by first | with_reducible exact Wk.refl _ | exact Wk.nil_own _ | exact Wk.nil_pl _ | with_reducible exact Wk.tok _ _ _ | exact Wk.tok _ _ _ | exact Wk.eq (by first | rfl | (simp []; done) | (simp []; omega))) ?_)); done) | exact WkL.refl _) ?_ | refine SubB.drop ?_)) (by repeat (first | exact SubT.nil _ | refine SubT.add ?_ | (refine SubT.keep ?_ ?_; focus (first | with_reducible rfl | (simp []; done))) | refine SubT.drop ?_)))) rfl rfl ?_
        rintro _ _ _ ⟨rfl, rfl, rfl⟩
        simp only [List.nil_append, List.cons_append]
        refine xvalP (pv_move rfl) rfl rfl ?_
        refine xvalP (pv_extract rfl rfl) rfl rfl ?_
        refine xvalP (pv_extract rfl rfl) rfl rfl ?_
        refine xalloc InfC.h rfl rfl fun b8 => ?_
        refine xstore 0 ShpC.h rfl rfl rfl rfl rfl rfl rfl ?_
        refine xvalP (pv_assign rfl) rfl rfl ?_
        refine xnil ?_
        refine xthen ?_
        refine xseqM (fun σ => ∃ (x998 : Bool), palinodelaw06_TreeMost_j5 x998 r ∧ σ = ⟨[(2, .v (.bool x998))], [], []⟩) ?_ ?_
        · refine xregion ?_
          refine xvalP (pv_move rfl) rfl rfl ?_
          refine xvalP (pv_not rfl) rfl rfl ?_
          refine xvalP (pv_move rfl) rfl rfl ?_
          by_cases hp999 : ¬ (y974.2 = true)
          · replace h := h.1 hp999
            refine xsetB 64 (not_t (b_f hp999)) rfl ?_
            refine xvalP (pv_move rfl) rfl rfl ?_
            refine xbuildSliceM (f := ei) [x412] UndC.h InfC.h rfl rfl (by first | exact wkR_of rfl | (repeat (first | exact WkR.nil | refine WkR.cons (by (repeat (first | exact WkL.nil | refine WkL.cons (by first | with_reducible exact Wk.refl _ | exact Wk.nil_own _ | exact Wk.nil_pl _ | with_reducible exact Wk.tok _ _ _ | exact Wk.tok _ _ _ | exact Wk.eq (by first | rfl | (simp []; done) | (simp []; omega))) ?_))) ?_))) rfl rfl rfl rfl fun s66 => ?_
            obtain ⟨y1001, h1000, h⟩ := h
            refine xcallF (Fb := [⟨b8, 24, [.sl 10 none (List.map E_palinode_api_Node y974.1.1), .v (.int .i64 y974.1.2)]⟩]) (Ft := [⟨(some (s66, 1)), 3, 1, ([x412]).length⟩]) (tree_Builder_Cat_con (f836, f838) ([x412]) b3 i837 _ h1000) Try.func11 (by kernel_rfl) rfl (.cons rfl (.refl _) (.cons rfl (.tok _ _ _) .nil)) (by refine SubM.trans (SubM.mvB 1 rfl) ?_; refine SubM.trans (SubM.mvT 1 rfl) ?_; (simp only [List.eraseIdx]); exact (SubM.of (by repeat (first | with_reducible exact SubB.refl _ | exact SubB.nil _ | refine SubB.keep rfl rfl (by first | with_reducible exact WkL.refl _ | ((repeat (first | exact WkL.nil | refine WkL.cons (by first | with_reducible exact Wk.refl _ | exact Wk.nil_own _ | exact Wk.nil_pl _ | with_reducible exact Wk.tok _ _ _ | exact Wk.tok _ _ _ | exact Wk.eq (by first | rfl | (simp []; done) | (simp []; omega))) ?_)); done) | exact WkL.refl _) ?_ | refine SubB.drop ?_)) (by repeat (first | exact SubT.nil _ | refine SubT.add ?_ | (refine SubT.keep ?_ ?_; focus (first | with_reducible rfl | (simp []; done))) | refine SubT.drop ?_)))) rfl rfl ?_
            rintro _ _ _ ⟨i1002, rfl, rfl, rfl⟩
            simp only [List.nil_append, List.cons_append]
            refine xvalP (pv_move rfl) rfl rfl ?_
            refine xvalP (pv_bin2 rfl rfl rfl) rfl rfl ?_
            refine xvalP (pv_pick rfl rfl) rfl rfl ?_
            refine xvalP (pv_move rfl) rfl rfl ?_
            by_cases hp1004 : y1001.1 = x412
            · replace h := h.1 hp1004
              refine xsetB 71 (decide_eq_true hp1004) rfl ?_
              refine xvalP (pv_move rfl) rfl rfl ?_
              refine xbuildSliceM (f := ei) [x412] UndC.h InfC.h rfl rfl (by first | exact wkR_of rfl | (repeat (first | exact WkR.nil | refine WkR.cons (by (repeat (first | exact WkL.nil | refine WkL.cons (by first | with_reducible exact Wk.refl _ | exact Wk.nil_own _ | exact Wk.nil_pl _ | with_reducible exact Wk.tok _ _ _ | exact Wk.tok _ _ _ | exact Wk.eq (by first | rfl | (simp []; done) | (simp []; omega))) ?_))) ?_))) rfl rfl rfl rfl fun s73 => ?_
              obtain ⟨y1006, h1005, h⟩ := h
              refine xcallF (Fb := [⟨b8, 24, [.sl 10 none (List.map E_palinode_api_Node y974.1.1), .v (.int .i64 y974.1.2)]⟩]) (Ft := [⟨(some (s73, 1)), 3, 1, ([x412]).length⟩, ⟨(some (s66, 1)), 3, 1, ([x412]).length⟩]) (tree_Builder_Alt_con (y1001.2.1, y1001.2.2) ([x412]) b3 i1002 _ h1005) Try.func14 (by kernel_rfl) rfl (.cons rfl (.refl _) (.cons rfl (.tok _ _ _) .nil)) (by refine SubM.trans (SubM.mvT 1 rfl) ?_; (simp only [List.eraseIdx]); exact (SubM.of (by repeat (first | with_reducible exact SubB.refl _ | exact SubB.nil _ | refine SubB.keep rfl rfl (by first | with_reducible exact WkL.refl _ | ((repeat (first | exact WkL.nil | refine WkL.cons (by first | with_reducible exact Wk.refl _ | exact Wk.nil_own _ | exact Wk.nil_pl _ | with_reducible exact Wk.tok _ _ _ | exact Wk.tok _ _ _ | exact Wk.eq (by first | rfl | (simp []; done) | (simp []; omega))) ?_)); done) | exact WkL.refl _) ?_ | refine SubB.drop ?_)) (by repeat (first | exact SubT.nil _ | refine SubT.add ?_ | (refine SubT.keep ?_ ?_; focus (first | with_reducible rfl | (simp []; done))) | refine SubT.drop ?_)))) rfl rfl ?_
              rintro _ _ _ ⟨i1007, rfl, rfl, rfl⟩
              simp only [List.nil_append, List.cons_append]
              refine xvalP (pv_move rfl) rfl rfl ?_
              refine xvalP (pv_bin2 rfl rfl rfl) rfl rfl ?_
              refine xvalP (pv_pick rfl rfl) rfl rfl ?_
              refine xvalP (pv_move rfl) rfl rfl ?_
              by_cases hp1009 : y1006.1 = x412
              · replace h := h.1 hp1009
                refine xsetB 78 (decide_eq_true hp1009) rfl ?_
                obtain ⟨y1011, h1010, h⟩ := h
                refine xcallF (Fb := [⟨b8, 24, [.sl 10 none (List.map E_palinode_api_Node y974.1.1), .v (.int .i64 y974.1.2)]⟩]) (Ft := [⟨(some (s73, 1)), 3, 1, ([x412]).length⟩, ⟨(some (s66, 1)), 3, 1, ([x412]).length⟩]) (tree_Builder_Alt_con (y1006.2.1, y1006.2.2) ([] : List Int) b3 i1007 _ h1010) Try.func14 (by kernel_rfl) rfl (.cons rfl (.refl _) (.cons rfl (.nil_pl _) .nil)) (by exact (SubM.of (by repeat (first | with_reducible exact SubB.refl _ | exact SubB.nil _ | refine SubB.keep rfl rfl (by first | with_reducible exact WkL.refl _ | ((repeat (first | exact WkL.nil | refine WkL.cons (by first | with_reducible exact Wk.refl _ | exact Wk.nil_own _ | exact Wk.nil_pl _ | with_reducible exact Wk.tok _ _ _ | exact Wk.tok _ _ _ | exact Wk.eq (by first | rfl | (simp []; done) | (simp []; omega))) ?_)); done) | exact WkL.refl _) ?_ | refine SubB.drop ?_)) (by repeat (first | exact SubT.nil _ | refine SubT.add ?_ | (refine SubT.keep ?_ ?_; focus (first | with_reducible rfl | (simp []; done))) | refine SubT.drop ?_)))) rfl rfl ?_
                rintro _ _ _ ⟨i1012, rfl, rfl, rfl⟩
                simp only [List.nil_append, List.cons_append]
                refine xvalP (pv_bin2 rfl rfl rfl) rfl rfl ?_
                refine xvalP (pv_pick rfl rfl) rfl rfl ?_
                refine xvalP (pv_move rfl) rfl rfl ?_
                by_cases hp1014 : y1011.1 = (-1)
                · replace h := h.1 hp1014
                  refine xsetB 82 (decide_eq_true hp1014) rfl ?_
                  refine xbuildSliceM (f := ei) [1000] UndC.h InfC.h rfl rfl (by first | exact wkR_of rfl | (repeat (first | exact WkR.nil | refine WkR.cons (by (repeat (first | exact WkL.nil | refine WkL.cons (by first | with_reducible exact Wk.refl _ | exact Wk.nil_own _ | exact Wk.nil_pl _ | with_reducible exact Wk.tok _ _ _ | exact Wk.tok _ _ _ | exact Wk.eq (by first | rfl | (simp []; done) | (simp []; omega))) ?_))) ?_))) rfl rfl rfl rfl fun s83 => ?_
                  obtain ⟨y1016, h1015, h⟩ := h
                  refine xcallF (Fb := [⟨b8, 24, [.sl 10 none (List.map E_palinode_api_Node y974.1.1), .v (.int .i64 y974.1.2)]⟩]) (Ft := [⟨(some (s83, 1)), 3, 1, ([1000]).length⟩, ⟨(some (s73, 1)), 3, 1, ([x412]).length⟩, ⟨(some (s66, 1)), 3, 1, ([x412]).length⟩]) (tree_Builder_Cat_con (y1011.2.1, y1011.2.2) ([1000]) b3 i1012 _ h1015) Try.func11 (by kernel_rfl) rfl (.cons rfl (.refl _) (.cons rfl (.tok _ _ _) .nil)) (by refine SubM.trans (SubM.mvT 1 rfl) ?_; (simp only [List.eraseIdx]); exact (SubM.of (by repeat (first | with_reducible exact SubB.refl _ | exact SubB.nil _ | refine SubB.keep rfl rfl (by first | with_reducible exact WkL.refl _ | ((repeat (first | exact WkL.nil | refine WkL.cons (by first | with_reducible exact Wk.refl _ | exact Wk.nil_own _ | exact Wk.nil_pl _ | with_reducible exact Wk.tok _ _ _ | exact Wk.tok _ _ _ | exact Wk.eq (by first | rfl | (simp []; done) | (simp []; omega))) ?_)); done) | exact WkL.refl _) ?_ | refine SubB.drop ?_)) (by repeat (first | exact SubT.nil _ | refine SubT.add ?_ | (refine SubT.keep ?_ ?_; focus (first | with_reducible rfl | (simp []; done))) | refine SubT.drop ?_)))) rfl rfl ?_
                  rintro _ _ _ ⟨i1017, rfl, rfl, rfl⟩
                  simp only [List.nil_append, List.cons_append]
                  refine xvalP (pv_bin2 rfl rfl rfl) rfl rfl ?_
                  refine xvalP (pv_pick rfl rfl) rfl rfl ?_
                  refine xvalP (pv_move rfl) rfl rfl ?_
                  by_cases hp1019 : y1016.1 = (-1)
                  · replace h := h.1 hp1019
                    refine xsetB 87 (decide_eq_true hp1019) rfl ?_
                    obtain ⟨y1021, h1020, h⟩ := h
                    refine xcall0 (palinodelaw06_awake_con _ h1020) Try.func5 (by kernel_rfl) rfl .nil rfl rfl ?_
                    refine xvalP (pv_pick rfl rfl) rfl rfl ?_
                    refine xvalP (pv_assign rfl) rfl rfl ?_
                    refine xnil ?_
                    exact xmeet ⟨y1021, h, rfl⟩ ⟨(.cons rfl (.refl _) (.nil _)), (SubM.of (.nil _) (.nil _))⟩
                  · replace h := h.2 hp1019
                    refine xsetB 87 (decide_eq_false hp1019) rfl ?_
                    refine xskip rfl rfl ?_
                    refine xvalP (pv_pick rfl rfl) rfl rfl ?_
                    refine xvalP (pv_assign rfl) rfl rfl ?_
                    refine xnil ?_
                    exact xmeet ⟨false, h, rfl⟩ ⟨(.cons rfl (.refl _) (.nil _)), (SubM.of (.nil _) (.nil _))⟩
                · replace h := h.2 hp1014
                  refine xsetB 82 (decide_eq_false hp1014) rfl ?_
                  refine xskip rfl rfl ?_
                  refine xskip rfl rfl ?_
                  refine xskip rfl rfl ?_
                  refine xvalP (pv_pick rfl rfl) rfl rfl ?_
                  refine xvalP (pv_move rfl) rfl rfl ?_
                  refine xskip rfl rfl ?_
                  refine xvalP (pv_pick rfl rfl) rfl rfl ?_
                  refine xvalP (pv_assign rfl) rfl rfl ?_
                  refine xnil ?_
                  exact xmeet ⟨false, h, rfl⟩ ⟨(.cons rfl (.refl _) (.nil _)), (SubM.of (.nil _) (.nil _))⟩
              · replace h := h.2 hp1009
                refine xsetB 78 (decide_eq_false hp1009) rfl ?_
                refine xskip rfl rfl ?_
                refine xskip rfl rfl ?_
                refine xvalP (pv_pick rfl rfl) rfl rfl ?_
                refine xvalP (pv_move rfl) rfl rfl ?_
                refine xskip rfl rfl ?_
                refine xskip rfl rfl ?_
                refine xskip rfl rfl ?_
                refine xvalP (pv_pick rfl rfl) rfl rfl ?_
                refine xvalP (pv_move rfl) rfl rfl ?_
                refine xskip rfl rfl ?_
                refine xvalP (pv_pick rfl rfl) rfl rfl ?_
                refine xvalP (pv_assign rfl) rfl rfl ?_
                refine xnil ?_
                exact xmeet ⟨false, h, rfl⟩ ⟨(.cons rfl (.refl _) (.nil _)), (SubM.of (.nil _) (.nil _))⟩
            · replace h := h.2 hp1004
              refine xsetB 71 (decide_eq_false hp1004) rfl ?_
              refine xskip rfl rfl ?_
              refine xskip rfl rfl ?_
              refine xskip rfl rfl ?_
              refine xskip rfl rfl ?_
              refine xskip rfl rfl ?_
              refine xvalP (pv_pick rfl rfl) rfl rfl ?_
              refine xvalP (pv_move rfl) rfl rfl ?_
              refine xskip rfl rfl ?_
              refine xskip rfl rfl ?_
              refine xvalP (pv_pick rfl rfl) rfl rfl ?_
              refine xvalP (pv_move rfl) rfl rfl ?_
              refine xskip rfl rfl ?_
              refine xskip rfl rfl ?_
              refine xskip rfl rfl ?_
              refine xvalP (pv_pick rfl rfl) rfl rfl ?_
              refine xvalP (pv_move rfl) rfl rfl ?_
              refine xskip rfl rfl ?_
              refine xvalP (pv_pick rfl rfl) rfl rfl ?_
              refine xvalP (pv_assign rfl) rfl rfl ?_
              refine xnil ?_
              exact xmeet ⟨false, h, rfl⟩ ⟨(.cons rfl (.refl _) (.nil _)), (SubM.of (.nil _) (.nil _))⟩
          · replace h := h.2 hp999
            refine xsetB 64 (not_f (Decidable.of_not_not hp999)) rfl ?_
            refine xskip rfl rfl ?_
            refine xskip rfl rfl ?_
            refine xskip rfl rfl ?_
            refine xskip rfl rfl ?_
            refine xskip rfl rfl ?_
            refine xvalP (pv_pick rfl rfl) rfl rfl ?_
            refine xvalP (pv_move rfl) rfl rfl ?_
            refine xskip rfl rfl ?_
            refine xskip rfl rfl ?_
            refine xskip rfl rfl ?_
            refine xskip rfl rfl ?_
            refine xskip rfl rfl ?_
            refine xvalP (pv_pick rfl rfl) rfl rfl ?_
            refine xvalP (pv_move rfl) rfl rfl ?_
            refine xskip rfl rfl ?_
            refine xskip rfl rfl ?_
            refine xvalP (pv_pick rfl rfl) rfl rfl ?_
            refine xvalP (pv_move rfl) rfl rfl ?_
            refine xskip rfl rfl ?_
            refine xskip rfl rfl ?_
            refine xskip rfl rfl ?_
            refine xvalP (pv_pick rfl rfl) rfl rfl ?_
            refine xvalP (pv_move rfl) rfl rfl ?_
            refine xskip rfl rfl ?_
            refine xvalP (pv_pick rfl rfl) rfl rfl ?_
            refine xvalP (pv_assign rfl) rfl rfl ?_
            refine xnil ?_
            exact xmeet ⟨false, h, rfl⟩ ⟨(.cons rfl (.refl _) (.nil _)), (SubM.of (.nil _) (.nil _))⟩
        · clear h
          rintro _ ⟨x998, h, rfl⟩
          refine xretc ?_
          replace h := h.symm
          subst h
          exact xret1 hg rfl rfl (.refl _) (SubM.of (.nil _) (.nil _)) ⟨rfl, rfl, rfl⟩
end Go.Proofs.Ytfcdelokijnkoaa
