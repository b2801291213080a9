/- What functions' texts ask for, and the walks that show it (printed by a program). -/
import Derived.Test.YtljlaggehilpfaaGK
namespace Go.Proofs.Ytljlaggehilpfaa
/-- palinodelaw03.FilesFull -/
def palinodelaw03_FilesFull_j2 (x246 : Int) (ag1 : (Int × (List (ByteArray × (List UInt8)))) → Prop) (x333 : Int) (x334 : Bool) (x335 : Bool) (x336 : Bool) (l337 : List (ByteArray × (List UInt8))) (r : Bool) : Prop :=
  InR (x246 + 1) ∧ ag1 ((x246 + 1), l337)
def palinodelaw03_FilesFull_j4 (x512 : Bool) (r : Bool) : Prop :=
  r = x512
def palinodelaw03_FilesFull_j3 (z364 : Int) (l247 : List (ByteArray × (List UInt8))) (x1 : UInt8) (x461 : Bool) (l462 : List (ByteArray × (List UInt8))) (r : Bool) : Prop :=
  ((x461 = true → r = false) ∧ (¬ (x461 = true) → MakeOk (((z364 : Int).tmod (100))) (((z364 : Int).tmod (100))) 1 ∧ ∃ y516 : Int × (List (ByteArray × (List UInt8))), files_Table_Add_R l462 (⟨#[97]⟩ : ByteArray) ([(List.replicate (((z364 : Int).tmod (100)) : Int).toNat (0 : UInt8))]) y516 ∧ ((y516.1 = 0 → ∃ y521 : Int, files_Table_Len_R y516.2 (⟨#[97]⟩ : ByteArray) y521 ∧ ((y521 = 65536 → ∃ y525 : (List (ByteArray × (List UInt8))), files_Table_All_R l247 y525 ∧ (((y525.length : Int) = (if 16 < (((x1.toNat : Int) : Int).tmod (20)) then 16 else (((x1.toNat : Int) : Int).tmod (20))) → ∃ y532 : Bool, palinodelaw03_awake_R y532 ∧ palinodelaw03_FilesFull_j4 y532 r) ∧ (¬ ((y525.length : Int) = (if 16 < (((x1.toNat : Int) : Int).tmod (20)) then 16 else (((x1.toNat : Int) : Int).tmod (20)))) → palinodelaw03_FilesFull_j4 false r))) ∧ (¬ (y521 = 65536) → palinodelaw03_FilesFull_j4 false r))) ∧ (¬ (y516.1 = 0) → palinodelaw03_FilesFull_j4 false r))))
def palinodelaw03_FilesFull_l1 (x1 : UInt8) (x2 : UInt16) (ag1 : (Int × (List (ByteArray × (List UInt8)))) → Prop) (x246 : Int) (l247 : List (ByteArray × (List UInt8))) (r : Bool) : Prop :=
  ((x246 < (((x1.toNat : Int) : Int).tmod (20)) → InR (97 + x246) ∧ ∃ c341 : UInt8, (c341.toNat : Int) = IntKind.u8.wrap ((97 + x246)) ∧ InR ((((⟨#[102]⟩ : ByteArray)).size : Int) + (((⟨([c341]).toArray⟩ : ByteArray)).size : Int)) ∧ ∃ y345 : Int × (List (ByteArray × (List UInt8))), files_Table_Put_R l247 (((⟨#[102]⟩ : ByteArray)) ++ ((⟨([c341]).toArray⟩ : ByteArray))) ([] : List UInt8) y345 ∧ ((¬ (((decide (y345.1 = 0)) == (decide (x246 < 16))) = true) → r = false) ∧ (¬ (¬ (((decide (y345.1 = 0)) == (decide (x246 < 16))) = true)) → ((¬ (y345.1 = 0) → ((¬ (y345.1 = 7) → r = false) ∧ (¬ (¬ (y345.1 = 7)) → palinodelaw03_FilesFull_j2 x246 ag1 y345.1 (!(decide (y345.1 = 0))) true (!(decide (y345.1 = 7))) y345.2 r))) ∧ (¬ (¬ (y345.1 = 0)) → palinodelaw03_FilesFull_j2 x246 ag1 y345.1 (!(decide (y345.1 = 0))) false false y345.2 r))))) ∧ (¬ (x246 < (((x1.toNat : Int) : Int).tmod (20))) → ∃ z364 : Int, z364 = IntKind.i64.wrap ((x2.toNat : Int)) ∧ (100 : Int) ≠ 0 ∧ ∃ y367 : Int × (Option ((List (ByteArray × (List UInt8))))), files_New_R ([] : List (ByteArray × (List UInt8))) y367 ∧ ((y367.2 = none → r = false) ∧ (∀ x368 : (List (ByteArray × (List UInt8))), y367.2 = some x368 → MakeOk 65537 65537 1 ∧ ∃ y468 : Int × (List (ByteArray × (List UInt8))), files_Table_Put_v2_R (List.replicate (65537 : Int).toNat (0 : UInt8)) x368 (⟨#[97]⟩ : ByteArray) y468 ∧ ((¬ (y468.1 = 8) → palinodelaw03_FilesFull_j3 z364 l247 x1 true y468.2 r) ∧ (¬ (¬ (y468.1 = 8)) → InR (65536 - ((z364 : Int).tmod (100))) ∧ MakeOk ((65536 - ((z364 : Int).tmod (100)))) ((65536 - ((z364 : Int).tmod (100)))) 1 ∧ ∃ y476 : Int × (List (ByteArray × (List UInt8))), files_Table_Put_v2_R (List.replicate ((65536 - ((z364 : Int).tmod (100))) : Int).toNat (0 : UInt8)) y468.2 (⟨#[97]⟩ : ByteArray) y476 ∧ ((¬ (y476.1 = 0) → palinodelaw03_FilesFull_j3 z364 l247 x1 true y476.2 r) ∧ (¬ (¬ (y476.1 = 0)) → MakeOk (((z364 : Int).tmod (100))) (((z364 : Int).tmod (100))) 1 ∧ ∃ y483 : Int × (List (ByteArray × (List UInt8))), files_Table_Add_R y476.2 (⟨#[97]⟩ : ByteArray) ([(List.replicate (((z364 : Int).tmod (100)) : Int).toNat (0 : UInt8)), [(1 : UInt8)]]) y483 ∧ ((¬ (y483.1 = 8) → palinodelaw03_FilesFull_j3 z364 l247 x1 true y483.2 r) ∧ (¬ (¬ (y483.1 = 8)) → ∃ y488 : Int, files_Table_Len_R y483.2 (⟨#[97]⟩ : ByteArray) y488 ∧ InR (65536 - ((z364 : Int).tmod (100))) ∧ palinodelaw03_FilesFull_j3 z364 l247 x1 (!(decide (y488 = (65536 - ((z364 : Int).tmod (100)))))) y483.2 r))))))))))
def palinodelaw03_FilesFull_R (x1 : UInt8) (x2 : UInt16) (r : Bool) : Prop :=
  ∃ y4 : Int × (Option ((List (ByteArray × (List UInt8))))), files_New_R ([] : List (ByteArray × (List UInt8))) y4 ∧ ((y4.2 = none → r = false) ∧ (∀ x5 : (List (ByteArray × (List UInt8))), y4.2 = some x5 → (20 : Int) ≠ 0 ∧ LoopR (fun ag1 s => palinodelaw03_FilesFull_l1 x1 x2 ag1 s.1 s.2 r) (0, x5)))
def palinodelaw03_FilesFull_j2_ev (fuel : Nat) (x246 : Int) (ag1e : (Int × (List (ByteArray × (List UInt8)))) → Option (Bool)) (x333 : Int) (x334 : Bool) (x335 : Bool) (x336 : Bool) (l337 : List (ByteArray × (List UInt8))) : Option (Bool) :=
  (if InR (x246 + 1) then ag1e ((x246 + 1), l337) else none)
theorem palinodelaw03_FilesFull_j2_ok {fuel : Nat} {x246 : Int} {ag1 : (Int × (List (ByteArray × (List UInt8)))) → Prop} {ag1e : (Int × (List (ByteArray × (List UInt8)))) → Option (Bool)} {x333 : Int} {x334 : Bool} {x335 : Bool} {x336 : Bool} {l337 : List (ByteArray × (List UInt8))} {r : Bool} (hagag1 : ∀ s, ag1e s = some r → ag1 s) (h : palinodelaw03_FilesFull_j2_ev fuel x246 ag1e x333 x334 x335 x336 l337 = some r) : palinodelaw03_FilesFull_j2 x246 ag1 x333 x334 x335 x336 l337 r := by
  unfold palinodelaw03_FilesFull_j2_ev at h
  unfold palinodelaw03_FilesFull_j2
  obtain ⟨g136, h⟩ := if_ok h
  refine ⟨g136, ?_⟩
  exact hagag1 _ h
def palinodelaw03_FilesFull_j4_ev (fuel : Nat) (x512 : Bool) : Option (Bool) :=
  some x512
theorem palinodelaw03_FilesFull_j4_ok {fuel : Nat} {x512 : Bool} {r : Bool} (h : palinodelaw03_FilesFull_j4_ev fuel x512 = some r) : palinodelaw03_FilesFull_j4 x512 r := by
  unfold palinodelaw03_FilesFull_j4_ev at h
  unfold palinodelaw03_FilesFull_j4
  exact (Option.some.inj h).symm
def palinodelaw03_FilesFull_j3_ev (fuel : Nat) (z364 : Int) (l247 : List (ByteArray × (List UInt8))) (x1 : UInt8) (x461 : Bool) (l462 : List (ByteArray × (List UInt8))) : Option (Bool) :=
  (if x461 = true then some false else (if MakeOk (((z364 : Int).tmod (100))) (((z364 : Int).tmod (100))) 1 then ((files_Table_Add_ev fuel l462 (⟨#[97]⟩ : ByteArray) ([(List.replicate (((z364 : Int).tmod (100)) : Int).toNat (0 : UInt8))])).bind fun y516 => (if y516.1 = 0 then ((files_Table_Len_ev fuel y516.2 (⟨#[97]⟩ : ByteArray)).bind fun y521 => (if y521 = 65536 then ((files_Table_All_ev fuel l247).bind fun y525 => (if (y525.length : Int) = (if 16 < (((x1.toNat : Int) : Int).tmod (20)) then 16 else (((x1.toNat : Int) : Int).tmod (20))) then ((palinodelaw03_awake_ev fuel).bind fun y532 => palinodelaw03_FilesFull_j4_ev fuel y532) else palinodelaw03_FilesFull_j4_ev fuel false)) else palinodelaw03_FilesFull_j4_ev fuel false)) else palinodelaw03_FilesFull_j4_ev fuel false)) else none))
theorem palinodelaw03_FilesFull_j3_ok {fuel : Nat} {z364 : Int} {l247 : List (ByteArray × (List UInt8))} {x1 : UInt8} {x461 : Bool} {l462 : List (ByteArray × (List UInt8))} {r : Bool} (h : palinodelaw03_FilesFull_j3_ev fuel z364 l247 x1 x461 l462 = some r) : palinodelaw03_FilesFull_j3 z364 l247 x1 x461 l462 r := by
  unfold palinodelaw03_FilesFull_j3_ev at h
  unfold palinodelaw03_FilesFull_j3
  refine ⟨fun g137 => ?_, fun g137 => ?_⟩
  · rw [if_pos g137] at h
    exact (Option.some.inj h).symm
  · rw [if_neg g137] at h
    obtain ⟨g138, h⟩ := if_ok h
    refine ⟨g138, ?_⟩
    obtain ⟨q139, g139, h⟩ := bind_ok h
    refine ⟨q139, files_Table_Add_ok g139, ?_⟩
    refine ⟨fun g140 => ?_, fun g140 => ?_⟩
    · rw [if_pos g140] at h
      obtain ⟨q141, g141, h⟩ := bind_ok h
      refine ⟨q141, files_Table_Len_ok g141, ?_⟩
      refine ⟨fun g142 => ?_, fun g142 => ?_⟩
      · rw [if_pos g142] at h
        obtain ⟨q143, g143, h⟩ := bind_ok h
        refine ⟨q143, files_Table_All_ok g143, ?_⟩
        refine ⟨fun g144 => ?_, fun g144 => ?_⟩
        · rw [if_pos g144] at h
          obtain ⟨q145, g145, h⟩ := bind_ok h
          refine ⟨q145, palinodelaw03_awake_ok g145, ?_⟩
          exact palinodelaw03_FilesFull_j4_ok h
        · rw [if_neg g144] at h
          exact palinodelaw03_FilesFull_j4_ok h
      · rw [if_neg g142] at h
        exact palinodelaw03_FilesFull_j4_ok h
    · rw [if_neg g140] at h
      exact palinodelaw03_FilesFull_j4_ok h
def palinodelaw03_FilesFull_l1_ev (fuel : Nat) (x1 : UInt8) (x2 : UInt16) (ag1e : (Int × (List (ByteArray × (List UInt8)))) → Option (Bool)) (x246 : Int) (l247 : List (ByteArray × (List UInt8))) : Option (Bool) :=
  (if x246 < (((x1.toNat : Int) : Int).tmod (20)) then (if InR (97 + x246) then (exB (IntKind.u8.wrap ((97 + x246))) fun c341 => (if InR ((((⟨#[102]⟩ : ByteArray)).size : Int) + (((⟨([c341]).toArray⟩ : ByteArray)).size : Int)) then ((files_Table_Put_ev fuel l247 (((⟨#[102]⟩ : ByteArray)) ++ ((⟨([c341]).toArray⟩ : ByteArray))) ([] : List UInt8)).bind fun y345 => (if ¬ (((decide (y345.1 = 0)) == (decide (x246 < 16))) = true) then some false else (if ¬ (y345.1 = 0) then (if ¬ (y345.1 = 7) then some false else palinodelaw03_FilesFull_j2_ev fuel x246 ag1e y345.1 (!(decide (y345.1 = 0))) true (!(decide (y345.1 = 7))) y345.2) else palinodelaw03_FilesFull_j2_ev fuel x246 ag1e y345.1 (!(decide (y345.1 = 0))) false false y345.2))) else none)) else none) else ((some (IntKind.i64.wrap ((x2.toNat : Int)) : Int)).bind fun z364 => (if (100 : Int) ≠ 0 then ((files_New_ev fuel ([] : List (ByteArray × (List UInt8)))).bind fun y367 => (optE (y367.2) (some false) fun x368 => (if MakeOk 65537 65537 1 then ((files_Table_Put_v2_ev fuel (List.replicate (65537 : Int).toNat (0 : UInt8)) x368 (⟨#[97]⟩ : ByteArray)).bind fun y468 => (if ¬ (y468.1 = 8) then palinodelaw03_FilesFull_j3_ev fuel z364 l247 x1 true y468.2 else (if InR (65536 - ((z364 : Int).tmod (100))) then (if MakeOk ((65536 - ((z364 : Int).tmod (100)))) ((65536 - ((z364 : Int).tmod (100)))) 1 then ((files_Table_Put_v2_ev fuel (List.replicate ((65536 - ((z364 : Int).tmod (100))) : Int).toNat (0 : UInt8)) y468.2 (⟨#[97]⟩ : ByteArray)).bind fun y476 => (if ¬ (y476.1 = 0) then palinodelaw03_FilesFull_j3_ev fuel z364 l247 x1 true y476.2 else (if MakeOk (((z364 : Int).tmod (100))) (((z364 : Int).tmod (100))) 1 then ((files_Table_Add_ev fuel y476.2 (⟨#[97]⟩ : ByteArray) ([(List.replicate (((z364 : Int).tmod (100)) : Int).toNat (0 : UInt8)), [(1 : UInt8)]])).bind fun y483 => (if ¬ (y483.1 = 8) then palinodelaw03_FilesFull_j3_ev fuel z364 l247 x1 true y483.2 else ((files_Table_Len_ev fuel y483.2 (⟨#[97]⟩ : ByteArray)).bind fun y488 => (if InR (65536 - ((z364 : Int).tmod (100))) then palinodelaw03_FilesFull_j3_ev fuel z364 l247 x1 (!(decide (y488 = (65536 - ((z364 : Int).tmod (100)))))) y483.2 else none)))) else none))) else none) else none))) else none))) else none)))
theorem palinodelaw03_FilesFull_l1_ok {fuel : Nat} {x1 : UInt8} {x2 : UInt16} {ag1e : (Int × (List (ByteArray × (List UInt8)))) → Option (Bool)} {ag1 : (Int × (List (ByteArray × (List UInt8)))) → Prop} {x246 : Int} {l247 : List (ByteArray × (List UInt8))} {r : Bool} (hagag1 : ∀ s, ag1e s = some r → ag1 s) (h : palinodelaw03_FilesFull_l1_ev fuel x1 x2 ag1e x246 l247 = some r) : palinodelaw03_FilesFull_l1 x1 x2 ag1 x246 l247 r := by
  unfold palinodelaw03_FilesFull_l1_ev at h
  unfold palinodelaw03_FilesFull_l1
  refine ⟨fun g146 => ?_, fun g146 => ?_⟩
  · rw [if_pos g146] at h
    obtain ⟨g147, h⟩ := if_ok h
    refine ⟨g147, ?_⟩
    obtain ⟨q148, g148, h⟩ := exB_ok h
    refine ⟨q148, g148, ?_⟩
    obtain ⟨g149, h⟩ := if_ok h
    refine ⟨g149, ?_⟩
    obtain ⟨q150, g150, h⟩ := bind_ok h
    refine ⟨q150, files_Table_Put_ok g150, ?_⟩
    refine ⟨fun g151 => ?_, fun g151 => ?_⟩
    · rw [if_pos g151] at h
      exact (Option.some.inj h).symm
    · rw [if_neg g151] at h
      refine ⟨fun g152 => ?_, fun g152 => ?_⟩
      · rw [if_pos g152] at h
        refine ⟨fun g153 => ?_, fun g153 => ?_⟩
        · rw [if_pos g153] at h
          exact (Option.some.inj h).symm
        · rw [if_neg g153] at h
          exact palinodelaw03_FilesFull_j2_ok hagag1 h
      · rw [if_neg g152] at h
        exact palinodelaw03_FilesFull_j2_ok hagag1 h
  · rw [if_neg g146] at h
    obtain ⟨q154, g154, h⟩ := bind_ok h
    refine ⟨q154, (Option.some.inj g154).symm, ?_⟩
    obtain ⟨g155, h⟩ := if_ok h
    refine ⟨g155, ?_⟩
    obtain ⟨q156, g156, h⟩ := bind_ok h
    refine ⟨q156, files_New_ok g156, ?_⟩
    refine ⟨fun g157 => ?_, fun q157 g157 => ?_⟩
    · rw [g157] at h
      simp only [optE] at h
      exact (Option.some.inj h).symm
    · rw [g157] at h
      simp only [optE] at h
      obtain ⟨g158, h⟩ := if_ok h
      refine ⟨g158, ?_⟩
      obtain ⟨q159, g159, h⟩ := bind_ok h
      refine ⟨q159, files_Table_Put_v2_ok g159, ?_⟩
      refine ⟨fun g160 => ?_, fun g160 => ?_⟩
      · rw [if_pos g160] at h
        exact palinodelaw03_FilesFull_j3_ok h
      · rw [if_neg g160] at h
        obtain ⟨g161, h⟩ := if_ok h
        refine ⟨g161, ?_⟩
        obtain ⟨g162, h⟩ := if_ok h
        refine ⟨g162, ?_⟩
        obtain ⟨q163, g163, h⟩ := bind_ok h
        refine ⟨q163, files_Table_Put_v2_ok g163, ?_⟩
        refine ⟨fun g164 => ?_, fun g164 => ?_⟩
        · rw [if_pos g164] at h
          exact palinodelaw03_FilesFull_j3_ok h
        · rw [if_neg g164] at h
          obtain ⟨g165, h⟩ := if_ok h
          refine ⟨g165, ?_⟩
          obtain ⟨q166, g166, h⟩ := bind_ok h
          refine ⟨q166, files_Table_Add_ok g166, ?_⟩
          refine ⟨fun g167 => ?_, fun g167 => ?_⟩
          · rw [if_pos g167] at h
            exact palinodelaw03_FilesFull_j3_ok h
          · rw [if_neg g167] at h
            obtain ⟨q168, g168, h⟩ := bind_ok h
            refine ⟨q168, files_Table_Len_ok g168, ?_⟩
            obtain ⟨g169, h⟩ := if_ok h
            refine ⟨g169, ?_⟩
            exact palinodelaw03_FilesFull_j3_ok h
def palinodelaw03_FilesFull_ev (fuel : Nat) (x1 : UInt8) (x2 : UInt16) : Option (Bool) :=
  ((files_New_ev fuel ([] : List (ByteArray × (List UInt8)))).bind fun y4 => (optE (y4.2) (some false) fun x5 => (if (20 : Int) ≠ 0 then (loopE (fun ag1e s => palinodelaw03_FilesFull_l1_ev fuel x1 x2 ag1e s.1 s.2) fuel (0, x5)) else none)))
theorem palinodelaw03_FilesFull_ok {fuel : Nat} {x1 : UInt8} {x2 : UInt16} {r : Bool} (h : palinodelaw03_FilesFull_ev fuel x1 x2 = some r) : palinodelaw03_FilesFull_R x1 x2 r := by
  unfold palinodelaw03_FilesFull_ev at h
  unfold palinodelaw03_FilesFull_R
  obtain ⟨q170, g170, h⟩ := bind_ok h
  refine ⟨q170, files_New_ok g170, ?_⟩
  refine ⟨fun g171 => ?_, fun q171 g171 => ?_⟩
  · rw [g171] at h
    simp only [optE] at h
    exact (Option.some.inj h).symm
  · rw [g171] at h
    simp only [optE] at h
    obtain ⟨g172, h⟩ := if_ok h
    refine ⟨g172, ?_⟩
    refine loopE_ok ?_ h
    intro ae ag s hag h
    exact palinodelaw03_FilesFull_l1_ok hag h
set_option maxHeartbeats 4000000 in
theorem palinodelaw03_FilesFull_con (x1 : UInt8) (x2 : UInt16) (r : Bool) (h : palinodelaw03_FilesFull_R x1 x2 r) : Con Try.prog 4 [.v (.int .u8 ((x1.toNat : Int))), .v (.int .u16 ((x2.toNat : Int)))] [] [] (Ret (.v (.bool r))) := by
  refine xenter Try.func4 rfl rfl fun g hg => ?_
  simp only [Try.ntmps4, slots]
  refine xseq ?_
  refine xregion ?_
  refine xvalP (pv_assign rfl) rfl rfl ?_
  refine xnil ?_
  refine xthen ?_
  refine xseq ?_
  refine xregion ?_
  obtain ⟨y4, h3, h⟩ := h
  refine xcallF (Fb := []) (Ft := []) (files_New_con ([] : List (ByteArray × (List UInt8))) _ h3) Try.func8 (by kernel_rfl) rfl (.cons rfl (.nil_pl _) .nil) (by exact (SubM.of (by repeat (first | with_reducible exact SubB.refl _ | exact SubB.nil _ | refine SubB.keep rfl rfl (by first | with_reducible exact WkL.refl _ | ((repeat (first | exact WkL.nil | refine WkL.cons (by first | with_reducible exact Wk.refl _ | exact Wk.nil_own _ | exact Wk.nil_pl _ | with_reducible exact Wk.tok _ _ _ | exact Wk.tok _ _ _ | exact Wk.eq (by first | rfl | (simp []; done) | (simp []; omega))) ?_)); done) | exact WkL.refl _) ?_ | refine SubB.drop ?_)) (by repeat (first | exact SubT.nil _ | refine SubT.add ?_ | (refine SubT.keep ?_ ?_; focus (first | with_reducible rfl | (simp []; done))) | refine SubT.drop ?_)))) rfl rfl ?_
  intro rr3 bb3 tt3 hr3
  rcases ho3 : y4.2 with _ | x5
  · have hq3 := hr3.1 ho3
    replace h := h.1 ho3
    obtain ⟨rfl, rfl, rfl⟩ := hq3
    simp only [List.nil_append, List.cons_append]
    refine xvalP (pv_move rfl) rfl rfl ?_
    refine xvalP (pv_extract rfl rfl) rfl rfl ?_
    refine xvalP (pv_extract rfl rfl) rfl rfl ?_
    refine xvalP (pv_assign rfl) rfl rfl ?_
    refine xvalP (pv_assign rfl) rfl rfl ?_
    refine xnil ?_
    refine xthen ?_
    refine xseq ?_
    refine xseq ?_
    refine xregion ?_
    refine xvalP (pv_move rfl) rfl rfl ?_
    refine xvalP (pv_eqNilN UndC.h rfl rfl) rfl rfl ?_
    refine xnil ?_
    refine xthen ?_
    refine xcondT rfl ?_
    refine xseq ?_
    refine xregion ?_
    refine xvalP (pv_assign rfl) rfl rfl ?_
    refine xnil ?_
    refine xthen ?_
    refine xretc ?_
    refine xthen_ret ?_
    replace h := h.symm
    subst h
    exact xret1 hg rfl rfl (.refl _) (SubM.of (.nil _) (.nil _)) ⟨rfl, rfl, rfl⟩
  · have hq3 := hr3.2 x5 ho3
    replace h := h.2 x5 ho3
    obtain ⟨b8, i6, rfl, rfl, rfl⟩ := hq3
    simp only [List.nil_append, List.cons_append]
    refine xvalP (pv_move rfl) rfl rfl ?_
    refine xvalP (pv_extract rfl rfl) rfl rfl ?_
    refine xvalP (pv_extract rfl rfl) rfl rfl ?_
    refine xvalP (pv_assign rfl) rfl rfl ?_
    refine xvalP (pv_assign rfl) rfl rfl ?_
    refine xnil ?_
    refine xthen ?_
    refine xseq ?_
    refine xseq ?_
    refine xregion ?_
    refine xvalP (pv_move rfl) rfl rfl ?_
    refine xvalP (pv_eqNil UndC.h rfl rfl) rfl rfl ?_
    refine xnil ?_
    refine xthen ?_
    refine xcondF rfl ?_
    refine xskipc ?_
    refine xthen ?_
    refine xseq ?_
    refine xregion ?_
    refine xvalP (pv_move rfl) rfl rfl ?_
    refine xvalP (pv_convW (w8 x1) UndC.h UndC.h rfl) rfl rfl ?_
    obtain ⟨h14, h⟩ := h
    refine xvalP (pv_remW h14 rfl rfl rfl rfl) rfl rfl ?_
    refine xvalP (pv_assign rfl) rfl rfl ?_
    refine xnil ?_
    refine xthen ?_
    refine xseq ?_
    refine xseq ?_
    refine xregion ?_
    refine xvalP (pv_assign rfl) rfl rfl ?_
    refine xnil ?_
    refine xthen ?_
    refine xblock ?_
    obtain ⟨Inv, ⟨m0, hI⟩, hS⟩ := h
    refine xloop (fun σ m => ∃ (x246 : Int), ∃ (l247 : List (ByteArray × (List UInt8))), ∃ (i248 : Option (Nat × Nat)), Inv (x246, l247) m ∧ σ = ⟨[(1, .v (.int .u16 ((x2.toNat : Int)))), (5, .v (.pointer (some ⟨b8, 0, none⟩))), (7, .v (.int .i64 ((((x1.toNat : Int) : Int).tmod (20))))), (8, .v (.int .i64 x246))], [rbx i248 30 2 (List.map E_palinode_api_File l247), ⟨b8, 60, [.rb i248 l247.length]⟩], []⟩) ⟨0, x5, i6, hI, rfl⟩ ⟨(.cons rfl (.refl _) (.cons rfl (.refl _) (.cons rfl (.refl _) (.cons rfl (.refl _) (.nil _))))), by exact (SubM.of (.keep rfl rfl (.refl _) (.keep rfl rfl (.cons (.eq (by first | rfl | simp)) .nil) (.nil _))) (.nil _))⟩ ?_
    rintro _ m ⟨x246, l247, i248, hI, rfl⟩
    obtain ⟨ag1, hag1, h⟩ : ∃ ag, (∀ s', ag s' → ∃ m', m' < m ∧ Inv s' m') ∧ palinodelaw03_FilesFull_l1 x1 x2 ag x246 l247 r := ⟨_, fun _ h => h, hS (x246, l247) _ hI⟩
    clear hS hI
    refine xseq ?_
    refine xseq ?_
    refine xregion ?_
    refine xvalP (pv_move rfl) rfl rfl ?_
    refine xvalP (pv_move rfl) rfl rfl ?_
    refine xvalP (pv_bin2 rfl rfl rfl) rfl rfl ?_
    refine xnil ?_
    refine xthen ?_
    by_cases hp309 : x246 < (((x1.toNat : Int) : Int).tmod (20))
    · replace h := h.1 hp309
      refine xcondT' (decide_eq_true hp309) rfl ?_
      refine xskipc ?_
      refine xthen ?_
      refine xseqM (fun σ => ∃ (x333 : Int), ∃ (x334 : Bool), ∃ (x335 : Bool), ∃ (x336 : Bool), ∃ (l337 : List (ByteArray × (List UInt8))), ∃ (i338 : Option (Nat × Nat)), palinodelaw03_FilesFull_j2 x246 ag1 x333 x334 x335 x336 l337 r ∧ σ = ⟨[(1, .v (.int .u16 ((x2.toNat : Int)))), (5, .v (.pointer (some ⟨b8, 0, none⟩))), (7, .v (.int .i64 ((((x1.toNat : Int) : Int).tmod (20))))), (8, .v (.int .i64 x246)), (41, .v (.int .i64 x333)), (42, .v (.bool x334)), (43, .v (.bool x335)), (46, .v (.bool x336))], [rbx i338 30 2 (List.map E_palinode_api_File l337), ⟨b8, 60, [.rb i338 l337.length]⟩], []⟩) ?_ ?_
      · refine xblock ?_
        refine xseq ?_
        refine xregion ?_
        refine xvalP (pv_move rfl) rfl rfl ?_
        refine xvalP (pv_move rfl) rfl rfl ?_
        obtain ⟨h339, h⟩ := h
        refine xvalP (pv_addI h339 rfl rfl) rfl rfl ?_
        obtain ⟨c341, h340, h⟩ := h
        refine xvalP (pv_convW h340 UndC.h UndC.h rfl) rfl rfl ?_
        refine xbuildSliceM (f := eb) [c341] UndC.h InfC.h rfl rfl (by first | exact wkR_of rfl | (repeat (first | exact WkR.nil | refine WkR.cons (by (repeat (first | exact WkL.nil | refine WkL.cons (by first | with_reducible exact Wk.refl _ | exact Wk.nil_own _ | exact Wk.nil_pl _ | with_reducible exact Wk.tok _ _ _ | exact Wk.tok _ _ _ | exact Wk.eq (by first | rfl | (simp []; done) | (simp []; omega))) ?_))) ?_))) rfl rfl rfl rfl fun s31 => ?_
        refine xval (pv_str (bs := [c341]) UndC.h UndC.h UndC.h rfl rfl rfl (fun _ h => by injection h with h; exact h.symm)) rfl rfl ?_
        obtain ⟨h343, h⟩ := h
        refine xvalP (pv_addS h343 rfl rfl) rfl rfl ?_
        obtain ⟨y345, h344, h⟩ := h
        refine xcallF (Fb := []) (Ft := [⟨(some (s31, 1)), 5, 1, ([c341]).length⟩]) (files_Table_Put_con l247 (((⟨#[102]⟩ : ByteArray)) ++ ((⟨([c341]).toArray⟩ : ByteArray))) ([] : List UInt8) b8 i248 _ h344) Try.func12 (by kernel_rfl) rfl (.cons rfl (.refl _) (.cons rfl (.refl _) (.cons rfl (.nil_pl _) .nil))) (by refine SubM.trans (SubM.mvB 0 rfl) ?_; refine SubM.trans (SubM.mvB 1 rfl) ?_; (simp only [List.eraseIdx]); exact (SubM.of (by repeat (first | with_reducible exact SubB.refl _ | exact SubB.nil _ | refine SubB.keep rfl rfl (by first | with_reducible exact WkL.refl _ | ((repeat (first | exact WkL.nil | refine WkL.cons (by first | with_reducible exact Wk.refl _ | exact Wk.nil_own _ | exact Wk.nil_pl _ | with_reducible exact Wk.tok _ _ _ | exact Wk.tok _ _ _ | exact Wk.eq (by first | rfl | (simp []; done) | (simp []; omega))) ?_)); done) | exact WkL.refl _) ?_ | refine SubB.drop ?_)) (by repeat (first | exact SubT.nil _ | refine SubT.add ?_ | (refine SubT.keep ?_ ?_; focus (first | with_reducible rfl | (simp []; done))) | refine SubT.drop ?_)))) rfl rfl ?_
        rintro _ _ _ ⟨i346, rfl, rfl, rfl⟩
        simp only [List.nil_append, List.cons_append]
        refine xvalP (pv_assign rfl) rfl rfl ?_
        refine xnil ?_
        refine xthen ?_
        refine xseq ?_
        refine xregion ?_
        refine xvalP (pv_move rfl) rfl rfl ?_
        refine xvalP (pv_bin2 rfl rfl rfl) rfl rfl ?_
        refine xvalP (pv_move rfl) rfl rfl ?_
        refine xvalP (pv_bin2 rfl rfl rfl) rfl rfl ?_
        refine xvalP (pv_neB UndC.h rfl rfl) rfl rfl ?_
        refine xvalP (pv_move rfl) rfl rfl ?_
        by_cases hp357 : ¬ (((decide (y345.1 = 0)) == (decide (x246 < 16))) = true)
        · replace h := h.1 hp357
          refine xsetB 40 (not_t (b_f hp357)) rfl ?_
          refine xskip rfl rfl ?_
          refine xskip rfl rfl ?_
          refine xskip rfl rfl ?_
          refine xskip rfl rfl ?_
          refine xskip rfl rfl ?_
          refine xskip rfl rfl ?_
          refine xvalP (pv_pick rfl rfl) rfl rfl ?_
          refine xnil ?_
          refine xthen ?_
          refine xcondT rfl ?_
          refine xseq ?_
          refine xregion ?_
          refine xvalP (pv_assign rfl) rfl rfl ?_
          refine xnil ?_
          refine xthen ?_
          refine xretc ?_
          refine xin_ret ?_
          refine xthen_ret ?_
          refine xthen_ret ?_
          refine xin_ret ?_
          refine xthen_ret ?_
          replace h := h.symm
          subst h
          exact xret1 (bx' := []) (tk' := []) hg rfl rfl (.refl _) (SubM.of (.nil _) (.nil _)) ⟨rfl, rfl, rfl⟩
        · replace h := h.2 hp357
          refine xsetB 40 (not_f (Decidable.of_not_not hp357)) rfl ?_
          refine xvalP (pv_move rfl) rfl rfl ?_
          refine xvalP (pv_bin2 rfl rfl rfl) rfl rfl ?_
          refine xvalP (pv_move rfl) rfl rfl ?_
          by_cases hp359 : ¬ (y345.1 = 0)
          · replace h := h.1 hp359
            refine xsetB 43 (not_t (decide_eq_false hp359)) rfl ?_
            refine xvalP (pv_move rfl) rfl rfl ?_
            refine xvalP (pv_bin2 rfl rfl rfl) rfl rfl ?_
            refine xvalP (pv_pick rfl rfl) rfl rfl ?_
            refine xvalP (pv_pick rfl rfl) rfl rfl ?_
            refine xnil ?_
            refine xthen ?_
            by_cases hp361 : ¬ (y345.1 = 7)
            · replace h := h.1 hp361
              refine xcondT' (not_t (decide_eq_false hp361)) rfl ?_
              refine xseq ?_
              refine xregion ?_
              refine xvalP (pv_assign rfl) rfl rfl ?_
              refine xnil ?_
              refine xthen ?_
              refine xretc ?_
              refine xin_ret ?_
              refine xthen_ret ?_
              refine xthen_ret ?_
              refine xin_ret ?_
              refine xthen_ret ?_
              replace h := h.symm
              subst h
              exact xret1 (bx' := []) (tk' := []) hg rfl rfl (.refl _) (SubM.of (.nil _) (.nil _)) ⟨rfl, rfl, rfl⟩
            · replace h := h.2 hp361
              refine xcondF' (not_f (decide_eq_true (Decidable.of_not_not hp361))) rfl ?_
              refine xskipc ?_
              refine xin_normal ?_
              exact xmeet ⟨y345.1, (!(decide (y345.1 = 0))), true, (!(decide (y345.1 = 7))), y345.2, i346, h, rfl⟩ ⟨(.cons rfl (.refl _) (.cons rfl (.refl _) (.cons rfl (.refl _) (.cons rfl (.refl _) (.cons rfl (.refl _) (.cons rfl (.refl _) (.cons rfl (.refl _) (.cons rfl (.refl _) (.nil _))))))))), by exact (SubM.of (.keep rfl rfl (.refl _) (.keep rfl rfl (.cons (.eq (by first | rfl | simp)) .nil) (.nil _))) (.nil _))⟩
          · replace h := h.2 hp359
            refine xsetB 43 (not_f (decide_eq_true (Decidable.of_not_not hp359))) rfl ?_
            refine xskip rfl rfl ?_
            refine xskip rfl rfl ?_
            refine xvalP (pv_pick rfl rfl) rfl rfl ?_
            refine xvalP (pv_pick rfl rfl) rfl rfl ?_
            refine xnil ?_
            refine xthen ?_
            refine xcondF rfl ?_
            refine xskipc ?_
            refine xin_normal ?_
            exact xmeet ⟨y345.1, (!(decide (y345.1 = 0))), false, false, y345.2, i346, h, rfl⟩ ⟨(.cons rfl (.refl _) (.cons rfl (.refl _) (.cons rfl (.refl _) (.cons rfl (.refl _) (.cons rfl (.refl _) (.cons rfl (.refl _) (.cons rfl (.refl _) (.cons rfl (.refl _) (.nil _))))))))), by exact (SubM.of (.keep rfl rfl (.refl _) (.keep rfl rfl (.cons (.eq (by first | rfl | simp)) .nil) (.nil _))) (.nil _))⟩
      · clear h
        rintro _ ⟨x333, x334, x335, x336, l337, i338, h, rfl⟩
        refine xregion ?_
        refine xvalP (pv_move rfl) rfl rfl ?_
        obtain ⟨h362, h⟩ := h
        refine xvalP (pv_addI h362 rfl rfl) rfl rfl ?_
        refine xvalP (pv_assign rfl) rfl rfl ?_
        refine xnil ?_
        obtain ⟨m', hm, hI⟩ := hag1 _ h
        exact xagain ⟨(x246 + 1), l337, i338, hI, rfl⟩ hm ⟨(.cons rfl (.refl _) (.cons rfl (.refl _) (.cons rfl (.refl _) (.cons rfl (.refl _) (.nil _))))), by exact (SubM.of (.keep rfl rfl (.refl _) (.keep rfl rfl (.cons (.eq (by first | rfl | simp)) .nil) (.nil _))) (.nil _))⟩
    · replace h := h.2 hp309
      refine xcondF' (decide_eq_false hp309) rfl ?_
      refine xexit ?_
      refine xthen_exit ?_
      refine xthen_exit ?_
      refine xin_same rfl ?_
      refine xthen ?_
      refine xseq ?_
      refine xregion ?_
      refine xvalP (pv_move rfl) rfl rfl ?_
      obtain ⟨z364, h363, h⟩ := h
      refine xvalP (pv_convW h363 UndC.h UndC.h rfl) rfl rfl ?_
      obtain ⟨h365, h⟩ := h
      refine xvalP (pv_remW h365 rfl rfl rfl rfl) rfl rfl ?_
      refine xvalP (pv_assign rfl) rfl rfl ?_
      refine xnil ?_
      refine xthen ?_
      refine xseq ?_
      refine xregion ?_
      obtain ⟨y367, h366, h⟩ := h
      refine xcallF (Fb := [rbx i248 30 2 (List.map E_palinode_api_File l247), ⟨b8, 60, [.rb i248 l247.length]⟩]) (Ft := []) (files_New_con ([] : List (ByteArray × (List UInt8))) _ h366) Try.func8 (by kernel_rfl) rfl (.cons rfl (.nil_pl _) .nil) (by exact (SubM.of (by repeat (first | with_reducible exact SubB.refl _ | exact SubB.nil _ | refine SubB.keep rfl rfl (by first | with_reducible exact WkL.refl _ | ((repeat (first | exact WkL.nil | refine WkL.cons (by first | with_reducible exact Wk.refl _ | exact Wk.nil_own _ | exact Wk.nil_pl _ | with_reducible exact Wk.tok _ _ _ | exact Wk.tok _ _ _ | exact Wk.eq (by first | rfl | (simp []; done) | (simp []; omega))) ?_)); done) | exact WkL.refl _) ?_ | refine SubB.drop ?_)) (by repeat (first | exact SubT.nil _ | refine SubT.add ?_ | (refine SubT.keep ?_ ?_; focus (first | with_reducible rfl | (simp []; done))) | refine SubT.drop ?_)))) rfl rfl ?_
      intro rr366 bb366 tt366 hr366
      rcases ho366 : y367.2 with _ | x368
      · have hq366 := hr366.1 ho366
        replace h := h.1 ho366
        obtain ⟨rfl, rfl, rfl⟩ := hq366
        simp only [List.nil_append, List.cons_append]
        refine xvalP (pv_move rfl) rfl rfl ?_
        refine xvalP (pv_extract rfl rfl) rfl rfl ?_
        refine xvalP (pv_extract rfl rfl) rfl rfl ?_
        refine xvalP (pv_assign rfl) rfl rfl ?_
        refine xvalP (pv_assign rfl) rfl rfl ?_
        refine xnil ?_
        refine xthen ?_
        refine xseq ?_
        refine xseq ?_
        refine xregion ?_
        refine xvalP (pv_move rfl) rfl rfl ?_
        refine xvalP (pv_eqNilN UndC.h rfl rfl) rfl rfl ?_
        refine xvalP (pv_move rfl) rfl rfl ?_
        refine xskip rfl rfl ?_
        refine xskip rfl rfl ?_
        refine xskip rfl rfl ?_
        refine xskip rfl rfl ?_
        refine xvalP (pv_pick rfl rfl) rfl rfl ?_
        refine xvalP (pv_move rfl) rfl rfl ?_
        refine xskip rfl rfl ?_
        refine xskip rfl rfl ?_
        refine xskip rfl rfl ?_
        refine xskip rfl rfl ?_
        refine xskip rfl rfl ?_
        refine xskip rfl rfl ?_
        refine xvalP (pv_pick rfl rfl) rfl rfl ?_
        refine xvalP (pv_move rfl) rfl rfl ?_
        refine xskip rfl rfl ?_
        refine xskip rfl rfl ?_
        refine xskip rfl rfl ?_
        refine xskip rfl rfl ?_
        refine xskip rfl rfl ?_
        refine xskip rfl rfl ?_
        refine xskip rfl rfl ?_
        refine xvalP (pv_pick rfl rfl) rfl rfl ?_
        refine xvalP (pv_move rfl) rfl rfl ?_
        refine xskip rfl rfl ?_
        refine xskip rfl rfl ?_
        refine xskip rfl rfl ?_
        refine xskip rfl rfl ?_
        refine xskip rfl rfl ?_
        refine xvalP (pv_pick rfl rfl) rfl rfl ?_
        refine xnil ?_
        refine xthen ?_
        refine xcondT rfl ?_
        refine xseq ?_
        refine xregion ?_
        refine xvalP (pv_assign rfl) rfl rfl ?_
        refine xnil ?_
        refine xthen ?_
        refine xretc ?_
        refine xthen_ret ?_
        replace h := h.symm
        subst h
        exact xret1 (bx' := []) (tk' := []) hg rfl rfl (.refl _) (SubM.of (.nil _) (.nil _)) ⟨rfl, rfl, rfl⟩
      · have hq366 := hr366.2 x368 ho366
        replace h := h.2 x368 ho366
        obtain ⟨b371, i369, rfl, rfl, rfl⟩ := hq366
        simp only [List.nil_append, List.cons_append]
        refine xvalP (pv_move rfl) rfl rfl ?_
        refine xvalP (pv_extract rfl rfl) rfl rfl ?_
        refine xvalP (pv_extract rfl rfl) rfl rfl ?_
        refine xvalP (pv_assign rfl) rfl rfl ?_
        refine xvalP (pv_assign rfl) rfl rfl ?_
        refine xnil ?_
        refine xthen ?_
        refine xseq ?_
        refine xseqM (fun σ => ∃ (x461 : Bool), ∃ (l462 : List (ByteArray × (List UInt8))), ∃ (i463 : Option (Nat × Nat)), palinodelaw03_FilesFull_j3 z364 l247 x1 x461 l462 r ∧ σ = ⟨[(5, .v (.pointer (some ⟨b8, 0, none⟩))), (7, .v (.int .i64 ((((x1.toNat : Int) : Int).tmod (20))))), (10, .v (.int .i64 (((z364 : Int).tmod (100))))), (11, .v (.pointer (some ⟨b371, 0, none⟩))), (86, .v (.bool x461))], [rbx i463 30 2 (List.map E_palinode_api_File l462), ⟨b371, 60, [.rb i463 l462.length]⟩, rbx i248 30 2 (List.map E_palinode_api_File l247), ⟨b8, 60, [.rb i248 l247.length]⟩], []⟩) ?_ ?_
        · refine xregion ?_
          refine xvalP (pv_move rfl) rfl rfl ?_
          refine xvalP (pv_eqNil UndC.h rfl rfl) rfl rfl ?_
          refine xvalP (pv_move rfl) rfl rfl ?_
          refine xvalP (pv_move rfl) rfl rfl ?_
          obtain ⟨h465, h⟩ := h
          refine xmakeRb (f := eb) (0 : UInt8) h465 UndC.h InfC.h (.refl _) rfl rfl rfl rfl fun i466 => ?_
          obtain ⟨y468, h467, h⟩ := h
          refine xcallF (Fb := [rbx i248 30 2 (List.map E_palinode_api_File l247), ⟨b8, 60, [.rb i248 l247.length]⟩]) (Ft := []) (files_Table_Put_v2_con (List.replicate (65537 : Int).toNat (0 : UInt8)) x368 (⟨#[97]⟩ : ByteArray) b371 i466 i369 _ h467) Try.func12 (by kernel_rfl) rfl (.cons rfl (.refl _) (.cons rfl (.refl _) (.cons rfl (.eq (by first | rfl | simp)) .nil))) (by refine SubM.trans (SubM.mvB 1 rfl) ?_; refine SubM.trans (SubM.mvB 1 rfl) ?_; refine SubM.trans (SubM.mvB 2 rfl) ?_; (simp only [List.eraseIdx]); exact (SubM.of (by repeat (first | with_reducible exact SubB.refl _ | exact SubB.nil _ | refine SubB.keep rfl rfl (by first | with_reducible exact WkL.refl _ | ((repeat (first | exact WkL.nil | refine WkL.cons (by first | with_reducible exact Wk.refl _ | exact Wk.nil_own _ | exact Wk.nil_pl _ | with_reducible exact Wk.tok _ _ _ | exact Wk.tok _ _ _ | exact Wk.eq (by first | rfl | (simp []; done) | (simp []; omega))) ?_)); done) | exact WkL.refl _) ?_ | refine SubB.drop ?_)) (by repeat (first | exact SubT.nil _ | refine SubT.add ?_ | (refine SubT.keep ?_ ?_; focus (first | with_reducible rfl | (simp []; done))) | refine SubT.drop ?_)))) rfl rfl ?_
          rintro _ _ _ ⟨i469, rfl, rfl, rfl⟩
          simp only [List.nil_append, List.cons_append]
          refine xvalP (pv_bin2 rfl rfl rfl) rfl rfl ?_
          refine xvalP (pv_pick rfl rfl) rfl rfl ?_
          refine xvalP (pv_move rfl) rfl rfl ?_
          by_cases hp471 : ¬ (y468.1 = 8)
          · replace h := h.1 hp471
            refine xsetB 63 (not_t (decide_eq_false hp471)) rfl ?_
            refine xskip rfl rfl ?_
            refine xskip rfl rfl ?_
            refine xskip rfl rfl ?_
            refine xskip rfl rfl ?_
            refine xskip rfl rfl ?_
            refine xskip rfl rfl ?_
            refine xvalP (pv_pick rfl rfl) rfl rfl ?_
            refine xvalP (pv_move rfl) rfl rfl ?_
            refine xskip rfl rfl ?_
            refine xskip rfl rfl ?_
            refine xskip rfl rfl ?_
            refine xskip rfl rfl ?_
            refine xskip rfl rfl ?_
            refine xskip rfl rfl ?_
            refine xskip rfl rfl ?_
            refine xvalP (pv_pick rfl rfl) rfl rfl ?_
            refine xvalP (pv_move rfl) rfl rfl ?_
            refine xskip rfl rfl ?_
            refine xskip rfl rfl ?_
            refine xskip rfl rfl ?_
            refine xskip rfl rfl ?_
            refine xskip rfl rfl ?_
            refine xvalP (pv_pick rfl rfl) rfl rfl ?_
            refine xnil ?_
            exact xmeet ⟨true, y468.2, i469, h, rfl⟩ ⟨(.cons rfl (.refl _) (.cons rfl (.refl _) (.cons rfl (.refl _) (.cons rfl (.refl _) (.cons rfl (.refl _) (.nil _)))))), by exact (SubM.of (.drop (.keep rfl rfl (.refl _) (.keep rfl rfl (.cons (.eq (by first | rfl | simp)) .nil) (.keep rfl rfl (.refl _) (.keep rfl rfl (.cons (.eq (by first | rfl | simp)) .nil) (.nil _)))))) (.nil _))⟩
          · replace h := h.2 hp471
            refine xsetB 63 (not_f (decide_eq_true (Decidable.of_not_not hp471))) rfl ?_
            refine xvalP (pv_move rfl) rfl rfl ?_
            refine xvalP (pv_move rfl) rfl rfl ?_
            obtain ⟨h472, h⟩ := h
            refine xvalP (pv_subI h472 rfl rfl) rfl rfl ?_
            obtain ⟨h473, h⟩ := h
            refine xmakeRb (f := eb) (0 : UInt8) h473 UndC.h InfC.h (.refl _) rfl rfl rfl rfl fun i474 => ?_
            obtain ⟨y476, h475, h⟩ := h
            refine xcallF (Fb := [rbx i466 5 1 (List.map eb ((List.replicate (65537 : Int).toNat (0 : UInt8)))), rbx i248 30 2 (List.map E_palinode_api_File l247), ⟨b8, 60, [.rb i248 l247.length]⟩]) (Ft := []) (files_Table_Put_v2_con (List.replicate ((65536 - ((z364 : Int).tmod (100))) : Int).toNat (0 : UInt8)) y468.2 (⟨#[97]⟩ : ByteArray) b371 i474 i469 _ h475) Try.func12 (by kernel_rfl) rfl (.cons rfl (.refl _) (.cons rfl (.refl _) (.cons rfl (.eq (by first | rfl | simp)) .nil))) (by refine SubM.trans (SubM.mvB 2 rfl) ?_; refine SubM.trans (SubM.mvB 1 rfl) ?_; refine SubM.trans (SubM.mvB 3 rfl) ?_; (simp only [List.eraseIdx]); exact (SubM.of (by repeat (first | with_reducible exact SubB.refl _ | exact SubB.nil _ | refine SubB.keep rfl rfl (by first | with_reducible exact WkL.refl _ | ((repeat (first | exact WkL.nil | refine WkL.cons (by first | with_reducible exact Wk.refl _ | exact Wk.nil_own _ | exact Wk.nil_pl _ | with_reducible exact Wk.tok _ _ _ | exact Wk.tok _ _ _ | exact Wk.eq (by first | rfl | (simp []; done) | (simp []; omega))) ?_)); done) | exact WkL.refl _) ?_ | refine SubB.drop ?_)) (by repeat (first | exact SubT.nil _ | refine SubT.add ?_ | (refine SubT.keep ?_ ?_; focus (first | with_reducible rfl | (simp []; done))) | refine SubT.drop ?_)))) rfl rfl ?_
            rintro _ _ _ ⟨i477, rfl, rfl, rfl⟩
            simp only [List.nil_append, List.cons_append]
            refine xvalP (pv_bin2 rfl rfl rfl) rfl rfl ?_
            refine xvalP (pv_pick rfl rfl) rfl rfl ?_
            refine xvalP (pv_move rfl) rfl rfl ?_
            by_cases hp479 : ¬ (y476.1 = 0)
            · replace h := h.1 hp479
              refine xsetB 71 (not_t (decide_eq_false hp479)) rfl ?_
              refine xskip rfl rfl ?_
              refine xskip rfl rfl ?_
              refine xskip rfl rfl ?_
              refine xskip rfl rfl ?_
              refine xskip rfl rfl ?_
              refine xskip rfl rfl ?_
              refine xskip rfl rfl ?_
              refine xvalP (pv_pick rfl rfl) rfl rfl ?_
              refine xvalP (pv_move rfl) rfl rfl ?_
              refine xskip rfl rfl ?_
              refine xskip rfl rfl ?_
              refine xskip rfl rfl ?_
              refine xskip rfl rfl ?_
              refine xskip rfl rfl ?_
              refine xvalP (pv_pick rfl rfl) rfl rfl ?_
              refine xnil ?_
              exact xmeet ⟨true, y476.2, i477, h, rfl⟩ ⟨(.cons rfl (.refl _) (.cons rfl (.refl _) (.cons rfl (.refl _) (.cons rfl (.refl _) (.cons rfl (.refl _) (.nil _)))))), by exact (SubM.of (.drop (.keep rfl rfl (.refl _) (.keep rfl rfl (.cons (.eq (by first | rfl | simp)) .nil) (.drop (.keep rfl rfl (.refl _) (.keep rfl rfl (.cons (.eq (by first | rfl | simp)) .nil) (.nil _))))))) (.nil _))⟩
            · replace h := h.2 hp479
              refine xsetB 71 (not_f (decide_eq_true (Decidable.of_not_not hp479))) rfl ?_
              refine xvalP (pv_move rfl) rfl rfl ?_
              refine xvalP (pv_move rfl) rfl rfl ?_
              obtain ⟨h480, h⟩ := h
              refine xmakeRb (f := eb) (0 : UInt8) h480 UndC.h InfC.h (.refl _) rfl rfl rfl rfl fun i481 => ?_
              refine xbuildSliceM (f := eb) [(1 : UInt8)] UndC.h InfC.h rfl rfl (by first | exact wkR_of rfl | (repeat (first | exact WkR.nil | refine WkR.cons (by (repeat (first | exact WkL.nil | refine WkL.cons (by first | with_reducible exact Wk.refl _ | exact Wk.nil_own _ | exact Wk.nil_pl _ | with_reducible exact Wk.tok _ _ _ | exact Wk.tok _ _ _ | exact Wk.eq (by first | rfl | (simp []; done) | (simp []; omega))) ?_))) ?_))) rfl rfl rfl rfl fun s75 => ?_
              refine xfreezeL (f := eb) 0 74 (by simp) rfl rfl rfl ?_
              refine xbuildSliceM (f := E_uint8) [(List.replicate (((z364 : Int).tmod (100)) : Int).toNat (0 : UInt8)), [(1 : UInt8)]] UndC.h InfC.h rfl rfl (by first | exact wkR_of rfl | (repeat (first | exact WkR.nil | refine WkR.cons (by (repeat (first | exact WkL.nil | refine WkL.cons (by first | with_reducible exact Wk.refl _ | exact Wk.nil_own _ | exact Wk.nil_pl _ | with_reducible exact Wk.tok _ _ _ | exact Wk.tok _ _ _ | exact Wk.eq (by first | rfl | (simp []; done) | (simp []; omega))) ?_))) ?_))) rfl rfl rfl rfl fun s76 => ?_
              obtain ⟨y483, h482, h⟩ := h
              refine xcallF (Fb := [rbx i474 5 1 (List.map eb ((List.replicate ((65536 - ((z364 : Int).tmod (100))) : Int).toNat (0 : UInt8)))), rbx i466 5 1 (List.map eb ((List.replicate (65537 : Int).toNat (0 : UInt8)))), rbx i248 30 2 (List.map E_palinode_api_File l247), ⟨b8, 60, [.rb i248 l247.length]⟩]) (Ft := [⟨(some (s76, 2)), 22, 1, ([(List.replicate (((z364 : Int).tmod (100)) : Int).toNat (0 : UInt8)), [(1 : UInt8)]]).length⟩, ⟨(some (s75, 1)), 5, 1, ([(1 : UInt8)]).length⟩]) (files_Table_Add_con y476.2 (⟨#[97]⟩ : ByteArray) ([(List.replicate (((z364 : Int).tmod (100)) : Int).toNat (0 : UInt8)), [(1 : UInt8)]]) b371 i477 _ h482) Try.func11 (by kernel_rfl) rfl (.cons rfl (.refl _) (.cons rfl (.refl _) (.cons rfl (.tok _ _ _) .nil))) (by refine SubM.trans (SubM.mvB 1 rfl) ?_; refine SubM.trans (SubM.mvB 2 rfl) ?_; (simp only [List.eraseIdx]); exact (SubM.of (by repeat (first | with_reducible exact SubB.refl _ | exact SubB.nil _ | refine SubB.keep rfl rfl (by first | with_reducible exact WkL.refl _ | ((repeat (first | exact WkL.nil | refine WkL.cons (by first | with_reducible exact Wk.refl _ | exact Wk.nil_own _ | exact Wk.nil_pl _ | with_reducible exact Wk.tok _ _ _ | exact Wk.tok _ _ _ | exact Wk.eq (by first | rfl | (simp []; done) | (simp []; omega))) ?_)); done) | exact WkL.refl _) ?_ | refine SubB.drop ?_)) (by repeat (first | exact SubT.nil _ | refine SubT.add ?_ | (refine SubT.keep ?_ ?_; focus (first | with_reducible rfl | (simp []; done))) | refine SubT.drop ?_)))) rfl rfl ?_
              rintro _ _ _ ⟨i484, rfl, rfl, rfl⟩
              simp only [List.nil_append, List.cons_append]
              refine xvalP (pv_bin2 rfl rfl rfl) rfl rfl ?_
              refine xvalP (pv_pick rfl rfl) rfl rfl ?_
              refine xvalP (pv_move rfl) rfl rfl ?_
              by_cases hp486 : ¬ (y483.1 = 8)
              · replace h := h.1 hp486
                refine xsetB 80 (not_t (decide_eq_false hp486)) rfl ?_
                refine xskip rfl rfl ?_
                refine xskip rfl rfl ?_
                refine xskip rfl rfl ?_
                refine xskip rfl rfl ?_
                refine xskip rfl rfl ?_
                refine xvalP (pv_pick rfl rfl) rfl rfl ?_
                refine xnil ?_
                exact xmeet ⟨true, y483.2, i484, h, rfl⟩ ⟨(.cons rfl (.refl _) (.cons rfl (.refl _) (.cons rfl (.refl _) (.cons rfl (.refl _) (.cons rfl (.refl _) (.nil _)))))), by exact (SubM.of (.keep rfl rfl (.refl _) (.keep rfl rfl (.cons (.eq (by first | rfl | simp)) .nil) (.drop (.drop (.keep rfl rfl (.refl _) (.keep rfl rfl (.cons (.eq (by first | rfl | simp)) .nil) (.nil _))))))) (.nil _))⟩
              · replace h := h.2 hp486
                refine xsetB 80 (not_f (decide_eq_true (Decidable.of_not_not hp486))) rfl ?_
                refine xvalP (pv_move rfl) rfl rfl ?_
                obtain ⟨y488, h487, h⟩ := h
                refine xcallF (Fb := [rbx i474 5 1 (List.map eb ((List.replicate ((65536 - ((z364 : Int).tmod (100))) : Int).toNat (0 : UInt8)))), rbx i466 5 1 (List.map eb ((List.replicate (65537 : Int).toNat (0 : UInt8)))), rbx i248 30 2 (List.map E_palinode_api_File l247), ⟨b8, 60, [.rb i248 l247.length]⟩]) (Ft := [⟨(some (s76, 2)), 22, 1, ([(List.replicate (((z364 : Int).tmod (100)) : Int).toNat (0 : UInt8)), [(1 : UInt8)]]).length⟩, ⟨(some (s75, 1)), 5, 1, ([(1 : UInt8)]).length⟩]) (files_Table_Len_con y483.2 (⟨#[97]⟩ : ByteArray) b371 i484 _ h487) Try.func14 (by kernel_rfl) rfl (.cons rfl (.refl _) (.cons rfl (.refl _) .nil)) (by refine SubM.trans (SubM.mvB 0 rfl) ?_; refine SubM.trans (SubM.mvB 1 rfl) ?_; (simp only [List.eraseIdx]); exact (SubM.of (by repeat (first | with_reducible exact SubB.refl _ | exact SubB.nil _ | refine SubB.keep rfl rfl (by first | with_reducible exact WkL.refl _ | ((repeat (first | exact WkL.nil | refine WkL.cons (by first | with_reducible exact Wk.refl _ | exact Wk.nil_own _ | exact Wk.nil_pl _ | with_reducible exact Wk.tok _ _ _ | exact Wk.tok _ _ _ | exact Wk.eq (by first | rfl | (simp []; done) | (simp []; omega))) ?_)); done) | exact WkL.refl _) ?_ | refine SubB.drop ?_)) (by repeat (first | exact SubT.nil _ | refine SubT.add ?_ | (refine SubT.keep ?_ ?_; focus (first | with_reducible rfl | (simp []; done))) | refine SubT.drop ?_)))) rfl rfl ?_
                rintro _ _ _ ⟨rfl, rfl, rfl⟩
                simp only [List.nil_append, List.cons_append]
                refine xvalP (pv_move rfl) rfl rfl ?_
                obtain ⟨h489, h⟩ := h
                refine xvalP (pv_subI h489 rfl rfl) rfl rfl ?_
                refine xvalP (pv_bin2 rfl rfl rfl) rfl rfl ?_
                refine xvalP (pv_pick rfl rfl) rfl rfl ?_
                refine xnil ?_
                exact xmeet ⟨(!(decide (y488 = (65536 - ((z364 : Int).tmod (100)))))), y483.2, i484, h, rfl⟩ ⟨(.cons rfl (.refl _) (.cons rfl (.refl _) (.cons rfl (.refl _) (.cons rfl (.refl _) (.cons rfl (.refl _) (.nil _)))))), by exact (SubM.of (.keep rfl rfl (.refl _) (.keep rfl rfl (.cons (.eq (by first | rfl | simp)) .nil) (.drop (.drop (.keep rfl rfl (.refl _) (.keep rfl rfl (.cons (.eq (by first | rfl | simp)) .nil) (.nil _))))))) (.nil _))⟩
        · clear h
          rintro _ ⟨x461, l462, i463, h, rfl⟩
          by_cases hp491 : x461 = true
          · replace h := h.1 hp491
            refine xcondT' hp491 rfl ?_
            refine xseq ?_
            refine xregion ?_
            refine xvalP (pv_assign rfl) rfl rfl ?_
            refine xnil ?_
            refine xthen ?_
            refine xretc ?_
            refine xthen_ret ?_
            replace h := h.symm
            subst h
            exact xret1 (bx' := []) (tk' := []) hg rfl rfl (.refl _) (SubM.of (.nil _) (.nil _)) ⟨rfl, rfl, rfl⟩
          · replace h := h.2 hp491
            refine xcondF' (b_f hp491) rfl ?_
            refine xskipc ?_
            refine xthen ?_
            refine xseqM (fun σ => ∃ (x512 : Bool), palinodelaw03_FilesFull_j4 x512 r ∧ σ = ⟨[(4, .v (.bool x512))], [], []⟩) ?_ ?_
            · refine xregion ?_
              refine xvalP (pv_move rfl) rfl rfl ?_
              refine xvalP (pv_move rfl) rfl rfl ?_
              obtain ⟨h513, h⟩ := h
              refine xmakeRb (f := eb) (0 : UInt8) h513 UndC.h InfC.h (.refl _) rfl rfl rfl rfl fun i514 => ?_
              refine xfreezeL (f := eb) 0 89 (by simp) rfl rfl rfl ?_
              refine xbuildSliceM (f := E_uint8) [(List.replicate (((z364 : Int).tmod (100)) : Int).toNat (0 : UInt8))] UndC.h InfC.h rfl rfl (by first | exact wkR_of rfl | (repeat (first | exact WkR.nil | refine WkR.cons (by (repeat (first | exact WkL.nil | refine WkL.cons (by first | with_reducible exact Wk.refl _ | exact Wk.nil_own _ | exact Wk.nil_pl _ | with_reducible exact Wk.tok _ _ _ | exact Wk.tok _ _ _ | exact Wk.eq (by first | rfl | (simp []; done) | (simp []; omega))) ?_))) ?_))) rfl rfl rfl rfl fun s90 => ?_
              obtain ⟨y516, h515, h⟩ := h
              refine xcallF (Fb := [rbx i248 30 2 (List.map E_palinode_api_File l247), ⟨b8, 60, [.rb i248 l247.length]⟩]) (Ft := [⟨(some (s90, 1)), 22, 1, ([(List.replicate (((z364 : Int).tmod (100)) : Int).toNat (0 : UInt8))]).length⟩]) (files_Table_Add_con l462 (⟨#[97]⟩ : ByteArray) ([(List.replicate (((z364 : Int).tmod (100)) : Int).toNat (0 : UInt8))]) b371 i463 _ h515) Try.func11 (by kernel_rfl) rfl (.cons rfl (.refl _) (.cons rfl (.refl _) (.cons rfl (.tok _ _ _) .nil))) (by refine SubM.trans (SubM.mvB 0 rfl) ?_; refine SubM.trans (SubM.mvB 1 rfl) ?_; (simp only [List.eraseIdx]); exact (SubM.of (by repeat (first | with_reducible exact SubB.refl _ | exact SubB.nil _ | refine SubB.keep rfl rfl (by first | with_reducible exact WkL.refl _ | ((repeat (first | exact WkL.nil | refine WkL.cons (by first | with_reducible exact Wk.refl _ | exact Wk.nil_own _ | exact Wk.nil_pl _ | with_reducible exact Wk.tok _ _ _ | exact Wk.tok _ _ _ | exact Wk.eq (by first | rfl | (simp []; done) | (simp []; omega))) ?_)); done) | exact WkL.refl _) ?_ | refine SubB.drop ?_)) (by repeat (first | exact SubT.nil _ | refine SubT.add ?_ | (refine SubT.keep ?_ ?_; focus (first | with_reducible rfl | (simp []; done))) | refine SubT.drop ?_)))) rfl rfl ?_
              rintro _ _ _ ⟨i517, rfl, rfl, rfl⟩
              simp only [List.nil_append, List.cons_append]
              refine xvalP (pv_bin2 rfl rfl rfl) rfl rfl ?_
              refine xvalP (pv_move rfl) rfl rfl ?_
              by_cases hp519 : y516.1 = 0
              · replace h := h.1 hp519
                refine xsetB 93 (decide_eq_true hp519) rfl ?_
                refine xvalP (pv_move rfl) rfl rfl ?_
                obtain ⟨y521, h520, h⟩ := h
                refine xcallF (Fb := [rbx i248 30 2 (List.map E_palinode_api_File l247), ⟨b8, 60, [.rb i248 l247.length]⟩]) (Ft := [⟨(some (s90, 1)), 22, 1, ([(List.replicate (((z364 : Int).tmod (100)) : Int).toNat (0 : UInt8))]).length⟩]) (files_Table_Len_con y516.2 (⟨#[97]⟩ : ByteArray) b371 i517 _ h520) Try.func14 (by kernel_rfl) rfl (.cons rfl (.refl _) (.cons rfl (.refl _) .nil)) (by refine SubM.trans (SubM.mvB 0 rfl) ?_; refine SubM.trans (SubM.mvB 1 rfl) ?_; (simp only [List.eraseIdx]); exact (SubM.of (by repeat (first | with_reducible exact SubB.refl _ | exact SubB.nil _ | refine SubB.keep rfl rfl (by first | with_reducible exact WkL.refl _ | ((repeat (first | exact WkL.nil | refine WkL.cons (by first | with_reducible exact Wk.refl _ | exact Wk.nil_own _ | exact Wk.nil_pl _ | with_reducible exact Wk.tok _ _ _ | exact Wk.tok _ _ _ | exact Wk.eq (by first | rfl | (simp []; done) | (simp []; omega))) ?_)); done) | exact WkL.refl _) ?_ | refine SubB.drop ?_)) (by repeat (first | exact SubT.nil _ | refine SubT.add ?_ | (refine SubT.keep ?_ ?_; focus (first | with_reducible rfl | (simp []; done))) | refine SubT.drop ?_)))) rfl rfl ?_
                rintro _ _ _ ⟨rfl, rfl, rfl⟩
                simp only [List.nil_append, List.cons_append]
                refine xvalP (pv_bin2 rfl rfl rfl) rfl rfl ?_
                refine xvalP (pv_pick rfl rfl) rfl rfl ?_
                refine xvalP (pv_move rfl) rfl rfl ?_
                by_cases hp523 : y521 = 65536
                · replace h := h.1 hp523
                  refine xsetB 98 (decide_eq_true hp523) rfl ?_
                  refine xvalP (pv_move rfl) rfl rfl ?_
                  obtain ⟨y525, h524, h⟩ := h
                  refine xcallF (Fb := [rbx i517 30 2 (List.map E_palinode_api_File y516.2), ⟨b371, 60, [.rb i517 y516.2.length]⟩]) (Ft := [⟨(some (s90, 1)), 22, 1, ([(List.replicate (((z364 : Int).tmod (100)) : Int).toNat (0 : UInt8))]).length⟩]) (files_Table_All_con l247 b8 i248 _ h524) Try.func13 (by kernel_rfl) rfl (.cons rfl (.refl _) .nil) (by refine SubM.trans (SubM.mvB 2 rfl) ?_; refine SubM.trans (SubM.mvB 3 rfl) ?_; (simp only [List.eraseIdx]); exact (SubM.of (by repeat (first | with_reducible exact SubB.refl _ | exact SubB.nil _ | refine SubB.keep rfl rfl (by first | with_reducible exact WkL.refl _ | ((repeat (first | exact WkL.nil | refine WkL.cons (by first | with_reducible exact Wk.refl _ | exact Wk.nil_own _ | exact Wk.nil_pl _ | with_reducible exact Wk.tok _ _ _ | exact Wk.tok _ _ _ | exact Wk.eq (by first | rfl | (simp []; done) | (simp []; omega))) ?_)); done) | exact WkL.refl _) ?_ | refine SubB.drop ?_)) (by repeat (first | exact SubT.nil _ | refine SubT.add ?_ | (refine SubT.keep ?_ ?_; focus (first | with_reducible rfl | (simp []; done))) | refine SubT.drop ?_)))) rfl rfl ?_
                  rintro _ _ _ ⟨i526, rfl, rfl, rfl⟩
                  simp only [List.nil_append, List.cons_append]
                  refine xvalP (pv_lenM UndC.h rfl) rfl rfl ?_
                  refine xvalP (pv_move rfl) rfl rfl ?_
                  refine xvalP (pv_min rfl rfl) rfl rfl ?_
                  refine xvalP (pv_bin2 rfl rfl rfl) rfl rfl ?_
                  refine xvalP (pv_pick rfl rfl) rfl rfl ?_
                  refine xvalP (pv_move rfl) rfl rfl ?_
                  by_cases hp530 : (y525.length : Int) = (if 16 < (((x1.toNat : Int) : Int).tmod (20)) then 16 else (((x1.toNat : Int) : Int).tmod (20)))
                  · replace h := h.1 hp530
                    refine xsetB 106 (decide_eq_true hp530) rfl ?_
                    obtain ⟨y532, h531, h⟩ := h
                    refine xcall0 (palinodelaw03_awake_con _ h531) Try.func7 (by kernel_rfl) rfl .nil rfl rfl ?_
                    refine xvalP (pv_pick rfl rfl) rfl rfl ?_
                    refine xvalP (pv_assign rfl) rfl rfl ?_
                    refine xnil ?_
                    exact xmeet ⟨y532, h, rfl⟩ ⟨(.cons rfl (.refl _) (.nil _)), (SubM.of (.nil _) (.nil _))⟩
                  · replace h := h.2 hp530
                    refine xsetB 106 (decide_eq_false hp530) rfl ?_
                    refine xskip rfl rfl ?_
                    refine xvalP (pv_pick rfl rfl) rfl rfl ?_
                    refine xvalP (pv_assign rfl) rfl rfl ?_
                    refine xnil ?_
                    exact xmeet ⟨false, h, rfl⟩ ⟨(.cons rfl (.refl _) (.nil _)), (SubM.of (.nil _) (.nil _))⟩
                · replace h := h.2 hp523
                  refine xsetB 98 (decide_eq_false hp523) rfl ?_
                  refine xskip rfl rfl ?_
                  refine xskip rfl rfl ?_
                  refine xskip rfl rfl ?_
                  refine xskip rfl rfl ?_
                  refine xskip rfl rfl ?_
                  refine xskip rfl rfl ?_
                  refine xvalP (pv_pick rfl rfl) rfl rfl ?_
                  refine xvalP (pv_move rfl) rfl rfl ?_
                  refine xskip rfl rfl ?_
                  refine xvalP (pv_pick rfl rfl) rfl rfl ?_
                  refine xvalP (pv_assign rfl) rfl rfl ?_
                  refine xnil ?_
                  exact xmeet ⟨false, h, rfl⟩ ⟨(.cons rfl (.refl _) (.nil _)), (SubM.of (.nil _) (.nil _))⟩
              · replace h := h.2 hp519
                refine xsetB 93 (decide_eq_false hp519) rfl ?_
                refine xskip rfl rfl ?_
                refine xskip rfl rfl ?_
                refine xskip rfl rfl ?_
                refine xvalP (pv_pick rfl rfl) rfl rfl ?_
                refine xvalP (pv_move rfl) rfl rfl ?_
                refine xskip rfl rfl ?_
                refine xskip rfl rfl ?_
                refine xskip rfl rfl ?_
                refine xskip rfl rfl ?_
                refine xskip rfl rfl ?_
                refine xskip rfl rfl ?_
                refine xvalP (pv_pick rfl rfl) rfl rfl ?_
                refine xvalP (pv_move rfl) rfl rfl ?_
                refine xskip rfl rfl ?_
                refine xvalP (pv_pick rfl rfl) rfl rfl ?_
                refine xvalP (pv_assign rfl) rfl rfl ?_
                refine xnil ?_
                exact xmeet ⟨false, h, rfl⟩ ⟨(.cons rfl (.refl _) (.nil _)), (SubM.of (.nil _) (.nil _))⟩
            · clear h
              rintro _ ⟨x512, h, rfl⟩
              refine xretc ?_
              replace h := h.symm
              subst h
              exact xret1 hg rfl rfl (.refl _) (SubM.of (.nil _) (.nil _)) ⟨rfl, rfl, rfl⟩
end Go.Proofs.Ytljlaggehilpfaa
