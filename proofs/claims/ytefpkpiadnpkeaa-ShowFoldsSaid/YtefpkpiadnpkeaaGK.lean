/- What functions' texts ask for, and the walks that show it (printed by a program). -/
import Derived.Test.YtefpkpiadnpkeaaGKp1
namespace Go.Proofs.Ytefpkpiadnpkeaa
/-- palinoderef04.Unquote -/
def palinoderef04_Unquote_j4 (ag3 : ((List UInt8) × Int) → Prop) (x11786 : List UInt8) (x11788 : Int) (r : (List UInt8) × Int × Int) : Prop :=
  InR (x11788 + 1) ∧ ag3 (x11786, (x11788 + 1))
def palinoderef04_Unquote_j6 (x12025 : Int) (ag5 : (Int × Int) → Prop) (x12102 : Int) (r : (List UInt8) × Int × Int) : Prop :=
  InR (x12025 + 1) ∧ ag5 (x12102, (x12025 + 1))
def palinoderef04_Unquote_j7 (x12025 : Int) (ag5 : (Int × Int) → Prop) (x12024 : Int) (x12115 : Bool) (r : (List UInt8) × Int × Int) : Prop :=
  ((x12115 = true → palinoderef04_Unquote_j6 x12025 ag5 x12025 r) ∧ (¬ (x12115 = true) → palinoderef04_Unquote_j6 x12025 ag5 x12024 r))
def palinoderef04_Unquote_j10 (x12609 : Int) (x8586 : Int) (x12610 : Int) (x1 : ByteArray) (ag9 : (Int × Int) → Prop) (x12822 : Bool) (r : (List UInt8) × Int × Int) : Prop :=
  ((x12822 = true → r = (([] : List UInt8), 0, 10)) ∧ (¬ (x12822 = true) → InR (x12609 * 8) ∧ InR ((x8586 + 1) + x12610) ∧ 0 ≤ (((x8586 + 1) + x12610) : Int) ∧ ∃ c12836 : UInt8, x1[(((x8586 + 1) + x12610) : Int).toNat]? = some c12836 ∧ InR ((x12609 * 8) + (c12836.toNat : Int)) ∧ InR (((x12609 * 8) + (c12836.toNat : Int)) - 48) ∧ InR (x12610 + 1) ∧ ag9 ((((x12609 * 8) + (c12836.toNat : Int)) - 48), (x12610 + 1))))
def palinoderef04_Unquote_l9 (x8586 : Int) (x1 : ByteArray) (x8584 : List UInt8) (ag3 : ((List UInt8) × Int) → Prop) (ag9 : (Int × Int) → Prop) (x12609 : Int) (x12610 : Int) (r : (List UInt8) × Int × Int) : Prop :=
  ((x12610 < 3 → InR ((x8586 + 1) + x12610) ∧ (((x1.size : Int) ≤ ((x8586 + 1) + x12610) → r = (([] : List UInt8), 0, 2)) ∧ (¬ ((x1.size : Int) ≤ ((x8586 + 1) + x12610)) → InR ((x8586 + 1) + x12610) ∧ 0 ≤ (((x8586 + 1) + x12610) : Int) ∧ ∃ c12825 : UInt8, x1[(((x8586 + 1) + x12610) : Int).toNat]? = some c12825 ∧ (((c12825.toNat : Int) < 48 → palinoderef04_Unquote_j10 x12609 x8586 x12610 x1 ag9 true r) ∧ (¬ ((c12825.toNat : Int) < 48) → InR ((x8586 + 1) + x12610) ∧ 0 ≤ (((x8586 + 1) + x12610) : Int) ∧ ∃ c12830 : UInt8, x1[(((x8586 + 1) + x12610) : Int).toNat]? = some c12830 ∧ palinoderef04_Unquote_j10 x12609 x8586 x12610 x1 ag9 (decide (55 < (c12830.toNat : Int))) r))))) ∧ (¬ (x12610 < 3) → ((255 < x12609 → r = (([] : List UInt8), 0, 10)) ∧ (¬ (255 < x12609) → ∃ c12846 : UInt8, (c12846.toNat : Int) = IntKind.u8.wrap x12609 ∧ Room (x8584.length + ([c12846]).length) 1 ∧ InR ((x8586 + 1) + 2) ∧ palinoderef04_Unquote_j4 ag3 (x8584 ++ [c12846]) ((x8586 + 1) + 2) r))))
def palinoderef04_Unquote_j8 (x8584 : List UInt8) (ag3 : ((List UInt8) × Int) → Prop) (x8586 : Int) (x1 : ByteArray) (x12130 : Int) (r : (List UInt8) × Int × Int) : Prop :=
  ((0 ≤ x12130 → ∃ c12144 : UInt8, (c12144.toNat : Int) = IntKind.u8.wrap x12130 ∧ Room (x8584.length + ([c12144]).length) 1 ∧ palinoderef04_Unquote_j4 ag3 (x8584 ++ [c12144]) (x8586 + 1) r) ∧ (¬ (0 ≤ x12130) → LoopR (fun ag9 s => palinoderef04_Unquote_l9 x8586 x1 x8584 ag3 ag9 s.1 s.2 r) (0, 0)))
def palinoderef04_Unquote_l5 (x8586 : Int) (x1 : ByteArray) (x8584 : List UInt8) (ag3 : ((List UInt8) × Int) → Prop) (ag5 : (Int × Int) → Prop) (x12024 : Int) (x12025 : Int) (r : (List UInt8) × Int × Int) : Prop :=
  ((x12025 < 256 → ∃ c12104 : UInt8, (c12104.toNat : Int) = IntKind.u8.wrap x12025 ∧ ∃ y12106 : ByteArray, palinoderef04_Mark_R c12104 y12106 ∧ (((y12106.size : Int) = 2 → 0 ≤ (1 : Int) ∧ ∃ c12120 : UInt8, y12106[(1 : Int).toNat]? = some c12120 ∧ 0 ≤ ((x8586 + 1) : Int) ∧ ∃ c12122 : UInt8, x1[((x8586 + 1) : Int).toNat]? = some c12122 ∧ palinoderef04_Unquote_j7 x12025 ag5 x12024 (decide ((c12120.toNat : Int) = (c12122.toNat : Int))) r) ∧ (¬ ((y12106.size : Int) = 2) → palinoderef04_Unquote_j7 x12025 ag5 x12024 false r))) ∧ (¬ (x12025 < 256) → 0 ≤ ((x8586 + 1) : Int) ∧ ∃ c12132 : UInt8, x1[((x8586 + 1) : Int).toNat]? = some c12132 ∧ (((c12132.toNat : Int) = 34 → palinoderef04_Unquote_j8 x8584 ag3 x8586 x1 34 r) ∧ (¬ ((c12132.toNat : Int) = 34) → palinoderef04_Unquote_j8 x8584 ag3 x8586 x1 x12024 r))))
def palinoderef04_Unquote_l3 (x1 : ByteArray) (ag3 : ((List UInt8) × Int) → Prop) (x8584 : List UInt8) (x8586 : Int) (r : (List UInt8) × Int × Int) : Prop :=
  ((x8586 < (x1.size : Int) → 0 ≤ (x8586 : Int) ∧ ∃ c11795 : UInt8, x1[(x8586 : Int).toNat]? = some c11795 ∧ (((c11795.toNat : Int) = 34 → InR (x8586 + 1) ∧ r = (x8584, (x8586 + 1), 0)) ∧ (¬ ((c11795.toNat : Int) = 34) → 0 ≤ (x8586 : Int) ∧ ∃ c11808 : UInt8, x1[(x8586 : Int).toNat]? = some c11808 ∧ ((¬ ((c11808.toNat : Int) = 92) → 0 ≤ (x8586 : Int) ∧ ∃ c11812 : UInt8, x1[(x8586 : Int).toNat]? = some c11812 ∧ Room (x8584.length + ([c11812]).length) 1 ∧ palinoderef04_Unquote_j4 ag3 (x8584 ++ [c11812]) x8586 r) ∧ (¬ (¬ ((c11808.toNat : Int) = 92)) → InR (x8586 + 1) ∧ (((x8586 + 1) = (x1.size : Int) → r = (([] : List UInt8), 0, 2)) ∧ (¬ ((x8586 + 1) = (x1.size : Int)) → LoopR (fun ag5 s => palinoderef04_Unquote_l5 x8586 x1 x8584 ag3 ag5 s.1 s.2 r) ((-1), 0)))))))) ∧ (¬ (x8586 < (x1.size : Int)) → r = (([] : List UInt8), 0, 2)))
def palinoderef04_Unquote_j2 (x2 : Int) (x1 : ByteArray) (x43 : Bool) (r : (List UInt8) × Int × Int) : Prop :=
  ((x43 = true → r = (([] : List UInt8), 0, 9)) ∧ (¬ (x43 = true) → InR (x2 + 1) ∧ LoopR (fun ag3 s => palinoderef04_Unquote_l3 x1 ag3 s.1 s.2 r) (([] : List UInt8), (x2 + 1))))
def palinoderef04_Unquote_j1 (x2 : Int) (x1 : ByteArray) (x17 : Bool) (r : (List UInt8) × Int × Int) : Prop :=
  ((x17 = true → r = (([] : List UInt8), 0, 1)) ∧ (¬ (x17 = true) → ((x2 = (x1.size : Int) → palinoderef04_Unquote_j2 x2 x1 true r) ∧ (¬ (x2 = (x1.size : Int)) → 0 ≤ (x2 : Int) ∧ ∃ c48 : UInt8, x1[(x2 : Int).toNat]? = some c48 ∧ palinoderef04_Unquote_j2 x2 x1 (!(decide ((c48.toNat : Int) = 34))) r))))
def palinoderef04_Unquote_R (x1 : ByteArray) (x2 : Int) (r : (List UInt8) × Int × Int) : Prop :=
  palinoderef04_Unquote_j1 x2 x1 ((decide (x2 < 0)) || (decide ((x1.size : Int) < x2))) r
def palinoderef04_Unquote_j4_ev (fuel : Nat) (ag3e : ((List UInt8) × Int) → Option ((List UInt8) × Int × Int)) (x11786 : List UInt8) (x11788 : Int) : Option ((List UInt8) × Int × Int) :=
  (if InR (x11788 + 1) then ag3e (x11786, (x11788 + 1)) else none)
theorem palinoderef04_Unquote_j4_ok {fuel : Nat} {ag3 : ((List UInt8) × Int) → Prop} {ag3e : ((List UInt8) × Int) → Option ((List UInt8) × Int × Int)} {x11786 : List UInt8} {x11788 : Int} {r : (List UInt8) × Int × Int} (hagag3 : ∀ s, ag3e s = some r → ag3 s) (h : palinoderef04_Unquote_j4_ev fuel ag3e x11786 x11788 = some r) : palinoderef04_Unquote_j4 ag3 x11786 x11788 r := by
  unfold palinoderef04_Unquote_j4_ev at h
  unfold palinoderef04_Unquote_j4
  obtain ⟨g212, h⟩ := if_ok h
  refine ⟨g212, ?_⟩
  exact hagag3 _ h
def palinoderef04_Unquote_j6_ev (fuel : Nat) (x12025 : Int) (ag5e : (Int × Int) → Option ((List UInt8) × Int × Int)) (x12102 : Int) : Option ((List UInt8) × Int × Int) :=
  (if InR (x12025 + 1) then ag5e (x12102, (x12025 + 1)) else none)
theorem palinoderef04_Unquote_j6_ok {fuel : Nat} {x12025 : Int} {ag5 : (Int × Int) → Prop} {ag5e : (Int × Int) → Option ((List UInt8) × Int × Int)} {x12102 : Int} {r : (List UInt8) × Int × Int} (hagag5 : ∀ s, ag5e s = some r → ag5 s) (h : palinoderef04_Unquote_j6_ev fuel x12025 ag5e x12102 = some r) : palinoderef04_Unquote_j6 x12025 ag5 x12102 r := by
  unfold palinoderef04_Unquote_j6_ev at h
  unfold palinoderef04_Unquote_j6
  obtain ⟨g213, h⟩ := if_ok h
  refine ⟨g213, ?_⟩
  exact hagag5 _ h
def palinoderef04_Unquote_j7_ev (fuel : Nat) (x12025 : Int) (ag5e : (Int × Int) → Option ((List UInt8) × Int × Int)) (x12024 : Int) (x12115 : Bool) : Option ((List UInt8) × Int × Int) :=
  (if x12115 = true then palinoderef04_Unquote_j6_ev fuel x12025 ag5e x12025 else palinoderef04_Unquote_j6_ev fuel x12025 ag5e x12024)
theorem palinoderef04_Unquote_j7_ok {fuel : Nat} {x12025 : Int} {ag5 : (Int × Int) → Prop} {ag5e : (Int × Int) → Option ((List UInt8) × Int × Int)} {x12024 : Int} {x12115 : Bool} {r : (List UInt8) × Int × Int} (hagag5 : ∀ s, ag5e s = some r → ag5 s) (h : palinoderef04_Unquote_j7_ev fuel x12025 ag5e x12024 x12115 = some r) : palinoderef04_Unquote_j7 x12025 ag5 x12024 x12115 r := by
  unfold palinoderef04_Unquote_j7_ev at h
  unfold palinoderef04_Unquote_j7
  refine ⟨fun g214 => ?_, fun g214 => ?_⟩
  · rw [if_pos g214] at h
    exact palinoderef04_Unquote_j6_ok hagag5 h
  · rw [if_neg g214] at h
    exact palinoderef04_Unquote_j6_ok hagag5 h
def palinoderef04_Unquote_j10_ev (fuel : Nat) (x12609 : Int) (x8586 : Int) (x12610 : Int) (x1 : ByteArray) (ag9e : (Int × Int) → Option ((List UInt8) × Int × Int)) (x12822 : Bool) : Option ((List UInt8) × Int × Int) :=
  (if x12822 = true then some (([] : List UInt8), 0, 10) else (if InR (x12609 * 8) then (if InR ((x8586 + 1) + x12610) then (if 0 ≤ (((x8586 + 1) + x12610) : Int) then ((x1[(((x8586 + 1) + x12610) : Int).toNat]?).bind fun c12836 => (if InR ((x12609 * 8) + (c12836.toNat : Int)) then (if InR (((x12609 * 8) + (c12836.toNat : Int)) - 48) then (if InR (x12610 + 1) then ag9e ((((x12609 * 8) + (c12836.toNat : Int)) - 48), (x12610 + 1)) else none) else none) else none)) else none) else none) else none))
theorem palinoderef04_Unquote_j10_ok {fuel : Nat} {x12609 : Int} {x8586 : Int} {x12610 : Int} {x1 : ByteArray} {ag9 : (Int × Int) → Prop} {ag9e : (Int × Int) → Option ((List UInt8) × Int × Int)} {x12822 : Bool} {r : (List UInt8) × Int × Int} (hagag9 : ∀ s, ag9e s = some r → ag9 s) (h : palinoderef04_Unquote_j10_ev fuel x12609 x8586 x12610 x1 ag9e x12822 = some r) : palinoderef04_Unquote_j10 x12609 x8586 x12610 x1 ag9 x12822 r := by
  unfold palinoderef04_Unquote_j10_ev at h
  unfold palinoderef04_Unquote_j10
  refine ⟨fun g215 => ?_, fun g215 => ?_⟩
  · rw [if_pos g215] at h
    exact (Option.some.inj h).symm
  · rw [if_neg g215] at h
    obtain ⟨g216, h⟩ := if_ok h
    refine ⟨g216, ?_⟩
    obtain ⟨g217, h⟩ := if_ok h
    refine ⟨g217, ?_⟩
    obtain ⟨g218, h⟩ := if_ok h
    refine ⟨g218, ?_⟩
    obtain ⟨q219, g219, h⟩ := bind_ok h
    refine ⟨q219, g219, ?_⟩
    obtain ⟨g220, h⟩ := if_ok h
    refine ⟨g220, ?_⟩
    obtain ⟨g221, h⟩ := if_ok h
    refine ⟨g221, ?_⟩
    obtain ⟨g222, h⟩ := if_ok h
    refine ⟨g222, ?_⟩
    exact hagag9 _ h
def palinoderef04_Unquote_l9_ev (fuel : Nat) (x8586 : Int) (x1 : ByteArray) (x8584 : List UInt8) (ag3e : ((List UInt8) × Int) → Option ((List UInt8) × Int × Int)) (ag9e : (Int × Int) → Option ((List UInt8) × Int × Int)) (x12609 : Int) (x12610 : Int) : Option ((List UInt8) × Int × Int) :=
  (if x12610 < 3 then (if InR ((x8586 + 1) + x12610) then (if (x1.size : Int) ≤ ((x8586 + 1) + x12610) then some (([] : List UInt8), 0, 2) else (if InR ((x8586 + 1) + x12610) then (if 0 ≤ (((x8586 + 1) + x12610) : Int) then ((x1[(((x8586 + 1) + x12610) : Int).toNat]?).bind fun c12825 => (if (c12825.toNat : Int) < 48 then palinoderef04_Unquote_j10_ev fuel x12609 x8586 x12610 x1 ag9e true else (if InR ((x8586 + 1) + x12610) then (if 0 ≤ (((x8586 + 1) + x12610) : Int) then ((x1[(((x8586 + 1) + x12610) : Int).toNat]?).bind fun c12830 => palinoderef04_Unquote_j10_ev fuel x12609 x8586 x12610 x1 ag9e (decide (55 < (c12830.toNat : Int)))) else none) else none))) else none) else none)) else none) else (if 255 < x12609 then some (([] : List UInt8), 0, 10) else (exB (IntKind.u8.wrap x12609) fun c12846 => (if Room (x8584.length + ([c12846]).length) 1 then (if InR ((x8586 + 1) + 2) then palinoderef04_Unquote_j4_ev fuel ag3e (x8584 ++ [c12846]) ((x8586 + 1) + 2) else none) else none))))
theorem palinoderef04_Unquote_l9_ok {fuel : Nat} {x8586 : Int} {x1 : ByteArray} {x8584 : List UInt8} {ag3 : ((List UInt8) × Int) → Prop} {ag3e : ((List UInt8) × Int) → Option ((List UInt8) × Int × Int)} {ag9e : (Int × Int) → Option ((List UInt8) × Int × Int)} {ag9 : (Int × Int) → Prop} {x12609 : Int} {x12610 : Int} {r : (List UInt8) × Int × Int} (hagag3 : ∀ s, ag3e s = some r → ag3 s) (hagag9 : ∀ s, ag9e s = some r → ag9 s) (h : palinoderef04_Unquote_l9_ev fuel x8586 x1 x8584 ag3e ag9e x12609 x12610 = some r) : palinoderef04_Unquote_l9 x8586 x1 x8584 ag3 ag9 x12609 x12610 r := by
  unfold palinoderef04_Unquote_l9_ev at h
  unfold palinoderef04_Unquote_l9
  refine ⟨fun g223 => ?_, fun g223 => ?_⟩
  · rw [if_pos g223] at h
    obtain ⟨g224, h⟩ := if_ok h
    refine ⟨g224, ?_⟩
    refine ⟨fun g225 => ?_, fun g225 => ?_⟩
    · rw [if_pos g225] at h
      exact (Option.some.inj h).symm
    · rw [if_neg g225] at h
      obtain ⟨g226, h⟩ := if_ok h
      refine ⟨g226, ?_⟩
      obtain ⟨g227, h⟩ := if_ok h
      refine ⟨g227, ?_⟩
      obtain ⟨q228, g228, h⟩ := bind_ok h
      refine ⟨q228, g228, ?_⟩
      refine ⟨fun g229 => ?_, fun g229 => ?_⟩
      · rw [if_pos g229] at h
        exact palinoderef04_Unquote_j10_ok hagag9 h
      · rw [if_neg g229] at h
        obtain ⟨g230, h⟩ := if_ok h
        refine ⟨g230, ?_⟩
        obtain ⟨g231, h⟩ := if_ok h
        refine ⟨g231, ?_⟩
        obtain ⟨q232, g232, h⟩ := bind_ok h
        refine ⟨q232, g232, ?_⟩
        exact palinoderef04_Unquote_j10_ok hagag9 h
  · rw [if_neg g223] at h
    refine ⟨fun g233 => ?_, fun g233 => ?_⟩
    · rw [if_pos g233] at h
      exact (Option.some.inj h).symm
    · rw [if_neg g233] at h
      obtain ⟨q234, g234, h⟩ := exB_ok h
      refine ⟨q234, g234, ?_⟩
      obtain ⟨g235, h⟩ := if_ok h
      refine ⟨g235, ?_⟩
      obtain ⟨g236, h⟩ := if_ok h
      refine ⟨g236, ?_⟩
      exact palinoderef04_Unquote_j4_ok hagag3 h
def palinoderef04_Unquote_j8_ev (fuel : Nat) (x8584 : List UInt8) (ag3e : ((List UInt8) × Int) → Option ((List UInt8) × Int × Int)) (x8586 : Int) (x1 : ByteArray) (x12130 : Int) : Option ((List UInt8) × Int × Int) :=
  (if 0 ≤ x12130 then (exB (IntKind.u8.wrap x12130) fun c12144 => (if Room (x8584.length + ([c12144]).length) 1 then palinoderef04_Unquote_j4_ev fuel ag3e (x8584 ++ [c12144]) (x8586 + 1) else none)) else (loopE (fun ag9e s => palinoderef04_Unquote_l9_ev fuel x8586 x1 x8584 ag3e ag9e s.1 s.2) fuel (0, 0)))
theorem palinoderef04_Unquote_j8_ok {fuel : Nat} {x8584 : List UInt8} {ag3 : ((List UInt8) × Int) → Prop} {ag3e : ((List UInt8) × Int) → Option ((List UInt8) × Int × Int)} {x8586 : Int} {x1 : ByteArray} {x12130 : Int} {r : (List UInt8) × Int × Int} (hagag3 : ∀ s, ag3e s = some r → ag3 s) (h : palinoderef04_Unquote_j8_ev fuel x8584 ag3e x8586 x1 x12130 = some r) : palinoderef04_Unquote_j8 x8584 ag3 x8586 x1 x12130 r := by
  unfold palinoderef04_Unquote_j8_ev at h
  unfold palinoderef04_Unquote_j8
  refine ⟨fun g237 => ?_, fun g237 => ?_⟩
  · rw [if_pos g237] at h
    obtain ⟨q238, g238, h⟩ := exB_ok h
    refine ⟨q238, g238, ?_⟩
    obtain ⟨g239, h⟩ := if_ok h
    refine ⟨g239, ?_⟩
    exact palinoderef04_Unquote_j4_ok hagag3 h
  · rw [if_neg g237] at h
    refine loopE_ok ?_ h
    intro ae ag s hag h
    exact palinoderef04_Unquote_l9_ok hagag3 hag h
def palinoderef04_Unquote_l5_ev (fuel : Nat) (x8586 : Int) (x1 : ByteArray) (x8584 : List UInt8) (ag3e : ((List UInt8) × Int) → Option ((List UInt8) × Int × Int)) (ag5e : (Int × Int) → Option ((List UInt8) × Int × Int)) (x12024 : Int) (x12025 : Int) : Option ((List UInt8) × Int × Int) :=
  (if x12025 < 256 then (exB (IntKind.u8.wrap x12025) fun c12104 => ((palinoderef04_Mark_ev fuel c12104).bind fun y12106 => (if (y12106.size : Int) = 2 then (if 0 ≤ (1 : Int) then ((y12106[(1 : Int).toNat]?).bind fun c12120 => (if 0 ≤ ((x8586 + 1) : Int) then ((x1[((x8586 + 1) : Int).toNat]?).bind fun c12122 => palinoderef04_Unquote_j7_ev fuel x12025 ag5e x12024 (decide ((c12120.toNat : Int) = (c12122.toNat : Int)))) else none)) else none) else palinoderef04_Unquote_j7_ev fuel x12025 ag5e x12024 false))) else (if 0 ≤ ((x8586 + 1) : Int) then ((x1[((x8586 + 1) : Int).toNat]?).bind fun c12132 => (if (c12132.toNat : Int) = 34 then palinoderef04_Unquote_j8_ev fuel x8584 ag3e x8586 x1 34 else palinoderef04_Unquote_j8_ev fuel x8584 ag3e x8586 x1 x12024)) else none))
theorem palinoderef04_Unquote_l5_ok {fuel : Nat} {x8586 : Int} {x1 : ByteArray} {x8584 : List UInt8} {ag3 : ((List UInt8) × Int) → Prop} {ag3e : ((List UInt8) × Int) → Option ((List UInt8) × Int × Int)} {ag5e : (Int × Int) → Option ((List UInt8) × Int × Int)} {ag5 : (Int × Int) → Prop} {x12024 : Int} {x12025 : Int} {r : (List UInt8) × Int × Int} (hagag3 : ∀ s, ag3e s = some r → ag3 s) (hagag5 : ∀ s, ag5e s = some r → ag5 s) (h : palinoderef04_Unquote_l5_ev fuel x8586 x1 x8584 ag3e ag5e x12024 x12025 = some r) : palinoderef04_Unquote_l5 x8586 x1 x8584 ag3 ag5 x12024 x12025 r := by
  unfold palinoderef04_Unquote_l5_ev at h
  unfold palinoderef04_Unquote_l5
  refine ⟨fun g240 => ?_, fun g240 => ?_⟩
  · rw [if_pos g240] at h
    obtain ⟨q241, g241, h⟩ := exB_ok h
    refine ⟨q241, g241, ?_⟩
    obtain ⟨q242, g242, h⟩ := bind_ok h
    refine ⟨q242, palinoderef04_Mark_ok g242, ?_⟩
    refine ⟨fun g243 => ?_, fun g243 => ?_⟩
    · rw [if_pos g243] at h
      obtain ⟨g244, h⟩ := if_ok h
      refine ⟨g244, ?_⟩
      obtain ⟨q245, g245, h⟩ := bind_ok h
      refine ⟨q245, g245, ?_⟩
      obtain ⟨g246, h⟩ := if_ok h
      refine ⟨g246, ?_⟩
      obtain ⟨q247, g247, h⟩ := bind_ok h
      refine ⟨q247, g247, ?_⟩
      exact palinoderef04_Unquote_j7_ok hagag5 h
    · rw [if_neg g243] at h
      exact palinoderef04_Unquote_j7_ok hagag5 h
  · rw [if_neg g240] at h
    obtain ⟨g248, h⟩ := if_ok h
    refine ⟨g248, ?_⟩
    obtain ⟨q249, g249, h⟩ := bind_ok h
    refine ⟨q249, g249, ?_⟩
    refine ⟨fun g250 => ?_, fun g250 => ?_⟩
    · rw [if_pos g250] at h
      exact palinoderef04_Unquote_j8_ok hagag3 h
    · rw [if_neg g250] at h
      exact palinoderef04_Unquote_j8_ok hagag3 h
def palinoderef04_Unquote_l3_ev (fuel : Nat) (x1 : ByteArray) (ag3e : ((List UInt8) × Int) → Option ((List UInt8) × Int × Int)) (x8584 : List UInt8) (x8586 : Int) : Option ((List UInt8) × Int × Int) :=
  (if x8586 < (x1.size : Int) then (if 0 ≤ (x8586 : Int) then ((x1[(x8586 : Int).toNat]?).bind fun c11795 => (if (c11795.toNat : Int) = 34 then (if InR (x8586 + 1) then some (x8584, (x8586 + 1), 0) else none) else (if 0 ≤ (x8586 : Int) then ((x1[(x8586 : Int).toNat]?).bind fun c11808 => (if ¬ ((c11808.toNat : Int) = 92) then (if 0 ≤ (x8586 : Int) then ((x1[(x8586 : Int).toNat]?).bind fun c11812 => (if Room (x8584.length + ([c11812]).length) 1 then palinoderef04_Unquote_j4_ev fuel ag3e (x8584 ++ [c11812]) x8586 else none)) else none) else (if InR (x8586 + 1) then (if (x8586 + 1) = (x1.size : Int) then some (([] : List UInt8), 0, 2) else (loopE (fun ag5e s => palinoderef04_Unquote_l5_ev fuel x8586 x1 x8584 ag3e ag5e s.1 s.2) fuel ((-1), 0))) else none))) else none))) else none) else some (([] : List UInt8), 0, 2))
theorem palinoderef04_Unquote_l3_ok {fuel : Nat} {x1 : ByteArray} {ag3e : ((List UInt8) × Int) → Option ((List UInt8) × Int × Int)} {ag3 : ((List UInt8) × Int) → Prop} {x8584 : List UInt8} {x8586 : Int} {r : (List UInt8) × Int × Int} (hagag3 : ∀ s, ag3e s = some r → ag3 s) (h : palinoderef04_Unquote_l3_ev fuel x1 ag3e x8584 x8586 = some r) : palinoderef04_Unquote_l3 x1 ag3 x8584 x8586 r := by
  unfold palinoderef04_Unquote_l3_ev at h
  unfold palinoderef04_Unquote_l3
  refine ⟨fun g251 => ?_, fun g251 => ?_⟩
  · rw [if_pos g251] at h
    obtain ⟨g252, h⟩ := if_ok h
    refine ⟨g252, ?_⟩
    obtain ⟨q253, g253, h⟩ := bind_ok h
    refine ⟨q253, g253, ?_⟩
    refine ⟨fun g254 => ?_, fun g254 => ?_⟩
    · rw [if_pos g254] at h
      obtain ⟨g255, h⟩ := if_ok h
      refine ⟨g255, ?_⟩
      exact (Option.some.inj h).symm
    · rw [if_neg g254] at h
      obtain ⟨g256, h⟩ := if_ok h
      refine ⟨g256, ?_⟩
      obtain ⟨q257, g257, h⟩ := bind_ok h
      refine ⟨q257, g257, ?_⟩
      refine ⟨fun g258 => ?_, fun g258 => ?_⟩
      · rw [if_pos g258] at h
        obtain ⟨g259, h⟩ := if_ok h
        refine ⟨g259, ?_⟩
        obtain ⟨q260, g260, h⟩ := bind_ok h
        refine ⟨q260, g260, ?_⟩
        obtain ⟨g261, h⟩ := if_ok h
        refine ⟨g261, ?_⟩
        exact palinoderef04_Unquote_j4_ok hagag3 h
      · rw [if_neg g258] at h
        obtain ⟨g262, h⟩ := if_ok h
        refine ⟨g262, ?_⟩
        refine ⟨fun g263 => ?_, fun g263 => ?_⟩
        · rw [if_pos g263] at h
          exact (Option.some.inj h).symm
        · rw [if_neg g263] at h
          refine loopE_ok ?_ h
          intro ae ag s hag h
          exact palinoderef04_Unquote_l5_ok hagag3 hag h
  · rw [if_neg g251] at h
    exact (Option.some.inj h).symm
def palinoderef04_Unquote_j2_ev (fuel : Nat) (x2 : Int) (x1 : ByteArray) (x43 : Bool) : Option ((List UInt8) × Int × Int) :=
  (if x43 = true then some (([] : List UInt8), 0, 9) else (if InR (x2 + 1) then (loopE (fun ag3e s => palinoderef04_Unquote_l3_ev fuel x1 ag3e s.1 s.2) fuel (([] : List UInt8), (x2 + 1))) else none))
theorem palinoderef04_Unquote_j2_ok {fuel : Nat} {x2 : Int} {x1 : ByteArray} {x43 : Bool} {r : (List UInt8) × Int × Int} (h : palinoderef04_Unquote_j2_ev fuel x2 x1 x43 = some r) : palinoderef04_Unquote_j2 x2 x1 x43 r := by
  unfold palinoderef04_Unquote_j2_ev at h
  unfold palinoderef04_Unquote_j2
  refine ⟨fun g264 => ?_, fun g264 => ?_⟩
  · rw [if_pos g264] at h
    exact (Option.some.inj h).symm
  · rw [if_neg g264] at h
    obtain ⟨g265, h⟩ := if_ok h
    refine ⟨g265, ?_⟩
    refine loopE_ok ?_ h
    intro ae ag s hag h
    exact palinoderef04_Unquote_l3_ok hag h
def palinoderef04_Unquote_j1_ev (fuel : Nat) (x2 : Int) (x1 : ByteArray) (x17 : Bool) : Option ((List UInt8) × Int × Int) :=
  (if x17 = true then some (([] : List UInt8), 0, 1) else (if x2 = (x1.size : Int) then palinoderef04_Unquote_j2_ev fuel x2 x1 true else (if 0 ≤ (x2 : Int) then ((x1[(x2 : Int).toNat]?).bind fun c48 => palinoderef04_Unquote_j2_ev fuel x2 x1 (!(decide ((c48.toNat : Int) = 34)))) else none)))
theorem palinoderef04_Unquote_j1_ok {fuel : Nat} {x2 : Int} {x1 : ByteArray} {x17 : Bool} {r : (List UInt8) × Int × Int} (h : palinoderef04_Unquote_j1_ev fuel x2 x1 x17 = some r) : palinoderef04_Unquote_j1 x2 x1 x17 r := by
  unfold palinoderef04_Unquote_j1_ev at h
  unfold palinoderef04_Unquote_j1
  refine ⟨fun g266 => ?_, fun g266 => ?_⟩
  · rw [if_pos g266] at h
    exact (Option.some.inj h).symm
  · rw [if_neg g266] at h
    refine ⟨fun g267 => ?_, fun g267 => ?_⟩
    · rw [if_pos g267] at h
      exact palinoderef04_Unquote_j2_ok h
    · rw [if_neg g267] at h
      obtain ⟨g268, h⟩ := if_ok h
      refine ⟨g268, ?_⟩
      obtain ⟨q269, g269, h⟩ := bind_ok h
      refine ⟨q269, g269, ?_⟩
      exact palinoderef04_Unquote_j2_ok h
def palinoderef04_Unquote_ev (fuel : Nat) (x1 : ByteArray) (x2 : Int) : Option ((List UInt8) × Int × Int) :=
  palinoderef04_Unquote_j1_ev fuel x2 x1 ((decide (x2 < 0)) || (decide ((x1.size : Int) < x2)))
theorem palinoderef04_Unquote_ok {fuel : Nat} {x1 : ByteArray} {x2 : Int} {r : (List UInt8) × Int × Int} (h : palinoderef04_Unquote_ev fuel x1 x2 = some r) : palinoderef04_Unquote_R x1 x2 r := by
  unfold palinoderef04_Unquote_ev at h
  unfold palinoderef04_Unquote_R
  exact palinoderef04_Unquote_j1_ok h
set_option maxHeartbeats 4000000 in
theorem palinoderef04_Unquote_con (x1 : ByteArray) (x2 : Int) (r : (List UInt8) × Int × Int) (h : palinoderef04_Unquote_R x1 x2 r) : Con Try.prog 14 [.v (.string x1), .v (.int .i64 x2)] [] [] (fun rr bx tk => ∃ j1, rr = .tup [.sl 1 (some j1) (List.map eb r.1), .v (.int .i64 r.2.1), .v (.int .i64 r.2.2)] ∧ bx = [] ∧ tk = [⟨j1, 5, 1, r.1.length⟩]) := by
  refine xenter Try.func14 rfl rfl fun g hg => ?_
  simp only [Try.ntmps14, slots]
  unfold palinoderef04_Unquote_R at h
  refine xseq ?_
  refine xregion ?_
  refine xvalP (pv_assign rfl) rfl rfl ?_
  refine xvalP (pv_assign rfl) rfl rfl ?_
  refine xvalP (pv_assign rfl) rfl rfl ?_
  refine xnil ?_
  refine xthen ?_
  refine xseq ?_
  refine xseqM (fun σ => ∃ (x17 : Bool), palinoderef04_Unquote_j1 x2 x1 x17 r ∧ σ = ⟨[(0, .v (.string x1)), (1, .v (.int .i64 x2)), (21, .v (.bool x17))], [], []⟩) ?_ ?_
  · refine xregion ?_
    refine xvalP (pv_move rfl) rfl rfl ?_
    refine xvalP (pv_bin2 rfl rfl rfl) rfl rfl ?_
    refine xvalP (pv_move rfl) rfl rfl ?_
    by_cases hp19 : x2 < 0
    · rw [show (decide (x2 < 0)) = true from (decide_eq_true hp19), Bool.true_or] at h
      refine xsetB 16 (decide_eq_true hp19) rfl ?_
      refine xskip rfl rfl ?_
      refine xskip rfl rfl ?_
      refine xskip rfl rfl ?_
      refine xskip rfl rfl ?_
      refine xvalP (pv_pick rfl rfl) rfl rfl ?_
      refine xnil ?_
      exact xmeet ⟨true, h, rfl⟩ ⟨(.cons rfl (.refl _) (.cons rfl (.refl _) (.cons rfl (.refl _) (.nil _)))), (SubM.of (.nil _) (.nil _))⟩
    · rw [show (decide (x2 < 0)) = false from (decide_eq_false hp19), Bool.false_or] at h
      refine xsetB 16 (decide_eq_false hp19) rfl ?_
      refine xvalP (pv_move rfl) rfl rfl ?_
      refine xvalP (pv_move rfl) rfl rfl ?_
      refine xvalP (pv_lenS UndC.h rfl) rfl rfl ?_
      refine xvalP (pv_bin2 rfl rfl rfl) rfl rfl ?_
      refine xvalP (pv_pick rfl rfl) rfl rfl ?_
      refine xnil ?_
      exact xmeet ⟨(decide ((x1.size : Int) < x2)), h, rfl⟩ ⟨(.cons rfl (.refl _) (.cons rfl (.refl _) (.cons rfl (.refl _) (.nil _)))), (SubM.of (.nil _) (.nil _))⟩
  · clear h
    rintro _ ⟨x17, h, rfl⟩
    by_cases hp22 : x17 = true
    · replace h := h.1 hp22
      refine xcondT' hp22 rfl ?_
      refine xseq ?_
      refine xregion ?_
      refine xvalP (pv_assign rfl) rfl rfl ?_
      refine xvalP (pv_assign rfl) rfl rfl ?_
      refine xvalP (pv_assign rfl) rfl rfl ?_
      refine xnil ?_
      refine xthen ?_
      refine xretc ?_
      refine xthen_ret ?_
      replace h := h.symm
      subst h
      exact xret3 hg rfl rfl (.nil_own _) rfl (.refl _) rfl (.refl _) (SubM.of (by repeat (first | with_reducible exact SubB.refl _ | exact SubB.nil _ | refine SubB.keep rfl rfl (by first | with_reducible exact WkL.refl _ | ((repeat (first | exact WkL.nil | refine WkL.cons (by first | with_reducible exact Wk.refl _ | exact Wk.nil_own _ | exact Wk.nil_pl _ | with_reducible exact Wk.tok _ _ _ | exact Wk.tok _ _ _ | exact Wk.eq (by first | rfl | (simp []; done) | (simp []; omega))) ?_)); done) | exact WkL.refl _) ?_ | refine SubB.drop ?_)) (by repeat (first | exact SubT.nil _ | refine SubT.add ?_ | (refine SubT.keep ?_ ?_; focus (first | with_reducible rfl | (simp []; done))) | refine SubT.drop ?_))) ⟨none, rfl, rfl, rfl⟩
    · replace h := h.2 hp22
      refine xcondF' (b_f hp22) rfl ?_
      refine xskipc ?_
      refine xthen ?_
      refine xseq ?_
      refine xseqM (fun σ => ∃ (x43 : Bool), palinoderef04_Unquote_j2 x2 x1 x43 r ∧ σ = ⟨[(0, .v (.string x1)), (1, .v (.int .i64 x2)), (31, .v (.bool x43))], [], []⟩) ?_ ?_
      · refine xregion ?_
        refine xvalP (pv_move rfl) rfl rfl ?_
        refine xvalP (pv_move rfl) rfl rfl ?_
        refine xvalP (pv_lenS UndC.h rfl) rfl rfl ?_
        refine xvalP (pv_bin2 rfl rfl rfl) rfl rfl ?_
        refine xvalP (pv_move rfl) rfl rfl ?_
        by_cases hp46 : x2 = (x1.size : Int)
        · replace h := h.1 hp46
          refine xsetB 26 (decide_eq_true hp46) rfl ?_
          refine xskip rfl rfl ?_
          refine xskip rfl rfl ?_
          refine xskip rfl rfl ?_
          refine xskip rfl rfl ?_
          refine xvalP (pv_pick rfl rfl) rfl rfl ?_
          refine xnil ?_
          exact xmeet ⟨true, h, rfl⟩ ⟨(.cons rfl (.refl _) (.cons rfl (.refl _) (.cons rfl (.refl _) (.nil _)))), (SubM.of (.nil _) (.nil _))⟩
        · replace h := h.2 hp46
          refine xsetB 26 (decide_eq_false hp46) rfl ?_
          refine xvalP (pv_move rfl) rfl rfl ?_
          refine xvalP (pv_move rfl) rfl rfl ?_
          obtain ⟨h47, h⟩ := h
          obtain ⟨c48, h47b, h⟩ := h
          refine xvalP (pv_indexSM h47 h47b UndC.h rfl rfl) rfl rfl ?_
          refine xvalP (pv_bin2 rfl rfl rfl) rfl rfl ?_
          refine xvalP (pv_pick rfl rfl) rfl rfl ?_
          refine xnil ?_
          exact xmeet ⟨(!(decide ((c48.toNat : Int) = 34))), h, rfl⟩ ⟨(.cons rfl (.refl _) (.cons rfl (.refl _) (.cons rfl (.refl _) (.nil _)))), (SubM.of (.nil _) (.nil _))⟩
      · clear h
        rintro _ ⟨x43, h, rfl⟩
        by_cases hp50 : x43 = true
        · replace h := h.1 hp50
          refine xcondT' hp50 rfl ?_
          refine xseq ?_
          refine xregion ?_
          refine xvalP (pv_assign rfl) rfl rfl ?_
          refine xvalP (pv_assign rfl) rfl rfl ?_
          refine xvalP (pv_assign rfl) rfl rfl ?_
          refine xnil ?_
          refine xthen ?_
          refine xretc ?_
          refine xthen_ret ?_
          replace h := h.symm
          subst h
          exact xret3 hg rfl rfl (.nil_own _) rfl (.refl _) rfl (.refl _) (SubM.of (by repeat (first | with_reducible exact SubB.refl _ | exact SubB.nil _ | refine SubB.keep rfl rfl (by first | with_reducible exact WkL.refl _ | ((repeat (first | exact WkL.nil | refine WkL.cons (by first | with_reducible exact Wk.refl _ | exact Wk.nil_own _ | exact Wk.nil_pl _ | with_reducible exact Wk.tok _ _ _ | exact Wk.tok _ _ _ | exact Wk.eq (by first | rfl | (simp []; done) | (simp []; omega))) ?_)); done) | exact WkL.refl _) ?_ | refine SubB.drop ?_)) (by repeat (first | exact SubT.nil _ | refine SubT.add ?_ | (refine SubT.keep ?_ ?_; focus (first | with_reducible rfl | (simp []; done))) | refine SubT.drop ?_))) ⟨none, rfl, rfl, rfl⟩
        · replace h := h.2 hp50
          refine xcondF' (b_f hp50) rfl ?_
          refine xskipc ?_
          refine xthen ?_
          refine xseq ?_
          refine xregion ?_
          refine xvalP (pv_assign rfl) rfl rfl ?_
          refine xnil ?_
          refine xthen ?_
          refine xseq ?_
          refine xseq ?_
          refine xregion ?_
          refine xvalP (pv_move rfl) rfl rfl ?_
          obtain ⟨h6451, h⟩ := h
          refine xvalP (pv_addI h6451 rfl rfl) rfl rfl ?_
          refine xvalP (pv_assign rfl) rfl rfl ?_
          refine xnil ?_
          refine xthen ?_
          refine xblock ?_
          obtain ⟨Inv, ⟨m0, hI⟩, hS⟩ := h
          refine xloop (fun σ m => ∃ (x8584 : List UInt8), ∃ (x8586 : Int), ∃ (i8585 : Option (Nat × Nat)), Inv (x8584, x8586) m ∧ σ = ⟨[(0, .v (.string x1)), (7, .sl 1 (some i8585) (List.map eb x8584)), (8, .v (.int .i64 x8586))], [], [⟨i8585, 5, 1, x8584.length⟩]⟩) ⟨([] : List UInt8), (x2 + 1), none, hI, rfl⟩ ⟨(.cons rfl (.refl _) (.cons rfl (.nil_own _) (.cons rfl (.refl _) (.nil _)))), (SubM.of (.nil _) (.add (.nil _)))⟩ ?_
          rintro _ m ⟨x8584, x8586, i8585, hI, rfl⟩
          obtain ⟨ag3, hag3, h⟩ : ∃ ag, (∀ s', ag s' → ∃ m', m' < m ∧ Inv s' m') ∧ palinoderef04_Unquote_l3 x1 ag x8584 x8586 r := ⟨_, fun _ h => h, hS (x8584, x8586) _ hI⟩
          clear hS hI
          refine xseq ?_
          refine xseq ?_
          refine xregion ?_
          refine xvalP (pv_move rfl) rfl rfl ?_
          refine xvalP (pv_move rfl) rfl rfl ?_
          refine xvalP (pv_lenS UndC.h rfl) rfl rfl ?_
          refine xvalP (pv_bin2 rfl rfl rfl) rfl rfl ?_
          refine xnil ?_
          refine xthen ?_
          by_cases hp10724 : x8586 < (x1.size : Int)
          · replace h := h.1 hp10724
            refine xcondT' (decide_eq_true hp10724) rfl ?_
            refine xskipc ?_
            refine xthen ?_
            refine xseqM (fun σ => ∃ (x11786 : List UInt8), ∃ (x11788 : Int), ∃ (i11787 : Option (Nat × Nat)), palinoderef04_Unquote_j4 ag3 x11786 x11788 r ∧ σ = ⟨[(0, .v (.string x1)), (7, .sl 1 (some i11787) (List.map eb x11786)), (8, .v (.int .i64 x11788))], [], [⟨i11787, 5, 1, x11786.length⟩]⟩) ?_ ?_
            · refine xblock ?_
              refine xseq ?_
              refine xseq ?_
              refine xregion ?_
              refine xvalP (pv_move rfl) rfl rfl ?_
              refine xvalP (pv_move rfl) rfl rfl ?_
              obtain ⟨h11794, h⟩ := h
              obtain ⟨c11795, h11794b, h⟩ := h
              refine xvalP (pv_indexSM h11794 h11794b UndC.h rfl rfl) rfl rfl ?_
              refine xvalP (pv_bin2 rfl rfl rfl) rfl rfl ?_
              refine xnil ?_
              refine xthen ?_
              by_cases hp11797 : (c11795.toNat : Int) = 34
              · replace h := h.1 hp11797
                refine xcondT' (decide_eq_true hp11797) rfl ?_
                refine xseq ?_
                refine xregion ?_
                refine xvalP (pv_move rfl) rfl rfl ?_
                refine xvalP (pv_move rfl) rfl rfl ?_
                obtain ⟨h11798, h⟩ := h
                refine xvalP (pv_addI h11798 rfl rfl) rfl rfl ?_
                refine xvalP (pv_assign rfl) rfl rfl ?_
                refine xvalP (pv_assign rfl) rfl rfl ?_
                refine xvalP (pv_assign rfl) rfl rfl ?_
                refine xnil ?_
                refine xthen ?_
                refine xretc ?_
                refine xthen_ret ?_
                refine xin_ret ?_
                refine xthen_ret ?_
                refine xthen_ret ?_
                refine xin_ret ?_
                refine xthen_ret ?_
                replace h := h.symm
                subst h
                exact xret3 hg rfl rfl (.refl _) rfl (.refl _) rfl (.refl _) (SubM.of (.nil _) (.keep rfl (.nil _))) ⟨i8585, rfl, rfl, rfl⟩
              · replace h := h.2 hp11797
                refine xcondF' (decide_eq_false hp11797) rfl ?_
                refine xskipc ?_
                refine xthen ?_
                refine xseq ?_
                refine xseq ?_
                refine xregion ?_
                refine xvalP (pv_move rfl) rfl rfl ?_
                refine xvalP (pv_move rfl) rfl rfl ?_
                obtain ⟨h11807, h⟩ := h
                obtain ⟨c11808, h11807b, h⟩ := h
                refine xvalP (pv_indexSM h11807 h11807b UndC.h rfl rfl) rfl rfl ?_
                refine xvalP (pv_bin2 rfl rfl rfl) rfl rfl ?_
                refine xnil ?_
                refine xthen ?_
                by_cases hp11810 : ¬ ((c11808.toNat : Int) = 92)
                · replace h := h.1 hp11810
                  refine xcondT' (not_t (decide_eq_false hp11810)) rfl ?_
                  refine xseq ?_
                  refine xregion ?_
                  refine xvalP (pv_move rfl) rfl rfl ?_
                  refine xvalP (pv_move rfl) rfl rfl ?_
                  refine xvalP (pv_move rfl) rfl rfl ?_
                  obtain ⟨h11811, h⟩ := h
                  obtain ⟨c11812, h11811b, h⟩ := h
                  refine xvalP (pv_indexSM h11811 h11811b UndC.h rfl rfl) rfl rfl ?_
                  refine xbuildSliceM (f := eb) [c11812] UndC.h InfC.h rfl rfl (by first | exact wkR_of rfl | (repeat (first | exact WkR.nil | refine WkR.cons (by (repeat (first | exact WkL.nil | refine WkL.cons (by first | with_reducible exact Wk.refl _ | exact Wk.nil_own _ | exact Wk.nil_pl _ | with_reducible exact Wk.tok _ _ _ | exact Wk.tok _ _ _ | exact Wk.eq (by first | rfl | (simp []; done) | (simp []; omega))) ?_))) ?_))) rfl rfl rfl rfl fun s55 => ?_
                  obtain ⟨h11813, h⟩ := h
                  refine xappendM (l := x8584) (l2 := [c11812]) 1 h11813 UndC.h InfC.h rfl rfl rfl (.refl _) rfl rfl rfl fun i11814 => ?_
                  refine xvalP (pv_assign rfl) rfl rfl ?_
                  refine xnil ?_
                  refine xthen ?_
                  refine xexit ?_
                  refine xthen_exit ?_
                  refine xin_same rfl ?_
                  exact xmeet ⟨(x8584 ++ [c11812]), x8586, i11814, h, rfl⟩ ⟨(.cons rfl (.refl _) (.cons rfl (.refl _) (.cons rfl (.refl _) (.nil _)))), (SubM.of (.nil _) (.drop (.keep rfl (.nil _))))⟩
                · replace h := h.2 hp11810
                  refine xcondF' (not_f (decide_eq_true (Decidable.of_not_not hp11810))) rfl ?_
                  refine xskipc ?_
                  refine xthen ?_
                  refine xseq ?_
                  refine xregion ?_
                  refine xvalP (pv_move rfl) rfl rfl ?_
                  obtain ⟨h11815, h⟩ := h
                  refine xvalP (pv_addI h11815 rfl rfl) rfl rfl ?_
                  refine xvalP (pv_assign rfl) rfl rfl ?_
                  refine xnil ?_
                  refine xthen ?_
                  refine xseq ?_
                  refine xseq ?_
                  refine xregion ?_
                  refine xvalP (pv_move rfl) rfl rfl ?_
                  refine xvalP (pv_move rfl) rfl rfl ?_
                  refine xvalP (pv_lenS UndC.h rfl) rfl rfl ?_
                  refine xvalP (pv_bin2 rfl rfl rfl) rfl rfl ?_
                  refine xnil ?_
                  refine xthen ?_
                  by_cases hp11821 : (x8586 + 1) = (x1.size : Int)
                  · replace h := h.1 hp11821
                    refine xcondT' (decide_eq_true hp11821) rfl ?_
                    refine xseq ?_
                    refine xregion ?_
                    refine xvalP (pv_assign rfl) rfl rfl ?_
                    refine xvalP (pv_assign rfl) rfl rfl ?_
                    refine xvalP (pv_assign rfl) rfl rfl ?_
                    refine xnil ?_
                    refine xthen ?_
                    refine xretc ?_
                    refine xthen_ret ?_
                    refine xin_ret ?_
                    refine xthen_ret ?_
                    refine xthen_ret ?_
                    refine xin_ret ?_
                    refine xthen_ret ?_
                    replace h := h.symm
                    subst h
                    exact xret3 hg rfl rfl (.nil_own _) rfl (.refl _) rfl (.refl _) (SubM.of (by repeat (first | with_reducible exact SubB.refl _ | exact SubB.nil _ | refine SubB.keep rfl rfl (by first | with_reducible exact WkL.refl _ | ((repeat (first | exact WkL.nil | refine WkL.cons (by first | with_reducible exact Wk.refl _ | exact Wk.nil_own _ | exact Wk.nil_pl _ | with_reducible exact Wk.tok _ _ _ | exact Wk.tok _ _ _ | exact Wk.eq (by first | rfl | (simp []; done) | (simp []; omega))) ?_)); done) | exact WkL.refl _) ?_ | refine SubB.drop ?_)) (by repeat (first | exact SubT.nil _ | refine SubT.add ?_ | (refine SubT.keep ?_ ?_; focus (first | with_reducible rfl | (simp []; done))) | refine SubT.drop ?_))) ⟨none, rfl, rfl, rfl⟩
                  · replace h := h.2 hp11821
                    refine xcondF' (decide_eq_false hp11821) rfl ?_
                    refine xskipc ?_
                    refine xthen ?_
                    refine xseq ?_
                    refine xregion ?_
                    refine xvalP (pv_assign rfl) rfl rfl ?_
                    refine xnil ?_
                    refine xthen ?_
                    refine xseq ?_
                    refine xseq ?_
                    refine xregion ?_
                    refine xvalP (pv_assign rfl) rfl rfl ?_
                    refine xnil ?_
                    refine xthen ?_
                    refine xblock ?_
                    obtain ⟨Inv, ⟨m0, hI⟩, hS⟩ := h
                    refine xloop (fun σ m => ∃ (x12024 : Int), ∃ (x12025 : Int), Inv (x12024, x12025) m ∧ σ = ⟨[(0, .v (.string x1)), (7, .sl 1 (some i8585) (List.map eb x8584)), (8, .v (.int .i64 ((x8586 + 1)))), (9, .v (.int .i64 x12024)), (10, .v (.int .i64 x12025))], [], [⟨i8585, 5, 1, x8584.length⟩]⟩) ⟨(-1), 0, hI, rfl⟩ ⟨(.cons rfl (.refl _) (.cons rfl (.refl _) (.cons rfl (.refl _) (.cons rfl (.refl _) (.cons rfl (.refl _) (.nil _)))))), (SubM.of (.nil _) (.keep rfl (.nil _)))⟩ ?_
                    rintro _ m ⟨x12024, x12025, hI, rfl⟩
                    obtain ⟨ag5, hag5, h⟩ : ∃ ag, (∀ s', ag s' → ∃ m', m' < m ∧ Inv s' m') ∧ palinoderef04_Unquote_l5 x8586 x1 x8584 ag3 ag x12024 x12025 r := ⟨_, fun _ h => h, hS (x12024, x12025) _ hI⟩
                    clear hS hI
                    refine xseq ?_
                    refine xseq ?_
                    refine xregion ?_
                    refine xvalP (pv_move rfl) rfl rfl ?_
                    refine xvalP (pv_bin2 rfl rfl rfl) rfl rfl ?_
                    refine xnil ?_
                    refine xthen ?_
                    by_cases hp12079 : x12025 < 256
                    · replace h := h.1 hp12079
                      refine xcondT' (decide_eq_true hp12079) rfl ?_
                      refine xskipc ?_
                      refine xthen ?_
                      refine xseqM (fun σ => ∃ (x12102 : Int), palinoderef04_Unquote_j6 x12025 ag5 x12102 r ∧ σ = ⟨[(0, .v (.string x1)), (7, .sl 1 (some i8585) (List.map eb x8584)), (8, .v (.int .i64 ((x8586 + 1)))), (9, .v (.int .i64 x12102)), (10, .v (.int .i64 x12025))], [], [⟨i8585, 5, 1, x8584.length⟩]⟩) ?_ ?_
                      · refine xblock ?_
                        refine xseq ?_
                        refine xregion ?_
                        refine xvalP (pv_move rfl) rfl rfl ?_
                        obtain ⟨c12104, h12103, h⟩ := h
                        refine xvalP (pv_convW h12103 UndC.h UndC.h rfl) rfl rfl ?_
                        obtain ⟨y12106, h12105, h⟩ := h
                        refine xcall0 (palinoderef04_Mark_con c12104 _ h12105) Try.func21 (by kernel_rfl) rfl (.cons rfl (.refl _) .nil) rfl rfl ?_
                        refine xvalP (pv_assign rfl) rfl rfl ?_
                        refine xnil ?_
                        refine xthen ?_
                        refine xseqM (fun σ => ∃ (x12115 : Bool), palinoderef04_Unquote_j7 x12025 ag5 x12024 x12115 r ∧ σ = ⟨[(0, .v (.string x1)), (7, .sl 1 (some i8585) (List.map eb x8584)), (8, .v (.int .i64 ((x8586 + 1)))), (9, .v (.int .i64 x12024)), (10, .v (.int .i64 x12025)), (80, .v (.bool x12115))], [], [⟨i8585, 5, 1, x8584.length⟩]⟩) ?_ ?_
                        · refine xregionD (m := 11) (by kernel_rfl) rfl ?_
                          refine xpval 0 rfl (pv_move rfl) rfl rfl (by kernel_rfl) (by kernel_rfl) (by kernel_rfl) (fun _ _ _ _ h => h) ?_
                          refine xpval 1 rfl (pv_lenS UndC.h rfl) rfl rfl (by kernel_rfl) (by kernel_rfl) (by kernel_rfl) (fun _ _ _ _ h => h) ?_
                          refine xpval 2 rfl (pv_bin2 rfl rfl rfl) rfl rfl (by kernel_rfl) (by kernel_rfl) (by kernel_rfl) (fun _ _ _ _ h => h) ?_
                          refine xpval 3 rfl (pv_move rfl) rfl rfl (by kernel_rfl) (by kernel_rfl) (by kernel_rfl) (fun _ _ _ _ h => h) ?_
                          by_cases hp12118 : (y12106.size : Int) = 2
                          · replace h := h.1 hp12118
                            refine psetB 73 (decide_eq_true hp12118) rfl ?_
                            obtain ⟨h12119, h⟩ := h
                            obtain ⟨c12120, h12119b, h⟩ := h
                            obtain ⟨h12121, h⟩ := h
                            obtain ⟨c12122, h12121b, h⟩ := h
                            refine xpval 4 rfl (pv_move rfl) rfl rfl (by kernel_rfl) (by kernel_rfl) (by kernel_rfl) (fun _ _ _ _ h => h) ?_
                            refine xpval 5 rfl (pv_indexSM h12119 h12119b UndC.h rfl rfl) rfl rfl (by kernel_rfl) (by kernel_rfl) (by kernel_rfl) (fun _ _ _ _ h => h) ?_
                            refine xpval 6 rfl (pv_move rfl) rfl rfl (by kernel_rfl) (by kernel_rfl) (by kernel_rfl) (fun _ _ _ _ h => h) ?_
                            refine xpval 7 rfl (pv_move rfl) rfl rfl (by kernel_rfl) (by kernel_rfl) (by kernel_rfl) (fun _ _ _ _ h => h) ?_
                            refine xpval 8 rfl (pv_indexSM h12121 h12121b UndC.h rfl rfl) rfl rfl (by kernel_rfl) (by kernel_rfl) (by kernel_rfl) (fun _ _ _ _ h => h) ?_
                            refine xpval 9 rfl (pv_bin2 rfl rfl rfl) rfl rfl (by kernel_rfl) (by kernel_rfl) (by kernel_rfl) (fun _ _ _ _ h => h) ?_
                            refine xpval 10 rfl (pv_pick rfl rfl) rfl rfl (by kernel_rfl) (by kernel_rfl) (by kernel_rfl) (fun _ _ _ _ h => h) ?_
                            refine xpdone (by kernel_rfl) ?_
                            exact xmeet ⟨(decide ((c12120.toNat : Int) = (c12122.toNat : Int))), h, rfl⟩ ⟨(.cons rfl (.refl _) (.cons rfl (.refl _) (.cons rfl (.refl _) (.cons rfl (.refl _) (.cons rfl (.refl _) (.cons rfl (.refl _) (.nil _))))))), (SubM.of (.nil _) (.keep rfl (.nil _)))⟩
                          · replace h := h.2 hp12118
                            refine psetB 73 (decide_eq_false hp12118) rfl ?_
                            refine xpskip 4 rfl rfl rfl (by kernel_rfl) (by kernel_rfl) (by kernel_rfl) (fun _ _ _ _ h => h) ?_
                            refine xpskip 5 rfl rfl rfl (by kernel_rfl) (by kernel_rfl) (by kernel_rfl) (fun _ _ _ _ h => h) ?_
                            refine xpskip 6 rfl rfl rfl (by kernel_rfl) (by kernel_rfl) (by kernel_rfl) (fun _ _ _ _ h => h) ?_
                            refine xpskip 7 rfl rfl rfl (by kernel_rfl) (by kernel_rfl) (by kernel_rfl) (fun _ _ _ _ h => h) ?_
                            refine xpskip 8 rfl rfl rfl (by kernel_rfl) (by kernel_rfl) (by kernel_rfl) (fun _ _ _ _ h => h) ?_
                            refine xpskip 9 rfl rfl rfl (by kernel_rfl) (by kernel_rfl) (by kernel_rfl) (fun _ _ _ _ h => h) ?_
                            refine xpval 10 rfl (pv_pick rfl rfl) rfl rfl (by kernel_rfl) (by kernel_rfl) (by kernel_rfl) (fun _ _ _ _ h => h) ?_
                            refine xpdone (by kernel_rfl) ?_
                            exact xmeet ⟨false, h, rfl⟩ ⟨(.cons rfl (.refl _) (.cons rfl (.refl _) (.cons rfl (.refl _) (.cons rfl (.refl _) (.cons rfl (.refl _) (.cons rfl (.refl _) (.nil _))))))), (SubM.of (.nil _) (.keep rfl (.nil _)))⟩
                        · clear h
                          rintro _ ⟨x12115, h, rfl⟩
                          by_cases hp12124 : x12115 = true
                          · replace h := h.1 hp12124
                            refine xcondT' hp12124 rfl ?_
                            refine xregion ?_
                            refine xvalP (pv_move rfl) rfl rfl ?_
                            refine xvalP (pv_assign rfl) rfl rfl ?_
                            refine xnil ?_
                            refine xin_normal ?_
                            exact xmeet ⟨x12025, h, rfl⟩ ⟨(.cons rfl (.refl _) (.cons rfl (.refl _) (.cons rfl (.refl _) (.cons rfl (.refl _) (.cons rfl (.refl _) (.nil _)))))), (SubM.of (.nil _) (.keep rfl (.nil _)))⟩
                          · replace h := h.2 hp12124
                            refine xcondF' (b_f hp12124) rfl ?_
                            refine xskipc ?_
                            refine xin_normal ?_
                            exact xmeet ⟨x12024, h, rfl⟩ ⟨(.cons rfl (.refl _) (.cons rfl (.refl _) (.cons rfl (.refl _) (.cons rfl (.refl _) (.cons rfl (.refl _) (.nil _)))))), (SubM.of (.nil _) (.keep rfl (.nil _)))⟩
                      · clear h
                        rintro _ ⟨x12102, h, rfl⟩
                        refine xregion ?_
                        refine xvalP (pv_move rfl) rfl rfl ?_
                        obtain ⟨h12125, h⟩ := h
                        refine xvalP (pv_addI h12125 rfl rfl) rfl rfl ?_
                        refine xvalP (pv_assign rfl) rfl rfl ?_
                        refine xnil ?_
                        obtain ⟨m', hm, hI⟩ := hag5 _ h
                        exact xagain ⟨x12102, (x12025 + 1), hI, rfl⟩ hm ⟨(.cons rfl (.refl _) (.cons rfl (.refl _) (.cons rfl (.refl _) (.cons rfl (.refl _) (.cons rfl (.refl _) (.nil _)))))), (SubM.of (.nil _) (.keep rfl (.nil _)))⟩
                    · replace h := h.2 hp12079
                      refine xcondF' (decide_eq_false hp12079) rfl ?_
                      refine xexit ?_
                      refine xthen_exit ?_
                      refine xthen_exit ?_
                      refine xin_same rfl ?_
                      refine xthen ?_
                      refine xseqM (fun σ => ∃ (x12130 : Int), palinoderef04_Unquote_j8 x8584 ag3 x8586 x1 x12130 r ∧ σ = ⟨[(0, .v (.string x1)), (7, .sl 1 (some i8585) (List.map eb x8584)), (8, .v (.int .i64 ((x8586 + 1)))), (9, .v (.int .i64 x12130))], [], [⟨i8585, 5, 1, x8584.length⟩]⟩) ?_ ?_
                      · refine xseq ?_
                        refine xregion ?_
                        refine xvalP (pv_move rfl) rfl rfl ?_
                        refine xvalP (pv_move rfl) rfl rfl ?_
                        obtain ⟨h12131, h⟩ := h
                        obtain ⟨c12132, h12131b, h⟩ := h
                        refine xvalP (pv_indexSM h12131 h12131b UndC.h rfl rfl) rfl rfl ?_
                        refine xvalP (pv_bin2 rfl rfl rfl) rfl rfl ?_
                        refine xnil ?_
                        refine xthen ?_
                        by_cases hp12134 : (c12132.toNat : Int) = 34
                        · replace h := h.1 hp12134
                          refine xcondT' (decide_eq_true hp12134) rfl ?_
                          refine xregion ?_
                          refine xvalP (pv_assign rfl) rfl rfl ?_
                          refine xnil ?_
                          exact xmeet ⟨34, h, rfl⟩ ⟨(.cons rfl (.refl _) (.cons rfl (.refl _) (.cons rfl (.refl _) (.cons rfl (.refl _) (.nil _))))), (SubM.of (.nil _) (.keep rfl (.nil _)))⟩
                        · replace h := h.2 hp12134
                          refine xcondF' (decide_eq_false hp12134) rfl ?_
                          refine xskipc ?_
                          exact xmeet ⟨x12024, h, rfl⟩ ⟨(.cons rfl (.refl _) (.cons rfl (.refl _) (.cons rfl (.refl _) (.cons rfl (.refl _) (.nil _))))), (SubM.of (.nil _) (.keep rfl (.nil _)))⟩
                      · clear h
                        rintro _ ⟨x12130, h, rfl⟩
                        refine xseq ?_
                        refine xseq ?_
                        refine xregion ?_
                        refine xvalP (pv_move rfl) rfl rfl ?_
                        refine xvalP (pv_bin2 rfl rfl rfl) rfl rfl ?_
                        refine xnil ?_
                        refine xthen ?_
                        by_cases hp12142 : 0 ≤ x12130
                        · replace h := h.1 hp12142
                          refine xcondT' (decide_eq_true hp12142) rfl ?_
                          refine xseq ?_
                          refine xregion ?_
                          refine xvalP (pv_move rfl) rfl rfl ?_
                          refine xvalP (pv_move rfl) rfl rfl ?_
                          obtain ⟨c12144, h12143, h⟩ := h
                          refine xvalP (pv_convW h12143 UndC.h UndC.h rfl) rfl rfl ?_
                          refine xbuildSliceM (f := eb) [c12144] UndC.h InfC.h rfl rfl (by first | exact wkR_of rfl | (repeat (first | exact WkR.nil | refine WkR.cons (by (repeat (first | exact WkL.nil | refine WkL.cons (by first | with_reducible exact Wk.refl _ | exact Wk.nil_own _ | exact Wk.nil_pl _ | with_reducible exact Wk.tok _ _ _ | exact Wk.tok _ _ _ | exact Wk.eq (by first | rfl | (simp []; done) | (simp []; omega))) ?_))) ?_))) rfl rfl rfl rfl fun s91 => ?_
                          obtain ⟨h12145, h⟩ := h
                          refine xappendM (l := x8584) (l2 := [c12144]) 1 h12145 UndC.h InfC.h rfl rfl rfl (.refl _) rfl rfl rfl fun i12146 => ?_
                          refine xvalP (pv_assign rfl) rfl rfl ?_
                          refine xnil ?_
                          refine xthen ?_
                          refine xexit ?_
                          refine xthen_exit ?_
                          refine xin_same rfl ?_
                          exact xmeet ⟨(x8584 ++ [c12144]), (x8586 + 1), i12146, h, rfl⟩ ⟨(.cons rfl (.refl _) (.cons rfl (.refl _) (.cons rfl (.refl _) (.nil _)))), (SubM.of (.nil _) (.drop (.keep rfl (.nil _))))⟩
                        · replace h := h.2 hp12142
                          refine xcondF' (decide_eq_false hp12142) rfl ?_
                          refine xskipc ?_
                          refine xthen ?_
                          refine xseq ?_
                          refine xregion ?_
                          refine xvalP (pv_assign rfl) rfl rfl ?_
                          refine xnil ?_
                          refine xthen ?_
                          refine xseq ?_
                          refine xseq ?_
                          refine xregion ?_
                          refine xvalP (pv_assign rfl) rfl rfl ?_
                          refine xnil ?_
                          refine xthen ?_
                          refine xblock ?_
                          obtain ⟨Inv, ⟨m0, hI⟩, hS⟩ := h
                          refine xloop (fun σ m => ∃ (x12609 : Int), ∃ (x12610 : Int), Inv (x12609, x12610) m ∧ σ = ⟨[(0, .v (.string x1)), (7, .sl 1 (some i8585) (List.map eb x8584)), (8, .v (.int .i64 ((x8586 + 1)))), (12, .v (.int .i64 x12609)), (13, .v (.int .i64 x12610))], [], [⟨i8585, 5, 1, x8584.length⟩]⟩) ⟨0, 0, hI, rfl⟩ ⟨(.cons rfl (.refl _) (.cons rfl (.refl _) (.cons rfl (.refl _) (.cons rfl (.refl _) (.cons rfl (.refl _) (.nil _)))))), (SubM.of (.nil _) (.keep rfl (.nil _)))⟩ ?_
                          rintro _ m ⟨x12609, x12610, hI, rfl⟩
                          obtain ⟨ag9, hag9, h⟩ : ∃ ag, (∀ s', ag s' → ∃ m', m' < m ∧ Inv s' m') ∧ palinoderef04_Unquote_l9 x8586 x1 x8584 ag3 ag x12609 x12610 r := ⟨_, fun _ h => h, hS (x12609, x12610) _ hI⟩
                          clear hS hI
                          refine xseq ?_
                          refine xseq ?_
                          refine xregion ?_
                          refine xvalP (pv_move rfl) rfl rfl ?_
                          refine xvalP (pv_bin2 rfl rfl rfl) rfl rfl ?_
                          refine xnil ?_
                          refine xthen ?_
                          by_cases hp12729 : x12610 < 3
                          · replace h := h.1 hp12729
                            refine xcondT' (decide_eq_true hp12729) rfl ?_
                            refine xskipc ?_
                            refine xthen ?_
                            refine xseq ?_
                            refine xblock ?_
                            refine xseq ?_
                            refine xseq ?_
                            refine xregion ?_
                            refine xvalP (pv_move rfl) rfl rfl ?_
                            refine xvalP (pv_move rfl) rfl rfl ?_
                            obtain ⟨h12789, h⟩ := h
                            refine xvalP (pv_addI h12789 rfl rfl) rfl rfl ?_
                            refine xvalP (pv_move rfl) rfl rfl ?_
                            refine xvalP (pv_lenS UndC.h rfl) rfl rfl ?_
                            refine xvalP (pv_bin2 rfl rfl rfl) rfl rfl ?_
                            refine xnil ?_
                            refine xthen ?_
                            by_cases hp12792 : (x1.size : Int) ≤ ((x8586 + 1) + x12610)
                            · replace h := h.1 hp12792
                              refine xcondT' (decide_eq_true hp12792) rfl ?_
                              refine xseq ?_
                              refine xregion ?_
                              refine xvalP (pv_assign rfl) rfl rfl ?_
                              refine xvalP (pv_assign rfl) rfl rfl ?_
                              refine xvalP (pv_assign rfl) rfl rfl ?_
                              refine xnil ?_
                              refine xthen ?_
                              refine xretc ?_
                              refine xthen_ret ?_
                              refine xin_ret ?_
                              refine xthen_ret ?_
                              refine xthen_ret ?_
                              refine xin_ret ?_
                              refine xthen_ret ?_
                              refine xin_ret ?_
                              refine xthen_ret ?_
                              refine xthen_ret ?_
                              refine xin_ret ?_
                              refine xthen_ret ?_
                              replace h := h.symm
                              subst h
                              exact xret3 hg rfl rfl (.nil_own _) rfl (.refl _) rfl (.refl _) (SubM.of (by repeat (first | with_reducible exact SubB.refl _ | exact SubB.nil _ | refine SubB.keep rfl rfl (by first | with_reducible exact WkL.refl _ | ((repeat (first | exact WkL.nil | refine WkL.cons (by first | with_reducible exact Wk.refl _ | exact Wk.nil_own _ | exact Wk.nil_pl _ | with_reducible exact Wk.tok _ _ _ | exact Wk.tok _ _ _ | exact Wk.eq (by first | rfl | (simp []; done) | (simp []; omega))) ?_)); done) | exact WkL.refl _) ?_ | refine SubB.drop ?_)) (by repeat (first | exact SubT.nil _ | refine SubT.add ?_ | (refine SubT.keep ?_ ?_; focus (first | with_reducible rfl | (simp []; done))) | refine SubT.drop ?_))) ⟨none, rfl, rfl, rfl⟩
                            · replace h := h.2 hp12792
                              refine xcondF' (decide_eq_false hp12792) rfl ?_
                              refine xskipc ?_
                              refine xthen ?_
                              refine xseq ?_
                              refine xseqM (fun σ => ∃ (x12822 : Bool), palinoderef04_Unquote_j10 x12609 x8586 x12610 x1 ag9 x12822 r ∧ σ = ⟨[(0, .v (.string x1)), (7, .sl 1 (some i8585) (List.map eb x8584)), (8, .v (.int .i64 ((x8586 + 1)))), (12, .v (.int .i64 x12609)), (13, .v (.int .i64 x12610)), (116, .v (.bool x12822))], [], [⟨i8585, 5, 1, x8584.length⟩]⟩) ?_ ?_
                              · refine xregion ?_
                                refine xvalP (pv_move rfl) rfl rfl ?_
                                refine xvalP (pv_move rfl) rfl rfl ?_
                                refine xvalP (pv_move rfl) rfl rfl ?_
                                obtain ⟨h12823, h⟩ := h
                                refine xvalP (pv_addI h12823 rfl rfl) rfl rfl ?_
                                obtain ⟨h12824, h⟩ := h
                                obtain ⟨c12825, h12824b, h⟩ := h
                                refine xvalP (pv_indexSM h12824 h12824b UndC.h rfl rfl) rfl rfl ?_
                                refine xvalP (pv_bin2 rfl rfl rfl) rfl rfl ?_
                                refine xvalP (pv_move rfl) rfl rfl ?_
                                by_cases hp12827 : (c12825.toNat : Int) < 48
                                · replace h := h.1 hp12827
                                  refine xsetB 109 (decide_eq_true hp12827) rfl ?_
                                  refine xskip rfl rfl ?_
                                  refine xskip rfl rfl ?_
                                  refine xskip rfl rfl ?_
                                  refine xskip rfl rfl ?_
                                  refine xskip rfl rfl ?_
                                  refine xskip rfl rfl ?_
                                  refine xvalP (pv_pick rfl rfl) rfl rfl ?_
                                  refine xnil ?_
                                  exact xmeet ⟨true, h, rfl⟩ ⟨(.cons rfl (.refl _) (.cons rfl (.refl _) (.cons rfl (.refl _) (.cons rfl (.refl _) (.cons rfl (.refl _) (.cons rfl (.refl _) (.nil _))))))), (SubM.of (.nil _) (.keep rfl (.nil _)))⟩
                                · replace h := h.2 hp12827
                                  refine xsetB 109 (decide_eq_false hp12827) rfl ?_
                                  refine xvalP (pv_move rfl) rfl rfl ?_
                                  refine xvalP (pv_move rfl) rfl rfl ?_
                                  refine xvalP (pv_move rfl) rfl rfl ?_
                                  obtain ⟨h12828, h⟩ := h
                                  refine xvalP (pv_addI h12828 rfl rfl) rfl rfl ?_
                                  obtain ⟨h12829, h⟩ := h
                                  obtain ⟨c12830, h12829b, h⟩ := h
                                  refine xvalP (pv_indexSM h12829 h12829b UndC.h rfl rfl) rfl rfl ?_
                                  refine xvalP (pv_bin2 rfl rfl rfl) rfl rfl ?_
                                  refine xvalP (pv_pick rfl rfl) rfl rfl ?_
                                  refine xnil ?_
                                  exact xmeet ⟨(decide (55 < (c12830.toNat : Int))), h, rfl⟩ ⟨(.cons rfl (.refl _) (.cons rfl (.refl _) (.cons rfl (.refl _) (.cons rfl (.refl _) (.cons rfl (.refl _) (.cons rfl (.refl _) (.nil _))))))), (SubM.of (.nil _) (.keep rfl (.nil _)))⟩
                              · clear h
                                rintro _ ⟨x12822, h, rfl⟩
                                by_cases hp12832 : x12822 = true
                                · replace h := h.1 hp12832
                                  refine xcondT' hp12832 rfl ?_
                                  refine xseq ?_
                                  refine xregion ?_
                                  refine xvalP (pv_assign rfl) rfl rfl ?_
                                  refine xvalP (pv_assign rfl) rfl rfl ?_
                                  refine xvalP (pv_assign rfl) rfl rfl ?_
                                  refine xnil ?_
                                  refine xthen ?_
                                  refine xretc ?_
                                  refine xthen_ret ?_
                                  refine xin_ret ?_
                                  refine xthen_ret ?_
                                  refine xthen_ret ?_
                                  refine xin_ret ?_
                                  refine xthen_ret ?_
                                  refine xin_ret ?_
                                  refine xthen_ret ?_
                                  refine xthen_ret ?_
                                  refine xin_ret ?_
                                  refine xthen_ret ?_
                                  replace h := h.symm
                                  subst h
                                  exact xret3 hg rfl rfl (.nil_own _) rfl (.refl _) rfl (.refl _) (SubM.of (by repeat (first | with_reducible exact SubB.refl _ | exact SubB.nil _ | refine SubB.keep rfl rfl (by first | with_reducible exact WkL.refl _ | ((repeat (first | exact WkL.nil | refine WkL.cons (by first | with_reducible exact Wk.refl _ | exact Wk.nil_own _ | exact Wk.nil_pl _ | with_reducible exact Wk.tok _ _ _ | exact Wk.tok _ _ _ | exact Wk.eq (by first | rfl | (simp []; done) | (simp []; omega))) ?_)); done) | exact WkL.refl _) ?_ | refine SubB.drop ?_)) (by repeat (first | exact SubT.nil _ | refine SubT.add ?_ | (refine SubT.keep ?_ ?_; focus (first | with_reducible rfl | (simp []; done))) | refine SubT.drop ?_))) ⟨none, rfl, rfl, rfl⟩
                                · replace h := h.2 hp12832
                                  refine xcondF' (b_f hp12832) rfl ?_
                                  refine xskipc ?_
                                  refine xthen ?_
                                  refine xregion ?_
                                  refine xvalP (pv_move rfl) rfl rfl ?_
                                  obtain ⟨h12833, h⟩ := h
                                  refine xvalP (pv_mulI h12833 rfl rfl) rfl rfl ?_
                                  refine xvalP (pv_move rfl) rfl rfl ?_
                                  refine xvalP (pv_move rfl) rfl rfl ?_
                                  refine xvalP (pv_move rfl) rfl rfl ?_
                                  obtain ⟨h12834, h⟩ := h
                                  refine xvalP (pv_addI h12834 rfl rfl) rfl rfl ?_
                                  obtain ⟨h12835, h⟩ := h
                                  obtain ⟨c12836, h12835b, h⟩ := h
                                  refine xvalP (pv_indexSM h12835 h12835b UndC.h rfl rfl) rfl rfl ?_
                                  refine xvalP (pv_convW (w8 c12836) UndC.h UndC.h rfl) rfl rfl ?_
                                  obtain ⟨h12838, h⟩ := h
                                  refine xvalP (pv_addI h12838 rfl rfl) rfl rfl ?_
                                  obtain ⟨h12839, h⟩ := h
                                  refine xvalP (pv_subI h12839 rfl rfl) rfl rfl ?_
                                  refine xvalP (pv_assign rfl) rfl rfl ?_
                                  refine xnil ?_
                                  refine xin_normal ?_
                                  refine xthen ?_
                                  refine xregion ?_
                                  refine xvalP (pv_move rfl) rfl rfl ?_
                                  obtain ⟨h12840, h⟩ := h
                                  refine xvalP (pv_addI h12840 rfl rfl) rfl rfl ?_
                                  refine xvalP (pv_assign rfl) rfl rfl ?_
                                  refine xnil ?_
                                  obtain ⟨m', hm, hI⟩ := hag9 _ h
                                  exact xagain ⟨(((x12609 * 8) + (c12836.toNat : Int)) - 48), (x12610 + 1), hI, rfl⟩ hm ⟨(.cons rfl (.refl _) (.cons rfl (.refl _) (.cons rfl (.refl _) (.cons rfl (.refl _) (.cons rfl (.refl _) (.nil _)))))), (SubM.of (.nil _) (.keep rfl (.nil _)))⟩
                          · replace h := h.2 hp12729
                            refine xcondF' (decide_eq_false hp12729) rfl ?_
                            refine xexit ?_
                            refine xthen_exit ?_
                            refine xthen_exit ?_
                            refine xin_same rfl ?_
                            refine xthen ?_
                            refine xseq ?_
                            refine xseq ?_
                            refine xregion ?_
                            refine xvalP (pv_move rfl) rfl rfl ?_
                            refine xvalP (pv_bin2 rfl rfl rfl) rfl rfl ?_
                            refine xnil ?_
                            refine xthen ?_
                            by_cases hp12844 : 255 < x12609
                            · replace h := h.1 hp12844
                              refine xcondT' (decide_eq_true hp12844) rfl ?_
                              refine xseq ?_
                              refine xregion ?_
                              refine xvalP (pv_assign rfl) rfl rfl ?_
                              refine xvalP (pv_assign rfl) rfl rfl ?_
                              refine xvalP (pv_assign rfl) rfl rfl ?_
                              refine xnil ?_
                              refine xthen ?_
                              refine xretc ?_
                              refine xthen_ret ?_
                              refine xin_ret ?_
                              refine xthen_ret ?_
                              refine xthen_ret ?_
                              refine xin_ret ?_
                              refine xthen_ret ?_
                              replace h := h.symm
                              subst h
                              exact xret3 hg rfl rfl (.nil_own _) rfl (.refl _) rfl (.refl _) (SubM.of (by repeat (first | with_reducible exact SubB.refl _ | exact SubB.nil _ | refine SubB.keep rfl rfl (by first | with_reducible exact WkL.refl _ | ((repeat (first | exact WkL.nil | refine WkL.cons (by first | with_reducible exact Wk.refl _ | exact Wk.nil_own _ | exact Wk.nil_pl _ | with_reducible exact Wk.tok _ _ _ | exact Wk.tok _ _ _ | exact Wk.eq (by first | rfl | (simp []; done) | (simp []; omega))) ?_)); done) | exact WkL.refl _) ?_ | refine SubB.drop ?_)) (by repeat (first | exact SubT.nil _ | refine SubT.add ?_ | (refine SubT.keep ?_ ?_; focus (first | with_reducible rfl | (simp []; done))) | refine SubT.drop ?_))) ⟨none, rfl, rfl, rfl⟩
                            · replace h := h.2 hp12844
                              refine xcondF' (decide_eq_false hp12844) rfl ?_
                              refine xskipc ?_
                              refine xthen ?_
                              refine xseq ?_
                              refine xregion ?_
                              refine xvalP (pv_move rfl) rfl rfl ?_
                              refine xvalP (pv_move rfl) rfl rfl ?_
                              obtain ⟨c12846, h12845, h⟩ := h
                              refine xvalP (pv_convW h12845 UndC.h UndC.h rfl) rfl rfl ?_
                              refine xbuildSliceM (f := eb) [c12846] UndC.h InfC.h rfl rfl (by first | exact wkR_of rfl | (repeat (first | exact WkR.nil | refine WkR.cons (by (repeat (first | exact WkL.nil | refine WkL.cons (by first | with_reducible exact Wk.refl _ | exact Wk.nil_own _ | exact Wk.nil_pl _ | with_reducible exact Wk.tok _ _ _ | exact Wk.tok _ _ _ | exact Wk.eq (by first | rfl | (simp []; done) | (simp []; omega))) ?_))) ?_))) rfl rfl rfl rfl fun s132 => ?_
                              obtain ⟨h12847, h⟩ := h
                              refine xappendM (l := x8584) (l2 := [c12846]) 1 h12847 UndC.h InfC.h rfl rfl rfl (.refl _) rfl rfl rfl fun i12848 => ?_
                              refine xvalP (pv_assign rfl) rfl rfl ?_
                              refine xnil ?_
                              refine xthen ?_
                              refine xregion ?_
                              refine xvalP (pv_move rfl) rfl rfl ?_
                              obtain ⟨h12849, h⟩ := h
                              refine xvalP (pv_addI h12849 rfl rfl) rfl rfl ?_
                              refine xvalP (pv_assign rfl) rfl rfl ?_
                              refine xnil ?_
                              refine xin_normal ?_
                              exact xmeet ⟨(x8584 ++ [c12846]), ((x8586 + 1) + 2), i12848, h, rfl⟩ ⟨(.cons rfl (.refl _) (.cons rfl (.refl _) (.cons rfl (.refl _) (.nil _)))), (SubM.of (.nil _) (.drop (.keep rfl (.nil _))))⟩
            · clear h
              rintro _ ⟨x11786, x11788, i11787, h, rfl⟩
              refine xregion ?_
              refine xvalP (pv_move rfl) rfl rfl ?_
              obtain ⟨h12850, h⟩ := h
              refine xvalP (pv_addI h12850 rfl rfl) rfl rfl ?_
              refine xvalP (pv_assign rfl) rfl rfl ?_
              refine xnil ?_
              obtain ⟨m', hm, hI⟩ := hag3 _ h
              exact xagain ⟨x11786, (x11788 + 1), i11787, hI, rfl⟩ hm ⟨(.cons rfl (.refl _) (.cons rfl (.refl _) (.cons rfl (.refl _) (.nil _)))), (SubM.of (.nil _) (.keep rfl (.nil _)))⟩
          · replace h := h.2 hp10724
            refine xcondF' (decide_eq_false hp10724) rfl ?_
            refine xexit ?_
            refine xthen_exit ?_
            refine xthen_exit ?_
            refine xin_same rfl ?_
            refine xthen ?_
            refine xseq ?_
            refine xregion ?_
            refine xvalP (pv_assign rfl) rfl rfl ?_
            refine xvalP (pv_assign rfl) rfl rfl ?_
            refine xvalP (pv_assign rfl) rfl rfl ?_
            refine xnil ?_
            refine xthen ?_
            refine xretc ?_
            replace h := h.symm
            subst h
            exact xret3 hg rfl rfl (.nil_own _) rfl (.refl _) rfl (.refl _) (SubM.of (by repeat (first | with_reducible exact SubB.refl _ | exact SubB.nil _ | refine SubB.keep rfl rfl (by first | with_reducible exact WkL.refl _ | ((repeat (first | exact WkL.nil | refine WkL.cons (by first | with_reducible exact Wk.refl _ | exact Wk.nil_own _ | exact Wk.nil_pl _ | with_reducible exact Wk.tok _ _ _ | exact Wk.tok _ _ _ | exact Wk.eq (by first | rfl | (simp []; done) | (simp []; omega))) ?_)); done) | exact WkL.refl _) ?_ | refine SubB.drop ?_)) (by repeat (first | exact SubT.nil _ | refine SubT.add ?_ | (refine SubT.keep ?_ ?_; focus (first | with_reducible rfl | (simp []; done))) | refine SubT.drop ?_))) ⟨none, rfl, rfl, rfl⟩
end Go.Proofs.Ytefpkpiadnpkeaa
