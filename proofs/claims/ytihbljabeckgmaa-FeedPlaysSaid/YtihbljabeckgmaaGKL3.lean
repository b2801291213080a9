/- What functions' texts ask for, and the walks that show it (printed by a program). -/
import Derived.Test.YtihbljabeckgmaaGK
namespace Go.Proofs.Ytihbljabeckgmaa
/-- palinodelaw18.FeedPlays -/
def palinodelaw18_FeedPlays_j3 (f666 : Int) (f667 : Int) (f668 : Int) (f669 : Int) (f670 : List UInt8) (f661 : Int) (f662 : Int) (f663 : Int) (f664 : Int) (f665 : List UInt8) (x3 : Bool × Bool × Bool × Bool × (List ByteArray)) (x660 : Int) (ag2 : (Int × Int × Int × Int × Int × (List UInt8) × Int × Int × Int × Int × (List UInt8)) → Prop) (x906 : List (ByteArray × (List UInt8))) (r : Bool) : Prop :=
  ∃ y943 : Bool, palinoderef18_Same_R (f666, f667, f668, f669, f670) (f661, f662, f663, f664, f665) y943 ∧ ((¬ (y943 = true) → r = false) ∧ (¬ (¬ (y943 = true)) → ∃ y946 : Bool, feed_Last_R (f666, f667, f668, f669, f670) x906 x3 y946 ∧ ∃ y948 : Bool, palinoderef18_Last_R (f661, f662, f663, f664, f665) x906 x3 y948 ∧ ((¬ ((y946 == y948) = true) → r = false) ∧ (¬ (¬ ((y946 == y948) = true)) → ∃ y953 : ((List UInt8) × Bool) × (Int × Int × Int × Int × (List UInt8)) × Bool, feed_Next_R (f666, f667, f668, f669, f670) x906 x3 y953 ∧ ∃ y955 : ((List UInt8) × Bool) × (Int × Int × Int × Int × (List UInt8)) × Bool, palinoderef18_Next_R (f661, f662, f663, f664, f665) x906 x3.2.2.2.2 y955 ∧ ((¬ ((y953.2.2 == y955.2.2) = true) → r = false) ∧ (¬ (¬ ((y953.2.2 == y955.2.2) = true)) → ∃ y972 : Bool, palinodelaw18_same_R y953.1 y955.1 y972 ∧ ((¬ (y972 = true) → r = false) ∧ (¬ (¬ (y972 = true)) → ((¬ (y953.2.2 = true) → ∃ y976 : Bool, palinodelaw18_awake_R y976 ∧ r = y976) ∧ (¬ (¬ (y953.2.2 = true)) → InR (x660 + 1) ∧ ag2 ((x660 + 1), y955.2.1.1, y955.2.1.2.1, y955.2.1.2.2.1, y955.2.1.2.2.2.1, y955.2.1.2.2.2.2, y953.2.1.1, y953.2.1.2.1, y953.2.1.2.2.1, y953.2.1.2.2.2.1, y953.2.1.2.2.2.2)))))))))))
def palinodelaw18_FeedPlays_l2 (x4 : UInt8) (x3 : Bool × Bool × Bool × Bool × (List ByteArray)) (x2 : List (ByteArray × (List UInt8))) (x1 : List (ByteArray × (List UInt8))) (ag2 : (Int × Int × Int × Int × Int × (List UInt8) × Int × Int × Int × Int × (List UInt8)) → Prop) (x660 : Int) (f661 : Int) (f662 : Int) (f663 : Int) (f664 : Int) (f665 : List UInt8) (f666 : Int) (f667 : Int) (f668 : Int) (f669 : Int) (f670 : List UInt8) (r : Bool) : Prop :=
  ((x660 < 100 → (20 : Int) ≠ 0 ∧ (((((x4.toNat : Int) : Int).tmod (20)) ≤ x660 → palinodelaw18_FeedPlays_j3 f666 f667 f668 f669 f670 f661 f662 f663 f664 f665 x3 x660 ag2 x2 r) ∧ (¬ ((((x4.toNat : Int) : Int).tmod (20)) ≤ x660) → palinodelaw18_FeedPlays_j3 f666 f667 f668 f669 f670 f661 f662 f663 f664 f665 x3 x660 ag2 x1 r))) ∧ (¬ (x660 < 100) → ∃ y980 : Bool, palinodelaw18_awake_R y980 ∧ r = y980))
def palinodelaw18_FeedPlays_j1 (x4 : UInt8) (x3 : Bool × Bool × Bool × Bool × (List ByteArray)) (x2 : List (ByteArray × (List UInt8))) (x1 : List (ByteArray × (List UInt8))) (x24 : Bool) (r : Bool) : Prop :=
  ((x24 = true → ∃ y32 : Bool, palinodelaw18_awake_R y32 ∧ r = y32) ∧ (¬ (x24 = true) → ∃ y34 : (Int × Int × Int × Int × (List UInt8)), feed_First_R y34 ∧ ∃ y36 : (Int × Int × Int × Int × (List UInt8)), palinoderef18_First_R y36 ∧ LoopR (fun ag2 s => palinodelaw18_FeedPlays_l2 x4 x3 x2 x1 ag2 s.1 s.2.1 s.2.2.1 s.2.2.2.1 s.2.2.2.2.1 s.2.2.2.2.2.1 s.2.2.2.2.2.2.1 s.2.2.2.2.2.2.2.1 s.2.2.2.2.2.2.2.2.1 s.2.2.2.2.2.2.2.2.2.1 s.2.2.2.2.2.2.2.2.2.2 r) (0, y36.1, y36.2.1, y36.2.2.1, y36.2.2.2.1, y36.2.2.2.2, y34.1, y34.2.1, y34.2.2.1, y34.2.2.2.1, y34.2.2.2.2)))
def palinodelaw18_FeedPlays_R (x1 : List (ByteArray × (List UInt8))) (x2 : List (ByteArray × (List UInt8))) (x3 : Bool × Bool × Bool × Bool × (List ByteArray)) (x4 : UInt8) (r : Bool) : Prop :=
  ∃ y26 : Bool, palinoderef18_Great_R x1 x3 y26 ∧ ((y26 = true → palinodelaw18_FeedPlays_j1 x4 x3 x2 x1 true r) ∧ (¬ (y26 = true) → ∃ y29 : Bool, palinoderef18_Great_R x2 x3 y29 ∧ palinodelaw18_FeedPlays_j1 x4 x3 x2 x1 y29 r))
def palinodelaw18_FeedPlays_j3_ev (fuel : Nat) (f666 : Int) (f667 : Int) (f668 : Int) (f669 : Int) (f670 : List UInt8) (f661 : Int) (f662 : Int) (f663 : Int) (f664 : Int) (f665 : List UInt8) (x3 : Bool × Bool × Bool × Bool × (List ByteArray)) (x660 : Int) (ag2e : (Int × Int × Int × Int × Int × (List UInt8) × Int × Int × Int × Int × (List UInt8)) → Option (Bool)) (x906 : List (ByteArray × (List UInt8))) : Option (Bool) :=
  ((palinoderef18_Same_ev fuel (f666, f667, f668, f669, f670) (f661, f662, f663, f664, f665)).bind fun y943 => (if ¬ (y943 = true) then some false else ((feed_Last_ev fuel (f666, f667, f668, f669, f670) x906 x3).bind fun y946 => ((palinoderef18_Last_ev fuel (f661, f662, f663, f664, f665) x906 x3).bind fun y948 => (if ¬ ((y946 == y948) = true) then some false else ((feed_Next_ev fuel (f666, f667, f668, f669, f670) x906 x3).bind fun y953 => ((palinoderef18_Next_ev fuel (f661, f662, f663, f664, f665) x906 x3.2.2.2.2).bind fun y955 => (if ¬ ((y953.2.2 == y955.2.2) = true) then some false else ((palinodelaw18_same_ev fuel y953.1 y955.1).bind fun y972 => (if ¬ (y972 = true) then some false else (if ¬ (y953.2.2 = true) then ((palinodelaw18_awake_ev fuel).bind fun y976 => some y976) else (if InR (x660 + 1) then ag2e ((x660 + 1), y955.2.1.1, y955.2.1.2.1, y955.2.1.2.2.1, y955.2.1.2.2.2.1, y955.2.1.2.2.2.2, y953.2.1.1, y953.2.1.2.1, y953.2.1.2.2.1, y953.2.1.2.2.2.1, y953.2.1.2.2.2.2) else none))))))))))))
theorem palinodelaw18_FeedPlays_j3_ok {fuel : Nat} {f666 : Int} {f667 : Int} {f668 : Int} {f669 : Int} {f670 : List UInt8} {f661 : Int} {f662 : Int} {f663 : Int} {f664 : Int} {f665 : List UInt8} {x3 : Bool × Bool × Bool × Bool × (List ByteArray)} {x660 : Int} {ag2 : (Int × Int × Int × Int × Int × (List UInt8) × Int × Int × Int × Int × (List UInt8)) → Prop} {ag2e : (Int × Int × Int × Int × Int × (List UInt8) × Int × Int × Int × Int × (List UInt8)) → Option (Bool)} {x906 : List (ByteArray × (List UInt8))} {r : Bool} (hagag2 : ∀ s, ag2e s = some r → ag2 s) (h : palinodelaw18_FeedPlays_j3_ev fuel f666 f667 f668 f669 f670 f661 f662 f663 f664 f665 x3 x660 ag2e x906 = some r) : palinodelaw18_FeedPlays_j3 f666 f667 f668 f669 f670 f661 f662 f663 f664 f665 x3 x660 ag2 x906 r := by
  unfold palinodelaw18_FeedPlays_j3_ev at h
  unfold palinodelaw18_FeedPlays_j3
  obtain ⟨q198, g198, h⟩ := bind_ok h
  refine ⟨q198, palinoderef18_Same_ok g198, ?_⟩
  refine ⟨fun g199 => ?_, fun g199 => ?_⟩
  · rw [if_pos g199] at h
    exact (Option.some.inj h).symm
  · rw [if_neg g199] at h
    obtain ⟨q200, g200, h⟩ := bind_ok h
    refine ⟨q200, feed_Last_ok g200, ?_⟩
    obtain ⟨q201, g201, h⟩ := bind_ok h
    refine ⟨q201, palinoderef18_Last_ok g201, ?_⟩
    refine ⟨fun g202 => ?_, fun g202 => ?_⟩
    · rw [if_pos g202] at h
      exact (Option.some.inj h).symm
    · rw [if_neg g202] at h
      obtain ⟨q203, g203, h⟩ := bind_ok h
      refine ⟨q203, feed_Next_ok g203, ?_⟩
      obtain ⟨q204, g204, h⟩ := bind_ok h
      refine ⟨q204, palinoderef18_Next_ok g204, ?_⟩
      refine ⟨fun g205 => ?_, fun g205 => ?_⟩
      · rw [if_pos g205] at h
        exact (Option.some.inj h).symm
      · rw [if_neg g205] at h
        obtain ⟨q206, g206, h⟩ := bind_ok h
        refine ⟨q206, palinodelaw18_same_ok g206, ?_⟩
        refine ⟨fun g207 => ?_, fun g207 => ?_⟩
        · rw [if_pos g207] at h
          exact (Option.some.inj h).symm
        · rw [if_neg g207] at h
          refine ⟨fun g208 => ?_, fun g208 => ?_⟩
          · rw [if_pos g208] at h
            obtain ⟨q209, g209, h⟩ := bind_ok h
            refine ⟨q209, palinodelaw18_awake_ok g209, ?_⟩
            exact (Option.some.inj h).symm
          · rw [if_neg g208] at h
            obtain ⟨g210, h⟩ := if_ok h
            refine ⟨g210, ?_⟩
            exact hagag2 _ h
def palinodelaw18_FeedPlays_l2_ev (fuel : Nat) (x4 : UInt8) (x3 : Bool × Bool × Bool × Bool × (List ByteArray)) (x2 : List (ByteArray × (List UInt8))) (x1 : List (ByteArray × (List UInt8))) (ag2e : (Int × Int × Int × Int × Int × (List UInt8) × Int × Int × Int × Int × (List UInt8)) → Option (Bool)) (x660 : Int) (f661 : Int) (f662 : Int) (f663 : Int) (f664 : Int) (f665 : List UInt8) (f666 : Int) (f667 : Int) (f668 : Int) (f669 : Int) (f670 : List UInt8) : Option (Bool) :=
  (if x660 < 100 then (if (20 : Int) ≠ 0 then (if (((x4.toNat : Int) : Int).tmod (20)) ≤ x660 then palinodelaw18_FeedPlays_j3_ev fuel f666 f667 f668 f669 f670 f661 f662 f663 f664 f665 x3 x660 ag2e x2 else palinodelaw18_FeedPlays_j3_ev fuel f666 f667 f668 f669 f670 f661 f662 f663 f664 f665 x3 x660 ag2e x1) else none) else ((palinodelaw18_awake_ev fuel).bind fun y980 => some y980))
theorem palinodelaw18_FeedPlays_l2_ok {fuel : Nat} {x4 : UInt8} {x3 : Bool × Bool × Bool × Bool × (List ByteArray)} {x2 : List (ByteArray × (List UInt8))} {x1 : List (ByteArray × (List UInt8))} {ag2e : (Int × Int × Int × Int × Int × (List UInt8) × Int × Int × Int × Int × (List UInt8)) → Option (Bool)} {ag2 : (Int × Int × Int × Int × Int × (List UInt8) × Int × Int × Int × Int × (List UInt8)) → Prop} {x660 : Int} {f661 : Int} {f662 : Int} {f663 : Int} {f664 : Int} {f665 : List UInt8} {f666 : Int} {f667 : Int} {f668 : Int} {f669 : Int} {f670 : List UInt8} {r : Bool} (hagag2 : ∀ s, ag2e s = some r → ag2 s) (h : palinodelaw18_FeedPlays_l2_ev fuel x4 x3 x2 x1 ag2e x660 f661 f662 f663 f664 f665 f666 f667 f668 f669 f670 = some r) : palinodelaw18_FeedPlays_l2 x4 x3 x2 x1 ag2 x660 f661 f662 f663 f664 f665 f666 f667 f668 f669 f670 r := by
  unfold palinodelaw18_FeedPlays_l2_ev at h
  unfold palinodelaw18_FeedPlays_l2
  refine ⟨fun g211 => ?_, fun g211 => ?_⟩
  · rw [if_pos g211] at h
    obtain ⟨g212, h⟩ := if_ok h
    refine ⟨g212, ?_⟩
    refine ⟨fun g213 => ?_, fun g213 => ?_⟩
    · rw [if_pos g213] at h
      exact palinodelaw18_FeedPlays_j3_ok hagag2 h
    · rw [if_neg g213] at h
      exact palinodelaw18_FeedPlays_j3_ok hagag2 h
  · rw [if_neg g211] at h
    obtain ⟨q214, g214, h⟩ := bind_ok h
    refine ⟨q214, palinodelaw18_awake_ok g214, ?_⟩
    exact (Option.some.inj h).symm
def palinodelaw18_FeedPlays_j1_ev (fuel : Nat) (x4 : UInt8) (x3 : Bool × Bool × Bool × Bool × (List ByteArray)) (x2 : List (ByteArray × (List UInt8))) (x1 : List (ByteArray × (List UInt8))) (x24 : Bool) : Option (Bool) :=
  (if x24 = true then ((palinodelaw18_awake_ev fuel).bind fun y32 => some y32) else ((feed_First_ev fuel).bind fun y34 => ((palinoderef18_First_ev fuel).bind fun y36 => (loopE (fun ag2e s => palinodelaw18_FeedPlays_l2_ev fuel x4 x3 x2 x1 ag2e s.1 s.2.1 s.2.2.1 s.2.2.2.1 s.2.2.2.2.1 s.2.2.2.2.2.1 s.2.2.2.2.2.2.1 s.2.2.2.2.2.2.2.1 s.2.2.2.2.2.2.2.2.1 s.2.2.2.2.2.2.2.2.2.1 s.2.2.2.2.2.2.2.2.2.2) fuel (0, y36.1, y36.2.1, y36.2.2.1, y36.2.2.2.1, y36.2.2.2.2, y34.1, y34.2.1, y34.2.2.1, y34.2.2.2.1, y34.2.2.2.2)))))
theorem palinodelaw18_FeedPlays_j1_ok {fuel : Nat} {x4 : UInt8} {x3 : Bool × Bool × Bool × Bool × (List ByteArray)} {x2 : List (ByteArray × (List UInt8))} {x1 : List (ByteArray × (List UInt8))} {x24 : Bool} {r : Bool} (h : palinodelaw18_FeedPlays_j1_ev fuel x4 x3 x2 x1 x24 = some r) : palinodelaw18_FeedPlays_j1 x4 x3 x2 x1 x24 r := by
  unfold palinodelaw18_FeedPlays_j1_ev at h
  unfold palinodelaw18_FeedPlays_j1
  refine ⟨fun g215 => ?_, fun g215 => ?_⟩
  · rw [if_pos g215] at h
    obtain ⟨q216, g216, h⟩ := bind_ok h
    refine ⟨q216, palinodelaw18_awake_ok g216, ?_⟩
    exact (Option.some.inj h).symm
  · rw [if_neg g215] at h
    obtain ⟨q217, g217, h⟩ := bind_ok h
    refine ⟨q217, feed_First_ok g217, ?_⟩
    obtain ⟨q218, g218, h⟩ := bind_ok h
    refine ⟨q218, palinoderef18_First_ok g218, ?_⟩
    refine loopE_ok ?_ h
    intro ae ag s hag h
    exact palinodelaw18_FeedPlays_l2_ok hag h
def palinodelaw18_FeedPlays_ev (fuel : Nat) (x1 : List (ByteArray × (List UInt8))) (x2 : List (ByteArray × (List UInt8))) (x3 : Bool × Bool × Bool × Bool × (List ByteArray)) (x4 : UInt8) : Option (Bool) :=
  ((palinoderef18_Great_ev fuel x1 x3).bind fun y26 => (if y26 = true then palinodelaw18_FeedPlays_j1_ev fuel x4 x3 x2 x1 true else ((palinoderef18_Great_ev fuel x2 x3).bind fun y29 => palinodelaw18_FeedPlays_j1_ev fuel x4 x3 x2 x1 y29)))
theorem palinodelaw18_FeedPlays_ok {fuel : Nat} {x1 : List (ByteArray × (List UInt8))} {x2 : List (ByteArray × (List UInt8))} {x3 : Bool × Bool × Bool × Bool × (List ByteArray)} {x4 : UInt8} {r : Bool} (h : palinodelaw18_FeedPlays_ev fuel x1 x2 x3 x4 = some r) : palinodelaw18_FeedPlays_R x1 x2 x3 x4 r := by
  unfold palinodelaw18_FeedPlays_ev at h
  unfold palinodelaw18_FeedPlays_R
  obtain ⟨q219, g219, h⟩ := bind_ok h
  refine ⟨q219, palinoderef18_Great_ok g219, ?_⟩
  refine ⟨fun g220 => ?_, fun g220 => ?_⟩
  · rw [if_pos g220] at h
    exact palinodelaw18_FeedPlays_j1_ok h
  · rw [if_neg g220] at h
    obtain ⟨q221, g221, h⟩ := bind_ok h
    refine ⟨q221, palinoderef18_Great_ok g221, ?_⟩
    exact palinodelaw18_FeedPlays_j1_ok h
set_option maxHeartbeats 4000000 in
theorem palinodelaw18_FeedPlays_con (x1 : List (ByteArray × (List UInt8))) (x2 : List (ByteArray × (List UInt8))) (x3 : Bool × Bool × Bool × Bool × (List ByteArray)) (x4 : UInt8) (r : Bool) (h : palinodelaw18_FeedPlays_R x1 x2 x3 x4 r) : Con Try.prog 6 [.sl 2 none (List.map E_palinode_api_File x1), .sl 2 none (List.map E_palinode_api_File x2), .agg [.v (.bool x3.1), .v (.bool x3.2.1), .v (.bool x3.2.2.1), .v (.bool x3.2.2.2.1), .sl 1 none (List.map es x3.2.2.2.2)], .v (.int .u8 ((x4.toNat : Int)))] [] [] (Ret (.v (.bool r))) := by
  refine xenter Try.func6 rfl rfl fun g hg => ?_
  simp only [Try.ntmps6, slots]
  refine xseq ?_
  refine xregion ?_
  refine xbox rfl rfl rfl rfl fun b6 => ?_
  refine xvalP (pv_assign rfl) rfl rfl ?_
  refine xnil ?_
  refine xthen ?_
  refine xseq ?_
  refine xseqM (fun σ => ∃ (x24 : Bool), palinodelaw18_FeedPlays_j1 x4 x3 x2 x1 x24 r ∧ σ = ⟨[(0, .sl 2 none (List.map E_palinode_api_File x1)), (1, .sl 2 none (List.map E_palinode_api_File x2)), (3, .v (.int .u8 ((x4.toNat : Int)))), (6, .v (.pointer (some ⟨b6, 0, none⟩))), (24, .v (.bool x24))], [⟨b6, 25, [.v (.bool x3.1), .v (.bool x3.2.1), .v (.bool x3.2.2.1), .v (.bool x3.2.2.2.1), .sl 1 none (List.map es x3.2.2.2.2)]⟩], []⟩) ?_ ?_
  · refine xregion ?_
    refine xvalP (pv_move rfl) rfl rfl ?_
    refine xval (qv_loadB 0 ShpC.h rfl rfl rfl rfl) rfl rfl ?_
    obtain ⟨y26, h25, h⟩ := h
    refine xcall0 (palinoderef18_Great_con x1 x3 _ h25) Try.func8 (by kernel_rfl) rfl (.cons rfl (.refl _) (.cons rfl (.refl _) .nil)) rfl rfl ?_
    refine xvalP (pv_move rfl) rfl rfl ?_
    by_cases hp27 : y26 = true
    · replace h := h.1 hp27
      refine xsetB 20 hp27 rfl ?_
      refine xskip rfl rfl ?_
      refine xskip rfl rfl ?_
      refine xskip rfl rfl ?_
      refine xvalP (pv_pick rfl rfl) rfl rfl ?_
      refine xnil ?_
      exact xmeet ⟨true, h, rfl⟩ ⟨(.cons rfl (.refl _) (.cons rfl (.refl _) (.cons rfl (.refl _) (.cons rfl (.refl _) (.cons rfl (.refl _) (.nil _)))))), (SubM.of (.keep rfl rfl (.refl _) (.nil _)) (.nil _))⟩
    · replace h := h.2 hp27
      refine xsetB 20 (b_f hp27) rfl ?_
      refine xvalP (pv_move rfl) rfl rfl ?_
      refine xval (qv_loadB 0 ShpC.h rfl rfl rfl rfl) rfl rfl ?_
      obtain ⟨y29, h28, h⟩ := h
      refine xcall0 (palinoderef18_Great_con x2 x3 _ h28) Try.func8 (by kernel_rfl) rfl (.cons rfl (.refl _) (.cons rfl (.refl _) .nil)) rfl rfl ?_
      refine xvalP (pv_pick rfl rfl) rfl rfl ?_
      refine xnil ?_
      exact xmeet ⟨y29, h, rfl⟩ ⟨(.cons rfl (.refl _) (.cons rfl (.refl _) (.cons rfl (.refl _) (.cons rfl (.refl _) (.cons rfl (.refl _) (.nil _)))))), (SubM.of (.keep rfl rfl (.refl _) (.nil _)) (.nil _))⟩
  · clear h
    rintro _ ⟨x24, h, rfl⟩
    by_cases hp30 : x24 = true
    · replace h := h.1 hp30
      refine xcondT' hp30 rfl ?_
      refine xseq ?_
      refine xregion ?_
      obtain ⟨y32, h31, h⟩ := h
      refine xcall0 (palinodelaw18_awake_con _ h31) Try.func9 (by kernel_rfl) rfl .nil rfl rfl ?_
      refine xvalP (pv_assign rfl) rfl rfl ?_
      refine xnil ?_
      refine xthen ?_
      refine xretc ?_
      refine xthen_ret ?_
      replace h := h.symm
      subst h
      exact xret1 hg rfl rfl (.refl _) (SubM.of (.nil _) (.nil _)) ⟨rfl, rfl, rfl⟩
    · replace h := h.2 hp30
      refine xcondF' (b_f hp30) rfl ?_
      refine xskipc ?_
      refine xthen ?_
      refine xseq ?_
      refine xregion ?_
      obtain ⟨y34, h33, h⟩ := h
      refine xcall0 (feed_First_con _ h33) Try.func14 (by kernel_rfl) rfl .nil rfl rfl ?_
      obtain ⟨y36, h35, h⟩ := h
      refine xcall0 (palinoderef18_First_con _ h35) Try.func20 (by kernel_rfl) rfl .nil rfl rfl ?_
      refine xalloc InfC.h rfl rfl fun b9 => ?_
      refine xalloc InfC.h rfl rfl fun b10 => ?_
      refine xstore 1 ShpC.h rfl rfl rfl rfl rfl rfl rfl ?_
      refine xstore 0 ShpC.h rfl rfl rfl rfl rfl rfl rfl ?_
      refine xnil ?_
      refine xthen ?_
      refine xseq ?_
      refine xseq ?_
      refine xregion ?_
      refine xvalP (pv_assign rfl) rfl rfl ?_
      refine xnil ?_
      refine xthen ?_
      refine xblock ?_
      obtain ⟨Inv, ⟨m0, hI⟩, hS⟩ := h
      refine xloop (fun σ m => ∃ (x660 : Int), ∃ (f661 : Int), ∃ (f662 : Int), ∃ (f663 : Int), ∃ (f664 : Int), ∃ (f665 : List UInt8), ∃ (f666 : Int), ∃ (f667 : Int), ∃ (f668 : Int), ∃ (f669 : Int), ∃ (f670 : List UInt8), Inv (x660, f661, f662, f663, f664, f665, f666, f667, f668, f669, f670) m ∧ σ = ⟨[(0, .sl 2 none (List.map E_palinode_api_File x1)), (1, .sl 2 none (List.map E_palinode_api_File x2)), (3, .v (.int .u8 ((x4.toNat : Int)))), (6, .v (.pointer (some ⟨b6, 0, none⟩))), (9, .v (.pointer (some ⟨b9, 0, none⟩))), (10, .v (.pointer (some ⟨b10, 0, none⟩))), (11, .v (.int .i64 x660))], [⟨b10, 42, [.v (.int .i64 f661), .v (.int .i64 f662), .v (.int .i64 f663), .v (.int .i64 f664), .sl 1 none (List.map eb f665)]⟩, ⟨b9, 42, [.v (.int .i64 f666), .v (.int .i64 f667), .v (.int .i64 f668), .v (.int .i64 f669), .sl 1 none (List.map eb f670)]⟩, ⟨b6, 25, [.v (.bool x3.1), .v (.bool x3.2.1), .v (.bool x3.2.2.1), .v (.bool x3.2.2.2.1), .sl 1 none (List.map es x3.2.2.2.2)]⟩], []⟩) ⟨0, y36.1, y36.2.1, y36.2.2.1, y36.2.2.2.1, y36.2.2.2.2, y34.1, y34.2.1, y34.2.2.1, y34.2.2.2.1, y34.2.2.2.2, hI, rfl⟩ ⟨(.cons rfl (.refl _) (.cons rfl (.refl _) (.cons rfl (.refl _) (.cons rfl (.refl _) (.cons rfl (.refl _) (.cons rfl (.refl _) (.cons rfl (.refl _) (.nil _)))))))), (SubM.of (.keep rfl rfl (.refl _) (.keep rfl rfl (.refl _) (.keep rfl rfl (.refl _) (.nil _)))) (.nil _))⟩ ?_
      rintro _ m ⟨x660, f661, f662, f663, f664, f665, f666, f667, f668, f669, f670, hI, rfl⟩
      obtain ⟨ag2, hag2, h⟩ : ∃ ag, (∀ s', ag s' → ∃ m', m' < m ∧ Inv s' m') ∧ palinodelaw18_FeedPlays_l2 x4 x3 x2 x1 ag x660 f661 f662 f663 f664 f665 f666 f667 f668 f669 f670 r := ⟨_, fun _ h => h, hS (x660, f661, f662, f663, f664, f665, f666, f667, f668, f669, f670) _ hI⟩
      clear hS hI
      refine xseq ?_
      refine xseq ?_
      refine xregion ?_
      refine xvalP (pv_move rfl) rfl rfl ?_
      refine xvalP (pv_bin2 rfl rfl rfl) rfl rfl ?_
      refine xnil ?_
      refine xthen ?_
      by_cases hp827 : x660 < 100
      · replace h := h.1 hp827
        refine xcondT' (decide_eq_true hp827) rfl ?_
        refine xskipc ?_
        refine xthen ?_
        refine xseq ?_
        refine xblock ?_
        refine xseq ?_
        refine xregion ?_
        refine xvalP (pv_move rfl) rfl rfl ?_
        refine xvalP (pv_assign rfl) rfl rfl ?_
        refine xnil ?_
        refine xthen ?_
        refine xseqM (fun σ => ∃ (x906 : List (ByteArray × (List UInt8))), palinodelaw18_FeedPlays_j3 f666 f667 f668 f669 f670 f661 f662 f663 f664 f665 x3 x660 ag2 x906 r ∧ σ = ⟨[(0, .sl 2 none (List.map E_palinode_api_File x1)), (1, .sl 2 none (List.map E_palinode_api_File x2)), (3, .v (.int .u8 ((x4.toNat : Int)))), (6, .v (.pointer (some ⟨b6, 0, none⟩))), (9, .v (.pointer (some ⟨b9, 0, none⟩))), (10, .v (.pointer (some ⟨b10, 0, none⟩))), (11, .v (.int .i64 x660)), (12, .sl 2 none (List.map E_palinode_api_File x906))], [⟨b10, 42, [.v (.int .i64 f661), .v (.int .i64 f662), .v (.int .i64 f663), .v (.int .i64 f664), .sl 1 none (List.map eb f665)]⟩, ⟨b9, 42, [.v (.int .i64 f666), .v (.int .i64 f667), .v (.int .i64 f668), .v (.int .i64 f669), .sl 1 none (List.map eb f670)]⟩, ⟨b6, 25, [.v (.bool x3.1), .v (.bool x3.2.1), .v (.bool x3.2.2.1), .v (.bool x3.2.2.2.1), .sl 1 none (List.map es x3.2.2.2.2)]⟩], []⟩) ?_ ?_
        · refine xseq ?_
          refine xregion ?_
          refine xvalP (pv_move rfl) rfl rfl ?_
          refine xvalP (pv_move rfl) rfl rfl ?_
          refine xvalP (pv_convW (w8 x4) UndC.h UndC.h rfl) rfl rfl ?_
          obtain ⟨h908, h⟩ := h
          refine xvalP (pv_remW h908 rfl rfl rfl rfl) rfl rfl ?_
          refine xvalP (pv_bin2 rfl rfl rfl) rfl rfl ?_
          refine xnil ?_
          refine xthen ?_
          by_cases hp910 : (((x4.toNat : Int) : Int).tmod (20)) ≤ x660
          · replace h := h.1 hp910
            refine xcondT' (decide_eq_true hp910) rfl ?_
            refine xregion ?_
            refine xvalP (pv_move rfl) rfl rfl ?_
            refine xvalP (pv_assign rfl) rfl rfl ?_
            refine xnil ?_
            exact xmeet ⟨x2, h, rfl⟩ ⟨(.cons rfl (.refl _) (.cons rfl (.refl _) (.cons rfl (.refl _) (.cons rfl (.refl _) (.cons rfl (.refl _) (.cons rfl (.refl _) (.cons rfl (.refl _) (.cons rfl (.refl _) (.nil _))))))))), (SubM.of (.keep rfl rfl (.refl _) (.keep rfl rfl (.refl _) (.keep rfl rfl (.refl _) (.nil _)))) (.nil _))⟩
          · replace h := h.2 hp910
            refine xcondF' (decide_eq_false hp910) rfl ?_
            refine xskipc ?_
            exact xmeet ⟨x1, h, rfl⟩ ⟨(.cons rfl (.refl _) (.cons rfl (.refl _) (.cons rfl (.refl _) (.cons rfl (.refl _) (.cons rfl (.refl _) (.cons rfl (.refl _) (.cons rfl (.refl _) (.cons rfl (.refl _) (.nil _))))))))), (SubM.of (.keep rfl rfl (.refl _) (.keep rfl rfl (.refl _) (.keep rfl rfl (.refl _) (.nil _)))) (.nil _))⟩
        · clear h
          rintro _ ⟨x906, h, rfl⟩
          refine xseq ?_
          refine xseq ?_
          refine xregionD (m := 15) (by kernel_rfl) rfl ?_
          obtain ⟨y943, h942, h⟩ := h
          refine xpvalE 0 [1] rfl (qv_loadB 1 ShpC.h rfl rfl rfl rfl) rfl rfl (by kernel_rfl) (by kernel_rfl) (by kernel_rfl) (fun _ _ _ _ h => h) ?_
          refine xpvalE 1 [] rfl (qv_loadB 0 ShpC.h rfl rfl rfl rfl) rfl rfl (by kernel_rfl) (by kernel_rfl) (by kernel_rfl) (fun _ _ _ _ h => h) ?_
          refine xpstep (i := 2) (by kernel_rfl) rfl ?_
          refine wcall0 (palinoderef18_Same_con (f666, f667, f668, f669, f670) (f661, f662, f663, f664, f665) _ h942) Try.func16 (by kernel_rfl) rfl (.cons rfl (.refl _) (.cons rfl (.refl _) .nil)) rfl rfl ?_
          refine xpval 3 rfl (pv_not rfl) rfl rfl (by kernel_rfl) (by kernel_rfl) (by kernel_rfl) (fun _ _ _ _ h => h) ?_
          refine xpval 4 rfl (pv_move rfl) rfl rfl (by kernel_rfl) (by kernel_rfl) (by kernel_rfl) (fun _ _ _ _ h => h) ?_
          by_cases hp944 : ¬ (y943 = true)
          · replace h := h.1 hp944
            refine psetB 43 (not_t (b_f hp944)) rfl ?_
            refine xpskip 5 rfl rfl rfl (by kernel_rfl) (by kernel_rfl) (by kernel_rfl) (fun _ _ _ _ h => h) ?_
            refine xpskip 6 rfl rfl rfl (by kernel_rfl) (by kernel_rfl) (by kernel_rfl) (fun _ _ _ _ h => h) ?_
            refine xpskip 7 rfl rfl rfl (by kernel_rfl) (by kernel_rfl) (by kernel_rfl) (fun _ _ _ _ h => h) ?_
            refine xpskip 8 rfl rfl rfl (by kernel_rfl) (by kernel_rfl) (by kernel_rfl) (fun _ _ _ _ h => h) ?_
            refine xpskip 9 rfl rfl rfl (by kernel_rfl) (by kernel_rfl) (by kernel_rfl) (fun _ _ _ _ h => h) ?_
            refine xpskip 10 rfl rfl rfl (by kernel_rfl) (by kernel_rfl) (by kernel_rfl) (fun _ _ _ _ h => h) ?_
            refine xpskip 11 rfl rfl rfl (by kernel_rfl) (by kernel_rfl) (by kernel_rfl) (fun _ _ _ _ h => h) ?_
            refine xpskip 12 rfl rfl rfl (by kernel_rfl) (by kernel_rfl) (by kernel_rfl) (fun _ _ _ _ h => h) ?_
            refine xpskip 13 rfl rfl rfl (by kernel_rfl) (by kernel_rfl) (by kernel_rfl) (fun _ _ _ _ h => h) ?_
            refine xpval 14 rfl (pv_pick rfl rfl) rfl rfl (by kernel_rfl) (by kernel_rfl) (by kernel_rfl) (fun _ _ _ _ h => h) ?_
            refine xpdone (by kernel_rfl) ?_
            refine xthen ?_
            refine xcondT rfl ?_
            refine xseq ?_
            refine xregion ?_
            refine xvalP (pv_assign rfl) rfl rfl ?_
            refine xnil ?_
            refine xthen ?_
            refine xretc ?_
            refine xthen_ret ?_
            refine xin_ret ?_
            refine xthen_ret ?_
            refine xthen_ret ?_
            refine xin_ret ?_
            refine xthen_ret ?_
            replace h := h.symm
            subst h
            exact xret1 hg rfl rfl (.refl _) (SubM.of (.nil _) (.nil _)) ⟨rfl, rfl, rfl⟩
          · replace h := h.2 hp944
            refine psetB 43 (not_f (Decidable.of_not_not hp944)) rfl ?_
            obtain ⟨y946, h945, h⟩ := h
            obtain ⟨y948, h947, h⟩ := h
            refine xpcut 3 #[true, true, true, true, true, true, true, true, true, true, true, true, false, false, false] (fun σ => σ = ⟨[(0, .sl 2 none (List.map E_palinode_api_File x1)), (1, .sl 2 none (List.map E_palinode_api_File x2)), (3, .v (.int .u8 ((x4.toNat : Int)))), (6, .v (.pointer (some ⟨b6, 0, none⟩))), (9, .v (.pointer (some ⟨b9, 0, none⟩))), (10, .v (.pointer (some ⟨b10, 0, none⟩))), (11, .v (.int .i64 x660)), (12, .sl 2 none (List.map E_palinode_api_File x906)), (43, .v (.bool false)), (44, .agg [.v (.int .i64 f666), .v (.int .i64 f667), .v (.int .i64 f668), .v (.int .i64 f669), .sl 1 none (List.map eb f670)]), (45, .sl 2 none (List.map E_palinode_api_File x906)), (46, .agg [.v (.bool x3.1), .v (.bool x3.2.1), .v (.bool x3.2.2.1), .v (.bool x3.2.2.2.1), .sl 1 none (List.map es x3.2.2.2.2)]), (47, .v (.bool y946)), (48, .agg [.v (.int .i64 f661), .v (.int .i64 f662), .v (.int .i64 f663), .v (.int .i64 f664), .sl 1 none (List.map eb f665)]), (49, .sl 2 none (List.map E_palinode_api_File x906)), (50, .agg [.v (.bool x3.1), .v (.bool x3.2.1), .v (.bool x3.2.2.1), .v (.bool x3.2.2.2.1), .sl 1 none (List.map es x3.2.2.2.2)])], [⟨b10, 42, [.v (.int .i64 f661), .v (.int .i64 f662), .v (.int .i64 f663), .v (.int .i64 f664), .sl 1 none (List.map eb f665)]⟩, ⟨b9, 42, [.v (.int .i64 f666), .v (.int .i64 f667), .v (.int .i64 f668), .v (.int .i64 f669), .sl 1 none (List.map eb f670)]⟩, ⟨b6, 25, [.v (.bool x3.1), .v (.bool x3.2.1), .v (.bool x3.2.2.1), .v (.bool x3.2.2.2.1), .sl 1 none (List.map es x3.2.2.2.2)]⟩], []⟩) ?_ (fun key950 => ?_)
            · rintro _ rfl
              refine xpstep (i := 12) (by kernel_rfl) rfl ?_
              refine wcall0 (palinoderef18_Last_con (f661, f662, f663, f664, f665) x906 x3 _ h947) Try.func19 (by kernel_rfl) rfl (.cons rfl (.refl _) (.cons rfl (.refl _) (.cons rfl (.refl _) .nil))) rfl rfl ?_
              refine xpval 13 rfl (pv_neB UndC.h rfl rfl) rfl rfl (by kernel_rfl) (by kernel_rfl) (by kernel_rfl) (fun _ _ _ _ h => h) ?_
              refine xpval 14 rfl (pv_pick rfl rfl) rfl rfl (by kernel_rfl) (by kernel_rfl) (by kernel_rfl) (fun _ _ _ _ h => h) ?_
              refine xpdone (by kernel_rfl) ?_
              refine xthen ?_
              by_cases hp951 : ¬ ((y946 == y948) = true)
              · replace h := h.1 hp951
                refine xcondT' (not_t (b_f hp951)) rfl ?_
                refine xseq ?_
                refine xregion ?_
                refine xvalP (pv_assign rfl) rfl rfl ?_
                refine xnil ?_
                refine xthen ?_
                refine xretc ?_
                refine xthen_ret ?_
                refine xin_ret ?_
                refine xthen_ret ?_
                refine xthen_ret ?_
                refine xin_ret ?_
                refine xthen_ret ?_
                replace h := h.symm
                subst h
                exact xret1 hg rfl rfl (.refl _) (SubM.of (.nil _) (.nil _)) ⟨rfl, rfl, rfl⟩
              · replace h := h.2 hp951
                refine xcondF' (not_f (Decidable.of_not_not hp951)) rfl ?_
                refine xskipc ?_
                refine xthen ?_
                refine xseq ?_
                refine xregion ?_
                refine xalloc InfC.h rfl rfl fun b13 => ?_
                refine xalloc InfC.h rfl rfl fun b14 => ?_
                refine xnil ?_
                refine xthen ?_
                refine xseq ?_
                refine xregion ?_
                refine xvalP (pv_assign rfl) rfl rfl ?_
                refine xvalP (pv_assign rfl) rfl rfl ?_
                refine xnil ?_
                refine xthen ?_
                refine xseq ?_
                refine xregion ?_
                refine xval (qv_loadB 3 ShpC.h rfl rfl rfl rfl) rfl rfl ?_
                refine xvalP (pv_move rfl) rfl rfl ?_
                refine xval (qv_loadB 4 ShpC.h rfl rfl rfl rfl) rfl rfl ?_
                obtain ⟨y953, h952, h⟩ := h
                refine xcallF (Fb := [⟨b14, 36, [.v (.slice none 0 0), .v (.bool false)]⟩, ⟨b13, 36, [.v (.slice none 0 0), .v (.bool false)]⟩, ⟨b10, 42, [.v (.int .i64 f661), .v (.int .i64 f662), .v (.int .i64 f663), .v (.int .i64 f664), .sl 1 none (List.map eb f665)]⟩, ⟨b9, 42, [.v (.int .i64 f666), .v (.int .i64 f667), .v (.int .i64 f668), .v (.int .i64 f669), .sl 1 none (List.map eb f670)]⟩, ⟨b6, 25, [.v (.bool x3.1), .v (.bool x3.2.1), .v (.bool x3.2.2.1), .v (.bool x3.2.2.2.1), .sl 1 none (List.map es x3.2.2.2.2)]⟩]) (Ft := []) (feed_Next_con (f666, f667, f668, f669, f670) x906 x3 _ h952) Try.func15 (by kernel_rfl) rfl (.cons rfl (.refl _) (.cons rfl (.refl _) (.cons rfl (.refl _) .nil))) (by exact (SubM.of (by repeat (first | with_reducible exact SubB.refl _ | exact SubB.nil _ | refine SubB.keep rfl rfl (by first | with_reducible exact WkL.refl _ | ((repeat (first | exact WkL.nil | refine WkL.cons (by first | with_reducible exact Wk.refl _ | exact Wk.nil_own _ | exact Wk.nil_pl _ | with_reducible exact Wk.tok _ _ _ | exact Wk.tok _ _ _ | exact Wk.eq (by first | rfl | (simp []; done) | (simp []; omega))) ?_)); done) | exact WkL.refl _) ?_ | refine SubB.drop ?_)) (by repeat (first | exact SubT.nil _ | refine SubT.add ?_ | (refine SubT.keep ?_ ?_; focus (first | with_reducible rfl | (simp []; done))) | refine SubT.drop ?_)))) rfl rfl ?_
                rintro _ _ _ ⟨rfl, rfl, rfl⟩
                simp only [List.nil_append, List.cons_append]
                refine xvalP (pv_move rfl) rfl rfl ?_
                refine xvalP (pv_extract rfl rfl) rfl rfl ?_
                refine xvalP (pv_extract rfl rfl) rfl rfl ?_
                refine xvalP (pv_extract rfl rfl) rfl rfl ?_
                refine xstore 1 ShpC.h rfl rfl rfl rfl rfl rfl rfl ?_
                refine xstore 3 ShpC.h rfl rfl rfl rfl rfl rfl rfl ?_
                refine xvalP (pv_assign rfl) rfl rfl ?_
                refine xnil ?_
                refine xthen ?_
                refine xseq ?_
                refine xregion ?_
                refine xval (qv_loadB 2 ShpC.h rfl rfl rfl rfl) rfl rfl ?_
                refine xvalP (pv_move rfl) rfl rfl ?_
                refine xvalP (qv_fieldAddrB FldC.h rfl) rfl rfl ?_
                refine xval (qv_loadB 4 ShpC.h rfl rfl rfl rfl) rfl rfl ?_
                obtain ⟨y955, h954, h⟩ := h
                refine xcallF (Fb := [⟨b14, 36, [.v (.slice none 0 0), .v (.bool false)]⟩, ⟨b13, 36, [.sl 1 none (List.map eb y953.1.1), .v (.bool y953.1.2)]⟩, ⟨b10, 42, [.v (.int .i64 f661), .v (.int .i64 f662), .v (.int .i64 f663), .v (.int .i64 f664), .sl 1 none (List.map eb f665)]⟩, ⟨b9, 42, [.v (.int .i64 y953.2.1.1), .v (.int .i64 y953.2.1.2.1), .v (.int .i64 y953.2.1.2.2.1), .v (.int .i64 y953.2.1.2.2.2.1), .sl 1 none (List.map eb y953.2.1.2.2.2.2)]⟩, ⟨b6, 25, [.v (.bool x3.1), .v (.bool x3.2.1), .v (.bool x3.2.2.1), .v (.bool x3.2.2.2.1), .sl 1 none (List.map es x3.2.2.2.2)]⟩]) (Ft := []) (palinoderef18_Next_con (f661, f662, f663, f664, f665) x906 x3.2.2.2.2 _ h954) Try.func17 (by kernel_rfl) rfl (.cons rfl (.refl _) (.cons rfl (.refl _) (.cons rfl (.refl _) .nil))) (by exact (SubM.of (by repeat (first | with_reducible exact SubB.refl _ | exact SubB.nil _ | refine SubB.keep rfl rfl (by first | with_reducible exact WkL.refl _ | ((repeat (first | exact WkL.nil | refine WkL.cons (by first | with_reducible exact Wk.refl _ | exact Wk.nil_own _ | exact Wk.nil_pl _ | with_reducible exact Wk.tok _ _ _ | exact Wk.tok _ _ _ | exact Wk.eq (by first | rfl | (simp []; done) | (simp []; omega))) ?_)); done) | exact WkL.refl _) ?_ | refine SubB.drop ?_)) (by repeat (first | exact SubT.nil _ | refine SubT.add ?_ | (refine SubT.keep ?_ ?_; focus (first | with_reducible rfl | (simp []; done))) | refine SubT.drop ?_)))) rfl rfl ?_
                rintro _ _ _ ⟨rfl, rfl, rfl⟩
                simp only [List.nil_append, List.cons_append]
                refine xvalP (pv_move rfl) rfl rfl ?_
                refine xvalP (pv_extract rfl rfl) rfl rfl ?_
                refine xvalP (pv_extract rfl rfl) rfl rfl ?_
                refine xvalP (pv_extract rfl rfl) rfl rfl ?_
                refine xstore 0 ShpC.h rfl rfl rfl rfl rfl rfl rfl ?_
                refine xstore 2 ShpC.h rfl rfl rfl rfl rfl rfl rfl ?_
                refine xvalP (pv_assign rfl) rfl rfl ?_
                refine xnil ?_
                refine xthen ?_
                refine xseq ?_
                refine xseq ?_
                refine xregion ?_
                refine xvalP (pv_move rfl) rfl rfl ?_
                refine xvalP (pv_move rfl) rfl rfl ?_
                refine xvalP (pv_neB UndC.h rfl rfl) rfl rfl ?_
                refine xvalP (pv_move rfl) rfl rfl ?_
                by_cases hp970 : ¬ ((y953.2.2 == y955.2.2) = true)
                · replace h := h.1 hp970
                  refine xsetB 74 (not_t (b_f hp970)) rfl ?_
                  refine xskip rfl rfl ?_
                  refine xskip rfl rfl ?_
                  refine xskip rfl rfl ?_
                  refine xskip rfl rfl ?_
                  refine xvalP (pv_pick rfl rfl) rfl rfl ?_
                  refine xnil ?_
                  refine xthen ?_
                  refine xcondT rfl ?_
                  refine xseq ?_
                  refine xregion ?_
                  refine xvalP (pv_assign rfl) rfl rfl ?_
                  refine xnil ?_
                  refine xthen ?_
                  refine xretc ?_
                  refine xthen_ret ?_
                  refine xin_ret ?_
                  refine xthen_ret ?_
                  refine xthen_ret ?_
                  refine xin_ret ?_
                  refine xthen_ret ?_
                  replace h := h.symm
                  subst h
                  exact xret1 hg rfl rfl (.refl _) (SubM.of (.nil _) (.nil _)) ⟨rfl, rfl, rfl⟩
                · replace h := h.2 hp970
                  refine xsetB 74 (not_f (Decidable.of_not_not hp970)) rfl ?_
                  refine xval (qv_loadB 1 ShpC.h rfl rfl rfl rfl) rfl rfl ?_
                  refine xval (qv_loadB 0 ShpC.h rfl rfl rfl rfl) rfl rfl ?_
                  obtain ⟨y972, h971, h⟩ := h
                  refine xcall0 (palinodelaw18_same_con y953.1 y955.1 _ h971) Try.func13 (by kernel_rfl) rfl (.cons rfl (.refl _) (.cons rfl (.refl _) .nil)) rfl rfl ?_
                  refine xvalP (pv_not rfl) rfl rfl ?_
                  refine xvalP (pv_pick rfl rfl) rfl rfl ?_
                  refine xnil ?_
                  refine xthen ?_
                  by_cases hp973 : ¬ (y972 = true)
                  · replace h := h.1 hp973
                    refine xcondT' (not_t (b_f hp973)) rfl ?_
                    refine xseq ?_
                    refine xregion ?_
                    refine xvalP (pv_assign rfl) rfl rfl ?_
                    refine xnil ?_
                    refine xthen ?_
                    refine xretc ?_
                    refine xthen_ret ?_
                    refine xin_ret ?_
                    refine xthen_ret ?_
                    refine xthen_ret ?_
                    refine xin_ret ?_
                    refine xthen_ret ?_
                    replace h := h.symm
                    subst h
                    exact xret1 hg rfl rfl (.refl _) (SubM.of (.nil _) (.nil _)) ⟨rfl, rfl, rfl⟩
                  · replace h := h.2 hp973
                    refine xcondF' (not_f (Decidable.of_not_not hp973)) rfl ?_
                    refine xskipc ?_
                    refine xthen ?_
                    refine xseq ?_
                    refine xregion ?_
                    refine xvalP (pv_move rfl) rfl rfl ?_
                    refine xvalP (pv_not rfl) rfl rfl ?_
                    refine xnil ?_
                    refine xthen ?_
                    by_cases hp974 : ¬ (y953.2.2 = true)
                    · replace h := h.1 hp974
                      refine xcondT' (not_t (b_f hp974)) rfl ?_
                      refine xexit ?_
                      refine xin_other rfl ?_
                      refine xthen_exit ?_
                      refine xthen_exit ?_
                      refine xin_same rfl ?_
                      refine xthen ?_
                      refine xseq ?_
                      refine xregion ?_
                      obtain ⟨y976, h975, h⟩ := h
                      refine xcall0 (palinodelaw18_awake_con _ h975) Try.func9 (by kernel_rfl) rfl .nil rfl rfl ?_
                      refine xvalP (pv_assign rfl) rfl rfl ?_
                      refine xnil ?_
                      refine xthen ?_
                      refine xretc ?_
                      replace h := h.symm
                      subst h
                      exact xret1 hg rfl rfl (.refl _) (SubM.of (.nil _) (.nil _)) ⟨rfl, rfl, rfl⟩
                    · replace h := h.2 hp974
                      refine xcondF' (not_f (Decidable.of_not_not hp974)) rfl ?_
                      refine xskipc ?_
                      refine xin_normal ?_
                      refine xthen ?_
                      refine xregion ?_
                      refine xvalP (pv_move rfl) rfl rfl ?_
                      obtain ⟨h977, h⟩ := h
                      refine xvalP (pv_addI h977 rfl rfl) rfl rfl ?_
                      refine xvalP (pv_assign rfl) rfl rfl ?_
                      refine xnil ?_
                      obtain ⟨m', hm, hI⟩ := hag2 _ h
                      exact xagain ⟨(x660 + 1), y955.2.1.1, y955.2.1.2.1, y955.2.1.2.2.1, y955.2.1.2.2.2.1, y955.2.1.2.2.2.2, y953.2.1.1, y953.2.1.2.1, y953.2.1.2.2.1, y953.2.1.2.2.2.1, y953.2.1.2.2.2.2, hI, rfl⟩ hm ⟨(.cons rfl (.refl _) (.cons rfl (.refl _) (.cons rfl (.refl _) (.cons rfl (.refl _) (.cons rfl (.refl _) (.cons rfl (.refl _) (.cons rfl (.refl _) (.nil _)))))))), (SubM.of (.drop (.drop (.keep rfl rfl (.refl _) (.keep rfl rfl (.refl _) (.keep rfl rfl (.refl _) (.nil _)))))) (.nil _))⟩
            refine xpcut 4 #[true, true, true, true, true, true, true, true, false, true, true, true, false, false, false] (fun σ => σ = ⟨[(0, .sl 2 none (List.map E_palinode_api_File x1)), (1, .sl 2 none (List.map E_palinode_api_File x2)), (3, .v (.int .u8 ((x4.toNat : Int)))), (6, .v (.pointer (some ⟨b6, 0, none⟩))), (9, .v (.pointer (some ⟨b9, 0, none⟩))), (10, .v (.pointer (some ⟨b10, 0, none⟩))), (11, .v (.int .i64 x660)), (12, .sl 2 none (List.map E_palinode_api_File x906)), (43, .v (.bool false)), (44, .agg [.v (.int .i64 f666), .v (.int .i64 f667), .v (.int .i64 f668), .v (.int .i64 f669), .sl 1 none (List.map eb f670)]), (45, .sl 2 none (List.map E_palinode_api_File x906)), (46, .agg [.v (.bool x3.1), .v (.bool x3.2.1), .v (.bool x3.2.2.1), .v (.bool x3.2.2.2.1), .sl 1 none (List.map es x3.2.2.2.2)]), (48, .agg [.v (.int .i64 f661), .v (.int .i64 f662), .v (.int .i64 f663), .v (.int .i64 f664), .sl 1 none (List.map eb f665)]), (49, .sl 2 none (List.map E_palinode_api_File x906)), (50, .agg [.v (.bool x3.1), .v (.bool x3.2.1), .v (.bool x3.2.2.1), .v (.bool x3.2.2.2.1), .sl 1 none (List.map es x3.2.2.2.2)])], [⟨b10, 42, [.v (.int .i64 f661), .v (.int .i64 f662), .v (.int .i64 f663), .v (.int .i64 f664), .sl 1 none (List.map eb f665)]⟩, ⟨b9, 42, [.v (.int .i64 f666), .v (.int .i64 f667), .v (.int .i64 f668), .v (.int .i64 f669), .sl 1 none (List.map eb f670)]⟩, ⟨b6, 25, [.v (.bool x3.1), .v (.bool x3.2.1), .v (.bool x3.2.2.1), .v (.bool x3.2.2.2.1), .sl 1 none (List.map es x3.2.2.2.2)]⟩], []⟩) ?_ (fun key978 => ?_)
            · rintro _ rfl
              refine xpstep (i := 8) (by kernel_rfl) rfl ?_
              refine wcall0 (feed_Last_con (f666, f667, f668, f669, f670) x906 x3 _ h945) Try.func18 (by kernel_rfl) rfl (.cons rfl (.refl _) (.cons rfl (.refl _) (.cons rfl (.refl _) .nil))) rfl rfl ?_
              exact xpuse key950 rfl ⟨(.cons rfl (.refl _) (.cons rfl (.refl _) (.cons rfl (.refl _) (.cons rfl (.refl _) (.cons rfl (.refl _) (.cons rfl (.refl _) (.cons rfl (.refl _) (.cons rfl (.refl _) (.cons rfl (.refl _) (.cons rfl (.refl _) (.cons rfl (.refl _) (.cons rfl (.refl _) (.cons rfl (.refl _) (.cons rfl (.refl _) (.cons rfl (.refl _) (.cons rfl (.refl _) (.nil _))))))))))))))))), (SubM.of (.keep rfl rfl (.refl _) (.keep rfl rfl (.refl _) (.keep rfl rfl (.refl _) (.nil _)))) (.nil _))⟩ rfl (by kernel_rfl)
            refine xpval 6 rfl (pv_move rfl) rfl rfl (by kernel_rfl) (by kernel_rfl) (by kernel_rfl) (fun _ _ _ _ h => h) ?_
            refine xpval 10 rfl (pv_move rfl) rfl rfl (by kernel_rfl) (by kernel_rfl) (by kernel_rfl) (fun _ _ _ _ h => h) ?_
            refine xpvalE 5 [7, 9, 11] rfl (qv_loadB 1 ShpC.h rfl rfl rfl rfl) rfl rfl (by kernel_rfl) (by kernel_rfl) (by kernel_rfl) (fun _ _ _ _ h => h) ?_
            refine xpvalE 7 [9, 11] rfl (qv_loadB 2 ShpC.h rfl rfl rfl rfl) rfl rfl (by kernel_rfl) (by kernel_rfl) (by kernel_rfl) (fun _ _ _ _ h => h) ?_
            refine xpstepN (is := [8, 9, 11]) (by kernel_rfl) (by simp) ?_
            intro i hi; simp only [List.mem_cons, List.not_mem_nil, or_false] at hi; rcases hi with rfl | rfl | rfl
            · refine ⟨_, rfl, ?_⟩
              refine wcall0 (feed_Last_con (f666, f667, f668, f669, f670) x906 x3 _ h945) Try.func18 (by kernel_rfl) rfl (.cons rfl (.refl _) (.cons rfl (.refl _) (.cons rfl (.refl _) .nil))) rfl rfl ?_
              refine xpvalE 9 [11] rfl (qv_loadB 0 ShpC.h rfl rfl rfl rfl) rfl rfl (by kernel_rfl) (by kernel_rfl) (by kernel_rfl) (fun _ _ _ _ h => h) ?_
              refine xpvalE 11 [] rfl (qv_loadB 2 ShpC.h rfl rfl rfl rfl) rfl rfl (by kernel_rfl) (by kernel_rfl) (by kernel_rfl) (fun _ _ _ _ h => h) ?_
              exact xpuse key950 rfl ⟨(.cons rfl (.refl _) (.cons rfl (.refl _) (.cons rfl (.refl _) (.cons rfl (.refl _) (.cons rfl (.refl _) (.cons rfl (.refl _) (.cons rfl (.refl _) (.cons rfl (.refl _) (.cons rfl (.refl _) (.cons rfl (.refl _) (.cons rfl (.refl _) (.cons rfl (.refl _) (.cons rfl (.refl _) (.cons rfl (.refl _) (.cons rfl (.refl _) (.cons rfl (.refl _) (.nil _))))))))))))))))), (SubM.of (.keep rfl rfl (.refl _) (.keep rfl rfl (.refl _) (.keep rfl rfl (.refl _) (.nil _)))) (.nil _))⟩ rfl (by kernel_rfl)
            · refine ⟨_, rfl, ?_⟩
              refine wval (qv_loadB 0 ShpC.h rfl rfl rfl rfl) rfl rfl ?_
              refine xpstepN (is := [8, 11]) (by kernel_rfl) (by simp) ?_
              intro i hi; simp only [List.mem_cons, List.not_mem_nil, or_false] at hi; rcases hi with rfl | rfl
              · refine ⟨_, rfl, ?_⟩
                refine wcall0 (feed_Last_con (f666, f667, f668, f669, f670) x906 x3 _ h945) Try.func18 (by kernel_rfl) rfl (.cons rfl (.refl _) (.cons rfl (.refl _) (.cons rfl (.refl _) .nil))) rfl rfl ?_
                refine xpvalE 11 [] rfl (qv_loadB 2 ShpC.h rfl rfl rfl rfl) rfl rfl (by kernel_rfl) (by kernel_rfl) (by kernel_rfl) (fun _ _ _ _ h => h) ?_
                exact xpuse key950 rfl ⟨(.cons rfl (.refl _) (.cons rfl (.refl _) (.cons rfl (.refl _) (.cons rfl (.refl _) (.cons rfl (.refl _) (.cons rfl (.refl _) (.cons rfl (.refl _) (.cons rfl (.refl _) (.cons rfl (.refl _) (.cons rfl (.refl _) (.cons rfl (.refl _) (.cons rfl (.refl _) (.cons rfl (.refl _) (.cons rfl (.refl _) (.cons rfl (.refl _) (.cons rfl (.refl _) (.nil _))))))))))))))))), (SubM.of (.keep rfl rfl (.refl _) (.keep rfl rfl (.refl _) (.keep rfl rfl (.refl _) (.nil _)))) (.nil _))⟩ rfl (by kernel_rfl)
              · refine ⟨_, rfl, ?_⟩
                refine wval (qv_loadB 2 ShpC.h rfl rfl rfl rfl) rfl rfl ?_
                exact xpuse key978 rfl ⟨(.cons rfl (.refl _) (.cons rfl (.refl _) (.cons rfl (.refl _) (.cons rfl (.refl _) (.cons rfl (.refl _) (.cons rfl (.refl _) (.cons rfl (.refl _) (.cons rfl (.refl _) (.cons rfl (.refl _) (.cons rfl (.refl _) (.cons rfl (.refl _) (.cons rfl (.refl _) (.cons rfl (.refl _) (.cons rfl (.refl _) (.cons rfl (.refl _) (.nil _)))))))))))))))), (SubM.of (.keep rfl rfl (.refl _) (.keep rfl rfl (.refl _) (.keep rfl rfl (.refl _) (.nil _)))) (.nil _))⟩ rfl (by kernel_rfl)
            · refine ⟨_, rfl, ?_⟩
              refine wval (qv_loadB 2 ShpC.h rfl rfl rfl rfl) rfl rfl ?_
              refine xpstepN (is := [8, 9]) (by kernel_rfl) (by simp) ?_
              intro i hi; simp only [List.mem_cons, List.not_mem_nil, or_false] at hi; rcases hi with rfl | rfl
              · refine ⟨_, rfl, ?_⟩
                refine wcall0 (feed_Last_con (f666, f667, f668, f669, f670) x906 x3 _ h945) Try.func18 (by kernel_rfl) rfl (.cons rfl (.refl _) (.cons rfl (.refl _) (.cons rfl (.refl _) .nil))) rfl rfl ?_
                refine xpvalE 9 [] rfl (qv_loadB 0 ShpC.h rfl rfl rfl rfl) rfl rfl (by kernel_rfl) (by kernel_rfl) (by kernel_rfl) (fun _ _ _ _ h => h) ?_
                exact xpuse key950 rfl ⟨(.cons rfl (.refl _) (.cons rfl (.refl _) (.cons rfl (.refl _) (.cons rfl (.refl _) (.cons rfl (.refl _) (.cons rfl (.refl _) (.cons rfl (.refl _) (.cons rfl (.refl _) (.cons rfl (.refl _) (.cons rfl (.refl _) (.cons rfl (.refl _) (.cons rfl (.refl _) (.cons rfl (.refl _) (.cons rfl (.refl _) (.cons rfl (.refl _) (.cons rfl (.refl _) (.nil _))))))))))))))))), (SubM.of (.keep rfl rfl (.refl _) (.keep rfl rfl (.refl _) (.keep rfl rfl (.refl _) (.nil _)))) (.nil _))⟩ rfl (by kernel_rfl)
              · refine ⟨_, rfl, ?_⟩
                refine wval (qv_loadB 0 ShpC.h rfl rfl rfl rfl) rfl rfl ?_
                exact xpuse key978 rfl ⟨(.cons rfl (.refl _) (.cons rfl (.refl _) (.cons rfl (.refl _) (.cons rfl (.refl _) (.cons rfl (.refl _) (.cons rfl (.refl _) (.cons rfl (.refl _) (.cons rfl (.refl _) (.cons rfl (.refl _) (.cons rfl (.refl _) (.cons rfl (.refl _) (.cons rfl (.refl _) (.cons rfl (.refl _) (.cons rfl (.refl _) (.cons rfl (.refl _) (.nil _)))))))))))))))), (SubM.of (.keep rfl rfl (.refl _) (.keep rfl rfl (.refl _) (.keep rfl rfl (.refl _) (.nil _)))) (.nil _))⟩ rfl (by kernel_rfl)
      · replace h := h.2 hp827
        refine xcondF' (decide_eq_false hp827) rfl ?_
        refine xexit ?_
        refine xthen_exit ?_
        refine xthen_exit ?_
        refine xin_same rfl ?_
        refine xthen ?_
        refine xseq ?_
        refine xregion ?_
        obtain ⟨y980, h979, h⟩ := h
        refine xcall0 (palinodelaw18_awake_con _ h979) Try.func9 (by kernel_rfl) rfl .nil rfl rfl ?_
        refine xvalP (pv_assign rfl) rfl rfl ?_
        refine xnil ?_
        refine xthen ?_
        refine xretc ?_
        replace h := h.symm
        subst h
        exact xret1 hg rfl rfl (.refl _) (SubM.of (.nil _) (.nil _)) ⟨rfl, rfl, rfl⟩
end Go.Proofs.Ytihbljabeckgmaa
