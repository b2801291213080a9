/- What functions' texts ask for, and the walks that show it (printed by a program). -/
import Derived.Test.YtihbljabeckgmaaGK
namespace Go.Proofs.Ytihbljabeckgmaa
/-- palinodelaw18.FeedLast -/
def palinodelaw18_FeedLast_j2 (x909 : Int) (ag1 : (Int × Int × Int × Int × Int × (List UInt8)) → Prop) (f1247 : Int) (f1248 : Int) (f1249 : Int) (f1250 : Int) (f1251 : List UInt8) (r : Bool) : Prop :=
  InR (x909 + 1) ∧ ag1 ((x909 + 1), f1247, f1248, f1249, f1250, f1251)
def palinodelaw18_FeedLast_j5 (x909 : Int) (ag1 : (Int × Int × Int × Int × Int × (List UInt8)) → Prop) (y1253 : ((List UInt8) × Bool) × (Int × Int × Int × Int × (List UInt8)) × Bool) (x1345 : Bool) (r : Bool) : Prop :=
  ((x1345 = true → r = false) ∧ (¬ (x1345 = true) → palinodelaw18_FeedLast_j2 x909 ag1 y1253.2.1.1 y1253.2.1.2.1 y1253.2.1.2.2.1 y1253.2.1.2.2.2.1 y1253.2.1.2.2.2.2 r))
def palinodelaw18_FeedLast_j4 (x909 : Int) (ag1 : (Int × Int × Int × Int × Int × (List UInt8)) → Prop) (y1253 : ((List UInt8) × Bool) × (Int × Int × Int × Int × (List UInt8)) × Bool) (y1299 : ((List UInt8) × Bool) × (Int × Int × Int × Int × (List UInt8)) × Bool) (y1301 : Bool) (x1331 : Bool) (r : Bool) : Prop :=
  ((x1331 = true → palinodelaw18_FeedLast_j5 x909 ag1 y1253 (bif (!y1299.2.2) then ((!(y1301 == true)) || ((!y1301) && (!(decide (y1299.2.1.2.2.1 = y1253.2.1.2.2.1))))) else ((!(y1301 == (decide ((y1253.2.1.2.2.2.2.length : Int) = 0)))) || ((!y1301) && (!(decide (y1299.2.1.2.2.1 = y1253.2.1.2.2.1)))))) r) ∧ (¬ (x1331 = true) → palinodelaw18_FeedLast_j2 x909 ag1 y1253.2.1.1 y1253.2.1.2.1 y1253.2.1.2.2.1 y1253.2.1.2.2.2.1 y1253.2.1.2.2.2.2 r))
def palinodelaw18_FeedLast_j3 (y1253 : ((List UInt8) × Bool) × (Int × Int × Int × Int × (List UInt8)) × Bool) (x1 : List (ByteArray × (List UInt8))) (x2 : Bool × Bool × Bool × Bool × (List ByteArray)) (x909 : Int) (ag1 : (Int × Int × Int × Int × Int × (List UInt8)) → Prop) (r : Bool) : Prop :=
  ((¬ (y1253.2.2 = true) → (((y1253.1.1.length : Int) = 0 → ∃ y1297 : Bool, palinodelaw18_awake_R y1297 ∧ r = y1297) ∧ (¬ ((y1253.1.1.length : Int) = 0) → r = false))) ∧ (¬ (¬ (y1253.2.2 = true)) → ∃ y1299 : ((List UInt8) × Bool) × (Int × Int × Int × Int × (List UInt8)) × Bool, feed_Next_R y1253.2.1 x1 x2 y1299 ∧ ∃ y1301 : Bool, feed_Last_R y1253.2.1 x1 x2 y1301 ∧ palinodelaw18_FeedLast_j4 x909 ag1 y1253 y1299 y1301 (x2.2.1 || x2.2.2.1) r))
def palinodelaw18_FeedLast_l1 (x1 : List (ByteArray × (List UInt8))) (x2 : Bool × Bool × Bool × Bool × (List ByteArray)) (ag1 : (Int × Int × Int × Int × Int × (List UInt8)) → Prop) (x909 : Int) (f910 : Int) (f911 : Int) (f912 : Int) (f913 : Int) (f914 : List UInt8) (r : Bool) : Prop :=
  ((x909 < 100 → ∃ y1253 : ((List UInt8) × Bool) × (Int × Int × Int × Int × (List UInt8)) × Bool, feed_Next_R (f910, f911, f912, f913, f914) x1 x2 y1253 ∧ ((¬ (x2.2.1 = true) → ((¬ (x2.2.2.1 = true) → ∃ y1273 : Bool, feed_Last_R (f910, f911, f912, f913, f914) x1 x2 y1273 ∧ (((y1273 == y1253.2.2) = true → r = false) ∧ (¬ ((y1273 == y1253.2.2) = true) → palinodelaw18_FeedLast_j3 y1253 x1 x2 x909 ag1 r))) ∧ (¬ (¬ (x2.2.2.1 = true)) → palinodelaw18_FeedLast_j3 y1253 x1 x2 x909 ag1 r))) ∧ (¬ (¬ (x2.2.1 = true)) → palinodelaw18_FeedLast_j3 y1253 x1 x2 x909 ag1 r))) ∧ (¬ (x909 < 100) → ∃ y1360 : Bool, palinodelaw18_awake_R y1360 ∧ r = y1360))
def palinodelaw18_FeedLast_R (x1 : List (ByteArray × (List UInt8))) (x2 : Bool × Bool × Bool × Bool × (List ByteArray)) (r : Bool) : Prop :=
  ∃ y9 : Bool, palinoderef18_Great_R x1 x2 y9 ∧ ((y9 = true → ∃ y12 : Bool, palinodelaw18_awake_R y12 ∧ r = y12) ∧ (¬ (y9 = true) → ∃ y14 : (Int × Int × Int × Int × (List UInt8)), feed_First_R y14 ∧ LoopR (fun ag1 s => palinodelaw18_FeedLast_l1 x1 x2 ag1 s.1 s.2.1 s.2.2.1 s.2.2.2.1 s.2.2.2.2.1 s.2.2.2.2.2 r) (0, y14.1, y14.2.1, y14.2.2.1, y14.2.2.2.1, y14.2.2.2.2)))
def palinodelaw18_FeedLast_j2_ev (fuel : Nat) (x909 : Int) (ag1e : (Int × Int × Int × Int × Int × (List UInt8)) → Option (Bool)) (f1247 : Int) (f1248 : Int) (f1249 : Int) (f1250 : Int) (f1251 : List UInt8) : Option (Bool) :=
  (if InR (x909 + 1) then ag1e ((x909 + 1), f1247, f1248, f1249, f1250, f1251) else none)
theorem palinodelaw18_FeedLast_j2_ok {fuel : Nat} {x909 : Int} {ag1 : (Int × Int × Int × Int × Int × (List UInt8)) → Prop} {ag1e : (Int × Int × Int × Int × Int × (List UInt8)) → Option (Bool)} {f1247 : Int} {f1248 : Int} {f1249 : Int} {f1250 : Int} {f1251 : List UInt8} {r : Bool} (hagag1 : ∀ s, ag1e s = some r → ag1 s) (h : palinodelaw18_FeedLast_j2_ev fuel x909 ag1e f1247 f1248 f1249 f1250 f1251 = some r) : palinodelaw18_FeedLast_j2 x909 ag1 f1247 f1248 f1249 f1250 f1251 r := by
  unfold palinodelaw18_FeedLast_j2_ev at h
  unfold palinodelaw18_FeedLast_j2
  obtain ⟨g222, h⟩ := if_ok h
  refine ⟨g222, ?_⟩
  exact hagag1 _ h
def palinodelaw18_FeedLast_j5_ev (fuel : Nat) (x909 : Int) (ag1e : (Int × Int × Int × Int × Int × (List UInt8)) → Option (Bool)) (y1253 : ((List UInt8) × Bool) × (Int × Int × Int × Int × (List UInt8)) × Bool) (x1345 : Bool) : Option (Bool) :=
  (if x1345 = true then some false else palinodelaw18_FeedLast_j2_ev fuel x909 ag1e y1253.2.1.1 y1253.2.1.2.1 y1253.2.1.2.2.1 y1253.2.1.2.2.2.1 y1253.2.1.2.2.2.2)
theorem palinodelaw18_FeedLast_j5_ok {fuel : Nat} {x909 : Int} {ag1 : (Int × Int × Int × Int × Int × (List UInt8)) → Prop} {ag1e : (Int × Int × Int × Int × Int × (List UInt8)) → Option (Bool)} {y1253 : ((List UInt8) × Bool) × (Int × Int × Int × Int × (List UInt8)) × Bool} {x1345 : Bool} {r : Bool} (hagag1 : ∀ s, ag1e s = some r → ag1 s) (h : palinodelaw18_FeedLast_j5_ev fuel x909 ag1e y1253 x1345 = some r) : palinodelaw18_FeedLast_j5 x909 ag1 y1253 x1345 r := by
  unfold palinodelaw18_FeedLast_j5_ev at h
  unfold palinodelaw18_FeedLast_j5
  refine ⟨fun g223 => ?_, fun g223 => ?_⟩
  · rw [if_pos g223] at h
    exact (Option.some.inj h).symm
  · rw [if_neg g223] at h
    exact palinodelaw18_FeedLast_j2_ok hagag1 h
def palinodelaw18_FeedLast_j4_ev (fuel : Nat) (x909 : Int) (ag1e : (Int × Int × Int × Int × Int × (List UInt8)) → Option (Bool)) (y1253 : ((List UInt8) × Bool) × (Int × Int × Int × Int × (List UInt8)) × Bool) (y1299 : ((List UInt8) × Bool) × (Int × Int × Int × Int × (List UInt8)) × Bool) (y1301 : Bool) (x1331 : Bool) : Option (Bool) :=
  (if x1331 = true then palinodelaw18_FeedLast_j5_ev fuel x909 ag1e y1253 (bif (!y1299.2.2) then ((!(y1301 == true)) || ((!y1301) && (!(decide (y1299.2.1.2.2.1 = y1253.2.1.2.2.1))))) else ((!(y1301 == (decide ((y1253.2.1.2.2.2.2.length : Int) = 0)))) || ((!y1301) && (!(decide (y1299.2.1.2.2.1 = y1253.2.1.2.2.1)))))) else palinodelaw18_FeedLast_j2_ev fuel x909 ag1e y1253.2.1.1 y1253.2.1.2.1 y1253.2.1.2.2.1 y1253.2.1.2.2.2.1 y1253.2.1.2.2.2.2)
theorem palinodelaw18_FeedLast_j4_ok {fuel : Nat} {x909 : Int} {ag1 : (Int × Int × Int × Int × Int × (List UInt8)) → Prop} {ag1e : (Int × Int × Int × Int × Int × (List UInt8)) → Option (Bool)} {y1253 : ((List UInt8) × Bool) × (Int × Int × Int × Int × (List UInt8)) × Bool} {y1299 : ((List UInt8) × Bool) × (Int × Int × Int × Int × (List UInt8)) × Bool} {y1301 : Bool} {x1331 : Bool} {r : Bool} (hagag1 : ∀ s, ag1e s = some r → ag1 s) (h : palinodelaw18_FeedLast_j4_ev fuel x909 ag1e y1253 y1299 y1301 x1331 = some r) : palinodelaw18_FeedLast_j4 x909 ag1 y1253 y1299 y1301 x1331 r := by
  unfold palinodelaw18_FeedLast_j4_ev at h
  unfold palinodelaw18_FeedLast_j4
  refine ⟨fun g224 => ?_, fun g224 => ?_⟩
  · rw [if_pos g224] at h
    exact palinodelaw18_FeedLast_j5_ok hagag1 h
  · rw [if_neg g224] at h
    exact palinodelaw18_FeedLast_j2_ok hagag1 h
def palinodelaw18_FeedLast_j3_ev (fuel : Nat) (y1253 : ((List UInt8) × Bool) × (Int × Int × Int × Int × (List UInt8)) × Bool) (x1 : List (ByteArray × (List UInt8))) (x2 : Bool × Bool × Bool × Bool × (List ByteArray)) (x909 : Int) (ag1e : (Int × Int × Int × Int × Int × (List UInt8)) → Option (Bool)) : Option (Bool) :=
  (if ¬ (y1253.2.2 = true) then (if (y1253.1.1.length : Int) = 0 then ((palinodelaw18_awake_ev fuel).bind fun y1297 => some y1297) else some false) else ((feed_Next_ev fuel y1253.2.1 x1 x2).bind fun y1299 => ((feed_Last_ev fuel y1253.2.1 x1 x2).bind fun y1301 => palinodelaw18_FeedLast_j4_ev fuel x909 ag1e y1253 y1299 y1301 (x2.2.1 || x2.2.2.1))))
theorem palinodelaw18_FeedLast_j3_ok {fuel : Nat} {y1253 : ((List UInt8) × Bool) × (Int × Int × Int × Int × (List UInt8)) × Bool} {x1 : List (ByteArray × (List UInt8))} {x2 : Bool × Bool × Bool × Bool × (List ByteArray)} {x909 : Int} {ag1 : (Int × Int × Int × Int × Int × (List UInt8)) → Prop} {ag1e : (Int × Int × Int × Int × Int × (List UInt8)) → Option (Bool)} {r : Bool} (hagag1 : ∀ s, ag1e s = some r → ag1 s) (h : palinodelaw18_FeedLast_j3_ev fuel y1253 x1 x2 x909 ag1e = some r) : palinodelaw18_FeedLast_j3 y1253 x1 x2 x909 ag1 r := by
  unfold palinodelaw18_FeedLast_j3_ev at h
  unfold palinodelaw18_FeedLast_j3
  refine ⟨fun g225 => ?_, fun g225 => ?_⟩
  · rw [if_pos g225] at h
    refine ⟨fun g226 => ?_, fun g226 => ?_⟩
    · rw [if_pos g226] at h
      obtain ⟨q227, g227, h⟩ := bind_ok h
      refine ⟨q227, palinodelaw18_awake_ok g227, ?_⟩
      exact (Option.some.inj h).symm
    · rw [if_neg g226] at h
      exact (Option.some.inj h).symm
  · rw [if_neg g225] at h
    obtain ⟨q228, g228, h⟩ := bind_ok h
    refine ⟨q228, feed_Next_ok g228, ?_⟩
    obtain ⟨q229, g229, h⟩ := bind_ok h
    refine ⟨q229, feed_Last_ok g229, ?_⟩
    exact palinodelaw18_FeedLast_j4_ok hagag1 h
def palinodelaw18_FeedLast_l1_ev (fuel : Nat) (x1 : List (ByteArray × (List UInt8))) (x2 : Bool × Bool × Bool × Bool × (List ByteArray)) (ag1e : (Int × Int × Int × Int × Int × (List UInt8)) → Option (Bool)) (x909 : Int) (f910 : Int) (f911 : Int) (f912 : Int) (f913 : Int) (f914 : List UInt8) : Option (Bool) :=
  (if x909 < 100 then ((feed_Next_ev fuel (f910, f911, f912, f913, f914) x1 x2).bind fun y1253 => (if ¬ (x2.2.1 = true) then (if ¬ (x2.2.2.1 = true) then ((feed_Last_ev fuel (f910, f911, f912, f913, f914) x1 x2).bind fun y1273 => (if (y1273 == y1253.2.2) = true then some false else palinodelaw18_FeedLast_j3_ev fuel y1253 x1 x2 x909 ag1e)) else palinodelaw18_FeedLast_j3_ev fuel y1253 x1 x2 x909 ag1e) else palinodelaw18_FeedLast_j3_ev fuel y1253 x1 x2 x909 ag1e)) else ((palinodelaw18_awake_ev fuel).bind fun y1360 => some y1360))
theorem palinodelaw18_FeedLast_l1_ok {fuel : Nat} {x1 : List (ByteArray × (List UInt8))} {x2 : Bool × Bool × Bool × Bool × (List ByteArray)} {ag1e : (Int × Int × Int × Int × Int × (List UInt8)) → Option (Bool)} {ag1 : (Int × Int × Int × Int × Int × (List UInt8)) → Prop} {x909 : Int} {f910 : Int} {f911 : Int} {f912 : Int} {f913 : Int} {f914 : List UInt8} {r : Bool} (hagag1 : ∀ s, ag1e s = some r → ag1 s) (h : palinodelaw18_FeedLast_l1_ev fuel x1 x2 ag1e x909 f910 f911 f912 f913 f914 = some r) : palinodelaw18_FeedLast_l1 x1 x2 ag1 x909 f910 f911 f912 f913 f914 r := by
  unfold palinodelaw18_FeedLast_l1_ev at h
  unfold palinodelaw18_FeedLast_l1
  refine ⟨fun g230 => ?_, fun g230 => ?_⟩
  · rw [if_pos g230] at h
    obtain ⟨q231, g231, h⟩ := bind_ok h
    refine ⟨q231, feed_Next_ok g231, ?_⟩
    refine ⟨fun g232 => ?_, fun g232 => ?_⟩
    · rw [if_pos g232] at h
      refine ⟨fun g233 => ?_, fun g233 => ?_⟩
      · rw [if_pos g233] at h
        obtain ⟨q234, g234, h⟩ := bind_ok h
        refine ⟨q234, feed_Last_ok g234, ?_⟩
        refine ⟨fun g235 => ?_, fun g235 => ?_⟩
        · rw [if_pos g235] at h
          exact (Option.some.inj h).symm
        · rw [if_neg g235] at h
          exact palinodelaw18_FeedLast_j3_ok hagag1 h
      · rw [if_neg g233] at h
        exact palinodelaw18_FeedLast_j3_ok hagag1 h
    · rw [if_neg g232] at h
      exact palinodelaw18_FeedLast_j3_ok hagag1 h
  · rw [if_neg g230] at h
    obtain ⟨q236, g236, h⟩ := bind_ok h
    refine ⟨q236, palinodelaw18_awake_ok g236, ?_⟩
    exact (Option.some.inj h).symm
def palinodelaw18_FeedLast_ev (fuel : Nat) (x1 : List (ByteArray × (List UInt8))) (x2 : Bool × Bool × Bool × Bool × (List ByteArray)) : Option (Bool) :=
  ((palinoderef18_Great_ev fuel x1 x2).bind fun y9 => (if y9 = true then ((palinodelaw18_awake_ev fuel).bind fun y12 => some y12) else ((feed_First_ev fuel).bind fun y14 => (loopE (fun ag1e s => palinodelaw18_FeedLast_l1_ev fuel x1 x2 ag1e s.1 s.2.1 s.2.2.1 s.2.2.2.1 s.2.2.2.2.1 s.2.2.2.2.2) fuel (0, y14.1, y14.2.1, y14.2.2.1, y14.2.2.2.1, y14.2.2.2.2)))))
theorem palinodelaw18_FeedLast_ok {fuel : Nat} {x1 : List (ByteArray × (List UInt8))} {x2 : Bool × Bool × Bool × Bool × (List ByteArray)} {r : Bool} (h : palinodelaw18_FeedLast_ev fuel x1 x2 = some r) : palinodelaw18_FeedLast_R x1 x2 r := by
  unfold palinodelaw18_FeedLast_ev at h
  unfold palinodelaw18_FeedLast_R
  obtain ⟨q237, g237, h⟩ := bind_ok h
  refine ⟨q237, palinoderef18_Great_ok g237, ?_⟩
  refine ⟨fun g238 => ?_, fun g238 => ?_⟩
  · rw [if_pos g238] at h
    obtain ⟨q239, g239, h⟩ := bind_ok h
    refine ⟨q239, palinodelaw18_awake_ok g239, ?_⟩
    exact (Option.some.inj h).symm
  · rw [if_neg g238] at h
    obtain ⟨q240, g240, h⟩ := bind_ok h
    refine ⟨q240, feed_First_ok g240, ?_⟩
    refine loopE_ok ?_ h
    intro ae ag s hag h
    exact palinodelaw18_FeedLast_l1_ok hag h
set_option maxHeartbeats 4000000 in
theorem palinodelaw18_FeedLast_con (x1 : List (ByteArray × (List UInt8))) (x2 : Bool × Bool × Bool × Bool × (List ByteArray)) (r : Bool) (h : palinodelaw18_FeedLast_R x1 x2 r) : Con Try.prog 7 [.sl 2 none (List.map E_palinode_api_File x1), .agg [.v (.bool x2.1), .v (.bool x2.2.1), .v (.bool x2.2.2.1), .v (.bool x2.2.2.2.1), .sl 1 none (List.map es x2.2.2.2.2)]] [] [] (Ret (.v (.bool r))) := by
  refine xenter Try.func7 rfl rfl fun g hg => ?_
  simp only [Try.ntmps7, slots]
  refine xseq ?_
  refine xregion ?_
  refine xbox rfl rfl rfl rfl fun b3 => ?_
  refine xvalP (pv_assign rfl) rfl rfl ?_
  refine xnil ?_
  refine xthen ?_
  refine xseq ?_
  refine xseq ?_
  refine xregion ?_
  refine xvalP (pv_move rfl) rfl rfl ?_
  refine xval (qv_loadB 0 ShpC.h rfl rfl rfl rfl) rfl rfl ?_
  obtain ⟨y9, h8, h⟩ := h
  refine xcall0 (palinoderef18_Great_con x1 x2 _ h8) Try.func8 (by kernel_rfl) rfl (.cons rfl (.refl _) (.cons rfl (.refl _) .nil)) rfl rfl ?_
  refine xnil ?_
  refine xthen ?_
  by_cases hp10 : y9 = true
  · replace h := h.1 hp10
    refine xcondT' hp10 rfl ?_
    refine xseq ?_
    refine xregion ?_
    obtain ⟨y12, h11, h⟩ := h
    refine xcall0 (palinodelaw18_awake_con _ h11) Try.func9 (by kernel_rfl) rfl .nil rfl rfl ?_
    refine xvalP (pv_assign rfl) rfl rfl ?_
    refine xnil ?_
    refine xthen ?_
    refine xretc ?_
    refine xthen_ret ?_
    replace h := h.symm
    subst h
    exact xret1 hg rfl rfl (.refl _) (SubM.of (.nil _) (.nil _)) ⟨rfl, rfl, rfl⟩
  · replace h := h.2 hp10
    refine xcondF' (b_f hp10) rfl ?_
    refine xskipc ?_
    refine xthen ?_
    refine xseq ?_
    refine xregion ?_
    obtain ⟨y14, h13, h⟩ := h
    refine xcall0 (feed_First_con _ h13) Try.func14 (by kernel_rfl) rfl .nil rfl rfl ?_
    refine xalloc InfC.h rfl rfl fun b5 => ?_
    refine xstore 0 ShpC.h rfl rfl rfl rfl rfl rfl rfl ?_
    refine xnil ?_
    refine xthen ?_
    refine xseq ?_
    refine xseq ?_
    refine xregion ?_
    refine xvalP (pv_assign rfl) rfl rfl ?_
    refine xnil ?_
    refine xthen ?_
    refine xblock ?_
    obtain ⟨Inv, ⟨m0, hI⟩, hS⟩ := h
    refine xloop (fun σ m => ∃ (x909 : Int), ∃ (f910 : Int), ∃ (f911 : Int), ∃ (f912 : Int), ∃ (f913 : Int), ∃ (f914 : List UInt8), Inv (x909, f910, f911, f912, f913, f914) m ∧ σ = ⟨[(0, .sl 2 none (List.map E_palinode_api_File x1)), (3, .v (.pointer (some ⟨b3, 0, none⟩))), (5, .v (.pointer (some ⟨b5, 0, none⟩))), (6, .v (.int .i64 x909))], [⟨b5, 42, [.v (.int .i64 f910), .v (.int .i64 f911), .v (.int .i64 f912), .v (.int .i64 f913), .sl 1 none (List.map eb f914)]⟩, ⟨b3, 25, [.v (.bool x2.1), .v (.bool x2.2.1), .v (.bool x2.2.2.1), .v (.bool x2.2.2.2.1), .sl 1 none (List.map es x2.2.2.2.2)]⟩], []⟩) ⟨0, y14.1, y14.2.1, y14.2.2.1, y14.2.2.2.1, y14.2.2.2.2, hI, rfl⟩ ⟨(.cons rfl (.refl _) (.cons rfl (.refl _) (.cons rfl (.refl _) (.cons rfl (.refl _) (.nil _))))), (SubM.of (.keep rfl rfl (.refl _) (.keep rfl rfl (.refl _) (.nil _))) (.nil _))⟩ ?_
    rintro _ m ⟨x909, f910, f911, f912, f913, f914, hI, rfl⟩
    obtain ⟨ag1, hag1, h⟩ : ∃ ag, (∀ s', ag s' → ∃ m', m' < m ∧ Inv s' m') ∧ palinodelaw18_FeedLast_l1 x1 x2 ag x909 f910 f911 f912 f913 f914 r := ⟨_, fun _ h => h, hS (x909, f910, f911, f912, f913, f914) _ hI⟩
    clear hS hI
    refine xseq ?_
    refine xseq ?_
    refine xregion ?_
    refine xvalP (pv_move rfl) rfl rfl ?_
    refine xvalP (pv_bin2 rfl rfl rfl) rfl rfl ?_
    refine xnil ?_
    refine xthen ?_
    by_cases hp1140 : x909 < 100
    · replace h := h.1 hp1140
      refine xcondT' (decide_eq_true hp1140) rfl ?_
      refine xskipc ?_
      refine xthen ?_
      refine xseqM (fun σ => ∃ (f1247 : Int), ∃ (f1248 : Int), ∃ (f1249 : Int), ∃ (f1250 : Int), ∃ (f1251 : List UInt8), palinodelaw18_FeedLast_j2 x909 ag1 f1247 f1248 f1249 f1250 f1251 r ∧ σ = ⟨[(0, .sl 2 none (List.map E_palinode_api_File x1)), (3, .v (.pointer (some ⟨b3, 0, none⟩))), (5, .v (.pointer (some ⟨b5, 0, none⟩))), (6, .v (.int .i64 x909))], [⟨b5, 42, [.v (.int .i64 f1247), .v (.int .i64 f1248), .v (.int .i64 f1249), .v (.int .i64 f1250), .sl 1 none (List.map eb f1251)]⟩, ⟨b3, 25, [.v (.bool x2.1), .v (.bool x2.2.1), .v (.bool x2.2.2.1), .v (.bool x2.2.2.2.1), .sl 1 none (List.map es x2.2.2.2.2)]⟩], []⟩) ?_ ?_
      · refine xblock ?_
        refine xseq ?_
        refine xregion ?_
        refine xval (qv_loadB 0 ShpC.h rfl rfl rfl rfl) rfl rfl ?_
        refine xvalP (pv_move rfl) rfl rfl ?_
        refine xval (qv_loadB 1 ShpC.h rfl rfl rfl rfl) rfl rfl ?_
        obtain ⟨y1253, h1252, h⟩ := h
        refine xcallF (Fb := [⟨b5, 42, [.v (.int .i64 f910), .v (.int .i64 f911), .v (.int .i64 f912), .v (.int .i64 f913), .sl 1 none (List.map eb f914)]⟩, ⟨b3, 25, [.v (.bool x2.1), .v (.bool x2.2.1), .v (.bool x2.2.2.1), .v (.bool x2.2.2.2.1), .sl 1 none (List.map es x2.2.2.2.2)]⟩]) (Ft := []) (feed_Next_con (f910, f911, f912, f913, f914) x1 x2 _ h1252) Try.func15 (by kernel_rfl) rfl (.cons rfl (.refl _) (.cons rfl (.refl _) (.cons rfl (.refl _) .nil))) (by exact (SubM.of (by repeat (first | with_reducible exact SubB.refl _ | exact SubB.nil _ | refine SubB.keep rfl rfl (by first | with_reducible exact WkL.refl _ | ((repeat (first | exact WkL.nil | refine WkL.cons (by first | with_reducible exact Wk.refl _ | exact Wk.nil_own _ | exact Wk.nil_pl _ | with_reducible exact Wk.tok _ _ _ | exact Wk.tok _ _ _ | exact Wk.eq (by first | rfl | (simp []; done) | (simp []; omega))) ?_)); done) | exact WkL.refl _) ?_ | refine SubB.drop ?_)) (by repeat (first | exact SubT.nil _ | refine SubT.add ?_ | (refine SubT.keep ?_ ?_; focus (first | with_reducible rfl | (simp []; done))) | refine SubT.drop ?_)))) rfl rfl ?_
        rintro _ _ _ ⟨rfl, rfl, rfl⟩
        simp only [List.nil_append, List.cons_append]
        refine xvalP (pv_move rfl) rfl rfl ?_
        refine xvalP (pv_extract rfl rfl) rfl rfl ?_
        refine xvalP (pv_extract rfl rfl) rfl rfl ?_
        refine xvalP (pv_extract rfl rfl) rfl rfl ?_
        refine xalloc InfC.h rfl rfl fun b7 => ?_
        refine xalloc InfC.h rfl rfl fun b8 => ?_
        refine xstore 1 ShpC.h rfl rfl rfl rfl rfl rfl rfl ?_
        refine xstore 0 ShpC.h rfl rfl rfl rfl rfl rfl rfl ?_
        refine xvalP (pv_assign rfl) rfl rfl ?_
        refine xnil ?_
        refine xthen ?_
        refine xseqM (fun σ => palinodelaw18_FeedLast_j3 y1253 x1 x2 x909 ag1 r ∧ σ = ⟨[(0, .sl 2 none (List.map E_palinode_api_File x1)), (3, .v (.pointer (some ⟨b3, 0, none⟩))), (5, .v (.pointer (some ⟨b5, 0, none⟩))), (6, .v (.int .i64 x909)), (7, .v (.pointer (some ⟨b7, 0, none⟩))), (8, .v (.pointer (some ⟨b8, 0, none⟩))), (9, .v (.bool y1253.2.2))], [⟨b8, 42, [.v (.int .i64 y1253.2.1.1), .v (.int .i64 y1253.2.1.2.1), .v (.int .i64 y1253.2.1.2.2.1), .v (.int .i64 y1253.2.1.2.2.2.1), .sl 1 none (List.map eb y1253.2.1.2.2.2.2)]⟩, ⟨b7, 36, [.sl 1 none (List.map eb y1253.1.1), .v (.bool y1253.1.2)]⟩, ⟨b5, 42, [.v (.int .i64 f910), .v (.int .i64 f911), .v (.int .i64 f912), .v (.int .i64 f913), .sl 1 none (List.map eb f914)]⟩, ⟨b3, 25, [.v (.bool x2.1), .v (.bool x2.2.1), .v (.bool x2.2.2.1), .v (.bool x2.2.2.2.1), .sl 1 none (List.map es x2.2.2.2.2)]⟩], []⟩) ?_ ?_
        · refine xseq ?_
          refine xregion ?_
          refine xvalP (qv_fieldAddrB FldC.h rfl) rfl rfl ?_
          refine xval (qv_loadB 3 ShpC.h rfl rfl rfl rfl) rfl rfl ?_
          refine xvalP (pv_not rfl) rfl rfl ?_
          refine xvalP (pv_move rfl) rfl rfl ?_
          by_cases hp1270 : ¬ (x2.2.1 = true)
          · replace h := h.1 hp1270
            refine xsetB 34 (not_t (b_f hp1270)) rfl ?_
            refine xvalP (qv_fieldAddrB FldC.h rfl) rfl rfl ?_
            refine xval (qv_loadB 3 ShpC.h rfl rfl rfl rfl) rfl rfl ?_
            refine xvalP (pv_not rfl) rfl rfl ?_
            refine xvalP (pv_pick rfl rfl) rfl rfl ?_
            refine xvalP (pv_move rfl) rfl rfl ?_
            by_cases hp1271 : ¬ (x2.2.2.1 = true)
            · replace h := h.1 hp1271
              refine xsetB 39 (not_t (b_f hp1271)) rfl ?_
              refine xval (qv_loadB 2 ShpC.h rfl rfl rfl rfl) rfl rfl ?_
              refine xvalP (pv_move rfl) rfl rfl ?_
              refine xval (qv_loadB 3 ShpC.h rfl rfl rfl rfl) rfl rfl ?_
              obtain ⟨y1273, h1272, h⟩ := h
              refine xcall0 (feed_Last_con (f910, f911, f912, f913, f914) x1 x2 _ h1272) Try.func18 (by kernel_rfl) rfl (.cons rfl (.refl _) (.cons rfl (.refl _) (.cons rfl (.refl _) .nil))) rfl rfl ?_
              refine xvalP (pv_move rfl) rfl rfl ?_
              refine xvalP (pv_eqB UndC.h rfl rfl) rfl rfl ?_
              refine xvalP (pv_pick rfl rfl) rfl rfl ?_
              refine xnil ?_
              refine xthen ?_
              by_cases hp1275 : (y1273 == y1253.2.2) = true
              · replace h := h.1 hp1275
                refine xcondT' hp1275 rfl ?_
                refine xseq ?_
                refine xregion ?_
                refine xvalP (pv_assign rfl) rfl rfl ?_
                refine xnil ?_
                refine xthen ?_
                refine xretc ?_
                refine xthen_ret ?_
                refine xin_ret ?_
                refine xthen_ret ?_
                refine xthen_ret ?_
                refine xin_ret ?_
                refine xthen_ret ?_
                replace h := h.symm
                subst h
                exact xret1 hg rfl rfl (.refl _) (SubM.of (.nil _) (.nil _)) ⟨rfl, rfl, rfl⟩
              · replace h := h.2 hp1275
                refine xcondF' (b_f hp1275) rfl ?_
                refine xskipc ?_
                exact xmeet ⟨h, rfl⟩ ⟨(.cons rfl (.refl _) (.cons rfl (.refl _) (.cons rfl (.refl _) (.cons rfl (.refl _) (.cons rfl (.refl _) (.cons rfl (.refl _) (.cons rfl (.refl _) (.nil _)))))))), (SubM.of (.keep rfl rfl (.refl _) (.keep rfl rfl (.refl _) (.keep rfl rfl (.refl _) (.keep rfl rfl (.refl _) (.nil _))))) (.nil _))⟩
            · replace h := h.2 hp1271
              refine xsetB 39 (not_f (Decidable.of_not_not hp1271)) rfl ?_
              refine xskip rfl rfl ?_
              refine xskip rfl rfl ?_
              refine xskip rfl rfl ?_
              refine xskip rfl rfl ?_
              refine xskip rfl rfl ?_
              refine xskip rfl rfl ?_
              refine xvalP (pv_pick rfl rfl) rfl rfl ?_
              refine xnil ?_
              refine xthen ?_
              refine xcondF rfl ?_
              refine xskipc ?_
              exact xmeet ⟨h, rfl⟩ ⟨(.cons rfl (.refl _) (.cons rfl (.refl _) (.cons rfl (.refl _) (.cons rfl (.refl _) (.cons rfl (.refl _) (.cons rfl (.refl _) (.cons rfl (.refl _) (.nil _)))))))), (SubM.of (.keep rfl rfl (.refl _) (.keep rfl rfl (.refl _) (.keep rfl rfl (.refl _) (.keep rfl rfl (.refl _) (.nil _))))) (.nil _))⟩
          · replace h := h.2 hp1270
            refine xsetB 34 (not_f (Decidable.of_not_not hp1270)) rfl ?_
            refine xskip rfl rfl ?_
            refine xskip rfl rfl ?_
            refine xskip rfl rfl ?_
            refine xvalP (pv_pick rfl rfl) rfl rfl ?_
            refine xvalP (pv_move rfl) rfl rfl ?_
            refine xskip rfl rfl ?_
            refine xskip rfl rfl ?_
            refine xskip rfl rfl ?_
            refine xskip rfl rfl ?_
            refine xskip rfl rfl ?_
            refine xskip rfl rfl ?_
            refine xvalP (pv_pick rfl rfl) rfl rfl ?_
            refine xnil ?_
            refine xthen ?_
            refine xcondF rfl ?_
            refine xskipc ?_
            exact xmeet ⟨h, rfl⟩ ⟨(.cons rfl (.refl _) (.cons rfl (.refl _) (.cons rfl (.refl _) (.cons rfl (.refl _) (.cons rfl (.refl _) (.cons rfl (.refl _) (.cons rfl (.refl _) (.nil _)))))))), (SubM.of (.keep rfl rfl (.refl _) (.keep rfl rfl (.refl _) (.keep rfl rfl (.refl _) (.keep rfl rfl (.refl _) (.nil _))))) (.nil _))⟩
        · clear h
          rintro _ ⟨h, rfl⟩
          refine xseq ?_
          refine xseq ?_
          refine xregion ?_
          refine xvalP (pv_move rfl) rfl rfl ?_
          refine xvalP (pv_not rfl) rfl rfl ?_
          refine xnil ?_
          refine xthen ?_
          by_cases hp1287 : ¬ (y1253.2.2 = true)
          · replace h := h.1 hp1287
            refine xcondT' (not_t (b_f hp1287)) rfl ?_
            refine xseq ?_
            refine xregion ?_
            refine xvalP (qv_fieldAddrB FldC.h rfl) rfl rfl ?_
            refine xval (qv_loadB 1 ShpC.h rfl rfl rfl rfl) rfl rfl ?_
            refine xvalP (pv_lenM UndC.h rfl) rfl rfl ?_
            refine xvalP (pv_bin2 rfl rfl rfl) rfl rfl ?_
            refine xvalP (pv_move rfl) rfl rfl ?_
            by_cases hp1295 : (y1253.1.1.length : Int) = 0
            · replace h := h.1 hp1295
              refine xsetB 53 (decide_eq_true hp1295) rfl ?_
              obtain ⟨y1297, h1296, h⟩ := h
              refine xcall0 (palinodelaw18_awake_con _ h1296) Try.func9 (by kernel_rfl) rfl .nil rfl rfl ?_
              refine xvalP (pv_pick rfl rfl) rfl rfl ?_
              refine xvalP (pv_assign rfl) rfl rfl ?_
              refine xnil ?_
              refine xthen ?_
              refine xretc ?_
              refine xthen_ret ?_
              refine xin_ret ?_
              refine xthen_ret ?_
              refine xthen_ret ?_
              refine xin_ret ?_
              refine xthen_ret ?_
              replace h := h.symm
              subst h
              exact xret1 hg rfl rfl (.refl _) (SubM.of (.nil _) (.nil _)) ⟨rfl, rfl, rfl⟩
            · replace h := h.2 hp1295
              refine xsetB 53 (decide_eq_false hp1295) rfl ?_
              refine xskip rfl rfl ?_
              refine xvalP (pv_pick rfl rfl) rfl rfl ?_
              refine xvalP (pv_assign rfl) rfl rfl ?_
              refine xnil ?_
              refine xthen ?_
              refine xretc ?_
              refine xthen_ret ?_
              refine xin_ret ?_
              refine xthen_ret ?_
              refine xthen_ret ?_
              refine xin_ret ?_
              refine xthen_ret ?_
              replace h := h.symm
              subst h
              exact xret1 hg rfl rfl (.refl _) (SubM.of (.nil _) (.nil _)) ⟨rfl, rfl, rfl⟩
          · replace h := h.2 hp1287
            refine xcondF' (not_f (Decidable.of_not_not hp1287)) rfl ?_
            refine xskipc ?_
            refine xthen ?_
            refine xseq ?_
            refine xregion ?_
            refine xval (qv_loadB 0 ShpC.h rfl rfl rfl rfl) rfl rfl ?_
            refine xvalP (pv_move rfl) rfl rfl ?_
            refine xval (qv_loadB 3 ShpC.h rfl rfl rfl rfl) rfl rfl ?_
            obtain ⟨y1299, h1298, h⟩ := h
            refine xcallF (Fb := [⟨b8, 42, [.v (.int .i64 y1253.2.1.1), .v (.int .i64 y1253.2.1.2.1), .v (.int .i64 y1253.2.1.2.2.1), .v (.int .i64 y1253.2.1.2.2.2.1), .sl 1 none (List.map eb y1253.2.1.2.2.2.2)]⟩, ⟨b7, 36, [.sl 1 none (List.map eb y1253.1.1), .v (.bool y1253.1.2)]⟩, ⟨b5, 42, [.v (.int .i64 f910), .v (.int .i64 f911), .v (.int .i64 f912), .v (.int .i64 f913), .sl 1 none (List.map eb f914)]⟩, ⟨b3, 25, [.v (.bool x2.1), .v (.bool x2.2.1), .v (.bool x2.2.2.1), .v (.bool x2.2.2.2.1), .sl 1 none (List.map es x2.2.2.2.2)]⟩]) (Ft := []) (feed_Next_con y1253.2.1 x1 x2 _ h1298) Try.func15 (by kernel_rfl) rfl (.cons rfl (.refl _) (.cons rfl (.refl _) (.cons rfl (.refl _) .nil))) (by exact (SubM.of (by repeat (first | with_reducible exact SubB.refl _ | exact SubB.nil _ | refine SubB.keep rfl rfl (by first | with_reducible exact WkL.refl _ | ((repeat (first | exact WkL.nil | refine WkL.cons (by first | with_reducible exact Wk.refl _ | exact Wk.nil_own _ | exact Wk.nil_pl _ | with_reducible exact Wk.tok _ _ _ | exact Wk.tok _ _ _ | exact Wk.eq (by first | rfl | (simp []; done) | (simp []; omega))) ?_)); done) | exact WkL.refl _) ?_ | refine SubB.drop ?_)) (by repeat (first | exact SubT.nil _ | refine SubT.add ?_ | (refine SubT.keep ?_ ?_; focus (first | with_reducible rfl | (simp []; done))) | refine SubT.drop ?_)))) rfl rfl ?_
            rintro _ _ _ ⟨rfl, rfl, rfl⟩
            simp only [List.nil_append, List.cons_append]
            refine xvalP (pv_move rfl) rfl rfl ?_
            refine xvalP (pv_extract rfl rfl) rfl rfl ?_
            refine xvalP (pv_extract rfl rfl) rfl rfl ?_
            refine xvalP (pv_extract rfl rfl) rfl rfl ?_
            refine xalloc InfC.h rfl rfl fun b10 => ?_
            refine xalloc InfC.h rfl rfl fun b11 => ?_
            refine xstore 1 ShpC.h rfl rfl rfl rfl rfl rfl rfl ?_
            refine xstore 0 ShpC.h rfl rfl rfl rfl rfl rfl rfl ?_
            refine xvalP (pv_assign rfl) rfl rfl ?_
            refine xnil ?_
            refine xthen ?_
            refine xseq ?_
            refine xregion ?_
            refine xval (qv_loadB 2 ShpC.h rfl rfl rfl rfl) rfl rfl ?_
            refine xvalP (pv_move rfl) rfl rfl ?_
            refine xval (qv_loadB 5 ShpC.h rfl rfl rfl rfl) rfl rfl ?_
            obtain ⟨y1301, h1300, h⟩ := h
            refine xcall0 (feed_Last_con y1253.2.1 x1 x2 _ h1300) Try.func18 (by kernel_rfl) rfl (.cons rfl (.refl _) (.cons rfl (.refl _) (.cons rfl (.refl _) .nil))) rfl rfl ?_
            refine xvalP (pv_assign rfl) rfl rfl ?_
            refine xnil ?_
            refine xthen ?_
            refine xseq ?_
            refine xseqM (fun σ => ∃ (x1331 : Bool), palinodelaw18_FeedLast_j4 x909 ag1 y1253 y1299 y1301 x1331 r ∧ σ = ⟨[(0, .sl 2 none (List.map E_palinode_api_File x1)), (3, .v (.pointer (some ⟨b3, 0, none⟩))), (5, .v (.pointer (some ⟨b5, 0, none⟩))), (6, .v (.int .i64 x909)), (8, .v (.pointer (some ⟨b8, 0, none⟩))), (11, .v (.pointer (some ⟨b11, 0, none⟩))), (12, .v (.bool y1299.2.2)), (13, .v (.bool y1301)), (73, .v (.bool x1331))], [⟨b11, 42, [.v (.int .i64 y1299.2.1.1), .v (.int .i64 y1299.2.1.2.1), .v (.int .i64 y1299.2.1.2.2.1), .v (.int .i64 y1299.2.1.2.2.2.1), .sl 1 none (List.map eb y1299.2.1.2.2.2.2)]⟩, ⟨b8, 42, [.v (.int .i64 y1253.2.1.1), .v (.int .i64 y1253.2.1.2.1), .v (.int .i64 y1253.2.1.2.2.1), .v (.int .i64 y1253.2.1.2.2.2.1), .sl 1 none (List.map eb y1253.2.1.2.2.2.2)]⟩, ⟨b5, 42, [.v (.int .i64 f910), .v (.int .i64 f911), .v (.int .i64 f912), .v (.int .i64 f913), .sl 1 none (List.map eb f914)]⟩, ⟨b3, 25, [.v (.bool x2.1), .v (.bool x2.2.1), .v (.bool x2.2.2.1), .v (.bool x2.2.2.2.1), .sl 1 none (List.map es x2.2.2.2.2)]⟩], []⟩) ?_ ?_
            · refine xregion ?_
              refine xvalP (qv_fieldAddrB FldC.h rfl) rfl rfl ?_
              refine xval (qv_loadB 5 ShpC.h rfl rfl rfl rfl) rfl rfl ?_
              refine xvalP (pv_move rfl) rfl rfl ?_
              by_cases hp1332 : x2.2.1 = true
              · rw [show x2.2.1 = true from hp1332, Bool.true_or] at h
                refine xsetB 70 hp1332 rfl ?_
                refine xskip rfl rfl ?_
                refine xskip rfl rfl ?_
                refine xvalP (pv_pick rfl rfl) rfl rfl ?_
                refine xnil ?_
                exact xmeet ⟨true, h, rfl⟩ ⟨(.cons rfl (.refl _) (.cons rfl (.refl _) (.cons rfl (.refl _) (.cons rfl (.refl _) (.cons rfl (.refl _) (.cons rfl (.refl _) (.cons rfl (.refl _) (.cons rfl (.refl _) (.cons rfl (.refl _) (.nil _)))))))))), (SubM.of (.keep rfl rfl (.refl _) (.drop (.keep rfl rfl (.refl _) (.drop (.keep rfl rfl (.refl _) (.keep rfl rfl (.refl _) (.nil _))))))) (.nil _))⟩
              · rw [show x2.2.1 = false from (b_f hp1332), Bool.false_or] at h
                refine xsetB 70 (b_f hp1332) rfl ?_
                refine xvalP (qv_fieldAddrB FldC.h rfl) rfl rfl ?_
                refine xval (qv_loadB 5 ShpC.h rfl rfl rfl rfl) rfl rfl ?_
                refine xvalP (pv_pick rfl rfl) rfl rfl ?_
                refine xnil ?_
                exact xmeet ⟨x2.2.2.1, h, rfl⟩ ⟨(.cons rfl (.refl _) (.cons rfl (.refl _) (.cons rfl (.refl _) (.cons rfl (.refl _) (.cons rfl (.refl _) (.cons rfl (.refl _) (.cons rfl (.refl _) (.cons rfl (.refl _) (.cons rfl (.refl _) (.nil _)))))))))), (SubM.of (.keep rfl rfl (.refl _) (.drop (.keep rfl rfl (.refl _) (.drop (.keep rfl rfl (.refl _) (.keep rfl rfl (.refl _) (.nil _))))))) (.nil _))⟩
            · clear h
              rintro _ ⟨x1331, h, rfl⟩
              by_cases hp1333 : x1331 = true
              · replace h := h.1 hp1333
                refine xcondT' hp1333 rfl ?_
                refine xseqM (fun σ => ∃ (x1345 : Bool), palinodelaw18_FeedLast_j5 x909 ag1 y1253 x1345 r ∧ σ = ⟨[(0, .sl 2 none (List.map E_palinode_api_File x1)), (3, .v (.pointer (some ⟨b3, 0, none⟩))), (5, .v (.pointer (some ⟨b5, 0, none⟩))), (6, .v (.int .i64 x909)), (8, .v (.pointer (some ⟨b8, 0, none⟩))), (94, .v (.bool x1345))], [⟨b8, 42, [.v (.int .i64 y1253.2.1.1), .v (.int .i64 y1253.2.1.2.1), .v (.int .i64 y1253.2.1.2.2.1), .v (.int .i64 y1253.2.1.2.2.2.1), .sl 1 none (List.map eb y1253.2.1.2.2.2.2)]⟩, ⟨b5, 42, [.v (.int .i64 f910), .v (.int .i64 f911), .v (.int .i64 f912), .v (.int .i64 f913), .sl 1 none (List.map eb f914)]⟩, ⟨b3, 25, [.v (.bool x2.1), .v (.bool x2.2.1), .v (.bool x2.2.2.1), .v (.bool x2.2.2.2.1), .sl 1 none (List.map es x2.2.2.2.2)]⟩], []⟩) ?_ ?_
                · refine xregion ?_
                  refine xvalP (pv_move rfl) rfl rfl ?_
                  refine xvalP (pv_move rfl) rfl rfl ?_
                  refine xvalP (pv_not rfl) rfl rfl ?_
                  refine xvalP (pv_move rfl) rfl rfl ?_
                  by_cases hp1346 : ¬ (y1299.2.2 = true)
                  · rw [show (!y1299.2.2) = true from (not_t (b_f hp1346)), cond_true] at h
                    refine xsetB 77 (not_t (b_f hp1346)) rfl ?_
                    refine xskip rfl rfl ?_
                    refine xskip rfl rfl ?_
                    refine xskip rfl rfl ?_
                    refine xskip rfl rfl ?_
                    refine xvalP (pv_pick rfl rfl) rfl rfl ?_
                    refine xvalP (pv_neB UndC.h rfl rfl) rfl rfl ?_
                    refine xvalP (pv_move rfl) rfl rfl ?_
                    by_cases hp1348 : ¬ ((y1301 == true) = true)
                    · rw [show (!(y1301 == true)) = true from (not_t (b_f hp1348)), Bool.true_or] at h
                      refine xsetB 84 (not_t (b_f hp1348)) rfl ?_
                      refine xskip rfl rfl ?_
                      refine xskip rfl rfl ?_
                      refine xskip rfl rfl ?_
                      refine xskip rfl rfl ?_
                      refine xskip rfl rfl ?_
                      refine xskip rfl rfl ?_
                      refine xskip rfl rfl ?_
                      refine xskip rfl rfl ?_
                      refine xskip rfl rfl ?_
                      refine xvalP (pv_pick rfl rfl) rfl rfl ?_
                      refine xnil ?_
                      exact xmeet ⟨true, h, rfl⟩ ⟨(.cons rfl (.refl _) (.cons rfl (.refl _) (.cons rfl (.refl _) (.cons rfl (.refl _) (.cons rfl (.refl _) (.cons rfl (.refl _) (.nil _))))))), (SubM.of (.drop (.keep rfl rfl (.refl _) (.keep rfl rfl (.refl _) (.keep rfl rfl (.refl _) (.nil _))))) (.nil _))⟩
                    · rw [show (!(y1301 == true)) = false from (not_f (Decidable.of_not_not hp1348)), Bool.false_or] at h
                      refine xsetB 84 (not_f (Decidable.of_not_not hp1348)) rfl ?_
                      refine xvalP (pv_move rfl) rfl rfl ?_
                      refine xvalP (pv_not rfl) rfl rfl ?_
                      refine xvalP (pv_move rfl) rfl rfl ?_
                      by_cases hp1349 : ¬ (y1301 = true)
                      · rw [show (!y1301) = true from (not_t (b_f hp1349)), Bool.true_and] at h
                        refine xsetB 87 (not_t (b_f hp1349)) rfl ?_
                        refine xvalP (qv_fieldAddrB FldC.h rfl) rfl rfl ?_
                        refine xval (qv_loadB 0 ShpC.h rfl rfl rfl rfl) rfl rfl ?_
                        refine xvalP (qv_fieldAddrB FldC.h rfl) rfl rfl ?_
                        refine xval (qv_loadB 1 ShpC.h rfl rfl rfl rfl) rfl rfl ?_
                        refine xvalP (pv_bin2 rfl rfl rfl) rfl rfl ?_
                        refine xvalP (pv_pick rfl rfl) rfl rfl ?_
                        refine xvalP (pv_pick rfl rfl) rfl rfl ?_
                        refine xnil ?_
                        exact xmeet ⟨(!(decide (y1299.2.1.2.2.1 = y1253.2.1.2.2.1))), h, rfl⟩ ⟨(.cons rfl (.refl _) (.cons rfl (.refl _) (.cons rfl (.refl _) (.cons rfl (.refl _) (.cons rfl (.refl _) (.cons rfl (.refl _) (.nil _))))))), (SubM.of (.drop (.keep rfl rfl (.refl _) (.keep rfl rfl (.refl _) (.keep rfl rfl (.refl _) (.nil _))))) (.nil _))⟩
                      · rw [show (!y1301) = false from (not_f (Decidable.of_not_not hp1349)), Bool.false_and] at h
                        refine xsetB 87 (not_f (Decidable.of_not_not hp1349)) rfl ?_
                        refine xskip rfl rfl ?_
                        refine xskip rfl rfl ?_
                        refine xskip rfl rfl ?_
                        refine xskip rfl rfl ?_
                        refine xskip rfl rfl ?_
                        refine xvalP (pv_pick rfl rfl) rfl rfl ?_
                        refine xvalP (pv_pick rfl rfl) rfl rfl ?_
                        refine xnil ?_
                        exact xmeet ⟨false, h, rfl⟩ ⟨(.cons rfl (.refl _) (.cons rfl (.refl _) (.cons rfl (.refl _) (.cons rfl (.refl _) (.cons rfl (.refl _) (.cons rfl (.refl _) (.nil _))))))), (SubM.of (.drop (.keep rfl rfl (.refl _) (.keep rfl rfl (.refl _) (.keep rfl rfl (.refl _) (.nil _))))) (.nil _))⟩
                  · rw [show (!y1299.2.2) = false from (not_f (Decidable.of_not_not hp1346)), cond_false] at h
                    refine xsetB 77 (not_f (Decidable.of_not_not hp1346)) rfl ?_
                    refine xvalP (qv_fieldAddrB FldC.h rfl) rfl rfl ?_
                    refine xval (qv_loadB 1 ShpC.h rfl rfl rfl rfl) rfl rfl ?_
                    refine xvalP (pv_lenM UndC.h rfl) rfl rfl ?_
                    refine xvalP (pv_bin2 rfl rfl rfl) rfl rfl ?_
                    refine xvalP (pv_pick rfl rfl) rfl rfl ?_
                    refine xvalP (pv_neB UndC.h rfl rfl) rfl rfl ?_
                    refine xvalP (pv_move rfl) rfl rfl ?_
                    by_cases hp1354 : ¬ ((y1301 == (decide ((y1253.2.1.2.2.2.2.length : Int) = 0))) = true)
                    · rw [show (!(y1301 == (decide ((y1253.2.1.2.2.2.2.length : Int) = 0)))) = true from (not_t (b_f hp1354)), Bool.true_or] at h
                      refine xsetB 84 (not_t (b_f hp1354)) rfl ?_
                      refine xskip rfl rfl ?_
                      refine xskip rfl rfl ?_
                      refine xskip rfl rfl ?_
                      refine xskip rfl rfl ?_
                      refine xskip rfl rfl ?_
                      refine xskip rfl rfl ?_
                      refine xskip rfl rfl ?_
                      refine xskip rfl rfl ?_
                      refine xskip rfl rfl ?_
                      refine xvalP (pv_pick rfl rfl) rfl rfl ?_
                      refine xnil ?_
                      exact xmeet ⟨true, h, rfl⟩ ⟨(.cons rfl (.refl _) (.cons rfl (.refl _) (.cons rfl (.refl _) (.cons rfl (.refl _) (.cons rfl (.refl _) (.cons rfl (.refl _) (.nil _))))))), (SubM.of (.drop (.keep rfl rfl (.refl _) (.keep rfl rfl (.refl _) (.keep rfl rfl (.refl _) (.nil _))))) (.nil _))⟩
                    · rw [show (!(y1301 == (decide ((y1253.2.1.2.2.2.2.length : Int) = 0)))) = false from (not_f (Decidable.of_not_not hp1354)), Bool.false_or] at h
                      refine xsetB 84 (not_f (Decidable.of_not_not hp1354)) rfl ?_
                      refine xvalP (pv_move rfl) rfl rfl ?_
                      refine xvalP (pv_not rfl) rfl rfl ?_
                      refine xvalP (pv_move rfl) rfl rfl ?_
                      by_cases hp1355 : ¬ (y1301 = true)
                      · rw [show (!y1301) = true from (not_t (b_f hp1355)), Bool.true_and] at h
                        refine xsetB 87 (not_t (b_f hp1355)) rfl ?_
                        refine xvalP (qv_fieldAddrB FldC.h rfl) rfl rfl ?_
                        refine xval (qv_loadB 0 ShpC.h rfl rfl rfl rfl) rfl rfl ?_
                        refine xvalP (qv_fieldAddrB FldC.h rfl) rfl rfl ?_
                        refine xval (qv_loadB 1 ShpC.h rfl rfl rfl rfl) rfl rfl ?_
                        refine xvalP (pv_bin2 rfl rfl rfl) rfl rfl ?_
                        refine xvalP (pv_pick rfl rfl) rfl rfl ?_
                        refine xvalP (pv_pick rfl rfl) rfl rfl ?_
                        refine xnil ?_
                        exact xmeet ⟨(!(decide (y1299.2.1.2.2.1 = y1253.2.1.2.2.1))), h, rfl⟩ ⟨(.cons rfl (.refl _) (.cons rfl (.refl _) (.cons rfl (.refl _) (.cons rfl (.refl _) (.cons rfl (.refl _) (.cons rfl (.refl _) (.nil _))))))), (SubM.of (.drop (.keep rfl rfl (.refl _) (.keep rfl rfl (.refl _) (.keep rfl rfl (.refl _) (.nil _))))) (.nil _))⟩
                      · rw [show (!y1301) = false from (not_f (Decidable.of_not_not hp1355)), Bool.false_and] at h
                        refine xsetB 87 (not_f (Decidable.of_not_not hp1355)) rfl ?_
                        refine xskip rfl rfl ?_
                        refine xskip rfl rfl ?_
                        refine xskip rfl rfl ?_
                        refine xskip rfl rfl ?_
                        refine xskip rfl rfl ?_
                        refine xvalP (pv_pick rfl rfl) rfl rfl ?_
                        refine xvalP (pv_pick rfl rfl) rfl rfl ?_
                        refine xnil ?_
                        exact xmeet ⟨false, h, rfl⟩ ⟨(.cons rfl (.refl _) (.cons rfl (.refl _) (.cons rfl (.refl _) (.cons rfl (.refl _) (.cons rfl (.refl _) (.cons rfl (.refl _) (.nil _))))))), (SubM.of (.drop (.keep rfl rfl (.refl _) (.keep rfl rfl (.refl _) (.keep rfl rfl (.refl _) (.nil _))))) (.nil _))⟩
                · clear h
                  rintro _ ⟨x1345, h, rfl⟩
                  by_cases hp1357 : x1345 = true
                  · replace h := h.1 hp1357
                    refine xcondT' hp1357 rfl ?_
                    refine xseq ?_
                    refine xregion ?_
                    refine xvalP (pv_assign rfl) rfl rfl ?_
                    refine xnil ?_
                    refine xthen ?_
                    refine xretc ?_
                    refine xthen_ret ?_
                    refine xin_ret ?_
                    refine xthen_ret ?_
                    refine xthen_ret ?_
                    refine xin_ret ?_
                    refine xthen_ret ?_
                    replace h := h.symm
                    subst h
                    exact xret1 hg rfl rfl (.refl _) (SubM.of (.nil _) (.nil _)) ⟨rfl, rfl, rfl⟩
                  · replace h := h.2 hp1357
                    refine xcondF' (b_f hp1357) rfl ?_
                    refine xskipc ?_
                    refine xthen ?_
                    refine xregion ?_
                    refine xval (qv_loadB 0 ShpC.h rfl rfl rfl rfl) rfl rfl ?_
                    refine xstore 1 ShpC.h rfl rfl rfl rfl rfl rfl rfl ?_
                    refine xnil ?_
                    refine xin_normal ?_
                    exact xmeet ⟨y1253.2.1.1, y1253.2.1.2.1, y1253.2.1.2.2.1, y1253.2.1.2.2.2.1, y1253.2.1.2.2.2.2, h, rfl⟩ ⟨(.cons rfl (.refl _) (.cons rfl (.refl _) (.cons rfl (.refl _) (.cons rfl (.refl _) (.nil _))))), (SubM.of (.drop (.keep rfl rfl (.refl _) (.keep rfl rfl (.refl _) (.nil _)))) (.nil _))⟩
              · replace h := h.2 hp1333
                refine xcondF' (b_f hp1333) rfl ?_
                refine xskipc ?_
                refine xthen ?_
                refine xregion ?_
                refine xval (qv_loadB 1 ShpC.h rfl rfl rfl rfl) rfl rfl ?_
                refine xstore 2 ShpC.h rfl rfl rfl rfl rfl rfl rfl ?_
                refine xnil ?_
                refine xin_normal ?_
                exact xmeet ⟨y1253.2.1.1, y1253.2.1.2.1, y1253.2.1.2.2.1, y1253.2.1.2.2.2.1, y1253.2.1.2.2.2.2, h, rfl⟩ ⟨(.cons rfl (.refl _) (.cons rfl (.refl _) (.cons rfl (.refl _) (.cons rfl (.refl _) (.nil _))))), (SubM.of (.drop (.drop (.keep rfl rfl (.refl _) (.keep rfl rfl (.refl _) (.nil _))))) (.nil _))⟩
      · clear h
        rintro _ ⟨f1247, f1248, f1249, f1250, f1251, h, rfl⟩
        refine xregion ?_
        refine xvalP (pv_move rfl) rfl rfl ?_
        obtain ⟨h1358, h⟩ := h
        refine xvalP (pv_addI h1358 rfl rfl) rfl rfl ?_
        refine xvalP (pv_assign rfl) rfl rfl ?_
        refine xnil ?_
        obtain ⟨m', hm, hI⟩ := hag1 _ h
        exact xagain ⟨(x909 + 1), f1247, f1248, f1249, f1250, f1251, hI, rfl⟩ hm ⟨(.cons rfl (.refl _) (.cons rfl (.refl _) (.cons rfl (.refl _) (.cons rfl (.refl _) (.nil _))))), (SubM.of (.keep rfl rfl (.refl _) (.keep rfl rfl (.refl _) (.nil _))) (.nil _))⟩
    · replace h := h.2 hp1140
      refine xcondF' (decide_eq_false hp1140) rfl ?_
      refine xexit ?_
      refine xthen_exit ?_
      refine xthen_exit ?_
      refine xin_same rfl ?_
      refine xthen ?_
      refine xseq ?_
      refine xregion ?_
      obtain ⟨y1360, h1359, h⟩ := h
      refine xcall0 (palinodelaw18_awake_con _ h1359) Try.func9 (by kernel_rfl) rfl .nil rfl rfl ?_
      refine xvalP (pv_assign rfl) rfl rfl ?_
      refine xnil ?_
      refine xthen ?_
      refine xretc ?_
      replace h := h.symm
      subst h
      exact xret1 hg rfl rfl (.refl _) (SubM.of (.nil _) (.nil _)) ⟨rfl, rfl, rfl⟩
end Go.Proofs.Ytihbljabeckgmaa
