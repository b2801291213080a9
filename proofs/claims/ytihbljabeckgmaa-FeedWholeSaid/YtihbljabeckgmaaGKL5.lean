/- What functions' texts ask for, and the walks that show it (printed by a program). -/
import Derived.Test.YtihbljabeckgmaaGK
namespace Go.Proofs.Ytihbljabeckgmaa
/-- palinodelaw18.FeedWhole -/
def palinodelaw18_FeedWhole_j2 (x876 : Int) (ag1 : (Int × Int × (List ((List UInt8) × Bool)) × (List Int)) → Prop) (x1202 : Int) (f1203 : List ((List UInt8) × Bool)) (f1205 : List Int) (r : Bool) : Prop :=
  InR (x876 + 1) ∧ ag1 (x1202, (x876 + 1), f1203, f1205)
def palinodelaw18_FeedWhole_l3 (y1220 : (List ((List UInt8) × Bool))) (x876 : Int) (ag1 : (Int × Int × (List ((List UInt8) × Bool)) × (List Int)) → Prop) (x875 : Int) (ag3 : (Int × (List ((List UInt8) × Bool)) × (List Int)) → Prop) (x1249 : Int) (f1250 : List ((List UInt8) × Bool)) (f1252 : List Int) (r : Bool) : Prop :=
  ((x1249 < (y1220.length : Int) → 0 ≤ (x1249 : Int) ∧ ∃ y1301 : (List UInt8) × Bool, y1220[(x1249 : Int).toNat]? = some y1301 ∧ Room (f1250.length + ([y1301]).length) 32 ∧ Room (f1252.length + ([x876]).length) 8 ∧ InR (x1249 + 1) ∧ ag3 ((x1249 + 1), (f1250 ++ [y1301]), (f1252 ++ [x876]))) ∧ (¬ (x1249 < (y1220.length : Int)) → palinodelaw18_FeedWhole_j2 x876 ag1 x875 f1250 f1252 r))
def palinodelaw18_FeedWhole_j5 (f1406 : Bool) (r : Bool) : Prop :=
  r = f1406
def palinodelaw18_FeedWhole_l4 (f877 : List ((List UInt8) × Bool)) (x1 : List (ByteArray × (List UInt8))) (x2 : Bool × Bool × Bool × Bool × (List ByteArray)) (y1323 : Bool × Bool × Int) (x875 : Int) (ag4 : (Int × Int × Int × Int × Int × (List UInt8)) → Prop) (x1369 : Int) (f1370 : Int) (f1371 : Int) (f1372 : Int) (f1373 : Int) (f1374 : List UInt8) (r : Bool) : Prop :=
  ((x1369 < (f877.length : Int) → ∃ y1391 : ((List UInt8) × Bool) × (Int × Int × Int × Int × (List UInt8)) × Bool, feed_Next_R (f1370, f1371, f1372, f1373, f1374) x1 x2 y1391 ∧ InR (x1369 + 1) ∧ ag4 ((x1369 + 1), y1391.2.1.1, y1391.2.1.2.1, y1391.2.1.2.2.1, y1391.2.1.2.2.2.1, y1391.2.1.2.2.2.2)) ∧ (¬ (x1369 < (f877.length : Int)) → ∃ y1394 : ((List UInt8) × Bool) × (Int × Int × Int × Int × (List UInt8)) × Bool, feed_Next_R (f1370, f1371, f1372, f1373, f1374) x1 x2 y1394 ∧ ((y1323.2.2 = (f877.length : Int) → ((¬ (y1394.2.2 = true) → ((y1394.2.1.2.2.2.1 = x875 → ((y1394.2.1.1 = (x2.2.2.2.2.length : Int) → ∃ y1417 : Bool, palinodelaw18_awake_R y1417 ∧ palinodelaw18_FeedWhole_j5 y1417 r) ∧ (¬ (y1394.2.1.1 = (x2.2.2.2.2.length : Int)) → palinodelaw18_FeedWhole_j5 false r))) ∧ (¬ (y1394.2.1.2.2.2.1 = x875) → palinodelaw18_FeedWhole_j5 false r))) ∧ (¬ (¬ (y1394.2.2 = true)) → palinodelaw18_FeedWhole_j5 false r))) ∧ (¬ (y1323.2.2 = (f877.length : Int)) → palinodelaw18_FeedWhole_j5 false r))))
def palinodelaw18_FeedWhole_l1 (x2 : Bool × Bool × Bool × Bool × (List ByteArray)) (x1 : List (ByteArray × (List UInt8))) (ag1 : (Int × Int × (List ((List UInt8) × Bool)) × (List Int)) → Prop) (x875 : Int) (x876 : Int) (f877 : List ((List UInt8) × Bool)) (f879 : List Int) (r : Bool) : Prop :=
  ((x876 < (x2.2.2.2.2.length : Int) → 0 ≤ (x876 : Int) ∧ ∃ y1207 : ByteArray, x2.2.2.2.2[(x876 : Int).toNat]? = some y1207 ∧ ∃ y1210 : Int, palinoderef03_At_R x1 y1207 y1210 ∧ ((y1210 < 0 → InR (x875 + 1) ∧ palinodelaw18_FeedWhole_j2 x876 ag1 (x875 + 1) f877 f879 r) ∧ (¬ (y1210 < 0) → 0 ≤ (y1210 : Int) ∧ ∃ y1217 : ByteArray × (List UInt8), x1[(y1210 : Int).toNat]? = some y1217 ∧ ∃ y1220 : (List ((List UInt8) × Bool)), palinoderef02_Split_R y1217.2 y1220 ∧ LoopR (fun ag3 s => palinodelaw18_FeedWhole_l3 y1220 x876 ag1 x875 ag3 s.1 s.2.1 s.2.2 r) (0, f877, f879)))) ∧ (¬ (x876 < (x2.2.2.2.2.length : Int)) → ∃ y1310 : (Bool × Bool × Bool × Bool × (List ByteArray)) × (List (ByteArray × (List UInt8))), feed_Lines_R x1 x2 y1310 ∧ ∃ y1323 : Bool × Bool × Int, feed_Lines_c1_v2_R false f877 f879 0 y1310.2 y1310.1 y1323 ∧ ((y1323.1 = true → ∃ y1326 : (Int × Int × Int × Int × (List UInt8)), feed_First_R y1326 ∧ LoopR (fun ag4 s => palinodelaw18_FeedWhole_l4 f877 x1 x2 y1323 x875 ag4 s.1 s.2.1 s.2.2.1 s.2.2.2.1 s.2.2.2.2.1 s.2.2.2.2.2 r) (0, y1326.1, y1326.2.1, y1326.2.2.1, y1326.2.2.2.1, y1326.2.2.2.2)) ∧ (¬ (y1323.1 = true) → r = y1323.2.1))))
def palinodelaw18_FeedWhole_R (x1 : List (ByteArray × (List UInt8))) (x2 : Bool × Bool × Bool × Bool × (List ByteArray)) (r : Bool) : Prop :=
  ∃ y9 : Bool, palinoderef18_Great_R x1 x2 y9 ∧ ((y9 = true → ∃ y12 : Bool, palinodelaw18_awake_R y12 ∧ r = y12) ∧ (¬ (y9 = true) → LoopR (fun ag1 s => palinodelaw18_FeedWhole_l1 x2 x1 ag1 s.1 s.2.1 s.2.2.1 s.2.2.2 r) (0, 0, ([] : List ((List UInt8) × Bool)), ([] : List Int))))
def palinodelaw18_FeedWhole_j2_ev (fuel : Nat) (x876 : Int) (ag1e : (Int × Int × (List ((List UInt8) × Bool)) × (List Int)) → Option (Bool)) (x1202 : Int) (f1203 : List ((List UInt8) × Bool)) (f1205 : List Int) : Option (Bool) :=
  (if InR (x876 + 1) then ag1e (x1202, (x876 + 1), f1203, f1205) else none)
theorem palinodelaw18_FeedWhole_j2_ok {fuel : Nat} {x876 : Int} {ag1 : (Int × Int × (List ((List UInt8) × Bool)) × (List Int)) → Prop} {ag1e : (Int × Int × (List ((List UInt8) × Bool)) × (List Int)) → Option (Bool)} {x1202 : Int} {f1203 : List ((List UInt8) × Bool)} {f1205 : List Int} {r : Bool} (hagag1 : ∀ s, ag1e s = some r → ag1 s) (h : palinodelaw18_FeedWhole_j2_ev fuel x876 ag1e x1202 f1203 f1205 = some r) : palinodelaw18_FeedWhole_j2 x876 ag1 x1202 f1203 f1205 r := by
  unfold palinodelaw18_FeedWhole_j2_ev at h
  unfold palinodelaw18_FeedWhole_j2
  obtain ⟨g255, h⟩ := if_ok h
  refine ⟨g255, ?_⟩
  exact hagag1 _ h
def palinodelaw18_FeedWhole_l3_ev (fuel : Nat) (y1220 : (List ((List UInt8) × Bool))) (x876 : Int) (ag1e : (Int × Int × (List ((List UInt8) × Bool)) × (List Int)) → Option (Bool)) (x875 : Int) (ag3e : (Int × (List ((List UInt8) × Bool)) × (List Int)) → Option (Bool)) (x1249 : Int) (f1250 : List ((List UInt8) × Bool)) (f1252 : List Int) : Option (Bool) :=
  (if x1249 < (y1220.length : Int) then (if 0 ≤ (x1249 : Int) then ((y1220[(x1249 : Int).toNat]?).bind fun y1301 => (if Room (f1250.length + ([y1301]).length) 32 then (if Room (f1252.length + ([x876]).length) 8 then (if InR (x1249 + 1) then ag3e ((x1249 + 1), (f1250 ++ [y1301]), (f1252 ++ [x876])) else none) else none) else none)) else none) else palinodelaw18_FeedWhole_j2_ev fuel x876 ag1e x875 f1250 f1252)
theorem palinodelaw18_FeedWhole_l3_ok {fuel : Nat} {y1220 : (List ((List UInt8) × Bool))} {x876 : Int} {ag1 : (Int × Int × (List ((List UInt8) × Bool)) × (List Int)) → Prop} {ag1e : (Int × Int × (List ((List UInt8) × Bool)) × (List Int)) → Option (Bool)} {x875 : Int} {ag3e : (Int × (List ((List UInt8) × Bool)) × (List Int)) → Option (Bool)} {ag3 : (Int × (List ((List UInt8) × Bool)) × (List Int)) → Prop} {x1249 : Int} {f1250 : List ((List UInt8) × Bool)} {f1252 : List Int} {r : Bool} (hagag1 : ∀ s, ag1e s = some r → ag1 s) (hagag3 : ∀ s, ag3e s = some r → ag3 s) (h : palinodelaw18_FeedWhole_l3_ev fuel y1220 x876 ag1e x875 ag3e x1249 f1250 f1252 = some r) : palinodelaw18_FeedWhole_l3 y1220 x876 ag1 x875 ag3 x1249 f1250 f1252 r := by
  unfold palinodelaw18_FeedWhole_l3_ev at h
  unfold palinodelaw18_FeedWhole_l3
  refine ⟨fun g256 => ?_, fun g256 => ?_⟩
  · rw [if_pos g256] at h
    obtain ⟨g257, h⟩ := if_ok h
    refine ⟨g257, ?_⟩
    obtain ⟨q258, g258, h⟩ := bind_ok h
    refine ⟨q258, g258, ?_⟩
    obtain ⟨g259, h⟩ := if_ok h
    refine ⟨g259, ?_⟩
    obtain ⟨g260, h⟩ := if_ok h
    refine ⟨g260, ?_⟩
    obtain ⟨g261, h⟩ := if_ok h
    refine ⟨g261, ?_⟩
    exact hagag3 _ h
  · rw [if_neg g256] at h
    exact palinodelaw18_FeedWhole_j2_ok hagag1 h
def palinodelaw18_FeedWhole_j5_ev (fuel : Nat) (f1406 : Bool) : Option (Bool) :=
  some f1406
theorem palinodelaw18_FeedWhole_j5_ok {fuel : Nat} {f1406 : Bool} {r : Bool} (h : palinodelaw18_FeedWhole_j5_ev fuel f1406 = some r) : palinodelaw18_FeedWhole_j5 f1406 r := by
  unfold palinodelaw18_FeedWhole_j5_ev at h
  unfold palinodelaw18_FeedWhole_j5
  exact (Option.some.inj h).symm
def palinodelaw18_FeedWhole_l4_ev (fuel : Nat) (f877 : List ((List UInt8) × Bool)) (x1 : List (ByteArray × (List UInt8))) (x2 : Bool × Bool × Bool × Bool × (List ByteArray)) (y1323 : Bool × Bool × Int) (x875 : Int) (ag4e : (Int × Int × Int × Int × Int × (List UInt8)) → Option (Bool)) (x1369 : Int) (f1370 : Int) (f1371 : Int) (f1372 : Int) (f1373 : Int) (f1374 : List UInt8) : Option (Bool) :=
  (if x1369 < (f877.length : Int) then ((feed_Next_ev fuel (f1370, f1371, f1372, f1373, f1374) x1 x2).bind fun y1391 => (if InR (x1369 + 1) then ag4e ((x1369 + 1), y1391.2.1.1, y1391.2.1.2.1, y1391.2.1.2.2.1, y1391.2.1.2.2.2.1, y1391.2.1.2.2.2.2) else none)) else ((feed_Next_ev fuel (f1370, f1371, f1372, f1373, f1374) x1 x2).bind fun y1394 => (if y1323.2.2 = (f877.length : Int) then (if ¬ (y1394.2.2 = true) then (if y1394.2.1.2.2.2.1 = x875 then (if y1394.2.1.1 = (x2.2.2.2.2.length : Int) then ((palinodelaw18_awake_ev fuel).bind fun y1417 => palinodelaw18_FeedWhole_j5_ev fuel y1417) else palinodelaw18_FeedWhole_j5_ev fuel false) else palinodelaw18_FeedWhole_j5_ev fuel false) else palinodelaw18_FeedWhole_j5_ev fuel false) else palinodelaw18_FeedWhole_j5_ev fuel false)))
theorem palinodelaw18_FeedWhole_l4_ok {fuel : Nat} {f877 : List ((List UInt8) × Bool)} {x1 : List (ByteArray × (List UInt8))} {x2 : Bool × Bool × Bool × Bool × (List ByteArray)} {y1323 : Bool × Bool × Int} {x875 : Int} {ag4e : (Int × Int × Int × Int × Int × (List UInt8)) → Option (Bool)} {ag4 : (Int × Int × Int × Int × Int × (List UInt8)) → Prop} {x1369 : Int} {f1370 : Int} {f1371 : Int} {f1372 : Int} {f1373 : Int} {f1374 : List UInt8} {r : Bool} (hagag4 : ∀ s, ag4e s = some r → ag4 s) (h : palinodelaw18_FeedWhole_l4_ev fuel f877 x1 x2 y1323 x875 ag4e x1369 f1370 f1371 f1372 f1373 f1374 = some r) : palinodelaw18_FeedWhole_l4 f877 x1 x2 y1323 x875 ag4 x1369 f1370 f1371 f1372 f1373 f1374 r := by
  unfold palinodelaw18_FeedWhole_l4_ev at h
  unfold palinodelaw18_FeedWhole_l4
  refine ⟨fun g262 => ?_, fun g262 => ?_⟩
  · rw [if_pos g262] at h
    obtain ⟨q263, g263, h⟩ := bind_ok h
    refine ⟨q263, feed_Next_ok g263, ?_⟩
    obtain ⟨g264, h⟩ := if_ok h
    refine ⟨g264, ?_⟩
    exact hagag4 _ h
  · rw [if_neg g262] at h
    obtain ⟨q265, g265, h⟩ := bind_ok h
    refine ⟨q265, feed_Next_ok g265, ?_⟩
    refine ⟨fun g266 => ?_, fun g266 => ?_⟩
    · rw [if_pos g266] at h
      refine ⟨fun g267 => ?_, fun g267 => ?_⟩
      · rw [if_pos g267] at h
        refine ⟨fun g268 => ?_, fun g268 => ?_⟩
        · rw [if_pos g268] at h
          refine ⟨fun g269 => ?_, fun g269 => ?_⟩
          · rw [if_pos g269] at h
            obtain ⟨q270, g270, h⟩ := bind_ok h
            refine ⟨q270, palinodelaw18_awake_ok g270, ?_⟩
            exact palinodelaw18_FeedWhole_j5_ok h
          · rw [if_neg g269] at h
            exact palinodelaw18_FeedWhole_j5_ok h
        · rw [if_neg g268] at h
          exact palinodelaw18_FeedWhole_j5_ok h
      · rw [if_neg g267] at h
        exact palinodelaw18_FeedWhole_j5_ok h
    · rw [if_neg g266] at h
      exact palinodelaw18_FeedWhole_j5_ok h
def palinodelaw18_FeedWhole_l1_ev (fuel : Nat) (x2 : Bool × Bool × Bool × Bool × (List ByteArray)) (x1 : List (ByteArray × (List UInt8))) (ag1e : (Int × Int × (List ((List UInt8) × Bool)) × (List Int)) → Option (Bool)) (x875 : Int) (x876 : Int) (f877 : List ((List UInt8) × Bool)) (f879 : List Int) : Option (Bool) :=
  (if x876 < (x2.2.2.2.2.length : Int) then (if 0 ≤ (x876 : Int) then ((x2.2.2.2.2[(x876 : Int).toNat]?).bind fun y1207 => ((palinoderef03_At_ev fuel x1 y1207).bind fun y1210 => (if y1210 < 0 then (if InR (x875 + 1) then palinodelaw18_FeedWhole_j2_ev fuel x876 ag1e (x875 + 1) f877 f879 else none) else (if 0 ≤ (y1210 : Int) then ((x1[(y1210 : Int).toNat]?).bind fun y1217 => ((palinoderef02_Split_ev fuel y1217.2).bind fun y1220 => (loopE (fun ag3e s => palinodelaw18_FeedWhole_l3_ev fuel y1220 x876 ag1e x875 ag3e s.1 s.2.1 s.2.2) fuel (0, f877, f879)))) else none)))) else none) else ((feed_Lines_ev fuel x1 x2).bind fun y1310 => ((feed_Lines_c1_v2_ev fuel false f877 f879 0 y1310.2 y1310.1).bind fun y1323 => (if y1323.1 = true then ((feed_First_ev fuel).bind fun y1326 => (loopE (fun ag4e s => palinodelaw18_FeedWhole_l4_ev fuel f877 x1 x2 y1323 x875 ag4e s.1 s.2.1 s.2.2.1 s.2.2.2.1 s.2.2.2.2.1 s.2.2.2.2.2) fuel (0, y1326.1, y1326.2.1, y1326.2.2.1, y1326.2.2.2.1, y1326.2.2.2.2))) else some y1323.2.1))))
theorem palinodelaw18_FeedWhole_l1_ok {fuel : Nat} {x2 : Bool × Bool × Bool × Bool × (List ByteArray)} {x1 : List (ByteArray × (List UInt8))} {ag1e : (Int × Int × (List ((List UInt8) × Bool)) × (List Int)) → Option (Bool)} {ag1 : (Int × Int × (List ((List UInt8) × Bool)) × (List Int)) → Prop} {x875 : Int} {x876 : Int} {f877 : List ((List UInt8) × Bool)} {f879 : List Int} {r : Bool} (hagag1 : ∀ s, ag1e s = some r → ag1 s) (h : palinodelaw18_FeedWhole_l1_ev fuel x2 x1 ag1e x875 x876 f877 f879 = some r) : palinodelaw18_FeedWhole_l1 x2 x1 ag1 x875 x876 f877 f879 r := by
  unfold palinodelaw18_FeedWhole_l1_ev at h
  unfold palinodelaw18_FeedWhole_l1
  refine ⟨fun g271 => ?_, fun g271 => ?_⟩
  · rw [if_pos g271] at h
    obtain ⟨g272, h⟩ := if_ok h
    refine ⟨g272, ?_⟩
    obtain ⟨q273, g273, h⟩ := bind_ok h
    refine ⟨q273, g273, ?_⟩
    obtain ⟨q274, g274, h⟩ := bind_ok h
    refine ⟨q274, palinoderef03_At_ok g274, ?_⟩
    refine ⟨fun g275 => ?_, fun g275 => ?_⟩
    · rw [if_pos g275] at h
      obtain ⟨g276, h⟩ := if_ok h
      refine ⟨g276, ?_⟩
      exact palinodelaw18_FeedWhole_j2_ok hagag1 h
    · rw [if_neg g275] at h
      obtain ⟨g277, h⟩ := if_ok h
      refine ⟨g277, ?_⟩
      obtain ⟨q278, g278, h⟩ := bind_ok h
      refine ⟨q278, g278, ?_⟩
      obtain ⟨q279, g279, h⟩ := bind_ok h
      refine ⟨q279, palinoderef02_Split_ok g279, ?_⟩
      refine loopE_ok ?_ h
      intro ae ag s hag h
      exact palinodelaw18_FeedWhole_l3_ok hagag1 hag h
  · rw [if_neg g271] at h
    obtain ⟨q280, g280, h⟩ := bind_ok h
    refine ⟨q280, feed_Lines_ok g280, ?_⟩
    obtain ⟨q281, g281, h⟩ := bind_ok h
    refine ⟨q281, feed_Lines_c1_v2_ok g281, ?_⟩
    refine ⟨fun g282 => ?_, fun g282 => ?_⟩
    · rw [if_pos g282] at h
      obtain ⟨q283, g283, h⟩ := bind_ok h
      refine ⟨q283, feed_First_ok g283, ?_⟩
      refine loopE_ok ?_ h
      intro ae ag s hag h
      exact palinodelaw18_FeedWhole_l4_ok hag h
    · rw [if_neg g282] at h
      exact (Option.some.inj h).symm
def palinodelaw18_FeedWhole_ev (fuel : Nat) (x1 : List (ByteArray × (List UInt8))) (x2 : Bool × Bool × Bool × Bool × (List ByteArray)) : Option (Bool) :=
  ((palinoderef18_Great_ev fuel x1 x2).bind fun y9 => (if y9 = true then ((palinodelaw18_awake_ev fuel).bind fun y12 => some y12) else (loopE (fun ag1e s => palinodelaw18_FeedWhole_l1_ev fuel x2 x1 ag1e s.1 s.2.1 s.2.2.1 s.2.2.2) fuel (0, 0, ([] : List ((List UInt8) × Bool)), ([] : List Int)))))
theorem palinodelaw18_FeedWhole_ok {fuel : Nat} {x1 : List (ByteArray × (List UInt8))} {x2 : Bool × Bool × Bool × Bool × (List ByteArray)} {r : Bool} (h : palinodelaw18_FeedWhole_ev fuel x1 x2 = some r) : palinodelaw18_FeedWhole_R x1 x2 r := by
  unfold palinodelaw18_FeedWhole_ev at h
  unfold palinodelaw18_FeedWhole_R
  obtain ⟨q284, g284, h⟩ := bind_ok h
  refine ⟨q284, palinoderef18_Great_ok g284, ?_⟩
  refine ⟨fun g285 => ?_, fun g285 => ?_⟩
  · rw [if_pos g285] at h
    obtain ⟨q286, g286, h⟩ := bind_ok h
    refine ⟨q286, palinodelaw18_awake_ok g286, ?_⟩
    exact (Option.some.inj h).symm
  · rw [if_neg g285] at h
    refine loopE_ok ?_ h
    intro ae ag s hag h
    exact palinodelaw18_FeedWhole_l1_ok hag h
set_option maxHeartbeats 4000000 in
theorem palinodelaw18_FeedWhole_con (x1 : List (ByteArray × (List UInt8))) (x2 : Bool × Bool × Bool × Bool × (List ByteArray)) (r : Bool) (h : palinodelaw18_FeedWhole_R x1 x2 r) : Con Try.prog 3 [.sl 2 none (List.map E_palinode_api_File x1), .agg [.v (.bool x2.1), .v (.bool x2.2.1), .v (.bool x2.2.2.1), .v (.bool x2.2.2.2.1), .sl 1 none (List.map es x2.2.2.2.2)]] [] [] (Ret (.v (.bool r))) := by
  refine xenterM Try.func3 rfl rfl fun g hg => ?_
  simp only [Try.ntmps3, slots]
  refine xseq ?_
  refine xregion ?_
  refine xbox rfl rfl rfl rfl fun b3 => ?_
  refine xalloc InfC.h rfl rfl fun b4 => ?_
  refine xnil ?_
  refine xthen ?_
  refine xseq ?_
  refine xseq ?_
  refine xregion ?_
  refine xvalP (pv_move rfl) rfl rfl ?_
  refine xval (qv_loadB 1 ShpC.h rfl rfl rfl rfl) rfl rfl ?_
  obtain ⟨y9, h8, h⟩ := h
  refine xcall0 (palinoderef18_Great_con x1 x2 _ h8) Try.func8 (by kernel_rfl) rfl (.cons rfl (.refl _) (.cons rfl (.refl _) .nil)) rfl rfl ?_
  refine xnil ?_
  refine xthen ?_
  by_cases hp10 : y9 = true
  · replace h := h.1 hp10
    refine xcondT' hp10 rfl ?_
    refine xseq ?_
    refine xregion ?_
    obtain ⟨y12, h11, h⟩ := h
    refine xcall0 (palinodelaw18_awake_con _ h11) Try.func9 (by kernel_rfl) rfl .nil rfl rfl ?_
    refine xstore 0 ShpC.h rfl rfl rfl rfl rfl rfl rfl ?_
    refine xnil ?_
    refine xthen ?_
    refine xretc ?_
    refine xthen_ret ?_
    refine xretM0 ?_
    replace h := h.symm
    subst h
    exact xretL (rs := [.cell 4 4]) (ss := [.v (.bool y12)]) hg rfl (by refine RetL.cell 0 ShpC.h rfl rfl rfl (Nat.le_of_ble_eq_true rfl) (.refl _) ?_; exact RetL.nil) (SubM.of (.nil _) (.nil _)) ⟨rfl, rfl, rfl⟩
  · replace h := h.2 hp10
    refine xcondF' (b_f hp10) rfl ?_
    refine xskipc ?_
    refine xthen ?_
    refine xseq ?_
    refine xregion ?_
    refine xalloc InfC.h rfl rfl fun b5 => ?_
    refine xnil ?_
    refine xthen ?_
    refine xseq ?_
    refine xregion ?_
    refine xalloc InfC.h rfl rfl fun b6 => ?_
    refine xnil ?_
    refine xthen ?_
    refine xseq ?_
    refine xregion ?_
    refine xvalP (pv_assign rfl) rfl rfl ?_
    refine xnil ?_
    refine xthen ?_
    refine xseq ?_
    refine xseq ?_
    refine xregion ?_
    refine xvalP (pv_assign rfl) rfl rfl ?_
    refine xnil ?_
    refine xthen ?_
    refine xblock ?_
    obtain ⟨Inv, ⟨m0, hI⟩, hS⟩ := h
    refine xloop (fun σ m => ∃ (x875 : Int), ∃ (x876 : Int), ∃ (f877 : List ((List UInt8) × Bool)), ∃ (f879 : List Int), ∃ (i878 : Option (Nat × Nat)), ∃ (i880 : Option (Nat × Nat)), Inv (x875, x876, f877, f879) m ∧ σ = ⟨[(0, .sl 2 none (List.map E_palinode_api_File x1)), (3, .v (.pointer (some ⟨b3, 0, none⟩))), (4, .v (.pointer (some ⟨b4, 0, none⟩))), (5, .v (.pointer (some ⟨b5, 0, none⟩))), (6, .v (.pointer (some ⟨b6, 0, none⟩))), (7, .v (.int .i64 x875)), (8, .v (.int .i64 x876))], [⟨b6, 29, [.sl 1 (some i880) (List.map ei f879)]⟩, ⟨b5, 28, [.sl 2 (some i878) (List.map E_palinode_api_Line f877)]⟩, ⟨b4, 4, [.v (.bool false)]⟩, ⟨b3, 25, [.v (.bool x2.1), .v (.bool x2.2.1), .v (.bool x2.2.2.1), .v (.bool x2.2.2.2.1), .sl 1 none (List.map es x2.2.2.2.2)]⟩], [⟨i880, 3, 1, f879.length⟩, ⟨i878, 36, 2, f877.length⟩]⟩) ⟨0, 0, ([] : List ((List UInt8) × Bool)), ([] : List Int), none, none, hI, rfl⟩ ⟨(.cons rfl (.refl _) (.cons rfl (.refl _) (.cons rfl (.refl _) (.cons rfl (.refl _) (.cons rfl (.refl _) (.cons rfl (.refl _) (.cons rfl (.refl _) (.nil _)))))))), (SubM.of (.keep rfl rfl (.cons (.nil_own _) .nil) (.keep rfl rfl (.cons (.nil_own _) .nil) (.keep rfl rfl (.refl _) (.keep rfl rfl (.refl _) (.nil _))))) (.add (.add (.nil _))))⟩ ?_
    rintro _ m ⟨x875, x876, f877, f879, i878, i880, hI, rfl⟩
    obtain ⟨ag1, hag1, h⟩ : ∃ ag, (∀ s', ag s' → ∃ m', m' < m ∧ Inv s' m') ∧ palinodelaw18_FeedWhole_l1 x2 x1 ag x875 x876 f877 f879 r := ⟨_, fun _ h => h, hS (x875, x876, f877, f879) _ hI⟩
    clear hS hI
    refine xseq ?_
    refine xseq ?_
    refine xregion ?_
    refine xvalP (pv_move rfl) rfl rfl ?_
    refine xvalP (qv_fieldAddrB FldC.h rfl) rfl rfl ?_
    refine xval (qv_loadB 3 ShpC.h rfl rfl rfl rfl) rfl rfl ?_
    refine xvalP (pv_lenM UndC.h rfl) rfl rfl ?_
    refine xvalP (pv_bin2 rfl rfl rfl) rfl rfl ?_
    refine xnil ?_
    refine xthen ?_
    by_cases hp1100 : x876 < (x2.2.2.2.2.length : Int)
    · replace h := h.1 hp1100
      refine xcondT' (decide_eq_true hp1100) rfl ?_
      refine xskipc ?_
      refine xthen ?_
      refine xseqM (fun σ => ∃ (x1202 : Int), ∃ (f1203 : List ((List UInt8) × Bool)), ∃ (f1205 : List Int), ∃ (i1204 : Option (Nat × Nat)), ∃ (i1206 : Option (Nat × Nat)), palinodelaw18_FeedWhole_j2 x876 ag1 x1202 f1203 f1205 r ∧ σ = ⟨[(0, .sl 2 none (List.map E_palinode_api_File x1)), (3, .v (.pointer (some ⟨b3, 0, none⟩))), (4, .v (.pointer (some ⟨b4, 0, none⟩))), (5, .v (.pointer (some ⟨b5, 0, none⟩))), (6, .v (.pointer (some ⟨b6, 0, none⟩))), (7, .v (.int .i64 x1202)), (8, .v (.int .i64 x876))], [⟨b6, 29, [.sl 1 (some i1206) (List.map ei f1205)]⟩, ⟨b5, 28, [.sl 2 (some i1204) (List.map E_palinode_api_Line f1203)]⟩, ⟨b4, 4, [.v (.bool false)]⟩, ⟨b3, 25, [.v (.bool x2.1), .v (.bool x2.2.1), .v (.bool x2.2.2.1), .v (.bool x2.2.2.2.1), .sl 1 none (List.map es x2.2.2.2.2)]⟩], [⟨i1206, 3, 1, f1205.length⟩, ⟨i1204, 36, 2, f1203.length⟩]⟩) ?_ ?_
      · refine xblock ?_
        refine xseq ?_
        refine xregion ?_
        refine xvalP (pv_move rfl) rfl rfl ?_
        refine xvalP (qv_fieldAddrB FldC.h rfl) rfl rfl ?_
        refine xval (qv_loadB 3 ShpC.h rfl rfl rfl rfl) rfl rfl ?_
        refine xvalP (pv_move rfl) rfl rfl ?_
        obtain ⟨h1208a, h⟩ := h
        obtain ⟨y1207, h1208b, h⟩ := h
        refine xvalP (pv_indexAddrM h1208a h1208b UndC.h ShpC.h rfl rfl) rfl rfl ?_
        refine xval (qv_load ShpC.h rfl rfl rfl) rfl rfl ?_
        obtain ⟨y1210, h1209, h⟩ := h
        refine xcall0 (palinoderef03_At_con x1 y1207 _ h1209) Try.func10 (by kernel_rfl) rfl (.cons rfl (.refl _) (.cons rfl (.refl _) .nil)) rfl rfl ?_
        refine xvalP (pv_assign rfl) rfl rfl ?_
        refine xnil ?_
        refine xthen ?_
        refine xseq ?_
        refine xseq ?_
        refine xregion ?_
        refine xvalP (pv_move rfl) rfl rfl ?_
        refine xvalP (pv_bin2 rfl rfl rfl) rfl rfl ?_
        refine xnil ?_
        refine xthen ?_
        by_cases hp1215 : y1210 < 0
        · replace h := h.1 hp1215
          refine xcondT' (decide_eq_true hp1215) rfl ?_
          refine xseq ?_
          refine xregion ?_
          refine xvalP (pv_move rfl) rfl rfl ?_
          obtain ⟨h1216, h⟩ := h
          refine xvalP (pv_addI h1216 rfl rfl) rfl rfl ?_
          refine xvalP (pv_assign rfl) rfl rfl ?_
          refine xnil ?_
          refine xthen ?_
          refine xexit ?_
          refine xthen_exit ?_
          refine xin_same rfl ?_
          exact xmeet ⟨(x875 + 1), f877, f879, i878, i880, h, rfl⟩ ⟨(.cons rfl (.refl _) (.cons rfl (.refl _) (.cons rfl (.refl _) (.cons rfl (.refl _) (.cons rfl (.refl _) (.cons rfl (.refl _) (.cons rfl (.refl _) (.nil _)))))))), (SubM.of (.keep rfl rfl (.refl _) (.keep rfl rfl (.refl _) (.keep rfl rfl (.refl _) (.keep rfl rfl (.refl _) (.nil _))))) (.keep rfl (.keep rfl (.nil _))))⟩
        · replace h := h.2 hp1215
          refine xcondF' (decide_eq_false hp1215) rfl ?_
          refine xskipc ?_
          refine xthen ?_
          refine xseq ?_
          refine xregion ?_
          refine xvalP (pv_move rfl) rfl rfl ?_
          refine xvalP (pv_move rfl) rfl rfl ?_
          obtain ⟨h1218a, h⟩ := h
          obtain ⟨y1217, h1218b, h⟩ := h
          refine xvalP (pv_indexAddrM h1218a h1218b UndC.h ShpC.h rfl rfl) rfl rfl ?_
          refine xvalP (qv_fieldAddrE FldC.h rfl) rfl rfl ?_
          refine xval (qv_load ShpC.h rfl rfl rfl) rfl rfl ?_
          obtain ⟨y1220, h1219, h⟩ := h
          refine xcallM (palinoderef02_Split_con y1217.2 _ h1219) Try.func11 (by kernel_rfl) rfl (.cons rfl (.refl _) .nil) rfl rfl fun i1221 => ?_
          refine xvalP (pv_assign rfl) rfl rfl ?_
          refine xnil ?_
          refine xthen ?_
          refine xseq ?_
          refine xregion ?_
          refine xvalP (pv_assign rfl) rfl rfl ?_
          refine xnil ?_
          refine xthen ?_
          refine xblock ?_
          obtain ⟨Inv, ⟨m0, hI⟩, hS⟩ := h
          refine xloop (fun σ m => ∃ (x1249 : Int), ∃ (f1250 : List ((List UInt8) × Bool)), ∃ (f1252 : List Int), ∃ (i1251 : Option (Nat × Nat)), ∃ (i1253 : Option (Nat × Nat)), Inv (x1249, f1250, f1252) m ∧ σ = ⟨[(0, .sl 2 none (List.map E_palinode_api_File x1)), (3, .v (.pointer (some ⟨b3, 0, none⟩))), (4, .v (.pointer (some ⟨b4, 0, none⟩))), (5, .v (.pointer (some ⟨b5, 0, none⟩))), (6, .v (.pointer (some ⟨b6, 0, none⟩))), (7, .v (.int .i64 x875)), (8, .v (.int .i64 x876)), (10, .sl 2 (some i1221) (List.map E_palinode_api_Line y1220)), (11, .v (.int .i64 x1249))], [⟨b6, 29, [.sl 1 (some i1253) (List.map ei f1252)]⟩, ⟨b5, 28, [.sl 2 (some i1251) (List.map E_palinode_api_Line f1250)]⟩, ⟨b4, 4, [.v (.bool false)]⟩, ⟨b3, 25, [.v (.bool x2.1), .v (.bool x2.2.1), .v (.bool x2.2.2.1), .v (.bool x2.2.2.2.1), .sl 1 none (List.map es x2.2.2.2.2)]⟩], [⟨i1221, 36, 2, y1220.length⟩, ⟨i1253, 3, 1, f1252.length⟩, ⟨i1251, 36, 2, f1250.length⟩]⟩) ⟨0, f877, f879, i878, i880, hI, rfl⟩ ⟨(.cons rfl (.refl _) (.cons rfl (.refl _) (.cons rfl (.refl _) (.cons rfl (.refl _) (.cons rfl (.refl _) (.cons rfl (.refl _) (.cons rfl (.refl _) (.cons rfl (.refl _) (.cons rfl (.refl _) (.nil _)))))))))), (SubM.of (.keep rfl rfl (.refl _) (.keep rfl rfl (.refl _) (.keep rfl rfl (.refl _) (.keep rfl rfl (.refl _) (.nil _))))) (.keep rfl (.keep rfl (.keep rfl (.nil _)))))⟩ ?_
          rintro _ m ⟨x1249, f1250, f1252, i1251, i1253, hI, rfl⟩
          obtain ⟨ag3, hag3, h⟩ : ∃ ag, (∀ s', ag s' → ∃ m', m' < m ∧ Inv s' m') ∧ palinodelaw18_FeedWhole_l3 y1220 x876 ag1 x875 ag x1249 f1250 f1252 r := ⟨_, fun _ h => h, hS (x1249, f1250, f1252) _ hI⟩
          clear hS hI
          refine xseq ?_
          refine xseq ?_
          refine xregion ?_
          refine xvalP (pv_move rfl) rfl rfl ?_
          refine xvalP (pv_move rfl) rfl rfl ?_
          refine xvalP (pv_lenM UndC.h rfl) rfl rfl ?_
          refine xvalP (pv_bin2 rfl rfl rfl) rfl rfl ?_
          refine xnil ?_
          refine xthen ?_
          by_cases hp1286 : x1249 < (y1220.length : Int)
          · replace h := h.1 hp1286
            refine xcondT' (decide_eq_true hp1286) rfl ?_
            refine xskipc ?_
            refine xthen ?_
            refine xseq ?_
            refine xblock ?_
            refine xseq ?_
            refine xregionD (m := 8) (by kernel_rfl) rfl ?_
            obtain ⟨h1302a, h⟩ := h
            obtain ⟨y1301, h1302b, h⟩ := h
            obtain ⟨h1303, h⟩ := h
            refine xpval 1 rfl (pv_move rfl) rfl rfl (by kernel_rfl) (by kernel_rfl) (by kernel_rfl) (fun _ _ _ _ h => h) ?_
            refine xpval 2 rfl (pv_move rfl) rfl rfl (by kernel_rfl) (by kernel_rfl) (by kernel_rfl) (fun _ _ _ _ h => h) ?_
            refine xpval 3 rfl (pv_indexAddrM h1302a h1302b UndC.h ShpC.h rfl rfl) rfl rfl (by kernel_rfl) (by kernel_rfl) (by kernel_rfl) (fun _ _ _ _ h => h) ?_
            refine xpvalE 0 [4, 5] rfl (qv_loadB 1 ShpC.h rfl rfl rfl rfl) rfl rfl (by kernel_rfl) (by kernel_rfl) (by kernel_rfl) (fun _ _ _ _ h => h) ?_
            refine xpvalE 4 [] rfl (qv_load ShpC.h rfl rfl rfl) rfl rfl (by kernel_rfl) (by kernel_rfl) (by kernel_rfl) (fun _ _ _ _ h => h) ?_
            refine xpstep (i := 5) (by kernel_rfl) rfl ?_
            refine wbuildSliceM (f := E_palinode_api_Line) [y1301] UndC.h InfC.h rfl rfl (by first | exact wkR_of rfl | (repeat (first | exact WkR.nil | refine WkR.cons (by (repeat (first | exact WkL.nil | refine WkL.cons (by first | with_reducible exact Wk.refl _ | exact Wk.nil_own _ | exact Wk.nil_pl _ | with_reducible exact Wk.tok _ _ _ | exact Wk.tok _ _ _ | exact Wk.eq (by first | rfl | (simp []; done) | (simp []; omega))) ?_))) ?_))) rfl rfl rfl rfl fun s59 => ?_
            refine xpstep (i := 6) (by kernel_rfl) rfl ?_
            refine wappendM (l := f1250) (l2 := [y1301]) 3 h1303 UndC.h InfC.h rfl rfl rfl (.refl _) rfl rfl rfl fun i1304 => ?_
            refine xpstep (i := 7) (by kernel_rfl) rfl ?_
            refine wstore 1 ShpC.h rfl rfl rfl rfl rfl rfl rfl ?_
            refine xpdone (by kernel_rfl) ?_
            refine xthen ?_
            refine xregion ?_
            refine xval (qv_loadB 0 ShpC.h rfl rfl rfl rfl) rfl rfl ?_
            refine xvalP (pv_move rfl) rfl rfl ?_
            refine xbuildSliceM (f := ei) [x876] UndC.h InfC.h rfl rfl (by first | exact wkR_of rfl | (repeat (first | exact WkR.nil | refine WkR.cons (by (repeat (first | exact WkL.nil | refine WkL.cons (by first | with_reducible exact Wk.refl _ | exact Wk.nil_own _ | exact Wk.nil_pl _ | with_reducible exact Wk.tok _ _ _ | exact Wk.tok _ _ _ | exact Wk.eq (by first | rfl | (simp []; done) | (simp []; omega))) ?_))) ?_))) rfl rfl rfl rfl fun s63 => ?_
            obtain ⟨h1305, h⟩ := h
            refine xappendM (l := f1252) (l2 := [x876]) 3 h1305 UndC.h InfC.h rfl rfl rfl (.refl _) rfl rfl rfl fun i1306 => ?_
            refine xstore 0 ShpC.h rfl rfl rfl rfl rfl rfl rfl ?_
            refine xnil ?_
            refine xin_normal ?_
            refine xthen ?_
            refine xregion ?_
            refine xvalP (pv_move rfl) rfl rfl ?_
            obtain ⟨h1307, h⟩ := h
            refine xvalP (pv_addI h1307 rfl rfl) rfl rfl ?_
            refine xvalP (pv_assign rfl) rfl rfl ?_
            refine xnil ?_
            obtain ⟨m', hm, hI⟩ := hag3 _ h
            exact xagain ⟨(x1249 + 1), (f1250 ++ [y1301]), (f1252 ++ [x876]), i1304, i1306, hI, rfl⟩ hm ⟨(.cons rfl (.refl _) (.cons rfl (.refl _) (.cons rfl (.refl _) (.cons rfl (.refl _) (.cons rfl (.refl _) (.cons rfl (.refl _) (.cons rfl (.refl _) (.cons rfl (.refl _) (.cons rfl (.refl _) (.nil _)))))))))), (SubM.of (.keep rfl rfl (.refl _) (.keep rfl rfl (.refl _) (.keep rfl rfl (.refl _) (.keep rfl rfl (.refl _) (.nil _))))) (.drop (.drop (.keep rfl (.keep rfl (.keep rfl (.nil _)))))))⟩
          · replace h := h.2 hp1286
            refine xcondF' (decide_eq_false hp1286) rfl ?_
            refine xexit ?_
            refine xthen_exit ?_
            refine xthen_exit ?_
            refine xin_same rfl ?_
            refine xin_normal ?_
            exact xmeet ⟨x875, f1250, f1252, i1251, i1253, h, rfl⟩ ⟨(.cons rfl (.refl _) (.cons rfl (.refl _) (.cons rfl (.refl _) (.cons rfl (.refl _) (.cons rfl (.refl _) (.cons rfl (.refl _) (.cons rfl (.refl _) (.nil _)))))))), (SubM.of (.keep rfl rfl (.refl _) (.keep rfl rfl (.refl _) (.keep rfl rfl (.refl _) (.keep rfl rfl (.refl _) (.nil _))))) (.drop (.keep rfl (.keep rfl (.nil _)))))⟩
      · clear h
        rintro _ ⟨x1202, f1203, f1205, i1204, i1206, h, rfl⟩
        refine xregion ?_
        refine xvalP (pv_move rfl) rfl rfl ?_
        obtain ⟨h1308, h⟩ := h
        refine xvalP (pv_addI h1308 rfl rfl) rfl rfl ?_
        refine xvalP (pv_assign rfl) rfl rfl ?_
        refine xnil ?_
        obtain ⟨m', hm, hI⟩ := hag1 _ h
        exact xagain ⟨x1202, (x876 + 1), f1203, f1205, i1204, i1206, hI, rfl⟩ hm ⟨(.cons rfl (.refl _) (.cons rfl (.refl _) (.cons rfl (.refl _) (.cons rfl (.refl _) (.cons rfl (.refl _) (.cons rfl (.refl _) (.cons rfl (.refl _) (.nil _)))))))), (SubM.of (.keep rfl rfl (.refl _) (.keep rfl rfl (.refl _) (.keep rfl rfl (.refl _) (.keep rfl rfl (.refl _) (.nil _))))) (.keep rfl (.keep rfl (.nil _))))⟩
    · replace h := h.2 hp1100
      refine xcondF' (decide_eq_false hp1100) rfl ?_
      refine xexit ?_
      refine xthen_exit ?_
      refine xthen_exit ?_
      refine xin_same rfl ?_
      refine xthen ?_
      refine xseq ?_
      refine xregion ?_
      refine xalloc InfC.h rfl rfl fun b12 => ?_
      refine xstore 0 ShpC.h rfl rfl rfl rfl rfl rfl rfl ?_
      refine xnil ?_
      refine xthen ?_
      refine xseq ?_
      refine xregion ?_
      refine xvalP (pv_move rfl) rfl rfl ?_
      refine xval (qv_loadB 4 ShpC.h rfl rfl rfl rfl) rfl rfl ?_
      obtain ⟨y1310, h1309, h⟩ := h
      refine xcallF (Fb := [⟨b12, 3, [.v (.int .i64 0)]⟩, ⟨b6, 29, [.sl 1 (some i880) (List.map ei f879)]⟩, ⟨b5, 28, [.sl 2 (some i878) (List.map E_palinode_api_Line f877)]⟩, ⟨b4, 4, [.v (.bool false)]⟩, ⟨b3, 25, [.v (.bool x2.1), .v (.bool x2.2.1), .v (.bool x2.2.2.1), .v (.bool x2.2.2.2.1), .sl 1 none (List.map es x2.2.2.2.2)]⟩]) (Ft := [⟨i880, 3, 1, f879.length⟩, ⟨i878, 36, 2, f877.length⟩]) (feed_Lines_con x1 x2 _ h1309) Try.func12 (by kernel_rfl) rfl (.cons rfl (.refl _) (.cons rfl (.refl _) .nil)) (by exact (SubM.of (by repeat (first | with_reducible exact SubB.refl _ | exact SubB.nil _ | refine SubB.keep rfl rfl (by first | with_reducible exact WkL.refl _ | ((repeat (first | exact WkL.nil | refine WkL.cons (by first | with_reducible exact Wk.refl _ | exact Wk.nil_own _ | exact Wk.nil_pl _ | with_reducible exact Wk.tok _ _ _ | exact Wk.tok _ _ _ | exact Wk.eq (by first | rfl | (simp []; done) | (simp []; omega))) ?_)); done) | exact WkL.refl _) ?_ | refine SubB.drop ?_)) (by repeat (first | exact SubT.nil _ | refine SubT.add ?_ | (refine SubT.keep ?_ ?_; focus (first | with_reducible rfl | (simp []; done))) | refine SubT.drop ?_)))) rfl rfl ?_
      rintro _ _ _ ⟨b1311, b1312, rfl, rfl, rfl⟩
      simp only [List.nil_append, List.cons_append]
      refine xvalP (pv_assign rfl) rfl rfl ?_
      refine xnil ?_
      refine xthen ?_
      refine xseq ?_
      refine xseq ?_
      refine xregion ?_
      refine xvalP (pv_move rfl) rfl rfl ?_
      refine xvalP (pv_eqFn UndC.h rfl rfl) rfl rfl ?_
      refine xnil ?_
      refine xthen ?_
      refine xcondF rfl ?_
      refine xskipc ?_
      refine xthen ?_
      refine xseq ?_
      refine xseq ?_
      refine xregion ?_
      refine xvalP (pv_move rfl) rfl rfl ?_
      refine xnil ?_
      refine xthen ?_
      refine xblock ?_
      obtain ⟨y1323, h1322, h⟩ := h
      refine xrange (Fb := [⟨b3, 25, [.v (.bool x2.1), .v (.bool x2.2.1), .v (.bool x2.2.2.1), .v (.bool x2.2.2.2.1), .sl 1 none (List.map es x2.2.2.2.2)]⟩]) (Ft := []) (palinodelaw18_FeedWhole_y1_Y b4 b5 b6 b12) hg.rd hg.ds (fun L hY => feed_Lines_c1_v2_con false f877 f879 0 y1310.2 y1310.1 b4 b5 b6 b12 b1312 b1311 i878 i880 hY _ h1322) Try.func21 (by kernel_rfl) rfl rfl (by refine SubM.trans (SubM.mvB 0 rfl) ?_; refine SubM.trans (SubM.mvB 1 rfl) ?_; refine SubM.trans (SubM.mvB 2 rfl) ?_; refine SubM.trans (SubM.mvB 3 rfl) ?_; refine SubM.trans (SubM.mvB 4 rfl) ?_; refine SubM.trans (SubM.mvB 5 rfl) ?_; refine SubM.trans (SubM.mvT 0 rfl) ?_; refine SubM.trans (SubM.mvT 1 rfl) ?_; (simp only [List.eraseIdx]); exact (SubM.of (by repeat (first | with_reducible exact SubB.refl _ | exact SubB.nil _ | refine SubB.keep rfl rfl (by first | with_reducible exact WkL.refl _ | ((repeat (first | exact WkL.nil | refine WkL.cons (by first | with_reducible exact Wk.refl _ | exact Wk.nil_own _ | exact Wk.nil_pl _ | with_reducible exact Wk.tok _ _ _ | exact Wk.tok _ _ _ | exact Wk.eq (by first | rfl | (simp []; done) | (simp []; omega))) ?_)); done) | exact WkL.refl _) ?_ | refine SubB.drop ?_)) (by repeat (first | exact SubT.nil _ | refine SubT.add ?_ | (refine SubT.keep ?_ ?_; focus (first | with_reducible rfl | (simp []; done))) | refine SubT.drop ?_)))) (fun l => ?_) ?_
      · intro o20001 o20002 o20004 o20006 x20007 x20008 ia20003 ia20005 r h
        refine xround (psl := [71, 72]) rfl rfl fun g r0 hg => ?_
        refine ximp (σ' := ⟨[(71, .v (.int .i64 x20007)), (72, .agg [.sl 1 none (List.map eb x20008.1), .v (.bool x20008.2)]), (4, .v (.pointer (some ⟨b4, 0, none⟩))), (5, .v (.pointer (some ⟨b5, 0, none⟩))), (6, .v (.pointer (some ⟨b6, 0, none⟩))), (12, .v (.pointer (some ⟨b12, 0, none⟩)))], [⟨b4, 4, [.v (.bool o20001)]⟩, ⟨b5, 28, [.sl 2 (some ia20003) (List.map E_palinode_api_Line o20002)]⟩, ⟨b6, 29, [.sl 1 (some ia20005) (List.map ei o20004)]⟩, ⟨b12, 3, [.v (.int .i64 o20006)]⟩], [⟨ia20003, 36, 2, o20002.length⟩, ⟨ia20005, 3, 1, o20004.length⟩]⟩) ⟨(.cons rfl (.refl _) (.cons rfl (.refl _) (.cons rfl (.refl _) (.cons rfl (.refl _) (.cons rfl (.refl _) (.cons rfl (.refl _) (.nil _))))))), SubM.refl _ _⟩ ?_
        refine xseq ?_
        refine xregion ?_
        refine xvalP (pv_assign rfl) rfl rfl ?_
        refine xnil ?_
        refine xthen ?_
        refine xregion ?_
        refine xalloc InfC.h rfl rfl fun b15 => ?_
        refine xstore 0 ShpC.h rfl rfl rfl rfl rfl rfl rfl ?_
        refine xnil ?_
        refine xbegin hg ?_
        refine xblock ?_
        refine xseq ?_
        refine xseq ?_
        refine xregionD (m := 21) (by kernel_rfl) rfl ?_
        refine xpvalE 0 [1, 2] rfl (qv_loadB 4 ShpC.h rfl rfl rfl rfl) rfl rfl (by kernel_rfl) (by kernel_rfl) (by kernel_rfl) (fun _ _ _ _ h => h) ?_
        refine xpvalE 1 [] rfl (qv_loadB 2 ShpC.h rfl rfl rfl rfl) rfl rfl (by kernel_rfl) (by kernel_rfl) (by kernel_rfl) (fun _ _ _ _ h => h) ?_
        refine xpval 2 rfl (pv_lenM UndC.h rfl) rfl rfl (by kernel_rfl) (by kernel_rfl) (by kernel_rfl) (fun _ _ _ _ h => h) ?_
        refine xpval 3 rfl (pv_bin2 rfl rfl rfl) rfl rfl (by kernel_rfl) (by kernel_rfl) (by kernel_rfl) (fun _ _ _ _ h => h) ?_
        refine xpval 4 rfl (pv_move rfl) rfl rfl (by kernel_rfl) (by kernel_rfl) (by kernel_rfl) (fun _ _ _ _ h => h) ?_
        by_cases hp20045 : (o20002.length : Int) ≤ o20006
        · replace h := h.1 hp20045
          refine psetB 77 (decide_eq_true hp20045) rfl ?_
          refine xpskip 5 rfl rfl rfl (by kernel_rfl) (by kernel_rfl) (by kernel_rfl) (fun _ _ _ _ h => h) ?_
          refine xpskip 6 rfl rfl rfl (by kernel_rfl) (by kernel_rfl) (by kernel_rfl) (fun _ _ _ _ h => h) ?_
          refine xpskip 7 rfl rfl rfl (by kernel_rfl) (by kernel_rfl) (by kernel_rfl) (fun _ _ _ _ h => h) ?_
          refine xpskip 8 rfl rfl rfl (by kernel_rfl) (by kernel_rfl) (by kernel_rfl) (fun _ _ _ _ h => h) ?_
          refine xpskip 9 rfl rfl rfl (by kernel_rfl) (by kernel_rfl) (by kernel_rfl) (fun _ _ _ _ h => h) ?_
          refine xpskip 10 rfl rfl rfl (by kernel_rfl) (by kernel_rfl) (by kernel_rfl) (fun _ _ _ _ h => h) ?_
          refine xpval 11 rfl (pv_pick rfl rfl) rfl rfl (by kernel_rfl) (by kernel_rfl) (by kernel_rfl) (fun _ _ _ _ h => h) ?_
          refine xpval 12 rfl (pv_move rfl) rfl rfl (by kernel_rfl) (by kernel_rfl) (by kernel_rfl) (fun _ _ _ _ h => h) ?_
          refine xpskip 13 rfl rfl rfl (by kernel_rfl) (by kernel_rfl) (by kernel_rfl) (fun _ _ _ _ h => h) ?_
          refine xpskip 14 rfl rfl rfl (by kernel_rfl) (by kernel_rfl) (by kernel_rfl) (fun _ _ _ _ h => h) ?_
          refine xpskip 15 rfl rfl rfl (by kernel_rfl) (by kernel_rfl) (by kernel_rfl) (fun _ _ _ _ h => h) ?_
          refine xpskip 16 rfl rfl rfl (by kernel_rfl) (by kernel_rfl) (by kernel_rfl) (fun _ _ _ _ h => h) ?_
          refine xpskip 17 rfl rfl rfl (by kernel_rfl) (by kernel_rfl) (by kernel_rfl) (fun _ _ _ _ h => h) ?_
          refine xpskip 18 rfl rfl rfl (by kernel_rfl) (by kernel_rfl) (by kernel_rfl) (fun _ _ _ _ h => h) ?_
          refine xpskip 19 rfl rfl rfl (by kernel_rfl) (by kernel_rfl) (by kernel_rfl) (fun _ _ _ _ h => h) ?_
          refine xpval 20 rfl (pv_pick rfl rfl) rfl rfl (by kernel_rfl) (by kernel_rfl) (by kernel_rfl) (fun _ _ _ _ h => h) ?_
          refine xpdone (by kernel_rfl) ?_
          refine xthen ?_
          refine xcondT rfl ?_
          refine xseq ?_
          refine xregion ?_
          refine xstore 1 ShpC.h rfl rfl rfl rfl rfl rfl rfl ?_
          refine xnil ?_
          refine xthen ?_
          refine xretc ?_
          refine xthen_ret ?_
          refine xin_ret ?_
          replace h := h.symm
          subst h
          exact xyret hg rfl (SubM.of (.drop (.keep rfl rfl (.refl _) (.keep rfl rfl (.refl _) (.keep rfl rfl (.refl _) (.keep rfl rfl (.refl _) (.nil _)))))) (.keep rfl (.keep rfl (.nil _)))) ⟨rfl, rfl, rfl⟩
        · replace h := h.2 hp20045
          refine psetB 77 (decide_eq_false hp20045) rfl ?_
          obtain ⟨h20047a, h⟩ := h
          obtain ⟨y20046, h20047b, h⟩ := h
          refine xpval 5 rfl (pv_move rfl) rfl rfl (by kernel_rfl) (by kernel_rfl) (by kernel_rfl) (fun _ _ _ _ h => h) ?_
          refine xpvalE 6 [7] rfl (qv_loadB 3 ShpC.h rfl rfl rfl rfl) rfl rfl (by kernel_rfl) (by kernel_rfl) (by kernel_rfl) (fun _ _ _ _ h => h) ?_
          refine xpvalE 7 [] rfl (qv_loadB 4 ShpC.h rfl rfl rfl rfl) rfl rfl (by kernel_rfl) (by kernel_rfl) (by kernel_rfl) (fun _ _ _ _ h => h) ?_
          refine xpval 8 rfl (pv_indexAddrM h20047a h20047b UndC.h ShpC.h rfl rfl) rfl rfl (by kernel_rfl) (by kernel_rfl) (by kernel_rfl) (fun _ _ _ _ h => h) ?_
          refine xpvalE 9 [] rfl (qv_load ShpC.h rfl rfl rfl) rfl rfl (by kernel_rfl) (by kernel_rfl) (by kernel_rfl) (fun _ _ _ _ h => h) ?_
          refine xpval 10 rfl (pv_bin2 rfl rfl rfl) rfl rfl (by kernel_rfl) (by kernel_rfl) (by kernel_rfl) (fun _ _ _ _ h => h) ?_
          refine xpval 11 rfl (pv_pick rfl rfl) rfl rfl (by kernel_rfl) (by kernel_rfl) (by kernel_rfl) (fun _ _ _ _ h => h) ?_
          refine xpval 12 rfl (pv_move rfl) rfl rfl (by kernel_rfl) (by kernel_rfl) (by kernel_rfl) (fun _ _ _ _ h => h) ?_
          by_cases hp20049 : ¬ (x20007 = y20046)
          · replace h := h.1 hp20049
            refine psetB 85 (not_t (decide_eq_false hp20049)) rfl ?_
            refine xpskip 13 rfl rfl rfl (by kernel_rfl) (by kernel_rfl) (by kernel_rfl) (fun _ _ _ _ h => h) ?_
            refine xpskip 14 rfl rfl rfl (by kernel_rfl) (by kernel_rfl) (by kernel_rfl) (fun _ _ _ _ h => h) ?_
            refine xpskip 15 rfl rfl rfl (by kernel_rfl) (by kernel_rfl) (by kernel_rfl) (fun _ _ _ _ h => h) ?_
            refine xpskip 16 rfl rfl rfl (by kernel_rfl) (by kernel_rfl) (by kernel_rfl) (fun _ _ _ _ h => h) ?_
            refine xpskip 17 rfl rfl rfl (by kernel_rfl) (by kernel_rfl) (by kernel_rfl) (fun _ _ _ _ h => h) ?_
            refine xpskip 18 rfl rfl rfl (by kernel_rfl) (by kernel_rfl) (by kernel_rfl) (fun _ _ _ _ h => h) ?_
            refine xpskip 19 rfl rfl rfl (by kernel_rfl) (by kernel_rfl) (by kernel_rfl) (fun _ _ _ _ h => h) ?_
            refine xpval 20 rfl (pv_pick rfl rfl) rfl rfl (by kernel_rfl) (by kernel_rfl) (by kernel_rfl) (fun _ _ _ _ h => h) ?_
            refine xpdone (by kernel_rfl) ?_
            refine xthen ?_
            refine xcondT rfl ?_
            refine xseq ?_
            refine xregion ?_
            refine xstore 1 ShpC.h rfl rfl rfl rfl rfl rfl rfl ?_
            refine xnil ?_
            refine xthen ?_
            refine xretc ?_
            refine xthen_ret ?_
            refine xin_ret ?_
            replace h := h.symm
            subst h
            exact xyret hg rfl (SubM.of (.drop (.keep rfl rfl (.refl _) (.keep rfl rfl (.refl _) (.keep rfl rfl (.refl _) (.keep rfl rfl (.refl _) (.nil _)))))) (.keep rfl (.keep rfl (.nil _)))) ⟨rfl, rfl, rfl⟩
          · replace h := h.2 hp20049
            refine psetB 85 (not_f (decide_eq_true (Decidable.of_not_not hp20049))) rfl ?_
            obtain ⟨h20051a, h⟩ := h
            obtain ⟨y20050, h20051b, h⟩ := h
            obtain ⟨y20053, h20052, h⟩ := h
            refine xpvalE 13 [14, 15, 16, 17] rfl (qv_loadB 0 ShpC.h rfl rfl rfl rfl) rfl rfl (by kernel_rfl) (by kernel_rfl) (by kernel_rfl) (fun _ _ _ _ h => h) ?_
            refine xpvalE 14 [15] rfl (qv_loadB 2 ShpC.h rfl rfl rfl rfl) rfl rfl (by kernel_rfl) (by kernel_rfl) (by kernel_rfl) (fun _ _ _ _ h => h) ?_
            refine xpvalE 15 [] rfl (qv_loadB 4 ShpC.h rfl rfl rfl rfl) rfl rfl (by kernel_rfl) (by kernel_rfl) (by kernel_rfl) (fun _ _ _ _ h => h) ?_
            refine xpval 16 rfl (pv_indexAddrM h20051a h20051b UndC.h ShpC.h rfl rfl) rfl rfl (by kernel_rfl) (by kernel_rfl) (by kernel_rfl) (fun _ _ _ _ h => h) ?_
            refine xpvalE 17 [] rfl (qv_load ShpC.h rfl rfl rfl) rfl rfl (by kernel_rfl) (by kernel_rfl) (by kernel_rfl) (fun _ _ _ _ h => h) ?_
            refine xpstep (i := 18) (by kernel_rfl) rfl ?_
            refine wcall0 (palinodelaw18_same_con x20008 y20050 _ h20052) Try.func13 (by kernel_rfl) rfl (.cons rfl (.refl _) (.cons rfl (.refl _) .nil)) rfl rfl ?_
            refine xpval 19 rfl (pv_not rfl) rfl rfl (by kernel_rfl) (by kernel_rfl) (by kernel_rfl) (fun _ _ _ _ h => h) ?_
            refine xpval 20 rfl (pv_pick rfl rfl) rfl rfl (by kernel_rfl) (by kernel_rfl) (by kernel_rfl) (fun _ _ _ _ h => h) ?_
            refine xpdone (by kernel_rfl) ?_
            refine xthen ?_
            by_cases hp20054 : ¬ (y20053 = true)
            · replace h := h.1 hp20054
              refine xcondT' (not_t (b_f hp20054)) rfl ?_
              refine xseq ?_
              refine xregion ?_
              refine xstore 1 ShpC.h rfl rfl rfl rfl rfl rfl rfl ?_
              refine xnil ?_
              refine xthen ?_
              refine xretc ?_
              refine xthen_ret ?_
              refine xin_ret ?_
              replace h := h.symm
              subst h
              exact xyret hg rfl (SubM.of (.drop (.keep rfl rfl (.refl _) (.keep rfl rfl (.refl _) (.keep rfl rfl (.refl _) (.keep rfl rfl (.refl _) (.nil _)))))) (.keep rfl (.keep rfl (.nil _)))) ⟨rfl, rfl, rfl⟩
            · replace h := h.2 hp20054
              refine xcondF' (not_f (Decidable.of_not_not hp20054)) rfl ?_
              refine xskipc ?_
              refine xthen ?_
              refine xregion ?_
              refine xval (qv_loadB 4 ShpC.h rfl rfl rfl rfl) rfl rfl ?_
              obtain ⟨h20055, h⟩ := h
              refine xvalP (pv_addI h20055 rfl rfl) rfl rfl ?_
              refine xstore 4 ShpC.h rfl rfl rfl rfl rfl rfl rfl ?_
              refine xnil ?_
              refine xin_normal ?_
              replace h := h.symm
              subst h
              exact xyret hg rfl (SubM.of (.drop (.keep rfl rfl (.refl _) (.keep rfl rfl (.refl _) (.keep rfl rfl (.refl _) (.keep rfl rfl (.refl _) (.nil _)))))) (.keep rfl (.keep rfl (.nil _)))) ⟨rfl, rfl, rfl⟩
      · rintro j _ _ w1 R1 D1 gl1 ds1 D1k ⟨hj, rfl, rfl⟩ hM
        simp only [List.nil_append, List.cons_append]
        by_cases hp1324 : y1323.1 = true
        · replace h := h.1 hp1324
          refine ⟨fun _ => ?_, fun c hc => (by rw [hj, show y1323.1 = true from hp1324] at hc; cases hc)⟩
          refine xin_normal ?_
          refine xthenR rfl ?_
          refine xseq ?_
          refine xregion ?_
          obtain ⟨y1326, h1325, h⟩ := h
          refine xcall0 (feed_First_con _ h1325) Try.func14 (by kernel_rfl) rfl .nil rfl rfl ?_
          refine xalloc InfC.h rfl rfl fun b16 => ?_
          refine xstore 0 ShpC.h rfl rfl rfl rfl rfl rfl rfl ?_
          refine xnil ?_
          refine xthenR rfl ?_
          refine xseq ?_
          refine xseq ?_
          refine xregion ?_
          refine xvalP (pv_assign rfl) rfl rfl ?_
          refine xnil ?_
          refine xthenR rfl ?_
          refine xblock ?_
          obtain ⟨Inv, ⟨m0, hI⟩, hS⟩ := h
          refine xloop (fun σ m => ∃ (x1369 : Int), ∃ (f1370 : Int), ∃ (f1371 : Int), ∃ (f1372 : Int), ∃ (f1373 : Int), ∃ (f1374 : List UInt8), Inv (x1369, f1370, f1371, f1372, f1373, f1374) m ∧ σ = ⟨[(0, .sl 2 none (List.map E_palinode_api_File x1)), (3, .v (.pointer (some ⟨b3, 0, none⟩))), (4, .v (.pointer (some ⟨b4, 0, none⟩))), (5, .v (.pointer (some ⟨b5, 0, none⟩))), (7, .v (.int .i64 x875)), (12, .v (.pointer (some ⟨b12, 0, none⟩))), (16, .v (.pointer (some ⟨b16, 0, none⟩))), (17, .v (.int .i64 x1369))], [⟨b16, 42, [.v (.int .i64 f1370), .v (.int .i64 f1371), .v (.int .i64 f1372), .v (.int .i64 f1373), .sl 1 none (List.map eb f1374)]⟩, ⟨b4, 4, [.v (.bool y1323.2.1)]⟩, ⟨b5, 28, [.sl 2 (some i878) (List.map E_palinode_api_Line f877)]⟩, ⟨b12, 3, [.v (.int .i64 y1323.2.2)]⟩, ⟨b3, 25, [.v (.bool x2.1), .v (.bool x2.2.1), .v (.bool x2.2.2.1), .v (.bool x2.2.2.2.1), .sl 1 none (List.map es x2.2.2.2.2)]⟩], [⟨i878, 36, 2, f877.length⟩]⟩) ⟨0, y1326.1, y1326.2.1, y1326.2.2.1, y1326.2.2.2.1, y1326.2.2.2.2, hI, rfl⟩ ⟨(.cons rfl (.refl _) (.cons rfl (.refl _) (.cons rfl (.refl _) (.cons rfl (.refl _) (.cons rfl (.refl _) (.cons rfl (.refl _) (.cons rfl (.refl _) (.cons rfl (.refl _) (.nil _))))))))), (SubM.of (.keep rfl rfl (.refl _) (.keep rfl rfl (.refl _) (.keep rfl rfl (.refl _) (.drop (.keep rfl rfl (.refl _) (.drop (.drop (.keep rfl rfl (.refl _) (.nil _))))))))) (.keep rfl (.nil _)))⟩ ?_
          rintro _ m ⟨x1369, f1370, f1371, f1372, f1373, f1374, hI, rfl⟩
          obtain ⟨ag4, hag4, h⟩ : ∃ ag, (∀ s', ag s' → ∃ m', m' < m ∧ Inv s' m') ∧ palinodelaw18_FeedWhole_l4 f877 x1 x2 y1323 x875 ag x1369 f1370 f1371 f1372 f1373 f1374 r := ⟨_, fun _ h => h, hS (x1369, f1370, f1371, f1372, f1373, f1374) _ hI⟩
          clear hS hI
          refine xseq ?_
          refine xseq ?_
          refine xregion ?_
          refine xvalP (pv_move rfl) rfl rfl ?_
          refine xval (qv_loadB 2 ShpC.h rfl rfl rfl rfl) rfl rfl ?_
          refine xvalP (pv_lenM UndC.h rfl) rfl rfl ?_
          refine xvalP (pv_bin2 rfl rfl rfl) rfl rfl ?_
          refine xnil ?_
          refine xthenR rfl ?_
          by_cases hp1389 : x1369 < (f877.length : Int)
          · replace h := h.1 hp1389
            refine xcondT' (decide_eq_true hp1389) rfl ?_
            refine xskipc ?_
            refine xthenR rfl ?_
            refine xseq ?_
            refine xblock ?_
            refine xregion ?_
            refine xval (qv_loadB 0 ShpC.h rfl rfl rfl rfl) rfl rfl ?_
            refine xvalP (pv_move rfl) rfl rfl ?_
            refine xval (qv_loadB 4 ShpC.h rfl rfl rfl rfl) rfl rfl ?_
            obtain ⟨y1391, h1390, h⟩ := h
            refine xcallF (Fb := [⟨b16, 42, [.v (.int .i64 f1370), .v (.int .i64 f1371), .v (.int .i64 f1372), .v (.int .i64 f1373), .sl 1 none (List.map eb f1374)]⟩, ⟨b4, 4, [.v (.bool y1323.2.1)]⟩, ⟨b5, 28, [.sl 2 (some i878) (List.map E_palinode_api_Line f877)]⟩, ⟨b12, 3, [.v (.int .i64 y1323.2.2)]⟩, ⟨b3, 25, [.v (.bool x2.1), .v (.bool x2.2.1), .v (.bool x2.2.2.1), .v (.bool x2.2.2.2.1), .sl 1 none (List.map es x2.2.2.2.2)]⟩]) (Ft := [⟨i878, 36, 2, f877.length⟩]) (feed_Next_con (f1370, f1371, f1372, f1373, f1374) x1 x2 _ h1390) Try.func15 (by kernel_rfl) rfl (.cons rfl (.refl _) (.cons rfl (.refl _) (.cons rfl (.refl _) .nil))) (by exact (SubM.of (by repeat (first | with_reducible exact SubB.refl _ | exact SubB.nil _ | refine SubB.keep rfl rfl (by first | with_reducible exact WkL.refl _ | ((repeat (first | exact WkL.nil | refine WkL.cons (by first | with_reducible exact Wk.refl _ | exact Wk.nil_own _ | exact Wk.nil_pl _ | with_reducible exact Wk.tok _ _ _ | exact Wk.tok _ _ _ | exact Wk.eq (by first | rfl | (simp []; done) | (simp []; omega))) ?_)); done) | exact WkL.refl _) ?_ | refine SubB.drop ?_)) (by repeat (first | exact SubT.nil _ | refine SubT.add ?_ | (refine SubT.keep ?_ ?_; focus (first | with_reducible rfl | (simp []; done))) | refine SubT.drop ?_)))) rfl rfl ?_
            rintro _ _ _ ⟨rfl, rfl, rfl⟩
            simp only [List.nil_append, List.cons_append]
            refine xvalP (pv_move rfl) rfl rfl ?_
            refine xvalP (pv_extract rfl rfl) rfl rfl ?_
            refine xvalP (pv_extract rfl rfl) rfl rfl ?_
            refine xvalP (pv_extract rfl rfl) rfl rfl ?_
            refine xstore 0 ShpC.h rfl rfl rfl rfl rfl rfl rfl ?_
            refine xnil ?_
            refine xin_normal ?_
            refine xthenR rfl ?_
            refine xregion ?_
            refine xvalP (pv_move rfl) rfl rfl ?_
            obtain ⟨h1392, h⟩ := h
            refine xvalP (pv_addI h1392 rfl rfl) rfl rfl ?_
            refine xvalP (pv_assign rfl) rfl rfl ?_
            refine xnil ?_
            obtain ⟨m', hm, hI⟩ := hag4 _ h
            exact xagain ⟨(x1369 + 1), y1391.2.1.1, y1391.2.1.2.1, y1391.2.1.2.2.1, y1391.2.1.2.2.2.1, y1391.2.1.2.2.2.2, hI, rfl⟩ hm ⟨(.cons rfl (.refl _) (.cons rfl (.refl _) (.cons rfl (.refl _) (.cons rfl (.refl _) (.cons rfl (.refl _) (.cons rfl (.refl _) (.cons rfl (.refl _) (.cons rfl (.refl _) (.nil _))))))))), (SubM.of (.keep rfl rfl (.refl _) (.keep rfl rfl (.refl _) (.keep rfl rfl (.refl _) (.keep rfl rfl (.refl _) (.keep rfl rfl (.refl _) (.nil _)))))) (.keep rfl (.nil _)))⟩
          · replace h := h.2 hp1389
            refine xcondF' (decide_eq_false hp1389) rfl ?_
            refine xexit ?_
            refine xthen_exit ?_
            refine xthen_exit ?_
            refine xin_same rfl ?_
            refine xthenR rfl ?_
            refine xseq ?_
            refine xregion ?_
            refine xval (qv_loadB 0 ShpC.h rfl rfl rfl rfl) rfl rfl ?_
            refine xvalP (pv_move rfl) rfl rfl ?_
            refine xval (qv_loadB 4 ShpC.h rfl rfl rfl rfl) rfl rfl ?_
            obtain ⟨y1394, h1393, h⟩ := h
            refine xcallF (Fb := [⟨b16, 42, [.v (.int .i64 f1370), .v (.int .i64 f1371), .v (.int .i64 f1372), .v (.int .i64 f1373), .sl 1 none (List.map eb f1374)]⟩, ⟨b4, 4, [.v (.bool y1323.2.1)]⟩, ⟨b5, 28, [.sl 2 (some i878) (List.map E_palinode_api_Line f877)]⟩, ⟨b12, 3, [.v (.int .i64 y1323.2.2)]⟩, ⟨b3, 25, [.v (.bool x2.1), .v (.bool x2.2.1), .v (.bool x2.2.2.1), .v (.bool x2.2.2.2.1), .sl 1 none (List.map es x2.2.2.2.2)]⟩]) (Ft := [⟨i878, 36, 2, f877.length⟩]) (feed_Next_con (f1370, f1371, f1372, f1373, f1374) x1 x2 _ h1393) Try.func15 (by kernel_rfl) rfl (.cons rfl (.refl _) (.cons rfl (.refl _) (.cons rfl (.refl _) .nil))) (by exact (SubM.of (by repeat (first | with_reducible exact SubB.refl _ | exact SubB.nil _ | refine SubB.keep rfl rfl (by first | with_reducible exact WkL.refl _ | ((repeat (first | exact WkL.nil | refine WkL.cons (by first | with_reducible exact Wk.refl _ | exact Wk.nil_own _ | exact Wk.nil_pl _ | with_reducible exact Wk.tok _ _ _ | exact Wk.tok _ _ _ | exact Wk.eq (by first | rfl | (simp []; done) | (simp []; omega))) ?_)); done) | exact WkL.refl _) ?_ | refine SubB.drop ?_)) (by repeat (first | exact SubT.nil _ | refine SubT.add ?_ | (refine SubT.keep ?_ ?_; focus (first | with_reducible rfl | (simp []; done))) | refine SubT.drop ?_)))) rfl rfl ?_
            rintro _ _ _ ⟨rfl, rfl, rfl⟩
            simp only [List.nil_append, List.cons_append]
            refine xvalP (pv_move rfl) rfl rfl ?_
            refine xvalP (pv_extract rfl rfl) rfl rfl ?_
            refine xvalP (pv_extract rfl rfl) rfl rfl ?_
            refine xvalP (pv_extract rfl rfl) rfl rfl ?_
            refine xalloc InfC.h rfl rfl fun b18 => ?_
            refine xstore 0 ShpC.h rfl rfl rfl rfl rfl rfl rfl ?_
            refine xstore 1 ShpC.h rfl rfl rfl rfl rfl rfl rfl ?_
            refine xvalP (pv_assign rfl) rfl rfl ?_
            refine xnil ?_
            refine xthenR rfl ?_
            refine xseqM (fun σ => ∃ (f1406 : Bool), palinodelaw18_FeedWhole_j5 f1406 r ∧ σ = ⟨[(4, .v (.pointer (some ⟨b4, 0, none⟩)))], [⟨b4, 4, [.v (.bool f1406)]⟩], []⟩) ?_ ?_
            · refine xregion ?_
              refine xval (qv_loadB 4 ShpC.h rfl rfl rfl rfl) rfl rfl ?_
              refine xval (qv_loadB 3 ShpC.h rfl rfl rfl rfl) rfl rfl ?_
              refine xvalP (pv_lenM UndC.h rfl) rfl rfl ?_
              refine xvalP (pv_bin2 rfl rfl rfl) rfl rfl ?_
              refine xvalP (pv_move rfl) rfl rfl ?_
              by_cases hp1409 : y1323.2.2 = (f877.length : Int)
              · replace h := h.1 hp1409
                refine xsetB 123 (decide_eq_true hp1409) rfl ?_
                refine xvalP (pv_move rfl) rfl rfl ?_
                refine xvalP (pv_not rfl) rfl rfl ?_
                refine xvalP (pv_pick rfl rfl) rfl rfl ?_
                refine xvalP (pv_move rfl) rfl rfl ?_
                by_cases hp1410 : ¬ (y1394.2.2 = true)
                · replace h := h.1 hp1410
                  refine xsetB 127 (not_t (b_f hp1410)) rfl ?_
                  refine xvalP (qv_fieldAddrB FldC.h rfl) rfl rfl ?_
                  refine xval (qv_loadB 1 ShpC.h rfl rfl rfl rfl) rfl rfl ?_
                  refine xvalP (pv_move rfl) rfl rfl ?_
                  refine xvalP (pv_bin2 rfl rfl rfl) rfl rfl ?_
                  refine xvalP (pv_pick rfl rfl) rfl rfl ?_
                  refine xvalP (pv_move rfl) rfl rfl ?_
                  by_cases hp1412 : y1394.2.1.2.2.2.1 = x875
                  · replace h := h.1 hp1412
                    refine xsetB 133 (decide_eq_true hp1412) rfl ?_
                    refine xvalP (qv_fieldAddrB FldC.h rfl) rfl rfl ?_
                    refine xval (qv_loadB 1 ShpC.h rfl rfl rfl rfl) rfl rfl ?_
                    refine xvalP (qv_fieldAddrB FldC.h rfl) rfl rfl ?_
                    refine xval (qv_loadB 5 ShpC.h rfl rfl rfl rfl) rfl rfl ?_
                    refine xvalP (pv_lenM UndC.h rfl) rfl rfl ?_
                    refine xvalP (pv_bin2 rfl rfl rfl) rfl rfl ?_
                    refine xvalP (pv_pick rfl rfl) rfl rfl ?_
                    refine xvalP (pv_move rfl) rfl rfl ?_
                    by_cases hp1415 : y1394.2.1.1 = (x2.2.2.2.2.length : Int)
                    · replace h := h.1 hp1415
                      refine xsetB 141 (decide_eq_true hp1415) rfl ?_
                      obtain ⟨y1417, h1416, h⟩ := h
                      refine xcall0 (palinodelaw18_awake_con _ h1416) Try.func9 (by kernel_rfl) rfl .nil rfl rfl ?_
                      refine xvalP (pv_pick rfl rfl) rfl rfl ?_
                      refine xstore 2 ShpC.h rfl rfl rfl rfl rfl rfl rfl ?_
                      refine xnil ?_
                      exact xmeet ⟨y1417, h, rfl⟩ ⟨(.cons rfl (.refl _) (.nil _)), (SubM.of (.drop (.drop (.keep rfl rfl (.refl _) (.nil _)))) (.nil _))⟩
                    · replace h := h.2 hp1415
                      refine xsetB 141 (decide_eq_false hp1415) rfl ?_
                      refine xskip rfl rfl ?_
                      refine xvalP (pv_pick rfl rfl) rfl rfl ?_
                      refine xstore 2 ShpC.h rfl rfl rfl rfl rfl rfl rfl ?_
                      refine xnil ?_
                      exact xmeet ⟨false, h, rfl⟩ ⟨(.cons rfl (.refl _) (.nil _)), (SubM.of (.drop (.drop (.keep rfl rfl (.refl _) (.nil _)))) (.nil _))⟩
                  · replace h := h.2 hp1412
                    refine xsetB 133 (decide_eq_false hp1412) rfl ?_
                    refine xskip rfl rfl ?_
                    refine xskip rfl rfl ?_
                    refine xskip rfl rfl ?_
                    refine xskip rfl rfl ?_
                    refine xskip rfl rfl ?_
                    refine xskip rfl rfl ?_
                    refine xvalP (pv_pick rfl rfl) rfl rfl ?_
                    refine xvalP (pv_move rfl) rfl rfl ?_
                    refine xskip rfl rfl ?_
                    refine xvalP (pv_pick rfl rfl) rfl rfl ?_
                    refine xstore 2 ShpC.h rfl rfl rfl rfl rfl rfl rfl ?_
                    refine xnil ?_
                    exact xmeet ⟨false, h, rfl⟩ ⟨(.cons rfl (.refl _) (.nil _)), (SubM.of (.drop (.drop (.keep rfl rfl (.refl _) (.nil _)))) (.nil _))⟩
                · replace h := h.2 hp1410
                  refine xsetB 127 (not_f (Decidable.of_not_not hp1410)) rfl ?_
                  refine xskip rfl rfl ?_
                  refine xskip rfl rfl ?_
                  refine xskip rfl rfl ?_
                  refine xskip rfl rfl ?_
                  refine xvalP (pv_pick rfl rfl) rfl rfl ?_
                  refine xvalP (pv_move rfl) rfl rfl ?_
                  refine xskip rfl rfl ?_
                  refine xskip rfl rfl ?_
                  refine xskip rfl rfl ?_
                  refine xskip rfl rfl ?_
                  refine xskip rfl rfl ?_
                  refine xskip rfl rfl ?_
                  refine xvalP (pv_pick rfl rfl) rfl rfl ?_
                  refine xvalP (pv_move rfl) rfl rfl ?_
                  refine xskip rfl rfl ?_
                  refine xvalP (pv_pick rfl rfl) rfl rfl ?_
                  refine xstore 2 ShpC.h rfl rfl rfl rfl rfl rfl rfl ?_
                  refine xnil ?_
                  exact xmeet ⟨false, h, rfl⟩ ⟨(.cons rfl (.refl _) (.nil _)), (SubM.of (.drop (.drop (.keep rfl rfl (.refl _) (.nil _)))) (.nil _))⟩
              · replace h := h.2 hp1409
                refine xsetB 123 (decide_eq_false hp1409) rfl ?_
                refine xskip rfl rfl ?_
                refine xskip rfl rfl ?_
                refine xvalP (pv_pick rfl rfl) rfl rfl ?_
                refine xvalP (pv_move rfl) rfl rfl ?_
                refine xskip rfl rfl ?_
                refine xskip rfl rfl ?_
                refine xskip rfl rfl ?_
                refine xskip rfl rfl ?_
                refine xvalP (pv_pick rfl rfl) rfl rfl ?_
                refine xvalP (pv_move rfl) rfl rfl ?_
                refine xskip rfl rfl ?_
                refine xskip rfl rfl ?_
                refine xskip rfl rfl ?_
                refine xskip rfl rfl ?_
                refine xskip rfl rfl ?_
                refine xskip rfl rfl ?_
                refine xvalP (pv_pick rfl rfl) rfl rfl ?_
                refine xvalP (pv_move rfl) rfl rfl ?_
                refine xskip rfl rfl ?_
                refine xvalP (pv_pick rfl rfl) rfl rfl ?_
                refine xstore 2 ShpC.h rfl rfl rfl rfl rfl rfl rfl ?_
                refine xnil ?_
                exact xmeet ⟨false, h, rfl⟩ ⟨(.cons rfl (.refl _) (.nil _)), (SubM.of (.drop (.drop (.keep rfl rfl (.refl _) (.nil _)))) (.nil _))⟩
            · clear h
              rintro _ ⟨f1406, h, rfl⟩
              refine xretc ?_
              refine xretMk hg hM ?_
              replace h := h.symm
              subst h
              exact xretL (rs := [.cell 4 4]) (ss := [.v (.bool f1406)]) hg rfl (by refine RetL.cell 0 ShpC.h rfl rfl rfl (Nat.le_of_ble_eq_true rfl) (.refl _) ?_; exact RetL.nil) (SubM.of (.nil _) (.nil _)) ⟨rfl, rfl, rfl⟩
        · replace h := h.2 hp1324
          refine ⟨fun hc => (by rw [hj, show y1323.1 = false from (b_f hp1324)] at hc; cases hc), fun c hc => ?_⟩
          obtain rfl : c = .ret := (by rw [hj, show y1323.1 = false from (b_f hp1324)] at hc; cases hc; rfl)
          refine xretc ?_
          refine xin_ret ?_
          refine xthen_ret ?_
          refine xretMk hg hM ?_
          replace h := h.symm
          subst h
          exact xretL (rs := [.cell 4 4]) (ss := [.v (.bool y1323.2.1)]) hg rfl (by refine RetL.cell 0 ShpC.h rfl rfl rfl (Nat.le_of_ble_eq_true rfl) (.refl _) ?_; exact RetL.nil) (SubM.of (.nil _) (.nil _)) ⟨rfl, rfl, rfl⟩
end Go.Proofs.Ytihbljabeckgmaa
