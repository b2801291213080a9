/- What functions' texts ask for, and the walks that show it (printed by a program). -/
import Derived.Test.YtljlaggehilpfaaGK
namespace Go.Proofs.Ytljlaggehilpfaa
/-- palinodelaw03.FilesPlay -/
def palinodelaw03_FilesPlay_j3 (x1567 : Int) (ag1 : ((List (ByteArray × (List UInt8))) × Int × (List (ByteArray × (List UInt8)))) → Prop) (x2194 : List (ByteArray × (List UInt8))) (l2197 : List (ByteArray × (List UInt8))) (x2286 : Bool) (r : Bool) : Prop :=
  ((x2286 = true → r = false) ∧ (¬ (x2286 = true) → InR (x1567 + 1) ∧ ag1 (x2194, (x1567 + 1), l2197)))
def palinodelaw03_FilesPlay_j2 (y2130 : Int × Int × ByteArray × (List (List UInt8))) (x1567 : Int) (ag1 : ((List (ByteArray × (List UInt8))) × Int × (List (ByteArray × (List UInt8)))) → Prop) (x2193 : Int) (x2194 : List (ByteArray × (List UInt8))) (x2195 : Int) (l2197 : List (ByteArray × (List UInt8))) (r : Bool) : Prop :=
  ∃ y2260 : (List UInt8) × Bool, files_Table_Get_R l2197 y2130.2.2.1 y2260 ∧ ((¬ (x2193 = x2195) → palinodelaw03_FilesPlay_j3 x1567 ag1 x2194 l2197 true r) ∧ (¬ (¬ (x2193 = x2195)) → ∃ y2290 : Int, palinoderef03_At_R x2194 y2130.2.2.1 y2290 ∧ ((¬ ((y2260.2 == (decide (0 ≤ y2290))) = true) → palinodelaw03_FilesPlay_j3 x1567 ag1 x2194 l2197 true r) ∧ (¬ (¬ ((y2260.2 == (decide (0 ≤ y2290))) = true)) → ∃ y2295 : (List UInt8), palinoderef03_Get_R x2194 y2130.2.2.1 y2295 ∧ ∃ y2297 : Bool, palinoderef01_Same_R y2260.1 y2295 y2297 ∧ ((¬ (y2297 = true) → palinodelaw03_FilesPlay_j3 x1567 ag1 x2194 l2197 true r) ∧ (¬ (¬ (y2297 = true)) → ∃ y2300 : Int, files_Table_Len_R l2197 y2130.2.2.1 y2300 ∧ ∃ y2302 : Int, palinodelaw03_length_R x2194 y2130.2.2.1 y2302 ∧ ((¬ (y2300 = y2302) → palinodelaw03_FilesPlay_j3 x1567 ag1 x2194 l2197 true r) ∧ (¬ (¬ (y2300 = y2302)) → ∃ y2307 : (List (ByteArray × (List UInt8))), files_Table_All_R l2197 y2307 ∧ ∃ y2310 : Bool, palinoderef03_Same_R y2307 x2194 y2310 ∧ palinodelaw03_FilesPlay_j3 x1567 ag1 x2194 l2197 (!y2310) r))))))))
def palinodelaw03_FilesPlay_l1 (x2 : List (Int × Int × ByteArray × (List (List UInt8)))) (ag1 : ((List (ByteArray × (List UInt8))) × Int × (List (ByteArray × (List UInt8)))) → Prop) (x1566 : List (ByteArray × (List UInt8))) (x1567 : Int) (l1569 : List (ByteArray × (List UInt8))) (r : Bool) : Prop :=
  ((x1567 < (x2.length : Int) → 0 ≤ (x1567 : Int) ∧ ∃ y2130 : Int × Int × ByteArray × (List (List UInt8)), x2[(x1567 : Int).toNat]? = some y2130 ∧ ((y2130.1 = 0 → ∃ y2202 : (List UInt8), palinodelaw03_all_R ([] : List UInt8) y2130.2.2.2 y2202 ∧ ∃ y2205 : (List (ByteArray × (List UInt8))) × Int, palinoderef03_Put_R x1566 y2130.2.2.1 y2202 y2205 ∧ ∃ y2207 : Int × (List (ByteArray × (List UInt8))), files_Table_Put_R l1569 y2130.2.2.1 y2202 y2207 ∧ palinodelaw03_FilesPlay_j2 y2130 x1567 ag1 y2207.1 y2205.1 y2205.2 y2207.2 r) ∧ (¬ (y2130.1 = 0) → ((y2130.1 = 1 → ∃ y2224 : (List UInt8), palinoderef03_Get_R x1566 y2130.2.2.1 y2224 ∧ ∃ y2226 : (List UInt8), palinodelaw03_all_R y2224 y2130.2.2.2 y2226 ∧ ∃ y2229 : (List (ByteArray × (List UInt8))) × Int, palinoderef03_Put_R x1566 y2130.2.2.1 y2226 y2229 ∧ ∃ y2233 : Int × (List (ByteArray × (List UInt8))), files_Table_Add_R l1569 y2130.2.2.1 y2130.2.2.2 y2233 ∧ palinodelaw03_FilesPlay_j2 y2130 x1567 ag1 y2233.1 y2229.1 y2229.2 y2233.2 r) ∧ (¬ (y2130.1 = 1) → ((y2130.1 = 2 → ∃ y2241 : (List (ByteArray × (List UInt8))) × Int, palinoderef03_Cut_R x1566 y2130.2.2.1 y2130.2.1 y2241 ∧ ∃ y2243 : Int × (List (ByteArray × (List UInt8))), files_Table_Cut_R l1569 y2130.2.2.1 y2130.2.1 y2243 ∧ palinodelaw03_FilesPlay_j2 y2130 x1567 ag1 y2243.1 y2241.1 y2241.2 y2243.2 r) ∧ (¬ (y2130.1 = 2) → ((y2130.1 = 4 → ∃ y2248 : (List (ByteArray × (List UInt8))), files_Table_Copy_R l1569 y2248 ∧ ∃ y2254 : Int × (List (ByteArray × (List UInt8))), files_Table_Add_R l1569 y2130.2.2.1 ([[(122 : UInt8), (122 : UInt8)]]) y2254 ∧ ∃ y2257 : Int × (List (ByteArray × (List UInt8))), files_Table_Cut_R y2254.2 y2130.2.2.1 0 y2257 ∧ palinodelaw03_FilesPlay_j2 y2130 x1567 ag1 0 x1566 0 y2248 r) ∧ (¬ (y2130.1 = 4) → palinodelaw03_FilesPlay_j2 y2130 x1567 ag1 0 x1566 0 l1569 r))))))))) ∧ (¬ (x1567 < (x2.length : Int)) → ∃ y2314 : Bool, palinodelaw03_awake_R y2314 ∧ r = y2314))
def palinodelaw03_FilesPlay_R (x1 : List (ByteArray × (List UInt8))) (x2 : List (Int × Int × ByteArray × (List (List UInt8)))) (r : Bool) : Prop :=
  ∃ y9 : Bool, palinodelaw03_great_R x1 x2 y9 ∧ ((y9 = true → ∃ y12 : Bool, palinodelaw03_awake_R y12 ∧ r = y12) ∧ (¬ (y9 = true) → ∃ y14 : Int × (Option ((List (ByteArray × (List UInt8))))), files_New_R x1 y14 ∧ ((y14.2 = none → ∃ y20 : (List (ByteArray × (List UInt8))) × Int, palinoderef03_New_R x1 y20 ∧ ((¬ (y14.1 = y20.2) → r = false) ∧ (¬ (¬ (y14.1 = y20.2)) → ((¬ ((false == (decide (y20.2 = 0))) = true) → r = false) ∧ (¬ (¬ ((false == (decide (y20.2 = 0))) = true)) → ∃ y48 : Bool, palinodelaw03_awake_R y48 ∧ r = y48))))) ∧ (∀ x15 : (List (ByteArray × (List UInt8))), y14.2 = some x15 → ∃ y50 : (List (ByteArray × (List UInt8))) × Int, palinoderef03_New_R x1 y50 ∧ ((¬ (y14.1 = y50.2) → r = false) ∧ (¬ (¬ (y14.1 = y50.2)) → ((¬ ((true == (decide (y50.2 = 0))) = true) → r = false) ∧ (¬ (¬ ((true == (decide (y50.2 = 0))) = true)) → LoopR (fun ag1 s => palinodelaw03_FilesPlay_l1 x2 ag1 s.1 s.2.1 s.2.2 r) (y50.1, 0, x15)))))))))
def palinodelaw03_FilesPlay_j3_ev (fuel : Nat) (x1567 : Int) (ag1e : ((List (ByteArray × (List UInt8))) × Int × (List (ByteArray × (List UInt8)))) → Option (Bool)) (x2194 : List (ByteArray × (List UInt8))) (l2197 : List (ByteArray × (List UInt8))) (x2286 : Bool) : Option (Bool) :=
  (if x2286 = true then some false else (if InR (x1567 + 1) then ag1e (x2194, (x1567 + 1), l2197) else none))
theorem palinodelaw03_FilesPlay_j3_ok {fuel : Nat} {x1567 : Int} {ag1 : ((List (ByteArray × (List UInt8))) × Int × (List (ByteArray × (List UInt8)))) → Prop} {ag1e : ((List (ByteArray × (List UInt8))) × Int × (List (ByteArray × (List UInt8)))) → Option (Bool)} {x2194 : List (ByteArray × (List UInt8))} {l2197 : List (ByteArray × (List UInt8))} {x2286 : Bool} {r : Bool} (hagag1 : ∀ s, ag1e s = some r → ag1 s) (h : palinodelaw03_FilesPlay_j3_ev fuel x1567 ag1e x2194 l2197 x2286 = some r) : palinodelaw03_FilesPlay_j3 x1567 ag1 x2194 l2197 x2286 r := by
  unfold palinodelaw03_FilesPlay_j3_ev at h
  unfold palinodelaw03_FilesPlay_j3
  refine ⟨fun g330 => ?_, fun g330 => ?_⟩
  · rw [if_pos g330] at h
    exact (Option.some.inj h).symm
  · rw [if_neg g330] at h
    obtain ⟨g331, h⟩ := if_ok h
    refine ⟨g331, ?_⟩
    exact hagag1 _ h
def palinodelaw03_FilesPlay_j2_ev (fuel : Nat) (y2130 : Int × Int × ByteArray × (List (List UInt8))) (x1567 : Int) (ag1e : ((List (ByteArray × (List UInt8))) × Int × (List (ByteArray × (List UInt8)))) → Option (Bool)) (x2193 : Int) (x2194 : List (ByteArray × (List UInt8))) (x2195 : Int) (l2197 : List (ByteArray × (List UInt8))) : Option (Bool) :=
  ((files_Table_Get_ev fuel l2197 y2130.2.2.1).bind fun y2260 => (if ¬ (x2193 = x2195) then palinodelaw03_FilesPlay_j3_ev fuel x1567 ag1e x2194 l2197 true else ((palinoderef03_At_ev fuel x2194 y2130.2.2.1).bind fun y2290 => (if ¬ ((y2260.2 == (decide (0 ≤ y2290))) = true) then palinodelaw03_FilesPlay_j3_ev fuel x1567 ag1e x2194 l2197 true else ((palinoderef03_Get_ev fuel x2194 y2130.2.2.1).bind fun y2295 => ((palinoderef01_Same_ev fuel y2260.1 y2295).bind fun y2297 => (if ¬ (y2297 = true) then palinodelaw03_FilesPlay_j3_ev fuel x1567 ag1e x2194 l2197 true else ((files_Table_Len_ev fuel l2197 y2130.2.2.1).bind fun y2300 => ((palinodelaw03_length_ev fuel x2194 y2130.2.2.1).bind fun y2302 => (if ¬ (y2300 = y2302) then palinodelaw03_FilesPlay_j3_ev fuel x1567 ag1e x2194 l2197 true else ((files_Table_All_ev fuel l2197).bind fun y2307 => ((palinoderef03_Same_ev fuel y2307 x2194).bind fun y2310 => palinodelaw03_FilesPlay_j3_ev fuel x1567 ag1e x2194 l2197 (!y2310)))))))))))))
theorem palinodelaw03_FilesPlay_j2_ok {fuel : Nat} {y2130 : Int × Int × ByteArray × (List (List UInt8))} {x1567 : Int} {ag1 : ((List (ByteArray × (List UInt8))) × Int × (List (ByteArray × (List UInt8)))) → Prop} {ag1e : ((List (ByteArray × (List UInt8))) × Int × (List (ByteArray × (List UInt8)))) → Option (Bool)} {x2193 : Int} {x2194 : List (ByteArray × (List UInt8))} {x2195 : Int} {l2197 : List (ByteArray × (List UInt8))} {r : Bool} (hagag1 : ∀ s, ag1e s = some r → ag1 s) (h : palinodelaw03_FilesPlay_j2_ev fuel y2130 x1567 ag1e x2193 x2194 x2195 l2197 = some r) : palinodelaw03_FilesPlay_j2 y2130 x1567 ag1 x2193 x2194 x2195 l2197 r := by
  unfold palinodelaw03_FilesPlay_j2_ev at h
  unfold palinodelaw03_FilesPlay_j2
  obtain ⟨q332, g332, h⟩ := bind_ok h
  refine ⟨q332, files_Table_Get_ok g332, ?_⟩
  refine ⟨fun g333 => ?_, fun g333 => ?_⟩
  · rw [if_pos g333] at h
    exact palinodelaw03_FilesPlay_j3_ok hagag1 h
  · rw [if_neg g333] at h
    obtain ⟨q334, g334, h⟩ := bind_ok h
    refine ⟨q334, palinoderef03_At_ok g334, ?_⟩
    refine ⟨fun g335 => ?_, fun g335 => ?_⟩
    · rw [if_pos g335] at h
      exact palinodelaw03_FilesPlay_j3_ok hagag1 h
    · rw [if_neg g335] at h
      obtain ⟨q336, g336, h⟩ := bind_ok h
      refine ⟨q336, palinoderef03_Get_ok g336, ?_⟩
      obtain ⟨q337, g337, h⟩ := bind_ok h
      refine ⟨q337, palinoderef01_Same_ok g337, ?_⟩
      refine ⟨fun g338 => ?_, fun g338 => ?_⟩
      · rw [if_pos g338] at h
        exact palinodelaw03_FilesPlay_j3_ok hagag1 h
      · rw [if_neg g338] at h
        obtain ⟨q339, g339, h⟩ := bind_ok h
        refine ⟨q339, files_Table_Len_ok g339, ?_⟩
        obtain ⟨q340, g340, h⟩ := bind_ok h
        refine ⟨q340, palinodelaw03_length_ok g340, ?_⟩
        refine ⟨fun g341 => ?_, fun g341 => ?_⟩
        · rw [if_pos g341] at h
          exact palinodelaw03_FilesPlay_j3_ok hagag1 h
        · rw [if_neg g341] at h
          obtain ⟨q342, g342, h⟩ := bind_ok h
          refine ⟨q342, files_Table_All_ok g342, ?_⟩
          obtain ⟨q343, g343, h⟩ := bind_ok h
          refine ⟨q343, palinoderef03_Same_ok g343, ?_⟩
          exact palinodelaw03_FilesPlay_j3_ok hagag1 h
def palinodelaw03_FilesPlay_l1_ev (fuel : Nat) (x2 : List (Int × Int × ByteArray × (List (List UInt8)))) (ag1e : ((List (ByteArray × (List UInt8))) × Int × (List (ByteArray × (List UInt8)))) → Option (Bool)) (x1566 : List (ByteArray × (List UInt8))) (x1567 : Int) (l1569 : List (ByteArray × (List UInt8))) : Option (Bool) :=
  (if x1567 < (x2.length : Int) then (if 0 ≤ (x1567 : Int) then ((x2[(x1567 : Int).toNat]?).bind fun y2130 => (if y2130.1 = 0 then ((palinodelaw03_all_ev fuel ([] : List UInt8) y2130.2.2.2).bind fun y2202 => ((palinoderef03_Put_ev fuel x1566 y2130.2.2.1 y2202).bind fun y2205 => ((files_Table_Put_ev fuel l1569 y2130.2.2.1 y2202).bind fun y2207 => palinodelaw03_FilesPlay_j2_ev fuel y2130 x1567 ag1e y2207.1 y2205.1 y2205.2 y2207.2))) else (if y2130.1 = 1 then ((palinoderef03_Get_ev fuel x1566 y2130.2.2.1).bind fun y2224 => ((palinodelaw03_all_ev fuel y2224 y2130.2.2.2).bind fun y2226 => ((palinoderef03_Put_ev fuel x1566 y2130.2.2.1 y2226).bind fun y2229 => ((files_Table_Add_ev fuel l1569 y2130.2.2.1 y2130.2.2.2).bind fun y2233 => palinodelaw03_FilesPlay_j2_ev fuel y2130 x1567 ag1e y2233.1 y2229.1 y2229.2 y2233.2)))) else (if y2130.1 = 2 then ((palinoderef03_Cut_ev fuel x1566 y2130.2.2.1 y2130.2.1).bind fun y2241 => ((files_Table_Cut_ev fuel l1569 y2130.2.2.1 y2130.2.1).bind fun y2243 => palinodelaw03_FilesPlay_j2_ev fuel y2130 x1567 ag1e y2243.1 y2241.1 y2241.2 y2243.2)) else (if y2130.1 = 4 then ((files_Table_Copy_ev fuel l1569).bind fun y2248 => ((files_Table_Add_ev fuel l1569 y2130.2.2.1 ([[(122 : UInt8), (122 : UInt8)]])).bind fun y2254 => ((files_Table_Cut_ev fuel y2254.2 y2130.2.2.1 0).bind fun y2257 => palinodelaw03_FilesPlay_j2_ev fuel y2130 x1567 ag1e 0 x1566 0 y2248))) else palinodelaw03_FilesPlay_j2_ev fuel y2130 x1567 ag1e 0 x1566 0 l1569))))) else none) else ((palinodelaw03_awake_ev fuel).bind fun y2314 => some y2314))
theorem palinodelaw03_FilesPlay_l1_ok {fuel : Nat} {x2 : List (Int × Int × ByteArray × (List (List UInt8)))} {ag1e : ((List (ByteArray × (List UInt8))) × Int × (List (ByteArray × (List UInt8)))) → Option (Bool)} {ag1 : ((List (ByteArray × (List UInt8))) × Int × (List (ByteArray × (List UInt8)))) → Prop} {x1566 : List (ByteArray × (List UInt8))} {x1567 : Int} {l1569 : List (ByteArray × (List UInt8))} {r : Bool} (hagag1 : ∀ s, ag1e s = some r → ag1 s) (h : palinodelaw03_FilesPlay_l1_ev fuel x2 ag1e x1566 x1567 l1569 = some r) : palinodelaw03_FilesPlay_l1 x2 ag1 x1566 x1567 l1569 r := by
  unfold palinodelaw03_FilesPlay_l1_ev at h
  unfold palinodelaw03_FilesPlay_l1
  refine ⟨fun g344 => ?_, fun g344 => ?_⟩
  · rw [if_pos g344] at h
    obtain ⟨g345, h⟩ := if_ok h
    refine ⟨g345, ?_⟩
    obtain ⟨q346, g346, h⟩ := bind_ok h
    refine ⟨q346, g346, ?_⟩
    refine ⟨fun g347 => ?_, fun g347 => ?_⟩
    · rw [if_pos g347] at h
      obtain ⟨q348, g348, h⟩ := bind_ok h
      refine ⟨q348, palinodelaw03_all_ok g348, ?_⟩
      obtain ⟨q349, g349, h⟩ := bind_ok h
      refine ⟨q349, palinoderef03_Put_ok g349, ?_⟩
      obtain ⟨q350, g350, h⟩ := bind_ok h
      refine ⟨q350, files_Table_Put_ok g350, ?_⟩
      exact palinodelaw03_FilesPlay_j2_ok hagag1 h
    · rw [if_neg g347] at h
      refine ⟨fun g351 => ?_, fun g351 => ?_⟩
      · rw [if_pos g351] at h
        obtain ⟨q352, g352, h⟩ := bind_ok h
        refine ⟨q352, palinoderef03_Get_ok g352, ?_⟩
        obtain ⟨q353, g353, h⟩ := bind_ok h
        refine ⟨q353, palinodelaw03_all_ok g353, ?_⟩
        obtain ⟨q354, g354, h⟩ := bind_ok h
        refine ⟨q354, palinoderef03_Put_ok g354, ?_⟩
        obtain ⟨q355, g355, h⟩ := bind_ok h
        refine ⟨q355, files_Table_Add_ok g355, ?_⟩
        exact palinodelaw03_FilesPlay_j2_ok hagag1 h
      · rw [if_neg g351] at h
        refine ⟨fun g356 => ?_, fun g356 => ?_⟩
        · rw [if_pos g356] at h
          obtain ⟨q357, g357, h⟩ := bind_ok h
          refine ⟨q357, palinoderef03_Cut_ok g357, ?_⟩
          obtain ⟨q358, g358, h⟩ := bind_ok h
          refine ⟨q358, files_Table_Cut_ok g358, ?_⟩
          exact palinodelaw03_FilesPlay_j2_ok hagag1 h
        · rw [if_neg g356] at h
          refine ⟨fun g359 => ?_, fun g359 => ?_⟩
          · rw [if_pos g359] at h
            obtain ⟨q360, g360, h⟩ := bind_ok h
            refine ⟨q360, files_Table_Copy_ok g360, ?_⟩
            obtain ⟨q361, g361, h⟩ := bind_ok h
            refine ⟨q361, files_Table_Add_ok g361, ?_⟩
            obtain ⟨q362, g362, h⟩ := bind_ok h
            refine ⟨q362, files_Table_Cut_ok g362, ?_⟩
            exact palinodelaw03_FilesPlay_j2_ok hagag1 h
          · rw [if_neg g359] at h
            exact palinodelaw03_FilesPlay_j2_ok hagag1 h
  · rw [if_neg g344] at h
    obtain ⟨q363, g363, h⟩ := bind_ok h
    refine ⟨q363, palinodelaw03_awake_ok g363, ?_⟩
    exact (Option.some.inj h).symm
def palinodelaw03_FilesPlay_ev (fuel : Nat) (x1 : List (ByteArray × (List UInt8))) (x2 : List (Int × Int × ByteArray × (List (List UInt8)))) : Option (Bool) :=
  ((palinodelaw03_great_ev fuel x1 x2).bind fun y9 => (if y9 = true then ((palinodelaw03_awake_ev fuel).bind fun y12 => some y12) else ((files_New_ev fuel x1).bind fun y14 => (optE (y14.2) (((palinoderef03_New_ev fuel x1).bind fun y20 => (if ¬ (y14.1 = y20.2) then some false else (if ¬ ((false == (decide (y20.2 = 0))) = true) then some false else ((palinodelaw03_awake_ev fuel).bind fun y48 => some y48))))) fun x15 => ((palinoderef03_New_ev fuel x1).bind fun y50 => (if ¬ (y14.1 = y50.2) then some false else (if ¬ ((true == (decide (y50.2 = 0))) = true) then some false else (loopE (fun ag1e s => palinodelaw03_FilesPlay_l1_ev fuel x2 ag1e s.1 s.2.1 s.2.2) fuel (y50.1, 0, x15)))))))))
theorem palinodelaw03_FilesPlay_ok {fuel : Nat} {x1 : List (ByteArray × (List UInt8))} {x2 : List (Int × Int × ByteArray × (List (List UInt8)))} {r : Bool} (h : palinodelaw03_FilesPlay_ev fuel x1 x2 = some r) : palinodelaw03_FilesPlay_R x1 x2 r := by
  unfold palinodelaw03_FilesPlay_ev at h
  unfold palinodelaw03_FilesPlay_R
  obtain ⟨q364, g364, h⟩ := bind_ok h
  refine ⟨q364, palinodelaw03_great_ok g364, ?_⟩
  refine ⟨fun g365 => ?_, fun g365 => ?_⟩
  · rw [if_pos g365] at h
    obtain ⟨q366, g366, h⟩ := bind_ok h
    refine ⟨q366, palinodelaw03_awake_ok g366, ?_⟩
    exact (Option.some.inj h).symm
  · rw [if_neg g365] at h
    obtain ⟨q367, g367, h⟩ := bind_ok h
    refine ⟨q367, files_New_ok g367, ?_⟩
    refine ⟨fun g368 => ?_, fun q368 g368 => ?_⟩
    · rw [g368] at h
      simp only [optE] at h
      obtain ⟨q369, g369, h⟩ := bind_ok h
      refine ⟨q369, palinoderef03_New_ok g369, ?_⟩
      refine ⟨fun g370 => ?_, fun g370 => ?_⟩
      · rw [if_pos g370] at h
        exact (Option.some.inj h).symm
      · rw [if_neg g370] at h
        refine ⟨fun g371 => ?_, fun g371 => ?_⟩
        · rw [if_pos g371] at h
          exact (Option.some.inj h).symm
        · rw [if_neg g371] at h
          obtain ⟨q372, g372, h⟩ := bind_ok h
          refine ⟨q372, palinodelaw03_awake_ok g372, ?_⟩
          exact (Option.some.inj h).symm
    · rw [g368] at h
      simp only [optE] at h
      obtain ⟨q373, g373, h⟩ := bind_ok h
      refine ⟨q373, palinoderef03_New_ok g373, ?_⟩
      refine ⟨fun g374 => ?_, fun g374 => ?_⟩
      · rw [if_pos g374] at h
        exact (Option.some.inj h).symm
      · rw [if_neg g374] at h
        refine ⟨fun g375 => ?_, fun g375 => ?_⟩
        · rw [if_pos g375] at h
          exact (Option.some.inj h).symm
        · rw [if_neg g375] at h
          refine loopE_ok ?_ h
          intro ae ag s hag h
          exact palinodelaw03_FilesPlay_l1_ok hag h
set_option maxHeartbeats 4000000 in
theorem palinodelaw03_FilesPlay_con (x1 : List (ByteArray × (List UInt8))) (x2 : List (Int × Int × ByteArray × (List (List UInt8)))) (r : Bool) (h : palinodelaw03_FilesPlay_R x1 x2 r) : Con Try.prog 6 [.sl 2 none (List.map E_palinode_api_File x1), .sl 4 none (List.map E_palinode_palinodelaw03_Act x2)] [] [] (Ret (.v (.bool r))) := by
  refine xenter Try.func6 rfl rfl fun g hg => ?_
  simp only [Try.ntmps6, slots]
  refine xseq ?_
  refine xregion ?_
  refine xvalP (pv_assign rfl) rfl rfl ?_
  refine xnil ?_
  refine xthen ?_
  refine xseq ?_
  refine xseq ?_
  refine xregion ?_
  refine xvalP (pv_move rfl) rfl rfl ?_
  refine xvalP (pv_move rfl) rfl rfl ?_
  obtain ⟨y9, h8, h⟩ := h
  refine xcall0 (palinodelaw03_great_con x1 x2 _ h8) Try.func15 (by kernel_rfl) rfl (.cons rfl (.refl _) (.cons rfl (.refl _) .nil)) rfl rfl ?_
  refine xnil ?_
  refine xthen ?_
  by_cases hp10 : y9 = true
  · replace h := h.1 hp10
    refine xcondT' hp10 rfl ?_
    refine xseq ?_
    refine xregion ?_
    obtain ⟨y12, h11, h⟩ := h
    refine xcall0 (palinodelaw03_awake_con _ h11) Try.func7 (by kernel_rfl) rfl .nil rfl rfl ?_
    refine xvalP (pv_assign rfl) rfl rfl ?_
    refine xnil ?_
    refine xthen ?_
    refine xretc ?_
    refine xthen_ret ?_
    replace h := h.symm
    subst h
    exact xret1 hg rfl rfl (.refl _) (SubM.of (.nil _) (.nil _)) ⟨rfl, rfl, rfl⟩
  · replace h := h.2 hp10
    refine xcondF' (b_f hp10) rfl ?_
    refine xskipc ?_
    refine xthen ?_
    refine xseq ?_
    refine xregion ?_
    refine xvalP (pv_move rfl) rfl rfl ?_
    obtain ⟨y14, h13, h⟩ := h
    refine xcallF (Fb := []) (Ft := []) (files_New_con x1 _ h13) Try.func8 (by kernel_rfl) rfl (.cons rfl (.refl _) .nil) (by exact (SubM.of (by repeat (first | with_reducible exact SubB.refl _ | exact SubB.nil _ | refine SubB.keep rfl rfl (by first | with_reducible exact WkL.refl _ | ((repeat (first | exact WkL.nil | refine WkL.cons (by first | with_reducible exact Wk.refl _ | exact Wk.nil_own _ | exact Wk.nil_pl _ | with_reducible exact Wk.tok _ _ _ | exact Wk.tok _ _ _ | exact Wk.eq (by first | rfl | (simp []; done) | (simp []; omega))) ?_)); done) | exact WkL.refl _) ?_ | refine SubB.drop ?_)) (by repeat (first | exact SubT.nil _ | refine SubT.add ?_ | (refine SubT.keep ?_ ?_; focus (first | with_reducible rfl | (simp []; done))) | refine SubT.drop ?_)))) rfl rfl ?_
    intro rr13 bb13 tt13 hr13
    rcases ho13 : y14.2 with _ | x15
    · have hq13 := hr13.1 ho13
      replace h := h.1 ho13
      obtain ⟨rfl, rfl, rfl⟩ := hq13
      simp only [List.nil_append, List.cons_append]
      refine xvalP (pv_move rfl) rfl rfl ?_
      refine xvalP (pv_extract rfl rfl) rfl rfl ?_
      refine xvalP (pv_extract rfl rfl) rfl rfl ?_
      refine xvalP (pv_assign rfl) rfl rfl ?_
      refine xvalP (pv_assign rfl) rfl rfl ?_
      refine xnil ?_
      refine xthen ?_
      refine xseq ?_
      refine xregion ?_
      refine xvalP (pv_move rfl) rfl rfl ?_
      obtain ⟨y20, h19, h⟩ := h
      refine xcallF (Fb := []) (Ft := []) (palinoderef03_New_con x1 _ h19) Try.func20 (by kernel_rfl) rfl (.cons rfl (.refl _) .nil) (by exact (SubM.of (by repeat (first | with_reducible exact SubB.refl _ | exact SubB.nil _ | refine SubB.keep rfl rfl (by first | with_reducible exact WkL.refl _ | ((repeat (first | exact WkL.nil | refine WkL.cons (by first | with_reducible exact Wk.refl _ | exact Wk.nil_own _ | exact Wk.nil_pl _ | with_reducible exact Wk.tok _ _ _ | exact Wk.tok _ _ _ | exact Wk.eq (by first | rfl | (simp []; done) | (simp []; omega))) ?_)); done) | exact WkL.refl _) ?_ | refine SubB.drop ?_)) (by repeat (first | exact SubT.nil _ | refine SubT.add ?_ | (refine SubT.keep ?_ ?_; focus (first | with_reducible rfl | (simp []; done))) | refine SubT.drop ?_)))) rfl rfl ?_
      rintro _ _ _ ⟨rfl, rfl, rfl⟩
      simp only [List.nil_append, List.cons_append]
      refine xvalP (pv_move rfl) rfl rfl ?_
      refine xvalP (pv_extract rfl rfl) rfl rfl ?_
      refine xvalP (pv_extract rfl rfl) rfl rfl ?_
      refine xvalP (pv_assign rfl) rfl rfl ?_
      refine xvalP (pv_assign rfl) rfl rfl ?_
      refine xnil ?_
      refine xthen ?_
      refine xseq ?_
      refine xseq ?_
      refine xregion ?_
      refine xvalP (pv_move rfl) rfl rfl ?_
      refine xvalP (pv_move rfl) rfl rfl ?_
      refine xvalP (pv_bin2 rfl rfl rfl) rfl rfl ?_
      refine xvalP (pv_move rfl) rfl rfl ?_
      by_cases hp38 : ¬ (y14.1 = y20.2)
      · replace h := h.1 hp38
        refine xsetB 32 (not_t (decide_eq_false hp38)) rfl ?_
        refine xskip rfl rfl ?_
        refine xskip rfl rfl ?_
        refine xskip rfl rfl ?_
        refine xskip rfl rfl ?_
        refine xskip rfl rfl ?_
        refine xvalP (pv_pick rfl rfl) rfl rfl ?_
        refine xnil ?_
        refine xthen ?_
        refine xcondT rfl ?_
        refine xseq ?_
        refine xregion ?_
        refine xvalP (pv_assign rfl) rfl rfl ?_
        refine xnil ?_
        refine xthen ?_
        refine xretc ?_
        refine xthen_ret ?_
        replace h := h.symm
        subst h
        exact xret1 hg rfl rfl (.refl _) (SubM.of (.nil _) (.nil _)) ⟨rfl, rfl, rfl⟩
      · replace h := h.2 hp38
        refine xsetB 32 (not_f (decide_eq_true (Decidable.of_not_not hp38))) rfl ?_
        refine xvalP (pv_move rfl) rfl rfl ?_
        refine xvalP (pv_neNilN UndC.h rfl rfl) rfl rfl ?_
        refine xvalP (pv_move rfl) rfl rfl ?_
        refine xvalP (pv_bin2 rfl rfl rfl) rfl rfl ?_
        refine xvalP (pv_neB UndC.h rfl rfl) rfl rfl ?_
        refine xvalP (pv_pick rfl rfl) rfl rfl ?_
        refine xnil ?_
        refine xthen ?_
        by_cases hp42 : ¬ ((false == (decide (y20.2 = 0))) = true)
        · replace h := h.1 hp42
          refine xcondT' (not_t (b_f hp42)) rfl ?_
          refine xseq ?_
          refine xregion ?_
          refine xvalP (pv_assign rfl) rfl rfl ?_
          refine xnil ?_
          refine xthen ?_
          refine xretc ?_
          refine xthen_ret ?_
          replace h := h.symm
          subst h
          exact xret1 hg rfl rfl (.refl _) (SubM.of (.nil _) (.nil _)) ⟨rfl, rfl, rfl⟩
        · replace h := h.2 hp42
          refine xcondF' (not_f (Decidable.of_not_not hp42)) rfl ?_
          refine xskipc ?_
          refine xthen ?_
          refine xseq ?_
          refine xseq ?_
          refine xregion ?_
          refine xvalP (pv_move rfl) rfl rfl ?_
          refine xvalP (pv_eqNilN UndC.h rfl rfl) rfl rfl ?_
          refine xnil ?_
          refine xthen ?_
          refine xcondT rfl ?_
          refine xseq ?_
          refine xregion ?_
          obtain ⟨y48, h47, h⟩ := h
          refine xcall0 (palinodelaw03_awake_con _ h47) Try.func7 (by kernel_rfl) rfl .nil rfl rfl ?_
          refine xvalP (pv_assign rfl) rfl rfl ?_
          refine xnil ?_
          refine xthen ?_
          refine xretc ?_
          refine xthen_ret ?_
          replace h := h.symm
          subst h
          exact xret1 hg rfl rfl (.refl _) (SubM.of (.nil _) (.nil _)) ⟨rfl, rfl, rfl⟩
    · have hq13 := hr13.2 x15 ho13
      replace h := h.2 x15 ho13
      obtain ⟨b18, i16, rfl, rfl, rfl⟩ := hq13
      simp only [List.nil_append, List.cons_append]
      refine xvalP (pv_move rfl) rfl rfl ?_
      refine xvalP (pv_extract rfl rfl) rfl rfl ?_
      refine xvalP (pv_extract rfl rfl) rfl rfl ?_
      refine xvalP (pv_assign rfl) rfl rfl ?_
      refine xvalP (pv_assign rfl) rfl rfl ?_
      refine xnil ?_
      refine xthen ?_
      refine xseq ?_
      refine xregion ?_
      refine xvalP (pv_move rfl) rfl rfl ?_
      obtain ⟨y50, h49, h⟩ := h
      refine xcallF (Fb := [rbx i16 30 2 (List.map E_palinode_api_File x15), ⟨b18, 60, [.rb i16 x15.length]⟩]) (Ft := []) (palinoderef03_New_con x1 _ h49) Try.func20 (by kernel_rfl) rfl (.cons rfl (.refl _) .nil) (by exact (SubM.of (by repeat (first | with_reducible exact SubB.refl _ | exact SubB.nil _ | refine SubB.keep rfl rfl (by first | with_reducible exact WkL.refl _ | ((repeat (first | exact WkL.nil | refine WkL.cons (by first | with_reducible exact Wk.refl _ | exact Wk.nil_own _ | exact Wk.nil_pl _ | with_reducible exact Wk.tok _ _ _ | exact Wk.tok _ _ _ | exact Wk.eq (by first | rfl | (simp []; done) | (simp []; omega))) ?_)); done) | exact WkL.refl _) ?_ | refine SubB.drop ?_)) (by repeat (first | exact SubT.nil _ | refine SubT.add ?_ | (refine SubT.keep ?_ ?_; focus (first | with_reducible rfl | (simp []; done))) | refine SubT.drop ?_)))) rfl rfl ?_
      rintro _ _ _ ⟨rfl, rfl, rfl⟩
      simp only [List.nil_append, List.cons_append]
      refine xvalP (pv_move rfl) rfl rfl ?_
      refine xvalP (pv_extract rfl rfl) rfl rfl ?_
      refine xvalP (pv_extract rfl rfl) rfl rfl ?_
      refine xvalP (pv_assign rfl) rfl rfl ?_
      refine xvalP (pv_assign rfl) rfl rfl ?_
      refine xnil ?_
      refine xthen ?_
      refine xseq ?_
      refine xseq ?_
      refine xregion ?_
      refine xvalP (pv_move rfl) rfl rfl ?_
      refine xvalP (pv_move rfl) rfl rfl ?_
      refine xvalP (pv_bin2 rfl rfl rfl) rfl rfl ?_
      refine xvalP (pv_move rfl) rfl rfl ?_
      by_cases hp68 : ¬ (y14.1 = y50.2)
      · replace h := h.1 hp68
        refine xsetB 32 (not_t (decide_eq_false hp68)) rfl ?_
        refine xskip rfl rfl ?_
        refine xskip rfl rfl ?_
        refine xskip rfl rfl ?_
        refine xskip rfl rfl ?_
        refine xskip rfl rfl ?_
        refine xvalP (pv_pick rfl rfl) rfl rfl ?_
        refine xnil ?_
        refine xthen ?_
        refine xcondT rfl ?_
        refine xseq ?_
        refine xregion ?_
        refine xvalP (pv_assign rfl) rfl rfl ?_
        refine xnil ?_
        refine xthen ?_
        refine xretc ?_
        refine xthen_ret ?_
        replace h := h.symm
        subst h
        exact xret1 (bx' := []) (tk' := []) hg rfl rfl (.refl _) (SubM.of (.nil _) (.nil _)) ⟨rfl, rfl, rfl⟩
      · replace h := h.2 hp68
        refine xsetB 32 (not_f (decide_eq_true (Decidable.of_not_not hp68))) rfl ?_
        refine xvalP (pv_move rfl) rfl rfl ?_
        refine xvalP (pv_neNil UndC.h rfl rfl) rfl rfl ?_
        refine xvalP (pv_move rfl) rfl rfl ?_
        refine xvalP (pv_bin2 rfl rfl rfl) rfl rfl ?_
        refine xvalP (pv_neB UndC.h rfl rfl) rfl rfl ?_
        refine xvalP (pv_pick rfl rfl) rfl rfl ?_
        refine xnil ?_
        refine xthen ?_
        by_cases hp72 : ¬ ((true == (decide (y50.2 = 0))) = true)
        · replace h := h.1 hp72
          refine xcondT' (not_t (b_f hp72)) rfl ?_
          refine xseq ?_
          refine xregion ?_
          refine xvalP (pv_assign rfl) rfl rfl ?_
          refine xnil ?_
          refine xthen ?_
          refine xretc ?_
          refine xthen_ret ?_
          replace h := h.symm
          subst h
          exact xret1 (bx' := []) (tk' := []) hg rfl rfl (.refl _) (SubM.of (.nil _) (.nil _)) ⟨rfl, rfl, rfl⟩
        · replace h := h.2 hp72
          refine xcondF' (not_f (Decidable.of_not_not hp72)) rfl ?_
          refine xskipc ?_
          refine xthen ?_
          refine xseq ?_
          refine xseq ?_
          refine xregion ?_
          refine xvalP (pv_move rfl) rfl rfl ?_
          refine xvalP (pv_eqNil UndC.h rfl rfl) rfl rfl ?_
          refine xnil ?_
          refine xthen ?_
          refine xcondF rfl ?_
          refine xskipc ?_
          refine xthen ?_
          refine xseq ?_
          refine xseq ?_
          refine xregion ?_
          refine xvalP (pv_assign rfl) rfl rfl ?_
          refine xnil ?_
          refine xthen ?_
          refine xblock ?_
          obtain ⟨Inv, ⟨m0, hI⟩, hS⟩ := h
          refine xloop (fun σ m => ∃ (x1566 : List (ByteArray × (List UInt8))), ∃ (x1567 : Int), ∃ (l1569 : List (ByteArray × (List UInt8))), ∃ (m1565 : Nat), ∃ (i1570 : Option (Nat × Nat)), Inv (x1566, x1567, l1569) m ∧ σ = ⟨[(1, .sl 4 none (List.map E_palinode_palinodelaw03_Act x2)), (5, .v (.pointer (some ⟨m1565, 0, none⟩))), (7, .sl 2 none (List.map E_palinode_api_File x1566)), (9, .v (.int .i64 x1567))], [rbx i1570 30 2 (List.map E_palinode_api_File l1569), ⟨m1565, 60, [.rb i1570 l1569.length]⟩], []⟩) ⟨y50.1, 0, x15, b18, i16, hI, rfl⟩ ⟨(.cons rfl (.refl _) (.cons rfl (.refl _) (.cons rfl (.refl _) (.cons rfl (.refl _) (.nil _))))), by exact (SubM.of (.keep rfl rfl (.refl _) (.keep rfl rfl (.cons (.eq (by first | rfl | simp)) .nil) (.nil _))) (.nil _))⟩ ?_
          rintro _ m ⟨x1566, x1567, l1569, m1565, i1570, hI, rfl⟩
          obtain ⟨ag1, hag1, h⟩ : ∃ ag, (∀ s', ag s' → ∃ m', m' < m ∧ Inv s' m') ∧ palinodelaw03_FilesPlay_l1 x2 ag x1566 x1567 l1569 r := ⟨_, fun _ h => h, hS (x1566, x1567, l1569) _ hI⟩
          clear hS hI
          refine xseq ?_
          refine xseq ?_
          refine xregion ?_
          refine xvalP (pv_move rfl) rfl rfl ?_
          refine xvalP (pv_move rfl) rfl rfl ?_
          refine xvalP (pv_lenM UndC.h rfl) rfl rfl ?_
          refine xvalP (pv_bin2 rfl rfl rfl) rfl rfl ?_
          refine xnil ?_
          refine xthen ?_
          by_cases hp1947 : x1567 < (x2.length : Int)
          · replace h := h.1 hp1947
            refine xcondT' (decide_eq_true hp1947) rfl ?_
            refine xskipc ?_
            refine xthen ?_
            refine xseq ?_
            refine xblock ?_
            refine xseq ?_
            refine xregion ?_
            refine xvalP (pv_move rfl) rfl rfl ?_
            refine xvalP (pv_move rfl) rfl rfl ?_
            obtain ⟨h2131a, h⟩ := h
            obtain ⟨y2130, h2131b, h⟩ := h
            refine xvalP (pv_indexAddrM h2131a h2131b UndC.h ShpC.h rfl rfl) rfl rfl ?_
            refine xval (qv_load ShpC.h rfl rfl rfl) rfl rfl ?_
            refine xalloc InfC.h rfl rfl fun b10 => ?_
            refine xstore 0 ShpC.h rfl rfl rfl rfl rfl rfl rfl ?_
            refine xnil ?_
            refine xthen ?_
            refine xseq ?_
            refine xregion ?_
            refine xvalP (pv_assign rfl) rfl rfl ?_
            refine xnil ?_
            refine xthen ?_
            refine xseq ?_
            refine xregion ?_
            refine xvalP (pv_assign rfl) rfl rfl ?_
            refine xnil ?_
            refine xthen ?_
            refine xseqM (fun σ => ∃ (x2193 : Int), ∃ (x2194 : List (ByteArray × (List UInt8))), ∃ (x2195 : Int), ∃ (l2197 : List (ByteArray × (List UInt8))), ∃ (m2192 : Nat), ∃ (i2198 : Option (Nat × Nat)), palinodelaw03_FilesPlay_j2 y2130 x1567 ag1 x2193 x2194 x2195 l2197 r ∧ σ = ⟨[(1, .sl 4 none (List.map E_palinode_palinodelaw03_Act x2)), (5, .v (.pointer (some ⟨m2192, 0, none⟩))), (6, .v (.int .i64 x2193)), (7, .sl 2 none (List.map E_palinode_api_File x2194)), (8, .v (.int .i64 x2195)), (9, .v (.int .i64 x1567)), (10, .v (.pointer (some ⟨b10, 0, none⟩)))], [rbx i2198 30 2 (List.map E_palinode_api_File l2197), ⟨m2192, 60, [.rb i2198 l2197.length]⟩, ⟨b10, 42, [.v (.int .i64 y2130.1), .v (.int .i64 y2130.2.1), .v (.string y2130.2.2.1), .sl 1 none (List.map E_uint8 y2130.2.2.2)]⟩], []⟩) ?_ ?_
            · refine xseq ?_
              refine xregion ?_
              refine xvalP (qv_fieldAddrB FldC.h rfl) rfl rfl ?_
              refine xval (qv_loadB 0 ShpC.h rfl rfl rfl rfl) rfl rfl ?_
              refine xnil ?_
              refine xthen ?_
              refine xblock ?_
              refine xseq ?_
              refine xregion ?_
              refine xvalP (pv_bin2 rfl rfl rfl) rfl rfl ?_
              refine xvalP (pv_assign rfl) rfl rfl ?_
              refine xnil ?_
              refine xthen ?_
              by_cases hp2200 : y2130.1 = 0
              · replace h := h.1 hp2200
                refine xcondT' (decide_eq_true hp2200) rfl ?_
                refine xseq ?_
                refine xregion ?_
                refine xvalP (qv_fieldAddrB FldC.h rfl) rfl rfl ?_
                refine xval (qv_loadB 0 ShpC.h rfl rfl rfl rfl) rfl rfl ?_
                obtain ⟨y2202, h2201, h⟩ := h
                refine xcallM (palinodelaw03_all_con ([] : List UInt8) y2130.2.2.2 _ h2201) Try.func17 (by kernel_rfl) rfl (.cons rfl (.nil_pl _) (.cons rfl (.refl _) .nil)) rfl rfl fun i2203 => ?_
                refine xvalP (pv_assign rfl) rfl rfl ?_
                refine xnil ?_
                refine xthen ?_
                refine xseq ?_
                refine xregion ?_
                refine xvalP (pv_move rfl) rfl rfl ?_
                refine xvalP (qv_fieldAddrB FldC.h rfl) rfl rfl ?_
                refine xval (qv_loadB 0 ShpC.h rfl rfl rfl rfl) rfl rfl ?_
                refine xvalP (pv_move rfl) rfl rfl ?_
                obtain ⟨y2205, h2204, h⟩ := h
                refine xcallF (Fb := [⟨b10, 42, [.v (.int .i64 y2130.1), .v (.int .i64 y2130.2.1), .v (.string y2130.2.2.1), .sl 1 none (List.map E_uint8 y2130.2.2.2)]⟩, rbx i1570 30 2 (List.map E_palinode_api_File l1569), ⟨m1565, 60, [.rb i1570 l1569.length]⟩]) (Ft := [⟨i2203, 5, 1, y2202.length⟩]) (palinoderef03_Put_con x1566 y2130.2.2.1 y2202 _ h2204) Try.func21 (by kernel_rfl) rfl (.cons rfl (.refl _) (.cons rfl (.refl _) (.cons rfl (.tok _ _ _) .nil))) (by exact (SubM.of (by repeat (first | with_reducible exact SubB.refl _ | exact SubB.nil _ | refine SubB.keep rfl rfl (by first | with_reducible exact WkL.refl _ | ((repeat (first | exact WkL.nil | refine WkL.cons (by first | with_reducible exact Wk.refl _ | exact Wk.nil_own _ | exact Wk.nil_pl _ | with_reducible exact Wk.tok _ _ _ | exact Wk.tok _ _ _ | exact Wk.eq (by first | rfl | (simp []; done) | (simp []; omega))) ?_)); done) | exact WkL.refl _) ?_ | refine SubB.drop ?_)) (by repeat (first | exact SubT.nil _ | refine SubT.add ?_ | (refine SubT.keep ?_ ?_; focus (first | with_reducible rfl | (simp []; done))) | refine SubT.drop ?_)))) rfl rfl ?_
                rintro _ _ _ ⟨rfl, rfl, rfl⟩
                simp only [List.nil_append, List.cons_append]
                refine xvalP (pv_move rfl) rfl rfl ?_
                refine xvalP (pv_extract rfl rfl) rfl rfl ?_
                refine xvalP (pv_extract rfl rfl) rfl rfl ?_
                refine xvalP (pv_assign rfl) rfl rfl ?_
                refine xvalP (pv_assign rfl) rfl rfl ?_
                refine xnil ?_
                refine xthen ?_
                refine xregion ?_
                refine xvalP (pv_move rfl) rfl rfl ?_
                refine xvalP (qv_fieldAddrB FldC.h rfl) rfl rfl ?_
                refine xval (qv_loadB 0 ShpC.h rfl rfl rfl rfl) rfl rfl ?_
                refine xvalP (pv_move rfl) rfl rfl ?_
                obtain ⟨y2207, h2206, h⟩ := h
                refine xcallF (Fb := [⟨b10, 42, [.v (.int .i64 y2130.1), .v (.int .i64 y2130.2.1), .v (.string y2130.2.2.1), .sl 1 none (List.map E_uint8 y2130.2.2.2)]⟩]) (Ft := [⟨i2203, 5, 1, y2202.length⟩]) (files_Table_Put_con l1569 y2130.2.2.1 y2202 m1565 i1570 _ h2206) Try.func12 (by kernel_rfl) rfl (.cons rfl (.refl _) (.cons rfl (.refl _) (.cons rfl (.tok _ _ _) .nil))) (by refine SubM.trans (SubM.mvB 1 rfl) ?_; refine SubM.trans (SubM.mvB 2 rfl) ?_; (simp only [List.eraseIdx]); exact (SubM.of (by repeat (first | with_reducible exact SubB.refl _ | exact SubB.nil _ | refine SubB.keep rfl rfl (by first | with_reducible exact WkL.refl _ | ((repeat (first | exact WkL.nil | refine WkL.cons (by first | with_reducible exact Wk.refl _ | exact Wk.nil_own _ | exact Wk.nil_pl _ | with_reducible exact Wk.tok _ _ _ | exact Wk.tok _ _ _ | exact Wk.eq (by first | rfl | (simp []; done) | (simp []; omega))) ?_)); done) | exact WkL.refl _) ?_ | refine SubB.drop ?_)) (by repeat (first | exact SubT.nil _ | refine SubT.add ?_ | (refine SubT.keep ?_ ?_; focus (first | with_reducible rfl | (simp []; done))) | refine SubT.drop ?_)))) rfl rfl ?_
                rintro _ _ _ ⟨i2208, rfl, rfl, rfl⟩
                simp only [List.nil_append, List.cons_append]
                refine xvalP (pv_assign rfl) rfl rfl ?_
                refine xnil ?_
                refine xin_normal ?_
                exact xmeet ⟨y2207.1, y2205.1, y2205.2, y2207.2, m1565, i2208, h, rfl⟩ ⟨(.cons rfl (.refl _) (.cons rfl (.refl _) (.cons rfl (.refl _) (.cons rfl (.refl _) (.cons rfl (.refl _) (.cons rfl (.refl _) (.cons rfl (.refl _) (.nil _)))))))), by exact (SubM.of (.keep rfl rfl (.refl _) (.keep rfl rfl (.cons (.eq (by first | rfl | simp)) .nil) (.keep rfl rfl (.refl _) (.nil _)))) (.nil _))⟩
              · replace h := h.2 hp2200
                refine xcondF' (decide_eq_false hp2200) rfl ?_
                refine xseq ?_
                refine xregion ?_
                refine xvalP (pv_bin2 rfl rfl rfl) rfl rfl ?_
                refine xvalP (pv_assign rfl) rfl rfl ?_
                refine xnil ?_
                refine xthen ?_
                by_cases hp2210 : y2130.1 = 1
                · replace h := h.1 hp2210
                  refine xcondT' (decide_eq_true hp2210) rfl ?_
                  refine xseq ?_
                  refine xregionD (m := 16) (by kernel_rfl) rfl ?_
                  obtain ⟨y2224, h2223, h⟩ := h
                  obtain ⟨y2226, h2225, h⟩ := h
                  obtain ⟨y2229, h2228, h⟩ := h
                  refine xpcut 6 #[true, true, true, true, true, true, true, true, true, true, false, false, false, false, false, false] (fun σ => ∃ (i2230 : Option (Nat × Nat)), σ = ⟨[(1, .sl 4 none (List.map E_palinode_palinodelaw03_Act x2)), (5, .v (.pointer (some ⟨m1565, 0, none⟩))), (7, .sl 2 none (List.map E_palinode_api_File x1566)), (8, .v (.int .i64 0)), (9, .v (.int .i64 x1567)), (10, .v (.pointer (some ⟨b10, 0, none⟩))), (75, .sl 2 none (List.map E_palinode_api_File x1566)), (77, .v (.string y2130.2.2.1)), (84, .sl 1 (some i2230) (List.map eb y2226))], [⟨b10, 42, [.v (.int .i64 y2130.1), .v (.int .i64 y2130.2.1), .v (.string y2130.2.2.1), .sl 1 none (List.map E_uint8 y2130.2.2.2)]⟩, rbx i1570 30 2 (List.map E_palinode_api_File l1569), ⟨m1565, 60, [.rb i1570 l1569.length]⟩], [⟨i2230, 5, 1, y2226.length⟩]⟩) ?_ (fun key2231 => ?_)
                  · rintro _ ⟨i2230, rfl⟩
                    refine xpstep (i := 10) (by kernel_rfl) rfl ?_
                    refine wcallF (Fb := [⟨b10, 42, [.v (.int .i64 y2130.1), .v (.int .i64 y2130.2.1), .v (.string y2130.2.2.1), .sl 1 none (List.map E_uint8 y2130.2.2.2)]⟩, rbx i1570 30 2 (List.map E_palinode_api_File l1569), ⟨m1565, 60, [.rb i1570 l1569.length]⟩]) (Ft := [⟨i2230, 5, 1, y2226.length⟩]) (palinoderef03_Put_con x1566 y2130.2.2.1 y2226 _ h2228) Try.func21 (by kernel_rfl) rfl (.cons rfl (.refl _) (.cons rfl (.refl _) (.cons rfl (.tok _ _ _) .nil))) (by exact (SubM.of (by repeat (first | with_reducible exact SubB.refl _ | exact SubB.nil _ | refine SubB.keep rfl rfl (by first | with_reducible exact WkL.refl _ | ((repeat (first | exact WkL.nil | refine WkL.cons (by first | with_reducible exact Wk.refl _ | exact Wk.nil_own _ | exact Wk.nil_pl _ | with_reducible exact Wk.tok _ _ _ | exact Wk.tok _ _ _ | exact Wk.eq (by first | rfl | (simp []; done) | (simp []; omega))) ?_)); done) | exact WkL.refl _) ?_ | refine SubB.drop ?_)) (by repeat (first | exact SubT.nil _ | refine SubT.add ?_ | (refine SubT.keep ?_ ?_; focus (first | with_reducible rfl | (simp []; done))) | refine SubT.drop ?_)))) rfl rfl ?_
                    rintro _ _ _ ⟨rfl, rfl, rfl⟩
                    simp only [List.nil_append, List.cons_append]
                    refine xpval 11 rfl (pv_move rfl) rfl rfl (by kernel_rfl) (by kernel_rfl) (by kernel_rfl) (fun _ _ _ _ h => h) ?_
                    refine xpval 12 rfl (pv_extract rfl rfl) rfl rfl (by kernel_rfl) (by kernel_rfl) (by kernel_rfl) (fun _ _ _ _ h => h) ?_
                    refine xpval 13 rfl (pv_extract rfl rfl) rfl rfl (by kernel_rfl) (by kernel_rfl) (by kernel_rfl) (fun _ _ _ _ h => h) ?_
                    refine xpval 14 rfl (pv_assign rfl) rfl rfl (by kernel_rfl) (by kernel_rfl) (by kernel_rfl) (fun _ _ _ _ h => h) ?_
                    refine xpval 15 rfl (pv_assign rfl) rfl rfl (by kernel_rfl) (by kernel_rfl) (by kernel_rfl) (fun _ _ _ _ h => h) ?_
                    refine xpdone (by kernel_rfl) ?_
                    refine xthen ?_
                    refine xregion ?_
                    refine xvalP (pv_move rfl) rfl rfl ?_
                    refine xvalP (qv_fieldAddrB FldC.h rfl) rfl rfl ?_
                    refine xval (qv_loadB 0 ShpC.h rfl rfl rfl rfl) rfl rfl ?_
                    refine xvalP (qv_fieldAddrB FldC.h rfl) rfl rfl ?_
                    refine xval (qv_loadB 0 ShpC.h rfl rfl rfl rfl) rfl rfl ?_
                    obtain ⟨y2233, h2232, h⟩ := h
                    refine xcallF (Fb := [⟨b10, 42, [.v (.int .i64 y2130.1), .v (.int .i64 y2130.2.1), .v (.string y2130.2.2.1), .sl 1 none (List.map E_uint8 y2130.2.2.2)]⟩]) (Ft := [⟨i2230, 5, 1, y2226.length⟩]) (files_Table_Add_con l1569 y2130.2.2.1 y2130.2.2.2 m1565 i1570 _ h2232) Try.func11 (by kernel_rfl) rfl (.cons rfl (.refl _) (.cons rfl (.refl _) (.cons rfl (.refl _) .nil))) (by refine SubM.trans (SubM.mvB 1 rfl) ?_; refine SubM.trans (SubM.mvB 2 rfl) ?_; (simp only [List.eraseIdx]); exact (SubM.of (by repeat (first | with_reducible exact SubB.refl _ | exact SubB.nil _ | refine SubB.keep rfl rfl (by first | with_reducible exact WkL.refl _ | ((repeat (first | exact WkL.nil | refine WkL.cons (by first | with_reducible exact Wk.refl _ | exact Wk.nil_own _ | exact Wk.nil_pl _ | with_reducible exact Wk.tok _ _ _ | exact Wk.tok _ _ _ | exact Wk.eq (by first | rfl | (simp []; done) | (simp []; omega))) ?_)); done) | exact WkL.refl _) ?_ | refine SubB.drop ?_)) (by repeat (first | exact SubT.nil _ | refine SubT.add ?_ | (refine SubT.keep ?_ ?_; focus (first | with_reducible rfl | (simp []; done))) | refine SubT.drop ?_)))) rfl rfl ?_
                    rintro _ _ _ ⟨i2234, rfl, rfl, rfl⟩
                    simp only [List.nil_append, List.cons_append]
                    refine xvalP (pv_assign rfl) rfl rfl ?_
                    refine xnil ?_
                    refine xin_normal ?_
                    exact xmeet ⟨y2233.1, y2229.1, y2229.2, y2233.2, m1565, i2234, h, rfl⟩ ⟨(.cons rfl (.refl _) (.cons rfl (.refl _) (.cons rfl (.refl _) (.cons rfl (.refl _) (.cons rfl (.refl _) (.cons rfl (.refl _) (.cons rfl (.refl _) (.nil _)))))))), by exact (SubM.of (.keep rfl rfl (.refl _) (.keep rfl rfl (.cons (.eq (by first | rfl | simp)) .nil) (.keep rfl rfl (.refl _) (.nil _)))) (.nil _))⟩
                  refine xpcut 7 #[true, true, true, true, true, true, true, true, true, false, false, false, false, false, false, false] (fun σ => σ = ⟨[(1, .sl 4 none (List.map E_palinode_palinodelaw03_Act x2)), (5, .v (.pointer (some ⟨m1565, 0, none⟩))), (7, .sl 2 none (List.map E_palinode_api_File x1566)), (8, .v (.int .i64 0)), (9, .v (.int .i64 x1567)), (10, .v (.pointer (some ⟨b10, 0, none⟩))), (75, .sl 2 none (List.map E_palinode_api_File x1566)), (77, .v (.string y2130.2.2.1)), (81, .sl 1 none (List.map eb y2224)), (83, .sl 1 none (List.map E_uint8 y2130.2.2.2))], [⟨b10, 42, [.v (.int .i64 y2130.1), .v (.int .i64 y2130.2.1), .v (.string y2130.2.2.1), .sl 1 none (List.map E_uint8 y2130.2.2.2)]⟩, rbx i1570 30 2 (List.map E_palinode_api_File l1569), ⟨m1565, 60, [.rb i1570 l1569.length]⟩], []⟩) ?_ (fun key2235 => ?_)
                  · rintro _ rfl
                    refine xpstep (i := 9) (by kernel_rfl) rfl ?_
                    refine wcallM (palinodelaw03_all_con y2224 y2130.2.2.2 _ h2225) Try.func17 (by kernel_rfl) rfl (.cons rfl (.refl _) (.cons rfl (.refl _) .nil)) rfl rfl fun i2227 => ?_
                    exact xpuse key2231 ⟨i2227, rfl⟩ ⟨(.cons rfl (.refl _) (.cons rfl (.refl _) (.cons rfl (.refl _) (.cons rfl (.refl _) (.cons rfl (.refl _) (.cons rfl (.refl _) (.cons rfl (.refl _) (.cons rfl (.refl _) (.cons rfl (.refl _) (.nil _)))))))))), by exact (SubM.of (.keep rfl rfl (.refl _) (.keep rfl rfl (.refl _) (.keep rfl rfl (.cons (.eq (by first | rfl | simp)) .nil) (.nil _)))) (.keep rfl (.nil _)))⟩ rfl (by kernel_rfl)
                  refine xpcut 8 #[true, true, true, true, true, true, false, true, true, false, false, false, false, false, false, false] (fun σ => σ = ⟨[(1, .sl 4 none (List.map E_palinode_palinodelaw03_Act x2)), (5, .v (.pointer (some ⟨m1565, 0, none⟩))), (7, .sl 2 none (List.map E_palinode_api_File x1566)), (8, .v (.int .i64 0)), (9, .v (.int .i64 x1567)), (10, .v (.pointer (some ⟨b10, 0, none⟩))), (75, .sl 2 none (List.map E_palinode_api_File x1566)), (77, .v (.string y2130.2.2.1)), (78, .sl 2 none (List.map E_palinode_api_File x1566)), (80, .v (.string y2130.2.2.1)), (83, .sl 1 none (List.map E_uint8 y2130.2.2.2))], [⟨b10, 42, [.v (.int .i64 y2130.1), .v (.int .i64 y2130.2.1), .v (.string y2130.2.2.1), .sl 1 none (List.map E_uint8 y2130.2.2.2)]⟩, rbx i1570 30 2 (List.map E_palinode_api_File l1569), ⟨m1565, 60, [.rb i1570 l1569.length]⟩], []⟩) ?_ (fun key2236 => ?_)
                  · rintro _ rfl
                    refine xpstep (i := 6) (by kernel_rfl) rfl ?_
                    refine wcall0 (palinoderef03_Get_con x1566 y2130.2.2.1 _ h2223) Try.func22 (by kernel_rfl) rfl (.cons rfl (.refl _) (.cons rfl (.refl _) .nil)) rfl rfl ?_
                    exact xpuse key2235 rfl ⟨(.cons rfl (.refl _) (.cons rfl (.refl _) (.cons rfl (.refl _) (.cons rfl (.refl _) (.cons rfl (.refl _) (.cons rfl (.refl _) (.cons rfl (.refl _) (.cons rfl (.refl _) (.cons rfl (.refl _) (.cons rfl (.refl _) (.nil _))))))))))), by exact (SubM.of (.keep rfl rfl (.refl _) (.keep rfl rfl (.refl _) (.keep rfl rfl (.cons (.eq (by first | rfl | simp)) .nil) (.nil _)))) (.nil _))⟩ rfl (by kernel_rfl)
                  refine xpcut 8 #[true, true, false, true, true, true, true, true, true, false, false, false, false, false, false, false] (fun σ => σ = ⟨[(1, .sl 4 none (List.map E_palinode_palinodelaw03_Act x2)), (5, .v (.pointer (some ⟨m1565, 0, none⟩))), (7, .sl 2 none (List.map E_palinode_api_File x1566)), (8, .v (.int .i64 0)), (9, .v (.int .i64 x1567)), (10, .v (.pointer (some ⟨b10, 0, none⟩))), (75, .sl 2 none (List.map E_palinode_api_File x1566)), (76, .v (.pointer (some ⟨b10, 2, none⟩))), (81, .sl 1 none (List.map eb y2224)), (83, .sl 1 none (List.map E_uint8 y2130.2.2.2))], [⟨b10, 42, [.v (.int .i64 y2130.1), .v (.int .i64 y2130.2.1), .v (.string y2130.2.2.1), .sl 1 none (List.map E_uint8 y2130.2.2.2)]⟩, rbx i1570 30 2 (List.map E_palinode_api_File l1569), ⟨m1565, 60, [.rb i1570 l1569.length]⟩], []⟩) ?_ (fun key2237 => ?_)
                  · rintro _ rfl
                    refine xpstepN (is := [2, 9]) (by kernel_rfl) (by simp) ?_
                    intro i hi; simp only [List.mem_cons, List.not_mem_nil, or_false] at hi; rcases hi with rfl | rfl
                    · refine ⟨_, rfl, ?_⟩
                      refine wval (qv_loadB 0 ShpC.h rfl rfl rfl rfl) rfl rfl ?_
                      exact xpuse key2235 rfl ⟨(.cons rfl (.refl _) (.cons rfl (.refl _) (.cons rfl (.refl _) (.cons rfl (.refl _) (.cons rfl (.refl _) (.cons rfl (.refl _) (.cons rfl (.refl _) (.cons rfl (.refl _) (.cons rfl (.refl _) (.cons rfl (.refl _) (.nil _))))))))))), by exact (SubM.of (.keep rfl rfl (.refl _) (.keep rfl rfl (.refl _) (.keep rfl rfl (.cons (.eq (by first | rfl | simp)) .nil) (.nil _)))) (.nil _))⟩ rfl (by kernel_rfl)
                    · refine ⟨_, rfl, ?_⟩
                      refine wcallM (palinodelaw03_all_con y2224 y2130.2.2.2 _ h2225) Try.func17 (by kernel_rfl) rfl (.cons rfl (.refl _) (.cons rfl (.refl _) .nil)) rfl rfl fun i2227 => ?_
                      refine xpvalE 2 [] rfl (qv_loadB 0 ShpC.h rfl rfl rfl rfl) rfl rfl (by kernel_rfl) (by kernel_rfl) (by kernel_rfl) (fun _ _ _ _ h => h) ?_
                      exact xpuse key2231 ⟨i2227, rfl⟩ ⟨(.cons rfl (.refl _) (.cons rfl (.refl _) (.cons rfl (.refl _) (.cons rfl (.refl _) (.cons rfl (.refl _) (.cons rfl (.refl _) (.cons rfl (.refl _) (.cons rfl (.refl _) (.cons rfl (.refl _) (.nil _)))))))))), by exact (SubM.of (.keep rfl rfl (.refl _) (.keep rfl rfl (.refl _) (.keep rfl rfl (.cons (.eq (by first | rfl | simp)) .nil) (.nil _)))) (.keep rfl (.nil _)))⟩ rfl (by kernel_rfl)
                  refine xpval 0 rfl (pv_move rfl) rfl rfl (by kernel_rfl) (by kernel_rfl) (by kernel_rfl) (fun _ _ _ _ h => h) ?_
                  refine xpval 1 rfl (qv_fieldAddrB FldC.h rfl) rfl rfl (by kernel_rfl) (by kernel_rfl) (by kernel_rfl) (fun _ _ _ _ h => h) ?_
                  refine xpval 3 rfl (pv_move rfl) rfl rfl (by kernel_rfl) (by kernel_rfl) (by kernel_rfl) (fun _ _ _ _ h => h) ?_
                  refine xpval 4 rfl (qv_fieldAddrB FldC.h rfl) rfl rfl (by kernel_rfl) (by kernel_rfl) (by kernel_rfl) (fun _ _ _ _ h => h) ?_
                  refine xpval 7 rfl (qv_fieldAddrB FldC.h rfl) rfl rfl (by kernel_rfl) (by kernel_rfl) (by kernel_rfl) (fun _ _ _ _ h => h) ?_
                  refine xpvalE 5 [2, 8] rfl (qv_loadB 0 ShpC.h rfl rfl rfl rfl) rfl rfl (by kernel_rfl) (by kernel_rfl) (by kernel_rfl) (fun _ _ _ _ h => h) ?_
                  refine xpstepN (is := [2, 6, 8]) (by kernel_rfl) (by simp) ?_
                  intro i hi; simp only [List.mem_cons, List.not_mem_nil, or_false] at hi; rcases hi with rfl | rfl | rfl
                  · refine ⟨_, rfl, ?_⟩
                    refine wval (qv_loadB 0 ShpC.h rfl rfl rfl rfl) rfl rfl ?_
                    refine xpstepN (is := [6, 8]) (by kernel_rfl) (by simp) ?_
                    intro i hi; simp only [List.mem_cons, List.not_mem_nil, or_false] at hi; rcases hi with rfl | rfl
                    · refine ⟨_, rfl, ?_⟩
                      refine wcall0 (palinoderef03_Get_con x1566 y2130.2.2.1 _ h2223) Try.func22 (by kernel_rfl) rfl (.cons rfl (.refl _) (.cons rfl (.refl _) .nil)) rfl rfl ?_
                      refine xpvalE 8 [] rfl (qv_loadB 0 ShpC.h rfl rfl rfl rfl) rfl rfl (by kernel_rfl) (by kernel_rfl) (by kernel_rfl) (fun _ _ _ _ h => h) ?_
                      exact xpuse key2235 rfl ⟨(.cons rfl (.refl _) (.cons rfl (.refl _) (.cons rfl (.refl _) (.cons rfl (.refl _) (.cons rfl (.refl _) (.cons rfl (.refl _) (.cons rfl (.refl _) (.cons rfl (.refl _) (.cons rfl (.refl _) (.cons rfl (.refl _) (.nil _))))))))))), by exact (SubM.of (.keep rfl rfl (.refl _) (.keep rfl rfl (.refl _) (.keep rfl rfl (.cons (.eq (by first | rfl | simp)) .nil) (.nil _)))) (.nil _))⟩ rfl (by kernel_rfl)
                    · refine ⟨_, rfl, ?_⟩
                      refine wval (qv_loadB 0 ShpC.h rfl rfl rfl rfl) rfl rfl ?_
                      exact xpuse key2236 rfl ⟨(.cons rfl (.refl _) (.cons rfl (.refl _) (.cons rfl (.refl _) (.cons rfl (.refl _) (.cons rfl (.refl _) (.cons rfl (.refl _) (.cons rfl (.refl _) (.cons rfl (.refl _) (.cons rfl (.refl _) (.cons rfl (.refl _) (.cons rfl (.refl _) (.nil _)))))))))))), by exact (SubM.of (.keep rfl rfl (.refl _) (.keep rfl rfl (.refl _) (.keep rfl rfl (.cons (.eq (by first | rfl | simp)) .nil) (.nil _)))) (.nil _))⟩ rfl (by kernel_rfl)
                  · refine ⟨_, rfl, ?_⟩
                    refine wcall0 (palinoderef03_Get_con x1566 y2130.2.2.1 _ h2223) Try.func22 (by kernel_rfl) rfl (.cons rfl (.refl _) (.cons rfl (.refl _) .nil)) rfl rfl ?_
                    refine xpvalE 8 [2] rfl (qv_loadB 0 ShpC.h rfl rfl rfl rfl) rfl rfl (by kernel_rfl) (by kernel_rfl) (by kernel_rfl) (fun _ _ _ _ h => h) ?_
                    exact xpuse key2237 rfl ⟨(.cons rfl (.refl _) (.cons rfl (.refl _) (.cons rfl (.refl _) (.cons rfl (.refl _) (.cons rfl (.refl _) (.cons rfl (.refl _) (.cons rfl (.refl _) (.cons rfl (.refl _) (.cons rfl (.refl _) (.cons rfl (.refl _) (.nil _))))))))))), by exact (SubM.of (.keep rfl rfl (.refl _) (.keep rfl rfl (.refl _) (.keep rfl rfl (.cons (.eq (by first | rfl | simp)) .nil) (.nil _)))) (.nil _))⟩ rfl (by kernel_rfl)
                  · refine ⟨_, rfl, ?_⟩
                    refine wval (qv_loadB 0 ShpC.h rfl rfl rfl rfl) rfl rfl ?_
                    refine xpstepN (is := [2, 6]) (by kernel_rfl) (by simp) ?_
                    intro i hi; simp only [List.mem_cons, List.not_mem_nil, or_false] at hi; rcases hi with rfl | rfl
                    · refine ⟨_, rfl, ?_⟩
                      refine wval (qv_loadB 0 ShpC.h rfl rfl rfl rfl) rfl rfl ?_
                      exact xpuse key2236 rfl ⟨(.cons rfl (.refl _) (.cons rfl (.refl _) (.cons rfl (.refl _) (.cons rfl (.refl _) (.cons rfl (.refl _) (.cons rfl (.refl _) (.cons rfl (.refl _) (.cons rfl (.refl _) (.cons rfl (.refl _) (.cons rfl (.refl _) (.cons rfl (.refl _) (.nil _)))))))))))), by exact (SubM.of (.keep rfl rfl (.refl _) (.keep rfl rfl (.refl _) (.keep rfl rfl (.cons (.eq (by first | rfl | simp)) .nil) (.nil _)))) (.nil _))⟩ rfl (by kernel_rfl)
                    · refine ⟨_, rfl, ?_⟩
                      refine wcall0 (palinoderef03_Get_con x1566 y2130.2.2.1 _ h2223) Try.func22 (by kernel_rfl) rfl (.cons rfl (.refl _) (.cons rfl (.refl _) .nil)) rfl rfl ?_
                      exact xpuse key2237 rfl ⟨(.cons rfl (.refl _) (.cons rfl (.refl _) (.cons rfl (.refl _) (.cons rfl (.refl _) (.cons rfl (.refl _) (.cons rfl (.refl _) (.cons rfl (.refl _) (.cons rfl (.refl _) (.cons rfl (.refl _) (.cons rfl (.refl _) (.nil _))))))))))), by exact (SubM.of (.keep rfl rfl (.refl _) (.keep rfl rfl (.refl _) (.keep rfl rfl (.cons (.eq (by first | rfl | simp)) .nil) (.nil _)))) (.nil _))⟩ rfl (by kernel_rfl)
                · replace h := h.2 hp2210
                  refine xcondF' (decide_eq_false hp2210) rfl ?_
                  refine xseq ?_
                  refine xregion ?_
                  refine xvalP (pv_bin2 rfl rfl rfl) rfl rfl ?_
                  refine xvalP (pv_assign rfl) rfl rfl ?_
                  refine xnil ?_
                  refine xthen ?_
                  by_cases hp2239 : y2130.1 = 2
                  · replace h := h.1 hp2239
                    refine xcondT' (decide_eq_true hp2239) rfl ?_
                    refine xseq ?_
                    refine xregion ?_
                    refine xvalP (pv_move rfl) rfl rfl ?_
                    refine xvalP (qv_fieldAddrB FldC.h rfl) rfl rfl ?_
                    refine xval (qv_loadB 0 ShpC.h rfl rfl rfl rfl) rfl rfl ?_
                    refine xvalP (qv_fieldAddrB FldC.h rfl) rfl rfl ?_
                    refine xval (qv_loadB 0 ShpC.h rfl rfl rfl rfl) rfl rfl ?_
                    obtain ⟨y2241, h2240, h⟩ := h
                    refine xcallF (Fb := [⟨b10, 42, [.v (.int .i64 y2130.1), .v (.int .i64 y2130.2.1), .v (.string y2130.2.2.1), .sl 1 none (List.map E_uint8 y2130.2.2.2)]⟩, rbx i1570 30 2 (List.map E_palinode_api_File l1569), ⟨m1565, 60, [.rb i1570 l1569.length]⟩]) (Ft := []) (palinoderef03_Cut_con x1566 y2130.2.2.1 y2130.2.1 _ h2240) Try.func23 (by kernel_rfl) rfl (.cons rfl (.refl _) (.cons rfl (.refl _) (.cons rfl (.refl _) .nil))) (by exact (SubM.of (by repeat (first | with_reducible exact SubB.refl _ | exact SubB.nil _ | refine SubB.keep rfl rfl (by first | with_reducible exact WkL.refl _ | ((repeat (first | exact WkL.nil | refine WkL.cons (by first | with_reducible exact Wk.refl _ | exact Wk.nil_own _ | exact Wk.nil_pl _ | with_reducible exact Wk.tok _ _ _ | exact Wk.tok _ _ _ | exact Wk.eq (by first | rfl | (simp []; done) | (simp []; omega))) ?_)); done) | exact WkL.refl _) ?_ | refine SubB.drop ?_)) (by repeat (first | exact SubT.nil _ | refine SubT.add ?_ | (refine SubT.keep ?_ ?_; focus (first | with_reducible rfl | (simp []; done))) | refine SubT.drop ?_)))) rfl rfl ?_
                    rintro _ _ _ ⟨rfl, rfl, rfl⟩
                    simp only [List.nil_append, List.cons_append]
                    refine xvalP (pv_move rfl) rfl rfl ?_
                    refine xvalP (pv_extract rfl rfl) rfl rfl ?_
                    refine xvalP (pv_extract rfl rfl) rfl rfl ?_
                    refine xvalP (pv_assign rfl) rfl rfl ?_
                    refine xvalP (pv_assign rfl) rfl rfl ?_
                    refine xnil ?_
                    refine xthen ?_
                    refine xregion ?_
                    refine xvalP (pv_move rfl) rfl rfl ?_
                    refine xvalP (qv_fieldAddrB FldC.h rfl) rfl rfl ?_
                    refine xval (qv_loadB 0 ShpC.h rfl rfl rfl rfl) rfl rfl ?_
                    refine xvalP (qv_fieldAddrB FldC.h rfl) rfl rfl ?_
                    refine xval (qv_loadB 0 ShpC.h rfl rfl rfl rfl) rfl rfl ?_
                    obtain ⟨y2243, h2242, h⟩ := h
                    refine xcallF (Fb := [⟨b10, 42, [.v (.int .i64 y2130.1), .v (.int .i64 y2130.2.1), .v (.string y2130.2.2.1), .sl 1 none (List.map E_uint8 y2130.2.2.2)]⟩]) (Ft := []) (files_Table_Cut_con l1569 y2130.2.2.1 y2130.2.1 m1565 i1570 _ h2242) Try.func18 (by kernel_rfl) rfl (.cons rfl (.refl _) (.cons rfl (.refl _) (.cons rfl (.refl _) .nil))) (by refine SubM.trans (SubM.mvB 1 rfl) ?_; refine SubM.trans (SubM.mvB 2 rfl) ?_; (simp only [List.eraseIdx]); exact (SubM.of (by repeat (first | with_reducible exact SubB.refl _ | exact SubB.nil _ | refine SubB.keep rfl rfl (by first | with_reducible exact WkL.refl _ | ((repeat (first | exact WkL.nil | refine WkL.cons (by first | with_reducible exact Wk.refl _ | exact Wk.nil_own _ | exact Wk.nil_pl _ | with_reducible exact Wk.tok _ _ _ | exact Wk.tok _ _ _ | exact Wk.eq (by first | rfl | (simp []; done) | (simp []; omega))) ?_)); done) | exact WkL.refl _) ?_ | refine SubB.drop ?_)) (by repeat (first | exact SubT.nil _ | refine SubT.add ?_ | (refine SubT.keep ?_ ?_; focus (first | with_reducible rfl | (simp []; done))) | refine SubT.drop ?_)))) rfl rfl ?_
                    rintro _ _ _ ⟨i2244, rfl, rfl, rfl⟩
                    simp only [List.nil_append, List.cons_append]
                    refine xvalP (pv_assign rfl) rfl rfl ?_
                    refine xnil ?_
                    refine xin_normal ?_
                    exact xmeet ⟨y2243.1, y2241.1, y2241.2, y2243.2, m1565, i2244, h, rfl⟩ ⟨(.cons rfl (.refl _) (.cons rfl (.refl _) (.cons rfl (.refl _) (.cons rfl (.refl _) (.cons rfl (.refl _) (.cons rfl (.refl _) (.cons rfl (.refl _) (.nil _)))))))), by exact (SubM.of (.keep rfl rfl (.refl _) (.keep rfl rfl (.cons (.eq (by first | rfl | simp)) .nil) (.keep rfl rfl (.refl _) (.nil _)))) (.nil _))⟩
                  · replace h := h.2 hp2239
                    refine xcondF' (decide_eq_false hp2239) rfl ?_
                    refine xseq ?_
                    refine xregion ?_
                    refine xvalP (pv_bin2 rfl rfl rfl) rfl rfl ?_
                    refine xvalP (pv_assign rfl) rfl rfl ?_
                    refine xnil ?_
                    refine xthen ?_
                    by_cases hp2246 : y2130.1 = 4
                    · replace h := h.1 hp2246
                      refine xcondT' (decide_eq_true hp2246) rfl ?_
                      refine xseq ?_
                      refine xregion ?_
                      refine xvalP (pv_move rfl) rfl rfl ?_
                      refine xvalP (pv_assign rfl) rfl rfl ?_
                      refine xnil ?_
                      refine xthen ?_
                      refine xseq ?_
                      refine xregion ?_
                      refine xvalP (pv_move rfl) rfl rfl ?_
                      obtain ⟨y2248, h2247, h⟩ := h
                      refine xcallF (Fb := [⟨b10, 42, [.v (.int .i64 y2130.1), .v (.int .i64 y2130.2.1), .v (.string y2130.2.2.1), .sl 1 none (List.map E_uint8 y2130.2.2.2)]⟩]) (Ft := []) (files_Table_Copy_con l1569 m1565 i1570 _ h2247) Try.func24 (by kernel_rfl) rfl (.cons rfl (.refl _) .nil) (by refine SubM.trans (SubM.mvB 1 rfl) ?_; refine SubM.trans (SubM.mvB 2 rfl) ?_; (simp only [List.eraseIdx]); exact (SubM.of (by repeat (first | with_reducible exact SubB.refl _ | exact SubB.nil _ | refine SubB.keep rfl rfl (by first | with_reducible exact WkL.refl _ | ((repeat (first | exact WkL.nil | refine WkL.cons (by first | with_reducible exact Wk.refl _ | exact Wk.nil_own _ | exact Wk.nil_pl _ | with_reducible exact Wk.tok _ _ _ | exact Wk.tok _ _ _ | exact Wk.eq (by first | rfl | (simp []; done) | (simp []; omega))) ?_)); done) | exact WkL.refl _) ?_ | refine SubB.drop ?_)) (by repeat (first | exact SubT.nil _ | refine SubT.add ?_ | (refine SubT.keep ?_ ?_; focus (first | with_reducible rfl | (simp []; done))) | refine SubT.drop ?_)))) rfl rfl ?_
                      rintro _ _ _ ⟨b2251, i2249, rfl, rfl, rfl⟩
                      simp only [List.nil_append, List.cons_append]
                      refine xvalP (pv_assign rfl) rfl rfl ?_
                      refine xnil ?_
                      refine xthen ?_
                      refine xseq ?_
                      refine xregion ?_
                      refine xvalP (pv_move rfl) rfl rfl ?_
                      refine xvalP (qv_fieldAddrB FldC.h rfl) rfl rfl ?_
                      refine xval (qv_loadB 4 ShpC.h rfl rfl rfl rfl) rfl rfl ?_
                      refine xbuildSliceM (f := eb) [(122 : UInt8), (122 : UInt8)] UndC.h InfC.h rfl rfl (by first | exact wkR_of rfl | (repeat (first | exact WkR.nil | refine WkR.cons (by (repeat (first | exact WkL.nil | refine WkL.cons (by first | with_reducible exact Wk.refl _ | exact Wk.nil_own _ | exact Wk.nil_pl _ | with_reducible exact Wk.tok _ _ _ | exact Wk.tok _ _ _ | exact Wk.eq (by first | rfl | (simp []; done) | (simp []; omega))) ?_))) ?_))) rfl rfl rfl rfl fun s119 => ?_
                      refine xmark 0 UndC.h UndC.h rfl rfl rfl rfl ?_
                      refine xbuildSliceM (f := E_uint8) [[(122 : UInt8), (122 : UInt8)]] UndC.h InfC.h rfl rfl (by first | exact wkR_of rfl | (repeat (first | exact WkR.nil | refine WkR.cons (by (repeat (first | exact WkL.nil | refine WkL.cons (by first | with_reducible exact Wk.refl _ | exact Wk.nil_own _ | exact Wk.nil_pl _ | with_reducible exact Wk.tok _ _ _ | exact Wk.tok _ _ _ | exact Wk.eq (by first | rfl | (simp []; done) | (simp []; omega))) ?_))) ?_))) rfl rfl rfl rfl fun s121 => ?_
                      obtain ⟨y2254, h2253, h⟩ := h
                      refine xcallF (Fb := [rbx i2249 30 2 (List.map E_palinode_api_File y2248), ⟨b2251, 60, [.rb i2249 y2248.length]⟩, ⟨b10, 42, [.v (.int .i64 y2130.1), .v (.int .i64 y2130.2.1), .v (.string y2130.2.2.1), .sl 1 none (List.map E_uint8 y2130.2.2.2)]⟩]) (Ft := [⟨(some (s121, 1)), 22, 1, ([[(122 : UInt8), (122 : UInt8)]]).length⟩]) (files_Table_Add_con l1569 y2130.2.2.1 ([[(122 : UInt8), (122 : UInt8)]]) m1565 i1570 _ h2253) Try.func11 (by kernel_rfl) rfl (.cons rfl (.refl _) (.cons rfl (.refl _) (.cons rfl (.tok _ _ _) .nil))) (by refine SubM.trans (SubM.mvB 2 rfl) ?_; refine SubM.trans (SubM.mvB 3 rfl) ?_; (simp only [List.eraseIdx]); exact (SubM.of (by repeat (first | with_reducible exact SubB.refl _ | exact SubB.nil _ | refine SubB.keep rfl rfl (by first | with_reducible exact WkL.refl _ | ((repeat (first | exact WkL.nil | refine WkL.cons (by first | with_reducible exact Wk.refl _ | exact Wk.nil_own _ | exact Wk.nil_pl _ | with_reducible exact Wk.tok _ _ _ | exact Wk.tok _ _ _ | exact Wk.eq (by first | rfl | (simp []; done) | (simp []; omega))) ?_)); done) | exact WkL.refl _) ?_ | refine SubB.drop ?_)) (by repeat (first | exact SubT.nil _ | refine SubT.add ?_ | (refine SubT.keep ?_ ?_; focus (first | with_reducible rfl | (simp []; done))) | refine SubT.drop ?_)))) rfl rfl ?_
                      rintro _ _ _ ⟨i2255, rfl, rfl, rfl⟩
                      simp only [List.nil_append, List.cons_append]
                      refine xnil ?_
                      refine xthen ?_
                      refine xregion ?_
                      refine xvalP (pv_move rfl) rfl rfl ?_
                      refine xvalP (qv_fieldAddrB FldC.h rfl) rfl rfl ?_
                      refine xval (qv_loadB 4 ShpC.h rfl rfl rfl rfl) rfl rfl ?_
                      obtain ⟨y2257, h2256, h⟩ := h
                      refine xcallF (Fb := [rbx i2249 30 2 (List.map E_palinode_api_File y2248), ⟨b2251, 60, [.rb i2249 y2248.length]⟩, ⟨b10, 42, [.v (.int .i64 y2130.1), .v (.int .i64 y2130.2.1), .v (.string y2130.2.2.1), .sl 1 none (List.map E_uint8 y2130.2.2.2)]⟩]) (Ft := [⟨(some (s121, 1)), 22, 1, ([[(122 : UInt8), (122 : UInt8)]]).length⟩]) (files_Table_Cut_con y2254.2 y2130.2.2.1 0 m1565 i2255 _ h2256) Try.func18 (by kernel_rfl) rfl (.cons rfl (.refl _) (.cons rfl (.refl _) (.cons rfl (.refl _) .nil))) (by refine SubM.trans (SubM.mvB 0 rfl) ?_; refine SubM.trans (SubM.mvB 1 rfl) ?_; (simp only [List.eraseIdx]); exact (SubM.of (by repeat (first | with_reducible exact SubB.refl _ | exact SubB.nil _ | refine SubB.keep rfl rfl (by first | with_reducible exact WkL.refl _ | ((repeat (first | exact WkL.nil | refine WkL.cons (by first | with_reducible exact Wk.refl _ | exact Wk.nil_own _ | exact Wk.nil_pl _ | with_reducible exact Wk.tok _ _ _ | exact Wk.tok _ _ _ | exact Wk.eq (by first | rfl | (simp []; done) | (simp []; omega))) ?_)); done) | exact WkL.refl _) ?_ | refine SubB.drop ?_)) (by repeat (first | exact SubT.nil _ | refine SubT.add ?_ | (refine SubT.keep ?_ ?_; focus (first | with_reducible rfl | (simp []; done))) | refine SubT.drop ?_)))) rfl rfl ?_
                      rintro _ _ _ ⟨i2258, rfl, rfl, rfl⟩
                      simp only [List.nil_append, List.cons_append]
                      refine xnil ?_
                      refine xin_normal ?_
                      exact xmeet ⟨0, x1566, 0, y2248, b2251, i2249, h, rfl⟩ ⟨(.cons rfl (.refl _) (.cons rfl (.refl _) (.cons rfl (.refl _) (.cons rfl (.refl _) (.cons rfl (.refl _) (.cons rfl (.refl _) (.cons rfl (.refl _) (.nil _)))))))), by exact (SubM.of (.drop (.drop (.keep rfl rfl (.refl _) (.keep rfl rfl (.cons (.eq (by first | rfl | simp)) .nil) (.keep rfl rfl (.refl _) (.nil _)))))) (.nil _))⟩
                    · replace h := h.2 hp2246
                      refine xcondF' (decide_eq_false hp2246) rfl ?_
                      refine xskipc ?_
                      refine xin_normal ?_
                      exact xmeet ⟨0, x1566, 0, l1569, m1565, i1570, h, rfl⟩ ⟨(.cons rfl (.refl _) (.cons rfl (.refl _) (.cons rfl (.refl _) (.cons rfl (.refl _) (.cons rfl (.refl _) (.cons rfl (.refl _) (.cons rfl (.refl _) (.nil _)))))))), by refine SubM.trans (SubM.mvB 0 rfl) ?_; refine SubM.trans (SubM.mvB 2 rfl) ?_; refine SubM.trans (SubM.mvB 2 rfl) ?_; (simp only [List.eraseIdx]); exact (SubM.of (by repeat (first | with_reducible exact SubB.refl _ | exact SubB.nil _ | refine SubB.keep rfl rfl (by first | with_reducible exact WkL.refl _ | ((repeat (first | exact WkL.nil | refine WkL.cons (by first | with_reducible exact Wk.refl _ | exact Wk.nil_own _ | exact Wk.nil_pl _ | with_reducible exact Wk.tok _ _ _ | exact Wk.tok _ _ _ | exact Wk.eq (by first | rfl | (simp []; done) | (simp []; omega))) ?_)); done) | exact WkL.refl _) ?_ | refine SubB.drop ?_)) (by repeat (first | exact SubT.nil _ | refine SubT.add ?_ | (refine SubT.keep ?_ ?_; focus (first | with_reducible rfl | (simp []; done))) | refine SubT.drop ?_)))⟩
            · clear h
              rintro _ ⟨x2193, x2194, x2195, l2197, m2192, i2198, h, rfl⟩
              refine xseq ?_
              refine xregion ?_
              refine xvalP (pv_move rfl) rfl rfl ?_
              refine xvalP (qv_fieldAddrB FldC.h rfl) rfl rfl ?_
              refine xval (qv_loadB 2 ShpC.h rfl rfl rfl rfl) rfl rfl ?_
              obtain ⟨y2260, h2259, h⟩ := h
              refine xcallF (Fb := [⟨b10, 42, [.v (.int .i64 y2130.1), .v (.int .i64 y2130.2.1), .v (.string y2130.2.2.1), .sl 1 none (List.map E_uint8 y2130.2.2.2)]⟩]) (Ft := []) (files_Table_Get_con l2197 y2130.2.2.1 m2192 i2198 _ h2259) Try.func25 (by kernel_rfl) rfl (.cons rfl (.refl _) (.cons rfl (.refl _) .nil)) (by refine SubM.trans (SubM.mvB 0 rfl) ?_; refine SubM.trans (SubM.mvB 1 rfl) ?_; (simp only [List.eraseIdx]); exact (SubM.of (by repeat (first | with_reducible exact SubB.refl _ | exact SubB.nil _ | refine SubB.keep rfl rfl (by first | with_reducible exact WkL.refl _ | ((repeat (first | exact WkL.nil | refine WkL.cons (by first | with_reducible exact Wk.refl _ | exact Wk.nil_own _ | exact Wk.nil_pl _ | with_reducible exact Wk.tok _ _ _ | exact Wk.tok _ _ _ | exact Wk.eq (by first | rfl | (simp []; done) | (simp []; omega))) ?_)); done) | exact WkL.refl _) ?_ | refine SubB.drop ?_)) (by repeat (first | exact SubT.nil _ | refine SubT.add ?_ | (refine SubT.keep ?_ ?_; focus (first | with_reducible rfl | (simp []; done))) | refine SubT.drop ?_)))) rfl rfl ?_
              rintro _ _ _ ⟨i2261, rfl, rfl, rfl⟩
              simp only [List.nil_append, List.cons_append]
              refine xvalP (pv_move rfl) rfl rfl ?_
              refine xvalP (pv_extract rfl rfl) rfl rfl ?_
              refine xvalP (pv_extract rfl rfl) rfl rfl ?_
              refine xvalP (pv_assign rfl) rfl rfl ?_
              refine xvalP (pv_assign rfl) rfl rfl ?_
              refine xnil ?_
              refine xthen ?_
              refine xseqM (fun σ => ∃ (x2286 : Bool), palinodelaw03_FilesPlay_j3 x1567 ag1 x2194 l2197 x2286 r ∧ σ = ⟨[(1, .sl 4 none (List.map E_palinode_palinodelaw03_Act x2)), (5, .v (.pointer (some ⟨m2192, 0, none⟩))), (7, .sl 2 none (List.map E_palinode_api_File x2194)), (9, .v (.int .i64 x1567)), (172, .v (.bool x2286))], [rbx i2198 30 2 (List.map E_palinode_api_File l2197), ⟨m2192, 60, [.rb i2198 l2197.length]⟩], []⟩) ?_ ?_
              · refine xregionD (m := 39) (by kernel_rfl) rfl ?_
                refine xpval 0 rfl (pv_move rfl) rfl rfl (by kernel_rfl) (by kernel_rfl) (by kernel_rfl) (fun _ _ _ _ h => h) ?_
                refine xpval 1 rfl (pv_move rfl) rfl rfl (by kernel_rfl) (by kernel_rfl) (by kernel_rfl) (fun _ _ _ _ h => h) ?_
                refine xpval 2 rfl (pv_bin2 rfl rfl rfl) rfl rfl (by kernel_rfl) (by kernel_rfl) (by kernel_rfl) (fun _ _ _ _ h => h) ?_
                refine xpval 3 rfl (pv_move rfl) rfl rfl (by kernel_rfl) (by kernel_rfl) (by kernel_rfl) (fun _ _ _ _ h => h) ?_
                by_cases hp2288 : ¬ (x2193 = x2195)
                · replace h := h.1 hp2288
                  refine psetB 137 (not_t (decide_eq_false hp2288)) rfl ?_
                  refine xpskip 4 rfl rfl rfl (by kernel_rfl) (by kernel_rfl) (by kernel_rfl) (fun _ _ _ _ h => h) ?_
                  refine xpskip 5 rfl rfl rfl (by kernel_rfl) (by kernel_rfl) (by kernel_rfl) (fun _ _ _ _ h => h) ?_
                  refine xpskip 6 rfl rfl rfl (by kernel_rfl) (by kernel_rfl) (by kernel_rfl) (fun _ _ _ _ h => h) ?_
                  refine xpskip 7 rfl rfl rfl (by kernel_rfl) (by kernel_rfl) (by kernel_rfl) (fun _ _ _ _ h => h) ?_
                  refine xpskip 8 rfl rfl rfl (by kernel_rfl) (by kernel_rfl) (by kernel_rfl) (fun _ _ _ _ h => h) ?_
                  refine xpskip 9 rfl rfl rfl (by kernel_rfl) (by kernel_rfl) (by kernel_rfl) (fun _ _ _ _ h => h) ?_
                  refine xpskip 10 rfl rfl rfl (by kernel_rfl) (by kernel_rfl) (by kernel_rfl) (fun _ _ _ _ h => h) ?_
                  refine xpval 11 rfl (pv_pick rfl rfl) rfl rfl (by kernel_rfl) (by kernel_rfl) (by kernel_rfl) (fun _ _ _ _ h => h) ?_
                  refine xpval 12 rfl (pv_move rfl) rfl rfl (by kernel_rfl) (by kernel_rfl) (by kernel_rfl) (fun _ _ _ _ h => h) ?_
                  refine xpskip 13 rfl rfl rfl (by kernel_rfl) (by kernel_rfl) (by kernel_rfl) (fun _ _ _ _ h => h) ?_
                  refine xpskip 14 rfl rfl rfl (by kernel_rfl) (by kernel_rfl) (by kernel_rfl) (fun _ _ _ _ h => h) ?_
                  refine xpskip 15 rfl rfl rfl (by kernel_rfl) (by kernel_rfl) (by kernel_rfl) (fun _ _ _ _ h => h) ?_
                  refine xpskip 16 rfl rfl rfl (by kernel_rfl) (by kernel_rfl) (by kernel_rfl) (fun _ _ _ _ h => h) ?_
                  refine xpskip 17 rfl rfl rfl (by kernel_rfl) (by kernel_rfl) (by kernel_rfl) (fun _ _ _ _ h => h) ?_
                  refine xpskip 18 rfl rfl rfl (by kernel_rfl) (by kernel_rfl) (by kernel_rfl) (fun _ _ _ _ h => h) ?_
                  refine xpskip 19 rfl rfl rfl (by kernel_rfl) (by kernel_rfl) (by kernel_rfl) (fun _ _ _ _ h => h) ?_
                  refine xpval 20 rfl (pv_pick rfl rfl) rfl rfl (by kernel_rfl) (by kernel_rfl) (by kernel_rfl) (fun _ _ _ _ h => h) ?_
                  refine xpval 21 rfl (pv_move rfl) rfl rfl (by kernel_rfl) (by kernel_rfl) (by kernel_rfl) (fun _ _ _ _ h => h) ?_
                  refine xpskip 22 rfl rfl rfl (by kernel_rfl) (by kernel_rfl) (by kernel_rfl) (fun _ _ _ _ h => h) ?_
                  refine xpskip 23 rfl rfl rfl (by kernel_rfl) (by kernel_rfl) (by kernel_rfl) (fun _ _ _ _ h => h) ?_
                  refine xpskip 24 rfl rfl rfl (by kernel_rfl) (by kernel_rfl) (by kernel_rfl) (fun _ _ _ _ h => h) ?_
                  refine xpskip 25 rfl rfl rfl (by kernel_rfl) (by kernel_rfl) (by kernel_rfl) (fun _ _ _ _ h => h) ?_
                  refine xpskip 26 rfl rfl rfl (by kernel_rfl) (by kernel_rfl) (by kernel_rfl) (fun _ _ _ _ h => h) ?_
                  refine xpskip 27 rfl rfl rfl (by kernel_rfl) (by kernel_rfl) (by kernel_rfl) (fun _ _ _ _ h => h) ?_
                  refine xpskip 28 rfl rfl rfl (by kernel_rfl) (by kernel_rfl) (by kernel_rfl) (fun _ _ _ _ h => h) ?_
                  refine xpskip 29 rfl rfl rfl (by kernel_rfl) (by kernel_rfl) (by kernel_rfl) (fun _ _ _ _ h => h) ?_
                  refine xpskip 30 rfl rfl rfl (by kernel_rfl) (by kernel_rfl) (by kernel_rfl) (fun _ _ _ _ h => h) ?_
                  refine xpval 31 rfl (pv_pick rfl rfl) rfl rfl (by kernel_rfl) (by kernel_rfl) (by kernel_rfl) (fun _ _ _ _ h => h) ?_
                  refine xpval 32 rfl (pv_move rfl) rfl rfl (by kernel_rfl) (by kernel_rfl) (by kernel_rfl) (fun _ _ _ _ h => h) ?_
                  refine xpskip 33 rfl rfl rfl (by kernel_rfl) (by kernel_rfl) (by kernel_rfl) (fun _ _ _ _ h => h) ?_
                  refine xpskip 34 rfl rfl rfl (by kernel_rfl) (by kernel_rfl) (by kernel_rfl) (fun _ _ _ _ h => h) ?_
                  refine xpskip 35 rfl rfl rfl (by kernel_rfl) (by kernel_rfl) (by kernel_rfl) (fun _ _ _ _ h => h) ?_
                  refine xpskip 36 rfl rfl rfl (by kernel_rfl) (by kernel_rfl) (by kernel_rfl) (fun _ _ _ _ h => h) ?_
                  refine xpskip 37 rfl rfl rfl (by kernel_rfl) (by kernel_rfl) (by kernel_rfl) (fun _ _ _ _ h => h) ?_
                  refine xpval 38 rfl (pv_pick rfl rfl) rfl rfl (by kernel_rfl) (by kernel_rfl) (by kernel_rfl) (fun _ _ _ _ h => h) ?_
                  refine xpdone (by kernel_rfl) ?_
                  exact xmeet ⟨true, h, rfl⟩ ⟨(.cons rfl (.refl _) (.cons rfl (.refl _) (.cons rfl (.refl _) (.cons rfl (.refl _) (.cons rfl (.refl _) (.nil _)))))), by exact (SubM.of (.keep rfl rfl (.refl _) (.keep rfl rfl (.cons (.eq (by first | rfl | simp)) .nil) (.nil _))) (.nil _))⟩
                · replace h := h.2 hp2288
                  refine psetB 137 (not_f (decide_eq_true (Decidable.of_not_not hp2288))) rfl ?_
                  obtain ⟨y2290, h2289, h⟩ := h
                  refine xpval 4 rfl (pv_move rfl) rfl rfl (by kernel_rfl) (by kernel_rfl) (by kernel_rfl) (fun _ _ _ _ h => h) ?_
                  refine xpval 5 rfl (pv_move rfl) rfl rfl (by kernel_rfl) (by kernel_rfl) (by kernel_rfl) (fun _ _ _ _ h => h) ?_
                  refine xpval 6 rfl (qv_fieldAddrB FldC.h rfl) rfl rfl (by kernel_rfl) (by kernel_rfl) (by kernel_rfl) (fun _ _ _ _ h => h) ?_
                  refine xpvalE 7 [] rfl (qv_loadB 2 ShpC.h rfl rfl rfl rfl) rfl rfl (by kernel_rfl) (by kernel_rfl) (by kernel_rfl) (fun _ _ _ _ h => h) ?_
                  refine xpstep (i := 8) (by kernel_rfl) rfl ?_
                  refine wcall0 (palinoderef03_At_con x2194 y2130.2.2.1 _ h2289) Try.func26 (by kernel_rfl) rfl (.cons rfl (.refl _) (.cons rfl (.refl _) .nil)) rfl rfl ?_
                  refine xpval 9 rfl (pv_bin2 rfl rfl rfl) rfl rfl (by kernel_rfl) (by kernel_rfl) (by kernel_rfl) (fun _ _ _ _ h => h) ?_
                  refine xpval 10 rfl (pv_neB UndC.h rfl rfl) rfl rfl (by kernel_rfl) (by kernel_rfl) (by kernel_rfl) (fun _ _ _ _ h => h) ?_
                  refine xpval 11 rfl (pv_pick rfl rfl) rfl rfl (by kernel_rfl) (by kernel_rfl) (by kernel_rfl) (fun _ _ _ _ h => h) ?_
                  refine xpval 12 rfl (pv_move rfl) rfl rfl (by kernel_rfl) (by kernel_rfl) (by kernel_rfl) (fun _ _ _ _ h => h) ?_
                  by_cases hp2293 : ¬ ((y2260.2 == (decide (0 ≤ y2290))) = true)
                  · replace h := h.1 hp2293
                    refine psetB 146 (not_t (b_f hp2293)) rfl ?_
                    refine xpskip 13 rfl rfl rfl (by kernel_rfl) (by kernel_rfl) (by kernel_rfl) (fun _ _ _ _ h => h) ?_
                    refine xpskip 14 rfl rfl rfl (by kernel_rfl) (by kernel_rfl) (by kernel_rfl) (fun _ _ _ _ h => h) ?_
                    refine xpskip 15 rfl rfl rfl (by kernel_rfl) (by kernel_rfl) (by kernel_rfl) (fun _ _ _ _ h => h) ?_
                    refine xpskip 16 rfl rfl rfl (by kernel_rfl) (by kernel_rfl) (by kernel_rfl) (fun _ _ _ _ h => h) ?_
                    refine xpskip 17 rfl rfl rfl (by kernel_rfl) (by kernel_rfl) (by kernel_rfl) (fun _ _ _ _ h => h) ?_
                    refine xpskip 18 rfl rfl rfl (by kernel_rfl) (by kernel_rfl) (by kernel_rfl) (fun _ _ _ _ h => h) ?_
                    refine xpskip 19 rfl rfl rfl (by kernel_rfl) (by kernel_rfl) (by kernel_rfl) (fun _ _ _ _ h => h) ?_
                    refine xpval 20 rfl (pv_pick rfl rfl) rfl rfl (by kernel_rfl) (by kernel_rfl) (by kernel_rfl) (fun _ _ _ _ h => h) ?_
                    refine xpval 21 rfl (pv_move rfl) rfl rfl (by kernel_rfl) (by kernel_rfl) (by kernel_rfl) (fun _ _ _ _ h => h) ?_
                    refine xpskip 22 rfl rfl rfl (by kernel_rfl) (by kernel_rfl) (by kernel_rfl) (fun _ _ _ _ h => h) ?_
                    refine xpskip 23 rfl rfl rfl (by kernel_rfl) (by kernel_rfl) (by kernel_rfl) (fun _ _ _ _ h => h) ?_
                    refine xpskip 24 rfl rfl rfl (by kernel_rfl) (by kernel_rfl) (by kernel_rfl) (fun _ _ _ _ h => h) ?_
                    refine xpskip 25 rfl rfl rfl (by kernel_rfl) (by kernel_rfl) (by kernel_rfl) (fun _ _ _ _ h => h) ?_
                    refine xpskip 26 rfl rfl rfl (by kernel_rfl) (by kernel_rfl) (by kernel_rfl) (fun _ _ _ _ h => h) ?_
                    refine xpskip 27 rfl rfl rfl (by kernel_rfl) (by kernel_rfl) (by kernel_rfl) (fun _ _ _ _ h => h) ?_
                    refine xpskip 28 rfl rfl rfl (by kernel_rfl) (by kernel_rfl) (by kernel_rfl) (fun _ _ _ _ h => h) ?_
                    refine xpskip 29 rfl rfl rfl (by kernel_rfl) (by kernel_rfl) (by kernel_rfl) (fun _ _ _ _ h => h) ?_
                    refine xpskip 30 rfl rfl rfl (by kernel_rfl) (by kernel_rfl) (by kernel_rfl) (fun _ _ _ _ h => h) ?_
                    refine xpval 31 rfl (pv_pick rfl rfl) rfl rfl (by kernel_rfl) (by kernel_rfl) (by kernel_rfl) (fun _ _ _ _ h => h) ?_
                    refine xpval 32 rfl (pv_move rfl) rfl rfl (by kernel_rfl) (by kernel_rfl) (by kernel_rfl) (fun _ _ _ _ h => h) ?_
                    refine xpskip 33 rfl rfl rfl (by kernel_rfl) (by kernel_rfl) (by kernel_rfl) (fun _ _ _ _ h => h) ?_
                    refine xpskip 34 rfl rfl rfl (by kernel_rfl) (by kernel_rfl) (by kernel_rfl) (fun _ _ _ _ h => h) ?_
                    refine xpskip 35 rfl rfl rfl (by kernel_rfl) (by kernel_rfl) (by kernel_rfl) (fun _ _ _ _ h => h) ?_
                    refine xpskip 36 rfl rfl rfl (by kernel_rfl) (by kernel_rfl) (by kernel_rfl) (fun _ _ _ _ h => h) ?_
                    refine xpskip 37 rfl rfl rfl (by kernel_rfl) (by kernel_rfl) (by kernel_rfl) (fun _ _ _ _ h => h) ?_
                    refine xpval 38 rfl (pv_pick rfl rfl) rfl rfl (by kernel_rfl) (by kernel_rfl) (by kernel_rfl) (fun _ _ _ _ h => h) ?_
                    refine xpdone (by kernel_rfl) ?_
                    exact xmeet ⟨true, h, rfl⟩ ⟨(.cons rfl (.refl _) (.cons rfl (.refl _) (.cons rfl (.refl _) (.cons rfl (.refl _) (.cons rfl (.refl _) (.nil _)))))), by exact (SubM.of (.keep rfl rfl (.refl _) (.keep rfl rfl (.cons (.eq (by first | rfl | simp)) .nil) (.nil _))) (.nil _))⟩
                  · replace h := h.2 hp2293
                    refine psetB 146 (not_f (Decidable.of_not_not hp2293)) rfl ?_
                    obtain ⟨y2295, h2294, h⟩ := h
                    obtain ⟨y2297, h2296, h⟩ := h
                    refine xpval 13 rfl (pv_move rfl) rfl rfl (by kernel_rfl) (by kernel_rfl) (by kernel_rfl) (fun _ _ _ _ h => h) ?_
                    refine xpval 14 rfl (pv_move rfl) rfl rfl (by kernel_rfl) (by kernel_rfl) (by kernel_rfl) (fun _ _ _ _ h => h) ?_
                    refine xpval 15 rfl (qv_fieldAddrB FldC.h rfl) rfl rfl (by kernel_rfl) (by kernel_rfl) (by kernel_rfl) (fun _ _ _ _ h => h) ?_
                    refine xpvalE 16 [] rfl (qv_loadB 2 ShpC.h rfl rfl rfl rfl) rfl rfl (by kernel_rfl) (by kernel_rfl) (by kernel_rfl) (fun _ _ _ _ h => h) ?_
                    refine xpstep (i := 17) (by kernel_rfl) rfl ?_
                    refine wcall0 (palinoderef03_Get_con x2194 y2130.2.2.1 _ h2294) Try.func22 (by kernel_rfl) rfl (.cons rfl (.refl _) (.cons rfl (.refl _) .nil)) rfl rfl ?_
                    refine xpstep (i := 18) (by kernel_rfl) rfl ?_
                    refine wcall0 (palinoderef01_Same_con y2260.1 y2295 _ h2296) Try.func27 (by kernel_rfl) rfl (.cons rfl (.tok _ _ _) (.cons rfl (.refl _) .nil)) rfl rfl ?_
                    refine xpval 19 rfl (pv_not rfl) rfl rfl (by kernel_rfl) (by kernel_rfl) (by kernel_rfl) (fun _ _ _ _ h => h) ?_
                    refine xpval 20 rfl (pv_pick rfl rfl) rfl rfl (by kernel_rfl) (by kernel_rfl) (by kernel_rfl) (fun _ _ _ _ h => h) ?_
                    refine xpval 21 rfl (pv_move rfl) rfl rfl (by kernel_rfl) (by kernel_rfl) (by kernel_rfl) (fun _ _ _ _ h => h) ?_
                    by_cases hp2298 : ¬ (y2297 = true)
                    · replace h := h.1 hp2298
                      refine psetB 155 (not_t (b_f hp2298)) rfl ?_
                      refine xpskip 22 rfl rfl rfl (by kernel_rfl) (by kernel_rfl) (by kernel_rfl) (fun _ _ _ _ h => h) ?_
                      refine xpskip 23 rfl rfl rfl (by kernel_rfl) (by kernel_rfl) (by kernel_rfl) (fun _ _ _ _ h => h) ?_
                      refine xpskip 24 rfl rfl rfl (by kernel_rfl) (by kernel_rfl) (by kernel_rfl) (fun _ _ _ _ h => h) ?_
                      refine xpskip 25 rfl rfl rfl (by kernel_rfl) (by kernel_rfl) (by kernel_rfl) (fun _ _ _ _ h => h) ?_
                      refine xpskip 26 rfl rfl rfl (by kernel_rfl) (by kernel_rfl) (by kernel_rfl) (fun _ _ _ _ h => h) ?_
                      refine xpskip 27 rfl rfl rfl (by kernel_rfl) (by kernel_rfl) (by kernel_rfl) (fun _ _ _ _ h => h) ?_
                      refine xpskip 28 rfl rfl rfl (by kernel_rfl) (by kernel_rfl) (by kernel_rfl) (fun _ _ _ _ h => h) ?_
                      refine xpskip 29 rfl rfl rfl (by kernel_rfl) (by kernel_rfl) (by kernel_rfl) (fun _ _ _ _ h => h) ?_
                      refine xpskip 30 rfl rfl rfl (by kernel_rfl) (by kernel_rfl) (by kernel_rfl) (fun _ _ _ _ h => h) ?_
                      refine xpval 31 rfl (pv_pick rfl rfl) rfl rfl (by kernel_rfl) (by kernel_rfl) (by kernel_rfl) (fun _ _ _ _ h => h) ?_
                      refine xpval 32 rfl (pv_move rfl) rfl rfl (by kernel_rfl) (by kernel_rfl) (by kernel_rfl) (fun _ _ _ _ h => h) ?_
                      refine xpskip 33 rfl rfl rfl (by kernel_rfl) (by kernel_rfl) (by kernel_rfl) (fun _ _ _ _ h => h) ?_
                      refine xpskip 34 rfl rfl rfl (by kernel_rfl) (by kernel_rfl) (by kernel_rfl) (fun _ _ _ _ h => h) ?_
                      refine xpskip 35 rfl rfl rfl (by kernel_rfl) (by kernel_rfl) (by kernel_rfl) (fun _ _ _ _ h => h) ?_
                      refine xpskip 36 rfl rfl rfl (by kernel_rfl) (by kernel_rfl) (by kernel_rfl) (fun _ _ _ _ h => h) ?_
                      refine xpskip 37 rfl rfl rfl (by kernel_rfl) (by kernel_rfl) (by kernel_rfl) (fun _ _ _ _ h => h) ?_
                      refine xpval 38 rfl (pv_pick rfl rfl) rfl rfl (by kernel_rfl) (by kernel_rfl) (by kernel_rfl) (fun _ _ _ _ h => h) ?_
                      refine xpdone (by kernel_rfl) ?_
                      exact xmeet ⟨true, h, rfl⟩ ⟨(.cons rfl (.refl _) (.cons rfl (.refl _) (.cons rfl (.refl _) (.cons rfl (.refl _) (.cons rfl (.refl _) (.nil _)))))), by exact (SubM.of (.keep rfl rfl (.refl _) (.keep rfl rfl (.cons (.eq (by first | rfl | simp)) .nil) (.nil _))) (.nil _))⟩
                    · replace h := h.2 hp2298
                      refine psetB 155 (not_f (Decidable.of_not_not hp2298)) rfl ?_
                      obtain ⟨y2300, h2299, h⟩ := h
                      obtain ⟨y2302, h2301, h⟩ := h
                      refine xpcut 10 #[true, true, true, true, true, true, true, true, true, true, true, true, true, true, true, true, true, true, true, true, true, true, true, true, true, true, true, true, true, false, false, false, false, false, false, false, false, false, false] (fun σ => σ = ⟨[(1, .sl 4 none (List.map E_palinode_palinodelaw03_Act x2)), (5, .v (.pointer (some ⟨m2192, 0, none⟩))), (7, .sl 2 none (List.map E_palinode_api_File x2194)), (9, .v (.int .i64 x1567)), (138, .v (.bool y2260.2)), (139, .sl 2 none (List.map E_palinode_api_File x2194)), (140, .v (.pointer (some ⟨b10, 2, none⟩))), (141, .v (.string y2130.2.2.1)), (142, .v (.int .i64 y2290)), (143, .v (.bool (decide (0 ≤ y2290)))), (144, .v (.bool (!(y2260.2 == (decide (0 ≤ y2290)))))), (147, .sl 1 (some i2261) (List.map eb y2260.1)), (148, .sl 2 none (List.map E_palinode_api_File x2194)), (149, .v (.pointer (some ⟨b10, 2, none⟩))), (150, .v (.string y2130.2.2.1)), (151, .sl 1 none (List.map eb y2295)), (152, .v (.bool y2297)), (153, .v (.bool (!y2297))), (155, .v (.bool false)), (156, .v (.pointer (some ⟨m2192, 0, none⟩))), (157, .v (.pointer (some ⟨b10, 2, none⟩))), (158, .v (.string y2130.2.2.1)), (159, .v (.int .i64 y2300)), (160, .sl 2 none (List.map E_palinode_api_File x2194)), (161, .v (.pointer (some ⟨b10, 2, none⟩))), (162, .v (.string y2130.2.2.1))], [rbx i2198 30 2 (List.map E_palinode_api_File l2197), ⟨m2192, 60, [.rb i2198 l2197.length]⟩, ⟨b10, 42, [.v (.int .i64 y2130.1), .v (.int .i64 y2130.2.1), .v (.string y2130.2.2.1), .sl 1 none (List.map E_uint8 y2130.2.2.2)]⟩], [⟨i2261, 5, 1, y2260.1.length⟩]⟩) ?_ (fun key2304 => ?_)
                      · rintro _ rfl
                        refine xpstep (i := 29) (by kernel_rfl) rfl ?_
                        refine wcall0 (palinodelaw03_length_con x2194 y2130.2.2.1 _ h2301) Try.func28 (by kernel_rfl) rfl (.cons rfl (.refl _) (.cons rfl (.refl _) .nil)) rfl rfl ?_
                        refine xpval 30 rfl (pv_bin2 rfl rfl rfl) rfl rfl (by kernel_rfl) (by kernel_rfl) (by kernel_rfl) (fun _ _ _ _ h => h) ?_
                        refine xpval 31 rfl (pv_pick rfl rfl) rfl rfl (by kernel_rfl) (by kernel_rfl) (by kernel_rfl) (fun _ _ _ _ h => h) ?_
                        refine xpval 32 rfl (pv_move rfl) rfl rfl (by kernel_rfl) (by kernel_rfl) (by kernel_rfl) (fun _ _ _ _ h => h) ?_
                        by_cases hp2305 : ¬ (y2300 = y2302)
                        · replace h := h.1 hp2305
                          refine psetB 166 (not_t (decide_eq_false hp2305)) rfl ?_
                          refine xpskip 33 rfl rfl rfl (by kernel_rfl) (by kernel_rfl) (by kernel_rfl) (fun _ _ _ _ h => h) ?_
                          refine xpskip 34 rfl rfl rfl (by kernel_rfl) (by kernel_rfl) (by kernel_rfl) (fun _ _ _ _ h => h) ?_
                          refine xpskip 35 rfl rfl rfl (by kernel_rfl) (by kernel_rfl) (by kernel_rfl) (fun _ _ _ _ h => h) ?_
                          refine xpskip 36 rfl rfl rfl (by kernel_rfl) (by kernel_rfl) (by kernel_rfl) (fun _ _ _ _ h => h) ?_
                          refine xpskip 37 rfl rfl rfl (by kernel_rfl) (by kernel_rfl) (by kernel_rfl) (fun _ _ _ _ h => h) ?_
                          refine xpval 38 rfl (pv_pick rfl rfl) rfl rfl (by kernel_rfl) (by kernel_rfl) (by kernel_rfl) (fun _ _ _ _ h => h) ?_
                          refine xpdone (by kernel_rfl) ?_
                          exact xmeet ⟨true, h, rfl⟩ ⟨(.cons rfl (.refl _) (.cons rfl (.refl _) (.cons rfl (.refl _) (.cons rfl (.refl _) (.cons rfl (.refl _) (.nil _)))))), by exact (SubM.of (.keep rfl rfl (.refl _) (.keep rfl rfl (.cons (.eq (by first | rfl | simp)) .nil) (.nil _))) (.nil _))⟩
                        · replace h := h.2 hp2305
                          refine psetB 166 (not_f (decide_eq_true (Decidable.of_not_not hp2305))) rfl ?_
                          obtain ⟨y2307, h2306, h⟩ := h
                          obtain ⟨y2310, h2309, h⟩ := h
                          refine xpval 33 rfl (pv_move rfl) rfl rfl (by kernel_rfl) (by kernel_rfl) (by kernel_rfl) (fun _ _ _ _ h => h) ?_
                          refine xpval 35 rfl (pv_move rfl) rfl rfl (by kernel_rfl) (by kernel_rfl) (by kernel_rfl) (fun _ _ _ _ h => h) ?_
                          refine xpstep (i := 34) (by kernel_rfl) rfl ?_
                          refine wcallF (Fb := [⟨b10, 42, [.v (.int .i64 y2130.1), .v (.int .i64 y2130.2.1), .v (.string y2130.2.2.1), .sl 1 none (List.map E_uint8 y2130.2.2.2)]⟩]) (Ft := [⟨i2261, 5, 1, y2260.1.length⟩]) (files_Table_All_con l2197 m2192 i2198 _ h2306) Try.func13 (by kernel_rfl) rfl (.cons rfl (.refl _) .nil) (by refine SubM.trans (SubM.mvB 0 rfl) ?_; refine SubM.trans (SubM.mvB 1 rfl) ?_; (simp only [List.eraseIdx]); exact (SubM.of (by repeat (first | with_reducible exact SubB.refl _ | exact SubB.nil _ | refine SubB.keep rfl rfl (by first | with_reducible exact WkL.refl _ | ((repeat (first | exact WkL.nil | refine WkL.cons (by first | with_reducible exact Wk.refl _ | exact Wk.nil_own _ | exact Wk.nil_pl _ | with_reducible exact Wk.tok _ _ _ | exact Wk.tok _ _ _ | exact Wk.eq (by first | rfl | (simp []; done) | (simp []; omega))) ?_)); done) | exact WkL.refl _) ?_ | refine SubB.drop ?_)) (by repeat (first | exact SubT.nil _ | refine SubT.add ?_ | (refine SubT.keep ?_ ?_; focus (first | with_reducible rfl | (simp []; done))) | refine SubT.drop ?_)))) rfl rfl ?_
                          rintro _ _ _ ⟨i2308, rfl, rfl, rfl⟩
                          simp only [List.nil_append, List.cons_append]
                          refine xpstep (i := 36) (by kernel_rfl) rfl ?_
                          refine wcall0 (palinoderef03_Same_con y2307 x2194 _ h2309) Try.func19 (by kernel_rfl) rfl (.cons rfl (.tok _ _ _) (.cons rfl (.refl _) .nil)) rfl rfl ?_
                          refine xpval 37 rfl (pv_not rfl) rfl rfl (by kernel_rfl) (by kernel_rfl) (by kernel_rfl) (fun _ _ _ _ h => h) ?_
                          refine xpval 38 rfl (pv_pick rfl rfl) rfl rfl (by kernel_rfl) (by kernel_rfl) (by kernel_rfl) (fun _ _ _ _ h => h) ?_
                          refine xpdone (by kernel_rfl) ?_
                          exact xmeet ⟨(!y2310), h, rfl⟩ ⟨(.cons rfl (.refl _) (.cons rfl (.refl _) (.cons rfl (.refl _) (.cons rfl (.refl _) (.cons rfl (.refl _) (.nil _)))))), by exact (SubM.of (.keep rfl rfl (.refl _) (.keep rfl rfl (.cons (.eq (by first | rfl | simp)) .nil) (.nil _))) (.nil _))⟩
                      refine xpval 22 rfl (pv_move rfl) rfl rfl (by kernel_rfl) (by kernel_rfl) (by kernel_rfl) (fun _ _ _ _ h => h) ?_
                      refine xpval 23 rfl (qv_fieldAddrB FldC.h rfl) rfl rfl (by kernel_rfl) (by kernel_rfl) (by kernel_rfl) (fun _ _ _ _ h => h) ?_
                      refine xpval 26 rfl (pv_move rfl) rfl rfl (by kernel_rfl) (by kernel_rfl) (by kernel_rfl) (fun _ _ _ _ h => h) ?_
                      refine xpval 27 rfl (qv_fieldAddrB FldC.h rfl) rfl rfl (by kernel_rfl) (by kernel_rfl) (by kernel_rfl) (fun _ _ _ _ h => h) ?_
                      refine xpvalE 24 [28] rfl (qv_loadB 2 ShpC.h rfl rfl rfl rfl) rfl rfl (by kernel_rfl) (by kernel_rfl) (by kernel_rfl) (fun _ _ _ _ h => h) ?_
                      refine xpstepN (is := [25, 28]) (by kernel_rfl) (by simp) ?_
                      intro i hi; simp only [List.mem_cons, List.not_mem_nil, or_false] at hi; rcases hi with rfl | rfl
                      · refine ⟨_, rfl, ?_⟩
                        refine wcallF (Fb := [⟨b10, 42, [.v (.int .i64 y2130.1), .v (.int .i64 y2130.2.1), .v (.string y2130.2.2.1), .sl 1 none (List.map E_uint8 y2130.2.2.2)]⟩]) (Ft := [⟨i2261, 5, 1, y2260.1.length⟩]) (files_Table_Len_con l2197 y2130.2.2.1 m2192 i2198 _ h2299) Try.func14 (by kernel_rfl) rfl (.cons rfl (.refl _) (.cons rfl (.refl _) .nil)) (by refine SubM.trans (SubM.mvB 0 rfl) ?_; refine SubM.trans (SubM.mvB 1 rfl) ?_; (simp only [List.eraseIdx]); exact (SubM.of (by repeat (first | with_reducible exact SubB.refl _ | exact SubB.nil _ | refine SubB.keep rfl rfl (by first | with_reducible exact WkL.refl _ | ((repeat (first | exact WkL.nil | refine WkL.cons (by first | with_reducible exact Wk.refl _ | exact Wk.nil_own _ | exact Wk.nil_pl _ | with_reducible exact Wk.tok _ _ _ | exact Wk.tok _ _ _ | exact Wk.eq (by first | rfl | (simp []; done) | (simp []; omega))) ?_)); done) | exact WkL.refl _) ?_ | refine SubB.drop ?_)) (by repeat (first | exact SubT.nil _ | refine SubT.add ?_ | (refine SubT.keep ?_ ?_; focus (first | with_reducible rfl | (simp []; done))) | refine SubT.drop ?_)))) rfl rfl ?_
                        rintro _ _ _ ⟨rfl, rfl, rfl⟩
                        simp only [List.nil_append, List.cons_append]
                        refine xpvalE 28 [] rfl (qv_loadB 2 ShpC.h rfl rfl rfl rfl) rfl rfl (by kernel_rfl) (by kernel_rfl) (by kernel_rfl) (fun _ _ _ _ h => h) ?_
                        exact xpuse key2304 rfl ⟨(.cons rfl (.refl _) (.cons rfl (.refl _) (.cons rfl (.refl _) (.cons rfl (.refl _) (.cons rfl (.refl _) (.cons rfl (.refl _) (.cons rfl (.refl _) (.cons rfl (.refl _) (.cons rfl (.refl _) (.cons rfl (.refl _) (.cons rfl (.refl _) (.cons rfl (.refl _) (.cons rfl (.refl _) (.cons rfl (.refl _) (.cons rfl (.refl _) (.cons rfl (.refl _) (.cons rfl (.refl _) (.cons rfl (.refl _) (.cons rfl (.refl _) (.cons rfl (.refl _) (.cons rfl (.refl _) (.cons rfl (.refl _) (.cons rfl (.refl _) (.cons rfl (.refl _) (.cons rfl (.refl _) (.cons rfl (.refl _) (.nil _))))))))))))))))))))))))))), by exact (SubM.of (.keep rfl rfl (.refl _) (.keep rfl rfl (.cons (.eq (by first | rfl | simp)) .nil) (.keep rfl rfl (.refl _) (.nil _)))) (.keep rfl (.nil _)))⟩ rfl (by kernel_rfl)
                      · refine ⟨_, rfl, ?_⟩
                        refine wval (qv_loadB 2 ShpC.h rfl rfl rfl rfl) rfl rfl ?_
                        refine xpstep (i := 25) (by kernel_rfl) rfl ?_
                        refine wcallF (Fb := [⟨b10, 42, [.v (.int .i64 y2130.1), .v (.int .i64 y2130.2.1), .v (.string y2130.2.2.1), .sl 1 none (List.map E_uint8 y2130.2.2.2)]⟩]) (Ft := [⟨i2261, 5, 1, y2260.1.length⟩]) (files_Table_Len_con l2197 y2130.2.2.1 m2192 i2198 _ h2299) Try.func14 (by kernel_rfl) rfl (.cons rfl (.refl _) (.cons rfl (.refl _) .nil)) (by refine SubM.trans (SubM.mvB 0 rfl) ?_; refine SubM.trans (SubM.mvB 1 rfl) ?_; (simp only [List.eraseIdx]); exact (SubM.of (by repeat (first | with_reducible exact SubB.refl _ | exact SubB.nil _ | refine SubB.keep rfl rfl (by first | with_reducible exact WkL.refl _ | ((repeat (first | exact WkL.nil | refine WkL.cons (by first | with_reducible exact Wk.refl _ | exact Wk.nil_own _ | exact Wk.nil_pl _ | with_reducible exact Wk.tok _ _ _ | exact Wk.tok _ _ _ | exact Wk.eq (by first | rfl | (simp []; done) | (simp []; omega))) ?_)); done) | exact WkL.refl _) ?_ | refine SubB.drop ?_)) (by repeat (first | exact SubT.nil _ | refine SubT.add ?_ | (refine SubT.keep ?_ ?_; focus (first | with_reducible rfl | (simp []; done))) | refine SubT.drop ?_)))) rfl rfl ?_
                        rintro _ _ _ ⟨rfl, rfl, rfl⟩
                        simp only [List.nil_append, List.cons_append]
                        exact xpuse key2304 rfl ⟨(.cons rfl (.refl _) (.cons rfl (.refl _) (.cons rfl (.refl _) (.cons rfl (.refl _) (.cons rfl (.refl _) (.cons rfl (.refl _) (.cons rfl (.refl _) (.cons rfl (.refl _) (.cons rfl (.refl _) (.cons rfl (.refl _) (.cons rfl (.refl _) (.cons rfl (.refl _) (.cons rfl (.refl _) (.cons rfl (.refl _) (.cons rfl (.refl _) (.cons rfl (.refl _) (.cons rfl (.refl _) (.cons rfl (.refl _) (.cons rfl (.refl _) (.cons rfl (.refl _) (.cons rfl (.refl _) (.cons rfl (.refl _) (.cons rfl (.refl _) (.cons rfl (.refl _) (.cons rfl (.refl _) (.cons rfl (.refl _) (.nil _))))))))))))))))))))))))))), by exact (SubM.of (.keep rfl rfl (.refl _) (.keep rfl rfl (.cons (.eq (by first | rfl | simp)) .nil) (.keep rfl rfl (.refl _) (.nil _)))) (.keep rfl (.nil _)))⟩ rfl (by kernel_rfl)
              · clear h
                rintro _ ⟨x2286, h, rfl⟩
                by_cases hp2311 : x2286 = true
                · replace h := h.1 hp2311
                  refine xcondT' hp2311 rfl ?_
                  refine xseq ?_
                  refine xregion ?_
                  refine xvalP (pv_assign rfl) rfl rfl ?_
                  refine xnil ?_
                  refine xthen ?_
                  refine xretc ?_
                  refine xin_ret ?_
                  refine xthen_ret ?_
                  refine xthen_ret ?_
                  refine xin_ret ?_
                  refine xthen_ret ?_
                  replace h := h.symm
                  subst h
                  exact xret1 (bx' := []) (tk' := []) hg rfl rfl (.refl _) (SubM.of (.nil _) (.nil _)) ⟨rfl, rfl, rfl⟩
                · replace h := h.2 hp2311
                  refine xcondF' (b_f hp2311) rfl ?_
                  refine xskipc ?_
                  refine xin_normal ?_
                  refine xthen ?_
                  refine xregion ?_
                  refine xvalP (pv_move rfl) rfl rfl ?_
                  obtain ⟨h2312, h⟩ := h
                  refine xvalP (pv_addI h2312 rfl rfl) rfl rfl ?_
                  refine xvalP (pv_assign rfl) rfl rfl ?_
                  refine xnil ?_
                  obtain ⟨m', hm, hI⟩ := hag1 _ h
                  exact xagain ⟨x2194, (x1567 + 1), l2197, m2192, i2198, hI, rfl⟩ hm ⟨(.cons rfl (.refl _) (.cons rfl (.refl _) (.cons rfl (.refl _) (.cons rfl (.refl _) (.nil _))))), by exact (SubM.of (.keep rfl rfl (.refl _) (.keep rfl rfl (.cons (.eq (by first | rfl | simp)) .nil) (.nil _))) (.nil _))⟩
          · replace h := h.2 hp1947
            refine xcondF' (decide_eq_false hp1947) rfl ?_
            refine xexit ?_
            refine xthen_exit ?_
            refine xthen_exit ?_
            refine xin_same rfl ?_
            refine xthen ?_
            refine xseq ?_
            refine xregion ?_
            obtain ⟨y2314, h2313, h⟩ := h
            refine xcall0 (palinodelaw03_awake_con _ h2313) Try.func7 (by kernel_rfl) rfl .nil rfl rfl ?_
            refine xvalP (pv_assign rfl) rfl rfl ?_
            refine xnil ?_
            refine xthen ?_
            refine xretc ?_
            replace h := h.symm
            subst h
            exact xret1 (bx' := []) (tk' := []) hg rfl rfl (.refl _) (SubM.of (.nil _) (.nil _)) ⟨rfl, rfl, rfl⟩
end Go.Proofs.Ytljlaggehilpfaa
