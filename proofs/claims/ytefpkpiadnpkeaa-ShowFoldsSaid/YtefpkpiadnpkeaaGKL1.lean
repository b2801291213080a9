/- What functions' texts ask for, and the walks that show it (printed by a program). -/
import Derived.Test.YtefpkpiadnpkeaaGK
namespace Go.Proofs.Ytefpkpiadnpkeaa
/-- palinodelaw04.ShowFolds -/
def palinodelaw04_ShowFolds_j3 (x964 : Int) (ag2 : (Int × Int × (List UInt8)) → Prop) (x1316 : Int) (l1317 : List UInt8) (r : Bool) : Prop :=
  InR (x964 + 1) ∧ ag2 (x1316, (x964 + 1), l1317)
def palinodelaw04_ShowFolds_l2 (y29 : (List UInt8)) (x2 : UInt8) (x1 : List UInt8) (ag2 : (Int × Int × (List UInt8)) → Prop) (x963 : Int) (x964 : Int) (l965 : List UInt8) (r : Bool) : Prop :=
  ((x964 < (y29.length : Int) → 0 ≤ (x964 : Int) ∧ ∃ y1372 : UInt8, y29[(x964 : Int).toNat]? = some y1372 ∧ (((y1372.toNat : Int) = 10 → ((((l965.length : Nat) : Int) < 1 → r = false) ∧ (¬ (((l965.length : Nat) : Int) < 1) → InR (((l965.length : Nat) : Int) - 1) ∧ 0 ≤ ((((l965.length : Nat) : Int) - 1) : Int) ∧ ∃ y1415 : UInt8, l965[((((l965.length : Nat) : Int) - 1) : Int).toNat]? = some y1415 ∧ ((¬ ((y1415.toNat : Int) = 92) → r = false) ∧ (¬ (¬ ((y1415.toNat : Int) = 92)) → (((x2.toNat : Int) < x963 → r = false) ∧ (¬ ((x2.toNat : Int) < x963) → InR (((l965.length : Nat) : Int) - 1) ∧ (0 ≤ ((((l965.length : Nat) : Int) - 1) : Int) ∧ ((((l965.length : Nat) : Int) - 1) : Int) ≤ ((l965.length : Nat) : Int)) ∧ palinodelaw04_ShowFolds_j3 x964 ag2 0 (l965.take ((((l965.length : Nat) : Int) - 1) : Int).toNat) r))))))) ∧ (¬ ((y1372.toNat : Int) = 10) → 0 ≤ (x964 : Int) ∧ ∃ y1425 : UInt8, y29[(x964 : Int).toNat]? = some y1425 ∧ Room (l965.length + ([y1425]).length) 1 ∧ InR (x963 + 1) ∧ palinodelaw04_ShowFolds_j3 x964 ag2 (x963 + 1) (l965 ++ [y1425]) r))) ∧ (¬ (x964 < (y29.length : Int)) → ((x963 ≤ (x2.toNat : Int) → ∃ y1446 : (List UInt8), show_List_R x1 0 y1446 ∧ ∃ y1449 : Bool, palinoderef01_Same_R l965 y1446 y1449 ∧ ((y1449 = true → ∃ y1452 : Bool, palinodelaw04_awake_R y1452 ∧ r = y1452) ∧ (¬ (y1449 = true) → r = false))) ∧ (¬ (x963 ≤ (x2.toNat : Int)) → r = false))))
def palinodelaw04_ShowFolds_j1 (x1 : List UInt8) (x2 : UInt8) (x19 : Bool) (r : Bool) : Prop :=
  ((x19 = true → ∃ y26 : Bool, palinodelaw04_awake_R y26 ∧ r = y26) ∧ (¬ (x19 = true) → ∃ y29 : (List UInt8), show_List_R x1 (x2.toNat : Int) y29 ∧ LoopR (fun ag2 s => palinodelaw04_ShowFolds_l2 y29 x2 x1 ag2 s.1 s.2.1 s.2.2 r) (0, 0, ([] : List UInt8))))
def palinodelaw04_ShowFolds_R (x1 : List UInt8) (x2 : UInt8) (r : Bool) : Prop :=
  palinodelaw04_ShowFolds_j1 x1 x2 ((decide (200 < (x1.length : Int))) || (decide ((x2.toNat : Int) < 5))) r
def palinodelaw04_ShowFolds_j3_ev (fuel : Nat) (x964 : Int) (ag2e : (Int × Int × (List UInt8)) → Option (Bool)) (x1316 : Int) (l1317 : List UInt8) : Option (Bool) :=
  (if InR (x964 + 1) then ag2e (x1316, (x964 + 1), l1317) else none)
theorem palinodelaw04_ShowFolds_j3_ok {fuel : Nat} {x964 : Int} {ag2 : (Int × Int × (List UInt8)) → Prop} {ag2e : (Int × Int × (List UInt8)) → Option (Bool)} {x1316 : Int} {l1317 : List UInt8} {r : Bool} (hagag2 : ∀ s, ag2e s = some r → ag2 s) (h : palinodelaw04_ShowFolds_j3_ev fuel x964 ag2e x1316 l1317 = some r) : palinodelaw04_ShowFolds_j3 x964 ag2 x1316 l1317 r := by
  unfold palinodelaw04_ShowFolds_j3_ev at h
  unfold palinodelaw04_ShowFolds_j3
  obtain ⟨g62, h⟩ := if_ok h
  refine ⟨g62, ?_⟩
  exact hagag2 _ h
def palinodelaw04_ShowFolds_l2_ev (fuel : Nat) (y29 : (List UInt8)) (x2 : UInt8) (x1 : List UInt8) (ag2e : (Int × Int × (List UInt8)) → Option (Bool)) (x963 : Int) (x964 : Int) (l965 : List UInt8) : Option (Bool) :=
  (if x964 < (y29.length : Int) then (if 0 ≤ (x964 : Int) then ((y29[(x964 : Int).toNat]?).bind fun y1372 => (if (y1372.toNat : Int) = 10 then (if ((l965.length : Nat) : Int) < 1 then some false else (if InR (((l965.length : Nat) : Int) - 1) then (if 0 ≤ ((((l965.length : Nat) : Int) - 1) : Int) then ((l965[((((l965.length : Nat) : Int) - 1) : Int).toNat]?).bind fun y1415 => (if ¬ ((y1415.toNat : Int) = 92) then some false else (if (x2.toNat : Int) < x963 then some false else (if InR (((l965.length : Nat) : Int) - 1) then (if (0 ≤ ((((l965.length : Nat) : Int) - 1) : Int) ∧ ((((l965.length : Nat) : Int) - 1) : Int) ≤ ((l965.length : Nat) : Int)) then palinodelaw04_ShowFolds_j3_ev fuel x964 ag2e 0 (l965.take ((((l965.length : Nat) : Int) - 1) : Int).toNat) else none) else none)))) else none) else none)) else (if 0 ≤ (x964 : Int) then ((y29[(x964 : Int).toNat]?).bind fun y1425 => (if Room (l965.length + ([y1425]).length) 1 then (if InR (x963 + 1) then palinodelaw04_ShowFolds_j3_ev fuel x964 ag2e (x963 + 1) (l965 ++ [y1425]) else none) else none)) else none))) else none) else (if x963 ≤ (x2.toNat : Int) then ((show_List_ev fuel x1 0).bind fun y1446 => ((palinoderef01_Same_ev fuel l965 y1446).bind fun y1449 => (if y1449 = true then ((palinodelaw04_awake_ev fuel).bind fun y1452 => some y1452) else some false))) else some false))
theorem palinodelaw04_ShowFolds_l2_ok {fuel : Nat} {y29 : (List UInt8)} {x2 : UInt8} {x1 : List UInt8} {ag2e : (Int × Int × (List UInt8)) → Option (Bool)} {ag2 : (Int × Int × (List UInt8)) → Prop} {x963 : Int} {x964 : Int} {l965 : List UInt8} {r : Bool} (hagag2 : ∀ s, ag2e s = some r → ag2 s) (h : palinodelaw04_ShowFolds_l2_ev fuel y29 x2 x1 ag2e x963 x964 l965 = some r) : palinodelaw04_ShowFolds_l2 y29 x2 x1 ag2 x963 x964 l965 r := by
  unfold palinodelaw04_ShowFolds_l2_ev at h
  unfold palinodelaw04_ShowFolds_l2
  refine ⟨fun g63 => ?_, fun g63 => ?_⟩
  · rw [if_pos g63] at h
    obtain ⟨g64, h⟩ := if_ok h
    refine ⟨g64, ?_⟩
    obtain ⟨q65, g65, h⟩ := bind_ok h
    refine ⟨q65, g65, ?_⟩
    refine ⟨fun g66 => ?_, fun g66 => ?_⟩
    · rw [if_pos g66] at h
      refine ⟨fun g67 => ?_, fun g67 => ?_⟩
      · rw [if_pos g67] at h
        exact (Option.some.inj h).symm
      · rw [if_neg g67] at h
        obtain ⟨g68, h⟩ := if_ok h
        refine ⟨g68, ?_⟩
        obtain ⟨g69, h⟩ := if_ok h
        refine ⟨g69, ?_⟩
        obtain ⟨q70, g70, h⟩ := bind_ok h
        refine ⟨q70, g70, ?_⟩
        refine ⟨fun g71 => ?_, fun g71 => ?_⟩
        · rw [if_pos g71] at h
          exact (Option.some.inj h).symm
        · rw [if_neg g71] at h
          refine ⟨fun g72 => ?_, fun g72 => ?_⟩
          · rw [if_pos g72] at h
            exact (Option.some.inj h).symm
          · rw [if_neg g72] at h
            obtain ⟨g73, h⟩ := if_ok h
            refine ⟨g73, ?_⟩
            obtain ⟨g74, h⟩ := if_ok h
            refine ⟨g74, ?_⟩
            exact palinodelaw04_ShowFolds_j3_ok hagag2 h
    · rw [if_neg g66] at h
      obtain ⟨g75, h⟩ := if_ok h
      refine ⟨g75, ?_⟩
      obtain ⟨q76, g76, h⟩ := bind_ok h
      refine ⟨q76, g76, ?_⟩
      obtain ⟨g77, h⟩ := if_ok h
      refine ⟨g77, ?_⟩
      obtain ⟨g78, h⟩ := if_ok h
      refine ⟨g78, ?_⟩
      exact palinodelaw04_ShowFolds_j3_ok hagag2 h
  · rw [if_neg g63] at h
    refine ⟨fun g79 => ?_, fun g79 => ?_⟩
    · rw [if_pos g79] at h
      obtain ⟨q80, g80, h⟩ := bind_ok h
      refine ⟨q80, show_List_ok g80, ?_⟩
      obtain ⟨q81, g81, h⟩ := bind_ok h
      refine ⟨q81, palinoderef01_Same_ok g81, ?_⟩
      refine ⟨fun g82 => ?_, fun g82 => ?_⟩
      · rw [if_pos g82] at h
        obtain ⟨q83, g83, h⟩ := bind_ok h
        refine ⟨q83, palinodelaw04_awake_ok g83, ?_⟩
        exact (Option.some.inj h).symm
      · rw [if_neg g82] at h
        exact (Option.some.inj h).symm
    · rw [if_neg g79] at h
      exact (Option.some.inj h).symm
def palinodelaw04_ShowFolds_j1_ev (fuel : Nat) (x1 : List UInt8) (x2 : UInt8) (x19 : Bool) : Option (Bool) :=
  (if x19 = true then ((palinodelaw04_awake_ev fuel).bind fun y26 => some y26) else ((show_List_ev fuel x1 (x2.toNat : Int)).bind fun y29 => (loopE (fun ag2e s => palinodelaw04_ShowFolds_l2_ev fuel y29 x2 x1 ag2e s.1 s.2.1 s.2.2) fuel (0, 0, ([] : List UInt8)))))
theorem palinodelaw04_ShowFolds_j1_ok {fuel : Nat} {x1 : List UInt8} {x2 : UInt8} {x19 : Bool} {r : Bool} (h : palinodelaw04_ShowFolds_j1_ev fuel x1 x2 x19 = some r) : palinodelaw04_ShowFolds_j1 x1 x2 x19 r := by
  unfold palinodelaw04_ShowFolds_j1_ev at h
  unfold palinodelaw04_ShowFolds_j1
  refine ⟨fun g84 => ?_, fun g84 => ?_⟩
  · rw [if_pos g84] at h
    obtain ⟨q85, g85, h⟩ := bind_ok h
    refine ⟨q85, palinodelaw04_awake_ok g85, ?_⟩
    exact (Option.some.inj h).symm
  · rw [if_neg g84] at h
    obtain ⟨q86, g86, h⟩ := bind_ok h
    refine ⟨q86, show_List_ok g86, ?_⟩
    refine loopE_ok ?_ h
    intro ae ag s hag h
    exact palinodelaw04_ShowFolds_l2_ok hag h
def palinodelaw04_ShowFolds_ev (fuel : Nat) (x1 : List UInt8) (x2 : UInt8) : Option (Bool) :=
  palinodelaw04_ShowFolds_j1_ev fuel x1 x2 ((decide (200 < (x1.length : Int))) || (decide ((x2.toNat : Int) < 5)))
theorem palinodelaw04_ShowFolds_ok {fuel : Nat} {x1 : List UInt8} {x2 : UInt8} {r : Bool} (h : palinodelaw04_ShowFolds_ev fuel x1 x2 = some r) : palinodelaw04_ShowFolds_R x1 x2 r := by
  unfold palinodelaw04_ShowFolds_ev at h
  unfold palinodelaw04_ShowFolds_R
  exact palinodelaw04_ShowFolds_j1_ok h
set_option maxHeartbeats 4000000 in
theorem palinodelaw04_ShowFolds_con (x1 : List UInt8) (x2 : UInt8) (r : Bool) (h : palinodelaw04_ShowFolds_R x1 x2 r) : Con Try.prog 3 [.sl 1 none (List.map eb x1), .v (.int .u8 ((x2.toNat : Int)))] [] [] (Ret (.v (.bool r))) := by
  refine xenter Try.func3 rfl rfl fun g hg => ?_
  simp only [Try.ntmps3, slots]
  unfold palinodelaw04_ShowFolds_R at h
  refine xseq ?_
  refine xregion ?_
  refine xvalP (pv_assign rfl) rfl rfl ?_
  refine xnil ?_
  refine xthen ?_
  refine xseq ?_
  refine xseqM (fun σ => ∃ (x19 : Bool), palinodelaw04_ShowFolds_j1 x1 x2 x19 r ∧ σ = ⟨[(0, .sl 1 none (List.map eb x1)), (1, .v (.int .u8 ((x2.toNat : Int)))), (15, .v (.bool x19))], [], []⟩) ?_ ?_
  · refine xregion ?_
    refine xvalP (pv_move rfl) rfl rfl ?_
    refine xvalP (pv_lenM UndC.h rfl) rfl rfl ?_
    refine xvalP (pv_bin2 rfl rfl rfl) rfl rfl ?_
    refine xvalP (pv_move rfl) rfl rfl ?_
    by_cases hp22 : 200 < (x1.length : Int)
    · rw [show (decide (200 < (x1.length : Int))) = true from (decide_eq_true hp22), Bool.true_or] at h
      refine xsetB 12 (decide_eq_true hp22) rfl ?_
      refine xskip rfl rfl ?_
      refine xskip rfl rfl ?_
      refine xvalP (pv_pick rfl rfl) rfl rfl ?_
      refine xnil ?_
      exact xmeet ⟨true, h, rfl⟩ ⟨(.cons rfl (.refl _) (.cons rfl (.refl _) (.cons rfl (.refl _) (.nil _)))), (SubM.of (.nil _) (.nil _))⟩
    · rw [show (decide (200 < (x1.length : Int))) = false from (decide_eq_false hp22), Bool.false_or] at h
      refine xsetB 12 (decide_eq_false hp22) rfl ?_
      refine xvalP (pv_move rfl) rfl rfl ?_
      refine xvalP (pv_bin2 rfl rfl rfl) rfl rfl ?_
      refine xvalP (pv_pick rfl rfl) rfl rfl ?_
      refine xnil ?_
      exact xmeet ⟨(decide ((x2.toNat : Int) < 5)), h, rfl⟩ ⟨(.cons rfl (.refl _) (.cons rfl (.refl _) (.cons rfl (.refl _) (.nil _)))), (SubM.of (.nil _) (.nil _))⟩
  · clear h
    rintro _ ⟨x19, h, rfl⟩
    by_cases hp24 : x19 = true
    · replace h := h.1 hp24
      refine xcondT' hp24 rfl ?_
      refine xseq ?_
      refine xregion ?_
      obtain ⟨y26, h25, h⟩ := h
      refine xcall0 (palinodelaw04_awake_con _ h25) Try.func7 (by kernel_rfl) rfl .nil rfl rfl ?_
      refine xvalP (pv_assign rfl) rfl rfl ?_
      refine xnil ?_
      refine xthen ?_
      refine xretc ?_
      refine xthen_ret ?_
      replace h := h.symm
      subst h
      exact xret1 hg rfl rfl (.refl _) (SubM.of (.nil _) (.nil _)) ⟨rfl, rfl, rfl⟩
    · replace h := h.2 hp24
      refine xcondF' (b_f hp24) rfl ?_
      refine xskipc ?_
      refine xthen ?_
      refine xseq ?_
      refine xregion ?_
      refine xvalP (pv_move rfl) rfl rfl ?_
      refine xvalP (pv_move rfl) rfl rfl ?_
      refine xvalP (pv_convW (w8 x2) UndC.h UndC.h rfl) rfl rfl ?_
      obtain ⟨y29, h28, h⟩ := h
      refine xcallM (show_List_con x1 (x2.toNat : Int) _ h28) Try.func8 (by kernel_rfl) rfl (.cons rfl (.refl _) (.cons rfl (.refl _) .nil)) rfl rfl fun i30 => ?_
      refine xvalP (pv_assign rfl) rfl rfl ?_
      refine xnil ?_
      refine xthen ?_
      refine xseq ?_
      refine xregion ?_
      refine xvalP (pv_assign rfl) rfl rfl ?_
      refine xaddRb eb 5 1 ?_
      refine xre 6 rfl Wk.nil_rb ?_
      refine xnil ?_
      refine xthen ?_
      refine xseq ?_
      refine xregion ?_
      refine xvalP (pv_assign rfl) rfl rfl ?_
      refine xnil ?_
      refine xthen ?_
      refine xseq ?_
      refine xseq ?_
      refine xregion ?_
      refine xvalP (pv_assign rfl) rfl rfl ?_
      refine xnil ?_
      refine xthen ?_
      refine xblock ?_
      obtain ⟨Inv, ⟨m0, hI⟩, hS⟩ := h
      refine xloop (fun σ m => ∃ (x963 : Int), ∃ (x964 : Int), ∃ (l965 : List UInt8), ∃ (i966 : Option (Nat × Nat)), Inv (x963, x964, l965) m ∧ σ = ⟨[(0, .sl 1 none (List.map eb x1)), (1, .v (.int .u8 ((x2.toNat : Int)))), (5, .sl 1 (some i30) (List.map eb y29)), (6, .rb i966 l965.length), (7, .v (.int .i64 x963)), (8, .v (.int .i64 x964))], [rbx i966 5 1 (List.map eb l965)], [⟨i30, 5, 1, y29.length⟩]⟩) ⟨0, 0, ([] : List UInt8), none, hI, rfl⟩ ⟨(.cons rfl (.refl _) (.cons rfl (.refl _) (.cons rfl (.refl _) (.cons rfl (.eq (by first | rfl | simp)) (.cons rfl (.refl _) (.cons rfl (.refl _) (.nil _))))))), by exact (SubM.of (.keep rfl rfl (.refl _) (.nil _)) (.keep rfl (.nil _)))⟩ ?_
      rintro _ m ⟨x963, x964, l965, i966, hI, rfl⟩
      obtain ⟨ag2, hag2, h⟩ : ∃ ag, (∀ s', ag s' → ∃ m', m' < m ∧ Inv s' m') ∧ palinodelaw04_ShowFolds_l2 y29 x2 x1 ag x963 x964 l965 r := ⟨_, fun _ h => h, hS (x963, x964, l965) _ hI⟩
      clear hS hI
      refine xseq ?_
      refine xseq ?_
      refine xregion ?_
      refine xvalP (pv_move rfl) rfl rfl ?_
      refine xvalP (pv_move rfl) rfl rfl ?_
      refine xvalP (pv_lenM UndC.h rfl) rfl rfl ?_
      refine xvalP (pv_bin2 rfl rfl rfl) rfl rfl ?_
      refine xnil ?_
      refine xthen ?_
      by_cases hp1204 : x964 < (y29.length : Int)
      · replace h := h.1 hp1204
        refine xcondT' (decide_eq_true hp1204) rfl ?_
        refine xskipc ?_
        refine xthen ?_
        refine xseqM (fun σ => ∃ (x1316 : Int), ∃ (l1317 : List UInt8), ∃ (i1318 : Option (Nat × Nat)), palinodelaw04_ShowFolds_j3 x964 ag2 x1316 l1317 r ∧ σ = ⟨[(0, .sl 1 none (List.map eb x1)), (1, .v (.int .u8 ((x2.toNat : Int)))), (5, .sl 1 (some i30) (List.map eb y29)), (6, .rb i1318 l1317.length), (7, .v (.int .i64 x1316)), (8, .v (.int .i64 x964))], [rbx i1318 5 1 (List.map eb l1317)], [⟨i30, 5, 1, y29.length⟩]⟩) ?_ ?_
        · refine xblock ?_
          refine xseq ?_
          refine xseq ?_
          refine xregion ?_
          refine xvalP (pv_move rfl) rfl rfl ?_
          refine xvalP (pv_move rfl) rfl rfl ?_
          obtain ⟨h1373a, h⟩ := h
          obtain ⟨y1372, h1373b, h⟩ := h
          refine xvalP (pv_indexAddrM h1373a h1373b UndC.h ShpC.h rfl rfl) rfl rfl ?_
          refine xval (qv_load ShpC.h rfl rfl rfl) rfl rfl ?_
          refine xvalP (pv_bin2 rfl rfl rfl) rfl rfl ?_
          refine xnil ?_
          refine xthen ?_
          by_cases hp1375 : (y1372.toNat : Int) = 10
          · replace h := h.1 hp1375
            refine xcondT' (decide_eq_true hp1375) rfl ?_
            refine xseq ?_
            refine xseq ?_
            refine xregion ?_
            refine xvalP (pv_move rfl) rfl rfl ?_
            refine xvalP (pv_lenRb UndC.h rfl) rfl rfl ?_
            refine xvalP (pv_bin2 rfl rfl rfl) rfl rfl ?_
            refine xvalP (pv_move rfl) rfl rfl ?_
            by_cases hp1412 : ((l965.length : Nat) : Int) < 1
            · replace h := h.1 hp1412
              refine xsetB 35 (decide_eq_true hp1412) rfl ?_
              refine xskip rfl rfl ?_
              refine xskip rfl rfl ?_
              refine xskip rfl rfl ?_
              refine xskip rfl rfl ?_
              refine xskip rfl rfl ?_
              refine xskip rfl rfl ?_
              refine xskip rfl rfl ?_
              refine xvalP (pv_pick rfl rfl) rfl rfl ?_
              refine xvalP (pv_move rfl) rfl rfl ?_
              refine xskip rfl rfl ?_
              refine xskip rfl rfl ?_
              refine xskip rfl rfl ?_
              refine xskip rfl rfl ?_
              refine xvalP (pv_pick rfl rfl) rfl rfl ?_
              refine xnil ?_
              refine xthen ?_
              refine xcondT rfl ?_
              refine xseq ?_
              refine xregion ?_
              refine xvalP (pv_assign rfl) rfl rfl ?_
              refine xnil ?_
              refine xthen ?_
              refine xretc ?_
              refine xthen_ret ?_
              refine xthen_ret ?_
              refine xin_ret ?_
              refine xthen_ret ?_
              refine xthen_ret ?_
              refine xin_ret ?_
              refine xthen_ret ?_
              replace h := h.symm
              subst h
              exact xret1 (bx' := []) (tk' := []) hg rfl rfl (.refl _) (SubM.of (.nil _) (.nil _)) ⟨rfl, rfl, rfl⟩
            · replace h := h.2 hp1412
              refine xsetB 35 (decide_eq_false hp1412) rfl ?_
              refine xvalP (pv_move rfl) rfl rfl ?_
              refine xvalP (pv_move rfl) rfl rfl ?_
              refine xvalP (pv_lenRb UndC.h rfl) rfl rfl ?_
              obtain ⟨h1414, h⟩ := h
              refine xvalP (pv_subI h1414 rfl rfl) rfl rfl ?_
              obtain ⟨h1416a, h⟩ := h
              obtain ⟨y1415, h1416b, h⟩ := h
              refine xvalP (pv_indexAddrRbM rfl h1416a h1416b UndC.h ShpC.h rfl rfl) rfl rfl ?_
              refine xval (qv_loadRb (f := eb) (k := 1) (off := 0) (i := ((((l965.length : Nat) : Int) - 1) : Int).toNat) 0 h1416b rfl (by decide) rfl ShpC.h rfl rfl) rfl rfl ?_
              refine xvalP (pv_bin2 rfl rfl rfl) rfl rfl ?_
              refine xvalP (pv_pick rfl rfl) rfl rfl ?_
              refine xvalP (pv_move rfl) rfl rfl ?_
              by_cases hp1418 : ¬ ((y1415.toNat : Int) = 92)
              · replace h := h.1 hp1418
                refine xsetB 44 (not_t (decide_eq_false hp1418)) rfl ?_
                refine xskip rfl rfl ?_
                refine xskip rfl rfl ?_
                refine xskip rfl rfl ?_
                refine xskip rfl rfl ?_
                refine xvalP (pv_pick rfl rfl) rfl rfl ?_
                refine xnil ?_
                refine xthen ?_
                refine xcondT rfl ?_
                refine xseq ?_
                refine xregion ?_
                refine xvalP (pv_assign rfl) rfl rfl ?_
                refine xnil ?_
                refine xthen ?_
                refine xretc ?_
                refine xthen_ret ?_
                refine xthen_ret ?_
                refine xin_ret ?_
                refine xthen_ret ?_
                refine xthen_ret ?_
                refine xin_ret ?_
                refine xthen_ret ?_
                replace h := h.symm
                subst h
                exact xret1 (bx' := []) (tk' := []) hg rfl rfl (.refl _) (SubM.of (.nil _) (.nil _)) ⟨rfl, rfl, rfl⟩
              · replace h := h.2 hp1418
                refine xsetB 44 (not_f (decide_eq_true (Decidable.of_not_not hp1418))) rfl ?_
                refine xvalP (pv_move rfl) rfl rfl ?_
                refine xvalP (pv_move rfl) rfl rfl ?_
                refine xvalP (pv_convW (w8 x2) UndC.h UndC.h rfl) rfl rfl ?_
                refine xvalP (pv_bin2 rfl rfl rfl) rfl rfl ?_
                refine xvalP (pv_pick rfl rfl) rfl rfl ?_
                refine xnil ?_
                refine xthen ?_
                by_cases hp1421 : (x2.toNat : Int) < x963
                · replace h := h.1 hp1421
                  refine xcondT' (decide_eq_true hp1421) rfl ?_
                  refine xseq ?_
                  refine xregion ?_
                  refine xvalP (pv_assign rfl) rfl rfl ?_
                  refine xnil ?_
                  refine xthen ?_
                  refine xretc ?_
                  refine xthen_ret ?_
                  refine xthen_ret ?_
                  refine xin_ret ?_
                  refine xthen_ret ?_
                  refine xthen_ret ?_
                  refine xin_ret ?_
                  refine xthen_ret ?_
                  replace h := h.symm
                  subst h
                  exact xret1 (bx' := []) (tk' := []) hg rfl rfl (.refl _) (SubM.of (.nil _) (.nil _)) ⟨rfl, rfl, rfl⟩
                · replace h := h.2 hp1421
                  refine xcondF' (decide_eq_false hp1421) rfl ?_
                  refine xskipc ?_
                  refine xthen ?_
                  refine xseq ?_
                  refine xregion ?_
                  refine xvalP (pv_move rfl) rfl rfl ?_
                  refine xvalP (pv_move rfl) rfl rfl ?_
                  refine xvalP (pv_lenRb UndC.h rfl) rfl rfl ?_
                  obtain ⟨h1423, h⟩ := h
                  refine xvalP (pv_subI h1423 rfl rfl) rfl rfl ?_
                  obtain ⟨h1424, h⟩ := h
                  refine xvalP (pv_sliceRbHi h1424 UndC.h ShpC.h rfl rfl) rfl rfl ?_
                  refine xtakeRb (f := eb) (l := l965) 0 50 54 ((((l965.length : Nat) : Int) - 1) : Int).toNat rfl (by have := h1424; first | omega | (simp at this ⊢; done) | (simp at this ⊢; omega)) rfl rfl rfl ?_
                  refine xvalP (pv_assign rfl) rfl rfl ?_
                  refine xnil ?_
                  refine xthen ?_
                  refine xseq ?_
                  refine xregion ?_
                  refine xvalP (pv_assign rfl) rfl rfl ?_
                  refine xnil ?_
                  refine xthen ?_
                  refine xexit ?_
                  refine xthen_exit ?_
                  refine xin_same rfl ?_
                  exact xmeet ⟨0, (l965.take ((((l965.length : Nat) : Int) - 1) : Int).toNat), i966, h, rfl⟩ ⟨(.cons rfl (.refl _) (.cons rfl (.refl _) (.cons rfl (.refl _) (.cons rfl (.eq (by first | rfl | simp)) (.cons rfl (.refl _) (.cons rfl (.refl _) (.nil _))))))), by exact (SubM.of (.keep rfl rfl (.refl _) (.nil _)) (.keep rfl (.nil _)))⟩
          · replace h := h.2 hp1375
            refine xcondF' (decide_eq_false hp1375) rfl ?_
            refine xskipc ?_
            refine xthen ?_
            refine xseq ?_
            refine xregion ?_
            refine xvalP (pv_move rfl) rfl rfl ?_
            refine xvalP (pv_move rfl) rfl rfl ?_
            refine xvalP (pv_move rfl) rfl rfl ?_
            obtain ⟨h1426a, h⟩ := h
            obtain ⟨y1425, h1426b, h⟩ := h
            refine xvalP (pv_indexAddrM h1426a h1426b UndC.h ShpC.h rfl rfl) rfl rfl ?_
            refine xval (qv_load ShpC.h rfl rfl rfl) rfl rfl ?_
            refine xbuildSliceM (f := eb) [y1425] UndC.h InfC.h rfl rfl (by first | exact wkR_of rfl | (repeat (first | exact WkR.nil | refine WkR.cons (by (repeat (first | exact WkL.nil | refine WkL.cons (by first | with_reducible exact Wk.refl _ | exact Wk.nil_own _ | exact Wk.nil_pl _ | with_reducible exact Wk.tok _ _ _ | exact Wk.tok _ _ _ | exact Wk.eq (by first | rfl | (simp []; done) | (simp []; omega))) ?_))) ?_))) rfl rfl rfl rfl fun s60 => ?_
            obtain ⟨h1427, h⟩ := h
            refine xappendRb (f := eb) (l := l965) (l2 := [y1425]) 0 rfl h1427 UndC.h InfC.h rfl rfl (.refl _) (.sl rfl (.refl _)) rfl rfl rfl fun i1428 => ?_
            refine xvalP (pv_assign rfl) rfl rfl ?_
            refine xnil ?_
            refine xthen ?_
            refine xregion ?_
            refine xvalP (pv_move rfl) rfl rfl ?_
            obtain ⟨h1429, h⟩ := h
            refine xvalP (pv_addI h1429 rfl rfl) rfl rfl ?_
            refine xvalP (pv_assign rfl) rfl rfl ?_
            refine xnil ?_
            refine xin_normal ?_
            exact xmeet ⟨(x963 + 1), (l965 ++ [y1425]), i1428, h, rfl⟩ ⟨(.cons rfl (.refl _) (.cons rfl (.refl _) (.cons rfl (.refl _) (.cons rfl (.eq (by first | rfl | simp)) (.cons rfl (.refl _) (.cons rfl (.refl _) (.nil _))))))), by exact (SubM.of (.keep rfl rfl (.refl _) (.nil _)) (.drop (.keep rfl (.nil _))))⟩
        · clear h
          rintro _ ⟨x1316, l1317, i1318, h, rfl⟩
          refine xregion ?_
          refine xvalP (pv_move rfl) rfl rfl ?_
          obtain ⟨h1430, h⟩ := h
          refine xvalP (pv_addI h1430 rfl rfl) rfl rfl ?_
          refine xvalP (pv_assign rfl) rfl rfl ?_
          refine xnil ?_
          obtain ⟨m', hm, hI⟩ := hag2 _ h
          exact xagain ⟨x1316, (x964 + 1), l1317, i1318, hI, rfl⟩ hm ⟨(.cons rfl (.refl _) (.cons rfl (.refl _) (.cons rfl (.refl _) (.cons rfl (.eq (by first | rfl | simp)) (.cons rfl (.refl _) (.cons rfl (.refl _) (.nil _))))))), by exact (SubM.of (.keep rfl rfl (.refl _) (.nil _)) (.keep rfl (.nil _)))⟩
      · replace h := h.2 hp1204
        refine xcondF' (decide_eq_false hp1204) rfl ?_
        refine xexit ?_
        refine xthen_exit ?_
        refine xthen_exit ?_
        refine xin_same rfl ?_
        refine xthen ?_
        refine xseq ?_
        refine xregion ?_
        refine xvalP (pv_move rfl) rfl rfl ?_
        refine xvalP (pv_move rfl) rfl rfl ?_
        refine xvalP (pv_convW (w8 x2) UndC.h UndC.h rfl) rfl rfl ?_
        refine xvalP (pv_bin2 rfl rfl rfl) rfl rfl ?_
        refine xvalP (pv_move rfl) rfl rfl ?_
        by_cases hp1444 : x963 ≤ (x2.toNat : Int)
        · replace h := h.1 hp1444
          refine xsetB 68 (decide_eq_true hp1444) rfl ?_
          refine xvalP (pv_move rfl) rfl rfl ?_
          refine xvalP (pv_move rfl) rfl rfl ?_
          obtain ⟨y1446, h1445, h⟩ := h
          refine xcallM (show_List_con x1 0 _ h1445) Try.func8 (by kernel_rfl) rfl (.cons rfl (.refl _) (.cons rfl (.refl _) .nil)) rfl rfl fun i1447 => ?_
          obtain ⟨y1449, h1448, h⟩ := h
          refine xcallF (Fb := []) (Ft := [⟨i1447, 5, 1, y1446.length⟩, ⟨i30, 5, 1, y29.length⟩]) (palinoderef01_Same_con l965 y1446 i966 _ h1448) Try.func9 (by kernel_rfl) rfl (.cons rfl (.eq (by first | rfl | simp)) (.cons rfl (.tok _ _ _) .nil)) (by exact (SubM.of (by repeat (first | with_reducible exact SubB.refl _ | exact SubB.nil _ | refine SubB.keep rfl rfl (by first | with_reducible exact WkL.refl _ | ((repeat (first | exact WkL.nil | refine WkL.cons (by first | with_reducible exact Wk.refl _ | exact Wk.nil_own _ | exact Wk.nil_pl _ | with_reducible exact Wk.tok _ _ _ | exact Wk.tok _ _ _ | exact Wk.eq (by first | rfl | (simp []; done) | (simp []; omega))) ?_)); done) | exact WkL.refl _) ?_ | refine SubB.drop ?_)) (by repeat (first | exact SubT.nil _ | refine SubT.add ?_ | (refine SubT.keep ?_ ?_; focus (first | with_reducible rfl | (simp []; done))) | refine SubT.drop ?_)))) rfl rfl ?_
          rintro _ _ _ ⟨rfl, rfl, rfl⟩
          simp only [List.nil_append, List.cons_append]
          refine xvalP (pv_pick rfl rfl) rfl rfl ?_
          refine xvalP (pv_move rfl) rfl rfl ?_
          by_cases hp1450 : y1449 = true
          · replace h := h.1 hp1450
            refine xsetB 74 hp1450 rfl ?_
            obtain ⟨y1452, h1451, h⟩ := h
            refine xcall0 (palinodelaw04_awake_con _ h1451) Try.func7 (by kernel_rfl) rfl .nil rfl rfl ?_
            refine xvalP (pv_pick rfl rfl) rfl rfl ?_
            refine xvalP (pv_assign rfl) rfl rfl ?_
            refine xnil ?_
            refine xthen ?_
            refine xretc ?_
            replace h := h.symm
            subst h
            exact xret1 (bx' := []) (tk' := []) hg rfl rfl (.refl _) (SubM.of (.nil _) (.nil _)) ⟨rfl, rfl, rfl⟩
          · replace h := h.2 hp1450
            refine xsetB 74 (b_f hp1450) rfl ?_
            refine xskip rfl rfl ?_
            refine xvalP (pv_pick rfl rfl) rfl rfl ?_
            refine xvalP (pv_assign rfl) rfl rfl ?_
            refine xnil ?_
            refine xthen ?_
            refine xretc ?_
            replace h := h.symm
            subst h
            exact xret1 (bx' := []) (tk' := []) hg rfl rfl (.refl _) (SubM.of (.nil _) (.nil _)) ⟨rfl, rfl, rfl⟩
        · replace h := h.2 hp1444
          refine xsetB 68 (decide_eq_false hp1444) rfl ?_
          refine xskip rfl rfl ?_
          refine xskip rfl rfl ?_
          refine xskip rfl rfl ?_
          refine xskip rfl rfl ?_
          refine xvalP (pv_pick rfl rfl) rfl rfl ?_
          refine xvalP (pv_move rfl) rfl rfl ?_
          refine xskip rfl rfl ?_
          refine xvalP (pv_pick rfl rfl) rfl rfl ?_
          refine xvalP (pv_assign rfl) rfl rfl ?_
          refine xnil ?_
          refine xthen ?_
          refine xretc ?_
          replace h := h.symm
          subst h
          exact xret1 (bx' := []) (tk' := []) hg rfl rfl (.refl _) (SubM.of (.nil _) (.nil _)) ⟨rfl, rfl, rfl⟩
end Go.Proofs.Ytefpkpiadnpkeaa
