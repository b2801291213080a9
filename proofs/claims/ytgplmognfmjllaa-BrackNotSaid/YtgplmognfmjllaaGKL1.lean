/- What functions' texts ask for, and the walks that show it (printed by a program). -/
import Derived.Test.YtgplmognfmjllaaGK
namespace Go.Proofs.Ytgplmognfmjllaa
/-- palinodelaw07.BrackNot -/
def palinodelaw07_BrackNot_l2 (y47 : (Arr 4 (UInt64)) × Int × Int) (y51 : (Arr 4 (UInt64)) × Int × Int) (ag2 : (Int) → Prop) (x225 : Int) (r : Bool) : Prop :=
  ((x225 < 4 → (0 ≤ (x225 : Int) ∧ (x225 : Int) < 4) ∧ ∃ y288 : UInt64, y47.1.l[(x225 : Int).toNat]? = some y288 ∧ (0 ≤ (x225 : Int) ∧ (x225 : Int) < 4) ∧ ∃ y290 : UInt64, y51.1.l[(x225 : Int).toNat]? = some y290 ∧ ∃ c292 : UInt64, (c292.toNat : Int) = IntKind.u64.wrap (BitVec.ofInt IntKind.u64.bits (y288.toNat : Int) ^^^ BitVec.ofInt IntKind.u64.bits (y290.toNat : Int)).toNat ∧ ((¬ ((c292.toNat : Int) = 18446744073709551615) → r = false) ∧ (¬ (¬ ((c292.toNat : Int) = 18446744073709551615)) → InR (x225 + 1) ∧ ag2 (x225 + 1)))) ∧ (¬ (x225 < 4) → InR (y47.2.1 + 1) ∧ ((y51.2.1 = (y47.2.1 + 1) → ∃ y305 : Bool, palinodelaw07_awake_R y305 ∧ r = y305) ∧ (¬ (y51.2.1 = (y47.2.1 + 1)) → r = false))))
def palinodelaw07_BrackNot_j1 (x1 : List UInt8) (x33 : Bool) (r : Bool) : Prop :=
  ((x33 = true → ∃ y45 : Bool, palinodelaw07_awake_R y45 ∧ r = y45) ∧ (¬ (x33 = true) → ∃ y47 : (Arr 4 (UInt64)) × Int × Int, brack_Parse_R x1 0 y47 ∧ Room (([(94 : UInt8)]).length + x1.length) 1 ∧ ∃ y51 : (Arr 4 (UInt64)) × Int × Int, brack_Parse_R ([(94 : UInt8)] ++ x1) 0 y51 ∧ ((¬ (y47.2.2 = y51.2.2) → r = false) ∧ (¬ (¬ (y47.2.2 = y51.2.2)) → ((¬ (y47.2.2 = 0) → ((y47.2.1 = 0 → ((y51.2.1 = 0 → ∃ y83 : Bool, palinodelaw07_awake_R y83 ∧ r = y83) ∧ (¬ (y51.2.1 = 0) → r = false))) ∧ (¬ (y47.2.1 = 0) → r = false))) ∧ (¬ (¬ (y47.2.2 = 0)) → LoopR (fun ag2 s => palinodelaw07_BrackNot_l2 y47 y51 ag2 s r) 0))))))
def palinodelaw07_BrackNot_R (x1 : List UInt8) (r : Bool) : Prop :=
  ((100 < (x1.length : Int) → palinodelaw07_BrackNot_j1 x1 true r) ∧ (¬ (100 < (x1.length : Int)) → ((0 < (x1.length : Int) → 0 ≤ (0 : Int) ∧ ∃ y40 : UInt8, x1[(0 : Int).toNat]? = some y40 ∧ palinodelaw07_BrackNot_j1 x1 (decide ((y40.toNat : Int) = 94)) r) ∧ (¬ (0 < (x1.length : Int)) → palinodelaw07_BrackNot_j1 x1 false r))))
def palinodelaw07_BrackNot_l2_ev (fuel : Nat) (y47 : (Arr 4 (UInt64)) × Int × Int) (y51 : (Arr 4 (UInt64)) × Int × Int) (ag2e : (Int) → Option (Bool)) (x225 : Int) : Option (Bool) :=
  (if x225 < 4 then (if (0 ≤ (x225 : Int) ∧ (x225 : Int) < 4) then ((y47.1.l[(x225 : Int).toNat]?).bind fun y288 => (if (0 ≤ (x225 : Int) ∧ (x225 : Int) < 4) then ((y51.1.l[(x225 : Int).toNat]?).bind fun y290 => (exL (IntKind.u64.wrap (BitVec.ofInt IntKind.u64.bits (y288.toNat : Int) ^^^ BitVec.ofInt IntKind.u64.bits (y290.toNat : Int)).toNat) fun c292 => (if ¬ ((c292.toNat : Int) = 18446744073709551615) then some false else (if InR (x225 + 1) then ag2e (x225 + 1) else none)))) else none)) else none) else (if InR (y47.2.1 + 1) then (if y51.2.1 = (y47.2.1 + 1) then ((palinodelaw07_awake_ev fuel).bind fun y305 => some y305) else some false) else none))
theorem palinodelaw07_BrackNot_l2_ok {fuel : Nat} {y47 : (Arr 4 (UInt64)) × Int × Int} {y51 : (Arr 4 (UInt64)) × Int × Int} {ag2e : (Int) → Option (Bool)} {ag2 : (Int) → Prop} {x225 : Int} {r : Bool} (hagag2 : ∀ s, ag2e s = some r → ag2 s) (h : palinodelaw07_BrackNot_l2_ev fuel y47 y51 ag2e x225 = some r) : palinodelaw07_BrackNot_l2 y47 y51 ag2 x225 r := by
  unfold palinodelaw07_BrackNot_l2_ev at h
  unfold palinodelaw07_BrackNot_l2
  refine ⟨fun g194 => ?_, fun g194 => ?_⟩
  · rw [if_pos g194] at h
    obtain ⟨g195, h⟩ := if_ok h
    refine ⟨g195, ?_⟩
    obtain ⟨q196, g196, h⟩ := bind_ok h
    refine ⟨q196, g196, ?_⟩
    obtain ⟨g197, h⟩ := if_ok h
    refine ⟨g197, ?_⟩
    obtain ⟨q198, g198, h⟩ := bind_ok h
    refine ⟨q198, g198, ?_⟩
    obtain ⟨q199, g199, h⟩ := exL_ok h
    refine ⟨q199, g199, ?_⟩
    refine ⟨fun g200 => ?_, fun g200 => ?_⟩
    · rw [if_pos g200] at h
      exact (Option.some.inj h).symm
    · rw [if_neg g200] at h
      obtain ⟨g201, h⟩ := if_ok h
      refine ⟨g201, ?_⟩
      exact hagag2 _ h
  · rw [if_neg g194] at h
    obtain ⟨g202, h⟩ := if_ok h
    refine ⟨g202, ?_⟩
    refine ⟨fun g203 => ?_, fun g203 => ?_⟩
    · rw [if_pos g203] at h
      obtain ⟨q204, g204, h⟩ := bind_ok h
      refine ⟨q204, palinodelaw07_awake_ok g204, ?_⟩
      exact (Option.some.inj h).symm
    · rw [if_neg g203] at h
      exact (Option.some.inj h).symm
def palinodelaw07_BrackNot_j1_ev (fuel : Nat) (x1 : List UInt8) (x33 : Bool) : Option (Bool) :=
  (if x33 = true then ((palinodelaw07_awake_ev fuel).bind fun y45 => some y45) else ((brack_Parse_ev fuel x1 0).bind fun y47 => (if Room (([(94 : UInt8)]).length + x1.length) 1 then ((brack_Parse_ev fuel ([(94 : UInt8)] ++ x1) 0).bind fun y51 => (if ¬ (y47.2.2 = y51.2.2) then some false else (if ¬ (y47.2.2 = 0) then (if y47.2.1 = 0 then (if y51.2.1 = 0 then ((palinodelaw07_awake_ev fuel).bind fun y83 => some y83) else some false) else some false) else (loopE (fun ag2e s => palinodelaw07_BrackNot_l2_ev fuel y47 y51 ag2e s) fuel 0)))) else none)))
theorem palinodelaw07_BrackNot_j1_ok {fuel : Nat} {x1 : List UInt8} {x33 : Bool} {r : Bool} (h : palinodelaw07_BrackNot_j1_ev fuel x1 x33 = some r) : palinodelaw07_BrackNot_j1 x1 x33 r := by
  unfold palinodelaw07_BrackNot_j1_ev at h
  unfold palinodelaw07_BrackNot_j1
  refine ⟨fun g205 => ?_, fun g205 => ?_⟩
  · rw [if_pos g205] at h
    obtain ⟨q206, g206, h⟩ := bind_ok h
    refine ⟨q206, palinodelaw07_awake_ok g206, ?_⟩
    exact (Option.some.inj h).symm
  · rw [if_neg g205] at h
    obtain ⟨q207, g207, h⟩ := bind_ok h
    refine ⟨q207, brack_Parse_ok g207, ?_⟩
    obtain ⟨g208, h⟩ := if_ok h
    refine ⟨g208, ?_⟩
    obtain ⟨q209, g209, h⟩ := bind_ok h
    refine ⟨q209, brack_Parse_ok g209, ?_⟩
    refine ⟨fun g210 => ?_, fun g210 => ?_⟩
    · rw [if_pos g210] at h
      exact (Option.some.inj h).symm
    · rw [if_neg g210] at h
      refine ⟨fun g211 => ?_, fun g211 => ?_⟩
      · rw [if_pos g211] at h
        refine ⟨fun g212 => ?_, fun g212 => ?_⟩
        · rw [if_pos g212] at h
          refine ⟨fun g213 => ?_, fun g213 => ?_⟩
          · rw [if_pos g213] at h
            obtain ⟨q214, g214, h⟩ := bind_ok h
            refine ⟨q214, palinodelaw07_awake_ok g214, ?_⟩
            exact (Option.some.inj h).symm
          · rw [if_neg g213] at h
            exact (Option.some.inj h).symm
        · rw [if_neg g212] at h
          exact (Option.some.inj h).symm
      · rw [if_neg g211] at h
        refine loopE_ok ?_ h
        intro ae ag s hag h
        exact palinodelaw07_BrackNot_l2_ok hag h
def palinodelaw07_BrackNot_ev (fuel : Nat) (x1 : List UInt8) : Option (Bool) :=
  (if 100 < (x1.length : Int) then palinodelaw07_BrackNot_j1_ev fuel x1 true else (if 0 < (x1.length : Int) then (if 0 ≤ (0 : Int) then ((x1[(0 : Int).toNat]?).bind fun y40 => palinodelaw07_BrackNot_j1_ev fuel x1 (decide ((y40.toNat : Int) = 94))) else none) else palinodelaw07_BrackNot_j1_ev fuel x1 false))
theorem palinodelaw07_BrackNot_ok {fuel : Nat} {x1 : List UInt8} {r : Bool} (h : palinodelaw07_BrackNot_ev fuel x1 = some r) : palinodelaw07_BrackNot_R x1 r := by
  unfold palinodelaw07_BrackNot_ev at h
  unfold palinodelaw07_BrackNot_R
  refine ⟨fun g215 => ?_, fun g215 => ?_⟩
  · rw [if_pos g215] at h
    exact palinodelaw07_BrackNot_j1_ok h
  · rw [if_neg g215] at h
    refine ⟨fun g216 => ?_, fun g216 => ?_⟩
    · rw [if_pos g216] at h
      obtain ⟨g217, h⟩ := if_ok h
      refine ⟨g217, ?_⟩
      obtain ⟨q218, g218, h⟩ := bind_ok h
      refine ⟨q218, g218, ?_⟩
      exact palinodelaw07_BrackNot_j1_ok h
    · rw [if_neg g216] at h
      exact palinodelaw07_BrackNot_j1_ok h
set_option maxHeartbeats 4000000 in
theorem palinodelaw07_BrackNot_con (x1 : List UInt8) (r : Bool) (h : palinodelaw07_BrackNot_R x1 r) : Con Try.prog 3 [.sl 1 none (List.map eb x1)] [] [] (Ret (.v (.bool r))) := by
  refine xenter Try.func3 rfl rfl fun g hg => ?_
  simp only [Try.ntmps3, slots]
  refine xseq ?_
  refine xregion ?_
  refine xvalP (pv_assign rfl) rfl rfl ?_
  refine xnil ?_
  refine xthen ?_
  refine xseq ?_
  refine xseqM (fun σ => ∃ (x33 : Bool), palinodelaw07_BrackNot_j1 x1 x33 r ∧ σ = ⟨[(0, .sl 1 none (List.map eb x1)), (23, .v (.bool x33))], [], []⟩) ?_ ?_
  · refine xregion ?_
    refine xvalP (pv_move rfl) rfl rfl ?_
    refine xvalP (pv_lenM UndC.h rfl) rfl rfl ?_
    refine xvalP (pv_bin2 rfl rfl rfl) rfl rfl ?_
    refine xvalP (pv_move rfl) rfl rfl ?_
    by_cases hp36 : 100 < (x1.length : Int)
    · replace h := h.1 hp36
      refine xsetB 13 (decide_eq_true hp36) rfl ?_
      refine xskip rfl rfl ?_
      refine xskip rfl rfl ?_
      refine xskip rfl rfl ?_
      refine xskip rfl rfl ?_
      refine xskip rfl rfl ?_
      refine xskip rfl rfl ?_
      refine xskip rfl rfl ?_
      refine xskip rfl rfl ?_
      refine xskip rfl rfl ?_
      refine xvalP (pv_pick rfl rfl) rfl rfl ?_
      refine xnil ?_
      exact xmeet ⟨true, h, rfl⟩ ⟨(.cons rfl (.refl _) (.cons rfl (.refl _) (.nil _))), (SubM.of (.nil _) (.nil _))⟩
    · replace h := h.2 hp36
      refine xsetB 13 (decide_eq_false hp36) rfl ?_
      refine xvalP (pv_move rfl) rfl rfl ?_
      refine xvalP (pv_lenM UndC.h rfl) rfl rfl ?_
      refine xvalP (pv_bin2 rfl rfl rfl) rfl rfl ?_
      refine xvalP (pv_move rfl) rfl rfl ?_
      by_cases hp39 : 0 < (x1.length : Int)
      · replace h := h.1 hp39
        refine xsetB 17 (decide_eq_true hp39) rfl ?_
        refine xvalP (pv_move rfl) rfl rfl ?_
        obtain ⟨h41a, h⟩ := h
        obtain ⟨y40, h41b, h⟩ := h
        refine xvalP (pv_indexAddrM h41a h41b UndC.h ShpC.h rfl rfl) rfl rfl ?_
        refine xval (qv_load ShpC.h rfl rfl rfl) rfl rfl ?_
        refine xvalP (pv_bin2 rfl rfl rfl) rfl rfl ?_
        refine xvalP (pv_pick rfl rfl) rfl rfl ?_
        refine xvalP (pv_pick rfl rfl) rfl rfl ?_
        refine xnil ?_
        exact xmeet ⟨(decide ((y40.toNat : Int) = 94)), h, rfl⟩ ⟨(.cons rfl (.refl _) (.cons rfl (.refl _) (.nil _))), (SubM.of (.nil _) (.nil _))⟩
      · replace h := h.2 hp39
        refine xsetB 17 (decide_eq_false hp39) rfl ?_
        refine xskip rfl rfl ?_
        refine xskip rfl rfl ?_
        refine xskip rfl rfl ?_
        refine xskip rfl rfl ?_
        refine xvalP (pv_pick rfl rfl) rfl rfl ?_
        refine xvalP (pv_pick rfl rfl) rfl rfl ?_
        refine xnil ?_
        exact xmeet ⟨false, h, rfl⟩ ⟨(.cons rfl (.refl _) (.cons rfl (.refl _) (.nil _))), (SubM.of (.nil _) (.nil _))⟩
  · clear h
    rintro _ ⟨x33, h, rfl⟩
    by_cases hp43 : x33 = true
    · replace h := h.1 hp43
      refine xcondT' hp43 rfl ?_
      refine xseq ?_
      refine xregion ?_
      obtain ⟨y45, h44, h⟩ := h
      refine xcall0 (palinodelaw07_awake_con _ h44) Try.func6 (by kernel_rfl) rfl .nil rfl rfl ?_
      refine xvalP (pv_assign rfl) rfl rfl ?_
      refine xnil ?_
      refine xthen ?_
      refine xretc ?_
      refine xthen_ret ?_
      replace h := h.symm
      subst h
      exact xret1 hg rfl rfl (.refl _) (SubM.of (.nil _) (.nil _)) ⟨rfl, rfl, rfl⟩
    · replace h := h.2 hp43
      refine xcondF' (b_f hp43) rfl ?_
      refine xskipc ?_
      refine xthen ?_
      refine xseq ?_
      refine xregion ?_
      refine xvalP (pv_move rfl) rfl rfl ?_
      obtain ⟨y47, h46, h⟩ := h
      refine xcallF (Fb := []) (Ft := []) (brack_Parse_con x1 0 _ h46) Try.func7 (by kernel_rfl) rfl (.cons rfl (.refl _) (.cons rfl (.refl _) .nil)) (by exact (SubM.of (by repeat (first | with_reducible exact SubB.refl _ | exact SubB.nil _ | refine SubB.keep rfl rfl (by first | with_reducible exact WkL.refl _ | ((repeat (first | exact WkL.nil | refine WkL.cons (by first | with_reducible exact Wk.refl _ | exact Wk.nil_own _ | exact Wk.nil_pl _ | with_reducible exact Wk.tok _ _ _ | exact Wk.tok _ _ _ | exact Wk.eq (by first | rfl | (simp []; done) | (simp []; omega))) ?_)); done) | exact WkL.refl _) ?_ | refine SubB.drop ?_)) (by repeat (first | exact SubT.nil _ | refine SubT.add ?_ | (refine SubT.keep ?_ ?_; focus (first | with_reducible rfl | (simp []; done))) | refine SubT.drop ?_)))) rfl rfl ?_
      rintro _ _ _ ⟨rfl, rfl, rfl⟩
      simp only [List.nil_append, List.cons_append]
      refine xvalP (pv_move rfl) rfl rfl ?_
      refine xvalP (pv_extract rfl rfl) rfl rfl ?_
      refine xvalP (pv_extract rfl rfl) rfl rfl ?_
      refine xvalP (pv_extract rfl rfl) rfl rfl ?_
      refine xalloc InfC.h rfl rfl fun b3 => ?_
      refine xreb 0 ((List.map ew ((Arr.rep 4 (0 : UInt64))).l).flatten) rfl rfl ?_
      refine xstoreP 0 [] ((List.map ew ((Arr.rep 4 (0 : UInt64))).l).flatten) [] (by first | rfl | exact (List.append_nil _).symm | exact List.append_nil _ | exact List.append_assoc _ _ _ | exact (List.append_assoc _ _ _).symm | exact congrArg _ (List.append_nil _).symm | exact congrArg _ (List.append_nil _) | (simp; done) | (simp [cellsS]; done)) (by first | rfl | exact seg_lenE (by rfl) | exact len_app rfl (seg_lenE (by rfl)) (by rfl) | exact len_app (seg_lenE (by rfl)) rfl (by rfl) | exact len_app rfl (len_app (seg_lenE (by rfl)) rfl (by rfl)) (by rfl) | (simp only [seg_len, cellsS, List.length_append, List.length_cons, List.length_nil]; done) | (simp only [seg_len, cellsS, List.length_append, List.length_cons, List.length_nil]; rfl)) (by first | rfl | exact seg_lenE (by rfl) | exact len_app rfl (seg_lenE (by rfl)) (by rfl) | exact len_app (seg_lenE (by rfl)) rfl (by rfl) | exact len_app rfl (len_app (seg_lenE (by rfl)) rfl (by rfl)) (by rfl) | (simp only [seg_len, cellsS, List.length_append, List.length_cons, List.length_nil]; done) | (simp only [seg_len, cellsS, List.length_append, List.length_cons, List.length_nil]; rfl)) ShpC.h rfl rfl rfl rfl (by first | rfl | exact seg_lenE (by rfl) | exact len_app rfl (seg_lenE (by rfl)) (by rfl) | exact len_app (seg_lenE (by rfl)) rfl (by rfl) | exact len_app rfl (len_app (seg_lenE (by rfl)) rfl (by rfl)) (by rfl) | (simp only [seg_len, cellsS, List.length_append, List.length_cons, List.length_nil]; done) | (simp only [seg_len, cellsS, List.length_append, List.length_cons, List.length_nil]; rfl)) rfl ?_
      refine xreb 0 ((List.map ew y47.1.l).flatten) rfl (by first | rfl | exact (List.append_nil _).symm | exact List.append_nil _ | exact List.append_assoc _ _ _ | exact (List.append_assoc _ _ _).symm | exact congrArg _ (List.append_nil _).symm | exact congrArg _ (List.append_nil _) | (simp; done) | (simp [cellsS]; done)) ?_
      refine xvalP (pv_assign rfl) rfl rfl ?_
      refine xvalP (pv_assign rfl) rfl rfl ?_
      refine xnil ?_
      refine xthen ?_
      refine xseq ?_
      refine xregion ?_
      refine xbuildSliceM (f := eb) [(94 : UInt8)] UndC.h InfC.h rfl rfl (by first | exact wkR_of rfl | (repeat (first | exact WkR.nil | refine WkR.cons (by (repeat (first | exact WkL.nil | refine WkL.cons (by first | with_reducible exact Wk.refl _ | exact Wk.nil_own _ | exact Wk.nil_pl _ | with_reducible exact Wk.tok _ _ _ | exact Wk.tok _ _ _ | exact Wk.eq (by first | rfl | (simp []; done) | (simp []; omega))) ?_))) ?_))) rfl rfl rfl rfl fun s32 => ?_
      refine xvalP (pv_move rfl) rfl rfl ?_
      obtain ⟨h48, h⟩ := h
      refine xappendM (l := [(94 : UInt8)]) (l2 := x1) 0 h48 UndC.h InfC.h rfl rfl rfl (.refl _) rfl rfl rfl fun i49 => ?_
      obtain ⟨y51, h50, h⟩ := h
      refine xcallF (Fb := [⟨b3, 26, ((List.map ew y47.1.l).flatten)⟩]) (Ft := [⟨i49, 5, 1, (([(94 : UInt8)] ++ x1)).length⟩]) (brack_Parse_con ([(94 : UInt8)] ++ x1) 0 _ h50) Try.func7 (by kernel_rfl) rfl (.cons rfl (.tok _ _ _) (.cons rfl (.refl _) .nil)) (by exact (SubM.of (by repeat (first | with_reducible exact SubB.refl _ | exact SubB.nil _ | refine SubB.keep rfl rfl (by first | with_reducible exact WkL.refl _ | ((repeat (first | exact WkL.nil | refine WkL.cons (by first | with_reducible exact Wk.refl _ | exact Wk.nil_own _ | exact Wk.nil_pl _ | with_reducible exact Wk.tok _ _ _ | exact Wk.tok _ _ _ | exact Wk.eq (by first | rfl | (simp []; done) | (simp []; omega))) ?_)); done) | exact WkL.refl _) ?_ | refine SubB.drop ?_)) (by repeat (first | exact SubT.nil _ | refine SubT.add ?_ | (refine SubT.keep ?_ ?_; focus (first | with_reducible rfl | (simp []; done))) | refine SubT.drop ?_)))) rfl rfl ?_
      rintro _ _ _ ⟨rfl, rfl, rfl⟩
      simp only [List.nil_append, List.cons_append]
      refine xvalP (pv_move rfl) rfl rfl ?_
      refine xvalP (pv_extract rfl rfl) rfl rfl ?_
      refine xvalP (pv_extract rfl rfl) rfl rfl ?_
      refine xvalP (pv_extract rfl rfl) rfl rfl ?_
      refine xalloc InfC.h rfl rfl fun b6 => ?_
      refine xreb 0 ((List.map ew ((Arr.rep 4 (0 : UInt64))).l).flatten) rfl rfl ?_
      refine xstoreP 0 [] ((List.map ew ((Arr.rep 4 (0 : UInt64))).l).flatten) [] (by first | rfl | exact (List.append_nil _).symm | exact List.append_nil _ | exact List.append_assoc _ _ _ | exact (List.append_assoc _ _ _).symm | exact congrArg _ (List.append_nil _).symm | exact congrArg _ (List.append_nil _) | (simp; done) | (simp [cellsS]; done)) (by first | rfl | exact seg_lenE (by rfl) | exact len_app rfl (seg_lenE (by rfl)) (by rfl) | exact len_app (seg_lenE (by rfl)) rfl (by rfl) | exact len_app rfl (len_app (seg_lenE (by rfl)) rfl (by rfl)) (by rfl) | (simp only [seg_len, cellsS, List.length_append, List.length_cons, List.length_nil]; done) | (simp only [seg_len, cellsS, List.length_append, List.length_cons, List.length_nil]; rfl)) (by first | rfl | exact seg_lenE (by rfl) | exact len_app rfl (seg_lenE (by rfl)) (by rfl) | exact len_app (seg_lenE (by rfl)) rfl (by rfl) | exact len_app rfl (len_app (seg_lenE (by rfl)) rfl (by rfl)) (by rfl) | (simp only [seg_len, cellsS, List.length_append, List.length_cons, List.length_nil]; done) | (simp only [seg_len, cellsS, List.length_append, List.length_cons, List.length_nil]; rfl)) ShpC.h rfl rfl rfl rfl (by first | rfl | exact seg_lenE (by rfl) | exact len_app rfl (seg_lenE (by rfl)) (by rfl) | exact len_app (seg_lenE (by rfl)) rfl (by rfl) | exact len_app rfl (len_app (seg_lenE (by rfl)) rfl (by rfl)) (by rfl) | (simp only [seg_len, cellsS, List.length_append, List.length_cons, List.length_nil]; done) | (simp only [seg_len, cellsS, List.length_append, List.length_cons, List.length_nil]; rfl)) rfl ?_
      refine xreb 0 ((List.map ew y51.1.l).flatten) rfl (by first | rfl | exact (List.append_nil _).symm | exact List.append_nil _ | exact List.append_assoc _ _ _ | exact (List.append_assoc _ _ _).symm | exact congrArg _ (List.append_nil _).symm | exact congrArg _ (List.append_nil _) | (simp; done) | (simp [cellsS]; done)) ?_
      refine xvalP (pv_assign rfl) rfl rfl ?_
      refine xvalP (pv_assign rfl) rfl rfl ?_
      refine xnil ?_
      refine xthen ?_
      refine xseq ?_
      refine xseq ?_
      refine xregion ?_
      refine xvalP (pv_move rfl) rfl rfl ?_
      refine xvalP (pv_move rfl) rfl rfl ?_
      refine xvalP (pv_bin2 rfl rfl rfl) rfl rfl ?_
      refine xnil ?_
      refine xthen ?_
      by_cases hp55 : ¬ (y47.2.2 = y51.2.2)
      · replace h := h.1 hp55
        refine xcondT' (not_t (decide_eq_false hp55)) rfl ?_
        refine xseq ?_
        refine xregion ?_
        refine xvalP (pv_assign rfl) rfl rfl ?_
        refine xnil ?_
        refine xthen ?_
        refine xretc ?_
        refine xthen_ret ?_
        replace h := h.symm
        subst h
        exact xret1 hg rfl rfl (.refl _) (SubM.of (.nil _) (.nil _)) ⟨rfl, rfl, rfl⟩
      · replace h := h.2 hp55
        refine xcondF' (not_f (decide_eq_true (Decidable.of_not_not hp55))) rfl ?_
        refine xskipc ?_
        refine xthen ?_
        refine xseq ?_
        refine xseq ?_
        refine xregion ?_
        refine xvalP (pv_move rfl) rfl rfl ?_
        refine xvalP (pv_bin2 rfl rfl rfl) rfl rfl ?_
        refine xnil ?_
        refine xthen ?_
        by_cases hp71 : ¬ (y47.2.2 = 0)
        · replace h := h.1 hp71
          refine xcondT' (not_t (decide_eq_false hp71)) rfl ?_
          refine xseq ?_
          refine xregion ?_
          refine xvalP (pv_move rfl) rfl rfl ?_
          refine xvalP (pv_bin2 rfl rfl rfl) rfl rfl ?_
          refine xvalP (pv_move rfl) rfl rfl ?_
          by_cases hp79 : y47.2.1 = 0
          · replace h := h.1 hp79
            refine xsetB 46 (decide_eq_true hp79) rfl ?_
            refine xvalP (pv_move rfl) rfl rfl ?_
            refine xvalP (pv_bin2 rfl rfl rfl) rfl rfl ?_
            refine xvalP (pv_pick rfl rfl) rfl rfl ?_
            refine xvalP (pv_move rfl) rfl rfl ?_
            by_cases hp81 : y51.2.1 = 0
            · replace h := h.1 hp81
              refine xsetB 50 (decide_eq_true hp81) rfl ?_
              obtain ⟨y83, h82, h⟩ := h
              refine xcall0 (palinodelaw07_awake_con _ h82) Try.func6 (by kernel_rfl) rfl .nil rfl rfl ?_
              refine xvalP (pv_pick rfl rfl) rfl rfl ?_
              refine xvalP (pv_assign rfl) rfl rfl ?_
              refine xnil ?_
              refine xthen ?_
              refine xretc ?_
              refine xthen_ret ?_
              replace h := h.symm
              subst h
              exact xret1 hg rfl rfl (.refl _) (SubM.of (.nil _) (.nil _)) ⟨rfl, rfl, rfl⟩
            · replace h := h.2 hp81
              refine xsetB 50 (decide_eq_false hp81) rfl ?_
              refine xskip rfl rfl ?_
              refine xvalP (pv_pick rfl rfl) rfl rfl ?_
              refine xvalP (pv_assign rfl) rfl rfl ?_
              refine xnil ?_
              refine xthen ?_
              refine xretc ?_
              refine xthen_ret ?_
              replace h := h.symm
              subst h
              exact xret1 hg rfl rfl (.refl _) (SubM.of (.nil _) (.nil _)) ⟨rfl, rfl, rfl⟩
          · replace h := h.2 hp79
            refine xsetB 46 (decide_eq_false hp79) rfl ?_
            refine xskip rfl rfl ?_
            refine xskip rfl rfl ?_
            refine xvalP (pv_pick rfl rfl) rfl rfl ?_
            refine xvalP (pv_move rfl) rfl rfl ?_
            refine xskip rfl rfl ?_
            refine xvalP (pv_pick rfl rfl) rfl rfl ?_
            refine xvalP (pv_assign rfl) rfl rfl ?_
            refine xnil ?_
            refine xthen ?_
            refine xretc ?_
            refine xthen_ret ?_
            replace h := h.symm
            subst h
            exact xret1 hg rfl rfl (.refl _) (SubM.of (.nil _) (.nil _)) ⟨rfl, rfl, rfl⟩
        · replace h := h.2 hp71
          refine xcondF' (not_f (decide_eq_true (Decidable.of_not_not hp71))) rfl ?_
          refine xskipc ?_
          refine xthen ?_
          refine xseq ?_
          refine xseq ?_
          refine xregion ?_
          refine xvalP (pv_assign rfl) rfl rfl ?_
          refine xnil ?_
          refine xthen ?_
          refine xblock ?_
          obtain ⟨Inv, ⟨m0, hI⟩, hS⟩ := h
          refine xloop (fun σ m => ∃ (x225 : Int), Inv x225 m ∧ σ = ⟨[(3, .v (.pointer (some ⟨b3, 0, none⟩))), (4, .v (.int .i64 y47.2.1)), (6, .v (.pointer (some ⟨b6, 0, none⟩))), (7, .v (.int .i64 y51.2.1)), (9, .v (.int .i64 x225))], [⟨b6, 26, ((List.map ew y51.1.l).flatten)⟩, ⟨b3, 26, ((List.map ew y47.1.l).flatten)⟩], []⟩) ⟨0, hI, rfl⟩ ⟨(.cons rfl (.refl _) (.cons rfl (.refl _) (.cons rfl (.refl _) (.cons rfl (.refl _) (.cons rfl (.refl _) (.nil _)))))), (SubM.of (.keep rfl rfl (.refl _) (.keep rfl rfl (.refl _) (.nil _))) (.nil _))⟩ ?_
          rintro _ m ⟨x225, hI, rfl⟩
          obtain ⟨ag2, hag2, h⟩ : ∃ ag, (∀ s', ag s' → ∃ m', m' < m ∧ Inv s' m') ∧ palinodelaw07_BrackNot_l2 y47 y51 ag x225 r := ⟨_, fun _ h => h, hS x225 _ hI⟩
          clear hS hI
          refine xseq ?_
          refine xseq ?_
          refine xregion ?_
          refine xvalP (pv_move rfl) rfl rfl ?_
          refine xvalP (pv_bin2 rfl rfl rfl) rfl rfl ?_
          refine xnil ?_
          refine xthen ?_
          by_cases hp264 : x225 < 4
          · replace h := h.1 hp264
            refine xcondT' (decide_eq_true hp264) rfl ?_
            refine xskipc ?_
            refine xthen ?_
            refine xseq ?_
            refine xblock ?_
            refine xseq ?_
            refine xregionD (m := 8) (by kernel_rfl) rfl ?_
            obtain ⟨h287, h⟩ := h
            obtain ⟨y288, h287b, h⟩ := h
            obtain ⟨h289, h⟩ := h
            obtain ⟨y290, h289b, h⟩ := h
            obtain ⟨c292, h291, h⟩ := h
            refine xpval 0 rfl (pv_move rfl) rfl rfl (by kernel_rfl) (by kernel_rfl) (by kernel_rfl) (fun _ _ _ _ h => h) ?_
            refine xpval 1 rfl (pv_indexAddrBA h287 UndC.h ShpC.h rfl rfl) rfl rfl (by kernel_rfl) (by kernel_rfl) (by kernel_rfl) (fun _ _ _ _ h => h) ?_
            refine xpval 3 rfl (pv_move rfl) rfl rfl (by kernel_rfl) (by kernel_rfl) (by kernel_rfl) (fun _ _ _ _ h => h) ?_
            refine xpval 4 rfl (pv_indexAddrBA h289 UndC.h ShpC.h rfl rfl) rfl rfl (by kernel_rfl) (by kernel_rfl) (by kernel_rfl) (fun _ _ _ _ h => h) ?_
            refine xpvalE 2 [5] rfl (qv_loadA (f := ew) (a := y47.1) (k := 1) (off := 0) (i := (x225 : Int).toNat) 1 [] [] h287b (by first | rfl | exact (List.append_nil _).symm | exact List.append_nil _ | exact List.append_assoc _ _ _ | exact (List.append_assoc _ _ _).symm | exact congrArg _ (List.append_nil _).symm | exact congrArg _ (List.append_nil _) | (simp; done) | (simp [cellsS]; done)) (by first | rfl | omega | (simp only [List.length_cons, List.length_nil]; omega) | (simp only [seg_len, List.length_append, List.length_cons, List.length_nil]; omega)) (by decide) rfl ShpC.h rfl rfl) rfl rfl (by kernel_rfl) (by kernel_rfl) (by kernel_rfl) (fun _ _ _ _ h => h) ?_
            refine xpvalE 5 [] rfl (qv_loadA (f := ew) (a := y51.1) (k := 1) (off := 0) (i := (x225 : Int).toNat) 0 [] [] h289b (by first | rfl | exact (List.append_nil _).symm | exact List.append_nil _ | exact List.append_assoc _ _ _ | exact (List.append_assoc _ _ _).symm | exact congrArg _ (List.append_nil _).symm | exact congrArg _ (List.append_nil _) | (simp; done) | (simp [cellsS]; done)) (by first | rfl | omega | (simp only [List.length_cons, List.length_nil]; omega) | (simp only [seg_len, List.length_append, List.length_cons, List.length_nil]; omega)) (by decide) rfl ShpC.h rfl rfl) rfl rfl (by kernel_rfl) (by kernel_rfl) (by kernel_rfl) (fun _ _ _ _ h => h) ?_
            refine xpval 6 rfl (pv_wr h291 rfl rfl rfl) rfl rfl (by kernel_rfl) (by kernel_rfl) (by kernel_rfl) (fun _ _ _ _ h => h) ?_
            refine xpval 7 rfl (pv_bin2 rfl rfl rfl) rfl rfl (by kernel_rfl) (by kernel_rfl) (by kernel_rfl) (fun _ _ _ _ h => h) ?_
            refine xpdone (by kernel_rfl) ?_
            refine xthen ?_
            by_cases hp294 : ¬ ((c292.toNat : Int) = 18446744073709551615)
            · replace h := h.1 hp294
              refine xcondT' (not_t (decide_eq_false hp294)) rfl ?_
              refine xseq ?_
              refine xregion ?_
              refine xvalP (pv_assign rfl) rfl rfl ?_
              refine xnil ?_
              refine xthen ?_
              refine xretc ?_
              refine xin_ret ?_
              refine xthen_ret ?_
              refine xthen_ret ?_
              refine xin_ret ?_
              refine xthen_ret ?_
              replace h := h.symm
              subst h
              exact xret1 hg rfl rfl (.refl _) (SubM.of (.nil _) (.nil _)) ⟨rfl, rfl, rfl⟩
            · replace h := h.2 hp294
              refine xcondF' (not_f (decide_eq_true (Decidable.of_not_not hp294))) rfl ?_
              refine xskipc ?_
              refine xin_normal ?_
              refine xthen ?_
              refine xregion ?_
              refine xvalP (pv_move rfl) rfl rfl ?_
              obtain ⟨h295, h⟩ := h
              refine xvalP (pv_addI h295 rfl rfl) rfl rfl ?_
              refine xvalP (pv_assign rfl) rfl rfl ?_
              refine xnil ?_
              obtain ⟨m', hm, hI⟩ := hag2 _ h
              exact xagain ⟨(x225 + 1), hI, rfl⟩ hm ⟨(.cons rfl (.refl _) (.cons rfl (.refl _) (.cons rfl (.refl _) (.cons rfl (.refl _) (.cons rfl (.refl _) (.nil _)))))), (SubM.of (.keep rfl rfl (.refl _) (.keep rfl rfl (.refl _) (.nil _))) (.nil _))⟩
          · replace h := h.2 hp264
            refine xcondF' (decide_eq_false hp264) rfl ?_
            refine xexit ?_
            refine xthen_exit ?_
            refine xthen_exit ?_
            refine xin_same rfl ?_
            refine xthen ?_
            refine xseq ?_
            refine xregion ?_
            refine xvalP (pv_move rfl) rfl rfl ?_
            refine xvalP (pv_move rfl) rfl rfl ?_
            obtain ⟨h301, h⟩ := h
            refine xvalP (pv_addI h301 rfl rfl) rfl rfl ?_
            refine xvalP (pv_bin2 rfl rfl rfl) rfl rfl ?_
            refine xvalP (pv_move rfl) rfl rfl ?_
            by_cases hp303 : y51.2.1 = (y47.2.1 + 1)
            · replace h := h.1 hp303
              refine xsetB 69 (decide_eq_true hp303) rfl ?_
              obtain ⟨y305, h304, h⟩ := h
              refine xcall0 (palinodelaw07_awake_con _ h304) Try.func6 (by kernel_rfl) rfl .nil rfl rfl ?_
              refine xvalP (pv_pick rfl rfl) rfl rfl ?_
              refine xvalP (pv_assign rfl) rfl rfl ?_
              refine xnil ?_
              refine xthen ?_
              refine xretc ?_
              replace h := h.symm
              subst h
              exact xret1 hg rfl rfl (.refl _) (SubM.of (.nil _) (.nil _)) ⟨rfl, rfl, rfl⟩
            · replace h := h.2 hp303
              refine xsetB 69 (decide_eq_false hp303) rfl ?_
              refine xskip rfl rfl ?_
              refine xvalP (pv_pick rfl rfl) rfl rfl ?_
              refine xvalP (pv_assign rfl) rfl rfl ?_
              refine xnil ?_
              refine xthen ?_
              refine xretc ?_
              replace h := h.symm
              subst h
              exact xret1 hg rfl rfl (.refl _) (SubM.of (.nil _) (.nil _)) ⟨rfl, rfl, rfl⟩
end Go.Proofs.Ytgplmognfmjllaa
