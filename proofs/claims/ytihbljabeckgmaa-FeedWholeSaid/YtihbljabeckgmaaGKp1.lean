/- What functions' texts ask for, and the walks that show it (printed by a program). -/
import Derived.Test.YtihbljabeckgmaaRng
namespace Go.Proofs.Ytihbljabeckgmaa
abbrev E_palinode_api_File (x : ByteArray × (List UInt8)) : List Sd := [.v (.string x.1), .sl 1 none (List.map eb x.2)]
instance : EncLen E_palinode_api_File 2 := ⟨fun _ => (by first | rfl | exact seg_lenE (by rfl) | exact len_app rfl (seg_lenE (by rfl)) (by rfl) | exact len_app (seg_lenE (by rfl)) rfl (by rfl) | exact len_app rfl (len_app (seg_lenE (by rfl)) rfl (by rfl)) (by rfl) | (simp only [seg_len, cellsS, List.length_append, List.length_cons, List.length_nil]; done) | (simp only [seg_len, cellsS, List.length_append, List.length_cons, List.length_nil]; rfl))⟩
abbrev E_palinode_api_Line (x : (List UInt8) × Bool) : List Sd := [.sl 1 none (List.map eb x.1), .v (.bool x.2)]
instance : EncLen E_palinode_api_Line 2 := ⟨fun _ => (by first | rfl | exact seg_lenE (by rfl) | exact len_app rfl (seg_lenE (by rfl)) (by rfl) | exact len_app (seg_lenE (by rfl)) rfl (by rfl) | exact len_app rfl (len_app (seg_lenE (by rfl)) rfl (by rfl)) (by rfl) | (simp only [seg_len, cellsS, List.length_append, List.length_cons, List.length_nil]; done) | (simp only [seg_len, cellsS, List.length_append, List.length_cons, List.length_nil]; rfl))⟩
/-- palinoderef18.Great -/
def palinoderef18_Great_l1 (files1 : List (ByteArray × (List UInt8))) (ag1 : (Int × Int) → Prop) (nv155 : Int) (iv156 : Int) (r : Bool) : Prop :=
  ((iv156 < (files1.length : Int) → 0 ≤ (iv156 : Int) ∧ ∃ y207 : ByteArray × (List UInt8), files1[(iv156 : Int).toNat]? = some y207 ∧ ∃ z211 : Int, z211 = IntKind.i64.wrap (nv155 + (y207.2.length : Int)) ∧ ((500 < z211 → r = true) ∧ (¬ (500 < z211) → ((z211 < 0 → r = true) ∧ (¬ (z211 < 0) → ∃ z220 : Int, z220 = IntKind.i64.wrap (iv156 + 1) ∧ ag1 (z211, z220)))))) ∧ (¬ (iv156 < (files1.length : Int)) → r = false))
def palinoderef18_Great_R (files1 : List (ByteArray × (List UInt8))) (o2 : Bool × Bool × Bool × Bool × (List ByteArray)) (r : Bool) : Prop :=
  ((20 < (files1.length : Int) → r = true) ∧ (¬ (20 < (files1.length : Int)) → ((20 < (o2.2.2.2.2.length : Int) → r = true) ∧ (¬ (20 < (o2.2.2.2.2.length : Int)) → LoopR (fun ag1 s => palinoderef18_Great_l1 files1 ag1 s.1 s.2 r) (0, 0)))))
def palinoderef18_Great_l1_ev (fuel : Nat) (files1 : List (ByteArray × (List UInt8))) (ag1e : (Int × Int) → Option (Bool)) (nv155 : Int) (iv156 : Int) : Option (Bool) :=
  (if iv156 < (files1.length : Int) then (if 0 ≤ (iv156 : Int) then ((files1[(iv156 : Int).toNat]?).bind fun y207 => ((some (IntKind.i64.wrap (nv155 + (y207.2.length : Int)) : Int)).bind fun z211 => (if 500 < z211 then some true else (if z211 < 0 then some true else ((some (IntKind.i64.wrap (iv156 + 1) : Int)).bind fun z220 => ag1e (z211, z220)))))) else none) else some false)
theorem palinoderef18_Great_l1_ok {fuel : Nat} {files1 : List (ByteArray × (List UInt8))} {ag1e : (Int × Int) → Option (Bool)} {ag1 : (Int × Int) → Prop} {nv155 : Int} {iv156 : Int} {r : Bool} (hagag1 : ∀ s, ag1e s = some r → ag1 s) (h : palinoderef18_Great_l1_ev fuel files1 ag1e nv155 iv156 = some r) : palinoderef18_Great_l1 files1 ag1 nv155 iv156 r := by
  unfold palinoderef18_Great_l1_ev at h
  unfold palinoderef18_Great_l1
  refine ⟨fun g1 => ?_, fun g1 => ?_⟩
  · rw [if_pos g1] at h
    obtain ⟨g2, h⟩ := if_ok h
    refine ⟨g2, ?_⟩
    obtain ⟨q3, g3, h⟩ := bind_ok h
    refine ⟨q3, g3, ?_⟩
    obtain ⟨q4, g4, h⟩ := bind_ok h
    refine ⟨q4, (Option.some.inj g4).symm, ?_⟩
    refine ⟨fun g5 => ?_, fun g5 => ?_⟩
    · rw [if_pos g5] at h
      exact (Option.some.inj h).symm
    · rw [if_neg g5] at h
      refine ⟨fun g6 => ?_, fun g6 => ?_⟩
      · rw [if_pos g6] at h
        exact (Option.some.inj h).symm
      · rw [if_neg g6] at h
        obtain ⟨q7, g7, h⟩ := bind_ok h
        refine ⟨q7, (Option.some.inj g7).symm, ?_⟩
        exact hagag1 _ h
  · rw [if_neg g1] at h
    exact (Option.some.inj h).symm
def palinoderef18_Great_ev (fuel : Nat) (files1 : List (ByteArray × (List UInt8))) (o2 : Bool × Bool × Bool × Bool × (List ByteArray)) : Option (Bool) :=
  (if 20 < (files1.length : Int) then some true else (if 20 < (o2.2.2.2.2.length : Int) then some true else (loopE (fun ag1e s => palinoderef18_Great_l1_ev fuel files1 ag1e s.1 s.2) fuel (0, 0))))
theorem palinoderef18_Great_ok {fuel : Nat} {files1 : List (ByteArray × (List UInt8))} {o2 : Bool × Bool × Bool × Bool × (List ByteArray)} {r : Bool} (h : palinoderef18_Great_ev fuel files1 o2 = some r) : palinoderef18_Great_R files1 o2 r := by
  unfold palinoderef18_Great_ev at h
  unfold palinoderef18_Great_R
  refine ⟨fun g8 => ?_, fun g8 => ?_⟩
  · rw [if_pos g8] at h
    exact (Option.some.inj h).symm
  · rw [if_neg g8] at h
    refine ⟨fun g9 => ?_, fun g9 => ?_⟩
    · rw [if_pos g9] at h
      exact (Option.some.inj h).symm
    · rw [if_neg g9] at h
      refine loopE_ok ?_ h
      intro ae ag s hag h
      exact palinoderef18_Great_l1_ok hag h
set_option maxHeartbeats 4000000 in
theorem palinoderef18_Great_con (files1 : List (ByteArray × (List UInt8))) (o2 : Bool × Bool × Bool × Bool × (List ByteArray)) (r : Bool) (h : palinoderef18_Great_R files1 o2 r) : Con Try.prog 8 [.sl 2 none (List.map E_palinode_api_File files1), .agg [.v (.bool o2.1), .v (.bool o2.2.1), .v (.bool o2.2.2.1), .v (.bool o2.2.2.2.1), .sl 1 none (List.map es o2.2.2.2.2)]] [] [] (Ret (.v (.bool r))) := by
  refine xenter Try.func8 rfl rfl fun g hg => ?_
  simp only [Try.ntmps8, slots]
  refine xseq ?_
  refine xregion ?_
  refine xbox rfl rfl rfl rfl fun b3 => ?_
  refine xvalP (pv_assign rfl) rfl rfl ?_
  refine xnil ?_
  refine xthen ?_
  refine xseq ?_
  refine xseq ?_
  refine xregion ?_
  refine xvalP (pv_move rfl) rfl rfl ?_
  refine xvalP (pv_lenM UndC.h rfl) rfl rfl ?_
  refine xvalP (pv_bin2 rfl rfl rfl) rfl rfl ?_
  refine xvalP (pv_move rfl) rfl rfl ?_
  by_cases hp21 : 20 < (files1.length : Int)
  · replace h := h.1 hp21
    refine xsetB 10 (decide_eq_true hp21) rfl ?_
    refine xskip rfl rfl ?_
    refine xskip rfl rfl ?_
    refine xskip rfl rfl ?_
    refine xskip rfl rfl ?_
    refine xvalP (pv_pick rfl rfl) rfl rfl ?_
    refine xnil ?_
    refine xthen ?_
    refine xcondT rfl ?_
    refine xseq ?_
    refine xregion ?_
    refine xvalP (pv_assign rfl) rfl rfl ?_
    refine xnil ?_
    refine xthen ?_
    refine xretc ?_
    refine xthen_ret ?_
    replace h := h.symm
    subst h
    exact xret1 hg rfl rfl (.refl _) (SubM.of (.nil _) (.nil _)) ⟨rfl, rfl, rfl⟩
  · replace h := h.2 hp21
    refine xsetB 10 (decide_eq_false hp21) rfl ?_
    refine xvalP (qv_fieldAddrB FldC.h rfl) rfl rfl ?_
    refine xval (qv_loadB 0 ShpC.h rfl rfl rfl rfl) rfl rfl ?_
    refine xvalP (pv_lenM UndC.h rfl) rfl rfl ?_
    refine xvalP (pv_bin2 rfl rfl rfl) rfl rfl ?_
    refine xvalP (pv_pick rfl rfl) rfl rfl ?_
    refine xnil ?_
    refine xthen ?_
    by_cases hp24 : 20 < (o2.2.2.2.2.length : Int)
    · replace h := h.1 hp24
      refine xcondT' (decide_eq_true hp24) rfl ?_
      refine xseq ?_
      refine xregion ?_
      refine xvalP (pv_assign rfl) rfl rfl ?_
      refine xnil ?_
      refine xthen ?_
      refine xretc ?_
      refine xthen_ret ?_
      replace h := h.symm
      subst h
      exact xret1 hg rfl rfl (.refl _) (SubM.of (.nil _) (.nil _)) ⟨rfl, rfl, rfl⟩
    · replace h := h.2 hp24
      refine xcondF' (decide_eq_false hp24) rfl ?_
      refine xskipc ?_
      refine xthen ?_
      refine xseq ?_
      refine xregion ?_
      refine xvalP (pv_assign rfl) rfl rfl ?_
      refine xnil ?_
      refine xthen ?_
      refine xseq ?_
      refine xseq ?_
      refine xregion ?_
      refine xvalP (pv_assign rfl) rfl rfl ?_
      refine xnil ?_
      refine xthen ?_
      refine xblock ?_
      obtain ⟨Inv, ⟨m0, hI⟩, hS⟩ := h
      refine xloop (fun σ m => ∃ (nv155 : Int), ∃ (iv156 : Int), Inv (nv155, iv156) m ∧ σ = ⟨[(0, .sl 2 none (List.map E_palinode_api_File files1)), (5, .v (.int .i64 nv155)), (6, .v (.int .i64 iv156))], [], []⟩) ⟨0, 0, hI, rfl⟩ ⟨(.cons rfl (.refl _) (.cons rfl (.refl _) (.cons rfl (.refl _) (.nil _)))), (SubM.of (.nil _) (.nil _))⟩ ?_
      rintro _ m ⟨nv155, iv156, hI, rfl⟩
      obtain ⟨ag1, hag1, h⟩ : ∃ ag, (∀ s', ag s' → ∃ m', m' < m ∧ Inv s' m') ∧ palinoderef18_Great_l1 files1 ag nv155 iv156 r := ⟨_, fun _ h => h, hS (nv155, iv156) _ hI⟩
      clear hS hI
      refine xseq ?_
      refine xseq ?_
      refine xregion ?_
      refine xvalP (pv_move rfl) rfl rfl ?_
      refine xvalP (pv_move rfl) rfl rfl ?_
      refine xvalP (pv_lenM UndC.h rfl) rfl rfl ?_
      refine xvalP (pv_bin2 rfl rfl rfl) rfl rfl ?_
      refine xnil ?_
      refine xthen ?_
      by_cases hp194 : iv156 < (files1.length : Int)
      · replace h := h.1 hp194
        refine xcondT' (decide_eq_true hp194) rfl ?_
        refine xskipc ?_
        refine xthen ?_
        refine xseq ?_
        refine xblock ?_
        refine xseq ?_
        refine xregion ?_
        refine xvalP (pv_move rfl) rfl rfl ?_
        refine xvalP (pv_move rfl) rfl rfl ?_
        refine xvalP (pv_move rfl) rfl rfl ?_
        obtain ⟨h208a, h⟩ := h
        obtain ⟨y207, h208b, h⟩ := h
        refine xvalP (pv_indexAddrM h208a h208b UndC.h ShpC.h rfl rfl) rfl rfl ?_
        refine xvalP (qv_fieldAddrE FldC.h rfl) rfl rfl ?_
        refine xval (qv_load ShpC.h rfl rfl rfl) rfl rfl ?_
        refine xvalP (pv_lenM UndC.h rfl) rfl rfl ?_
        obtain ⟨z211, h210, h⟩ := h
        refine xvalP (pv_wr h210 rfl rfl rfl) rfl rfl ?_
        refine xvalP (pv_assign rfl) rfl rfl ?_
        refine xnil ?_
        refine xthen ?_
        refine xseq ?_
        refine xregion ?_
        refine xvalP (pv_move rfl) rfl rfl ?_
        refine xvalP (pv_bin2 rfl rfl rfl) rfl rfl ?_
        refine xvalP (pv_move rfl) rfl rfl ?_
        by_cases hp216 : 500 < z211
        · replace h := h.1 hp216
          refine xsetB 32 (decide_eq_true hp216) rfl ?_
          refine xskip rfl rfl ?_
          refine xskip rfl rfl ?_
          refine xvalP (pv_pick rfl rfl) rfl rfl ?_
          refine xnil ?_
          refine xthen ?_
          refine xcondT rfl ?_
          refine xseq ?_
          refine xregion ?_
          refine xvalP (pv_assign rfl) rfl rfl ?_
          refine xnil ?_
          refine xthen ?_
          refine xretc ?_
          refine xin_ret ?_
          refine xthen_ret ?_
          refine xthen_ret ?_
          refine xin_ret ?_
          refine xthen_ret ?_
          replace h := h.symm
          subst h
          exact xret1 hg rfl rfl (.refl _) (SubM.of (.nil _) (.nil _)) ⟨rfl, rfl, rfl⟩
        · replace h := h.2 hp216
          refine xsetB 32 (decide_eq_false hp216) rfl ?_
          refine xvalP (pv_move rfl) rfl rfl ?_
          refine xvalP (pv_bin2 rfl rfl rfl) rfl rfl ?_
          refine xvalP (pv_pick rfl rfl) rfl rfl ?_
          refine xnil ?_
          refine xthen ?_
          by_cases hp218 : z211 < 0
          · replace h := h.1 hp218
            refine xcondT' (decide_eq_true hp218) rfl ?_
            refine xseq ?_
            refine xregion ?_
            refine xvalP (pv_assign rfl) rfl rfl ?_
            refine xnil ?_
            refine xthen ?_
            refine xretc ?_
            refine xin_ret ?_
            refine xthen_ret ?_
            refine xthen_ret ?_
            refine xin_ret ?_
            refine xthen_ret ?_
            replace h := h.symm
            subst h
            exact xret1 hg rfl rfl (.refl _) (SubM.of (.nil _) (.nil _)) ⟨rfl, rfl, rfl⟩
          · replace h := h.2 hp218
            refine xcondF' (decide_eq_false hp218) rfl ?_
            refine xskipc ?_
            refine xin_normal ?_
            refine xthen ?_
            refine xregion ?_
            refine xvalP (pv_move rfl) rfl rfl ?_
            obtain ⟨z220, h219, h⟩ := h
            refine xvalP (pv_wr h219 rfl rfl rfl) rfl rfl ?_
            refine xvalP (pv_assign rfl) rfl rfl ?_
            refine xnil ?_
            obtain ⟨m', hm, hI⟩ := hag1 _ h
            exact xagain ⟨z211, z220, hI, rfl⟩ hm ⟨(.cons rfl (.refl _) (.cons rfl (.refl _) (.cons rfl (.refl _) (.nil _)))), (SubM.of (.nil _) (.nil _))⟩
      · replace h := h.2 hp194
        refine xcondF' (decide_eq_false hp194) rfl ?_
        refine xexit ?_
        refine xthen_exit ?_
        refine xthen_exit ?_
        refine xin_same rfl ?_
        refine xthen ?_
        refine xseq ?_
        refine xregion ?_
        refine xvalP (pv_assign rfl) rfl rfl ?_
        refine xnil ?_
        refine xthen ?_
        refine xretc ?_
        replace h := h.symm
        subst h
        exact xret1 hg rfl rfl (.refl _) (SubM.of (.nil _) (.nil _)) ⟨rfl, rfl, rfl⟩
/-- feed.Lines -/
def feed_Lines_R (files1 : List (ByteArray × (List UInt8))) (o2 : Bool × Bool × Bool × Bool × (List ByteArray)) (r : (Bool × Bool × Bool × Bool × (List ByteArray)) × (List (ByteArray × (List UInt8)))) : Prop :=
  r = (o2, files1)
def feed_Lines_ev (fuel : Nat) (files1 : List (ByteArray × (List UInt8))) (o2 : Bool × Bool × Bool × Bool × (List ByteArray)) : Option ((Bool × Bool × Bool × Bool × (List ByteArray)) × (List (ByteArray × (List UInt8)))) :=
  some (o2, files1)
theorem feed_Lines_ok {fuel : Nat} {files1 : List (ByteArray × (List UInt8))} {o2 : Bool × Bool × Bool × Bool × (List ByteArray)} {r : (Bool × Bool × Bool × Bool × (List ByteArray)) × (List (ByteArray × (List UInt8)))} (h : feed_Lines_ev fuel files1 o2 = some r) : feed_Lines_R files1 o2 r := by
  unfold feed_Lines_ev at h
  unfold feed_Lines_R
  exact (Option.some.inj h).symm
set_option maxHeartbeats 4000000 in
theorem feed_Lines_con (files1 : List (ByteArray × (List UInt8))) (o2 : Bool × Bool × Bool × Bool × (List ByteArray)) (r : (Bool × Bool × Bool × Bool × (List ByteArray)) × (List (ByteArray × (List UInt8)))) (h : feed_Lines_R files1 o2 r) : Con Try.prog 12 [.sl 2 none (List.map E_palinode_api_File files1), .agg [.v (.bool o2.1), .v (.bool o2.2.1), .v (.bool o2.2.2.1), .v (.bool o2.2.2.2.1), .sl 1 none (List.map es o2.2.2.2.2)]] [] [] (fun rr bx tk => ∃ b3 : Nat, ∃ b2 : Nat, rr = .v (.func (.func 21) #[] #[.pointer (some ⟨b2, 0, none⟩), .pointer (some ⟨b3, 0, none⟩)]) ∧ bx = [⟨b3, 25, [.v (.bool r.1.1), .v (.bool r.1.2.1), .v (.bool r.1.2.2.1), .v (.bool r.1.2.2.2.1), .sl 1 none (List.map es r.1.2.2.2.2)]⟩, ⟨b2, 22, [.sl 2 none (List.map E_palinode_api_File r.2)]⟩] ∧ tk = []) := by
  refine xenter Try.func12 rfl rfl fun g hg => ?_
  simp only [Try.ntmps12, slots]
  refine xseq ?_
  refine xregion ?_
  refine xbox rfl rfl rfl rfl fun b2 => ?_
  refine xbox rfl rfl rfl rfl fun b3 => ?_
  refine xvalP (pv_assign rfl) rfl rfl ?_
  refine xnil ?_
  refine xthen ?_
  refine xseq ?_
  refine xregion ?_
  refine xvalP (pv_makeFuncC rfl) rfl rfl ?_
  refine xvalP (pv_assign rfl) rfl rfl ?_
  refine xnil ?_
  refine xthen ?_
  refine xretc ?_
  replace h := h.symm
  subst h
  exact xret1 hg rfl rfl (.refl _) (SubM.of (.keep rfl rfl (.refl _) (.keep rfl rfl (.refl _) (.nil _))) (.nil _)) ⟨b3, b2, rfl, rfl, rfl⟩
/-- palinodelaw18.awake -/
def palinodelaw18_awake_y1_R (o10001 : Bool) (o10002 : List Int) (x10004 : Int) (x10005 : (List UInt8) × Bool) (r : Bool × Bool × (List Int)) : Prop :=
  ((¬ ((x10005.1.length : Int) = 1) → r = (false, false, o10002)) ∧ (¬ (¬ ((x10005.1.length : Int) = 1)) → Room (o10002.length + ([x10004]).length) 8 ∧ r = (true, o10001, (o10002 ++ [x10004]))))
def palinodelaw18_awake_y1_Y (yx0 : Nat) (yx1 : Nat) (L : Lp) : Prop := ∀ (o10001 : Bool) (o10002 : List Int) (x10004 : Int) (x10005 : (List UInt8) × Bool) (ia10003 : Option (Nat × Nat)) (r : Bool × Bool × (List Int)), palinodelaw18_awake_y1_R o10001 o10002 x10004 x10005 r → YCon Try.prog L [.v (.int .i64 x10004), .agg [.sl 1 none (List.map eb x10005.1), .v (.bool x10005.2)]] [⟨yx0, 4, [.v (.bool o10001)]⟩, ⟨yx1, 29, [.sl 1 (some ia10003) (List.map ei o10002)]⟩] [⟨ia10003, 3, 1, o10002.length⟩] (fun j bx tk => ∃ j1 : Option (Nat × Nat), j = jmp .ret r.1 ∧ bx = [⟨yx0, 4, [.v (.bool r.2.1)]⟩, ⟨yx1, 29, [.sl 1 (some j1) (List.map ei r.2.2)]⟩] ∧ tk = [⟨j1, 3, 1, r.2.2.length⟩])
def palinodelaw18_awake_y1_ev (fuel : Nat) (o10001 : Bool) (o10002 : List Int) (x10004 : Int) (x10005 : (List UInt8) × Bool) : Option (Bool × Bool × (List Int)) :=
  (if ¬ ((x10005.1.length : Int) = 1) then some (false, false, o10002) else (if Room (o10002.length + ([x10004]).length) 8 then some (true, o10001, (o10002 ++ [x10004])) else none))
theorem palinodelaw18_awake_y1_ok {fuel : Nat} {o10001 : Bool} {o10002 : List Int} {x10004 : Int} {x10005 : (List UInt8) × Bool} {r : Bool × Bool × (List Int)} (h : palinodelaw18_awake_y1_ev fuel o10001 o10002 x10004 x10005 = some r) : palinodelaw18_awake_y1_R o10001 o10002 x10004 x10005 r := by
  unfold palinodelaw18_awake_y1_ev at h
  unfold palinodelaw18_awake_y1_R
  refine ⟨fun g10 => ?_, fun g10 => ?_⟩
  · rw [if_pos g10] at h
    exact (Option.some.inj h).symm
  · rw [if_neg g10] at h
    obtain ⟨g11, h⟩ := if_ok h
    refine ⟨g11, ?_⟩
    exact (Option.some.inj h).symm
/-- feed.First -/
def feed_First_R (r : (Int × Int × Int × Int × (List UInt8))) : Prop :=
  r = (0, (-1), (-1), 0, ([] : List UInt8))
def feed_First_ev (fuel : Nat) : Option ((Int × Int × Int × Int × (List UInt8))) :=
  some (0, (-1), (-1), 0, ([] : List UInt8))
theorem feed_First_ok {fuel : Nat} {r : (Int × Int × Int × Int × (List UInt8))} (h : feed_First_ev fuel = some r) : feed_First_R r := by
  unfold feed_First_ev at h
  unfold feed_First_R
  exact (Option.some.inj h).symm
set_option maxHeartbeats 4000000 in
theorem feed_First_con (r : (Int × Int × Int × Int × (List UInt8))) (h : feed_First_R r) : Con Try.prog 14 [] [] [] (Ret (.agg [.v (.int .i64 r.1), .v (.int .i64 r.2.1), .v (.int .i64 r.2.2.1), .v (.int .i64 r.2.2.2.1), .sl 1 none (List.map eb r.2.2.2.2)])) := by
  refine xenter Try.func14 rfl rfl fun g hg => ?_
  simp only [Try.ntmps14, slots]
  refine xseq ?_
  refine xregion ?_
  refine xalloc InfC.h rfl rfl fun b0 => ?_
  refine xnil ?_
  refine xthen ?_
  refine xseq ?_
  refine xregion ?_
  refine xvalP (pv_buildC StrC.h rfl rfl) rfl rfl ?_
  refine xstore 0 ShpC.h rfl rfl rfl rfl rfl rfl rfl ?_
  refine xnil ?_
  refine xthen ?_
  refine xretc ?_
  replace h := h.symm
  subst h
  exact xretL (rs := [.cell 0 42]) (ss := [.agg [.v (.int .i64 0), .v (.int .i64 ((-1))), .v (.int .i64 ((-1))), .v (.int .i64 0), .sl 1 none (List.map eb (([] : List UInt8)))]]) hg rfl (by refine RetL.cell 0 ShpC.h rfl rfl rfl (Nat.le_of_ble_eq_true rfl) (.agg (.cons (.refl _) (.cons (.refl _) (.cons (.refl _) (.cons (.refl _) (.cons (.nil_pl _) .nil)))))) ?_; exact RetL.nil) (SubM.of (.nil _) (.nil _)) ⟨rfl, rfl, rfl⟩
/-- feed.left -/
def feed_left_R (inv1 : Int × Int × Int × Int × (List UInt8)) (o2 : Bool × Bool × Bool × Bool × (List ByteArray)) (r : (List ByteArray)) : Prop :=
  ((inv1.1 < 0 → r = ([] : List ByteArray)) ∧ (¬ (inv1.1 < 0) → (((o2.2.2.2.2.length : Int) < inv1.1 → r = ([] : List ByteArray)) ∧ (¬ ((o2.2.2.2.2.length : Int) < inv1.1) → (0 ≤ (inv1.1 : Int) ∧ (inv1.1 : Int) ≤ (o2.2.2.2.2.length : Int)) ∧ r = (o2.2.2.2.2.drop (inv1.1 : Int).toNat)))))
def feed_left_ev (fuel : Nat) (inv1 : Int × Int × Int × Int × (List UInt8)) (o2 : Bool × Bool × Bool × Bool × (List ByteArray)) : Option ((List ByteArray)) :=
  (if inv1.1 < 0 then some ([] : List ByteArray) else (if (o2.2.2.2.2.length : Int) < inv1.1 then some ([] : List ByteArray) else (if (0 ≤ (inv1.1 : Int) ∧ (inv1.1 : Int) ≤ (o2.2.2.2.2.length : Int)) then some (o2.2.2.2.2.drop (inv1.1 : Int).toNat) else none)))
theorem feed_left_ok {fuel : Nat} {inv1 : Int × Int × Int × Int × (List UInt8)} {o2 : Bool × Bool × Bool × Bool × (List ByteArray)} {r : (List ByteArray)} (h : feed_left_ev fuel inv1 o2 = some r) : feed_left_R inv1 o2 r := by
  unfold feed_left_ev at h
  unfold feed_left_R
  refine ⟨fun g12 => ?_, fun g12 => ?_⟩
  · rw [if_pos g12] at h
    exact (Option.some.inj h).symm
  · rw [if_neg g12] at h
    refine ⟨fun g13 => ?_, fun g13 => ?_⟩
    · rw [if_pos g13] at h
      exact (Option.some.inj h).symm
    · rw [if_neg g13] at h
      obtain ⟨g14, h⟩ := if_ok h
      refine ⟨g14, ?_⟩
      exact (Option.some.inj h).symm
set_option maxHeartbeats 4000000 in
theorem feed_left_con (inv1 : Int × Int × Int × Int × (List UInt8)) (o2 : Bool × Bool × Bool × Bool × (List ByteArray)) (r : (List ByteArray)) (h : feed_left_R inv1 o2 r) : Con Try.prog 23 [.agg [.v (.int .i64 inv1.1), .v (.int .i64 inv1.2.1), .v (.int .i64 inv1.2.2.1), .v (.int .i64 inv1.2.2.2.1), .sl 1 none (List.map eb inv1.2.2.2.2)], .agg [.v (.bool o2.1), .v (.bool o2.2.1), .v (.bool o2.2.2.1), .v (.bool o2.2.2.2.1), .sl 1 none (List.map es o2.2.2.2.2)]] [] [] (Ret (.sl 1 none (List.map es r))) := by
  refine xenter Try.func23 rfl rfl fun g hg => ?_
  simp only [Try.ntmps23, slots]
  refine xseq ?_
  refine xregion ?_
  refine xbox rfl rfl rfl rfl fun b2 => ?_
  refine xbox rfl rfl rfl rfl fun b3 => ?_
  refine xvalP (pv_assign rfl) rfl rfl ?_
  refine xnil ?_
  refine xthen ?_
  refine xseq ?_
  refine xseq ?_
  refine xregion ?_
  refine xvalP (qv_fieldAddrB FldC.h rfl) rfl rfl ?_
  refine xval (qv_loadB 1 ShpC.h rfl rfl rfl rfl) rfl rfl ?_
  refine xvalP (pv_bin2 rfl rfl rfl) rfl rfl ?_
  refine xvalP (pv_move rfl) rfl rfl ?_
  by_cases hp17 : inv1.1 < 0
  · replace h := h.1 hp17
    refine xsetB 8 (decide_eq_true hp17) rfl ?_
    refine xskip rfl rfl ?_
    refine xskip rfl rfl ?_
    refine xskip rfl rfl ?_
    refine xskip rfl rfl ?_
    refine xskip rfl rfl ?_
    refine xskip rfl rfl ?_
    refine xvalP (pv_pick rfl rfl) rfl rfl ?_
    refine xnil ?_
    refine xthen ?_
    refine xcondT rfl ?_
    refine xseq ?_
    refine xregion ?_
    refine xvalP (pv_assign rfl) rfl rfl ?_
    refine xnil ?_
    refine xthen ?_
    refine xretc ?_
    refine xthen_ret ?_
    replace h := h.symm
    subst h
    exact xret1 hg rfl rfl (.nil_pl _) (SubM.of (.nil _) (.nil _)) ⟨rfl, rfl, rfl⟩
  · replace h := h.2 hp17
    refine xsetB 8 (decide_eq_false hp17) rfl ?_
    refine xvalP (qv_fieldAddrB FldC.h rfl) rfl rfl ?_
    refine xval (qv_loadB 1 ShpC.h rfl rfl rfl rfl) rfl rfl ?_
    refine xvalP (qv_fieldAddrB FldC.h rfl) rfl rfl ?_
    refine xval (qv_loadB 0 ShpC.h rfl rfl rfl rfl) rfl rfl ?_
    refine xvalP (pv_lenM UndC.h rfl) rfl rfl ?_
    refine xvalP (pv_bin2 rfl rfl rfl) rfl rfl ?_
    refine xvalP (pv_pick rfl rfl) rfl rfl ?_
    refine xnil ?_
    refine xthen ?_
    by_cases hp20 : (o2.2.2.2.2.length : Int) < inv1.1
    · replace h := h.1 hp20
      refine xcondT' (decide_eq_true hp20) rfl ?_
      refine xseq ?_
      refine xregion ?_
      refine xvalP (pv_assign rfl) rfl rfl ?_
      refine xnil ?_
      refine xthen ?_
      refine xretc ?_
      refine xthen_ret ?_
      replace h := h.symm
      subst h
      exact xret1 hg rfl rfl (.nil_pl _) (SubM.of (.nil _) (.nil _)) ⟨rfl, rfl, rfl⟩
    · replace h := h.2 hp20
      refine xcondF' (decide_eq_false hp20) rfl ?_
      refine xskipc ?_
      refine xthen ?_
      refine xseq ?_
      refine xregion ?_
      refine xvalP (qv_fieldAddrB FldC.h rfl) rfl rfl ?_
      refine xval (qv_loadB 0 ShpC.h rfl rfl rfl rfl) rfl rfl ?_
      refine xvalP (qv_fieldAddrB FldC.h rfl) rfl rfl ?_
      refine xval (qv_loadB 1 ShpC.h rfl rfl rfl rfl) rfl rfl ?_
      obtain ⟨h21, h⟩ := h
      refine xvalP (pv_sliceLo h21 UndC.h ShpC.h rfl rfl) rfl rfl ?_
      refine xvalP (pv_assign rfl) rfl rfl ?_
      refine xnil ?_
      refine xthen ?_
      refine xretc ?_
      replace h := h.symm
      subst h
      exact xret1 hg rfl rfl (.refl _) (SubM.of (.nil _) (.nil _)) ⟨rfl, rfl, rfl⟩
/-- feed.get$1 -/
def feed_get_c1_R (o1 : ByteArray) (f2 : ByteArray × (List UInt8)) (r : Bool) : Prop :=
  r = (f2.1.toList == o1.toList)
def feed_get_c1_ev (fuel : Nat) (o1 : ByteArray) (f2 : ByteArray × (List UInt8)) : Option (Bool) :=
  some (f2.1.toList == o1.toList)
theorem feed_get_c1_ok {fuel : Nat} {o1 : ByteArray} {f2 : ByteArray × (List UInt8)} {r : Bool} (h : feed_get_c1_ev fuel o1 f2 = some r) : feed_get_c1_R o1 f2 r := by
  unfold feed_get_c1_ev at h
  unfold feed_get_c1_R
  exact (Option.some.inj h).symm
set_option maxHeartbeats 4000000 in
theorem feed_get_c1_con (o1 : ByteArray) (f2 : ByteArray × (List UInt8)) (bx0 : Nat) (r : Bool) (h : feed_get_c1_R o1 f2 r) : Con Try.prog 32 [.agg [.v (.string f2.1), .sl 1 none (List.map eb f2.2)], .v (.pointer (some ⟨bx0, 0, none⟩))] [⟨bx0, 9, [.v (.string o1)]⟩] [] (fun rr bx tk => rr = .v (.bool r) ∧ bx = [⟨bx0, 9, [.v (.string o1)]⟩] ∧ tk = []) := by
  refine xenter Try.func32 rfl rfl fun g hg => ?_
  simp only [Try.ntmps32, slots]
  refine xseq ?_
  refine xregion ?_
  refine xbox rfl rfl rfl rfl fun b2 => ?_
  refine xvalP (pv_assign rfl) rfl rfl ?_
  refine xnil ?_
  refine xthen ?_
  refine xseq ?_
  refine xregion ?_
  refine xvalP (qv_fieldAddrB FldC.h rfl) rfl rfl ?_
  refine xval (qv_loadB 0 ShpC.h rfl rfl rfl rfl) rfl rfl ?_
  refine xval (qv_loadB 1 ShpC.h rfl rfl rfl rfl) rfl rfl ?_
  refine xvalP (pv_bin2 rfl rfl rfl) rfl rfl ?_
  refine xvalP (pv_assign rfl) rfl rfl ?_
  refine xnil ?_
  refine xthen ?_
  refine xretc ?_
  replace h := h.symm
  subst h
  exact xret1 hg rfl rfl (.refl _) (SubM.of (.drop (.keep rfl rfl (.refl _) (.nil _))) (.nil _)) ⟨rfl, rfl, rfl⟩
/-- slices.IndexFunc [ []api.File,api.File] -/
def slices_IndexFunc_l1 (sv2 : List (ByteArray × (List UInt8))) (o1 : ByteArray) (ag1 : (Int) → Prop) (x62 : Int) (r : Int) : Prop :=
  ((x62 < (sv2.length : Int) → 0 ≤ (x62 : Int) ∧ ∃ y85 : ByteArray × (List UInt8), sv2[(x62 : Int).toNat]? = some y85 ∧ ∃ y88 : Bool, feed_get_c1_R o1 y85 y88 ∧ ((y88 = true → r = x62) ∧ (¬ (y88 = true) → InR (x62 + 1) ∧ ag1 (x62 + 1)))) ∧ (¬ (x62 < (sv2.length : Int)) → r = (-1)))
def slices_IndexFunc_R (o1 : ByteArray) (sv2 : List (ByteArray × (List UInt8))) (r : Int) : Prop :=
  LoopR (fun ag1 s => slices_IndexFunc_l1 sv2 o1 ag1 s r) 0
def slices_IndexFunc_l1_ev (fuel : Nat) (sv2 : List (ByteArray × (List UInt8))) (o1 : ByteArray) (ag1e : (Int) → Option (Int)) (x62 : Int) : Option (Int) :=
  (if x62 < (sv2.length : Int) then (if 0 ≤ (x62 : Int) then ((sv2[(x62 : Int).toNat]?).bind fun y85 => ((feed_get_c1_ev fuel o1 y85).bind fun y88 => (if y88 = true then some x62 else (if InR (x62 + 1) then ag1e (x62 + 1) else none)))) else none) else some (-1))
theorem slices_IndexFunc_l1_ok {fuel : Nat} {sv2 : List (ByteArray × (List UInt8))} {o1 : ByteArray} {ag1e : (Int) → Option (Int)} {ag1 : (Int) → Prop} {x62 : Int} {r : Int} (hagag1 : ∀ s, ag1e s = some r → ag1 s) (h : slices_IndexFunc_l1_ev fuel sv2 o1 ag1e x62 = some r) : slices_IndexFunc_l1 sv2 o1 ag1 x62 r := by
  unfold slices_IndexFunc_l1_ev at h
  unfold slices_IndexFunc_l1
  refine ⟨fun g15 => ?_, fun g15 => ?_⟩
  · rw [if_pos g15] at h
    obtain ⟨g16, h⟩ := if_ok h
    refine ⟨g16, ?_⟩
    obtain ⟨q17, g17, h⟩ := bind_ok h
    refine ⟨q17, g17, ?_⟩
    obtain ⟨q18, g18, h⟩ := bind_ok h
    refine ⟨q18, feed_get_c1_ok g18, ?_⟩
    refine ⟨fun g19 => ?_, fun g19 => ?_⟩
    · rw [if_pos g19] at h
      exact (Option.some.inj h).symm
    · rw [if_neg g19] at h
      obtain ⟨g20, h⟩ := if_ok h
      refine ⟨g20, ?_⟩
      exact hagag1 _ h
  · rw [if_neg g15] at h
    exact (Option.some.inj h).symm
def slices_IndexFunc_ev (fuel : Nat) (o1 : ByteArray) (sv2 : List (ByteArray × (List UInt8))) : Option (Int) :=
  (loopE (fun ag1e s => slices_IndexFunc_l1_ev fuel sv2 o1 ag1e s) fuel 0)
theorem slices_IndexFunc_ok {fuel : Nat} {o1 : ByteArray} {sv2 : List (ByteArray × (List UInt8))} {r : Int} (h : slices_IndexFunc_ev fuel o1 sv2 = some r) : slices_IndexFunc_R o1 sv2 r := by
  unfold slices_IndexFunc_ev at h
  unfold slices_IndexFunc_R
  refine loopE_ok ?_ h
  intro ae ag s hag h
  exact slices_IndexFunc_l1_ok hag h
set_option maxHeartbeats 4000000 in
theorem slices_IndexFunc_con (o1 : ByteArray) (sv2 : List (ByteArray × (List UInt8))) (bx0 : Nat) (r : Int) (h : slices_IndexFunc_R o1 sv2 r) : Con Try.prog 31 [.sl 2 none (List.map E_palinode_api_File sv2), .v (.func (.func 32) #[] #[.pointer (some ⟨bx0, 0, none⟩)])] [⟨bx0, 9, [.v (.string o1)]⟩] [] (fun rr bx tk => rr = .v (.int .i64 r) ∧ bx = [⟨bx0, 9, [.v (.string o1)]⟩] ∧ tk = []) := by
  refine xenter Try.func31 rfl rfl fun g hg => ?_
  simp only [Try.ntmps31, slots]
  refine xseq ?_
  refine xregion ?_
  refine xvalP (pv_assign rfl) rfl rfl ?_
  refine xnil ?_
  refine xthen ?_
  refine xseq ?_
  refine xseq ?_
  refine xregion ?_
  refine xvalP (pv_move rfl) rfl rfl ?_
  refine xvalP (pv_lenM UndC.h rfl) rfl rfl ?_
  refine xvalP (pv_move rfl) rfl rfl ?_
  refine xnil ?_
  refine xthen ?_
  refine xblock ?_
  obtain ⟨Inv, ⟨m0, hI⟩, hS⟩ := h
  refine xloop (fun σ m => ∃ (x62 : Int), Inv x62 m ∧ σ = ⟨[(0, .sl 2 none (List.map E_palinode_api_File sv2)), (1, .v (.func (.func 32) #[] #[.pointer (some ⟨bx0, 0, none⟩)])), (7, .v (.int .i64 ((sv2.length : Int)))), (8, .v (.int .i64 x62))], [⟨bx0, 9, [.v (.string o1)]⟩], []⟩) ⟨0, hI, rfl⟩ ⟨(.cons rfl (.refl _) (.cons rfl (.refl _) (.cons rfl (.refl _) (.cons rfl (.refl _) (.nil _))))), (SubM.of (.keep rfl rfl (.refl _) (.nil _)) (.nil _))⟩ ?_
  rintro _ m ⟨x62, hI, rfl⟩
  obtain ⟨ag1, hag1, h⟩ : ∃ ag, (∀ s', ag s' → ∃ m', m' < m ∧ Inv s' m') ∧ slices_IndexFunc_l1 sv2 o1 ag x62 r := ⟨_, fun _ h => h, hS x62 _ hI⟩
  clear hS hI
  refine xseq ?_
  refine xregion ?_
  refine xvalP (pv_bin2 rfl rfl rfl) rfl rfl ?_
  refine xnil ?_
  refine xthen ?_
  refine xseq ?_
  by_cases hp79 : x62 < (sv2.length : Int)
  · replace h := h.1 hp79
    refine xcondT' (decide_eq_true hp79) rfl ?_
    refine xskipc ?_
    refine xthen ?_
    refine xseq ?_
    refine xblock ?_
    refine xseq ?_
    refine xregion ?_
    refine xvalP (pv_move rfl) rfl rfl ?_
    refine xvalP (pv_assign rfl) rfl rfl ?_
    refine xnil ?_
    refine xthen ?_
    refine xseq ?_
    refine xregion ?_
    refine xvalP (pv_move rfl) rfl rfl ?_
    refine xvalP (pv_move rfl) rfl rfl ?_
    refine xvalP (pv_move rfl) rfl rfl ?_
    obtain ⟨h86a, h⟩ := h
    obtain ⟨y85, h86b, h⟩ := h
    refine xvalP (pv_indexAddrM h86a h86b UndC.h ShpC.h rfl rfl) rfl rfl ?_
    refine xval (qv_load ShpC.h rfl rfl rfl) rfl rfl ?_
    obtain ⟨y88, h87, h⟩ := h
    refine xcallV (sa := [.agg [.v (.string y85.1), .sl 1 none (List.map eb y85.2)]]) (Fb := []) (Ft := []) (feed_get_c1_con o1 y85 bx0 _ h87) Try.func32 (by kernel_rfl) rfl rfl (.cons rfl (.refl _) .nil) rfl (by exact (SubM.of (by repeat (first | with_reducible exact SubB.refl _ | exact SubB.nil _ | refine SubB.keep rfl rfl (by first | with_reducible exact WkL.refl _ | ((repeat (first | exact WkL.nil | refine WkL.cons (by first | with_reducible exact Wk.refl _ | exact Wk.nil_own _ | exact Wk.nil_pl _ | with_reducible exact Wk.tok _ _ _ | exact Wk.tok _ _ _ | exact Wk.eq (by first | rfl | (simp []; done) | (simp []; omega))) ?_)); done) | exact WkL.refl _) ?_ | refine SubB.drop ?_)) (by repeat (first | exact SubT.nil _ | refine SubT.add ?_ | (refine SubT.keep ?_ ?_; focus (first | with_reducible rfl | (simp []; done))) | refine SubT.drop ?_)))) rfl rfl ?_
    rintro _ _ _ ⟨rfl, rfl, rfl⟩
    simp only [List.nil_append, List.cons_append]
    refine xnil ?_
    refine xthen ?_
    by_cases hp89 : y88 = true
    · replace h := h.1 hp89
      refine xcondT' hp89 rfl ?_
      refine xseq ?_
      refine xregion ?_
      refine xvalP (pv_move rfl) rfl rfl ?_
      refine xvalP (pv_assign rfl) rfl rfl ?_
      refine xnil ?_
      refine xthen ?_
      refine xretc ?_
      refine xin_ret ?_
      refine xthen_ret ?_
      refine xthen_ret ?_
      refine xin_ret ?_
      refine xthen_ret ?_
      replace h := h.symm
      subst h
      exact xret1 hg rfl rfl (.refl _) (SubM.of (.keep rfl rfl (.refl _) (.nil _)) (.nil _)) ⟨rfl, rfl, rfl⟩
    · replace h := h.2 hp89
      refine xcondF' (b_f hp89) rfl ?_
      refine xskipc ?_
      refine xin_normal ?_
      refine xthen ?_
      refine xregion ?_
      obtain ⟨h90, h⟩ := h
      refine xvalP (pv_addI h90 rfl rfl) rfl rfl ?_
      refine xvalP (pv_move rfl) rfl rfl ?_
      refine xnil ?_
      obtain ⟨m', hm, hI⟩ := hag1 _ h
      exact xagain ⟨(x62 + 1), hI, rfl⟩ hm ⟨(.cons rfl (.refl _) (.cons rfl (.refl _) (.cons rfl (.refl _) (.cons rfl (.refl _) (.nil _))))), (SubM.of (.keep rfl rfl (.refl _) (.nil _)) (.nil _))⟩
  · replace h := h.2 hp79
    refine xcondF' (decide_eq_false hp79) rfl ?_
    refine xexit ?_
    refine xthen_exit ?_
    refine xthen_exit ?_
    refine xin_same rfl ?_
    refine xthen ?_
    refine xseq ?_
    refine xregion ?_
    refine xvalP (pv_assign rfl) rfl rfl ?_
    refine xnil ?_
    refine xthen ?_
    refine xretc ?_
    replace h := h.symm
    subst h
    exact xret1 hg rfl rfl (.refl _) (SubM.of (.keep rfl rfl (.refl _) (.nil _)) (.nil _)) ⟨rfl, rfl, rfl⟩
/-- feed.get -/
def feed_get_R (files1 : List (ByteArray × (List UInt8))) (name2 : ByteArray) (r : (List UInt8) × Bool) : Prop :=
  ∃ y4 : Int, slices_IndexFunc_R name2 files1 y4 ∧ ((y4 < 0 → r = (([] : List UInt8), false)) ∧ (¬ (y4 < 0) → 0 ≤ (y4 : Int) ∧ ∃ y9 : ByteArray × (List UInt8), files1[(y4 : Int).toNat]? = some y9 ∧ r = (y9.2, true)))
def feed_get_ev (fuel : Nat) (files1 : List (ByteArray × (List UInt8))) (name2 : ByteArray) : Option ((List UInt8) × Bool) :=
  ((slices_IndexFunc_ev fuel name2 files1).bind fun y4 => (if y4 < 0 then some (([] : List UInt8), false) else (if 0 ≤ (y4 : Int) then ((files1[(y4 : Int).toNat]?).bind fun y9 => some (y9.2, true)) else none)))
theorem feed_get_ok {fuel : Nat} {files1 : List (ByteArray × (List UInt8))} {name2 : ByteArray} {r : (List UInt8) × Bool} (h : feed_get_ev fuel files1 name2 = some r) : feed_get_R files1 name2 r := by
  unfold feed_get_ev at h
  unfold feed_get_R
  obtain ⟨q21, g21, h⟩ := bind_ok h
  refine ⟨q21, slices_IndexFunc_ok g21, ?_⟩
  refine ⟨fun g22 => ?_, fun g22 => ?_⟩
  · rw [if_pos g22] at h
    exact (Option.some.inj h).symm
  · rw [if_neg g22] at h
    obtain ⟨g23, h⟩ := if_ok h
    refine ⟨g23, ?_⟩
    obtain ⟨q24, g24, h⟩ := bind_ok h
    refine ⟨q24, g24, ?_⟩
    exact (Option.some.inj h).symm
set_option maxHeartbeats 4000000 in
theorem feed_get_con (files1 : List (ByteArray × (List UInt8))) (name2 : ByteArray) (r : (List UInt8) × Bool) (h : feed_get_R files1 name2 r) : Con Try.prog 24 [.sl 2 none (List.map E_palinode_api_File files1), .v (.string name2)] [] [] (fun rr bx tk => rr = .tup [.sl 1 none (List.map eb r.1), .v (.bool r.2)] ∧ bx = [] ∧ tk = []) := by
  refine xenter Try.func24 rfl rfl fun g hg => ?_
  simp only [Try.ntmps24, slots]
  refine xseq ?_
  refine xregion ?_
  refine xbox rfl rfl rfl rfl fun b3 => ?_
  refine xvalP (pv_assign rfl) rfl rfl ?_
  refine xvalP (pv_assign rfl) rfl rfl ?_
  refine xnil ?_
  refine xthen ?_
  refine xseq ?_
  refine xregion ?_
  refine xvalP (pv_move rfl) rfl rfl ?_
  refine xvalP (pv_makeFuncC rfl) rfl rfl ?_
  obtain ⟨y4, h3, h⟩ := h
  refine xcallF (Fb := []) (Ft := []) (slices_IndexFunc_con name2 files1 b3 _ h3) Try.func31 (by kernel_rfl) rfl (.cons rfl (.refl _) (.cons rfl (.refl _) .nil)) (by exact (SubM.of (by repeat (first | with_reducible exact SubB.refl _ | exact SubB.nil _ | refine SubB.keep rfl rfl (by first | with_reducible exact WkL.refl _ | ((repeat (first | exact WkL.nil | refine WkL.cons (by first | with_reducible exact Wk.refl _ | exact Wk.nil_own _ | exact Wk.nil_pl _ | with_reducible exact Wk.tok _ _ _ | exact Wk.tok _ _ _ | exact Wk.eq (by first | rfl | (simp []; done) | (simp []; omega))) ?_)); done) | exact WkL.refl _) ?_ | refine SubB.drop ?_)) (by repeat (first | exact SubT.nil _ | refine SubT.add ?_ | (refine SubT.keep ?_ ?_; focus (first | with_reducible rfl | (simp []; done))) | refine SubT.drop ?_)))) rfl rfl ?_
  rintro _ _ _ ⟨rfl, rfl, rfl⟩
  simp only [List.nil_append, List.cons_append]
  refine xvalP (pv_assign rfl) rfl rfl ?_
  refine xnil ?_
  refine xthen ?_
  refine xseq ?_
  refine xseq ?_
  refine xregion ?_
  refine xvalP (pv_move rfl) rfl rfl ?_
  refine xvalP (pv_bin2 rfl rfl rfl) rfl rfl ?_
  refine xnil ?_
  refine xthen ?_
  by_cases hp8 : y4 < 0
  · replace h := h.1 hp8
    refine xcondT' (decide_eq_true hp8) rfl ?_
    refine xseq ?_
    refine xregion ?_
    refine xvalP (pv_assign rfl) rfl rfl ?_
    refine xvalP (pv_assign rfl) rfl rfl ?_
    refine xnil ?_
    refine xthen ?_
    refine xretc ?_
    refine xthen_ret ?_
    replace h := h.symm
    subst h
    exact xret2 hg rfl rfl (.nil_pl _) rfl (.refl _) (SubM.of (.nil _) (.nil _)) ⟨rfl, rfl, rfl⟩
  · replace h := h.2 hp8
    refine xcondF' (decide_eq_false hp8) rfl ?_
    refine xskipc ?_
    refine xthen ?_
    refine xseq ?_
    refine xregion ?_
    refine xvalP (pv_move rfl) rfl rfl ?_
    refine xvalP (pv_move rfl) rfl rfl ?_
    obtain ⟨h10a, h⟩ := h
    obtain ⟨y9, h10b, h⟩ := h
    refine xvalP (pv_indexAddrM h10a h10b UndC.h ShpC.h rfl rfl) rfl rfl ?_
    refine xvalP (qv_fieldAddrE FldC.h rfl) rfl rfl ?_
    refine xval (qv_load ShpC.h rfl rfl rfl) rfl rfl ?_
    refine xvalP (pv_assign rfl) rfl rfl ?_
    refine xvalP (pv_assign rfl) rfl rfl ?_
    refine xnil ?_
    refine xthen ?_
    refine xretc ?_
    replace h := h.symm
    subst h
    exact xret2 hg rfl rfl (.refl _) rfl (.refl _) (SubM.of (.nil _) (.nil _)) ⟨rfl, rfl, rfl⟩
/-- bytes.IndexByte -/
def bytes_IndexByte_R (bv1 : List UInt8) (c2 : UInt8) (r : Int) : Prop :=
  r = (idxB bv1 c2)
def bytes_IndexByte_ev (fuel : Nat) (bv1 : List UInt8) (c2 : UInt8) : Option (Int) :=
  some (idxB bv1 c2)
theorem bytes_IndexByte_ok {fuel : Nat} {bv1 : List UInt8} {c2 : UInt8} {r : Int} (h : bytes_IndexByte_ev fuel bv1 c2 = some r) : bytes_IndexByte_R bv1 c2 r := by
  unfold bytes_IndexByte_ev at h
  unfold bytes_IndexByte_R
  exact (Option.some.inj h).symm
set_option maxHeartbeats 4000000 in
theorem bytes_IndexByte_con (bv1 : List UInt8) (c2 : UInt8) (r : Int) (h : bytes_IndexByte_R bv1 c2 r) : Con Try.prog 33 [.sl 1 none (List.map eb bv1), .v (.int .u8 ((c2.toNat : Int)))] [] [] (Ret (.v (.int .i64 r))) := by
  refine xenter Try.func33 rfl rfl fun g hg => ?_
  simp only [Try.ntmps33, slots]
  refine xseq ?_
  refine xregion ?_
  refine xvalP (pv_assign rfl) rfl rfl ?_
  refine xnil ?_
  refine xthen ?_
  refine xseq ?_
  refine xregion ?_
  refine xvalP (pv_move rfl) rfl rfl ?_
  refine xvalP (pv_move rfl) rfl rfl ?_
  refine xval (pv_idxB Try.func35 (by kernel_rfl) (by kernel_rfl) (by kernel_rfl) (by kernel_rfl) rfl rfl) rfl rfl ?_
  refine xvalP (pv_assign rfl) rfl rfl ?_
  refine xnil ?_
  refine xthen ?_
  refine xretc ?_
  replace h := h.symm
  subst h
  exact xret1 hg rfl rfl (.refl _) (SubM.of (.nil _) (.nil _)) ⟨rfl, rfl, rfl⟩
/-- slices.Clone [ []byte,byte] -/
def slices_Clone_R (sv1 : List UInt8) (r : (List UInt8)) : Prop :=
  ∀ bv6 : Bool, (sv1 ≠ [] → bv6 = false) → ((bv6 = true → r = ([] : List UInt8)) ∧ (¬ (bv6 = true) → Room ((([] : List UInt8)).length + sv1.length) 1 ∧ r = (([] : List UInt8) ++ sv1)))
def slices_Clone_ev (fuel : Nat) (sv1 : List UInt8) : Option ((List UInt8)) :=
  (bothE (decide (sv1 ≠ [])) fun bv6 => (if bv6 = true then some ([] : List UInt8) else (if Room ((([] : List UInt8)).length + sv1.length) 1 then some (([] : List UInt8) ++ sv1) else none)))
theorem slices_Clone_ok {fuel : Nat} {sv1 : List UInt8} {r : (List UInt8)} (h : slices_Clone_ev fuel sv1 = some r) : slices_Clone_R sv1 r := by
  unfold slices_Clone_ev at h
  unfold slices_Clone_R
  intro q25 g25
  replace h := bothE_ok h q25 (fun e => g25 (of_decide_eq_true e))
  refine ⟨fun g26 => ?_, fun g26 => ?_⟩
  · rw [if_pos g26] at h
    exact (Option.some.inj h).symm
  · rw [if_neg g26] at h
    obtain ⟨g27, h⟩ := if_ok h
    refine ⟨g27, ?_⟩
    exact (Option.some.inj h).symm
set_option maxHeartbeats 4000000 in
theorem slices_Clone_con (sv1 : List UInt8) (r : (List UInt8)) (h : slices_Clone_R sv1 r) : Con Try.prog 26 [.sl 1 none (List.map eb sv1)] [] [] (RetM 1 5 eb r) := by
  refine xenter Try.func26 rfl rfl fun g hg => ?_
  simp only [Try.ntmps26, slots]
  refine xseq ?_
  refine xregion ?_
  refine xvalP (pv_assign rfl) rfl rfl ?_
  refine xnil ?_
  refine xthen ?_
  refine xseq ?_
  refine xseq ?_
  refine xregion ?_
  refine xvalP (pv_move rfl) rfl rfl ?_
  refine xexact 3 rfl fun A5 c5 hA5 => ?_
  refine xvalP (pv_eqNilV UndC.h rfl rfl) rfl rfl ?_
  obtain ⟨bv6, hb5⟩ : ∃ b : Bool, A5.isNone = b := ⟨_, rfl⟩
  replace h := h bv6 (fun q => hb5 ▸ hA5 q)
  refine xsetB 4 (b' := bv6) (by rw [hb5]) rfl ?_
  refine xnil ?_
  refine xthen ?_
  by_cases hp7 : bv6 = true
  · replace h := h.1 hp7
    refine xcondT' hp7 rfl ?_
    refine xseq ?_
    refine xregion ?_
    refine xvalP (pv_assign rfl) rfl rfl ?_
    refine xnil ?_
    refine xthen ?_
    refine xretc ?_
    refine xthen_ret ?_
    replace h := h.symm
    subst h
    exact xret1 hg rfl rfl (.nil_own _) (SubM.of (by repeat (first | with_reducible exact SubB.refl _ | exact SubB.nil _ | refine SubB.keep rfl rfl (by first | with_reducible exact WkL.refl _ | ((repeat (first | exact WkL.nil | refine WkL.cons (by first | with_reducible exact Wk.refl _ | exact Wk.nil_own _ | exact Wk.nil_pl _ | with_reducible exact Wk.tok _ _ _ | exact Wk.tok _ _ _ | exact Wk.eq (by first | rfl | (simp []; done) | (simp []; omega))) ?_)); done) | exact WkL.refl _) ?_ | refine SubB.drop ?_)) (by repeat (first | exact SubT.nil _ | refine SubT.add ?_ | (refine SubT.keep ?_ ?_; focus (first | with_reducible rfl | (simp []; done))) | refine SubT.drop ?_))) ⟨none, rfl, rfl, rfl⟩
  · replace h := h.2 hp7
    refine xcondF' (b_f hp7) rfl ?_
    refine xskipc ?_
    refine xthen ?_
    refine xseq ?_
    refine xregion ?_
    refine xbuildSliceM (f := eb) ([] : List UInt8) UndC.h InfC.h rfl rfl (by first | exact wkR_of rfl | (repeat (first | exact WkR.nil | refine WkR.cons (by (repeat (first | exact WkL.nil | refine WkL.cons (by first | with_reducible exact Wk.refl _ | exact Wk.nil_own _ | exact Wk.nil_pl _ | with_reducible exact Wk.tok _ _ _ | exact Wk.tok _ _ _ | exact Wk.eq (by first | rfl | (simp []; done) | (simp []; omega))) ?_))) ?_))) rfl rfl rfl rfl fun s5 => ?_
    refine xvalP (pv_move rfl) rfl rfl ?_
    obtain ⟨h8, h⟩ := h
    refine xappendM (l := ([] : List UInt8)) (l2 := sv1) 0 h8 UndC.h InfC.h rfl rfl rfl (.refl _) rfl rfl rfl fun i9 => ?_
    refine xvalP (pv_assign rfl) rfl rfl ?_
    refine xnil ?_
    refine xthen ?_
    refine xretc ?_
    replace h := h.symm
    subst h
    exact xret1 hg rfl rfl (.refl _) (SubM.of (.nil _) (.keep rfl (.nil _))) ⟨i9, rfl, rfl, rfl⟩
/-- lines.Cut -/
def lines_Cut_j1 (atv2 : Int) (bv1 : List UInt8) (x17 : Bool) (r : ((List UInt8) × Bool) × Int × Bool) : Prop :=
  ((x17 = true → r = ((([] : List UInt8), false), 0, false)) ∧ (¬ (x17 = true) → (0 ≤ (atv2 : Int) ∧ (atv2 : Int) ≤ (bv1.length : Int)) ∧ ∃ y35 : Int, bytes_IndexByte_R (bv1.drop (atv2 : Int).toNat) (10 : UInt8) y35 ∧ ((0 ≤ y35 → (0 ≤ (y35 : Int) ∧ (y35 : Int) ≤ (((bv1.drop (atv2 : Int).toNat)).length : Int)) ∧ ∃ y40 : (List UInt8), slices_Clone_R (((bv1.drop (atv2 : Int).toNat)).take (y35 : Int).toNat) y40 ∧ InR (atv2 + y35) ∧ InR ((atv2 + y35) + 1) ∧ r = ((y40, true), ((atv2 + y35) + 1), true)) ∧ (¬ (0 ≤ y35) → ∃ y45 : (List UInt8), slices_Clone_R (bv1.drop (atv2 : Int).toNat) y45 ∧ r = ((y45, false), (bv1.length : Int), true)))))
def lines_Cut_R (bv1 : List UInt8) (atv2 : Int) (r : ((List UInt8) × Bool) × Int × Bool) : Prop :=
  lines_Cut_j1 atv2 bv1 ((decide (atv2 < 0)) || (decide ((bv1.length : Int) ≤ atv2))) r
def lines_Cut_j1_ev (fuel : Nat) (atv2 : Int) (bv1 : List UInt8) (x17 : Bool) : Option (((List UInt8) × Bool) × Int × Bool) :=
  (if x17 = true then some ((([] : List UInt8), false), 0, false) else (if (0 ≤ (atv2 : Int) ∧ (atv2 : Int) ≤ (bv1.length : Int)) then ((bytes_IndexByte_ev fuel (bv1.drop (atv2 : Int).toNat) (10 : UInt8)).bind fun y35 => (if 0 ≤ y35 then (if (0 ≤ (y35 : Int) ∧ (y35 : Int) ≤ (((bv1.drop (atv2 : Int).toNat)).length : Int)) then ((slices_Clone_ev fuel (((bv1.drop (atv2 : Int).toNat)).take (y35 : Int).toNat)).bind fun y40 => (if InR (atv2 + y35) then (if InR ((atv2 + y35) + 1) then some ((y40, true), ((atv2 + y35) + 1), true) else none) else none)) else none) else ((slices_Clone_ev fuel (bv1.drop (atv2 : Int).toNat)).bind fun y45 => some ((y45, false), (bv1.length : Int), true)))) else none))
theorem lines_Cut_j1_ok {fuel : Nat} {atv2 : Int} {bv1 : List UInt8} {x17 : Bool} {r : ((List UInt8) × Bool) × Int × Bool} (h : lines_Cut_j1_ev fuel atv2 bv1 x17 = some r) : lines_Cut_j1 atv2 bv1 x17 r := by
  unfold lines_Cut_j1_ev at h
  unfold lines_Cut_j1
  refine ⟨fun g28 => ?_, fun g28 => ?_⟩
  · rw [if_pos g28] at h
    exact (Option.some.inj h).symm
  · rw [if_neg g28] at h
    obtain ⟨g29, h⟩ := if_ok h
    refine ⟨g29, ?_⟩
    obtain ⟨q30, g30, h⟩ := bind_ok h
    refine ⟨q30, bytes_IndexByte_ok g30, ?_⟩
    refine ⟨fun g31 => ?_, fun g31 => ?_⟩
    · rw [if_pos g31] at h
      obtain ⟨g32, h⟩ := if_ok h
      refine ⟨g32, ?_⟩
      obtain ⟨q33, g33, h⟩ := bind_ok h
      refine ⟨q33, slices_Clone_ok g33, ?_⟩
      obtain ⟨g34, h⟩ := if_ok h
      refine ⟨g34, ?_⟩
      obtain ⟨g35, h⟩ := if_ok h
      refine ⟨g35, ?_⟩
      exact (Option.some.inj h).symm
    · rw [if_neg g31] at h
      obtain ⟨q36, g36, h⟩ := bind_ok h
      refine ⟨q36, slices_Clone_ok g36, ?_⟩
      exact (Option.some.inj h).symm
def lines_Cut_ev (fuel : Nat) (bv1 : List UInt8) (atv2 : Int) : Option (((List UInt8) × Bool) × Int × Bool) :=
  lines_Cut_j1_ev fuel atv2 bv1 ((decide (atv2 < 0)) || (decide ((bv1.length : Int) ≤ atv2)))
theorem lines_Cut_ok {fuel : Nat} {bv1 : List UInt8} {atv2 : Int} {r : ((List UInt8) × Bool) × Int × Bool} (h : lines_Cut_ev fuel bv1 atv2 = some r) : lines_Cut_R bv1 atv2 r := by
  unfold lines_Cut_ev at h
  unfold lines_Cut_R
  exact lines_Cut_j1_ok h
set_option maxHeartbeats 4000000 in
theorem lines_Cut_con (bv1 : List UInt8) (atv2 : Int) (r : ((List UInt8) × Bool) × Int × Bool) (h : lines_Cut_R bv1 atv2 r) : Con Try.prog 25 [.sl 1 none (List.map eb bv1), .v (.int .i64 atv2)] [] [] (fun rr bx tk => rr = .tup [.agg [.sl 1 none (List.map eb r.1.1), .v (.bool r.1.2)], .v (.int .i64 r.2.1), .v (.bool r.2.2)] ∧ bx = [] ∧ tk = []) := by
  refine xenter Try.func25 rfl rfl fun g hg => ?_
  simp only [Try.ntmps25, slots]
  unfold lines_Cut_R at h
  refine xseq ?_
  refine xregion ?_
  refine xalloc InfC.h rfl rfl fun b4 => ?_
  refine xvalP (pv_assign rfl) rfl rfl ?_
  refine xvalP (pv_assign rfl) rfl rfl ?_
  refine xnil ?_
  refine xthen ?_
  refine xseq ?_
  refine xseqM (fun σ => ∃ (x17 : Bool), lines_Cut_j1 atv2 bv1 x17 r ∧ σ = ⟨[(0, .sl 1 none (List.map eb bv1)), (1, .v (.int .i64 atv2)), (4, .v (.pointer (some ⟨b4, 0, none⟩))), (16, .v (.bool x17))], [⟨b4, 36, [.v (.slice none 0 0), .v (.bool false)]⟩], []⟩) ?_ ?_
  · refine xregion ?_
    refine xvalP (pv_move rfl) rfl rfl ?_
    refine xvalP (pv_bin2 rfl rfl rfl) rfl rfl ?_
    refine xvalP (pv_move rfl) rfl rfl ?_
    by_cases hp19 : atv2 < 0
    · rw [show (decide (atv2 < 0)) = true from (decide_eq_true hp19), Bool.true_or] at h
      refine xsetB 11 (decide_eq_true hp19) rfl ?_
      refine xskip rfl rfl ?_
      refine xskip rfl rfl ?_
      refine xskip rfl rfl ?_
      refine xskip rfl rfl ?_
      refine xvalP (pv_pick rfl rfl) rfl rfl ?_
      refine xnil ?_
      exact xmeet ⟨true, h, rfl⟩ ⟨(.cons rfl (.refl _) (.cons rfl (.refl _) (.cons rfl (.refl _) (.cons rfl (.refl _) (.nil _))))), (SubM.of (.keep rfl rfl (.refl _) (.nil _)) (.nil _))⟩
    · rw [show (decide (atv2 < 0)) = false from (decide_eq_false hp19), Bool.false_or] at h
      refine xsetB 11 (decide_eq_false hp19) rfl ?_
      refine xvalP (pv_move rfl) rfl rfl ?_
      refine xvalP (pv_move rfl) rfl rfl ?_
      refine xvalP (pv_lenM UndC.h rfl) rfl rfl ?_
      refine xvalP (pv_bin2 rfl rfl rfl) rfl rfl ?_
      refine xvalP (pv_pick rfl rfl) rfl rfl ?_
      refine xnil ?_
      exact xmeet ⟨(decide ((bv1.length : Int) ≤ atv2)), h, rfl⟩ ⟨(.cons rfl (.refl _) (.cons rfl (.refl _) (.cons rfl (.refl _) (.cons rfl (.refl _) (.nil _))))), (SubM.of (.keep rfl rfl (.refl _) (.nil _)) (.nil _))⟩
  · clear h
    rintro _ ⟨x17, h, rfl⟩
    by_cases hp22 : x17 = true
    · replace h := h.1 hp22
      refine xcondT' hp22 rfl ?_
      refine xseq ?_
      refine xregion ?_
      refine xvalP (pv_buildC StrC.h rfl rfl) rfl rfl ?_
      refine xstore 0 ShpC.h rfl rfl rfl rfl rfl rfl rfl ?_
      refine xvalP (pv_assign rfl) rfl rfl ?_
      refine xvalP (pv_assign rfl) rfl rfl ?_
      refine xnil ?_
      refine xthen ?_
      refine xretc ?_
      refine xthen_ret ?_
      replace h := h.symm
      subst h
      exact xretL (rs := [.cell 4 36, .tmp 5, .tmp 6]) (ss := [.agg [.sl 1 none (List.map eb (([] : List UInt8))), .v (.bool false)], .v (.int .i64 0), .v (.bool false)]) hg rfl (by refine RetL.cell 0 ShpC.h rfl rfl rfl (Nat.le_of_ble_eq_true rfl) (.agg (.cons (.nil_pl _) (.cons (.refl _) .nil))) ?_; refine RetL.tmp rfl (.refl _) ?_; refine RetL.tmp rfl (.refl _) ?_; exact RetL.nil) (SubM.of (.nil _) (.nil _)) ⟨rfl, rfl, rfl⟩
    · replace h := h.2 hp22
      refine xcondF' (b_f hp22) rfl ?_
      refine xskipc ?_
      refine xthen ?_
      refine xseq ?_
      refine xregion ?_
      refine xvalP (pv_move rfl) rfl rfl ?_
      refine xvalP (pv_move rfl) rfl rfl ?_
      obtain ⟨h23, h⟩ := h
      refine xvalP (pv_sliceLo h23 UndC.h ShpC.h rfl rfl) rfl rfl ?_
      refine xvalP (pv_assign rfl) rfl rfl ?_
      refine xnil ?_
      refine xthen ?_
      refine xseq ?_
      refine xseq ?_
      refine xregion ?_
      refine xvalP (pv_move rfl) rfl rfl ?_
      obtain ⟨y35, h34, h⟩ := h
      refine xcall0 (bytes_IndexByte_con (bv1.drop (atv2 : Int).toNat) (10 : UInt8) _ h34) Try.func33 (by kernel_rfl) rfl (.cons rfl (.refl _) (.cons rfl (.refl _) .nil)) rfl rfl ?_
      refine xvalP (pv_assign rfl) rfl rfl ?_
      refine xnil ?_
      refine xthen ?_
      refine xseq ?_
      refine xregion ?_
      refine xvalP (pv_move rfl) rfl rfl ?_
      refine xvalP (pv_bin2 rfl rfl rfl) rfl rfl ?_
      refine xnil ?_
      refine xthen ?_
      by_cases hp37 : 0 ≤ y35
      · replace h := h.1 hp37
        refine xcondT' (decide_eq_true hp37) rfl ?_
        refine xseq ?_
        refine xregion ?_
        refine xvalP (pv_move rfl) rfl rfl ?_
        refine xvalP (pv_move rfl) rfl rfl ?_
        obtain ⟨h38, h⟩ := h
        refine xvalP (pv_sliceHi h38 UndC.h ShpC.h rfl rfl) rfl rfl ?_
        obtain ⟨y40, h39, h⟩ := h
        refine xcallM (slices_Clone_con (((bv1.drop (atv2 : Int).toNat)).take (y35 : Int).toNat) _ h39) Try.func26 (by kernel_rfl) rfl (.cons rfl (.refl _) .nil) rfl rfl fun i41 => ?_
        refine xvalP (pv_buildC StrC.h rfl rfl) rfl rfl ?_
        refine xvalP (pv_move rfl) rfl rfl ?_
        refine xvalP (pv_move rfl) rfl rfl ?_
        obtain ⟨h42, h⟩ := h
        refine xvalP (pv_addI h42 rfl rfl) rfl rfl ?_
        obtain ⟨h43, h⟩ := h
        refine xvalP (pv_addI h43 rfl rfl) rfl rfl ?_
        refine xstore 0 ShpC.h rfl rfl rfl rfl rfl rfl rfl ?_
        refine xvalP (pv_assign rfl) rfl rfl ?_
        refine xvalP (pv_assign rfl) rfl rfl ?_
        refine xnil ?_
        refine xthen ?_
        refine xretc ?_
        refine xthen_ret ?_
        replace h := h.symm
        subst h
        exact xretL (rs := [.cell 4 36, .tmp 5, .tmp 6]) (ss := [.agg [.sl 1 none (List.map eb y40), .v (.bool true)], .v (.int .i64 (((atv2 + y35) + 1))), .v (.bool true)]) hg rfl (by refine RetL.cell 0 ShpC.h rfl rfl rfl (Nat.le_of_ble_eq_true rfl) (.agg (.cons (.tok _ _ _) (.cons (.refl _) .nil))) ?_; refine RetL.tmp rfl (.refl _) ?_; refine RetL.tmp rfl (.refl _) ?_; exact RetL.nil) (SubM.of (.nil _) (.nil _)) ⟨rfl, rfl, rfl⟩
      · replace h := h.2 hp37
        refine xcondF' (decide_eq_false hp37) rfl ?_
        refine xskipc ?_
        refine xthen ?_
        refine xseq ?_
        refine xregion ?_
        refine xvalP (pv_move rfl) rfl rfl ?_
        obtain ⟨y45, h44, h⟩ := h
        refine xcallM (slices_Clone_con (bv1.drop (atv2 : Int).toNat) _ h44) Try.func26 (by kernel_rfl) rfl (.cons rfl (.refl _) .nil) rfl rfl fun i46 => ?_
        refine xvalP (pv_buildC StrC.h rfl rfl) rfl rfl ?_
        refine xvalP (pv_move rfl) rfl rfl ?_
        refine xvalP (pv_lenM UndC.h rfl) rfl rfl ?_
        refine xstore 0 ShpC.h rfl rfl rfl rfl rfl rfl rfl ?_
        refine xvalP (pv_assign rfl) rfl rfl ?_
        refine xvalP (pv_assign rfl) rfl rfl ?_
        refine xnil ?_
        refine xthen ?_
        refine xretc ?_
        replace h := h.symm
        subst h
        exact xretL (rs := [.cell 4 36, .tmp 5, .tmp 6]) (ss := [.agg [.sl 1 none (List.map eb y45), .v (.bool false)], .v (.int .i64 ((bv1.length : Int))), .v (.bool true)]) hg rfl (by refine RetL.cell 0 ShpC.h rfl rfl rfl (Nat.le_of_ble_eq_true rfl) (.agg (.cons (.tok _ _ _) (.cons (.refl _) .nil))) ?_; refine RetL.tmp rfl (.refl _) ?_; refine RetL.tmp rfl (.refl _) ?_; exact RetL.nil) (SubM.of (.nil _) (.nil _)) ⟨rfl, rfl, rfl⟩
/-- feed.Next -/
def feed_Next_j1 (x1 : Int × Int × Int × Int × (List UInt8)) (f165 : Int) (f166 : Int) (f167 : Int) (f168 : List UInt8) (r : ((List UInt8) × Bool) × (Int × Int × Int × Int × (List UInt8)) × Bool) : Prop :=
  ∃ y331 : ((List UInt8) × Bool) × Int × Bool, lines_Cut_R f168 0 y331 ∧ ((¬ (y331.2.2 = true) → r = ((([] : List UInt8), false), (f165, f166, x1.2.2.1, f167, ([] : List UInt8)), false)) ∧ (¬ (¬ (y331.2.2 = true)) → (0 ≤ (y331.2.1 : Int) ∧ (y331.2.1 : Int) ≤ (f168.length : Int)) ∧ ∃ y345 : (List UInt8), slices_Clone_R (f168.drop (y331.2.1 : Int).toNat) y345 ∧ r = (y331.1, (f165, f166, f166, f167, y345), true)))
def feed_Next_j3 (f224 : Int) (x223 : Int) (ag2 : (Int × Int × Int × Int × (List UInt8)) → Prop) (f318 : Int) (f319 : Int) (f320 : List UInt8) (r : ((List UInt8) × Bool) × (Int × Int × Int × Int × (List UInt8)) × Bool) : Prop :=
  ∃ z327 : Int, z327 = IntKind.i64.wrap (f224 + 1) ∧ ∃ z329 : Int, z329 = IntKind.i64.wrap (x223 + 1) ∧ ag2 (z329, z327, f318, f319, f320)
def feed_Next_l2 (y170 : (List ByteArray)) (x1 : Int × Int × Int × Int × (List UInt8)) (x2 : List (ByteArray × (List UInt8))) (ag2 : (Int × Int × Int × Int × (List UInt8)) → Prop) (x223 : Int) (f224 : Int) (f225 : Int) (f226 : Int) (f227 : List UInt8) (r : ((List UInt8) × Bool) × (Int × Int × Int × Int × (List UInt8)) × Bool) : Prop :=
  ((x223 < (y170.length : Int) → 0 ≤ (x223 : Int) ∧ ∃ y305 : ByteArray, y170[(x223 : Int).toNat]? = some y305 ∧ ((0 < (f227.length : Int) → feed_Next_j1 x1 f224 f225 f226 f227 r) ∧ (¬ (0 < (f227.length : Int)) → ∃ y322 : (List UInt8) × Bool, feed_get_R x2 y305 y322 ∧ ((y322.2 = true → feed_Next_j3 f224 x223 ag2 f224 f226 y322.1 r) ∧ (¬ (y322.2 = true) → ∃ z325 : Int, z325 = IntKind.i64.wrap (f226 + 1) ∧ feed_Next_j3 f224 x223 ag2 f225 z325 f227 r))))) ∧ (¬ (x223 < (y170.length : Int)) → feed_Next_j1 x1 f224 f225 f226 f227 r))
def feed_Next_R (x1 : Int × Int × Int × Int × (List UInt8)) (x2 : List (ByteArray × (List UInt8))) (x3 : Bool × Bool × Bool × Bool × (List ByteArray)) (r : ((List UInt8) × Bool) × (Int × Int × Int × Int × (List UInt8)) × Bool) : Prop :=
  ∃ y170 : (List ByteArray), feed_left_R x1 x3 y170 ∧ LoopR (fun ag2 s => feed_Next_l2 y170 x1 x2 ag2 s.1 s.2.1 s.2.2.1 s.2.2.2.1 s.2.2.2.2 r) (0, x1.1, x1.2.1, x1.2.2.2.1, x1.2.2.2.2)
def feed_Next_j1_ev (fuel : Nat) (x1 : Int × Int × Int × Int × (List UInt8)) (f165 : Int) (f166 : Int) (f167 : Int) (f168 : List UInt8) : Option (((List UInt8) × Bool) × (Int × Int × Int × Int × (List UInt8)) × Bool) :=
  ((lines_Cut_ev fuel f168 0).bind fun y331 => (if ¬ (y331.2.2 = true) then some ((([] : List UInt8), false), (f165, f166, x1.2.2.1, f167, ([] : List UInt8)), false) else (if (0 ≤ (y331.2.1 : Int) ∧ (y331.2.1 : Int) ≤ (f168.length : Int)) then ((slices_Clone_ev fuel (f168.drop (y331.2.1 : Int).toNat)).bind fun y345 => some (y331.1, (f165, f166, f166, f167, y345), true)) else none)))
theorem feed_Next_j1_ok {fuel : Nat} {x1 : Int × Int × Int × Int × (List UInt8)} {f165 : Int} {f166 : Int} {f167 : Int} {f168 : List UInt8} {r : ((List UInt8) × Bool) × (Int × Int × Int × Int × (List UInt8)) × Bool} (h : feed_Next_j1_ev fuel x1 f165 f166 f167 f168 = some r) : feed_Next_j1 x1 f165 f166 f167 f168 r := by
  unfold feed_Next_j1_ev at h
  unfold feed_Next_j1
  obtain ⟨q37, g37, h⟩ := bind_ok h
  refine ⟨q37, lines_Cut_ok g37, ?_⟩
  refine ⟨fun g38 => ?_, fun g38 => ?_⟩
  · rw [if_pos g38] at h
    exact (Option.some.inj h).symm
  · rw [if_neg g38] at h
    obtain ⟨g39, h⟩ := if_ok h
    refine ⟨g39, ?_⟩
    obtain ⟨q40, g40, h⟩ := bind_ok h
    refine ⟨q40, slices_Clone_ok g40, ?_⟩
    exact (Option.some.inj h).symm
def feed_Next_j3_ev (fuel : Nat) (f224 : Int) (x223 : Int) (ag2e : (Int × Int × Int × Int × (List UInt8)) → Option (((List UInt8) × Bool) × (Int × Int × Int × Int × (List UInt8)) × Bool)) (f318 : Int) (f319 : Int) (f320 : List UInt8) : Option (((List UInt8) × Bool) × (Int × Int × Int × Int × (List UInt8)) × Bool) :=
  ((some (IntKind.i64.wrap (f224 + 1) : Int)).bind fun z327 => ((some (IntKind.i64.wrap (x223 + 1) : Int)).bind fun z329 => ag2e (z329, z327, f318, f319, f320)))
theorem feed_Next_j3_ok {fuel : Nat} {f224 : Int} {x223 : Int} {ag2 : (Int × Int × Int × Int × (List UInt8)) → Prop} {ag2e : (Int × Int × Int × Int × (List UInt8)) → Option (((List UInt8) × Bool) × (Int × Int × Int × Int × (List UInt8)) × Bool)} {f318 : Int} {f319 : Int} {f320 : List UInt8} {r : ((List UInt8) × Bool) × (Int × Int × Int × Int × (List UInt8)) × Bool} (hagag2 : ∀ s, ag2e s = some r → ag2 s) (h : feed_Next_j3_ev fuel f224 x223 ag2e f318 f319 f320 = some r) : feed_Next_j3 f224 x223 ag2 f318 f319 f320 r := by
  unfold feed_Next_j3_ev at h
  unfold feed_Next_j3
  obtain ⟨q41, g41, h⟩ := bind_ok h
  refine ⟨q41, (Option.some.inj g41).symm, ?_⟩
  obtain ⟨q42, g42, h⟩ := bind_ok h
  refine ⟨q42, (Option.some.inj g42).symm, ?_⟩
  exact hagag2 _ h
def feed_Next_l2_ev (fuel : Nat) (y170 : (List ByteArray)) (x1 : Int × Int × Int × Int × (List UInt8)) (x2 : List (ByteArray × (List UInt8))) (ag2e : (Int × Int × Int × Int × (List UInt8)) → Option (((List UInt8) × Bool) × (Int × Int × Int × Int × (List UInt8)) × Bool)) (x223 : Int) (f224 : Int) (f225 : Int) (f226 : Int) (f227 : List UInt8) : Option (((List UInt8) × Bool) × (Int × Int × Int × Int × (List UInt8)) × Bool) :=
  (if x223 < (y170.length : Int) then (if 0 ≤ (x223 : Int) then ((y170[(x223 : Int).toNat]?).bind fun y305 => (if 0 < (f227.length : Int) then feed_Next_j1_ev fuel x1 f224 f225 f226 f227 else ((feed_get_ev fuel x2 y305).bind fun y322 => (if y322.2 = true then feed_Next_j3_ev fuel f224 x223 ag2e f224 f226 y322.1 else ((some (IntKind.i64.wrap (f226 + 1) : Int)).bind fun z325 => feed_Next_j3_ev fuel f224 x223 ag2e f225 z325 f227))))) else none) else feed_Next_j1_ev fuel x1 f224 f225 f226 f227)
theorem feed_Next_l2_ok {fuel : Nat} {y170 : (List ByteArray)} {x1 : Int × Int × Int × Int × (List UInt8)} {x2 : List (ByteArray × (List UInt8))} {ag2e : (Int × Int × Int × Int × (List UInt8)) → Option (((List UInt8) × Bool) × (Int × Int × Int × Int × (List UInt8)) × Bool)} {ag2 : (Int × Int × Int × Int × (List UInt8)) → Prop} {x223 : Int} {f224 : Int} {f225 : Int} {f226 : Int} {f227 : List UInt8} {r : ((List UInt8) × Bool) × (Int × Int × Int × Int × (List UInt8)) × Bool} (hagag2 : ∀ s, ag2e s = some r → ag2 s) (h : feed_Next_l2_ev fuel y170 x1 x2 ag2e x223 f224 f225 f226 f227 = some r) : feed_Next_l2 y170 x1 x2 ag2 x223 f224 f225 f226 f227 r := by
  unfold feed_Next_l2_ev at h
  unfold feed_Next_l2
  refine ⟨fun g43 => ?_, fun g43 => ?_⟩
  · rw [if_pos g43] at h
    obtain ⟨g44, h⟩ := if_ok h
    refine ⟨g44, ?_⟩
    obtain ⟨q45, g45, h⟩ := bind_ok h
    refine ⟨q45, g45, ?_⟩
    refine ⟨fun g46 => ?_, fun g46 => ?_⟩
    · rw [if_pos g46] at h
      exact feed_Next_j1_ok h
    · rw [if_neg g46] at h
      obtain ⟨q47, g47, h⟩ := bind_ok h
      refine ⟨q47, feed_get_ok g47, ?_⟩
      refine ⟨fun g48 => ?_, fun g48 => ?_⟩
      · rw [if_pos g48] at h
        exact feed_Next_j3_ok hagag2 h
      · rw [if_neg g48] at h
        obtain ⟨q49, g49, h⟩ := bind_ok h
        refine ⟨q49, (Option.some.inj g49).symm, ?_⟩
        exact feed_Next_j3_ok hagag2 h
  · rw [if_neg g43] at h
    exact feed_Next_j1_ok h
def feed_Next_ev (fuel : Nat) (x1 : Int × Int × Int × Int × (List UInt8)) (x2 : List (ByteArray × (List UInt8))) (x3 : Bool × Bool × Bool × Bool × (List ByteArray)) : Option (((List UInt8) × Bool) × (Int × Int × Int × Int × (List UInt8)) × Bool) :=
  ((feed_left_ev fuel x1 x3).bind fun y170 => (loopE (fun ag2e s => feed_Next_l2_ev fuel y170 x1 x2 ag2e s.1 s.2.1 s.2.2.1 s.2.2.2.1 s.2.2.2.2) fuel (0, x1.1, x1.2.1, x1.2.2.2.1, x1.2.2.2.2)))
theorem feed_Next_ok {fuel : Nat} {x1 : Int × Int × Int × Int × (List UInt8)} {x2 : List (ByteArray × (List UInt8))} {x3 : Bool × Bool × Bool × Bool × (List ByteArray)} {r : ((List UInt8) × Bool) × (Int × Int × Int × Int × (List UInt8)) × Bool} (h : feed_Next_ev fuel x1 x2 x3 = some r) : feed_Next_R x1 x2 x3 r := by
  unfold feed_Next_ev at h
  unfold feed_Next_R
  obtain ⟨q50, g50, h⟩ := bind_ok h
  refine ⟨q50, feed_left_ok g50, ?_⟩
  refine loopE_ok ?_ h
  intro ae ag s hag h
  exact feed_Next_l2_ok hag h
set_option maxHeartbeats 4000000 in
theorem feed_Next_con (x1 : Int × Int × Int × Int × (List UInt8)) (x2 : List (ByteArray × (List UInt8))) (x3 : Bool × Bool × Bool × Bool × (List ByteArray)) (r : ((List UInt8) × Bool) × (Int × Int × Int × Int × (List UInt8)) × Bool) (h : feed_Next_R x1 x2 x3 r) : Con Try.prog 15 [.agg [.v (.int .i64 x1.1), .v (.int .i64 x1.2.1), .v (.int .i64 x1.2.2.1), .v (.int .i64 x1.2.2.2.1), .sl 1 none (List.map eb x1.2.2.2.2)], .sl 2 none (List.map E_palinode_api_File x2), .agg [.v (.bool x3.1), .v (.bool x3.2.1), .v (.bool x3.2.2.1), .v (.bool x3.2.2.2.1), .sl 1 none (List.map es x3.2.2.2.2)]] [] [] (fun rr bx tk => rr = .tup [.agg [.sl 1 none (List.map eb r.1.1), .v (.bool r.1.2)], .agg [.v (.int .i64 r.2.1.1), .v (.int .i64 r.2.1.2.1), .v (.int .i64 r.2.1.2.2.1), .v (.int .i64 r.2.1.2.2.2.1), .sl 1 none (List.map eb r.2.1.2.2.2.2)], .v (.bool r.2.2)] ∧ bx = [] ∧ tk = []) := by
  refine xenter Try.func15 rfl rfl fun g hg => ?_
  simp only [Try.ntmps15, slots]
  refine xseq ?_
  refine xregion ?_
  refine xbox rfl rfl rfl rfl fun b3 => ?_
  refine xbox rfl rfl rfl rfl fun b5 => ?_
  refine xalloc InfC.h rfl rfl fun b6 => ?_
  refine xalloc InfC.h rfl rfl fun b7 => ?_
  refine xvalP (pv_assign rfl) rfl rfl ?_
  refine xnil ?_
  refine xthen ?_
  refine xseqM (fun σ => ∃ (f165 : Int), ∃ (f166 : Int), ∃ (f167 : Int), ∃ (f168 : List UInt8), feed_Next_j1 x1 f165 f166 f167 f168 r ∧ σ = ⟨[(3, .v (.pointer (some ⟨b3, 0, none⟩))), (6, .v (.pointer (some ⟨b6, 0, none⟩))), (7, .v (.pointer (some ⟨b7, 0, none⟩)))], [⟨b7, 42, [.v (.int .i64 0), .v (.int .i64 0), .v (.int .i64 0), .v (.int .i64 0), .v (.slice none 0 0)]⟩, ⟨b6, 36, [.v (.slice none 0 0), .v (.bool false)]⟩, ⟨b3, 42, [.v (.int .i64 f165), .v (.int .i64 f166), .v (.int .i64 x1.2.2.1), .v (.int .i64 f167), .sl 1 none (List.map eb f168)]⟩], []⟩) ?_ ?_
  · refine xseq ?_
    refine xregion ?_
    refine xval (qv_loadB 3 ShpC.h rfl rfl rfl rfl) rfl rfl ?_
    refine xval (qv_loadB 2 ShpC.h rfl rfl rfl rfl) rfl rfl ?_
    obtain ⟨y170, h169, h⟩ := h
    refine xcall0 (feed_left_con x1 x3 _ h169) Try.func23 (by kernel_rfl) rfl (.cons rfl (.refl _) (.cons rfl (.refl _) .nil)) rfl rfl ?_
    refine xvalP (pv_lenM UndC.h rfl) rfl rfl ?_
    refine xvalP (pv_move rfl) rfl rfl ?_
    refine xnil ?_
    refine xthen ?_
    refine xblock ?_
    obtain ⟨Inv, ⟨m0, hI⟩, hS⟩ := h
    refine xloop (fun σ m => ∃ (x223 : Int), ∃ (f224 : Int), ∃ (f225 : Int), ∃ (f226 : Int), ∃ (f227 : List UInt8), Inv (x223, f224, f225, f226, f227) m ∧ σ = ⟨[(1, .sl 2 none (List.map E_palinode_api_File x2)), (3, .v (.pointer (some ⟨b3, 0, none⟩))), (6, .v (.pointer (some ⟨b6, 0, none⟩))), (7, .v (.pointer (some ⟨b7, 0, none⟩))), (18, .sl 1 none (List.map es y170)), (19, .v (.int .i64 ((y170.length : Int)))), (20, .v (.int .i64 x223))], [⟨b7, 42, [.v (.int .i64 0), .v (.int .i64 0), .v (.int .i64 0), .v (.int .i64 0), .v (.slice none 0 0)]⟩, ⟨b6, 36, [.v (.slice none 0 0), .v (.bool false)]⟩, ⟨b3, 42, [.v (.int .i64 f224), .v (.int .i64 f225), .v (.int .i64 x1.2.2.1), .v (.int .i64 f226), .sl 1 none (List.map eb f227)]⟩], []⟩) ⟨0, x1.1, x1.2.1, x1.2.2.2.1, x1.2.2.2.2, hI, rfl⟩ ⟨(.cons rfl (.refl _) (.cons rfl (.refl _) (.cons rfl (.refl _) (.cons rfl (.refl _) (.cons rfl (.refl _) (.cons rfl (.refl _) (.cons rfl (.refl _) (.nil _)))))))), (SubM.of (.keep rfl rfl (.refl _) (.keep rfl rfl (.refl _) (.drop (.keep rfl rfl (.refl _) (.nil _))))) (.nil _))⟩ ?_
    rintro _ m ⟨x223, f224, f225, f226, f227, hI, rfl⟩
    obtain ⟨ag2, hag2, h⟩ : ∃ ag, (∀ s', ag s' → ∃ m', m' < m ∧ Inv s' m') ∧ feed_Next_l2 y170 x1 x2 ag x223 f224 f225 f226 f227 r := ⟨_, fun _ h => h, hS (x223, f224, f225, f226, f227) _ hI⟩
    clear hS hI
    refine xseq ?_
    refine xregion ?_
    refine xvalP (pv_bin2 rfl rfl rfl) rfl rfl ?_
    refine xnil ?_
    refine xthen ?_
    refine xseq ?_
    by_cases hp281 : x223 < (y170.length : Int)
    · replace h := h.1 hp281
      refine xcondT' (decide_eq_true hp281) rfl ?_
      refine xskipc ?_
      refine xthen ?_
      refine xseq ?_
      refine xblock ?_
      refine xseq ?_
      refine xregion ?_
      obtain ⟨h306a, h⟩ := h
      obtain ⟨y305, h306b, h⟩ := h
      refine xvalP (pv_indexAddrM h306a h306b UndC.h ShpC.h rfl rfl) rfl rfl ?_
      refine xval (qv_load ShpC.h rfl rfl rfl) rfl rfl ?_
      refine xvalP (pv_assign rfl) rfl rfl ?_
      refine xnil ?_
      refine xthen ?_
      refine xseq ?_
      refine xseq ?_
      refine xregion ?_
      refine xvalP (qv_fieldAddrB FldC.h rfl) rfl rfl ?_
      refine xval (qv_loadB 2 ShpC.h rfl rfl rfl rfl) rfl rfl ?_
      refine xvalP (pv_lenM UndC.h rfl) rfl rfl ?_
      refine xvalP (pv_bin2 rfl rfl rfl) rfl rfl ?_
      refine xnil ?_
      refine xthen ?_
      by_cases hp312 : 0 < (f227.length : Int)
      · replace h := h.1 hp312
        refine xcondT' (decide_eq_true hp312) rfl ?_
        refine xexit ?_
        refine xthen_exit ?_
        refine xin_other rfl ?_
        refine xthen_exit ?_
        refine xthen_exit ?_
        refine xin_same rfl ?_
        exact xmeet ⟨f224, f225, f226, f227, h, rfl⟩ ⟨(.cons rfl (.refl _) (.cons rfl (.refl _) (.cons rfl (.refl _) (.nil _)))), (SubM.of (.keep rfl rfl (.refl _) (.keep rfl rfl (.refl _) (.keep rfl rfl (.refl _) (.nil _)))) (.nil _))⟩
      · replace h := h.2 hp312
        refine xcondF' (decide_eq_false hp312) rfl ?_
        refine xskipc ?_
        refine xthen ?_
        refine xseqM (fun σ => ∃ (f318 : Int), ∃ (f319 : Int), ∃ (f320 : List UInt8), feed_Next_j3 f224 x223 ag2 f318 f319 f320 r ∧ σ = ⟨[(1, .sl 2 none (List.map E_palinode_api_File x2)), (3, .v (.pointer (some ⟨b3, 0, none⟩))), (6, .v (.pointer (some ⟨b6, 0, none⟩))), (7, .v (.pointer (some ⟨b7, 0, none⟩))), (18, .sl 1 none (List.map es y170)), (19, .v (.int .i64 ((y170.length : Int)))), (20, .v (.int .i64 x223))], [⟨b7, 42, [.v (.int .i64 0), .v (.int .i64 0), .v (.int .i64 0), .v (.int .i64 0), .v (.slice none 0 0)]⟩, ⟨b6, 36, [.v (.slice none 0 0), .v (.bool false)]⟩, ⟨b3, 42, [.v (.int .i64 f224), .v (.int .i64 f318), .v (.int .i64 x1.2.2.1), .v (.int .i64 f319), .sl 1 none (List.map eb f320)]⟩], []⟩) ?_ ?_
        · refine xseq ?_
          refine xregion ?_
          refine xvalP (pv_move rfl) rfl rfl ?_
          refine xvalP (pv_move rfl) rfl rfl ?_
          obtain ⟨y322, h321, h⟩ := h
          refine xcallF (Fb := [⟨b7, 42, [.v (.int .i64 0), .v (.int .i64 0), .v (.int .i64 0), .v (.int .i64 0), .v (.slice none 0 0)]⟩, ⟨b6, 36, [.v (.slice none 0 0), .v (.bool false)]⟩, ⟨b3, 42, [.v (.int .i64 f224), .v (.int .i64 f225), .v (.int .i64 x1.2.2.1), .v (.int .i64 f226), .sl 1 none (List.map eb f227)]⟩]) (Ft := []) (feed_get_con x2 y305 _ h321) Try.func24 (by kernel_rfl) rfl (.cons rfl (.refl _) (.cons rfl (.refl _) .nil)) (by exact (SubM.of (by repeat (first | with_reducible exact SubB.refl _ | exact SubB.nil _ | refine SubB.keep rfl rfl (by first | with_reducible exact WkL.refl _ | ((repeat (first | exact WkL.nil | refine WkL.cons (by first | with_reducible exact Wk.refl _ | exact Wk.nil_own _ | exact Wk.nil_pl _ | with_reducible exact Wk.tok _ _ _ | exact Wk.tok _ _ _ | exact Wk.eq (by first | rfl | (simp []; done) | (simp []; omega))) ?_)); done) | exact WkL.refl _) ?_ | refine SubB.drop ?_)) (by repeat (first | exact SubT.nil _ | refine SubT.add ?_ | (refine SubT.keep ?_ ?_; focus (first | with_reducible rfl | (simp []; done))) | refine SubT.drop ?_)))) rfl rfl ?_
          rintro _ _ _ ⟨rfl, rfl, rfl⟩
          simp only [List.nil_append, List.cons_append]
          refine xvalP (pv_move rfl) rfl rfl ?_
          refine xvalP (pv_extract rfl rfl) rfl rfl ?_
          refine xvalP (pv_extract rfl rfl) rfl rfl ?_
          refine xvalP (pv_assign rfl) rfl rfl ?_
          refine xvalP (pv_assign rfl) rfl rfl ?_
          refine xnil ?_
          refine xthen ?_
          refine xseq ?_
          refine xregion ?_
          refine xvalP (pv_move rfl) rfl rfl ?_
          refine xnil ?_
          refine xthen ?_
          by_cases hp323 : y322.2 = true
          · replace h := h.1 hp323
            refine xcondT' hp323 rfl ?_
            refine xregion ?_
            refine xvalP (qv_fieldAddrB FldC.h rfl) rfl rfl ?_
            refine xval (qv_loadB 2 ShpC.h rfl rfl rfl rfl) rfl rfl ?_
            refine xvalP (pv_move rfl) rfl rfl ?_
            refine xvalP (qv_fieldAddrB FldC.h rfl) rfl rfl ?_
            refine xstore 2 ShpC.h rfl rfl rfl rfl rfl rfl rfl ?_
            refine xvalP (qv_fieldAddrB FldC.h rfl) rfl rfl ?_
            refine xstore 2 ShpC.h rfl rfl rfl rfl rfl rfl rfl ?_
            refine xnil ?_
            exact xmeet ⟨f224, f226, y322.1, h, rfl⟩ ⟨(.cons rfl (.refl _) (.cons rfl (.refl _) (.cons rfl (.refl _) (.cons rfl (.refl _) (.cons rfl (.refl _) (.cons rfl (.refl _) (.cons rfl (.refl _) (.nil _)))))))), (SubM.of (.keep rfl rfl (.refl _) (.keep rfl rfl (.refl _) (.keep rfl rfl (.refl _) (.nil _)))) (.nil _))⟩
          · replace h := h.2 hp323
            refine xcondF' (b_f hp323) rfl ?_
            refine xregion ?_
            refine xvalP (qv_fieldAddrB FldC.h rfl) rfl rfl ?_
            refine xval (qv_loadB 2 ShpC.h rfl rfl rfl rfl) rfl rfl ?_
            obtain ⟨z325, h324, h⟩ := h
            refine xvalP (pv_wr h324 rfl rfl rfl) rfl rfl ?_
            refine xvalP (qv_fieldAddrB FldC.h rfl) rfl rfl ?_
            refine xstore 2 ShpC.h rfl rfl rfl rfl rfl rfl rfl ?_
            refine xnil ?_
            exact xmeet ⟨f225, z325, f227, h, rfl⟩ ⟨(.cons rfl (.refl _) (.cons rfl (.refl _) (.cons rfl (.refl _) (.cons rfl (.refl _) (.cons rfl (.refl _) (.cons rfl (.refl _) (.cons rfl (.refl _) (.nil _)))))))), (SubM.of (.keep rfl rfl (.refl _) (.keep rfl rfl (.refl _) (.keep rfl rfl (.refl _) (.nil _)))) (.nil _))⟩
        · clear h
          rintro _ ⟨f318, f319, f320, h, rfl⟩
          refine xregion ?_
          refine xvalP (qv_fieldAddrB FldC.h rfl) rfl rfl ?_
          refine xval (qv_loadB 2 ShpC.h rfl rfl rfl rfl) rfl rfl ?_
          obtain ⟨z327, h326, h⟩ := h
          refine xvalP (pv_wr h326 rfl rfl rfl) rfl rfl ?_
          refine xvalP (qv_fieldAddrB FldC.h rfl) rfl rfl ?_
          refine xstore 2 ShpC.h rfl rfl rfl rfl rfl rfl rfl ?_
          refine xnil ?_
          refine xin_normal ?_
          refine xthen ?_
          refine xregion ?_
          obtain ⟨z329, h328, h⟩ := h
          refine xvalP (pv_wr h328 rfl rfl rfl) rfl rfl ?_
          refine xvalP (pv_move rfl) rfl rfl ?_
          refine xnil ?_
          obtain ⟨m', hm, hI⟩ := hag2 _ h
          exact xagain ⟨z329, z327, f318, f319, f320, hI, rfl⟩ hm ⟨(.cons rfl (.refl _) (.cons rfl (.refl _) (.cons rfl (.refl _) (.cons rfl (.refl _) (.cons rfl (.refl _) (.cons rfl (.refl _) (.cons rfl (.refl _) (.nil _)))))))), (SubM.of (.keep rfl rfl (.refl _) (.keep rfl rfl (.refl _) (.keep rfl rfl (.refl _) (.nil _)))) (.nil _))⟩
    · replace h := h.2 hp281
      refine xcondF' (decide_eq_false hp281) rfl ?_
      refine xexit ?_
      refine xthen_exit ?_
      refine xthen_exit ?_
      refine xin_same rfl ?_
      exact xmeet ⟨f224, f225, f226, f227, h, rfl⟩ ⟨(.cons rfl (.refl _) (.cons rfl (.refl _) (.cons rfl (.refl _) (.nil _)))), (SubM.of (.keep rfl rfl (.refl _) (.keep rfl rfl (.refl _) (.keep rfl rfl (.refl _) (.nil _)))) (.nil _))⟩
  · clear h
    rintro _ ⟨f165, f166, f167, f168, h, rfl⟩
    refine xseq ?_
    refine xregion ?_
    refine xvalP (qv_fieldAddrB FldC.h rfl) rfl rfl ?_
    refine xval (qv_loadB 2 ShpC.h rfl rfl rfl rfl) rfl rfl ?_
    obtain ⟨y331, h330, h⟩ := h
    refine xcallF (Fb := [⟨b7, 42, [.v (.int .i64 0), .v (.int .i64 0), .v (.int .i64 0), .v (.int .i64 0), .v (.slice none 0 0)]⟩, ⟨b6, 36, [.v (.slice none 0 0), .v (.bool false)]⟩, ⟨b3, 42, [.v (.int .i64 f165), .v (.int .i64 f166), .v (.int .i64 x1.2.2.1), .v (.int .i64 f167), .sl 1 none (List.map eb f168)]⟩]) (Ft := []) (lines_Cut_con f168 0 _ h330) Try.func25 (by kernel_rfl) rfl (.cons rfl (.refl _) (.cons rfl (.refl _) .nil)) (by exact (SubM.of (by repeat (first | with_reducible exact SubB.refl _ | exact SubB.nil _ | refine SubB.keep rfl rfl (by first | with_reducible exact WkL.refl _ | ((repeat (first | exact WkL.nil | refine WkL.cons (by first | with_reducible exact Wk.refl _ | exact Wk.nil_own _ | exact Wk.nil_pl _ | with_reducible exact Wk.tok _ _ _ | exact Wk.tok _ _ _ | exact Wk.eq (by first | rfl | (simp []; done) | (simp []; omega))) ?_)); done) | exact WkL.refl _) ?_ | refine SubB.drop ?_)) (by repeat (first | exact SubT.nil _ | refine SubT.add ?_ | (refine SubT.keep ?_ ?_; focus (first | with_reducible rfl | (simp []; done))) | refine SubT.drop ?_)))) rfl rfl ?_
    rintro _ _ _ ⟨rfl, rfl, rfl⟩
    simp only [List.nil_append, List.cons_append]
    refine xvalP (pv_move rfl) rfl rfl ?_
    refine xvalP (pv_extract rfl rfl) rfl rfl ?_
    refine xvalP (pv_extract rfl rfl) rfl rfl ?_
    refine xvalP (pv_extract rfl rfl) rfl rfl ?_
    refine xalloc InfC.h rfl rfl fun b13 => ?_
    refine xstore 0 ShpC.h rfl rfl rfl rfl rfl rfl rfl ?_
    refine xvalP (pv_assign rfl) rfl rfl ?_
    refine xvalP (pv_assign rfl) rfl rfl ?_
    refine xnil ?_
    refine xthen ?_
    refine xseq ?_
    refine xseq ?_
    refine xregion ?_
    refine xvalP (pv_move rfl) rfl rfl ?_
    refine xvalP (pv_not rfl) rfl rfl ?_
    refine xnil ?_
    refine xthen ?_
    by_cases hp335 : ¬ (y331.2.2 = true)
    · replace h := h.1 hp335
      refine xcondT' (not_t (b_f hp335)) rfl ?_
      refine xseq ?_
      refine xregion ?_
      refine xvalP (qv_fieldAddrB FldC.h rfl) rfl rfl ?_
      refine xstore 3 ShpC.h rfl rfl rfl rfl rfl rfl rfl ?_
      refine xnil ?_
      refine xthen ?_
      refine xseq ?_
      refine xregionD (m := 5) (by kernel_rfl) rfl ?_
      refine xpcut 2 #[true, true, true, false, false] (fun σ => σ = ⟨[(6, .v (.pointer (some ⟨b6, 0, none⟩))), (7, .v (.pointer (some ⟨b7, 0, none⟩))), (60, .agg [.v (.int .i64 f165), .v (.int .i64 f166), .v (.int .i64 x1.2.2.1), .v (.int .i64 f167), .v (.slice none 0 0)])], [⟨b7, 42, [.v (.int .i64 0), .v (.int .i64 0), .v (.int .i64 0), .v (.int .i64 0), .v (.slice none 0 0)]⟩, ⟨b6, 36, [.v (.slice none 0 0), .v (.bool false)]⟩], []⟩) ?_ (fun key337 => ?_)
      · rintro _ rfl
        refine xpstep (i := 3) (by kernel_rfl) rfl ?_
        refine wstore 0 ShpC.h rfl rfl rfl rfl rfl rfl rfl ?_
        refine xpval 4 rfl (pv_assign rfl) rfl rfl (by kernel_rfl) (by kernel_rfl) (by kernel_rfl) (fun _ _ _ _ h => h) ?_
        refine xpdone (by kernel_rfl) ?_
        refine xthen ?_
        refine xretc ?_
        refine xthen_ret ?_
        replace h := h.symm
        subst h
        exact xretL (rs := [.cell 6 36, .cell 7 42, .tmp 8]) (ss := [.agg [.sl 1 none (List.map eb (([] : List UInt8))), .v (.bool false)], .agg [.v (.int .i64 f165), .v (.int .i64 f166), .v (.int .i64 x1.2.2.1), .v (.int .i64 f167), .sl 1 none (List.map eb (([] : List UInt8)))], .v (.bool false)]) hg rfl (by refine RetL.cell 1 ShpC.h rfl rfl rfl (Nat.le_of_ble_eq_true rfl) (.agg (.cons (.nil_pl _) (.cons (.refl _) .nil))) ?_; refine RetL.cell 0 ShpC.h rfl rfl rfl (Nat.le_of_ble_eq_true rfl) (.agg (.cons (.refl _) (.cons (.refl _) (.cons (.refl _) (.cons (.refl _) (.cons (.nil_pl _) .nil)))))) ?_; refine RetL.tmp rfl (.refl _) ?_; exact RetL.nil) (SubM.of (.nil _) (.nil _)) ⟨rfl, rfl, rfl⟩
      refine xpval 0 rfl (pv_buildC StrC.h rfl rfl) rfl rfl (by kernel_rfl) (by kernel_rfl) (by kernel_rfl) (fun _ _ _ _ h => h) ?_
      refine xpstepN (is := [1, 2]) (by kernel_rfl) (by simp) ?_
      intro i hi; simp only [List.mem_cons, List.not_mem_nil, or_false] at hi; rcases hi with rfl | rfl
      · refine ⟨_, rfl, ?_⟩
        refine wval (qv_loadB 3 ShpC.h rfl rfl rfl rfl) rfl rfl ?_
        refine xpstep (i := 2) (by kernel_rfl) rfl ?_
        refine wstore 2 ShpC.h rfl rfl rfl rfl rfl rfl rfl ?_
        exact xpuse key337 rfl ⟨(.cons rfl (.refl _) (.cons rfl (.refl _) (.cons rfl (.refl _) (.nil _)))), (SubM.of (.drop (.keep rfl rfl (.refl _) (.keep rfl rfl (.refl _) (.nil _)))) (.nil _))⟩ rfl (by kernel_rfl)
      · refine ⟨_, rfl, ?_⟩
        refine wstore 2 ShpC.h rfl rfl rfl rfl rfl rfl rfl ?_
        refine xpvalE 1 [] rfl (qv_loadB 3 ShpC.h rfl rfl rfl rfl) rfl rfl (by kernel_rfl) (by kernel_rfl) (by kernel_rfl) (fun _ _ _ _ h => h) ?_
        exact xpuse key337 rfl ⟨(.cons rfl (.refl _) (.cons rfl (.refl _) (.cons rfl (.refl _) (.nil _)))), (SubM.of (.drop (.keep rfl rfl (.refl _) (.keep rfl rfl (.refl _) (.nil _)))) (.nil _))⟩ rfl (by kernel_rfl)
    · replace h := h.2 hp335
      refine xcondF' (not_f (Decidable.of_not_not hp335)) rfl ?_
      refine xskipc ?_
      refine xthen ?_
      refine xseq ?_
      refine xregionD (m := 11) (by kernel_rfl) rfl ?_
      obtain ⟨h343, h⟩ := h
      obtain ⟨y345, h344, h⟩ := h
      refine xpcut 3 #[true, true, true, true, true, true, true, true, false, false, false] (fun σ => ∃ (i346 : Option (Nat × Nat)), σ = ⟨[(3, .v (.pointer (some ⟨b3, 0, none⟩))), (6, .v (.pointer (some ⟨b6, 0, none⟩))), (7, .v (.pointer (some ⟨b7, 0, none⟩))), (13, .v (.pointer (some ⟨b13, 0, none⟩))), (65, .sl 1 (some i346) (List.map eb y345)), (67, .v (.int .i64 f166)), (68, .v (.pointer (some ⟨b3, 4, none⟩)))], [⟨b13, 36, [.sl 1 none (List.map eb y331.1.1), .v (.bool y331.1.2)]⟩, ⟨b7, 42, [.v (.int .i64 0), .v (.int .i64 0), .v (.int .i64 0), .v (.int .i64 0), .v (.slice none 0 0)]⟩, ⟨b6, 36, [.v (.slice none 0 0), .v (.bool false)]⟩, ⟨b3, 42, [.v (.int .i64 f165), .v (.int .i64 f166), .v (.int .i64 x1.2.2.1), .v (.int .i64 f167), .sl 1 none (List.map eb f168)]⟩], [⟨i346, 5, 1, y345.length⟩]⟩) ?_ (fun key347 => ?_)
      · rintro _ ⟨i346, rfl⟩
        refine xpstep (i := 8) (by kernel_rfl) rfl ?_
        refine wstore 3 ShpC.h rfl rfl rfl rfl rfl rfl rfl ?_
        refine xpval 9 rfl (qv_fieldAddrB FldC.h rfl) rfl rfl (by kernel_rfl) (by kernel_rfl) (by kernel_rfl) (fun _ _ _ _ h => h) ?_
        refine xpstep (i := 10) (by kernel_rfl) rfl ?_
        refine wstore 3 ShpC.h rfl rfl rfl rfl rfl rfl rfl ?_
        refine xpdone (by kernel_rfl) ?_
        refine xthen ?_
        refine xseq ?_
        refine xregionD (m := 5) (by kernel_rfl) rfl ?_
        refine xpcut 2 #[true, true, true, false, false] (fun σ => σ = ⟨[(6, .v (.pointer (some ⟨b6, 0, none⟩))), (7, .v (.pointer (some ⟨b7, 0, none⟩))), (71, .agg [.v (.int .i64 f165), .v (.int .i64 f166), .v (.int .i64 f166), .v (.int .i64 f167), .sl 1 (some i346) (List.map eb y345)])], [⟨b7, 42, [.v (.int .i64 0), .v (.int .i64 0), .v (.int .i64 0), .v (.int .i64 0), .v (.slice none 0 0)]⟩, ⟨b6, 36, [.sl 1 none (List.map eb y331.1.1), .v (.bool y331.1.2)]⟩], [⟨i346, 5, 1, y345.length⟩]⟩) ?_ (fun key349 => ?_)
        · rintro _ rfl
          refine xpstep (i := 3) (by kernel_rfl) rfl ?_
          refine wstore 0 ShpC.h rfl rfl rfl rfl rfl rfl rfl ?_
          refine xpval 4 rfl (pv_assign rfl) rfl rfl (by kernel_rfl) (by kernel_rfl) (by kernel_rfl) (fun _ _ _ _ h => h) ?_
          refine xpdone (by kernel_rfl) ?_
          refine xthen ?_
          refine xretc ?_
          replace h := h.symm
          subst h
          exact xretL (rs := [.cell 6 36, .cell 7 42, .tmp 8]) (ss := [.agg [.sl 1 none (List.map eb y331.1.1), .v (.bool y331.1.2)], .agg [.v (.int .i64 f165), .v (.int .i64 f166), .v (.int .i64 f166), .v (.int .i64 f167), .sl 1 none (List.map eb y345)], .v (.bool true)]) hg rfl (by refine RetL.cell 1 ShpC.h rfl rfl rfl (Nat.le_of_ble_eq_true rfl) (.refl _) ?_; refine RetL.cell 0 ShpC.h rfl rfl rfl (Nat.le_of_ble_eq_true rfl) (.agg (.cons (.refl _) (.cons (.refl _) (.cons (.refl _) (.cons (.refl _) (.cons (.tok _ _ _) .nil)))))) ?_; refine RetL.tmp rfl (.refl _) ?_; exact RetL.nil) (SubM.of (.nil _) (.nil _)) ⟨rfl, rfl, rfl⟩
        refine xpvalE 0 [1] rfl (qv_loadB 0 ShpC.h rfl rfl rfl rfl) rfl rfl (by kernel_rfl) (by kernel_rfl) (by kernel_rfl) (fun _ _ _ _ h => h) ?_
        refine xpstepN (is := [1, 2]) (by kernel_rfl) (by simp) ?_
        intro i hi; simp only [List.mem_cons, List.not_mem_nil, or_false] at hi; rcases hi with rfl | rfl
        · refine ⟨_, rfl, ?_⟩
          refine wval (qv_loadB 3 ShpC.h rfl rfl rfl rfl) rfl rfl ?_
          refine xpstep (i := 2) (by kernel_rfl) rfl ?_
          refine wstore 2 ShpC.h rfl rfl rfl rfl rfl rfl rfl ?_
          exact xpuse key349 rfl ⟨(.cons rfl (.refl _) (.cons rfl (.refl _) (.cons rfl (.refl _) (.nil _)))), (SubM.of (.drop (.keep rfl rfl (.refl _) (.keep rfl rfl (.refl _) (.nil _)))) (.keep rfl (.nil _)))⟩ rfl (by kernel_rfl)
        · refine ⟨_, rfl, ?_⟩
          refine wstore 2 ShpC.h rfl rfl rfl rfl rfl rfl rfl ?_
          refine xpvalE 1 [] rfl (qv_loadB 3 ShpC.h rfl rfl rfl rfl) rfl rfl (by kernel_rfl) (by kernel_rfl) (by kernel_rfl) (fun _ _ _ _ h => h) ?_
          exact xpuse key349 rfl ⟨(.cons rfl (.refl _) (.cons rfl (.refl _) (.cons rfl (.refl _) (.nil _)))), (SubM.of (.drop (.keep rfl rfl (.refl _) (.keep rfl rfl (.refl _) (.nil _)))) (.keep rfl (.nil _)))⟩ rfl (by kernel_rfl)
      refine xpval 0 rfl (qv_fieldAddrB FldC.h rfl) rfl rfl (by kernel_rfl) (by kernel_rfl) (by kernel_rfl) (fun _ _ _ _ h => h) ?_
      refine xpval 2 rfl (pv_move rfl) rfl rfl (by kernel_rfl) (by kernel_rfl) (by kernel_rfl) (fun _ _ _ _ h => h) ?_
      refine xpval 5 rfl (qv_fieldAddrB FldC.h rfl) rfl rfl (by kernel_rfl) (by kernel_rfl) (by kernel_rfl) (fun _ _ _ _ h => h) ?_
      refine xpvalE 1 [6] rfl (qv_loadB 3 ShpC.h rfl rfl rfl rfl) rfl rfl (by kernel_rfl) (by kernel_rfl) (by kernel_rfl) (fun _ _ _ _ h => h) ?_
      refine xpval 3 rfl (pv_sliceLo h343 UndC.h ShpC.h rfl rfl) rfl rfl (by kernel_rfl) (by kernel_rfl) (by kernel_rfl) (fun _ _ _ _ h => h) ?_
      refine xpstepN (is := [4, 6]) (by kernel_rfl) (by simp) ?_
      intro i hi; simp only [List.mem_cons, List.not_mem_nil, or_false] at hi; rcases hi with rfl | rfl
      · refine ⟨_, rfl, ?_⟩
        refine wcallM (slices_Clone_con (f168.drop (y331.2.1 : Int).toNat) _ h344) Try.func26 (by kernel_rfl) rfl (.cons rfl (.refl _) .nil) rfl rfl fun i346 => ?_
        refine xpvalE 6 [] rfl (qv_loadB 3 ShpC.h rfl rfl rfl rfl) rfl rfl (by kernel_rfl) (by kernel_rfl) (by kernel_rfl) (fun _ _ _ _ h => h) ?_
        refine xpval 7 rfl (qv_fieldAddrB FldC.h rfl) rfl rfl (by kernel_rfl) (by kernel_rfl) (by kernel_rfl) (fun _ _ _ _ h => h) ?_
        exact xpuse key347 ⟨i346, rfl⟩ ⟨(.cons rfl (.refl _) (.cons rfl (.refl _) (.cons rfl (.refl _) (.cons rfl (.refl _) (.cons rfl (.refl _) (.cons rfl (.refl _) (.cons rfl (.refl _) (.nil _)))))))), (SubM.of (.keep rfl rfl (.refl _) (.keep rfl rfl (.refl _) (.keep rfl rfl (.refl _) (.keep rfl rfl (.refl _) (.nil _))))) (.keep rfl (.nil _)))⟩ rfl (by kernel_rfl)
      · refine ⟨_, rfl, ?_⟩
        refine wval (qv_loadB 3 ShpC.h rfl rfl rfl rfl) rfl rfl ?_
        refine xpstep (i := 4) (by kernel_rfl) rfl ?_
        refine wcallM (slices_Clone_con (f168.drop (y331.2.1 : Int).toNat) _ h344) Try.func26 (by kernel_rfl) rfl (.cons rfl (.refl _) .nil) rfl rfl fun i346 => ?_
        refine xpval 7 rfl (qv_fieldAddrB FldC.h rfl) rfl rfl (by kernel_rfl) (by kernel_rfl) (by kernel_rfl) (fun _ _ _ _ h => h) ?_
        exact xpuse key347 ⟨i346, rfl⟩ ⟨(.cons rfl (.refl _) (.cons rfl (.refl _) (.cons rfl (.refl _) (.cons rfl (.refl _) (.cons rfl (.refl _) (.cons rfl (.refl _) (.cons rfl (.refl _) (.nil _)))))))), (SubM.of (.keep rfl rfl (.refl _) (.keep rfl rfl (.refl _) (.keep rfl rfl (.refl _) (.keep rfl rfl (.refl _) (.nil _))))) (.keep rfl (.nil _)))⟩ rfl (by kernel_rfl)
end Go.Proofs.Ytihbljabeckgmaa
