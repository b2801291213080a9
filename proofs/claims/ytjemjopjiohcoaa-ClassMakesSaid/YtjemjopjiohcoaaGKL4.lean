/- What functions' texts ask for, and the walks that show it (printed by a program). -/
import Derived.Test.YtjemjopjiohcoaaGK
namespace Go.Proofs.Ytjemjopjiohcoaa
/-- palinodelaw05.ClassMakes -/
def palinodelaw05_ClassMakes_j4 (x328 : Int) (x4 : ByteArray) (f330 : Arr 256 (Bool)) (ag3 : (Bool × Int × (Arr 256 (Bool)) × (Arr 256 (Bool))) → Prop) (f424 : Arr 256 (Bool)) (r : Bool) : Prop :=
  ∃ c435 : UInt8, (c435.toNat : Int) = IntKind.u8.wrap x328 ∧ ∃ y437 : Bool × Bool, palinoderef01_Is_R x4 c435 y437 ∧ (0 ≤ (x328 : Int) ∧ (x328 : Int) < 256) ∧ ∃ y439 : Bool, f330.l[(x328 : Int).toNat]? = some y439 ∧ InR (x328 + 1) ∧ ag3 (y437.2, (x328 + 1), f424, (Arr.set f330 (x328 : Int).toNat y437.1))
def palinodelaw05_ClassMakes_j5 (x466 : Bool) (r : Bool) : Prop :=
  r = x466
def palinodelaw05_ClassMakes_l3 (x2 : UInt8) (x4 : ByteArray) (x3 : UInt8) (x1 : List UInt8) (f80 : Arr 256 (Bool)) (ag3 : (Bool × Int × (Arr 256 (Bool)) × (Arr 256 (Bool))) → Prop) (x327 : Bool) (x328 : Int) (f329 : Arr 256 (Bool)) (f330 : Arr 256 (Bool)) (r : Bool) : Prop :=
  ((x328 < 256 → (((x2.toNat : Int) ≤ x328 → (0 ≤ (x328 : Int) ∧ (x328 : Int) < 256) ∧ ∃ y431 : Bool, f329.l[(x328 : Int).toNat]? = some y431 ∧ palinodelaw05_ClassMakes_j4 x328 x4 f330 ag3 (Arr.set f329 (x328 : Int).toNat ((decide (x328 ≤ (x3.toNat : Int))))) r) ∧ (¬ ((x2.toNat : Int) ≤ x328) → (0 ≤ (x328 : Int) ∧ (x328 : Int) < 256) ∧ ∃ y433 : Bool, f329.l[(x328 : Int).toNat]? = some y433 ∧ palinodelaw05_ClassMakes_j4 x328 x4 f330 ag3 (Arr.set f329 (x328 : Int).toNat false) r))) ∧ (¬ (x328 < 256) → ∃ y442 : (Arr 4 (UInt64)) × Bool, class_Named_R x4 y442 ∧ ∃ y468 : (Arr 4 (UInt64)), class_Of_R x1 y468 ∧ ∃ y470 : (Arr 4 (UInt64)), palinoderef05_Of_R f80 y470 ∧ (((y468 : Arr 4 (UInt64)) = y470 → ∃ y475 : (Arr 4 (UInt64)), class_Range_R x2 x3 y475 ∧ ∃ y477 : (Arr 4 (UInt64)), palinoderef05_Of_R f329 y477 ∧ (((y475 : Arr 4 (UInt64)) = y477 → ∃ y482 : (Arr 4 (UInt64)), palinoderef05_Of_R f330 y482 ∧ (((y442.1 : Arr 4 (UInt64)) = y482 → (((y442.2 == x327) = true → ∃ y489 : Bool, palinodelaw05_awake_R y489 ∧ palinodelaw05_ClassMakes_j5 y489 r) ∧ (¬ ((y442.2 == x327) = true) → palinodelaw05_ClassMakes_j5 false r))) ∧ (¬ ((y442.1 : Arr 4 (UInt64)) = y482) → palinodelaw05_ClassMakes_j5 false r))) ∧ (¬ ((y475 : Arr 4 (UInt64)) = y477) → palinodelaw05_ClassMakes_j5 false r))) ∧ (¬ ((y468 : Arr 4 (UInt64)) = y470) → palinodelaw05_ClassMakes_j5 false r))))
def palinodelaw05_ClassMakes_l2 (x1 : List UInt8) (x2 : UInt8) (x4 : ByteArray) (x3 : UInt8) (ag2 : (Int × (Arr 256 (Bool))) → Prop) (x79 : Int) (f80 : Arr 256 (Bool)) (r : Bool) : Prop :=
  ((x79 < (x1.length : Int) → 0 ≤ (x79 : Int) ∧ ∃ y98 : UInt8, x1[(x79 : Int).toNat]? = some y98 ∧ (0 ≤ ((y98.toNat : Int) : Int) ∧ ((y98.toNat : Int) : Int) < 256) ∧ ∃ y101 : Bool, f80.l[((y98.toNat : Int) : Int).toNat]? = some y101 ∧ InR (x79 + 1) ∧ ag2 ((x79 + 1), (Arr.set f80 ((y98.toNat : Int) : Int).toNat true))) ∧ (¬ (x79 < (x1.length : Int)) → LoopR (fun ag3 s => palinodelaw05_ClassMakes_l3 x2 x4 x3 x1 f80 ag3 s.1 s.2.1 s.2.2.1 s.2.2.2 r) (false, 0, (Arr.rep 256 false), (Arr.rep 256 false))))
def palinodelaw05_ClassMakes_j1 (x1 : List UInt8) (x2 : UInt8) (x4 : ByteArray) (x3 : UInt8) (x24 : Bool) (r : Bool) : Prop :=
  ((x24 = true → ∃ y32 : Bool, palinodelaw05_awake_R y32 ∧ r = y32) ∧ (¬ (x24 = true) → LoopR (fun ag2 s => palinodelaw05_ClassMakes_l2 x1 x2 x4 x3 ag2 s.1 s.2 r) (0, (Arr.rep 256 false))))
def palinodelaw05_ClassMakes_R (x1 : List UInt8) (x2 : UInt8) (x3 : UInt8) (x4 : ByteArray) (r : Bool) : Prop :=
  palinodelaw05_ClassMakes_j1 x1 x2 x4 x3 ((decide (300 < (x1.length : Int))) || (decide (20 < (x4.size : Int)))) r
set_option maxRecDepth 100000 in
set_option maxHeartbeats 4000000 in
theorem palinodelaw05_ClassMakes_con (x1 : List UInt8) (x2 : UInt8) (x3 : UInt8) (x4 : ByteArray) (r : Bool) (h : palinodelaw05_ClassMakes_R x1 x2 x3 x4 r) : Con Try.prog 6 [.sl 1 none (List.map eb x1), .v (.int .u8 ((x2.toNat : Int))), .v (.int .u8 ((x3.toNat : Int))), .v (.string x4)] [] [] (Ret (.v (.bool r))) := by
  refine xenter Try.func6 rfl rfl fun g hg => ?_
  simp only [Try.ntmps6, slots]
  unfold palinodelaw05_ClassMakes_R at h
  refine xseq ?_
  refine xregion ?_
  refine xvalP (pv_assign rfl) rfl rfl ?_
  refine xnil ?_
  refine xthen ?_
  refine xseq ?_
  refine xseqM (fun σ => ∃ (x24 : Bool), palinodelaw05_ClassMakes_j1 x1 x2 x4 x3 x24 r ∧ σ = ⟨[(0, .sl 1 none (List.map eb x1)), (1, .v (.int .u8 ((x2.toNat : Int)))), (2, .v (.int .u8 ((x3.toNat : Int)))), (3, .v (.string x4)), (24, .v (.bool x24))], [], []⟩) ?_ ?_
  · refine xregion ?_
    refine xvalP (pv_move rfl) rfl rfl ?_
    refine xvalP (pv_lenM UndC.h rfl) rfl rfl ?_
    refine xvalP (pv_bin2 rfl rfl rfl) rfl rfl ?_
    refine xvalP (pv_move rfl) rfl rfl ?_
    by_cases hp27 : 300 < (x1.length : Int)
    · rw [show (decide (300 < (x1.length : Int))) = true from (decide_eq_true hp27), Bool.true_or] at h
      refine xsetB 20 (decide_eq_true hp27) rfl ?_
      refine xskip rfl rfl ?_
      refine xskip rfl rfl ?_
      refine xskip rfl rfl ?_
      refine xvalP (pv_pick rfl rfl) rfl rfl ?_
      refine xnil ?_
      exact xmeet ⟨true, h, rfl⟩ ⟨(.cons rfl (.refl _) (.cons rfl (.refl _) (.cons rfl (.refl _) (.cons rfl (.refl _) (.cons rfl (.refl _) (.nil _)))))), (SubM.of (.nil _) (.nil _))⟩
    · rw [show (decide (300 < (x1.length : Int))) = false from (decide_eq_false hp27), Bool.false_or] at h
      refine xsetB 20 (decide_eq_false hp27) rfl ?_
      refine xvalP (pv_move rfl) rfl rfl ?_
      refine xvalP (pv_lenS UndC.h rfl) rfl rfl ?_
      refine xvalP (pv_bin2 rfl rfl rfl) rfl rfl ?_
      refine xvalP (pv_pick rfl rfl) rfl rfl ?_
      refine xnil ?_
      exact xmeet ⟨(decide (20 < (x4.size : Int))), h, rfl⟩ ⟨(.cons rfl (.refl _) (.cons rfl (.refl _) (.cons rfl (.refl _) (.cons rfl (.refl _) (.cons rfl (.refl _) (.nil _)))))), (SubM.of (.nil _) (.nil _))⟩
  · clear h
    rintro _ ⟨x24, h, rfl⟩
    by_cases hp30 : x24 = true
    · replace h := h.1 hp30
      refine xcondT' hp30 rfl ?_
      refine xseq ?_
      refine xregion ?_
      obtain ⟨y32, h31, h⟩ := h
      refine xcall0 (palinodelaw05_awake_con _ h31) Try.func14 (by kernel_rfl) rfl .nil rfl rfl ?_
      refine xvalP (pv_assign rfl) rfl rfl ?_
      refine xnil ?_
      refine xthen ?_
      refine xretc ?_
      refine xthen_ret ?_
      replace h := h.symm
      subst h
      exact xret1 hg rfl rfl (.refl _) (SubM.of (.nil _) (.nil _)) ⟨rfl, rfl, rfl⟩
    · replace h := h.2 hp30
      refine xcondF' (b_f hp30) rfl ?_
      refine xskipc ?_
      refine xthen ?_
      refine xseq ?_
      refine xregion ?_
      refine xalloc InfC.h rfl rfl fun b9 => ?_
      refine xreb 0 ((List.map eB ((Arr.rep 256 false)).l).flatten) rfl rfl ?_
      refine xalloc InfC.h rfl rfl fun b10 => ?_
      refine xreb 0 ((List.map eB ((Arr.rep 256 false)).l).flatten) rfl rfl ?_
      refine xalloc InfC.h rfl rfl fun b11 => ?_
      refine xreb 0 ((List.map eB ((Arr.rep 256 false)).l).flatten) rfl rfl ?_
      refine xnil ?_
      refine xthen ?_
      refine xseq ?_
      refine xseq ?_
      refine xregion ?_
      refine xvalP (pv_assign rfl) rfl rfl ?_
      refine xnil ?_
      refine xthen ?_
      refine xblock ?_
      obtain ⟨Inv, ⟨m0, hI⟩, hS⟩ := h
      refine xloop (fun σ m => ∃ (x79 : Int), ∃ (f80 : Arr 256 (Bool)), Inv (x79, f80) m ∧ σ = ⟨[(0, .sl 1 none (List.map eb x1)), (1, .v (.int .u8 ((x2.toNat : Int)))), (2, .v (.int .u8 ((x3.toNat : Int)))), (3, .v (.string x4)), (9, .v (.pointer (some ⟨b9, 0, none⟩))), (10, .v (.pointer (some ⟨b10, 0, none⟩))), (11, .v (.pointer (some ⟨b11, 0, none⟩))), (12, .v (.int .i64 x79))], [⟨b11, 37, ((List.map eB ((Arr.rep 256 false)).l).flatten)⟩, ⟨b10, 37, ((List.map eB ((Arr.rep 256 false)).l).flatten)⟩, ⟨b9, 37, ((List.map eB f80.l).flatten)⟩], []⟩) ⟨0, (Arr.rep 256 false), hI, rfl⟩ ⟨(.cons rfl (.refl _) (.cons rfl (.refl _) (.cons rfl (.refl _) (.cons rfl (.refl _) (.cons rfl (.refl _) (.cons rfl (.refl _) (.cons rfl (.refl _) (.cons rfl (.refl _) (.nil _))))))))), (SubM.of (.keep rfl rfl (.refl _) (.keep rfl rfl (.refl _) (.keep rfl rfl (.refl _) (.nil _)))) (.nil _))⟩ ?_
      rintro _ m ⟨x79, f80, hI, rfl⟩
      obtain ⟨ag2, hag2, h⟩ : ∃ ag, (∀ s', ag s' → ∃ m', m' < m ∧ Inv s' m') ∧ palinodelaw05_ClassMakes_l2 x1 x2 x4 x3 ag x79 f80 r := ⟨_, fun _ h => h, hS (x79, f80) _ hI⟩
      clear hS hI
      refine xseq ?_
      refine xseq ?_
      refine xregion ?_
      refine xvalP (pv_move rfl) rfl rfl ?_
      refine xvalP (pv_move rfl) rfl rfl ?_
      refine xvalP (pv_lenM UndC.h rfl) rfl rfl ?_
      refine xvalP (pv_bin2 rfl rfl rfl) rfl rfl ?_
      refine xnil ?_
      refine xthen ?_
      by_cases hp97 : x79 < (x1.length : Int)
      · replace h := h.1 hp97
        refine xcondT' (decide_eq_true hp97) rfl ?_
        refine xskipc ?_
        refine xthen ?_
        refine xseq ?_
        refine xblock ?_
        refine xregion ?_
        refine xvalP (pv_move rfl) rfl rfl ?_
        refine xvalP (pv_move rfl) rfl rfl ?_
        obtain ⟨h99a, h⟩ := h
        obtain ⟨y98, h99b, h⟩ := h
        refine xvalP (pv_indexAddrM h99a h99b UndC.h ShpC.h rfl rfl) rfl rfl ?_
        refine xval (qv_load ShpC.h rfl rfl rfl) rfl rfl ?_
        obtain ⟨h100, h⟩ := h
        obtain ⟨y101, h100b, h⟩ := h
        refine xvalP (pv_indexAddrBA h100 UndC.h ShpC.h rfl rfl) rfl rfl ?_
        refine xstoreA (f := eB) (a := f80) (k := 1) (off := 0) (i := ((y98.toNat : Int) : Int).toNat) 2 [] [] true h100b (by first | rfl | exact (List.append_nil _).symm | exact List.append_nil _ | exact List.append_assoc _ _ _ | exact (List.append_assoc _ _ _).symm | exact congrArg _ (List.append_nil _).symm | exact congrArg _ (List.append_nil _) | (simp; done) | (simp [cellsS]; done)) (by first | rfl | omega | (simp only [List.length_cons, List.length_nil]; omega) | (simp only [seg_len, List.length_append, List.length_cons, List.length_nil]; omega)) (by decide) ShpC.h rfl rfl rfl rfl (by first | rfl | exact seg_lenE (by rfl) | exact len_app rfl (seg_lenE (by rfl)) (by rfl) | exact len_app (seg_lenE (by rfl)) rfl (by rfl) | exact len_app rfl (len_app (seg_lenE (by rfl)) rfl (by rfl)) (by rfl) | (simp only [seg_len, cellsS, List.length_append, List.length_cons, List.length_nil]; done) | (simp only [seg_len, cellsS, List.length_append, List.length_cons, List.length_nil]; rfl)) rfl rfl ?_
        refine xreb 2 ((List.map eB ((Arr.set f80 ((y98.toNat : Int) : Int).toNat true)).l).flatten) rfl (by first | rfl | exact (List.append_nil _).symm | exact List.append_nil _ | exact List.append_assoc _ _ _ | exact (List.append_assoc _ _ _).symm | exact congrArg _ (List.append_nil _).symm | exact congrArg _ (List.append_nil _) | (simp; done) | (simp [cellsS]; done)) ?_
        refine xnil ?_
        refine xin_normal ?_
        refine xthen ?_
        refine xregion ?_
        refine xvalP (pv_move rfl) rfl rfl ?_
        obtain ⟨h102, h⟩ := h
        refine xvalP (pv_addI h102 rfl rfl) rfl rfl ?_
        refine xvalP (pv_assign rfl) rfl rfl ?_
        refine xnil ?_
        obtain ⟨m', hm, hI⟩ := hag2 _ h
        exact xagain ⟨(x79 + 1), (Arr.set f80 ((y98.toNat : Int) : Int).toNat true), hI, rfl⟩ hm ⟨(.cons rfl (.refl _) (.cons rfl (.refl _) (.cons rfl (.refl _) (.cons rfl (.refl _) (.cons rfl (.refl _) (.cons rfl (.refl _) (.cons rfl (.refl _) (.cons rfl (.refl _) (.nil _))))))))), (SubM.of (.keep rfl rfl (.refl _) (.keep rfl rfl (.refl _) (.keep rfl rfl (.refl _) (.nil _)))) (.nil _))⟩
      · replace h := h.2 hp97
        refine xcondF' (decide_eq_false hp97) rfl ?_
        refine xexit ?_
        refine xthen_exit ?_
        refine xthen_exit ?_
        refine xin_same rfl ?_
        refine xthen ?_
        refine xseq ?_
        refine xregion ?_
        refine xvalP (pv_assign rfl) rfl rfl ?_
        refine xnil ?_
        refine xthen ?_
        refine xseq ?_
        refine xseq ?_
        refine xregion ?_
        refine xvalP (pv_assign rfl) rfl rfl ?_
        refine xnil ?_
        refine xthen ?_
        refine xblock ?_
        obtain ⟨Inv, ⟨m0, hI⟩, hS⟩ := h
        refine xloop (fun σ m => ∃ (x327 : Bool), ∃ (x328 : Int), ∃ (f329 : Arr 256 (Bool)), ∃ (f330 : Arr 256 (Bool)), Inv (x327, x328, f329, f330) m ∧ σ = ⟨[(0, .sl 1 none (List.map eb x1)), (1, .v (.int .u8 ((x2.toNat : Int)))), (2, .v (.int .u8 ((x3.toNat : Int)))), (3, .v (.string x4)), (9, .v (.pointer (some ⟨b9, 0, none⟩))), (10, .v (.pointer (some ⟨b10, 0, none⟩))), (11, .v (.pointer (some ⟨b11, 0, none⟩))), (13, .v (.bool x327)), (14, .v (.int .i64 x328))], [⟨b11, 37, ((List.map eB f330.l).flatten)⟩, ⟨b10, 37, ((List.map eB f329.l).flatten)⟩, ⟨b9, 37, ((List.map eB f80.l).flatten)⟩], []⟩) ⟨false, 0, (Arr.rep 256 false), (Arr.rep 256 false), hI, rfl⟩ ⟨(.cons rfl (.refl _) (.cons rfl (.refl _) (.cons rfl (.refl _) (.cons rfl (.refl _) (.cons rfl (.refl _) (.cons rfl (.refl _) (.cons rfl (.refl _) (.cons rfl (.refl _) (.cons rfl (.refl _) (.nil _)))))))))), (SubM.of (.keep rfl rfl (.refl _) (.keep rfl rfl (.refl _) (.keep rfl rfl (.refl _) (.nil _)))) (.nil _))⟩ ?_
        rintro _ m ⟨x327, x328, f329, f330, hI, rfl⟩
        obtain ⟨ag3, hag3, h⟩ : ∃ ag, (∀ s', ag s' → ∃ m', m' < m ∧ Inv s' m') ∧ palinodelaw05_ClassMakes_l3 x2 x4 x3 x1 f80 ag x327 x328 f329 f330 r := ⟨_, fun _ h => h, hS (x327, x328, f329, f330) _ hI⟩
        clear hS hI
        refine xseq ?_
        refine xseq ?_
        refine xregion ?_
        refine xvalP (pv_move rfl) rfl rfl ?_
        refine xvalP (pv_bin2 rfl rfl rfl) rfl rfl ?_
        refine xnil ?_
        refine xthen ?_
        by_cases hp389 : x328 < 256
        · replace h := h.1 hp389
          refine xcondT' (decide_eq_true hp389) rfl ?_
          refine xskipc ?_
          refine xthen ?_
          refine xseq ?_
          refine xblock ?_
          refine xseqM (fun σ => ∃ (f424 : Arr 256 (Bool)), palinodelaw05_ClassMakes_j4 x328 x4 f330 ag3 f424 r ∧ σ = ⟨[(0, .sl 1 none (List.map eb x1)), (1, .v (.int .u8 ((x2.toNat : Int)))), (2, .v (.int .u8 ((x3.toNat : Int)))), (3, .v (.string x4)), (9, .v (.pointer (some ⟨b9, 0, none⟩))), (10, .v (.pointer (some ⟨b10, 0, none⟩))), (11, .v (.pointer (some ⟨b11, 0, none⟩))), (14, .v (.int .i64 x328))], [⟨b11, 37, ((List.map eB f330.l).flatten)⟩, ⟨b10, 37, ((List.map eB f424.l).flatten)⟩, ⟨b9, 37, ((List.map eB f80.l).flatten)⟩], []⟩) ?_ ?_
          · refine xregion ?_
            refine xvalP (pv_move rfl) rfl rfl ?_
            refine xvalP (pv_move rfl) rfl rfl ?_
            refine xvalP (pv_move rfl) rfl rfl ?_
            refine xvalP (pv_convW (w8 x2) UndC.h UndC.h rfl) rfl rfl ?_
            refine xvalP (pv_bin2 rfl rfl rfl) rfl rfl ?_
            refine xvalP (pv_move rfl) rfl rfl ?_
            by_cases hp427 : (x2.toNat : Int) ≤ x328
            · replace h := h.1 hp427
              refine xsetB 46 (decide_eq_true hp427) rfl ?_
              refine xvalP (pv_move rfl) rfl rfl ?_
              refine xvalP (pv_move rfl) rfl rfl ?_
              refine xvalP (pv_convW (w8 x3) UndC.h UndC.h rfl) rfl rfl ?_
              refine xvalP (pv_bin2 rfl rfl rfl) rfl rfl ?_
              refine xvalP (pv_pick rfl rfl) rfl rfl ?_
              obtain ⟨h430, h⟩ := h
              obtain ⟨y431, h430b, h⟩ := h
              refine xvalP (pv_indexAddrBA h430 UndC.h ShpC.h rfl rfl) rfl rfl ?_
              refine xstoreA (f := eB) (a := f329) (k := 1) (off := 0) (i := (x328 : Int).toNat) 1 [] [] (decide (x328 ≤ (x3.toNat : Int))) h430b (by first | rfl | exact (List.append_nil _).symm | exact List.append_nil _ | exact List.append_assoc _ _ _ | exact (List.append_assoc _ _ _).symm | exact congrArg _ (List.append_nil _).symm | exact congrArg _ (List.append_nil _) | (simp; done) | (simp [cellsS]; done)) (by first | rfl | omega | (simp only [List.length_cons, List.length_nil]; omega) | (simp only [seg_len, List.length_append, List.length_cons, List.length_nil]; omega)) (by decide) ShpC.h rfl rfl rfl rfl (by first | rfl | exact seg_lenE (by rfl) | exact len_app rfl (seg_lenE (by rfl)) (by rfl) | exact len_app (seg_lenE (by rfl)) rfl (by rfl) | exact len_app rfl (len_app (seg_lenE (by rfl)) rfl (by rfl)) (by rfl) | (simp only [seg_len, cellsS, List.length_append, List.length_cons, List.length_nil]; done) | (simp only [seg_len, cellsS, List.length_append, List.length_cons, List.length_nil]; rfl)) rfl rfl ?_
              refine xreb 1 ((List.map eB ((Arr.set f329 (x328 : Int).toNat ((decide (x328 ≤ (x3.toNat : Int)))))).l).flatten) rfl (by first | rfl | exact (List.append_nil _).symm | exact List.append_nil _ | exact List.append_assoc _ _ _ | exact (List.append_assoc _ _ _).symm | exact congrArg _ (List.append_nil _).symm | exact congrArg _ (List.append_nil _) | (simp; done) | (simp [cellsS]; done)) ?_
              refine xnil ?_
              exact xmeet ⟨(Arr.set f329 (x328 : Int).toNat ((decide (x328 ≤ (x3.toNat : Int))))), h, rfl⟩ ⟨(.cons rfl (.refl _) (.cons rfl (.refl _) (.cons rfl (.refl _) (.cons rfl (.refl _) (.cons rfl (.refl _) (.cons rfl (.refl _) (.cons rfl (.refl _) (.cons rfl (.refl _) (.nil _))))))))), (SubM.of (.keep rfl rfl (.refl _) (.keep rfl rfl (.refl _) (.keep rfl rfl (.refl _) (.nil _)))) (.nil _))⟩
            · replace h := h.2 hp427
              refine xsetB 46 (decide_eq_false hp427) rfl ?_
              refine xskip rfl rfl ?_
              refine xskip rfl rfl ?_
              refine xskip rfl rfl ?_
              refine xskip rfl rfl ?_
              refine xvalP (pv_pick rfl rfl) rfl rfl ?_
              obtain ⟨h432, h⟩ := h
              obtain ⟨y433, h432b, h⟩ := h
              refine xvalP (pv_indexAddrBA h432 UndC.h ShpC.h rfl rfl) rfl rfl ?_
              refine xstoreA (f := eB) (a := f329) (k := 1) (off := 0) (i := (x328 : Int).toNat) 1 [] [] false h432b (by first | rfl | exact (List.append_nil _).symm | exact List.append_nil _ | exact List.append_assoc _ _ _ | exact (List.append_assoc _ _ _).symm | exact congrArg _ (List.append_nil _).symm | exact congrArg _ (List.append_nil _) | (simp; done) | (simp [cellsS]; done)) (by first | rfl | omega | (simp only [List.length_cons, List.length_nil]; omega) | (simp only [seg_len, List.length_append, List.length_cons, List.length_nil]; omega)) (by decide) ShpC.h rfl rfl rfl rfl (by first | rfl | exact seg_lenE (by rfl) | exact len_app rfl (seg_lenE (by rfl)) (by rfl) | exact len_app (seg_lenE (by rfl)) rfl (by rfl) | exact len_app rfl (len_app (seg_lenE (by rfl)) rfl (by rfl)) (by rfl) | (simp only [seg_len, cellsS, List.length_append, List.length_cons, List.length_nil]; done) | (simp only [seg_len, cellsS, List.length_append, List.length_cons, List.length_nil]; rfl)) rfl rfl ?_
              refine xreb 1 ((List.map eB ((Arr.set f329 (x328 : Int).toNat false)).l).flatten) rfl (by first | rfl | exact (List.append_nil _).symm | exact List.append_nil _ | exact List.append_assoc _ _ _ | exact (List.append_assoc _ _ _).symm | exact congrArg _ (List.append_nil _).symm | exact congrArg _ (List.append_nil _) | (simp; done) | (simp [cellsS]; done)) ?_
              refine xnil ?_
              exact xmeet ⟨(Arr.set f329 (x328 : Int).toNat false), h, rfl⟩ ⟨(.cons rfl (.refl _) (.cons rfl (.refl _) (.cons rfl (.refl _) (.cons rfl (.refl _) (.cons rfl (.refl _) (.cons rfl (.refl _) (.cons rfl (.refl _) (.cons rfl (.refl _) (.nil _))))))))), (SubM.of (.keep rfl rfl (.refl _) (.keep rfl rfl (.refl _) (.keep rfl rfl (.refl _) (.nil _)))) (.nil _))⟩
          · clear h
            rintro _ ⟨f424, h, rfl⟩
            refine xregion ?_
            refine xvalP (pv_move rfl) rfl rfl ?_
            refine xvalP (pv_move rfl) rfl rfl ?_
            refine xvalP (pv_move rfl) rfl rfl ?_
            obtain ⟨c435, h434, h⟩ := h
            refine xvalP (pv_convW h434 UndC.h UndC.h rfl) rfl rfl ?_
            obtain ⟨y437, h436, h⟩ := h
            refine xcallF (Fb := [⟨b11, 37, ((List.map eB f330.l).flatten)⟩, ⟨b10, 37, ((List.map eB f424.l).flatten)⟩, ⟨b9, 37, ((List.map eB f80.l).flatten)⟩]) (Ft := []) (palinoderef01_Is_con x4 c435 _ h436) Try.func17 (by kernel_rfl) rfl (.cons rfl (.refl _) (.cons rfl (.refl _) .nil)) (by exact (SubM.of (by repeat (first | with_reducible exact SubB.refl _ | exact SubB.nil _ | refine SubB.keep rfl rfl (by first | with_reducible exact WkL.refl _ | ((repeat (first | exact WkL.nil | refine WkL.cons (by first | with_reducible exact Wk.refl _ | exact Wk.nil_own _ | exact Wk.nil_pl _ | with_reducible exact Wk.tok _ _ _ | exact Wk.tok _ _ _ | exact Wk.eq (by first | rfl | (simp []; done) | (simp []; omega))) ?_)); done) | exact WkL.refl _) ?_ | refine SubB.drop ?_)) (by repeat (first | exact SubT.nil _ | refine SubT.add ?_ | (refine SubT.keep ?_ ?_; focus (first | with_reducible rfl | (simp []; done))) | refine SubT.drop ?_)))) rfl rfl ?_
            rintro _ _ _ ⟨rfl, rfl, rfl⟩
            simp only [List.nil_append, List.cons_append]
            refine xvalP (pv_move rfl) rfl rfl ?_
            refine xvalP (pv_extract rfl rfl) rfl rfl ?_
            refine xvalP (pv_extract rfl rfl) rfl rfl ?_
            obtain ⟨h438, h⟩ := h
            obtain ⟨y439, h438b, h⟩ := h
            refine xvalP (pv_indexAddrBA h438 UndC.h ShpC.h rfl rfl) rfl rfl ?_
            refine xstoreA (f := eB) (a := f330) (k := 1) (off := 0) (i := (x328 : Int).toNat) 0 [] [] y437.1 h438b (by first | rfl | exact (List.append_nil _).symm | exact List.append_nil _ | exact List.append_assoc _ _ _ | exact (List.append_assoc _ _ _).symm | exact congrArg _ (List.append_nil _).symm | exact congrArg _ (List.append_nil _) | (simp; done) | (simp [cellsS]; done)) (by first | rfl | omega | (simp only [List.length_cons, List.length_nil]; omega) | (simp only [seg_len, List.length_append, List.length_cons, List.length_nil]; omega)) (by decide) ShpC.h rfl rfl rfl rfl (by first | rfl | exact seg_lenE (by rfl) | exact len_app rfl (seg_lenE (by rfl)) (by rfl) | exact len_app (seg_lenE (by rfl)) rfl (by rfl) | exact len_app rfl (len_app (seg_lenE (by rfl)) rfl (by rfl)) (by rfl) | (simp only [seg_len, cellsS, List.length_append, List.length_cons, List.length_nil]; done) | (simp only [seg_len, cellsS, List.length_append, List.length_cons, List.length_nil]; rfl)) rfl rfl ?_
            refine xreb 0 ((List.map eB ((Arr.set f330 (x328 : Int).toNat y437.1)).l).flatten) rfl (by first | rfl | exact (List.append_nil _).symm | exact List.append_nil _ | exact List.append_assoc _ _ _ | exact (List.append_assoc _ _ _).symm | exact congrArg _ (List.append_nil _).symm | exact congrArg _ (List.append_nil _) | (simp; done) | (simp [cellsS]; done)) ?_
            refine xvalP (pv_assign rfl) rfl rfl ?_
            refine xnil ?_
            refine xin_normal ?_
            refine xthen ?_
            refine xregion ?_
            refine xvalP (pv_move rfl) rfl rfl ?_
            obtain ⟨h440, h⟩ := h
            refine xvalP (pv_addI h440 rfl rfl) rfl rfl ?_
            refine xvalP (pv_assign rfl) rfl rfl ?_
            refine xnil ?_
            obtain ⟨m', hm, hI⟩ := hag3 _ h
            exact xagain ⟨y437.2, (x328 + 1), f424, (Arr.set f330 (x328 : Int).toNat y437.1), hI, rfl⟩ hm ⟨(.cons rfl (.refl _) (.cons rfl (.refl _) (.cons rfl (.refl _) (.cons rfl (.refl _) (.cons rfl (.refl _) (.cons rfl (.refl _) (.cons rfl (.refl _) (.cons rfl (.refl _) (.cons rfl (.refl _) (.nil _)))))))))), (SubM.of (.keep rfl rfl (.refl _) (.keep rfl rfl (.refl _) (.keep rfl rfl (.refl _) (.nil _)))) (.nil _))⟩
        · replace h := h.2 hp389
          refine xcondF' (decide_eq_false hp389) rfl ?_
          refine xexit ?_
          refine xthen_exit ?_
          refine xthen_exit ?_
          refine xin_same rfl ?_
          refine xthen ?_
          refine xseq ?_
          refine xregion ?_
          refine xvalP (pv_move rfl) rfl rfl ?_
          obtain ⟨y442, h441, h⟩ := h
          refine xcallF (Fb := [⟨b11, 37, ((List.map eB f330.l).flatten)⟩, ⟨b10, 37, ((List.map eB f329.l).flatten)⟩, ⟨b9, 37, ((List.map eB f80.l).flatten)⟩]) (Ft := []) (class_Named_con x4 _ h441) Try.func18 (by kernel_rfl) rfl (.cons rfl (.refl _) .nil) (by exact (SubM.of (by repeat (first | with_reducible exact SubB.refl _ | exact SubB.nil _ | refine SubB.keep rfl rfl (by first | with_reducible exact WkL.refl _ | ((repeat (first | exact WkL.nil | refine WkL.cons (by first | with_reducible exact Wk.refl _ | exact Wk.nil_own _ | exact Wk.nil_pl _ | with_reducible exact Wk.tok _ _ _ | exact Wk.tok _ _ _ | exact Wk.eq (by first | rfl | (simp []; done) | (simp []; omega))) ?_)); done) | exact WkL.refl _) ?_ | refine SubB.drop ?_)) (by repeat (first | exact SubT.nil _ | refine SubT.add ?_ | (refine SubT.keep ?_ ?_; focus (first | with_reducible rfl | (simp []; done))) | refine SubT.drop ?_)))) rfl rfl ?_
          rintro _ _ _ ⟨rfl, rfl, rfl⟩
          simp only [List.nil_append, List.cons_append]
          refine xvalP (pv_move rfl) rfl rfl ?_
          refine xvalP (pv_extract rfl rfl) rfl rfl ?_
          refine xvalP (pv_extract rfl rfl) rfl rfl ?_
          refine xalloc InfC.h rfl rfl fun b15 => ?_
          refine xreb 0 ((List.map ew ((Arr.rep 4 (0 : UInt64))).l).flatten) rfl rfl ?_
          refine xstoreP 0 [] ((List.map ew ((Arr.rep 4 (0 : UInt64))).l).flatten) [] (by first | rfl | exact (List.append_nil _).symm | exact List.append_nil _ | exact List.append_assoc _ _ _ | exact (List.append_assoc _ _ _).symm | exact congrArg _ (List.append_nil _).symm | exact congrArg _ (List.append_nil _) | (simp; done) | (simp [cellsS]; done)) (by first | rfl | exact seg_lenE (by rfl) | exact len_app rfl (seg_lenE (by rfl)) (by rfl) | exact len_app (seg_lenE (by rfl)) rfl (by rfl) | exact len_app rfl (len_app (seg_lenE (by rfl)) rfl (by rfl)) (by rfl) | (simp only [seg_len, cellsS, List.length_append, List.length_cons, List.length_nil]; done) | (simp only [seg_len, cellsS, List.length_append, List.length_cons, List.length_nil]; rfl)) (by first | rfl | exact seg_lenE (by rfl) | exact len_app rfl (seg_lenE (by rfl)) (by rfl) | exact len_app (seg_lenE (by rfl)) rfl (by rfl) | exact len_app rfl (len_app (seg_lenE (by rfl)) rfl (by rfl)) (by rfl) | (simp only [seg_len, cellsS, List.length_append, List.length_cons, List.length_nil]; done) | (simp only [seg_len, cellsS, List.length_append, List.length_cons, List.length_nil]; rfl)) ShpC.h rfl rfl rfl rfl (by first | rfl | exact seg_lenE (by rfl) | exact len_app rfl (seg_lenE (by rfl)) (by rfl) | exact len_app (seg_lenE (by rfl)) rfl (by rfl) | exact len_app rfl (len_app (seg_lenE (by rfl)) rfl (by rfl)) (by rfl) | (simp only [seg_len, cellsS, List.length_append, List.length_cons, List.length_nil]; done) | (simp only [seg_len, cellsS, List.length_append, List.length_cons, List.length_nil]; rfl)) rfl ?_
          refine xreb 0 ((List.map ew y442.1.l).flatten) rfl (by first | rfl | exact (List.append_nil _).symm | exact List.append_nil _ | exact List.append_assoc _ _ _ | exact (List.append_assoc _ _ _).symm | exact congrArg _ (List.append_nil _).symm | exact congrArg _ (List.append_nil _) | (simp; done) | (simp [cellsS]; done)) ?_
          refine xvalP (pv_assign rfl) rfl rfl ?_
          refine xnil ?_
          refine xthen ?_
          refine xseqM (fun σ => ∃ (x466 : Bool), palinodelaw05_ClassMakes_j5 x466 r ∧ σ = ⟨[(8, .v (.bool x466))], [], []⟩) ?_ ?_
          · refine xregionD (m := 28) (by kernel_rfl) rfl ?_
            obtain ⟨y468, h467, h⟩ := h
            obtain ⟨y470, h469, h⟩ := h
            refine xpcut 25 #[true, true, true, false, false, false, false, false, false, false, false, false, false, false, false, false, false, false, false, false, false, false, false, false, false, false, false, false] (fun σ => σ = ⟨[(1, .v (.int .u8 ((x2.toNat : Int)))), (2, .v (.int .u8 ((x3.toNat : Int)))), (10, .v (.pointer (some ⟨b10, 0, none⟩))), (11, .v (.pointer (some ⟨b11, 0, none⟩))), (13, .v (.bool x327)), (15, .v (.pointer (some ⟨b15, 0, none⟩))), (16, .v (.bool y442.2)), (68, .agg ((List.map ew y468.l).flatten)), (69, .agg ((List.map eB f80.l).flatten))], [⟨b15, 24, ((List.map ew y442.1.l).flatten)⟩, ⟨b11, 37, ((List.map eB f330.l).flatten)⟩, ⟨b10, 37, ((List.map eB f329.l).flatten)⟩], []⟩) ?_ (fun key472 => ?_)
            · rintro _ rfl
              refine xpstep (i := 3) (by kernel_rfl) rfl ?_
              refine wcall0 (palinoderef05_Of_con f80 _ h469) Try.func19 (by kernel_rfl) rfl (.cons rfl (.refl _) .nil) rfl rfl ?_
              refine xpval 4 rfl (pv_eqAgg (f := E_palinode_api_Set) (a := y468) (b := y470) (eqC_arr (t := 24) (e := 22) (f := ew) UndC.h ShpC.h (by kernel_rfl) inferInstance (fun _ => rfl)) (by decide) (by kernel_rfl) (by first | rfl | exact congrArg (fun q => some (Sd.agg q)) (by first | rfl | exact (List.append_nil _).symm | exact List.append_nil _ | exact List.append_assoc _ _ _ | exact (List.append_assoc _ _ _).symm | exact congrArg _ (List.append_nil _).symm | exact congrArg _ (List.append_nil _) | (simp; done) | (simp [cellsS]; done))) (by first | rfl | exact congrArg (fun q => some (Sd.agg q)) (by first | rfl | exact (List.append_nil _).symm | exact List.append_nil _ | exact List.append_assoc _ _ _ | exact (List.append_assoc _ _ _).symm | exact congrArg _ (List.append_nil _).symm | exact congrArg _ (List.append_nil _) | (simp; done) | (simp [cellsS]; done)))) rfl rfl (by kernel_rfl) (by kernel_rfl) (by kernel_rfl) (fun _ _ _ _ h => h) ?_
              refine xpval 5 rfl (pv_move rfl) rfl rfl (by kernel_rfl) (by kernel_rfl) (by kernel_rfl) (fun _ _ _ _ h => h) ?_
              by_cases hp473 : (y468 : Arr 4 (UInt64)) = y470
              · replace h := h.1 hp473
                refine psetB 72 (decide_eq_true hp473) rfl ?_
                obtain ⟨y475, h474, h⟩ := h
                obtain ⟨y477, h476, h⟩ := h
                refine xpcut 18 #[true, true, true, true, true, true, true, true, true, true, false, false, false, false, false, false, false, false, false, false, false, false, false, false, false, false, false, false] (fun σ => σ = ⟨[(11, .v (.pointer (some ⟨b11, 0, none⟩))), (13, .v (.bool x327)), (15, .v (.pointer (some ⟨b15, 0, none⟩))), (16, .v (.bool y442.2)), (72, .v (.bool true)), (75, .agg ((List.map ew y475.l).flatten)), (76, .agg ((List.map eB f329.l).flatten))], [⟨b15, 24, ((List.map ew y442.1.l).flatten)⟩, ⟨b11, 37, ((List.map eB f330.l).flatten)⟩], []⟩) ?_ (fun key479 => ?_)
                · rintro _ rfl
                  refine xpstep (i := 10) (by kernel_rfl) rfl ?_
                  refine wcall0 (palinoderef05_Of_con f329 _ h476) Try.func19 (by kernel_rfl) rfl (.cons rfl (.refl _) .nil) rfl rfl ?_
                  refine xpval 11 rfl (pv_eqAgg (f := E_palinode_api_Set) (a := y475) (b := y477) (eqC_arr (t := 24) (e := 22) (f := ew) UndC.h ShpC.h (by kernel_rfl) inferInstance (fun _ => rfl)) (by decide) (by kernel_rfl) (by first | rfl | exact congrArg (fun q => some (Sd.agg q)) (by first | rfl | exact (List.append_nil _).symm | exact List.append_nil _ | exact List.append_assoc _ _ _ | exact (List.append_assoc _ _ _).symm | exact congrArg _ (List.append_nil _).symm | exact congrArg _ (List.append_nil _) | (simp; done) | (simp [cellsS]; done))) (by first | rfl | exact congrArg (fun q => some (Sd.agg q)) (by first | rfl | exact (List.append_nil _).symm | exact List.append_nil _ | exact List.append_assoc _ _ _ | exact (List.append_assoc _ _ _).symm | exact congrArg _ (List.append_nil _).symm | exact congrArg _ (List.append_nil _) | (simp; done) | (simp [cellsS]; done)))) rfl rfl (by kernel_rfl) (by kernel_rfl) (by kernel_rfl) (fun _ _ _ _ h => h) ?_
                  refine xpval 12 rfl (pv_pick rfl rfl) rfl rfl (by kernel_rfl) (by kernel_rfl) (by kernel_rfl) (fun _ _ _ _ h => h) ?_
                  refine xpval 13 rfl (pv_move rfl) rfl rfl (by kernel_rfl) (by kernel_rfl) (by kernel_rfl) (fun _ _ _ _ h => h) ?_
                  by_cases hp480 : (y475 : Arr 4 (UInt64)) = y477
                  · replace h := h.1 hp480
                    refine psetB 80 (decide_eq_true hp480) rfl ?_
                    obtain ⟨y482, h481, h⟩ := h
                    refine xpcut 8 #[true, true, true, true, true, true, true, true, true, true, true, true, true, true, true, true, true, true, true, true, false, false, false, false, false, false, false, false] (fun σ => σ = ⟨[(13, .v (.bool x327)), (16, .v (.bool y442.2)), (86, .v (.bool (decide ((y442.1 : Arr 4 (UInt64)) = y482))))], [], []⟩) ?_ (fun key484 => ?_)
                    · rintro _ rfl
                      by_cases hp485 : (y442.1 : Arr 4 (UInt64)) = y482
                      · replace h := h.1 hp485
                        refine psetB 86 (decide_eq_true hp485) rfl ?_
                        refine xpval 20 rfl (pv_move rfl) rfl rfl (by kernel_rfl) (by kernel_rfl) (by kernel_rfl) (fun _ _ _ _ h => h) ?_
                        refine xpval 21 rfl (pv_move rfl) rfl rfl (by kernel_rfl) (by kernel_rfl) (by kernel_rfl) (fun _ _ _ _ h => h) ?_
                        refine xpval 22 rfl (pv_eqB UndC.h rfl rfl) rfl rfl (by kernel_rfl) (by kernel_rfl) (by kernel_rfl) (fun _ _ _ _ h => h) ?_
                        refine xpval 23 rfl (pv_pick rfl rfl) rfl rfl (by kernel_rfl) (by kernel_rfl) (by kernel_rfl) (fun _ _ _ _ h => h) ?_
                        refine xpval 24 rfl (pv_move rfl) rfl rfl (by kernel_rfl) (by kernel_rfl) (by kernel_rfl) (fun _ _ _ _ h => h) ?_
                        by_cases hp487 : (y442.2 == x327) = true
                        · replace h := h.1 hp487
                          refine psetB 91 hp487 rfl ?_
                          obtain ⟨y489, h488, h⟩ := h
                          refine xpstep (i := 25) (by kernel_rfl) rfl ?_
                          refine wcall0 (palinodelaw05_awake_con _ h488) Try.func14 (by kernel_rfl) rfl .nil rfl rfl ?_
                          refine xpval 26 rfl (pv_pick rfl rfl) rfl rfl (by kernel_rfl) (by kernel_rfl) (by kernel_rfl) (fun _ _ _ _ h => h) ?_
                          refine xpval 27 rfl (pv_assign rfl) rfl rfl (by kernel_rfl) (by kernel_rfl) (by kernel_rfl) (fun _ _ _ _ h => h) ?_
                          refine xpdone (by kernel_rfl) ?_
                          exact xmeet ⟨y489, h, rfl⟩ ⟨(.cons rfl (.refl _) (.nil _)), (SubM.of (.nil _) (.nil _))⟩
                        · replace h := h.2 hp487
                          refine psetB 91 (b_f hp487) rfl ?_
                          refine xpskip 25 rfl rfl rfl (by kernel_rfl) (by kernel_rfl) (by kernel_rfl) (fun _ _ _ _ h => h) ?_
                          refine xpval 26 rfl (pv_pick rfl rfl) rfl rfl (by kernel_rfl) (by kernel_rfl) (by kernel_rfl) (fun _ _ _ _ h => h) ?_
                          refine xpval 27 rfl (pv_assign rfl) rfl rfl (by kernel_rfl) (by kernel_rfl) (by kernel_rfl) (fun _ _ _ _ h => h) ?_
                          refine xpdone (by kernel_rfl) ?_
                          exact xmeet ⟨false, h, rfl⟩ ⟨(.cons rfl (.refl _) (.nil _)), (SubM.of (.nil _) (.nil _))⟩
                      · replace h := h.2 hp485
                        refine psetB 86 (decide_eq_false hp485) rfl ?_
                        refine xpskip 20 rfl rfl rfl (by kernel_rfl) (by kernel_rfl) (by kernel_rfl) (fun _ _ _ _ h => h) ?_
                        refine xpskip 21 rfl rfl rfl (by kernel_rfl) (by kernel_rfl) (by kernel_rfl) (fun _ _ _ _ h => h) ?_
                        refine xpskip 22 rfl rfl rfl (by kernel_rfl) (by kernel_rfl) (by kernel_rfl) (fun _ _ _ _ h => h) ?_
                        refine xpval 23 rfl (pv_pick rfl rfl) rfl rfl (by kernel_rfl) (by kernel_rfl) (by kernel_rfl) (fun _ _ _ _ h => h) ?_
                        refine xpval 24 rfl (pv_move rfl) rfl rfl (by kernel_rfl) (by kernel_rfl) (by kernel_rfl) (fun _ _ _ _ h => h) ?_
                        refine xpskip 25 rfl rfl rfl (by kernel_rfl) (by kernel_rfl) (by kernel_rfl) (fun _ _ _ _ h => h) ?_
                        refine xpval 26 rfl (pv_pick rfl rfl) rfl rfl (by kernel_rfl) (by kernel_rfl) (by kernel_rfl) (fun _ _ _ _ h => h) ?_
                        refine xpval 27 rfl (pv_assign rfl) rfl rfl (by kernel_rfl) (by kernel_rfl) (by kernel_rfl) (fun _ _ _ _ h => h) ?_
                        refine xpdone (by kernel_rfl) ?_
                        exact xmeet ⟨false, h, rfl⟩ ⟨(.cons rfl (.refl _) (.nil _)), (SubM.of (.nil _) (.nil _))⟩
                    refine xpvalE 15 [14] rfl (qv_loadP 1 [] ((List.map eB f330.l).flatten) [] (by first | rfl | exact (List.append_nil _).symm | exact List.append_nil _ | exact List.append_assoc _ _ _ | exact (List.append_assoc _ _ _).symm | exact congrArg _ (List.append_nil _).symm | exact congrArg _ (List.append_nil _) | (simp; done) | (simp [cellsS]; done)) (by first | rfl | exact seg_lenE (by rfl) | exact len_app rfl (seg_lenE (by rfl)) (by rfl) | exact len_app (seg_lenE (by rfl)) rfl (by rfl) | exact len_app rfl (len_app (seg_lenE (by rfl)) rfl (by rfl)) (by rfl) | (simp only [seg_len, cellsS, List.length_append, List.length_cons, List.length_nil]; done) | (simp only [seg_len, cellsS, List.length_append, List.length_cons, List.length_nil]; rfl)) (by first | rfl | exact seg_lenE (by rfl) | exact len_app rfl (seg_lenE (by rfl)) (by rfl) | exact len_app (seg_lenE (by rfl)) rfl (by rfl) | exact len_app rfl (len_app (seg_lenE (by rfl)) rfl (by rfl)) (by rfl) | (simp only [seg_len, cellsS, List.length_append, List.length_cons, List.length_nil]; done) | (simp only [seg_len, cellsS, List.length_append, List.length_cons, List.length_nil]; rfl)) (part_all (seg_lenE (by rfl))) ShpC.h rfl rfl) rfl rfl (by kernel_rfl) (by kernel_rfl) (by kernel_rfl) (fun _ _ _ _ h => h) ?_
                    refine xpstepN (is := [14, 16]) (by kernel_rfl) (by simp) ?_
                    intro i hi; simp only [List.mem_cons, List.not_mem_nil, or_false] at hi; rcases hi with rfl | rfl
                    · refine ⟨_, rfl, ?_⟩
                      refine wval (qv_loadP 0 [] ((List.map ew y442.1.l).flatten) [] (by first | rfl | exact (List.append_nil _).symm | exact List.append_nil _ | exact List.append_assoc _ _ _ | exact (List.append_assoc _ _ _).symm | exact congrArg _ (List.append_nil _).symm | exact congrArg _ (List.append_nil _) | (simp; done) | (simp [cellsS]; done)) (by first | rfl | exact seg_lenE (by rfl) | exact len_app rfl (seg_lenE (by rfl)) (by rfl) | exact len_app (seg_lenE (by rfl)) rfl (by rfl) | exact len_app rfl (len_app (seg_lenE (by rfl)) rfl (by rfl)) (by rfl) | (simp only [seg_len, cellsS, List.length_append, List.length_cons, List.length_nil]; done) | (simp only [seg_len, cellsS, List.length_append, List.length_cons, List.length_nil]; rfl)) (by first | rfl | exact seg_lenE (by rfl) | exact len_app rfl (seg_lenE (by rfl)) (by rfl) | exact len_app (seg_lenE (by rfl)) rfl (by rfl) | exact len_app rfl (len_app (seg_lenE (by rfl)) rfl (by rfl)) (by rfl) | (simp only [seg_len, cellsS, List.length_append, List.length_cons, List.length_nil]; done) | (simp only [seg_len, cellsS, List.length_append, List.length_cons, List.length_nil]; rfl)) (part_all (seg_lenE (by rfl))) ShpC.h rfl rfl) rfl rfl ?_
                      refine xpstep (i := 16) (by kernel_rfl) rfl ?_
                      refine wcall0 (palinoderef05_Of_con f330 _ h481) Try.func19 (by kernel_rfl) rfl (.cons rfl (.refl _) .nil) rfl rfl ?_
                      refine xpval 17 rfl (pv_eqAgg (f := E_palinode_api_Set) (a := y442.1) (b := y482) (eqC_arr (t := 24) (e := 22) (f := ew) UndC.h ShpC.h (by kernel_rfl) inferInstance (fun _ => rfl)) (by decide) (by kernel_rfl) (by first | rfl | exact congrArg (fun q => some (Sd.agg q)) (by first | rfl | exact (List.append_nil _).symm | exact List.append_nil _ | exact List.append_assoc _ _ _ | exact (List.append_assoc _ _ _).symm | exact congrArg _ (List.append_nil _).symm | exact congrArg _ (List.append_nil _) | (simp; done) | (simp [cellsS]; done))) (by first | rfl | exact congrArg (fun q => some (Sd.agg q)) (by first | rfl | exact (List.append_nil _).symm | exact List.append_nil _ | exact List.append_assoc _ _ _ | exact (List.append_assoc _ _ _).symm | exact congrArg _ (List.append_nil _).symm | exact congrArg _ (List.append_nil _) | (simp; done) | (simp [cellsS]; done)))) rfl rfl (by kernel_rfl) (by kernel_rfl) (by kernel_rfl) (fun _ _ _ _ h => h) ?_
                      refine xpval 18 rfl (pv_pick rfl rfl) rfl rfl (by kernel_rfl) (by kernel_rfl) (by kernel_rfl) (fun _ _ _ _ h => h) ?_
                      refine xpval 19 rfl (pv_move rfl) rfl rfl (by kernel_rfl) (by kernel_rfl) (by kernel_rfl) (fun _ _ _ _ h => h) ?_
                      exact xpuse key484 rfl ⟨(.cons rfl (.refl _) (.cons rfl (.refl _) (.cons rfl (.refl _) (.nil _)))), (SubM.of (.nil _) (.nil _))⟩ rfl (by kernel_rfl)
                    · refine ⟨_, rfl, ?_⟩
                      refine wcall0 (palinoderef05_Of_con f330 _ h481) Try.func19 (by kernel_rfl) rfl (.cons rfl (.refl _) .nil) rfl rfl ?_
                      refine xpvalE 14 [] rfl (qv_loadP 0 [] ((List.map ew y442.1.l).flatten) [] (by first | rfl | exact (List.append_nil _).symm | exact List.append_nil _ | exact List.append_assoc _ _ _ | exact (List.append_assoc _ _ _).symm | exact congrArg _ (List.append_nil _).symm | exact congrArg _ (List.append_nil _) | (simp; done) | (simp [cellsS]; done)) (by first | rfl | exact seg_lenE (by rfl) | exact len_app rfl (seg_lenE (by rfl)) (by rfl) | exact len_app (seg_lenE (by rfl)) rfl (by rfl) | exact len_app rfl (len_app (seg_lenE (by rfl)) rfl (by rfl)) (by rfl) | (simp only [seg_len, cellsS, List.length_append, List.length_cons, List.length_nil]; done) | (simp only [seg_len, cellsS, List.length_append, List.length_cons, List.length_nil]; rfl)) (by first | rfl | exact seg_lenE (by rfl) | exact len_app rfl (seg_lenE (by rfl)) (by rfl) | exact len_app (seg_lenE (by rfl)) rfl (by rfl) | exact len_app rfl (len_app (seg_lenE (by rfl)) rfl (by rfl)) (by rfl) | (simp only [seg_len, cellsS, List.length_append, List.length_cons, List.length_nil]; done) | (simp only [seg_len, cellsS, List.length_append, List.length_cons, List.length_nil]; rfl)) (part_all (seg_lenE (by rfl))) ShpC.h rfl rfl) rfl rfl (by kernel_rfl) (by kernel_rfl) (by kernel_rfl) (fun _ _ _ _ h => h) ?_
                      refine xpval 17 rfl (pv_eqAgg (f := E_palinode_api_Set) (a := y442.1) (b := y482) (eqC_arr (t := 24) (e := 22) (f := ew) UndC.h ShpC.h (by kernel_rfl) inferInstance (fun _ => rfl)) (by decide) (by kernel_rfl) (by first | rfl | exact congrArg (fun q => some (Sd.agg q)) (by first | rfl | exact (List.append_nil _).symm | exact List.append_nil _ | exact List.append_assoc _ _ _ | exact (List.append_assoc _ _ _).symm | exact congrArg _ (List.append_nil _).symm | exact congrArg _ (List.append_nil _) | (simp; done) | (simp [cellsS]; done))) (by first | rfl | exact congrArg (fun q => some (Sd.agg q)) (by first | rfl | exact (List.append_nil _).symm | exact List.append_nil _ | exact List.append_assoc _ _ _ | exact (List.append_assoc _ _ _).symm | exact congrArg _ (List.append_nil _).symm | exact congrArg _ (List.append_nil _) | (simp; done) | (simp [cellsS]; done)))) rfl rfl (by kernel_rfl) (by kernel_rfl) (by kernel_rfl) (fun _ _ _ _ h => h) ?_
                      refine xpval 18 rfl (pv_pick rfl rfl) rfl rfl (by kernel_rfl) (by kernel_rfl) (by kernel_rfl) (fun _ _ _ _ h => h) ?_
                      refine xpval 19 rfl (pv_move rfl) rfl rfl (by kernel_rfl) (by kernel_rfl) (by kernel_rfl) (fun _ _ _ _ h => h) ?_
                      exact xpuse key484 rfl ⟨(.cons rfl (.refl _) (.cons rfl (.refl _) (.cons rfl (.refl _) (.nil _)))), (SubM.of (.nil _) (.nil _))⟩ rfl (by kernel_rfl)
                  · replace h := h.2 hp480
                    refine psetB 80 (decide_eq_false hp480) rfl ?_
                    refine xpskip 14 rfl rfl rfl (by kernel_rfl) (by kernel_rfl) (by kernel_rfl) (fun _ _ _ _ h => h) ?_
                    refine xpskip 15 rfl rfl rfl (by kernel_rfl) (by kernel_rfl) (by kernel_rfl) (fun _ _ _ _ h => h) ?_
                    refine xpskip 16 rfl rfl rfl (by kernel_rfl) (by kernel_rfl) (by kernel_rfl) (fun _ _ _ _ h => h) ?_
                    refine xpskip 17 rfl rfl rfl (by kernel_rfl) (by kernel_rfl) (by kernel_rfl) (fun _ _ _ _ h => h) ?_
                    refine xpval 18 rfl (pv_pick rfl rfl) rfl rfl (by kernel_rfl) (by kernel_rfl) (by kernel_rfl) (fun _ _ _ _ h => h) ?_
                    refine xpval 19 rfl (pv_move rfl) rfl rfl (by kernel_rfl) (by kernel_rfl) (by kernel_rfl) (fun _ _ _ _ h => h) ?_
                    refine xpskip 20 rfl rfl rfl (by kernel_rfl) (by kernel_rfl) (by kernel_rfl) (fun _ _ _ _ h => h) ?_
                    refine xpskip 21 rfl rfl rfl (by kernel_rfl) (by kernel_rfl) (by kernel_rfl) (fun _ _ _ _ h => h) ?_
                    refine xpskip 22 rfl rfl rfl (by kernel_rfl) (by kernel_rfl) (by kernel_rfl) (fun _ _ _ _ h => h) ?_
                    refine xpval 23 rfl (pv_pick rfl rfl) rfl rfl (by kernel_rfl) (by kernel_rfl) (by kernel_rfl) (fun _ _ _ _ h => h) ?_
                    refine xpval 24 rfl (pv_move rfl) rfl rfl (by kernel_rfl) (by kernel_rfl) (by kernel_rfl) (fun _ _ _ _ h => h) ?_
                    refine xpskip 25 rfl rfl rfl (by kernel_rfl) (by kernel_rfl) (by kernel_rfl) (fun _ _ _ _ h => h) ?_
                    refine xpval 26 rfl (pv_pick rfl rfl) rfl rfl (by kernel_rfl) (by kernel_rfl) (by kernel_rfl) (fun _ _ _ _ h => h) ?_
                    refine xpval 27 rfl (pv_assign rfl) rfl rfl (by kernel_rfl) (by kernel_rfl) (by kernel_rfl) (fun _ _ _ _ h => h) ?_
                    refine xpdone (by kernel_rfl) ?_
                    exact xmeet ⟨false, h, rfl⟩ ⟨(.cons rfl (.refl _) (.nil _)), (SubM.of (.nil _) (.nil _))⟩
                refine xpval 6 rfl (pv_move rfl) rfl rfl (by kernel_rfl) (by kernel_rfl) (by kernel_rfl) (fun _ _ _ _ h => h) ?_
                refine xpval 7 rfl (pv_move rfl) rfl rfl (by kernel_rfl) (by kernel_rfl) (by kernel_rfl) (fun _ _ _ _ h => h) ?_
                refine xpstepN (is := [8, 9]) (by kernel_rfl) (by simp) ?_
                intro i hi; simp only [List.mem_cons, List.not_mem_nil, or_false] at hi; rcases hi with rfl | rfl
                · refine ⟨_, rfl, ?_⟩
                  refine wcall0 (class_Range_con x2 x3 _ h474) Try.func20 (by kernel_rfl) rfl (.cons rfl (.refl _) (.cons rfl (.refl _) .nil)) rfl rfl ?_
                  refine xpvalE 9 [] rfl (qv_loadP 2 [] ((List.map eB f329.l).flatten) [] (by first | rfl | exact (List.append_nil _).symm | exact List.append_nil _ | exact List.append_assoc _ _ _ | exact (List.append_assoc _ _ _).symm | exact congrArg _ (List.append_nil _).symm | exact congrArg _ (List.append_nil _) | (simp; done) | (simp [cellsS]; done)) (by first | rfl | exact seg_lenE (by rfl) | exact len_app rfl (seg_lenE (by rfl)) (by rfl) | exact len_app (seg_lenE (by rfl)) rfl (by rfl) | exact len_app rfl (len_app (seg_lenE (by rfl)) rfl (by rfl)) (by rfl) | (simp only [seg_len, cellsS, List.length_append, List.length_cons, List.length_nil]; done) | (simp only [seg_len, cellsS, List.length_append, List.length_cons, List.length_nil]; rfl)) (by first | rfl | exact seg_lenE (by rfl) | exact len_app rfl (seg_lenE (by rfl)) (by rfl) | exact len_app (seg_lenE (by rfl)) rfl (by rfl) | exact len_app rfl (len_app (seg_lenE (by rfl)) rfl (by rfl)) (by rfl) | (simp only [seg_len, cellsS, List.length_append, List.length_cons, List.length_nil]; done) | (simp only [seg_len, cellsS, List.length_append, List.length_cons, List.length_nil]; rfl)) (part_all (seg_lenE (by rfl))) ShpC.h rfl rfl) rfl rfl (by kernel_rfl) (by kernel_rfl) (by kernel_rfl) (fun _ _ _ _ h => h) ?_
                  exact xpuse key479 rfl ⟨(.cons rfl (.refl _) (.cons rfl (.refl _) (.cons rfl (.refl _) (.cons rfl (.refl _) (.cons rfl (.refl _) (.cons rfl (.refl _) (.cons rfl (.refl _) (.nil _)))))))), (SubM.of (.keep rfl rfl (.refl _) (.keep rfl rfl (.refl _) (.nil _))) (.nil _))⟩ rfl (by kernel_rfl)
                · refine ⟨_, rfl, ?_⟩
                  refine wval (qv_loadP 2 [] ((List.map eB f329.l).flatten) [] (by first | rfl | exact (List.append_nil _).symm | exact List.append_nil _ | exact List.append_assoc _ _ _ | exact (List.append_assoc _ _ _).symm | exact congrArg _ (List.append_nil _).symm | exact congrArg _ (List.append_nil _) | (simp; done) | (simp [cellsS]; done)) (by first | rfl | exact seg_lenE (by rfl) | exact len_app rfl (seg_lenE (by rfl)) (by rfl) | exact len_app (seg_lenE (by rfl)) rfl (by rfl) | exact len_app rfl (len_app (seg_lenE (by rfl)) rfl (by rfl)) (by rfl) | (simp only [seg_len, cellsS, List.length_append, List.length_cons, List.length_nil]; done) | (simp only [seg_len, cellsS, List.length_append, List.length_cons, List.length_nil]; rfl)) (by first | rfl | exact seg_lenE (by rfl) | exact len_app rfl (seg_lenE (by rfl)) (by rfl) | exact len_app (seg_lenE (by rfl)) rfl (by rfl) | exact len_app rfl (len_app (seg_lenE (by rfl)) rfl (by rfl)) (by rfl) | (simp only [seg_len, cellsS, List.length_append, List.length_cons, List.length_nil]; done) | (simp only [seg_len, cellsS, List.length_append, List.length_cons, List.length_nil]; rfl)) (part_all (seg_lenE (by rfl))) ShpC.h rfl rfl) rfl rfl ?_
                  refine xpstep (i := 8) (by kernel_rfl) rfl ?_
                  refine wcall0 (class_Range_con x2 x3 _ h474) Try.func20 (by kernel_rfl) rfl (.cons rfl (.refl _) (.cons rfl (.refl _) .nil)) rfl rfl ?_
                  exact xpuse key479 rfl ⟨(.cons rfl (.refl _) (.cons rfl (.refl _) (.cons rfl (.refl _) (.cons rfl (.refl _) (.cons rfl (.refl _) (.cons rfl (.refl _) (.cons rfl (.refl _) (.nil _)))))))), (SubM.of (.keep rfl rfl (.refl _) (.keep rfl rfl (.refl _) (.nil _))) (.nil _))⟩ rfl (by kernel_rfl)
              · replace h := h.2 hp473
                refine psetB 72 (decide_eq_false hp473) rfl ?_
                refine xpskip 6 rfl rfl rfl (by kernel_rfl) (by kernel_rfl) (by kernel_rfl) (fun _ _ _ _ h => h) ?_
                refine xpskip 7 rfl rfl rfl (by kernel_rfl) (by kernel_rfl) (by kernel_rfl) (fun _ _ _ _ h => h) ?_
                refine xpskip 8 rfl rfl rfl (by kernel_rfl) (by kernel_rfl) (by kernel_rfl) (fun _ _ _ _ h => h) ?_
                refine xpskip 9 rfl rfl rfl (by kernel_rfl) (by kernel_rfl) (by kernel_rfl) (fun _ _ _ _ h => h) ?_
                refine xpskip 10 rfl rfl rfl (by kernel_rfl) (by kernel_rfl) (by kernel_rfl) (fun _ _ _ _ h => h) ?_
                refine xpskip 11 rfl rfl rfl (by kernel_rfl) (by kernel_rfl) (by kernel_rfl) (fun _ _ _ _ h => h) ?_
                refine xpval 12 rfl (pv_pick rfl rfl) rfl rfl (by kernel_rfl) (by kernel_rfl) (by kernel_rfl) (fun _ _ _ _ h => h) ?_
                refine xpval 13 rfl (pv_move rfl) rfl rfl (by kernel_rfl) (by kernel_rfl) (by kernel_rfl) (fun _ _ _ _ h => h) ?_
                refine xpskip 14 rfl rfl rfl (by kernel_rfl) (by kernel_rfl) (by kernel_rfl) (fun _ _ _ _ h => h) ?_
                refine xpskip 15 rfl rfl rfl (by kernel_rfl) (by kernel_rfl) (by kernel_rfl) (fun _ _ _ _ h => h) ?_
                refine xpskip 16 rfl rfl rfl (by kernel_rfl) (by kernel_rfl) (by kernel_rfl) (fun _ _ _ _ h => h) ?_
                refine xpskip 17 rfl rfl rfl (by kernel_rfl) (by kernel_rfl) (by kernel_rfl) (fun _ _ _ _ h => h) ?_
                refine xpval 18 rfl (pv_pick rfl rfl) rfl rfl (by kernel_rfl) (by kernel_rfl) (by kernel_rfl) (fun _ _ _ _ h => h) ?_
                refine xpval 19 rfl (pv_move rfl) rfl rfl (by kernel_rfl) (by kernel_rfl) (by kernel_rfl) (fun _ _ _ _ h => h) ?_
                refine xpskip 20 rfl rfl rfl (by kernel_rfl) (by kernel_rfl) (by kernel_rfl) (fun _ _ _ _ h => h) ?_
                refine xpskip 21 rfl rfl rfl (by kernel_rfl) (by kernel_rfl) (by kernel_rfl) (fun _ _ _ _ h => h) ?_
                refine xpskip 22 rfl rfl rfl (by kernel_rfl) (by kernel_rfl) (by kernel_rfl) (fun _ _ _ _ h => h) ?_
                refine xpval 23 rfl (pv_pick rfl rfl) rfl rfl (by kernel_rfl) (by kernel_rfl) (by kernel_rfl) (fun _ _ _ _ h => h) ?_
                refine xpval 24 rfl (pv_move rfl) rfl rfl (by kernel_rfl) (by kernel_rfl) (by kernel_rfl) (fun _ _ _ _ h => h) ?_
                refine xpskip 25 rfl rfl rfl (by kernel_rfl) (by kernel_rfl) (by kernel_rfl) (fun _ _ _ _ h => h) ?_
                refine xpval 26 rfl (pv_pick rfl rfl) rfl rfl (by kernel_rfl) (by kernel_rfl) (by kernel_rfl) (fun _ _ _ _ h => h) ?_
                refine xpval 27 rfl (pv_assign rfl) rfl rfl (by kernel_rfl) (by kernel_rfl) (by kernel_rfl) (fun _ _ _ _ h => h) ?_
                refine xpdone (by kernel_rfl) ?_
                exact xmeet ⟨false, h, rfl⟩ ⟨(.cons rfl (.refl _) (.nil _)), (SubM.of (.nil _) (.nil _))⟩
            refine xpval 0 rfl (pv_move rfl) rfl rfl (by kernel_rfl) (by kernel_rfl) (by kernel_rfl) (fun _ _ _ _ h => h) ?_
            refine xpstepN (is := [1, 2]) (by kernel_rfl) (by simp) ?_
            intro i hi; simp only [List.mem_cons, List.not_mem_nil, or_false] at hi; rcases hi with rfl | rfl
            · refine ⟨_, rfl, ?_⟩
              refine wcall0 (class_Of_con x1 _ h467) Try.func16 (by kernel_rfl) rfl (.cons rfl (.refl _) .nil) rfl rfl ?_
              refine xpvalE 2 [] rfl (qv_loadP 3 [] ((List.map eB f80.l).flatten) [] (by first | rfl | exact (List.append_nil _).symm | exact List.append_nil _ | exact List.append_assoc _ _ _ | exact (List.append_assoc _ _ _).symm | exact congrArg _ (List.append_nil _).symm | exact congrArg _ (List.append_nil _) | (simp; done) | (simp [cellsS]; done)) (by first | rfl | exact seg_lenE (by rfl) | exact len_app rfl (seg_lenE (by rfl)) (by rfl) | exact len_app (seg_lenE (by rfl)) rfl (by rfl) | exact len_app rfl (len_app (seg_lenE (by rfl)) rfl (by rfl)) (by rfl) | (simp only [seg_len, cellsS, List.length_append, List.length_cons, List.length_nil]; done) | (simp only [seg_len, cellsS, List.length_append, List.length_cons, List.length_nil]; rfl)) (by first | rfl | exact seg_lenE (by rfl) | exact len_app rfl (seg_lenE (by rfl)) (by rfl) | exact len_app (seg_lenE (by rfl)) rfl (by rfl) | exact len_app rfl (len_app (seg_lenE (by rfl)) rfl (by rfl)) (by rfl) | (simp only [seg_len, cellsS, List.length_append, List.length_cons, List.length_nil]; done) | (simp only [seg_len, cellsS, List.length_append, List.length_cons, List.length_nil]; rfl)) (part_all (seg_lenE (by rfl))) ShpC.h rfl rfl) rfl rfl (by kernel_rfl) (by kernel_rfl) (by kernel_rfl) (fun _ _ _ _ h => h) ?_
              exact xpuse key472 rfl ⟨(.cons rfl (.refl _) (.cons rfl (.refl _) (.cons rfl (.refl _) (.cons rfl (.refl _) (.cons rfl (.refl _) (.cons rfl (.refl _) (.cons rfl (.refl _) (.cons rfl (.refl _) (.cons rfl (.refl _) (.nil _)))))))))), (SubM.of (.keep rfl rfl (.refl _) (.keep rfl rfl (.refl _) (.keep rfl rfl (.refl _) (.nil _)))) (.nil _))⟩ rfl (by kernel_rfl)
            · refine ⟨_, rfl, ?_⟩
              refine wval (qv_loadP 3 [] ((List.map eB f80.l).flatten) [] (by first | rfl | exact (List.append_nil _).symm | exact List.append_nil _ | exact List.append_assoc _ _ _ | exact (List.append_assoc _ _ _).symm | exact congrArg _ (List.append_nil _).symm | exact congrArg _ (List.append_nil _) | (simp; done) | (simp [cellsS]; done)) (by first | rfl | exact seg_lenE (by rfl) | exact len_app rfl (seg_lenE (by rfl)) (by rfl) | exact len_app (seg_lenE (by rfl)) rfl (by rfl) | exact len_app rfl (len_app (seg_lenE (by rfl)) rfl (by rfl)) (by rfl) | (simp only [seg_len, cellsS, List.length_append, List.length_cons, List.length_nil]; done) | (simp only [seg_len, cellsS, List.length_append, List.length_cons, List.length_nil]; rfl)) (by first | rfl | exact seg_lenE (by rfl) | exact len_app rfl (seg_lenE (by rfl)) (by rfl) | exact len_app (seg_lenE (by rfl)) rfl (by rfl) | exact len_app rfl (len_app (seg_lenE (by rfl)) rfl (by rfl)) (by rfl) | (simp only [seg_len, cellsS, List.length_append, List.length_cons, List.length_nil]; done) | (simp only [seg_len, cellsS, List.length_append, List.length_cons, List.length_nil]; rfl)) (part_all (seg_lenE (by rfl))) ShpC.h rfl rfl) rfl rfl ?_
              refine xpstep (i := 1) (by kernel_rfl) rfl ?_
              refine wcall0 (class_Of_con x1 _ h467) Try.func16 (by kernel_rfl) rfl (.cons rfl (.refl _) .nil) rfl rfl ?_
              exact xpuse key472 rfl ⟨(.cons rfl (.refl _) (.cons rfl (.refl _) (.cons rfl (.refl _) (.cons rfl (.refl _) (.cons rfl (.refl _) (.cons rfl (.refl _) (.cons rfl (.refl _) (.cons rfl (.refl _) (.cons rfl (.refl _) (.nil _)))))))))), (SubM.of (.keep rfl rfl (.refl _) (.keep rfl rfl (.refl _) (.keep rfl rfl (.refl _) (.nil _)))) (.nil _))⟩ rfl (by kernel_rfl)
          · clear h
            rintro _ ⟨x466, h, rfl⟩
            refine xretc ?_
            replace h := h.symm
            subst h
            exact xret1 hg rfl rfl (.refl _) (SubM.of (.nil _) (.nil _)) ⟨rfl, rfl, rfl⟩
end Go.Proofs.Ytjemjopjiohcoaa
