/- What functions' texts ask for, and the walks that show it (printed by a program). -/
import Derived.Test.YtjemjopjiohcoaaEq
namespace Go.Proofs.Ytjemjopjiohcoaa
abbrev E_palinode_api_Set (x : Arr 4 (UInt64)) : List Sd := ((List.map ew x.l).flatten)
instance : EncLen E_palinode_api_Set 4 := ⟨fun _ => (by first | rfl | exact seg_lenE (by rfl) | exact len_app rfl (seg_lenE (by rfl)) (by rfl) | exact len_app (seg_lenE (by rfl)) rfl (by rfl) | exact len_app rfl (len_app (seg_lenE (by rfl)) rfl (by rfl)) (by rfl) | (simp only [seg_len, cellsS, List.length_append, List.length_cons, List.length_nil]; done) | (simp only [seg_len, cellsS, List.length_append, List.length_cons, List.length_nil]; rfl))⟩
/-- class.with -/
def class_with_R (s1 : Arr 4 (UInt64)) (c2 : UInt8) (r : (Arr 4 (UInt64))) : Prop :=
  (64 : Int) ≠ 0 ∧ ∃ c4 : UInt8, (c4.toNat : Int) = IntKind.u8.wrap (((c2.toNat : Int)).tdiv 64) ∧ (0 ≤ ((c4.toNat : Int) : Int) ∧ ((c4.toNat : Int) : Int) < 4) ∧ ∃ y6 : UInt64, s1.l[((c4.toNat : Int) : Int).toNat]? = some y6 ∧ (64 : Int) ≠ 0 ∧ ∃ c8 : UInt8, (c8.toNat : Int) = (((c2.toNat : Int)).tmod 64) ∧ (0 : Int) ≤ (c8.toNat : Int) ∧ ∃ c10 : UInt64, (c10.toNat : Int) = IntKind.u64.wrap ((1 : Int) * 2 ^ (min ((c8.toNat : Int) : Int).toNat IntKind.u64.bits)) ∧ ∃ c12 : UInt64, (c12.toNat : Int) = IntKind.u64.wrap (BitVec.ofInt IntKind.u64.bits (y6.toNat : Int) ||| BitVec.ofInt IntKind.u64.bits (c10.toNat : Int)).toNat ∧ (0 ≤ ((c4.toNat : Int) : Int) ∧ ((c4.toNat : Int) : Int) < 4) ∧ ∃ y14 : UInt64, s1.l[((c4.toNat : Int) : Int).toNat]? = some y14 ∧ r = (Arr.set s1 ((c4.toNat : Int) : Int).toNat c12)
set_option maxHeartbeats 4000000 in
theorem class_with_con (s1 : Arr 4 (UInt64)) (c2 : UInt8) (r : (Arr 4 (UInt64))) (h : class_with_R s1 c2 r) : Con Try.prog 22 [.agg ((List.map ew s1.l).flatten), .v (.int .u8 ((c2.toNat : Int)))] [] [] (Ret (.agg ((List.map ew r.l).flatten))) := by
  refine xenter Try.func22 rfl rfl fun g hg => ?_
  simp only [Try.ntmps22, slots]
  refine xseq ?_
  refine xregion ?_
  refine xbox rfl rfl rfl rfl fun b2 => ?_
  refine xalloc InfC.h rfl rfl fun b4 => ?_
  refine xreb 0 ((List.map ew ((Arr.rep 4 (0 : UInt64))).l).flatten) rfl rfl ?_
  refine xnil ?_
  refine xthen ?_
  refine xseq ?_
  refine xregion ?_
  refine xvalP (pv_move rfl) rfl rfl ?_
  obtain ⟨h3, h⟩ := h
  obtain ⟨c4, h3r, h⟩ := h
  refine xvalP (pv_quoW h3 h3r rfl rfl rfl) rfl rfl ?_
  obtain ⟨h5, h⟩ := h
  obtain ⟨y6, h5b, h⟩ := h
  refine xvalP (pv_indexAddrBA h5 UndC.h ShpC.h rfl rfl) rfl rfl ?_
  refine xval (qv_loadA (f := ew) (a := s1) (k := 1) (off := 0) (i := ((c4.toNat : Int) : Int).toNat) 1 [] [] h5b (by first | rfl | exact (List.append_nil _).symm | exact List.append_nil _ | exact List.append_assoc _ _ _ | exact (List.append_assoc _ _ _).symm | exact congrArg _ (List.append_nil _).symm | exact congrArg _ (List.append_nil _) | (simp; done) | (simp [cellsS]; done)) (by first | rfl | omega | (simp only [List.length_cons, List.length_nil]; omega) | (simp only [seg_len, List.length_append, List.length_cons, List.length_nil]; omega)) (by decide) rfl ShpC.h rfl rfl) rfl rfl ?_
  refine xvalP (pv_move rfl) rfl rfl ?_
  obtain ⟨h7, h⟩ := h
  obtain ⟨c8, h7r, h⟩ := h
  refine xvalP (pv_remW h7 h7r rfl rfl rfl) rfl rfl ?_
  obtain ⟨h9, h⟩ := h
  obtain ⟨c10, h9r, h⟩ := h
  refine xvalP (pv_shlW h9 h9r rfl rfl) rfl rfl ?_
  obtain ⟨c12, h11, h⟩ := h
  refine xvalP (pv_wr h11 rfl rfl rfl) rfl rfl ?_
  obtain ⟨h13, h⟩ := h
  obtain ⟨y14, h13b, h⟩ := h
  refine xvalP (pv_indexAddrBA h13 UndC.h ShpC.h rfl rfl) rfl rfl ?_
  refine xstoreA (f := ew) (a := s1) (k := 1) (off := 0) (i := ((c4.toNat : Int) : Int).toNat) 1 [] [] c12 h13b (by first | rfl | exact (List.append_nil _).symm | exact List.append_nil _ | exact List.append_assoc _ _ _ | exact (List.append_assoc _ _ _).symm | exact congrArg _ (List.append_nil _).symm | exact congrArg _ (List.append_nil _) | (simp; done) | (simp [cellsS]; done)) (by first | rfl | omega | (simp only [List.length_cons, List.length_nil]; omega) | (simp only [seg_len, List.length_append, List.length_cons, List.length_nil]; omega)) (by decide) ShpC.h rfl rfl rfl rfl (by first | rfl | exact seg_lenE (by rfl) | exact len_app rfl (seg_lenE (by rfl)) (by rfl) | exact len_app (seg_lenE (by rfl)) rfl (by rfl) | exact len_app rfl (len_app (seg_lenE (by rfl)) rfl (by rfl)) (by rfl) | (simp only [seg_len, cellsS, List.length_append, List.length_cons, List.length_nil]; done) | (simp only [seg_len, cellsS, List.length_append, List.length_cons, List.length_nil]; rfl)) rfl rfl ?_
  refine xreb 1 ((List.map ew ((Arr.set s1 ((c4.toNat : Int) : Int).toNat c12)).l).flatten) rfl (by first | rfl | exact (List.append_nil _).symm | exact List.append_nil _ | exact List.append_assoc _ _ _ | exact (List.append_assoc _ _ _).symm | exact congrArg _ (List.append_nil _).symm | exact congrArg _ (List.append_nil _) | (simp; done) | (simp [cellsS]; done)) ?_
  refine xnil ?_
  refine xthen ?_
  refine xseq ?_
  refine xregion ?_
  refine xval (qv_loadP 1 [] ((List.map ew ((Arr.set s1 ((c4.toNat : Int) : Int).toNat c12)).l).flatten) [] (by first | rfl | exact (List.append_nil _).symm | exact List.append_nil _ | exact List.append_assoc _ _ _ | exact (List.append_assoc _ _ _).symm | exact congrArg _ (List.append_nil _).symm | exact congrArg _ (List.append_nil _) | (simp; done) | (simp [cellsS]; done)) (by first | rfl | exact seg_lenE (by rfl) | exact len_app rfl (seg_lenE (by rfl)) (by rfl) | exact len_app (seg_lenE (by rfl)) rfl (by rfl) | exact len_app rfl (len_app (seg_lenE (by rfl)) rfl (by rfl)) (by rfl) | (simp only [seg_len, cellsS, List.length_append, List.length_cons, List.length_nil]; done) | (simp only [seg_len, cellsS, List.length_append, List.length_cons, List.length_nil]; rfl)) (by first | rfl | exact seg_lenE (by rfl) | exact len_app rfl (seg_lenE (by rfl)) (by rfl) | exact len_app (seg_lenE (by rfl)) rfl (by rfl) | exact len_app rfl (len_app (seg_lenE (by rfl)) rfl (by rfl)) (by rfl) | (simp only [seg_len, cellsS, List.length_append, List.length_cons, List.length_nil]; done) | (simp only [seg_len, cellsS, List.length_append, List.length_cons, List.length_nil]; rfl)) (part_all (seg_lenE (by rfl))) ShpC.h rfl rfl) rfl rfl ?_
  refine xstoreP 0 [] ((List.map ew ((Arr.rep 4 (0 : UInt64))).l).flatten) [] (by first | rfl | exact (List.append_nil _).symm | exact List.append_nil _ | exact List.append_assoc _ _ _ | exact (List.append_assoc _ _ _).symm | exact congrArg _ (List.append_nil _).symm | exact congrArg _ (List.append_nil _) | (simp; done) | (simp [cellsS]; done)) (by first | rfl | exact seg_lenE (by rfl) | exact len_app rfl (seg_lenE (by rfl)) (by rfl) | exact len_app (seg_lenE (by rfl)) rfl (by rfl) | exact len_app rfl (len_app (seg_lenE (by rfl)) rfl (by rfl)) (by rfl) | (simp only [seg_len, cellsS, List.length_append, List.length_cons, List.length_nil]; done) | (simp only [seg_len, cellsS, List.length_append, List.length_cons, List.length_nil]; rfl)) (by first | rfl | exact seg_lenE (by rfl) | exact len_app rfl (seg_lenE (by rfl)) (by rfl) | exact len_app (seg_lenE (by rfl)) rfl (by rfl) | exact len_app rfl (len_app (seg_lenE (by rfl)) rfl (by rfl)) (by rfl) | (simp only [seg_len, cellsS, List.length_append, List.length_cons, List.length_nil]; done) | (simp only [seg_len, cellsS, List.length_append, List.length_cons, List.length_nil]; rfl)) ShpC.h rfl rfl rfl rfl (by first | rfl | exact seg_lenE (by rfl) | exact len_app rfl (seg_lenE (by rfl)) (by rfl) | exact len_app (seg_lenE (by rfl)) rfl (by rfl) | exact len_app rfl (len_app (seg_lenE (by rfl)) rfl (by rfl)) (by rfl) | (simp only [seg_len, cellsS, List.length_append, List.length_cons, List.length_nil]; done) | (simp only [seg_len, cellsS, List.length_append, List.length_cons, List.length_nil]; rfl)) rfl ?_
  refine xreb 0 ((List.map ew ((Arr.set s1 ((c4.toNat : Int) : Int).toNat c12)).l).flatten) rfl (by first | rfl | exact (List.append_nil _).symm | exact List.append_nil _ | exact List.append_assoc _ _ _ | exact (List.append_assoc _ _ _).symm | exact congrArg _ (List.append_nil _).symm | exact congrArg _ (List.append_nil _) | (simp; done) | (simp [cellsS]; done)) ?_
  refine xnil ?_
  refine xthen ?_
  refine xretc ?_
  replace h := h.symm
  subst h
  exact xretL (rs := [.cell 4 24]) (ss := [.agg ((List.map ew ((Arr.set s1 ((c4.toNat : Int) : Int).toNat c12)).l).flatten)]) hg rfl (by refine RetL.cell 0 ShpC.h rfl rfl (part_midE (pre := []) (mid := ((List.map ew ((Arr.set s1 ((c4.toNat : Int) : Int).toNat c12)).l).flatten)) (post := []) (by first | rfl | exact (List.append_nil _).symm | exact List.append_nil _ | exact List.append_assoc _ _ _ | exact (List.append_assoc _ _ _).symm | exact congrArg _ (List.append_nil _).symm | exact congrArg _ (List.append_nil _) | (simp; done) | (simp [cellsS]; done)) (by first | rfl | exact seg_lenE (by rfl) | exact len_app rfl (seg_lenE (by rfl)) (by rfl) | exact len_app (seg_lenE (by rfl)) rfl (by rfl) | exact len_app rfl (len_app (seg_lenE (by rfl)) rfl (by rfl)) (by rfl) | (simp only [seg_len, cellsS, List.length_append, List.length_cons, List.length_nil]; done) | (simp only [seg_len, cellsS, List.length_append, List.length_cons, List.length_nil]; rfl)) (by first | rfl | exact seg_lenE (by rfl) | exact len_app rfl (seg_lenE (by rfl)) (by rfl) | exact len_app (seg_lenE (by rfl)) rfl (by rfl) | exact len_app rfl (len_app (seg_lenE (by rfl)) rfl (by rfl)) (by rfl) | (simp only [seg_len, cellsS, List.length_append, List.length_cons, List.length_nil]; done) | (simp only [seg_len, cellsS, List.length_append, List.length_cons, List.length_nil]; rfl)) (part_all (seg_lenE (by rfl)))) (len_midE (pre := []) (mid := ((List.map ew ((Arr.set s1 ((c4.toNat : Int) : Int).toNat c12)).l).flatten)) (post := []) (by first | rfl | exact (List.append_nil _).symm | exact List.append_nil _ | exact List.append_assoc _ _ _ | exact (List.append_assoc _ _ _).symm | exact congrArg _ (List.append_nil _).symm | exact congrArg _ (List.append_nil _) | (simp; done) | (simp [cellsS]; done)) (by first | rfl | exact seg_lenE (by rfl) | exact len_app rfl (seg_lenE (by rfl)) (by rfl) | exact len_app (seg_lenE (by rfl)) rfl (by rfl) | exact len_app rfl (len_app (seg_lenE (by rfl)) rfl (by rfl)) (by rfl) | (simp only [seg_len, cellsS, List.length_append, List.length_cons, List.length_nil]; done) | (simp only [seg_len, cellsS, List.length_append, List.length_cons, List.length_nil]; rfl)) (by first | rfl | exact seg_lenE (by rfl) | exact len_app rfl (seg_lenE (by rfl)) (by rfl) | exact len_app (seg_lenE (by rfl)) rfl (by rfl) | exact len_app rfl (len_app (seg_lenE (by rfl)) rfl (by rfl)) (by rfl) | (simp only [seg_len, cellsS, List.length_append, List.length_cons, List.length_nil]; done) | (simp only [seg_len, cellsS, List.length_append, List.length_cons, List.length_nil]; rfl))) (by first | with_reducible exact Wk.refl _ | exact Wk.nil_own _ | exact Wk.nil_pl _ | with_reducible exact Wk.tok _ _ _ | exact Wk.tok _ _ _ | exact .eq rfl) ?_; exact RetL.nil) (SubM.of (.nil _) (.nil _)) ⟨rfl, rfl, rfl⟩
/-- class.Of -/
def class_Of_l1 (l1 : List UInt8) (ag1 : (Int × (Arr 4 (UInt64))) → Prop) (x38 : Int) (f39 : Arr 4 (UInt64)) (r : (Arr 4 (UInt64))) : Prop :=
  ((x38 < (l1.length : Int) → 0 ≤ (x38 : Int) ∧ ∃ y51 : UInt8, l1[(x38 : Int).toNat]? = some y51 ∧ ∃ y54 : (Arr 4 (UInt64)), class_with_R f39 y51 y54 ∧ InR (x38 + 1) ∧ ag1 ((x38 + 1), y54)) ∧ (¬ (x38 < (l1.length : Int)) → r = f39))
def class_Of_R (l1 : List UInt8) (r : (Arr 4 (UInt64))) : Prop :=
  LoopR (fun ag1 s => class_Of_l1 l1 ag1 s.1 s.2 r) (0, (Arr.rep 4 (0 : UInt64)))
set_option maxHeartbeats 4000000 in
theorem class_Of_con (l1 : List UInt8) (r : (Arr 4 (UInt64))) (h : class_Of_R l1 r) : Con Try.prog 16 [.sl 1 none (List.map eb l1)] [] [] (Ret (.agg ((List.map ew r.l).flatten))) := by
  refine xenter Try.func16 rfl rfl fun g hg => ?_
  simp only [Try.ntmps16, slots]
  refine xseq ?_
  refine xregion ?_
  refine xalloc InfC.h rfl rfl fun b2 => ?_
  refine xreb 0 ((List.map ew ((Arr.rep 4 (0 : UInt64))).l).flatten) rfl rfl ?_
  refine xnil ?_
  refine xthen ?_
  refine xseq ?_
  refine xregion ?_
  refine xalloc InfC.h rfl rfl fun b3 => ?_
  refine xreb 0 ((List.map ew ((Arr.rep 4 (0 : UInt64))).l).flatten) rfl rfl ?_
  refine xnil ?_
  refine xthen ?_
  refine xseq ?_
  refine xseq ?_
  refine xregion ?_
  refine xvalP (pv_move rfl) rfl rfl ?_
  refine xvalP (pv_lenM UndC.h rfl) rfl rfl ?_
  refine xvalP (pv_move rfl) rfl rfl ?_
  refine xnil ?_
  refine xthen ?_
  refine xblock ?_
  obtain ⟨Inv, ⟨m0, hI⟩, hS⟩ := h
  refine xloop (fun σ m => ∃ (x38 : Int), ∃ (f39 : Arr 4 (UInt64)), Inv (x38, f39) m ∧ σ = ⟨[(2, .v (.pointer (some ⟨b2, 0, none⟩))), (3, .v (.pointer (some ⟨b3, 0, none⟩))), (6, .sl 1 none (List.map eb l1)), (7, .v (.int .i64 ((l1.length : Int)))), (8, .v (.int .i64 x38))], [⟨b3, 24, ((List.map ew f39.l).flatten)⟩, ⟨b2, 24, ((List.map ew ((Arr.rep 4 (0 : UInt64))).l).flatten)⟩], []⟩) ⟨0, (Arr.rep 4 (0 : UInt64)), hI, rfl⟩ ⟨(.cons rfl (.refl _) (.cons rfl (.refl _) (.cons rfl (.refl _) (.cons rfl (.refl _) (.cons rfl (.refl _) (.nil _)))))), (SubM.of (.keep rfl rfl (.refl _) (.keep rfl rfl (.refl _) (.nil _))) (.nil _))⟩ ?_
  rintro _ m ⟨x38, f39, hI, rfl⟩
  obtain ⟨ag1, hag1, h⟩ : ∃ ag, (∀ s', ag s' → ∃ m', m' < m ∧ Inv s' m') ∧ class_Of_l1 l1 ag x38 f39 r := ⟨_, fun _ h => h, hS (x38, f39) _ hI⟩
  clear hS hI
  refine xseq ?_
  refine xregion ?_
  refine xvalP (pv_bin2 rfl rfl rfl) rfl rfl ?_
  refine xnil ?_
  refine xthen ?_
  refine xseq ?_
  by_cases hp50 : x38 < (l1.length : Int)
  · replace h := h.1 hp50
    refine xcondT' (decide_eq_true hp50) rfl ?_
    refine xskipc ?_
    refine xthen ?_
    refine xseq ?_
    refine xblock ?_
    refine xseq ?_
    refine xregion ?_
    obtain ⟨h52a, h⟩ := h
    obtain ⟨y51, h52b, h⟩ := h
    refine xvalP (pv_indexAddrM h52a h52b UndC.h ShpC.h rfl rfl) rfl rfl ?_
    refine xval (qv_load ShpC.h rfl rfl rfl) rfl rfl ?_
    refine xvalP (pv_assign rfl) rfl rfl ?_
    refine xnil ?_
    refine xthen ?_
    refine xregion ?_
    refine xval (qv_loadP 0 [] ((List.map ew f39.l).flatten) [] (by first | rfl | exact (List.append_nil _).symm | exact List.append_nil _ | exact List.append_assoc _ _ _ | exact (List.append_assoc _ _ _).symm | exact congrArg _ (List.append_nil _).symm | exact congrArg _ (List.append_nil _) | (simp; done) | (simp [cellsS]; done)) (by first | rfl | exact seg_lenE (by rfl) | exact len_app rfl (seg_lenE (by rfl)) (by rfl) | exact len_app (seg_lenE (by rfl)) rfl (by rfl) | exact len_app rfl (len_app (seg_lenE (by rfl)) rfl (by rfl)) (by rfl) | (simp only [seg_len, cellsS, List.length_append, List.length_cons, List.length_nil]; done) | (simp only [seg_len, cellsS, List.length_append, List.length_cons, List.length_nil]; rfl)) (by first | rfl | exact seg_lenE (by rfl) | exact len_app rfl (seg_lenE (by rfl)) (by rfl) | exact len_app (seg_lenE (by rfl)) rfl (by rfl) | exact len_app rfl (len_app (seg_lenE (by rfl)) rfl (by rfl)) (by rfl) | (simp only [seg_len, cellsS, List.length_append, List.length_cons, List.length_nil]; done) | (simp only [seg_len, cellsS, List.length_append, List.length_cons, List.length_nil]; rfl)) (part_all (seg_lenE (by rfl))) ShpC.h rfl rfl) rfl rfl ?_
    refine xvalP (pv_move rfl) rfl rfl ?_
    obtain ⟨y54, h53, h⟩ := h
    refine xcall0 (class_with_con f39 y51 _ h53) Try.func22 (by kernel_rfl) rfl (.cons rfl (.refl _) (.cons rfl (.refl _) .nil)) rfl rfl ?_
    refine xstoreP 0 [] ((List.map ew f39.l).flatten) [] (by first | rfl | exact (List.append_nil _).symm | exact List.append_nil _ | exact List.append_assoc _ _ _ | exact (List.append_assoc _ _ _).symm | exact congrArg _ (List.append_nil _).symm | exact congrArg _ (List.append_nil _) | (simp; done) | (simp [cellsS]; done)) (by first | rfl | exact seg_lenE (by rfl) | exact len_app rfl (seg_lenE (by rfl)) (by rfl) | exact len_app (seg_lenE (by rfl)) rfl (by rfl) | exact len_app rfl (len_app (seg_lenE (by rfl)) rfl (by rfl)) (by rfl) | (simp only [seg_len, cellsS, List.length_append, List.length_cons, List.length_nil]; done) | (simp only [seg_len, cellsS, List.length_append, List.length_cons, List.length_nil]; rfl)) (by first | rfl | exact seg_lenE (by rfl) | exact len_app rfl (seg_lenE (by rfl)) (by rfl) | exact len_app (seg_lenE (by rfl)) rfl (by rfl) | exact len_app rfl (len_app (seg_lenE (by rfl)) rfl (by rfl)) (by rfl) | (simp only [seg_len, cellsS, List.length_append, List.length_cons, List.length_nil]; done) | (simp only [seg_len, cellsS, List.length_append, List.length_cons, List.length_nil]; rfl)) ShpC.h rfl rfl rfl rfl (by first | rfl | exact seg_lenE (by rfl) | exact len_app rfl (seg_lenE (by rfl)) (by rfl) | exact len_app (seg_lenE (by rfl)) rfl (by rfl) | exact len_app rfl (len_app (seg_lenE (by rfl)) rfl (by rfl)) (by rfl) | (simp only [seg_len, cellsS, List.length_append, List.length_cons, List.length_nil]; done) | (simp only [seg_len, cellsS, List.length_append, List.length_cons, List.length_nil]; rfl)) rfl ?_
    refine xreb 0 ((List.map ew y54.l).flatten) rfl (by first | rfl | exact (List.append_nil _).symm | exact List.append_nil _ | exact List.append_assoc _ _ _ | exact (List.append_assoc _ _ _).symm | exact congrArg _ (List.append_nil _).symm | exact congrArg _ (List.append_nil _) | (simp; done) | (simp [cellsS]; done)) ?_
    refine xnil ?_
    refine xin_normal ?_
    refine xthen ?_
    refine xregion ?_
    obtain ⟨h55, h⟩ := h
    refine xvalP (pv_addI h55 rfl rfl) rfl rfl ?_
    refine xvalP (pv_move rfl) rfl rfl ?_
    refine xnil ?_
    obtain ⟨m', hm, hI⟩ := hag1 _ h
    exact xagain ⟨(x38 + 1), y54, hI, rfl⟩ hm ⟨(.cons rfl (.refl _) (.cons rfl (.refl _) (.cons rfl (.refl _) (.cons rfl (.refl _) (.cons rfl (.refl _) (.nil _)))))), (SubM.of (.keep rfl rfl (.refl _) (.keep rfl rfl (.refl _) (.nil _))) (.nil _))⟩
  · replace h := h.2 hp50
    refine xcondF' (decide_eq_false hp50) rfl ?_
    refine xexit ?_
    refine xthen_exit ?_
    refine xthen_exit ?_
    refine xin_same rfl ?_
    refine xthen ?_
    refine xseq ?_
    refine xregion ?_
    refine xval (qv_loadP 0 [] ((List.map ew f39.l).flatten) [] (by first | rfl | exact (List.append_nil _).symm | exact List.append_nil _ | exact List.append_assoc _ _ _ | exact (List.append_assoc _ _ _).symm | exact congrArg _ (List.append_nil _).symm | exact congrArg _ (List.append_nil _) | (simp; done) | (simp [cellsS]; done)) (by first | rfl | exact seg_lenE (by rfl) | exact len_app rfl (seg_lenE (by rfl)) (by rfl) | exact len_app (seg_lenE (by rfl)) rfl (by rfl) | exact len_app rfl (len_app (seg_lenE (by rfl)) rfl (by rfl)) (by rfl) | (simp only [seg_len, cellsS, List.length_append, List.length_cons, List.length_nil]; done) | (simp only [seg_len, cellsS, List.length_append, List.length_cons, List.length_nil]; rfl)) (by first | rfl | exact seg_lenE (by rfl) | exact len_app rfl (seg_lenE (by rfl)) (by rfl) | exact len_app (seg_lenE (by rfl)) rfl (by rfl) | exact len_app rfl (len_app (seg_lenE (by rfl)) rfl (by rfl)) (by rfl) | (simp only [seg_len, cellsS, List.length_append, List.length_cons, List.length_nil]; done) | (simp only [seg_len, cellsS, List.length_append, List.length_cons, List.length_nil]; rfl)) (part_all (seg_lenE (by rfl))) ShpC.h rfl rfl) rfl rfl ?_
    refine xstoreP 1 [] ((List.map ew ((Arr.rep 4 (0 : UInt64))).l).flatten) [] (by first | rfl | exact (List.append_nil _).symm | exact List.append_nil _ | exact List.append_assoc _ _ _ | exact (List.append_assoc _ _ _).symm | exact congrArg _ (List.append_nil _).symm | exact congrArg _ (List.append_nil _) | (simp; done) | (simp [cellsS]; done)) (by first | rfl | exact seg_lenE (by rfl) | exact len_app rfl (seg_lenE (by rfl)) (by rfl) | exact len_app (seg_lenE (by rfl)) rfl (by rfl) | exact len_app rfl (len_app (seg_lenE (by rfl)) rfl (by rfl)) (by rfl) | (simp only [seg_len, cellsS, List.length_append, List.length_cons, List.length_nil]; done) | (simp only [seg_len, cellsS, List.length_append, List.length_cons, List.length_nil]; rfl)) (by first | rfl | exact seg_lenE (by rfl) | exact len_app rfl (seg_lenE (by rfl)) (by rfl) | exact len_app (seg_lenE (by rfl)) rfl (by rfl) | exact len_app rfl (len_app (seg_lenE (by rfl)) rfl (by rfl)) (by rfl) | (simp only [seg_len, cellsS, List.length_append, List.length_cons, List.length_nil]; done) | (simp only [seg_len, cellsS, List.length_append, List.length_cons, List.length_nil]; rfl)) ShpC.h rfl rfl rfl rfl (by first | rfl | exact seg_lenE (by rfl) | exact len_app rfl (seg_lenE (by rfl)) (by rfl) | exact len_app (seg_lenE (by rfl)) rfl (by rfl) | exact len_app rfl (len_app (seg_lenE (by rfl)) rfl (by rfl)) (by rfl) | (simp only [seg_len, cellsS, List.length_append, List.length_cons, List.length_nil]; done) | (simp only [seg_len, cellsS, List.length_append, List.length_cons, List.length_nil]; rfl)) rfl ?_
    refine xreb 1 ((List.map ew f39.l).flatten) rfl (by first | rfl | exact (List.append_nil _).symm | exact List.append_nil _ | exact List.append_assoc _ _ _ | exact (List.append_assoc _ _ _).symm | exact congrArg _ (List.append_nil _).symm | exact congrArg _ (List.append_nil _) | (simp; done) | (simp [cellsS]; done)) ?_
    refine xnil ?_
    refine xthen ?_
    refine xretc ?_
    replace h := h.symm
    subst h
    exact xretL (rs := [.cell 2 24]) (ss := [.agg ((List.map ew f39.l).flatten)]) hg rfl (by refine RetL.cell 1 ShpC.h rfl rfl (part_midE (pre := []) (mid := ((List.map ew f39.l).flatten)) (post := []) (by first | rfl | exact (List.append_nil _).symm | exact List.append_nil _ | exact List.append_assoc _ _ _ | exact (List.append_assoc _ _ _).symm | exact congrArg _ (List.append_nil _).symm | exact congrArg _ (List.append_nil _) | (simp; done) | (simp [cellsS]; done)) (by first | rfl | exact seg_lenE (by rfl) | exact len_app rfl (seg_lenE (by rfl)) (by rfl) | exact len_app (seg_lenE (by rfl)) rfl (by rfl) | exact len_app rfl (len_app (seg_lenE (by rfl)) rfl (by rfl)) (by rfl) | (simp only [seg_len, cellsS, List.length_append, List.length_cons, List.length_nil]; done) | (simp only [seg_len, cellsS, List.length_append, List.length_cons, List.length_nil]; rfl)) (by first | rfl | exact seg_lenE (by rfl) | exact len_app rfl (seg_lenE (by rfl)) (by rfl) | exact len_app (seg_lenE (by rfl)) rfl (by rfl) | exact len_app rfl (len_app (seg_lenE (by rfl)) rfl (by rfl)) (by rfl) | (simp only [seg_len, cellsS, List.length_append, List.length_cons, List.length_nil]; done) | (simp only [seg_len, cellsS, List.length_append, List.length_cons, List.length_nil]; rfl)) (part_all (seg_lenE (by rfl)))) (len_midE (pre := []) (mid := ((List.map ew f39.l).flatten)) (post := []) (by first | rfl | exact (List.append_nil _).symm | exact List.append_nil _ | exact List.append_assoc _ _ _ | exact (List.append_assoc _ _ _).symm | exact congrArg _ (List.append_nil _).symm | exact congrArg _ (List.append_nil _) | (simp; done) | (simp [cellsS]; done)) (by first | rfl | exact seg_lenE (by rfl) | exact len_app rfl (seg_lenE (by rfl)) (by rfl) | exact len_app (seg_lenE (by rfl)) rfl (by rfl) | exact len_app rfl (len_app (seg_lenE (by rfl)) rfl (by rfl)) (by rfl) | (simp only [seg_len, cellsS, List.length_append, List.length_cons, List.length_nil]; done) | (simp only [seg_len, cellsS, List.length_append, List.length_cons, List.length_nil]; rfl)) (by first | rfl | exact seg_lenE (by rfl) | exact len_app rfl (seg_lenE (by rfl)) (by rfl) | exact len_app (seg_lenE (by rfl)) rfl (by rfl) | exact len_app rfl (len_app (seg_lenE (by rfl)) rfl (by rfl)) (by rfl) | (simp only [seg_len, cellsS, List.length_append, List.length_cons, List.length_nil]; done) | (simp only [seg_len, cellsS, List.length_append, List.length_cons, List.length_nil]; rfl))) (by first | with_reducible exact Wk.refl _ | exact Wk.nil_own _ | exact Wk.nil_pl _ | with_reducible exact Wk.tok _ _ _ | exact Wk.tok _ _ _ | exact .eq rfl) ?_; exact RetL.nil) (SubM.of (.nil _) (.nil _)) ⟨rfl, rfl, rfl⟩
/-- class.Not -/
def class_Not_l1 (ag1 : (Int × (Arr 4 (UInt64))) → Prop) (x44 : Int) (f45 : Arr 4 (UInt64)) (r : (Arr 4 (UInt64))) : Prop :=
  ((x44 < 4 → (0 ≤ (x44 : Int) ∧ (x44 : Int) < 4) ∧ ∃ y60 : UInt64, f45.l[(x44 : Int).toNat]? = some y60 ∧ ∃ c62 : UInt64, (c62.toNat : Int) = IntKind.u64.wrap (BitVec.ofInt IntKind.u64.bits IntKind.u64.max ^^^ BitVec.ofInt IntKind.u64.bits (y60.toNat : Int)).toNat ∧ (0 ≤ (x44 : Int) ∧ (x44 : Int) < 4) ∧ ∃ y64 : UInt64, f45.l[(x44 : Int).toNat]? = some y64 ∧ InR (x44 + 1) ∧ ag1 ((x44 + 1), (Arr.set f45 (x44 : Int).toNat c62))) ∧ (¬ (x44 < 4) → r = f45))
def class_Not_R (s1 : Arr 4 (UInt64)) (r : (Arr 4 (UInt64))) : Prop :=
  LoopR (fun ag1 s => class_Not_l1 ag1 s.1 s.2 r) (0, s1)
set_option maxHeartbeats 4000000 in
theorem class_Not_con (s1 : Arr 4 (UInt64)) (r : (Arr 4 (UInt64))) (h : class_Not_R s1 r) : Con Try.prog 10 [.agg ((List.map ew s1.l).flatten)] [] [] (Ret (.agg ((List.map ew r.l).flatten))) := by
  refine xenter Try.func10 rfl rfl fun g hg => ?_
  simp only [Try.ntmps10, slots]
  refine xseq ?_
  refine xregion ?_
  refine xbox rfl rfl rfl rfl fun b1 => ?_
  refine xalloc InfC.h rfl rfl fun b2 => ?_
  refine xreb 0 ((List.map ew ((Arr.rep 4 (0 : UInt64))).l).flatten) rfl rfl ?_
  refine xnil ?_
  refine xthen ?_
  refine xseq ?_
  refine xseq ?_
  refine xregion ?_
  refine xvalP (pv_move rfl) rfl rfl ?_
  refine xnil ?_
  refine xthen ?_
  refine xblock ?_
  obtain ⟨Inv, ⟨m0, hI⟩, hS⟩ := h
  refine xloop (fun σ m => ∃ (x44 : Int), ∃ (f45 : Arr 4 (UInt64)), Inv (x44, f45) m ∧ σ = ⟨[(1, .v (.pointer (some ⟨b1, 0, none⟩))), (2, .v (.pointer (some ⟨b2, 0, none⟩))), (4, .v (.int .i64 x44))], [⟨b2, 24, ((List.map ew ((Arr.rep 4 (0 : UInt64))).l).flatten)⟩, ⟨b1, 24, ((List.map ew f45.l).flatten)⟩], []⟩) ⟨0, s1, hI, rfl⟩ ⟨(.cons rfl (.refl _) (.cons rfl (.refl _) (.cons rfl (.refl _) (.nil _)))), (SubM.of (.keep rfl rfl (.refl _) (.keep rfl rfl (.refl _) (.nil _))) (.nil _))⟩ ?_
  rintro _ m ⟨x44, f45, hI, rfl⟩
  obtain ⟨ag1, hag1, h⟩ : ∃ ag, (∀ s', ag s' → ∃ m', m' < m ∧ Inv s' m') ∧ class_Not_l1 ag x44 f45 r := ⟨_, fun _ h => h, hS (x44, f45) _ hI⟩
  clear hS hI
  refine xseq ?_
  refine xregion ?_
  refine xvalP (pv_bin2 rfl rfl rfl) rfl rfl ?_
  refine xnil ?_
  refine xthen ?_
  refine xseq ?_
  by_cases hp58 : x44 < 4
  · replace h := h.1 hp58
    refine xcondT' (decide_eq_true hp58) rfl ?_
    refine xskipc ?_
    refine xthen ?_
    refine xseq ?_
    refine xblock ?_
    refine xseq ?_
    refine xregion ?_
    refine xvalP (pv_move rfl) rfl rfl ?_
    refine xvalP (pv_assign rfl) rfl rfl ?_
    refine xnil ?_
    refine xthen ?_
    refine xregion ?_
    refine xvalP (pv_move rfl) rfl rfl ?_
    refine xvalP (pv_move rfl) rfl rfl ?_
    obtain ⟨h59, h⟩ := h
    obtain ⟨y60, h59b, h⟩ := h
    refine xvalP (pv_indexAddrBA h59 UndC.h ShpC.h rfl rfl) rfl rfl ?_
    refine xval (qv_loadA (f := ew) (a := f45) (k := 1) (off := 0) (i := (x44 : Int).toNat) 1 [] [] h59b (by first | rfl | exact (List.append_nil _).symm | exact List.append_nil _ | exact List.append_assoc _ _ _ | exact (List.append_assoc _ _ _).symm | exact congrArg _ (List.append_nil _).symm | exact congrArg _ (List.append_nil _) | (simp; done) | (simp [cellsS]; done)) (by first | rfl | omega | (simp only [List.length_cons, List.length_nil]; omega) | (simp only [seg_len, List.length_append, List.length_cons, List.length_nil]; omega)) (by decide) rfl ShpC.h rfl rfl) rfl rfl ?_
    obtain ⟨c62, h61, h⟩ := h
    refine xvalP (pv_xorU h61 rfl) rfl rfl ?_
    obtain ⟨h63, h⟩ := h
    obtain ⟨y64, h63b, h⟩ := h
    refine xvalP (pv_indexAddrBA h63 UndC.h ShpC.h rfl rfl) rfl rfl ?_
    refine xstoreA (f := ew) (a := f45) (k := 1) (off := 0) (i := (x44 : Int).toNat) 1 [] [] c62 h63b (by first | rfl | exact (List.append_nil _).symm | exact List.append_nil _ | exact List.append_assoc _ _ _ | exact (List.append_assoc _ _ _).symm | exact congrArg _ (List.append_nil _).symm | exact congrArg _ (List.append_nil _) | (simp; done) | (simp [cellsS]; done)) (by first | rfl | omega | (simp only [List.length_cons, List.length_nil]; omega) | (simp only [seg_len, List.length_append, List.length_cons, List.length_nil]; omega)) (by decide) ShpC.h rfl rfl rfl rfl (by first | rfl | exact seg_lenE (by rfl) | exact len_app rfl (seg_lenE (by rfl)) (by rfl) | exact len_app (seg_lenE (by rfl)) rfl (by rfl) | exact len_app rfl (len_app (seg_lenE (by rfl)) rfl (by rfl)) (by rfl) | (simp only [seg_len, cellsS, List.length_append, List.length_cons, List.length_nil]; done) | (simp only [seg_len, cellsS, List.length_append, List.length_cons, List.length_nil]; rfl)) rfl rfl ?_
    refine xreb 1 ((List.map ew ((Arr.set f45 (x44 : Int).toNat c62)).l).flatten) rfl (by first | rfl | exact (List.append_nil _).symm | exact List.append_nil _ | exact List.append_assoc _ _ _ | exact (List.append_assoc _ _ _).symm | exact congrArg _ (List.append_nil _).symm | exact congrArg _ (List.append_nil _) | (simp; done) | (simp [cellsS]; done)) ?_
    refine xnil ?_
    refine xin_normal ?_
    refine xthen ?_
    refine xregion ?_
    obtain ⟨h65, h⟩ := h
    refine xvalP (pv_addI h65 rfl rfl) rfl rfl ?_
    refine xvalP (pv_move rfl) rfl rfl ?_
    refine xnil ?_
    obtain ⟨m', hm, hI⟩ := hag1 _ h
    exact xagain ⟨(x44 + 1), (Arr.set f45 (x44 : Int).toNat c62), hI, rfl⟩ hm ⟨(.cons rfl (.refl _) (.cons rfl (.refl _) (.cons rfl (.refl _) (.nil _)))), (SubM.of (.keep rfl rfl (.refl _) (.keep rfl rfl (.refl _) (.nil _))) (.nil _))⟩
  · replace h := h.2 hp58
    refine xcondF' (decide_eq_false hp58) rfl ?_
    refine xexit ?_
    refine xthen_exit ?_
    refine xthen_exit ?_
    refine xin_same rfl ?_
    refine xthen ?_
    refine xseq ?_
    refine xregion ?_
    refine xval (qv_loadP 1 [] ((List.map ew f45.l).flatten) [] (by first | rfl | exact (List.append_nil _).symm | exact List.append_nil _ | exact List.append_assoc _ _ _ | exact (List.append_assoc _ _ _).symm | exact congrArg _ (List.append_nil _).symm | exact congrArg _ (List.append_nil _) | (simp; done) | (simp [cellsS]; done)) (by first | rfl | exact seg_lenE (by rfl) | exact len_app rfl (seg_lenE (by rfl)) (by rfl) | exact len_app (seg_lenE (by rfl)) rfl (by rfl) | exact len_app rfl (len_app (seg_lenE (by rfl)) rfl (by rfl)) (by rfl) | (simp only [seg_len, cellsS, List.length_append, List.length_cons, List.length_nil]; done) | (simp only [seg_len, cellsS, List.length_append, List.length_cons, List.length_nil]; rfl)) (by first | rfl | exact seg_lenE (by rfl) | exact len_app rfl (seg_lenE (by rfl)) (by rfl) | exact len_app (seg_lenE (by rfl)) rfl (by rfl) | exact len_app rfl (len_app (seg_lenE (by rfl)) rfl (by rfl)) (by rfl) | (simp only [seg_len, cellsS, List.length_append, List.length_cons, List.length_nil]; done) | (simp only [seg_len, cellsS, List.length_append, List.length_cons, List.length_nil]; rfl)) (part_all (seg_lenE (by rfl))) ShpC.h rfl rfl) rfl rfl ?_
    refine xstoreP 0 [] ((List.map ew ((Arr.rep 4 (0 : UInt64))).l).flatten) [] (by first | rfl | exact (List.append_nil _).symm | exact List.append_nil _ | exact List.append_assoc _ _ _ | exact (List.append_assoc _ _ _).symm | exact congrArg _ (List.append_nil _).symm | exact congrArg _ (List.append_nil _) | (simp; done) | (simp [cellsS]; done)) (by first | rfl | exact seg_lenE (by rfl) | exact len_app rfl (seg_lenE (by rfl)) (by rfl) | exact len_app (seg_lenE (by rfl)) rfl (by rfl) | exact len_app rfl (len_app (seg_lenE (by rfl)) rfl (by rfl)) (by rfl) | (simp only [seg_len, cellsS, List.length_append, List.length_cons, List.length_nil]; done) | (simp only [seg_len, cellsS, List.length_append, List.length_cons, List.length_nil]; rfl)) (by first | rfl | exact seg_lenE (by rfl) | exact len_app rfl (seg_lenE (by rfl)) (by rfl) | exact len_app (seg_lenE (by rfl)) rfl (by rfl) | exact len_app rfl (len_app (seg_lenE (by rfl)) rfl (by rfl)) (by rfl) | (simp only [seg_len, cellsS, List.length_append, List.length_cons, List.length_nil]; done) | (simp only [seg_len, cellsS, List.length_append, List.length_cons, List.length_nil]; rfl)) ShpC.h rfl rfl rfl rfl (by first | rfl | exact seg_lenE (by rfl) | exact len_app rfl (seg_lenE (by rfl)) (by rfl) | exact len_app (seg_lenE (by rfl)) rfl (by rfl) | exact len_app rfl (len_app (seg_lenE (by rfl)) rfl (by rfl)) (by rfl) | (simp only [seg_len, cellsS, List.length_append, List.length_cons, List.length_nil]; done) | (simp only [seg_len, cellsS, List.length_append, List.length_cons, List.length_nil]; rfl)) rfl ?_
    refine xreb 0 ((List.map ew f45.l).flatten) rfl (by first | rfl | exact (List.append_nil _).symm | exact List.append_nil _ | exact List.append_assoc _ _ _ | exact (List.append_assoc _ _ _).symm | exact congrArg _ (List.append_nil _).symm | exact congrArg _ (List.append_nil _) | (simp; done) | (simp [cellsS]; done)) ?_
    refine xnil ?_
    refine xthen ?_
    refine xretc ?_
    replace h := h.symm
    subst h
    exact xretL (rs := [.cell 2 24]) (ss := [.agg ((List.map ew f45.l).flatten)]) hg rfl (by refine RetL.cell 0 ShpC.h rfl rfl (part_midE (pre := []) (mid := ((List.map ew f45.l).flatten)) (post := []) (by first | rfl | exact (List.append_nil _).symm | exact List.append_nil _ | exact List.append_assoc _ _ _ | exact (List.append_assoc _ _ _).symm | exact congrArg _ (List.append_nil _).symm | exact congrArg _ (List.append_nil _) | (simp; done) | (simp [cellsS]; done)) (by first | rfl | exact seg_lenE (by rfl) | exact len_app rfl (seg_lenE (by rfl)) (by rfl) | exact len_app (seg_lenE (by rfl)) rfl (by rfl) | exact len_app rfl (len_app (seg_lenE (by rfl)) rfl (by rfl)) (by rfl) | (simp only [seg_len, cellsS, List.length_append, List.length_cons, List.length_nil]; done) | (simp only [seg_len, cellsS, List.length_append, List.length_cons, List.length_nil]; rfl)) (by first | rfl | exact seg_lenE (by rfl) | exact len_app rfl (seg_lenE (by rfl)) (by rfl) | exact len_app (seg_lenE (by rfl)) rfl (by rfl) | exact len_app rfl (len_app (seg_lenE (by rfl)) rfl (by rfl)) (by rfl) | (simp only [seg_len, cellsS, List.length_append, List.length_cons, List.length_nil]; done) | (simp only [seg_len, cellsS, List.length_append, List.length_cons, List.length_nil]; rfl)) (part_all (seg_lenE (by rfl)))) (len_midE (pre := []) (mid := ((List.map ew f45.l).flatten)) (post := []) (by first | rfl | exact (List.append_nil _).symm | exact List.append_nil _ | exact List.append_assoc _ _ _ | exact (List.append_assoc _ _ _).symm | exact congrArg _ (List.append_nil _).symm | exact congrArg _ (List.append_nil _) | (simp; done) | (simp [cellsS]; done)) (by first | rfl | exact seg_lenE (by rfl) | exact len_app rfl (seg_lenE (by rfl)) (by rfl) | exact len_app (seg_lenE (by rfl)) rfl (by rfl) | exact len_app rfl (len_app (seg_lenE (by rfl)) rfl (by rfl)) (by rfl) | (simp only [seg_len, cellsS, List.length_append, List.length_cons, List.length_nil]; done) | (simp only [seg_len, cellsS, List.length_append, List.length_cons, List.length_nil]; rfl)) (by first | rfl | exact seg_lenE (by rfl) | exact len_app rfl (seg_lenE (by rfl)) (by rfl) | exact len_app (seg_lenE (by rfl)) rfl (by rfl) | exact len_app rfl (len_app (seg_lenE (by rfl)) rfl (by rfl)) (by rfl) | (simp only [seg_len, cellsS, List.length_append, List.length_cons, List.length_nil]; done) | (simp only [seg_len, cellsS, List.length_append, List.length_cons, List.length_nil]; rfl))) (by first | with_reducible exact Wk.refl _ | exact Wk.nil_own _ | exact Wk.nil_pl _ | with_reducible exact Wk.tok _ _ _ | exact Wk.tok _ _ _ | exact .eq rfl) ?_; exact RetL.nil) (SubM.of (.nil _) (.nil _)) ⟨rfl, rfl, rfl⟩
/-- math/bits.OnesCount64 -/
def math_bits_OnesCount64_R (x1 : UInt64) (r : Int) : Prop :=
  (0 : Int) ≤ 1 ∧ ∃ c3 : UInt64, (c3.toNat : Int) = ((x1.toNat : Int) : Int).fdiv (2 ^ (min (1 : Int).toNat IntKind.u64.bits)) ∧ ∃ c5 : UInt64, (c5.toNat : Int) = IntKind.u64.wrap (BitVec.ofInt IntKind.u64.bits (c3.toNat : Int) &&& BitVec.ofInt IntKind.u64.bits (6148914691236517205)).toNat ∧ ∃ c7 : UInt64, (c7.toNat : Int) = IntKind.u64.wrap (BitVec.ofInt IntKind.u64.bits (x1.toNat : Int) &&& BitVec.ofInt IntKind.u64.bits (6148914691236517205)).toNat ∧ ∃ c9 : UInt64, (c9.toNat : Int) = IntKind.u64.wrap ((c5.toNat : Int) + (c7.toNat : Int)) ∧ (0 : Int) ≤ 2 ∧ ∃ c11 : UInt64, (c11.toNat : Int) = ((c9.toNat : Int) : Int).fdiv (2 ^ (min (2 : Int).toNat IntKind.u64.bits)) ∧ ∃ c13 : UInt64, (c13.toNat : Int) = IntKind.u64.wrap (BitVec.ofInt IntKind.u64.bits (c11.toNat : Int) &&& BitVec.ofInt IntKind.u64.bits (3689348814741910323)).toNat ∧ ∃ c15 : UInt64, (c15.toNat : Int) = IntKind.u64.wrap (BitVec.ofInt IntKind.u64.bits (c9.toNat : Int) &&& BitVec.ofInt IntKind.u64.bits (3689348814741910323)).toNat ∧ ∃ c17 : UInt64, (c17.toNat : Int) = IntKind.u64.wrap ((c13.toNat : Int) + (c15.toNat : Int)) ∧ (0 : Int) ≤ 4 ∧ ∃ c19 : UInt64, (c19.toNat : Int) = ((c17.toNat : Int) : Int).fdiv (2 ^ (min (4 : Int).toNat IntKind.u64.bits)) ∧ ∃ c21 : UInt64, (c21.toNat : Int) = IntKind.u64.wrap ((c19.toNat : Int) + (c17.toNat : Int)) ∧ ∃ c23 : UInt64, (c23.toNat : Int) = IntKind.u64.wrap (BitVec.ofInt IntKind.u64.bits (c21.toNat : Int) &&& BitVec.ofInt IntKind.u64.bits (1085102592571150095)).toNat ∧ (0 : Int) ≤ 8 ∧ ∃ c25 : UInt64, (c25.toNat : Int) = ((c23.toNat : Int) : Int).fdiv (2 ^ (min (8 : Int).toNat IntKind.u64.bits)) ∧ ∃ c27 : UInt64, (c27.toNat : Int) = IntKind.u64.wrap ((c23.toNat : Int) + (c25.toNat : Int)) ∧ (0 : Int) ≤ 16 ∧ ∃ c29 : UInt64, (c29.toNat : Int) = ((c27.toNat : Int) : Int).fdiv (2 ^ (min (16 : Int).toNat IntKind.u64.bits)) ∧ ∃ c31 : UInt64, (c31.toNat : Int) = IntKind.u64.wrap ((c27.toNat : Int) + (c29.toNat : Int)) ∧ (0 : Int) ≤ 32 ∧ ∃ c33 : UInt64, (c33.toNat : Int) = ((c31.toNat : Int) : Int).fdiv (2 ^ (min (32 : Int).toNat IntKind.u64.bits)) ∧ ∃ c35 : UInt64, (c35.toNat : Int) = IntKind.u64.wrap ((c31.toNat : Int) + (c33.toNat : Int)) ∧ ∃ z37 : Int, z37 = IntKind.i64.wrap ((c35.toNat : Int)) ∧ ∃ c39 : Int, c39 = IntKind.i64.wrap (BitVec.ofInt IntKind.i64.bits (z37) &&& BitVec.ofInt IntKind.i64.bits (127)).toNat ∧ r = c39
set_option maxHeartbeats 4000000 in
theorem math_bits_OnesCount64_con (x1 : UInt64) (r : Int) (h : math_bits_OnesCount64_R x1 r) : Con Try.prog 21 [.v (.int .u64 ((x1.toNat : Int)))] [] [] (Ret (.v (.int .i64 r))) := by
  refine xenter Try.func21 rfl rfl fun g hg => ?_
  simp only [Try.ntmps21, slots]
  refine xseq ?_
  refine xregion ?_
  refine xvalP (pv_assign rfl) rfl rfl ?_
  refine xnil ?_
  refine xthen ?_
  refine xseq ?_
  refine xregion ?_
  refine xvalP (pv_move rfl) rfl rfl ?_
  obtain ⟨h2, h⟩ := h
  obtain ⟨c3, h2r, h⟩ := h
  refine xvalP (pv_shrW h2 h2r rfl rfl) rfl rfl ?_
  obtain ⟨c5, h4, h⟩ := h
  refine xvalP (pv_wr h4 rfl rfl rfl) rfl rfl ?_
  refine xvalP (pv_move rfl) rfl rfl ?_
  obtain ⟨c7, h6, h⟩ := h
  refine xvalP (pv_wr h6 rfl rfl rfl) rfl rfl ?_
  obtain ⟨c9, h8, h⟩ := h
  refine xvalP (pv_wr h8 rfl rfl rfl) rfl rfl ?_
  refine xvalP (pv_assign rfl) rfl rfl ?_
  refine xnil ?_
  refine xthen ?_
  refine xseq ?_
  refine xregion ?_
  refine xvalP (pv_move rfl) rfl rfl ?_
  obtain ⟨h10, h⟩ := h
  obtain ⟨c11, h10r, h⟩ := h
  refine xvalP (pv_shrW h10 h10r rfl rfl) rfl rfl ?_
  obtain ⟨c13, h12, h⟩ := h
  refine xvalP (pv_wr h12 rfl rfl rfl) rfl rfl ?_
  refine xvalP (pv_move rfl) rfl rfl ?_
  obtain ⟨c15, h14, h⟩ := h
  refine xvalP (pv_wr h14 rfl rfl rfl) rfl rfl ?_
  obtain ⟨c17, h16, h⟩ := h
  refine xvalP (pv_wr h16 rfl rfl rfl) rfl rfl ?_
  refine xvalP (pv_assign rfl) rfl rfl ?_
  refine xnil ?_
  refine xthen ?_
  refine xseq ?_
  refine xregion ?_
  refine xvalP (pv_move rfl) rfl rfl ?_
  obtain ⟨h18, h⟩ := h
  obtain ⟨c19, h18r, h⟩ := h
  refine xvalP (pv_shrW h18 h18r rfl rfl) rfl rfl ?_
  refine xvalP (pv_move rfl) rfl rfl ?_
  obtain ⟨c21, h20, h⟩ := h
  refine xvalP (pv_wr h20 rfl rfl rfl) rfl rfl ?_
  obtain ⟨c23, h22, h⟩ := h
  refine xvalP (pv_wr h22 rfl rfl rfl) rfl rfl ?_
  refine xvalP (pv_assign rfl) rfl rfl ?_
  refine xnil ?_
  refine xthen ?_
  refine xseq ?_
  refine xregion ?_
  refine xvalP (pv_move rfl) rfl rfl ?_
  refine xvalP (pv_move rfl) rfl rfl ?_
  obtain ⟨h24, h⟩ := h
  obtain ⟨c25, h24r, h⟩ := h
  refine xvalP (pv_shrW h24 h24r rfl rfl) rfl rfl ?_
  obtain ⟨c27, h26, h⟩ := h
  refine xvalP (pv_wr h26 rfl rfl rfl) rfl rfl ?_
  refine xvalP (pv_assign rfl) rfl rfl ?_
  refine xnil ?_
  refine xthen ?_
  refine xseq ?_
  refine xregion ?_
  refine xvalP (pv_move rfl) rfl rfl ?_
  refine xvalP (pv_move rfl) rfl rfl ?_
  obtain ⟨h28, h⟩ := h
  obtain ⟨c29, h28r, h⟩ := h
  refine xvalP (pv_shrW h28 h28r rfl rfl) rfl rfl ?_
  obtain ⟨c31, h30, h⟩ := h
  refine xvalP (pv_wr h30 rfl rfl rfl) rfl rfl ?_
  refine xvalP (pv_assign rfl) rfl rfl ?_
  refine xnil ?_
  refine xthen ?_
  refine xseq ?_
  refine xregion ?_
  refine xvalP (pv_move rfl) rfl rfl ?_
  refine xvalP (pv_move rfl) rfl rfl ?_
  obtain ⟨h32, h⟩ := h
  obtain ⟨c33, h32r, h⟩ := h
  refine xvalP (pv_shrW h32 h32r rfl rfl) rfl rfl ?_
  obtain ⟨c35, h34, h⟩ := h
  refine xvalP (pv_wr h34 rfl rfl rfl) rfl rfl ?_
  refine xvalP (pv_assign rfl) rfl rfl ?_
  refine xnil ?_
  refine xthen ?_
  refine xseq ?_
  refine xregion ?_
  refine xvalP (pv_move rfl) rfl rfl ?_
  obtain ⟨z37, h36, h⟩ := h
  refine xvalP (pv_convW h36 UndC.h UndC.h rfl) rfl rfl ?_
  obtain ⟨c39, h38, h⟩ := h
  refine xvalP (pv_wr h38 rfl rfl rfl) rfl rfl ?_
  refine xvalP (pv_assign rfl) rfl rfl ?_
  refine xnil ?_
  refine xthen ?_
  refine xretc ?_
  replace h := h.symm
  subst h
  exact xret1 hg rfl rfl (.refl _) (SubM.of (.nil _) (.nil _)) ⟨rfl, rfl, rfl⟩
/-- class.Count -/
def class_Count_l1 (s1 : Arr 4 (UInt64)) (ag1 : (Int × Int) → Prop) (nv40 : Int) (x41 : Int) (r : Int) : Prop :=
  ((x41 < 4 → (0 ≤ (x41 : Int) ∧ (x41 : Int) < 4) ∧ ∃ y55 : UInt64, s1.l[(x41 : Int).toNat]? = some y55 ∧ ∃ y57 : Int, math_bits_OnesCount64_R y55 y57 ∧ InR (nv40 + y57) ∧ InR (x41 + 1) ∧ ag1 ((nv40 + y57), (x41 + 1))) ∧ (¬ (x41 < 4) → r = nv40))
def class_Count_R (s1 : Arr 4 (UInt64)) (r : Int) : Prop :=
  LoopR (fun ag1 s => class_Count_l1 s1 ag1 s.1 s.2 r) (0, 0)
set_option maxHeartbeats 4000000 in
theorem class_Count_con (s1 : Arr 4 (UInt64)) (r : Int) (h : class_Count_R s1 r) : Con Try.prog 13 [.agg ((List.map ew s1.l).flatten)] [] [] (Ret (.v (.int .i64 r))) := by
  refine xenter Try.func13 rfl rfl fun g hg => ?_
  simp only [Try.ntmps13, slots]
  refine xseq ?_
  refine xregion ?_
  refine xbox rfl rfl rfl rfl fun b1 => ?_
  refine xvalP (pv_assign rfl) rfl rfl ?_
  refine xnil ?_
  refine xthen ?_
  refine xseq ?_
  refine xregion ?_
  refine xvalP (pv_assign rfl) rfl rfl ?_
  refine xnil ?_
  refine xthen ?_
  refine xseq ?_
  refine xseq ?_
  refine xregion ?_
  refine xval (qv_loadP 0 [] ((List.map ew s1.l).flatten) [] (by first | rfl | exact (List.append_nil _).symm | exact List.append_nil _ | exact List.append_assoc _ _ _ | exact (List.append_assoc _ _ _).symm | exact congrArg _ (List.append_nil _).symm | exact congrArg _ (List.append_nil _) | (simp; done) | (simp [cellsS]; done)) (by first | rfl | exact seg_lenE (by rfl) | exact len_app rfl (seg_lenE (by rfl)) (by rfl) | exact len_app (seg_lenE (by rfl)) rfl (by rfl) | exact len_app rfl (len_app (seg_lenE (by rfl)) rfl (by rfl)) (by rfl) | (simp only [seg_len, cellsS, List.length_append, List.length_cons, List.length_nil]; done) | (simp only [seg_len, cellsS, List.length_append, List.length_cons, List.length_nil]; rfl)) (by first | rfl | exact seg_lenE (by rfl) | exact len_app rfl (seg_lenE (by rfl)) (by rfl) | exact len_app (seg_lenE (by rfl)) rfl (by rfl) | exact len_app rfl (len_app (seg_lenE (by rfl)) rfl (by rfl)) (by rfl) | (simp only [seg_len, cellsS, List.length_append, List.length_cons, List.length_nil]; done) | (simp only [seg_len, cellsS, List.length_append, List.length_cons, List.length_nil]; rfl)) (part_all (seg_lenE (by rfl))) ShpC.h rfl rfl) rfl rfl ?_
  refine xvalP (pv_move rfl) rfl rfl ?_
  refine xnil ?_
  refine xthen ?_
  refine xblock ?_
  obtain ⟨Inv, ⟨m0, hI⟩, hS⟩ := h
  refine xloop (fun σ m => ∃ (nv40 : Int), ∃ (x41 : Int), Inv (nv40, x41) m ∧ σ = ⟨[(3, .v (.int .i64 nv40)), (6, .agg ((List.map ew s1.l).flatten)), (7, .v (.int .i64 x41))], [], []⟩) ⟨0, 0, hI, rfl⟩ ⟨(.cons rfl (.refl _) (.cons rfl (.refl _) (.cons rfl (.refl _) (.nil _)))), (SubM.of (.nil _) (.nil _))⟩ ?_
  rintro _ m ⟨nv40, x41, hI, rfl⟩
  obtain ⟨ag1, hag1, h⟩ : ∃ ag, (∀ s', ag s' → ∃ m', m' < m ∧ Inv s' m') ∧ class_Count_l1 s1 ag nv40 x41 r := ⟨_, fun _ h => h, hS (nv40, x41) _ hI⟩
  clear hS hI
  refine xseq ?_
  refine xregion ?_
  refine xvalP (pv_bin2 rfl rfl rfl) rfl rfl ?_
  refine xnil ?_
  refine xthen ?_
  refine xseq ?_
  by_cases hp53 : x41 < 4
  · replace h := h.1 hp53
    refine xcondT' (decide_eq_true hp53) rfl ?_
    refine xskipc ?_
    refine xthen ?_
    refine xseq ?_
    refine xblock ?_
    refine xseq ?_
    refine xregion ?_
    obtain ⟨h54, h⟩ := h
    obtain ⟨y55, h54b, h⟩ := h
    refine xvalP (pv_indexAA (f := ew) (a := s1) [] h54 h54b (by first | rfl | exact (List.append_nil _).symm | exact List.append_nil _ | exact List.append_assoc _ _ _ | exact (List.append_assoc _ _ _).symm | exact congrArg _ (List.append_nil _).symm | exact congrArg _ (List.append_nil _) | (simp; done) | (simp [cellsS]; done)) rfl UndC.h ShpC.h rfl rfl) rfl rfl ?_
    refine xvalP (pv_assign rfl) rfl rfl ?_
    refine xnil ?_
    refine xthen ?_
    refine xregion ?_
    refine xvalP (pv_move rfl) rfl rfl ?_
    refine xvalP (pv_move rfl) rfl rfl ?_
    obtain ⟨y57, h56, h⟩ := h
    refine xcall0 (math_bits_OnesCount64_con y55 _ h56) Try.func21 (by kernel_rfl) rfl (.cons rfl (.refl _) .nil) rfl rfl ?_
    obtain ⟨h58, h⟩ := h
    refine xvalP (pv_addI h58 rfl rfl) rfl rfl ?_
    refine xvalP (pv_assign rfl) rfl rfl ?_
    refine xnil ?_
    refine xin_normal ?_
    refine xthen ?_
    refine xregion ?_
    obtain ⟨h59, h⟩ := h
    refine xvalP (pv_addI h59 rfl rfl) rfl rfl ?_
    refine xvalP (pv_move rfl) rfl rfl ?_
    refine xnil ?_
    obtain ⟨m', hm, hI⟩ := hag1 _ h
    exact xagain ⟨(nv40 + y57), (x41 + 1), hI, rfl⟩ hm ⟨(.cons rfl (.refl _) (.cons rfl (.refl _) (.cons rfl (.refl _) (.nil _)))), (SubM.of (.nil _) (.nil _))⟩
  · replace h := h.2 hp53
    refine xcondF' (decide_eq_false hp53) rfl ?_
    refine xexit ?_
    refine xthen_exit ?_
    refine xthen_exit ?_
    refine xin_same rfl ?_
    refine xthen ?_
    refine xseq ?_
    refine xregion ?_
    refine xvalP (pv_move rfl) rfl rfl ?_
    refine xvalP (pv_assign rfl) rfl rfl ?_
    refine xnil ?_
    refine xthen ?_
    refine xretc ?_
    replace h := h.symm
    subst h
    exact xret1 hg rfl rfl (.refl _) (SubM.of (.nil _) (.nil _)) ⟨rfl, rfl, rfl⟩
/-- class.Has -/
def class_Has_R (s1 : Arr 4 (UInt64)) (c2 : UInt8) (r : Bool) : Prop :=
  (64 : Int) ≠ 0 ∧ ∃ c4 : UInt8, (c4.toNat : Int) = IntKind.u8.wrap (((c2.toNat : Int)).tdiv 64) ∧ (0 ≤ ((c4.toNat : Int) : Int) ∧ ((c4.toNat : Int) : Int) < 4) ∧ ∃ y6 : UInt64, s1.l[((c4.toNat : Int) : Int).toNat]? = some y6 ∧ (64 : Int) ≠ 0 ∧ ∃ c8 : UInt8, (c8.toNat : Int) = (((c2.toNat : Int)).tmod 64) ∧ (0 : Int) ≤ (c8.toNat : Int) ∧ ∃ c10 : UInt64, (c10.toNat : Int) = ((y6.toNat : Int) : Int).fdiv (2 ^ (min ((c8.toNat : Int) : Int).toNat IntKind.u64.bits)) ∧ ∃ c12 : UInt64, (c12.toNat : Int) = IntKind.u64.wrap (BitVec.ofInt IntKind.u64.bits (c10.toNat : Int) &&& BitVec.ofInt IntKind.u64.bits (1)).toNat ∧ r = (decide ((c12.toNat : Int) = 1))
set_option maxHeartbeats 4000000 in
theorem class_Has_con (s1 : Arr 4 (UInt64)) (c2 : UInt8) (r : Bool) (h : class_Has_R s1 c2 r) : Con Try.prog 8 [.agg ((List.map ew s1.l).flatten), .v (.int .u8 ((c2.toNat : Int)))] [] [] (Ret (.v (.bool r))) := by
  refine xenter Try.func8 rfl rfl fun g hg => ?_
  simp only [Try.ntmps8, slots]
  refine xseq ?_
  refine xregion ?_
  refine xbox rfl rfl rfl rfl fun b2 => ?_
  refine xvalP (pv_assign rfl) rfl rfl ?_
  refine xnil ?_
  refine xthen ?_
  refine xseq ?_
  refine xregion ?_
  refine xvalP (pv_move rfl) rfl rfl ?_
  obtain ⟨h3, h⟩ := h
  obtain ⟨c4, h3r, h⟩ := h
  refine xvalP (pv_quoW h3 h3r rfl rfl rfl) rfl rfl ?_
  obtain ⟨h5, h⟩ := h
  obtain ⟨y6, h5b, h⟩ := h
  refine xvalP (pv_indexAddrBA h5 UndC.h ShpC.h rfl rfl) rfl rfl ?_
  refine xval (qv_loadA (f := ew) (a := s1) (k := 1) (off := 0) (i := ((c4.toNat : Int) : Int).toNat) 0 [] [] h5b (by first | rfl | exact (List.append_nil _).symm | exact List.append_nil _ | exact List.append_assoc _ _ _ | exact (List.append_assoc _ _ _).symm | exact congrArg _ (List.append_nil _).symm | exact congrArg _ (List.append_nil _) | (simp; done) | (simp [cellsS]; done)) (by first | rfl | omega | (simp only [List.length_cons, List.length_nil]; omega) | (simp only [seg_len, List.length_append, List.length_cons, List.length_nil]; omega)) (by decide) rfl ShpC.h rfl rfl) rfl rfl ?_
  refine xvalP (pv_move rfl) rfl rfl ?_
  obtain ⟨h7, h⟩ := h
  obtain ⟨c8, h7r, h⟩ := h
  refine xvalP (pv_remW h7 h7r rfl rfl rfl) rfl rfl ?_
  obtain ⟨h9, h⟩ := h
  obtain ⟨c10, h9r, h⟩ := h
  refine xvalP (pv_shrW h9 h9r rfl rfl) rfl rfl ?_
  obtain ⟨c12, h11, h⟩ := h
  refine xvalP (pv_wr h11 rfl rfl rfl) rfl rfl ?_
  refine xvalP (pv_bin2 rfl rfl rfl) rfl rfl ?_
  refine xvalP (pv_assign rfl) rfl rfl ?_
  refine xnil ?_
  refine xthen ?_
  refine xretc ?_
  replace h := h.symm
  subst h
  exact xret1 hg rfl rfl (.refl _) (SubM.of (.nil _) (.nil _)) ⟨rfl, rfl, rfl⟩
/-- palinodelaw05.awake -/
def palinodelaw05_awake_R (r : Bool) : Prop :=
  ∃ y19 : (Arr 4 (UInt64)), class_Of_R ([] : List UInt8) y19 ∧ ∃ y21 : (Arr 4 (UInt64)), class_Not_R y19 y21 ∧ ∃ y23 : Int, class_Count_R y21 y23 ∧ ((y23 = 256 → ∃ y27 : (Arr 4 (UInt64)), class_Of_R ([(65 : UInt8), (200 : UInt8)]) y27 ∧ ∃ y29 : Bool, class_Has_R y27 (200 : UInt8) y29 ∧ ((y29 = true → ∃ y32 : (Arr 4 (UInt64)), class_Of_R ([(65 : UInt8)]) y32 ∧ ∃ y34 : Bool, class_Has_R y32 (66 : UInt8) y34 ∧ r = (!y34)) ∧ (¬ (y29 = true) → r = false))) ∧ (¬ (y23 = 256) → r = false))
set_option maxHeartbeats 4000000 in
theorem palinodelaw05_awake_con (r : Bool) (h : palinodelaw05_awake_R r) : Con Try.prog 14 [] [] [] (Ret (.v (.bool r))) := by
  refine xenter Try.func14 rfl rfl fun g hg => ?_
  simp only [Try.ntmps14, slots]
  refine xseq ?_
  refine xregion ?_
  refine xvalP (pv_assign rfl) rfl rfl ?_
  refine xnil ?_
  refine xthen ?_
  refine xseq ?_
  refine xregion ?_
  obtain ⟨y19, h18, h⟩ := h
  refine xcall0 (class_Of_con ([] : List UInt8) _ h18) Try.func16 (by kernel_rfl) rfl (.cons rfl (.nil_pl _) .nil) rfl rfl ?_
  obtain ⟨y21, h20, h⟩ := h
  refine xcall0 (class_Not_con y19 _ h20) Try.func10 (by kernel_rfl) rfl (.cons rfl (.refl _) .nil) rfl rfl ?_
  obtain ⟨y23, h22, h⟩ := h
  refine xcall0 (class_Count_con y21 _ h22) Try.func13 (by kernel_rfl) rfl (.cons rfl (.refl _) .nil) rfl rfl ?_
  refine xvalP (pv_bin2 rfl rfl rfl) rfl rfl ?_
  refine xvalP (pv_move rfl) rfl rfl ?_
  by_cases hp25 : y23 = 256
  · replace h := h.1 hp25
    refine xsetB 5 (decide_eq_true hp25) rfl ?_
    refine xbuildSliceM (f := eb) [(65 : UInt8), (200 : UInt8)] UndC.h InfC.h rfl rfl (by first | exact wkR_of rfl | (repeat (first | exact WkR.nil | refine WkR.cons (by (repeat (first | exact WkL.nil | refine WkL.cons (by first | with_reducible exact Wk.refl _ | exact Wk.nil_own _ | exact Wk.nil_pl _ | with_reducible exact Wk.tok _ _ _ | exact Wk.tok _ _ _ | exact Wk.eq (by first | rfl | (simp []; done) | (simp []; omega))) ?_))) ?_))) rfl rfl rfl rfl fun s6 => ?_
    obtain ⟨y27, h26, h⟩ := h
    refine xcall0 (class_Of_con ([(65 : UInt8), (200 : UInt8)]) _ h26) Try.func16 (by kernel_rfl) rfl (.cons rfl (.tok _ _ _) .nil) rfl rfl ?_
    obtain ⟨y29, h28, h⟩ := h
    refine xcall0 (class_Has_con y27 (200 : UInt8) _ h28) Try.func8 (by kernel_rfl) rfl (.cons rfl (.refl _) (.cons rfl (.refl _) .nil)) rfl rfl ?_
    refine xvalP (pv_pick rfl rfl) rfl rfl ?_
    refine xvalP (pv_move rfl) rfl rfl ?_
    by_cases hp30 : y29 = true
    · replace h := h.1 hp30
      refine xsetB 10 hp30 rfl ?_
      refine xbuildSliceM (f := eb) [(65 : UInt8)] UndC.h InfC.h rfl rfl (by first | exact wkR_of rfl | (repeat (first | exact WkR.nil | refine WkR.cons (by (repeat (first | exact WkL.nil | refine WkL.cons (by first | with_reducible exact Wk.refl _ | exact Wk.nil_own _ | exact Wk.nil_pl _ | with_reducible exact Wk.tok _ _ _ | exact Wk.tok _ _ _ | exact Wk.eq (by first | rfl | (simp []; done) | (simp []; omega))) ?_))) ?_))) rfl rfl rfl rfl fun s11 => ?_
      obtain ⟨y32, h31, h⟩ := h
      refine xcall0 (class_Of_con ([(65 : UInt8)]) _ h31) Try.func16 (by kernel_rfl) rfl (.cons rfl (.tok _ _ _) .nil) rfl rfl ?_
      obtain ⟨y34, h33, h⟩ := h
      refine xcall0 (class_Has_con y32 (66 : UInt8) _ h33) Try.func8 (by kernel_rfl) rfl (.cons rfl (.refl _) (.cons rfl (.refl _) .nil)) rfl rfl ?_
      refine xvalP (pv_not rfl) rfl rfl ?_
      refine xvalP (pv_pick rfl rfl) rfl rfl ?_
      refine xvalP (pv_assign rfl) rfl rfl ?_
      refine xnil ?_
      refine xthen ?_
      refine xretc ?_
      replace h := h.symm
      subst h
      exact xret1 hg rfl rfl (.refl _) (SubM.of (.nil _) (.nil _)) ⟨rfl, rfl, rfl⟩
    · replace h := h.2 hp30
      refine xsetB 10 (b_f hp30) rfl ?_
      refine xskip rfl rfl ?_
      refine xskip rfl rfl ?_
      refine xskip rfl rfl ?_
      refine xskip rfl rfl ?_
      refine xvalP (pv_pick rfl rfl) rfl rfl ?_
      refine xvalP (pv_assign rfl) rfl rfl ?_
      refine xnil ?_
      refine xthen ?_
      refine xretc ?_
      replace h := h.symm
      subst h
      exact xret1 hg rfl rfl (.refl _) (SubM.of (.nil _) (.nil _)) ⟨rfl, rfl, rfl⟩
  · replace h := h.2 hp25
    refine xsetB 5 (decide_eq_false hp25) rfl ?_
    refine xskip rfl rfl ?_
    refine xskip rfl rfl ?_
    refine xskip rfl rfl ?_
    refine xvalP (pv_pick rfl rfl) rfl rfl ?_
    refine xvalP (pv_move rfl) rfl rfl ?_
    refine xskip rfl rfl ?_
    refine xskip rfl rfl ?_
    refine xskip rfl rfl ?_
    refine xskip rfl rfl ?_
    refine xvalP (pv_pick rfl rfl) rfl rfl ?_
    refine xvalP (pv_assign rfl) rfl rfl ?_
    refine xnil ?_
    refine xthen ?_
    refine xretc ?_
    replace h := h.symm
    subst h
    exact xret1 hg rfl rfl (.refl _) (SubM.of (.nil _) (.nil _)) ⟨rfl, rfl, rfl⟩
/-- palinoderef05.Has -/
def palinoderef05_Has_l1 (c2 : UInt8) (ag1 : (UInt64 × UInt8) → Prop) (w57 : UInt64) (i58 : UInt8) (r : Bool) : Prop :=
  (64 : Int) ≠ 0 ∧ ∃ c76 : UInt8, (c76.toNat : Int) = (((c2.toNat : Int)).tmod 64) ∧ (((i58.toNat : Int) < (c76.toNat : Int) → (2 : Int) ≠ 0 ∧ ∃ c80 : UInt64, (c80.toNat : Int) = IntKind.u64.wrap (((w57.toNat : Int)).tdiv 2) ∧ ∃ c82 : UInt8, (c82.toNat : Int) = IntKind.u8.wrap ((i58.toNat : Int) + 1) ∧ ag1 (c80, c82)) ∧ (¬ ((i58.toNat : Int) < (c76.toNat : Int)) → (2 : Int) ≠ 0 ∧ ∃ c84 : UInt64, (c84.toNat : Int) = (((w57.toNat : Int)).tmod 2) ∧ r = (decide ((c84.toNat : Int) = 1))))
def palinoderef05_Has_R (s1 : Arr 4 (UInt64)) (c2 : UInt8) (r : Bool) : Prop :=
  (64 : Int) ≠ 0 ∧ ∃ c4 : UInt8, (c4.toNat : Int) = IntKind.u8.wrap (((c2.toNat : Int)).tdiv 64) ∧ (0 ≤ ((c4.toNat : Int) : Int) ∧ ((c4.toNat : Int) : Int) < 4) ∧ ∃ y6 : UInt64, s1.l[((c4.toNat : Int) : Int).toNat]? = some y6 ∧ LoopR (fun ag1 s => palinoderef05_Has_l1 c2 ag1 s.1 s.2 r) (y6, (0 : UInt8))
set_option maxHeartbeats 4000000 in
theorem palinoderef05_Has_con (s1 : Arr 4 (UInt64)) (c2 : UInt8) (r : Bool) (h : palinoderef05_Has_R s1 c2 r) : Con Try.prog 9 [.agg ((List.map ew s1.l).flatten), .v (.int .u8 ((c2.toNat : Int)))] [] [] (Ret (.v (.bool r))) := by
  refine xenter Try.func9 rfl rfl fun g hg => ?_
  simp only [Try.ntmps9, slots]
  refine xseq ?_
  refine xregion ?_
  refine xbox rfl rfl rfl rfl fun b2 => ?_
  refine xvalP (pv_assign rfl) rfl rfl ?_
  refine xnil ?_
  refine xthen ?_
  refine xseq ?_
  refine xregion ?_
  refine xvalP (pv_move rfl) rfl rfl ?_
  obtain ⟨h3, h⟩ := h
  obtain ⟨c4, h3r, h⟩ := h
  refine xvalP (pv_quoW h3 h3r rfl rfl rfl) rfl rfl ?_
  obtain ⟨h5, h⟩ := h
  obtain ⟨y6, h5b, h⟩ := h
  refine xvalP (pv_indexAddrBA h5 UndC.h ShpC.h rfl rfl) rfl rfl ?_
  refine xval (qv_loadA (f := ew) (a := s1) (k := 1) (off := 0) (i := ((c4.toNat : Int) : Int).toNat) 0 [] [] h5b (by first | rfl | exact (List.append_nil _).symm | exact List.append_nil _ | exact List.append_assoc _ _ _ | exact (List.append_assoc _ _ _).symm | exact congrArg _ (List.append_nil _).symm | exact congrArg _ (List.append_nil _) | (simp; done) | (simp [cellsS]; done)) (by first | rfl | omega | (simp only [List.length_cons, List.length_nil]; omega) | (simp only [seg_len, List.length_append, List.length_cons, List.length_nil]; omega)) (by decide) rfl ShpC.h rfl rfl) rfl rfl ?_
  refine xvalP (pv_assign rfl) rfl rfl ?_
  refine xnil ?_
  refine xthen ?_
  refine xseq ?_
  refine xseq ?_
  refine xregion ?_
  refine xvalP (pv_assign rfl) rfl rfl ?_
  refine xnil ?_
  refine xthen ?_
  refine xblock ?_
  obtain ⟨Inv, ⟨m0, hI⟩, hS⟩ := h
  refine xloop (fun σ m => ∃ (w57 : UInt64), ∃ (i58 : UInt8), Inv (w57, i58) m ∧ σ = ⟨[(1, .v (.int .u8 ((c2.toNat : Int)))), (5, .v (.int .u64 ((w57.toNat : Int)))), (6, .v (.int .u8 ((i58.toNat : Int))))], [], []⟩) ⟨y6, (0 : UInt8), hI, rfl⟩ ⟨(.cons rfl (.refl _) (.cons rfl (.refl _) (.cons rfl (.refl _) (.nil _)))), (SubM.of (.nil _) (.nil _))⟩ ?_
  rintro _ m ⟨w57, i58, hI, rfl⟩
  obtain ⟨ag1, hag1, h⟩ : ∃ ag, (∀ s', ag s' → ∃ m', m' < m ∧ Inv s' m') ∧ palinoderef05_Has_l1 c2 ag w57 i58 r := ⟨_, fun _ h => h, hS (w57, i58) _ hI⟩
  clear hS hI
  refine xseq ?_
  refine xseq ?_
  refine xregion ?_
  refine xvalP (pv_move rfl) rfl rfl ?_
  refine xvalP (pv_move rfl) rfl rfl ?_
  obtain ⟨h75, h⟩ := h
  obtain ⟨c76, h75r, h⟩ := h
  refine xvalP (pv_remW h75 h75r rfl rfl rfl) rfl rfl ?_
  refine xvalP (pv_bin2 rfl rfl rfl) rfl rfl ?_
  refine xnil ?_
  refine xthen ?_
  by_cases hp78 : (i58.toNat : Int) < (c76.toNat : Int)
  · replace h := h.1 hp78
    refine xcondT' (decide_eq_true hp78) rfl ?_
    refine xskipc ?_
    refine xthen ?_
    refine xseq ?_
    refine xblock ?_
    refine xregion ?_
    refine xvalP (pv_move rfl) rfl rfl ?_
    obtain ⟨h79, h⟩ := h
    obtain ⟨c80, h79r, h⟩ := h
    refine xvalP (pv_quoW h79 h79r rfl rfl rfl) rfl rfl ?_
    refine xvalP (pv_assign rfl) rfl rfl ?_
    refine xnil ?_
    refine xin_normal ?_
    refine xthen ?_
    refine xregion ?_
    refine xvalP (pv_move rfl) rfl rfl ?_
    obtain ⟨c82, h81, h⟩ := h
    refine xvalP (pv_wr h81 rfl rfl rfl) rfl rfl ?_
    refine xvalP (pv_assign rfl) rfl rfl ?_
    refine xnil ?_
    obtain ⟨m', hm, hI⟩ := hag1 _ h
    exact xagain ⟨c80, c82, hI, rfl⟩ hm ⟨(.cons rfl (.refl _) (.cons rfl (.refl _) (.cons rfl (.refl _) (.nil _)))), (SubM.of (.nil _) (.nil _))⟩
  · replace h := h.2 hp78
    refine xcondF' (decide_eq_false hp78) rfl ?_
    refine xexit ?_
    refine xthen_exit ?_
    refine xthen_exit ?_
    refine xin_same rfl ?_
    refine xthen ?_
    refine xseq ?_
    refine xregion ?_
    refine xvalP (pv_move rfl) rfl rfl ?_
    obtain ⟨h83, h⟩ := h
    obtain ⟨c84, h83r, h⟩ := h
    refine xvalP (pv_remW h83 h83r rfl rfl rfl) rfl rfl ?_
    refine xvalP (pv_bin2 rfl rfl rfl) rfl rfl ?_
    refine xvalP (pv_assign rfl) rfl rfl ?_
    refine xnil ?_
    refine xthen ?_
    refine xretc ?_
    replace h := h.symm
    subst h
    exact xret1 hg rfl rfl (.refl _) (SubM.of (.nil _) (.nil _)) ⟨rfl, rfl, rfl⟩
/-- class.Union -/
def class_Union_l2 (y735 : Arr 4 (UInt64)) (x534 : Int) (ag1 : (Int × (Arr 4 (UInt64))) → Prop) (ag2 : (Int × (Arr 4 (UInt64))) → Prop) (x757 : Int) (f758 : Arr 4 (UInt64)) (r : (Arr 4 (UInt64))) : Prop :=
  ((x757 < 4 → (0 ≤ (x757 : Int) ∧ (x757 : Int) < 4) ∧ ∃ y791 : UInt64, f758.l[(x757 : Int).toNat]? = some y791 ∧ (0 ≤ (x757 : Int) ∧ (x757 : Int) < 4) ∧ ∃ y793 : UInt64, y735.l[(x757 : Int).toNat]? = some y793 ∧ ∃ c795 : UInt64, (c795.toNat : Int) = IntKind.u64.wrap (BitVec.ofInt IntKind.u64.bits (y791.toNat : Int) ||| BitVec.ofInt IntKind.u64.bits (y793.toNat : Int)).toNat ∧ (0 ≤ (x757 : Int) ∧ (x757 : Int) < 4) ∧ ∃ y797 : UInt64, f758.l[(x757 : Int).toNat]? = some y797 ∧ InR (x757 + 1) ∧ ag2 ((x757 + 1), (Arr.set f758 (x757 : Int).toNat c795))) ∧ (¬ (x757 < 4) → InR (x534 + 1) ∧ ag1 ((x534 + 1), f758)))
def class_Union_l1 (l1 : List (Arr 4 (UInt64))) (ag1 : (Int × (Arr 4 (UInt64))) → Prop) (x534 : Int) (f535 : Arr 4 (UInt64)) (r : (Arr 4 (UInt64))) : Prop :=
  ((x534 < (l1.length : Int) → 0 ≤ (x534 : Int) ∧ ∃ y735 : Arr 4 (UInt64), l1[(x534 : Int).toNat]? = some y735 ∧ LoopR (fun ag2 s => class_Union_l2 y735 x534 ag1 ag2 s.1 s.2 r) (0, f535)) ∧ (¬ (x534 < (l1.length : Int)) → r = f535))
def class_Union_R (l1 : List (Arr 4 (UInt64))) (r : (Arr 4 (UInt64))) : Prop :=
  LoopR (fun ag1 s => class_Union_l1 l1 ag1 s.1 s.2 r) (0, (Arr.rep 4 (0 : UInt64)))
set_option maxHeartbeats 4000000 in
theorem class_Union_con (l1 : List (Arr 4 (UInt64))) (r : (Arr 4 (UInt64))) (h : class_Union_R l1 r) : Con Try.prog 15 [.sl 4 none (List.map E_palinode_api_Set l1)] [] [] (Ret (.agg ((List.map ew r.l).flatten))) := by
  refine xenter Try.func15 rfl rfl fun g hg => ?_
  simp only [Try.ntmps15, slots]
  refine xseq ?_
  refine xregion ?_
  refine xalloc InfC.h rfl rfl fun b2 => ?_
  refine xreb 0 ((List.map ew ((Arr.rep 4 (0 : UInt64))).l).flatten) rfl rfl ?_
  refine xnil ?_
  refine xthen ?_
  refine xseq ?_
  refine xregion ?_
  refine xalloc InfC.h rfl rfl fun b3 => ?_
  refine xreb 0 ((List.map ew ((Arr.rep 4 (0 : UInt64))).l).flatten) rfl rfl ?_
  refine xnil ?_
  refine xthen ?_
  refine xseq ?_
  refine xseq ?_
  refine xregion ?_
  refine xvalP (pv_move rfl) rfl rfl ?_
  refine xvalP (pv_lenM UndC.h rfl) rfl rfl ?_
  refine xvalP (pv_move rfl) rfl rfl ?_
  refine xnil ?_
  refine xthen ?_
  refine xblock ?_
  obtain ⟨Inv, ⟨m0, hI⟩, hS⟩ := h
  refine xloop (fun σ m => ∃ (x534 : Int), ∃ (f535 : Arr 4 (UInt64)), Inv (x534, f535) m ∧ σ = ⟨[(2, .v (.pointer (some ⟨b2, 0, none⟩))), (3, .v (.pointer (some ⟨b3, 0, none⟩))), (7, .sl 4 none (List.map E_palinode_api_Set l1)), (8, .v (.int .i64 ((l1.length : Int)))), (9, .v (.int .i64 x534))], [⟨b3, 24, ((List.map ew f535.l).flatten)⟩, ⟨b2, 24, ((List.map ew ((Arr.rep 4 (0 : UInt64))).l).flatten)⟩], []⟩) ⟨0, (Arr.rep 4 (0 : UInt64)), hI, rfl⟩ ⟨(.cons rfl (.refl _) (.cons rfl (.refl _) (.cons rfl (.refl _) (.cons rfl (.refl _) (.cons rfl (.refl _) (.nil _)))))), (SubM.of (.keep rfl rfl (.refl _) (.keep rfl rfl (.refl _) (.nil _))) (.nil _))⟩ ?_
  rintro _ m ⟨x534, f535, hI, rfl⟩
  obtain ⟨ag1, hag1, h⟩ : ∃ ag, (∀ s', ag s' → ∃ m', m' < m ∧ Inv s' m') ∧ class_Union_l1 l1 ag x534 f535 r := ⟨_, fun _ h => h, hS (x534, f535) _ hI⟩
  clear hS hI
  refine xseq ?_
  refine xregion ?_
  refine xvalP (pv_bin2 rfl rfl rfl) rfl rfl ?_
  refine xnil ?_
  refine xthen ?_
  refine xseq ?_
  by_cases hp670 : x534 < (l1.length : Int)
  · replace h := h.1 hp670
    refine xcondT' (decide_eq_true hp670) rfl ?_
    refine xskipc ?_
    refine xthen ?_
    refine xseq ?_
    refine xblock ?_
    refine xseq ?_
    refine xregion ?_
    obtain ⟨h736a, h⟩ := h
    obtain ⟨y735, h736b, h⟩ := h
    refine xvalP (pv_indexAddrM h736a h736b UndC.h ShpC.h rfl rfl) rfl rfl ?_
    refine xval (qv_loadEP ((List.map ew y735.l).flatten) [] (by first | rfl | exact (List.append_nil _).symm | exact List.append_nil _ | exact List.append_assoc _ _ _ | exact (List.append_assoc _ _ _).symm | exact congrArg _ (List.append_nil _).symm | exact congrArg _ (List.append_nil _) | (simp; done) | (simp [cellsS]; done)) (by first | rfl | exact seg_lenE (by rfl) | exact len_app rfl (seg_lenE (by rfl)) (by rfl) | exact len_app (seg_lenE (by rfl)) rfl (by rfl) | exact len_app rfl (len_app (seg_lenE (by rfl)) rfl (by rfl)) (by rfl) | (simp only [seg_len, cellsS, List.length_append, List.length_cons, List.length_nil]; done) | (simp only [seg_len, cellsS, List.length_append, List.length_cons, List.length_nil]; rfl)) (part_all (seg_lenE (by rfl))) ShpC.h rfl) rfl rfl ?_
    refine xalloc InfC.h rfl rfl fun b5 => ?_
    refine xreb 0 ((List.map ew ((Arr.rep 4 (0 : UInt64))).l).flatten) rfl rfl ?_
    refine xstoreP 0 [] ((List.map ew ((Arr.rep 4 (0 : UInt64))).l).flatten) [] (by first | rfl | exact (List.append_nil _).symm | exact List.append_nil _ | exact List.append_assoc _ _ _ | exact (List.append_assoc _ _ _).symm | exact congrArg _ (List.append_nil _).symm | exact congrArg _ (List.append_nil _) | (simp; done) | (simp [cellsS]; done)) (by first | rfl | exact seg_lenE (by rfl) | exact len_app rfl (seg_lenE (by rfl)) (by rfl) | exact len_app (seg_lenE (by rfl)) rfl (by rfl) | exact len_app rfl (len_app (seg_lenE (by rfl)) rfl (by rfl)) (by rfl) | (simp only [seg_len, cellsS, List.length_append, List.length_cons, List.length_nil]; done) | (simp only [seg_len, cellsS, List.length_append, List.length_cons, List.length_nil]; rfl)) (by first | rfl | exact seg_lenE (by rfl) | exact len_app rfl (seg_lenE (by rfl)) (by rfl) | exact len_app (seg_lenE (by rfl)) rfl (by rfl) | exact len_app rfl (len_app (seg_lenE (by rfl)) rfl (by rfl)) (by rfl) | (simp only [seg_len, cellsS, List.length_append, List.length_cons, List.length_nil]; done) | (simp only [seg_len, cellsS, List.length_append, List.length_cons, List.length_nil]; rfl)) ShpC.h rfl rfl rfl rfl (by first | rfl | exact seg_lenE (by rfl) | exact len_app rfl (seg_lenE (by rfl)) (by rfl) | exact len_app (seg_lenE (by rfl)) rfl (by rfl) | exact len_app rfl (len_app (seg_lenE (by rfl)) rfl (by rfl)) (by rfl) | (simp only [seg_len, cellsS, List.length_append, List.length_cons, List.length_nil]; done) | (simp only [seg_len, cellsS, List.length_append, List.length_cons, List.length_nil]; rfl)) rfl ?_
    refine xreb 0 ((List.map ew y735.l).flatten) rfl (by first | rfl | exact (List.append_nil _).symm | exact List.append_nil _ | exact List.append_assoc _ _ _ | exact (List.append_assoc _ _ _).symm | exact congrArg _ (List.append_nil _).symm | exact congrArg _ (List.append_nil _) | (simp; done) | (simp [cellsS]; done)) ?_
    refine xnil ?_
    refine xthen ?_
    refine xseq ?_
    refine xregion ?_
    refine xvalP (pv_move rfl) rfl rfl ?_
    refine xnil ?_
    refine xthen ?_
    refine xblock ?_
    obtain ⟨Inv, ⟨m0, hI⟩, hS⟩ := h
    refine xloop (fun σ m => ∃ (x757 : Int), ∃ (f758 : Arr 4 (UInt64)), Inv (x757, f758) m ∧ σ = ⟨[(2, .v (.pointer (some ⟨b2, 0, none⟩))), (3, .v (.pointer (some ⟨b3, 0, none⟩))), (5, .v (.pointer (some ⟨b5, 0, none⟩))), (7, .sl 4 none (List.map E_palinode_api_Set l1)), (8, .v (.int .i64 ((l1.length : Int)))), (9, .v (.int .i64 x534)), (13, .v (.int .i64 x757))], [⟨b5, 24, ((List.map ew y735.l).flatten)⟩, ⟨b3, 24, ((List.map ew f758.l).flatten)⟩, ⟨b2, 24, ((List.map ew ((Arr.rep 4 (0 : UInt64))).l).flatten)⟩], []⟩) ⟨0, f535, hI, rfl⟩ ⟨(.cons rfl (.refl _) (.cons rfl (.refl _) (.cons rfl (.refl _) (.cons rfl (.refl _) (.cons rfl (.refl _) (.cons rfl (.refl _) (.cons rfl (.refl _) (.nil _)))))))), (SubM.of (.keep rfl rfl (.refl _) (.keep rfl rfl (.refl _) (.keep rfl rfl (.refl _) (.nil _)))) (.nil _))⟩ ?_
    rintro _ m ⟨x757, f758, hI, rfl⟩
    obtain ⟨ag2, hag2, h⟩ : ∃ ag, (∀ s', ag s' → ∃ m', m' < m ∧ Inv s' m') ∧ class_Union_l2 y735 x534 ag1 ag x757 f758 r := ⟨_, fun _ h => h, hS (x757, f758) _ hI⟩
    clear hS hI
    refine xseq ?_
    refine xregion ?_
    refine xvalP (pv_bin2 rfl rfl rfl) rfl rfl ?_
    refine xnil ?_
    refine xthen ?_
    refine xseq ?_
    by_cases hp781 : x757 < 4
    · replace h := h.1 hp781
      refine xcondT' (decide_eq_true hp781) rfl ?_
      refine xskipc ?_
      refine xthen ?_
      refine xseq ?_
      refine xblock ?_
      refine xseq ?_
      refine xregion ?_
      refine xvalP (pv_move rfl) rfl rfl ?_
      refine xvalP (pv_assign rfl) rfl rfl ?_
      refine xnil ?_
      refine xthen ?_
      refine xregionD (m := 9) (by kernel_rfl) rfl ?_
      obtain ⟨h790, h⟩ := h
      obtain ⟨y791, h790b, h⟩ := h
      obtain ⟨h792, h⟩ := h
      obtain ⟨y793, h792b, h⟩ := h
      obtain ⟨c795, h794, h⟩ := h
      obtain ⟨h796, h⟩ := h
      obtain ⟨y797, h796b, h⟩ := h
      refine xpval 0 rfl (pv_move rfl) rfl rfl (by kernel_rfl) (by kernel_rfl) (by kernel_rfl) (fun _ _ _ _ h => h) ?_
      refine xpval 1 rfl (pv_indexAddrBA h790 UndC.h ShpC.h rfl rfl) rfl rfl (by kernel_rfl) (by kernel_rfl) (by kernel_rfl) (fun _ _ _ _ h => h) ?_
      refine xpval 3 rfl (pv_move rfl) rfl rfl (by kernel_rfl) (by kernel_rfl) (by kernel_rfl) (fun _ _ _ _ h => h) ?_
      refine xpval 4 rfl (pv_indexAddrBA h792 UndC.h ShpC.h rfl rfl) rfl rfl (by kernel_rfl) (by kernel_rfl) (by kernel_rfl) (fun _ _ _ _ h => h) ?_
      refine xpvalE 2 [5] rfl (qv_loadA (f := ew) (a := f758) (k := 1) (off := 0) (i := (x757 : Int).toNat) 1 [] [] h790b (by first | rfl | exact (List.append_nil _).symm | exact List.append_nil _ | exact List.append_assoc _ _ _ | exact (List.append_assoc _ _ _).symm | exact congrArg _ (List.append_nil _).symm | exact congrArg _ (List.append_nil _) | (simp; done) | (simp [cellsS]; done)) (by first | rfl | omega | (simp only [List.length_cons, List.length_nil]; omega) | (simp only [seg_len, List.length_append, List.length_cons, List.length_nil]; omega)) (by decide) rfl ShpC.h rfl rfl) rfl rfl (by kernel_rfl) (by kernel_rfl) (by kernel_rfl) (fun _ _ _ _ h => h) ?_
      refine xpvalE 5 [] rfl (qv_loadA (f := ew) (a := y735) (k := 1) (off := 0) (i := (x757 : Int).toNat) 0 [] [] h792b (by first | rfl | exact (List.append_nil _).symm | exact List.append_nil _ | exact List.append_assoc _ _ _ | exact (List.append_assoc _ _ _).symm | exact congrArg _ (List.append_nil _).symm | exact congrArg _ (List.append_nil _) | (simp; done) | (simp [cellsS]; done)) (by first | rfl | omega | (simp only [List.length_cons, List.length_nil]; omega) | (simp only [seg_len, List.length_append, List.length_cons, List.length_nil]; omega)) (by decide) rfl ShpC.h rfl rfl) rfl rfl (by kernel_rfl) (by kernel_rfl) (by kernel_rfl) (fun _ _ _ _ h => h) ?_
      refine xpval 6 rfl (pv_wr h794 rfl rfl rfl) rfl rfl (by kernel_rfl) (by kernel_rfl) (by kernel_rfl) (fun _ _ _ _ h => h) ?_
      refine xpval 7 rfl (pv_indexAddrBA h796 UndC.h ShpC.h rfl rfl) rfl rfl (by kernel_rfl) (by kernel_rfl) (by kernel_rfl) (fun _ _ _ _ h => h) ?_
      refine xpstep (i := 8) (by kernel_rfl) rfl ?_
      refine wstoreA (f := ew) (a := f758) (k := 1) (off := 0) (i := (x757 : Int).toNat) 1 [] [] c795 h796b (by first | rfl | exact (List.append_nil _).symm | exact List.append_nil _ | exact List.append_assoc _ _ _ | exact (List.append_assoc _ _ _).symm | exact congrArg _ (List.append_nil _).symm | exact congrArg _ (List.append_nil _) | (simp; done) | (simp [cellsS]; done)) (by first | rfl | omega | (simp only [List.length_cons, List.length_nil]; omega) | (simp only [seg_len, List.length_append, List.length_cons, List.length_nil]; omega)) (by decide) ShpC.h rfl rfl rfl rfl (by first | rfl | exact seg_lenE (by rfl) | exact len_app rfl (seg_lenE (by rfl)) (by rfl) | exact len_app (seg_lenE (by rfl)) rfl (by rfl) | exact len_app rfl (len_app (seg_lenE (by rfl)) rfl (by rfl)) (by rfl) | (simp only [seg_len, cellsS, List.length_append, List.length_cons, List.length_nil]; done) | (simp only [seg_len, cellsS, List.length_append, List.length_cons, List.length_nil]; rfl)) rfl rfl ?_
      refine preb 1 ((List.map ew ((Arr.set f758 (x757 : Int).toNat c795)).l).flatten) rfl (by first | rfl | exact (List.append_nil _).symm | exact List.append_nil _ | exact List.append_assoc _ _ _ | exact (List.append_assoc _ _ _).symm | exact congrArg _ (List.append_nil _).symm | exact congrArg _ (List.append_nil _) | (simp; done) | (simp [cellsS]; done)) ?_
      refine xpdone (by kernel_rfl) ?_
      refine xin_normal ?_
      refine xthen ?_
      refine xregion ?_
      obtain ⟨h798, h⟩ := h
      refine xvalP (pv_addI h798 rfl rfl) rfl rfl ?_
      refine xvalP (pv_move rfl) rfl rfl ?_
      refine xnil ?_
      obtain ⟨m', hm, hI⟩ := hag2 _ h
      exact xagain ⟨(x757 + 1), (Arr.set f758 (x757 : Int).toNat c795), hI, rfl⟩ hm ⟨(.cons rfl (.refl _) (.cons rfl (.refl _) (.cons rfl (.refl _) (.cons rfl (.refl _) (.cons rfl (.refl _) (.cons rfl (.refl _) (.cons rfl (.refl _) (.nil _)))))))), (SubM.of (.keep rfl rfl (.refl _) (.keep rfl rfl (.refl _) (.keep rfl rfl (.refl _) (.nil _)))) (.nil _))⟩
    · replace h := h.2 hp781
      refine xcondF' (decide_eq_false hp781) rfl ?_
      refine xexit ?_
      refine xthen_exit ?_
      refine xthen_exit ?_
      refine xin_same rfl ?_
      refine xin_normal ?_
      refine xthen ?_
      refine xregion ?_
      obtain ⟨h799, h⟩ := h
      refine xvalP (pv_addI h799 rfl rfl) rfl rfl ?_
      refine xvalP (pv_move rfl) rfl rfl ?_
      refine xnil ?_
      obtain ⟨m', hm, hI⟩ := hag1 _ h
      exact xagain ⟨(x534 + 1), f758, hI, rfl⟩ hm ⟨(.cons rfl (.refl _) (.cons rfl (.refl _) (.cons rfl (.refl _) (.cons rfl (.refl _) (.cons rfl (.refl _) (.nil _)))))), (SubM.of (.drop (.keep rfl rfl (.refl _) (.keep rfl rfl (.refl _) (.nil _)))) (.nil _))⟩
  · replace h := h.2 hp670
    refine xcondF' (decide_eq_false hp670) rfl ?_
    refine xexit ?_
    refine xthen_exit ?_
    refine xthen_exit ?_
    refine xin_same rfl ?_
    refine xthen ?_
    refine xseq ?_
    refine xregion ?_
    refine xval (qv_loadP 0 [] ((List.map ew f535.l).flatten) [] (by first | rfl | exact (List.append_nil _).symm | exact List.append_nil _ | exact List.append_assoc _ _ _ | exact (List.append_assoc _ _ _).symm | exact congrArg _ (List.append_nil _).symm | exact congrArg _ (List.append_nil _) | (simp; done) | (simp [cellsS]; done)) (by first | rfl | exact seg_lenE (by rfl) | exact len_app rfl (seg_lenE (by rfl)) (by rfl) | exact len_app (seg_lenE (by rfl)) rfl (by rfl) | exact len_app rfl (len_app (seg_lenE (by rfl)) rfl (by rfl)) (by rfl) | (simp only [seg_len, cellsS, List.length_append, List.length_cons, List.length_nil]; done) | (simp only [seg_len, cellsS, List.length_append, List.length_cons, List.length_nil]; rfl)) (by first | rfl | exact seg_lenE (by rfl) | exact len_app rfl (seg_lenE (by rfl)) (by rfl) | exact len_app (seg_lenE (by rfl)) rfl (by rfl) | exact len_app rfl (len_app (seg_lenE (by rfl)) rfl (by rfl)) (by rfl) | (simp only [seg_len, cellsS, List.length_append, List.length_cons, List.length_nil]; done) | (simp only [seg_len, cellsS, List.length_append, List.length_cons, List.length_nil]; rfl)) (part_all (seg_lenE (by rfl))) ShpC.h rfl rfl) rfl rfl ?_
    refine xstoreP 1 [] ((List.map ew ((Arr.rep 4 (0 : UInt64))).l).flatten) [] (by first | rfl | exact (List.append_nil _).symm | exact List.append_nil _ | exact List.append_assoc _ _ _ | exact (List.append_assoc _ _ _).symm | exact congrArg _ (List.append_nil _).symm | exact congrArg _ (List.append_nil _) | (simp; done) | (simp [cellsS]; done)) (by first | rfl | exact seg_lenE (by rfl) | exact len_app rfl (seg_lenE (by rfl)) (by rfl) | exact len_app (seg_lenE (by rfl)) rfl (by rfl) | exact len_app rfl (len_app (seg_lenE (by rfl)) rfl (by rfl)) (by rfl) | (simp only [seg_len, cellsS, List.length_append, List.length_cons, List.length_nil]; done) | (simp only [seg_len, cellsS, List.length_append, List.length_cons, List.length_nil]; rfl)) (by first | rfl | exact seg_lenE (by rfl) | exact len_app rfl (seg_lenE (by rfl)) (by rfl) | exact len_app (seg_lenE (by rfl)) rfl (by rfl) | exact len_app rfl (len_app (seg_lenE (by rfl)) rfl (by rfl)) (by rfl) | (simp only [seg_len, cellsS, List.length_append, List.length_cons, List.length_nil]; done) | (simp only [seg_len, cellsS, List.length_append, List.length_cons, List.length_nil]; rfl)) ShpC.h rfl rfl rfl rfl (by first | rfl | exact seg_lenE (by rfl) | exact len_app rfl (seg_lenE (by rfl)) (by rfl) | exact len_app (seg_lenE (by rfl)) rfl (by rfl) | exact len_app rfl (len_app (seg_lenE (by rfl)) rfl (by rfl)) (by rfl) | (simp only [seg_len, cellsS, List.length_append, List.length_cons, List.length_nil]; done) | (simp only [seg_len, cellsS, List.length_append, List.length_cons, List.length_nil]; rfl)) rfl ?_
    refine xreb 1 ((List.map ew f535.l).flatten) rfl (by first | rfl | exact (List.append_nil _).symm | exact List.append_nil _ | exact List.append_assoc _ _ _ | exact (List.append_assoc _ _ _).symm | exact congrArg _ (List.append_nil _).symm | exact congrArg _ (List.append_nil _) | (simp; done) | (simp [cellsS]; done)) ?_
    refine xnil ?_
    refine xthen ?_
    refine xretc ?_
    replace h := h.symm
    subst h
    exact xretL (rs := [.cell 2 24]) (ss := [.agg ((List.map ew f535.l).flatten)]) hg rfl (by refine RetL.cell 1 ShpC.h rfl rfl (part_midE (pre := []) (mid := ((List.map ew f535.l).flatten)) (post := []) (by first | rfl | exact (List.append_nil _).symm | exact List.append_nil _ | exact List.append_assoc _ _ _ | exact (List.append_assoc _ _ _).symm | exact congrArg _ (List.append_nil _).symm | exact congrArg _ (List.append_nil _) | (simp; done) | (simp [cellsS]; done)) (by first | rfl | exact seg_lenE (by rfl) | exact len_app rfl (seg_lenE (by rfl)) (by rfl) | exact len_app (seg_lenE (by rfl)) rfl (by rfl) | exact len_app rfl (len_app (seg_lenE (by rfl)) rfl (by rfl)) (by rfl) | (simp only [seg_len, cellsS, List.length_append, List.length_cons, List.length_nil]; done) | (simp only [seg_len, cellsS, List.length_append, List.length_cons, List.length_nil]; rfl)) (by first | rfl | exact seg_lenE (by rfl) | exact len_app rfl (seg_lenE (by rfl)) (by rfl) | exact len_app (seg_lenE (by rfl)) rfl (by rfl) | exact len_app rfl (len_app (seg_lenE (by rfl)) rfl (by rfl)) (by rfl) | (simp only [seg_len, cellsS, List.length_append, List.length_cons, List.length_nil]; done) | (simp only [seg_len, cellsS, List.length_append, List.length_cons, List.length_nil]; rfl)) (part_all (seg_lenE (by rfl)))) (len_midE (pre := []) (mid := ((List.map ew f535.l).flatten)) (post := []) (by first | rfl | exact (List.append_nil _).symm | exact List.append_nil _ | exact List.append_assoc _ _ _ | exact (List.append_assoc _ _ _).symm | exact congrArg _ (List.append_nil _).symm | exact congrArg _ (List.append_nil _) | (simp; done) | (simp [cellsS]; done)) (by first | rfl | exact seg_lenE (by rfl) | exact len_app rfl (seg_lenE (by rfl)) (by rfl) | exact len_app (seg_lenE (by rfl)) rfl (by rfl) | exact len_app rfl (len_app (seg_lenE (by rfl)) rfl (by rfl)) (by rfl) | (simp only [seg_len, cellsS, List.length_append, List.length_cons, List.length_nil]; done) | (simp only [seg_len, cellsS, List.length_append, List.length_cons, List.length_nil]; rfl)) (by first | rfl | exact seg_lenE (by rfl) | exact len_app rfl (seg_lenE (by rfl)) (by rfl) | exact len_app (seg_lenE (by rfl)) rfl (by rfl) | exact len_app rfl (len_app (seg_lenE (by rfl)) rfl (by rfl)) (by rfl) | (simp only [seg_len, cellsS, List.length_append, List.length_cons, List.length_nil]; done) | (simp only [seg_len, cellsS, List.length_append, List.length_cons, List.length_nil]; rfl))) (by first | with_reducible exact Wk.refl _ | exact Wk.nil_own _ | exact Wk.nil_pl _ | with_reducible exact Wk.tok _ _ _ | exact Wk.tok _ _ _ | exact .eq rfl) ?_; exact RetL.nil) (SubM.of (.nil _) (.nil _)) ⟨rfl, rfl, rfl⟩
/-- class.Bytes -/
def class_Bytes_l1 (s1 : Arr 4 (UInt64)) (ag1 : ((List UInt8) × Int) → Prop) (out97 : List UInt8) (x99 : Int) (r : (List UInt8)) : Prop :=
  ((x99 < 256 → ∃ c136 : UInt8, (c136.toNat : Int) = IntKind.u8.wrap x99 ∧ ∃ y138 : Bool, class_Has_R s1 c136 y138 ∧ ((y138 = true → ∃ c141 : UInt8, (c141.toNat : Int) = IntKind.u8.wrap x99 ∧ Room (out97.length + ([c141]).length) 1 ∧ InR (x99 + 1) ∧ ag1 ((out97 ++ [c141]), (x99 + 1))) ∧ (¬ (y138 = true) → InR (x99 + 1) ∧ ag1 (out97, (x99 + 1))))) ∧ (¬ (x99 < 256) → r = out97))
def class_Bytes_R (s1 : Arr 4 (UInt64)) (r : (List UInt8)) : Prop :=
  LoopR (fun ag1 s => class_Bytes_l1 s1 ag1 s.1 s.2 r) (([] : List UInt8), 0)
set_option maxHeartbeats 4000000 in
theorem class_Bytes_con (s1 : Arr 4 (UInt64)) (r : (List UInt8)) (h : class_Bytes_R s1 r) : Con Try.prog 12 [.agg ((List.map ew s1.l).flatten)] [] [] (RetM 1 5 eb r) := by
  refine xenter Try.func12 rfl rfl fun g hg => ?_
  simp only [Try.ntmps12, slots]
  refine xseq ?_
  refine xregion ?_
  refine xbox rfl rfl rfl rfl fun b1 => ?_
  refine xvalP (pv_assign rfl) rfl rfl ?_
  refine xnil ?_
  refine xthen ?_
  refine xseq ?_
  refine xregion ?_
  refine xvalP (pv_assign rfl) rfl rfl ?_
  refine xnil ?_
  refine xthen ?_
  refine xseq ?_
  refine xseq ?_
  refine xregion ?_
  refine xvalP (pv_move rfl) rfl rfl ?_
  refine xnil ?_
  refine xthen ?_
  refine xblock ?_
  obtain ⟨Inv, ⟨m0, hI⟩, hS⟩ := h
  refine xloop (fun σ m => ∃ (out97 : List UInt8), ∃ (x99 : Int), ∃ (i98 : Option (Nat × Nat)), Inv (out97, x99) m ∧ σ = ⟨[(1, .v (.pointer (some ⟨b1, 0, none⟩))), (3, .sl 1 (some i98) (List.map eb out97)), (5, .v (.int .i64 x99))], [⟨b1, 24, ((List.map ew s1.l).flatten)⟩], [⟨i98, 5, 1, out97.length⟩]⟩) ⟨([] : List UInt8), 0, none, hI, rfl⟩ ⟨(.cons rfl (.refl _) (.cons rfl (.nil_own _) (.cons rfl (.refl _) (.nil _)))), (SubM.of (.keep rfl rfl (.refl _) (.nil _)) (.add (.nil _)))⟩ ?_
  rintro _ m ⟨out97, x99, i98, hI, rfl⟩
  obtain ⟨ag1, hag1, h⟩ : ∃ ag, (∀ s', ag s' → ∃ m', m' < m ∧ Inv s' m') ∧ class_Bytes_l1 s1 ag out97 x99 r := ⟨_, fun _ h => h, hS (out97, x99) _ hI⟩
  clear hS hI
  refine xseq ?_
  refine xregion ?_
  refine xvalP (pv_bin2 rfl rfl rfl) rfl rfl ?_
  refine xnil ?_
  refine xthen ?_
  refine xseq ?_
  by_cases hp125 : x99 < 256
  · replace h := h.1 hp125
    refine xcondT' (decide_eq_true hp125) rfl ?_
    refine xskipc ?_
    refine xthen ?_
    refine xseq ?_
    refine xblock ?_
    refine xseq ?_
    refine xregion ?_
    refine xvalP (pv_move rfl) rfl rfl ?_
    refine xvalP (pv_assign rfl) rfl rfl ?_
    refine xnil ?_
    refine xthen ?_
    refine xseq ?_
    refine xregion ?_
    refine xval (qv_loadP 0 [] ((List.map ew s1.l).flatten) [] (by first | rfl | exact (List.append_nil _).symm | exact List.append_nil _ | exact List.append_assoc _ _ _ | exact (List.append_assoc _ _ _).symm | exact congrArg _ (List.append_nil _).symm | exact congrArg _ (List.append_nil _) | (simp; done) | (simp [cellsS]; done)) (by first | rfl | exact seg_lenE (by rfl) | exact len_app rfl (seg_lenE (by rfl)) (by rfl) | exact len_app (seg_lenE (by rfl)) rfl (by rfl) | exact len_app rfl (len_app (seg_lenE (by rfl)) rfl (by rfl)) (by rfl) | (simp only [seg_len, cellsS, List.length_append, List.length_cons, List.length_nil]; done) | (simp only [seg_len, cellsS, List.length_append, List.length_cons, List.length_nil]; rfl)) (by first | rfl | exact seg_lenE (by rfl) | exact len_app rfl (seg_lenE (by rfl)) (by rfl) | exact len_app (seg_lenE (by rfl)) rfl (by rfl) | exact len_app rfl (len_app (seg_lenE (by rfl)) rfl (by rfl)) (by rfl) | (simp only [seg_len, cellsS, List.length_append, List.length_cons, List.length_nil]; done) | (simp only [seg_len, cellsS, List.length_append, List.length_cons, List.length_nil]; rfl)) (part_all (seg_lenE (by rfl))) ShpC.h rfl rfl) rfl rfl ?_
    refine xvalP (pv_move rfl) rfl rfl ?_
    obtain ⟨c136, h135, h⟩ := h
    refine xvalP (pv_convW h135 UndC.h UndC.h rfl) rfl rfl ?_
    obtain ⟨y138, h137, h⟩ := h
    refine xcall0 (class_Has_con s1 c136 _ h137) Try.func8 (by kernel_rfl) rfl (.cons rfl (.refl _) (.cons rfl (.refl _) .nil)) rfl rfl ?_
    refine xnil ?_
    refine xthen ?_
    by_cases hp139 : y138 = true
    · replace h := h.1 hp139
      refine xcondT' hp139 rfl ?_
      refine xregion ?_
      refine xvalP (pv_move rfl) rfl rfl ?_
      refine xvalP (pv_move rfl) rfl rfl ?_
      obtain ⟨c141, h140, h⟩ := h
      refine xvalP (pv_convW h140 UndC.h UndC.h rfl) rfl rfl ?_
      refine xbuildSliceM (f := eb) [c141] UndC.h InfC.h rfl rfl (by first | exact wkR_of rfl | (repeat (first | exact WkR.nil | refine WkR.cons (by (repeat (first | exact WkL.nil | refine WkL.cons (by first | with_reducible exact Wk.refl _ | exact Wk.nil_own _ | exact Wk.nil_pl _ | with_reducible exact Wk.tok _ _ _ | exact Wk.tok _ _ _ | exact Wk.eq (by first | rfl | (simp []; done) | (simp []; omega))) ?_))) ?_))) rfl rfl rfl rfl fun s15 => ?_
      obtain ⟨h142, h⟩ := h
      refine xappendM (l := out97) (l2 := [c141]) 1 h142 UndC.h InfC.h rfl rfl rfl (.refl _) rfl rfl rfl fun i143 => ?_
      refine xvalP (pv_assign rfl) rfl rfl ?_
      refine xnil ?_
      refine xin_normal ?_
      refine xthen ?_
      refine xregion ?_
      obtain ⟨h144, h⟩ := h
      refine xvalP (pv_addI h144 rfl rfl) rfl rfl ?_
      refine xvalP (pv_move rfl) rfl rfl ?_
      refine xnil ?_
      obtain ⟨m', hm, hI⟩ := hag1 _ h
      exact xagain ⟨(out97 ++ [c141]), (x99 + 1), i143, hI, rfl⟩ hm ⟨(.cons rfl (.refl _) (.cons rfl (.refl _) (.cons rfl (.refl _) (.nil _)))), (SubM.of (.keep rfl rfl (.refl _) (.nil _)) (.drop (.keep rfl (.nil _))))⟩
    · replace h := h.2 hp139
      refine xcondF' (b_f hp139) rfl ?_
      refine xskipc ?_
      refine xin_normal ?_
      refine xthen ?_
      refine xregion ?_
      obtain ⟨h145, h⟩ := h
      refine xvalP (pv_addI h145 rfl rfl) rfl rfl ?_
      refine xvalP (pv_move rfl) rfl rfl ?_
      refine xnil ?_
      obtain ⟨m', hm, hI⟩ := hag1 _ h
      exact xagain ⟨out97, (x99 + 1), i98, hI, rfl⟩ hm ⟨(.cons rfl (.refl _) (.cons rfl (.refl _) (.cons rfl (.refl _) (.nil _)))), (SubM.of (.keep rfl rfl (.refl _) (.nil _)) (.keep rfl (.nil _)))⟩
  · replace h := h.2 hp125
    refine xcondF' (decide_eq_false hp125) rfl ?_
    refine xexit ?_
    refine xthen_exit ?_
    refine xthen_exit ?_
    refine xin_same rfl ?_
    refine xthen ?_
    refine xseq ?_
    refine xregion ?_
    refine xvalP (pv_move rfl) rfl rfl ?_
    refine xvalP (pv_assign rfl) rfl rfl ?_
    refine xnil ?_
    refine xthen ?_
    refine xretc ?_
    replace h := h.symm
    subst h
    exact xret1 hg rfl rfl (.refl _) (SubM.of (.nil _) (.keep rfl (.nil _))) ⟨i98, rfl, rfl, rfl⟩
/-- palinoderef01.Same -/
def palinoderef01_Same_l1 (a1 : List UInt8) (b2 : List UInt8) (ag1 : (Int) → Prop) (i128 : Int) (r : Bool) : Prop :=
  ((i128 < (a1.length : Int) → 0 ≤ (i128 : Int) ∧ ∃ y180 : UInt8, a1[(i128 : Int).toNat]? = some y180 ∧ 0 ≤ (i128 : Int) ∧ ∃ y182 : UInt8, b2[(i128 : Int).toNat]? = some y182 ∧ ((¬ ((y180.toNat : Int) = (y182.toNat : Int)) → r = false) ∧ (¬ (¬ ((y180.toNat : Int) = (y182.toNat : Int))) → InR (i128 + 1) ∧ ag1 (i128 + 1)))) ∧ (¬ (i128 < (a1.length : Int)) → r = true))
def palinoderef01_Same_R (a1 : List UInt8) (b2 : List UInt8) (r : Bool) : Prop :=
  ((¬ ((a1.length : Int) = (b2.length : Int)) → r = false) ∧ (¬ (¬ ((a1.length : Int) = (b2.length : Int))) → LoopR (fun ag1 s => palinoderef01_Same_l1 a1 b2 ag1 s r) 0))
set_option maxHeartbeats 4000000 in
theorem palinoderef01_Same_con (a1 : List UInt8) (b2 : List UInt8) (r : Bool) (h : palinoderef01_Same_R a1 b2 r) : Con Try.prog 11 [.sl 1 none (List.map eb a1), .sl 1 none (List.map eb b2)] [] [] (Ret (.v (.bool r))) := by
  refine xenter Try.func11 rfl rfl fun g hg => ?_
  simp only [Try.ntmps11, slots]
  refine xseq ?_
  refine xregion ?_
  refine xvalP (pv_assign rfl) rfl rfl ?_
  refine xnil ?_
  refine xthen ?_
  refine xseq ?_
  refine xseq ?_
  refine xregion ?_
  refine xvalP (pv_move rfl) rfl rfl ?_
  refine xvalP (pv_lenM UndC.h rfl) rfl rfl ?_
  refine xvalP (pv_move rfl) rfl rfl ?_
  refine xvalP (pv_lenM UndC.h rfl) rfl rfl ?_
  refine xvalP (pv_bin2 rfl rfl rfl) rfl rfl ?_
  refine xnil ?_
  refine xthen ?_
  by_cases hp10 : ¬ ((a1.length : Int) = (b2.length : Int))
  · replace h := h.1 hp10
    refine xcondT' (not_t (decide_eq_false hp10)) rfl ?_
    refine xseq ?_
    refine xregion ?_
    refine xvalP (pv_assign rfl) rfl rfl ?_
    refine xnil ?_
    refine xthen ?_
    refine xretc ?_
    refine xthen_ret ?_
    replace h := h.symm
    subst h
    exact xret1 hg rfl rfl (.refl _) (SubM.of (.nil _) (.nil _)) ⟨rfl, rfl, rfl⟩
  · replace h := h.2 hp10
    refine xcondF' (not_f (decide_eq_true (Decidable.of_not_not hp10))) rfl ?_
    refine xskipc ?_
    refine xthen ?_
    refine xseq ?_
    refine xseq ?_
    refine xregion ?_
    refine xvalP (pv_assign rfl) rfl rfl ?_
    refine xnil ?_
    refine xthen ?_
    refine xblock ?_
    obtain ⟨Inv, ⟨m0, hI⟩, hS⟩ := h
    refine xloop (fun σ m => ∃ (i128 : Int), Inv i128 m ∧ σ = ⟨[(0, .sl 1 none (List.map eb a1)), (1, .sl 1 none (List.map eb b2)), (5, .v (.int .i64 i128))], [], []⟩) ⟨0, hI, rfl⟩ ⟨(.cons rfl (.refl _) (.cons rfl (.refl _) (.cons rfl (.refl _) (.nil _)))), (SubM.of (.nil _) (.nil _))⟩ ?_
    rintro _ m ⟨i128, hI, rfl⟩
    obtain ⟨ag1, hag1, h⟩ : ∃ ag, (∀ s', ag s' → ∃ m', m' < m ∧ Inv s' m') ∧ palinoderef01_Same_l1 a1 b2 ag i128 r := ⟨_, fun _ h => h, hS i128 _ hI⟩
    clear hS hI
    refine xseq ?_
    refine xseq ?_
    refine xregion ?_
    refine xvalP (pv_move rfl) rfl rfl ?_
    refine xvalP (pv_move rfl) rfl rfl ?_
    refine xvalP (pv_lenM UndC.h rfl) rfl rfl ?_
    refine xvalP (pv_bin2 rfl rfl rfl) rfl rfl ?_
    refine xnil ?_
    refine xthen ?_
    by_cases hp163 : i128 < (a1.length : Int)
    · replace h := h.1 hp163
      refine xcondT' (decide_eq_true hp163) rfl ?_
      refine xskipc ?_
      refine xthen ?_
      refine xseq ?_
      refine xblock ?_
      refine xseq ?_
      refine xregionD (m := 9) (by kernel_rfl) rfl ?_
      obtain ⟨h181a, h⟩ := h
      obtain ⟨y180, h181b, h⟩ := h
      obtain ⟨h183a, h⟩ := h
      obtain ⟨y182, h183b, h⟩ := h
      refine xpval 0 rfl (pv_move rfl) rfl rfl (by kernel_rfl) (by kernel_rfl) (by kernel_rfl) (fun _ _ _ _ h => h) ?_
      refine xpval 1 rfl (pv_move rfl) rfl rfl (by kernel_rfl) (by kernel_rfl) (by kernel_rfl) (fun _ _ _ _ h => h) ?_
      refine xpval 2 rfl (pv_indexAddrM h181a h181b UndC.h ShpC.h rfl rfl) rfl rfl (by kernel_rfl) (by kernel_rfl) (by kernel_rfl) (fun _ _ _ _ h => h) ?_
      refine xpval 4 rfl (pv_move rfl) rfl rfl (by kernel_rfl) (by kernel_rfl) (by kernel_rfl) (fun _ _ _ _ h => h) ?_
      refine xpval 5 rfl (pv_move rfl) rfl rfl (by kernel_rfl) (by kernel_rfl) (by kernel_rfl) (fun _ _ _ _ h => h) ?_
      refine xpval 6 rfl (pv_indexAddrM h183a h183b UndC.h ShpC.h rfl rfl) rfl rfl (by kernel_rfl) (by kernel_rfl) (by kernel_rfl) (fun _ _ _ _ h => h) ?_
      refine xpvalE 3 [7] rfl (qv_load ShpC.h rfl rfl rfl) rfl rfl (by kernel_rfl) (by kernel_rfl) (by kernel_rfl) (fun _ _ _ _ h => h) ?_
      refine xpvalE 7 [] rfl (qv_load ShpC.h rfl rfl rfl) rfl rfl (by kernel_rfl) (by kernel_rfl) (by kernel_rfl) (fun _ _ _ _ h => h) ?_
      refine xpval 8 rfl (pv_bin2 rfl rfl rfl) rfl rfl (by kernel_rfl) (by kernel_rfl) (by kernel_rfl) (fun _ _ _ _ h => h) ?_
      refine xpdone (by kernel_rfl) ?_
      refine xthen ?_
      by_cases hp185 : ¬ ((y180.toNat : Int) = (y182.toNat : Int))
      · replace h := h.1 hp185
        refine xcondT' (not_t (decide_eq_false hp185)) rfl ?_
        refine xseq ?_
        refine xregion ?_
        refine xvalP (pv_assign rfl) rfl rfl ?_
        refine xnil ?_
        refine xthen ?_
        refine xretc ?_
        refine xin_ret ?_
        refine xthen_ret ?_
        refine xthen_ret ?_
        refine xin_ret ?_
        refine xthen_ret ?_
        replace h := h.symm
        subst h
        exact xret1 hg rfl rfl (.refl _) (SubM.of (.nil _) (.nil _)) ⟨rfl, rfl, rfl⟩
      · replace h := h.2 hp185
        refine xcondF' (not_f (decide_eq_true (Decidable.of_not_not hp185))) rfl ?_
        refine xskipc ?_
        refine xin_normal ?_
        refine xthen ?_
        refine xregion ?_
        refine xvalP (pv_move rfl) rfl rfl ?_
        obtain ⟨h186, h⟩ := h
        refine xvalP (pv_addI h186 rfl rfl) rfl rfl ?_
        refine xvalP (pv_assign rfl) rfl rfl ?_
        refine xnil ?_
        obtain ⟨m', hm, hI⟩ := hag1 _ h
        exact xagain ⟨(i128 + 1), hI, rfl⟩ hm ⟨(.cons rfl (.refl _) (.cons rfl (.refl _) (.cons rfl (.refl _) (.nil _)))), (SubM.of (.nil _) (.nil _))⟩
    · replace h := h.2 hp163
      refine xcondF' (decide_eq_false hp163) rfl ?_
      refine xexit ?_
      refine xthen_exit ?_
      refine xthen_exit ?_
      refine xin_same rfl ?_
      refine xthen ?_
      refine xseq ?_
      refine xregion ?_
      refine xvalP (pv_assign rfl) rfl rfl ?_
      refine xnil ?_
      refine xthen ?_
      refine xretc ?_
      replace h := h.symm
      subst h
      exact xret1 hg rfl rfl (.refl _) (SubM.of (.nil _) (.nil _)) ⟨rfl, rfl, rfl⟩
/-- palinoderef05.Bytes -/
def palinoderef05_Bytes_j2 (c107 : Int) (ag1 : ((List UInt8) × Int) → Prop) (out146 : List UInt8) (r : (List UInt8)) : Prop :=
  InR (c107 + 1) ∧ ag1 (out146, (c107 + 1))
def palinoderef05_Bytes_l1 (s1 : Arr 4 (UInt64)) (ag1 : ((List UInt8) × Int) → Prop) (out105 : List UInt8) (c107 : Int) (r : (List UInt8)) : Prop :=
  ((c107 < 256 → ∃ c149 : UInt8, (c149.toNat : Int) = IntKind.u8.wrap c107 ∧ ∃ y151 : Bool, palinoderef05_Has_R s1 c149 y151 ∧ ((y151 = true → ∃ c154 : UInt8, (c154.toNat : Int) = IntKind.u8.wrap c107 ∧ Room (out105.length + ([c154]).length) 1 ∧ palinoderef05_Bytes_j2 c107 ag1 (out105 ++ [c154]) r) ∧ (¬ (y151 = true) → palinoderef05_Bytes_j2 c107 ag1 out105 r))) ∧ (¬ (c107 < 256) → r = out105))
def palinoderef05_Bytes_R (s1 : Arr 4 (UInt64)) (r : (List UInt8)) : Prop :=
  LoopR (fun ag1 s => palinoderef05_Bytes_l1 s1 ag1 s.1 s.2 r) (([] : List UInt8), 0)
set_option maxHeartbeats 4000000 in
theorem palinoderef05_Bytes_con (s1 : Arr 4 (UInt64)) (r : (List UInt8)) (h : palinoderef05_Bytes_R s1 r) : Con Try.prog 7 [.agg ((List.map ew s1.l).flatten)] [] [] (RetM 1 5 eb r) := by
  refine xenter Try.func7 rfl rfl fun g hg => ?_
  simp only [Try.ntmps7, slots]
  refine xseq ?_
  refine xregion ?_
  refine xbox rfl rfl rfl rfl fun b1 => ?_
  refine xvalP (pv_assign rfl) rfl rfl ?_
  refine xnil ?_
  refine xthen ?_
  refine xseq ?_
  refine xregion ?_
  refine xvalP (pv_assign rfl) rfl rfl ?_
  refine xnil ?_
  refine xthen ?_
  refine xseq ?_
  refine xseq ?_
  refine xregion ?_
  refine xvalP (pv_assign rfl) rfl rfl ?_
  refine xnil ?_
  refine xthen ?_
  refine xblock ?_
  obtain ⟨Inv, ⟨m0, hI⟩, hS⟩ := h
  refine xloop (fun σ m => ∃ (out105 : List UInt8), ∃ (c107 : Int), ∃ (i106 : Option (Nat × Nat)), Inv (out105, c107) m ∧ σ = ⟨[(1, .v (.pointer (some ⟨b1, 0, none⟩))), (3, .sl 1 (some i106) (List.map eb out105)), (4, .v (.int .i64 c107))], [⟨b1, 24, ((List.map ew s1.l).flatten)⟩], [⟨i106, 5, 1, out105.length⟩]⟩) ⟨([] : List UInt8), 0, none, hI, rfl⟩ ⟨(.cons rfl (.refl _) (.cons rfl (.nil_own _) (.cons rfl (.refl _) (.nil _)))), (SubM.of (.keep rfl rfl (.refl _) (.nil _)) (.add (.nil _)))⟩ ?_
  rintro _ m ⟨out105, c107, i106, hI, rfl⟩
  obtain ⟨ag1, hag1, h⟩ : ∃ ag, (∀ s', ag s' → ∃ m', m' < m ∧ Inv s' m') ∧ palinoderef05_Bytes_l1 s1 ag out105 c107 r := ⟨_, fun _ h => h, hS (out105, c107) _ hI⟩
  clear hS hI
  refine xseq ?_
  refine xseq ?_
  refine xregion ?_
  refine xvalP (pv_move rfl) rfl rfl ?_
  refine xvalP (pv_bin2 rfl rfl rfl) rfl rfl ?_
  refine xnil ?_
  refine xthen ?_
  by_cases hp136 : c107 < 256
  · replace h := h.1 hp136
    refine xcondT' (decide_eq_true hp136) rfl ?_
    refine xskipc ?_
    refine xthen ?_
    refine xseqM (fun σ => ∃ (out146 : List UInt8), ∃ (i147 : Option (Nat × Nat)), palinoderef05_Bytes_j2 c107 ag1 out146 r ∧ σ = ⟨[(1, .v (.pointer (some ⟨b1, 0, none⟩))), (3, .sl 1 (some i147) (List.map eb out146)), (4, .v (.int .i64 c107))], [⟨b1, 24, ((List.map ew s1.l).flatten)⟩], [⟨i147, 5, 1, out146.length⟩]⟩) ?_ ?_
    · refine xblock ?_
      refine xseq ?_
      refine xregion ?_
      refine xval (qv_loadP 0 [] ((List.map ew s1.l).flatten) [] (by first | rfl | exact (List.append_nil _).symm | exact List.append_nil _ | exact List.append_assoc _ _ _ | exact (List.append_assoc _ _ _).symm | exact congrArg _ (List.append_nil _).symm | exact congrArg _ (List.append_nil _) | (simp; done) | (simp [cellsS]; done)) (by first | rfl | exact seg_lenE (by rfl) | exact len_app rfl (seg_lenE (by rfl)) (by rfl) | exact len_app (seg_lenE (by rfl)) rfl (by rfl) | exact len_app rfl (len_app (seg_lenE (by rfl)) rfl (by rfl)) (by rfl) | (simp only [seg_len, cellsS, List.length_append, List.length_cons, List.length_nil]; done) | (simp only [seg_len, cellsS, List.length_append, List.length_cons, List.length_nil]; rfl)) (by first | rfl | exact seg_lenE (by rfl) | exact len_app rfl (seg_lenE (by rfl)) (by rfl) | exact len_app (seg_lenE (by rfl)) rfl (by rfl) | exact len_app rfl (len_app (seg_lenE (by rfl)) rfl (by rfl)) (by rfl) | (simp only [seg_len, cellsS, List.length_append, List.length_cons, List.length_nil]; done) | (simp only [seg_len, cellsS, List.length_append, List.length_cons, List.length_nil]; rfl)) (part_all (seg_lenE (by rfl))) ShpC.h rfl rfl) rfl rfl ?_
      refine xvalP (pv_move rfl) rfl rfl ?_
      obtain ⟨c149, h148, h⟩ := h
      refine xvalP (pv_convW h148 UndC.h UndC.h rfl) rfl rfl ?_
      obtain ⟨y151, h150, h⟩ := h
      refine xcall0 (palinoderef05_Has_con s1 c149 _ h150) Try.func9 (by kernel_rfl) rfl (.cons rfl (.refl _) (.cons rfl (.refl _) .nil)) rfl rfl ?_
      refine xnil ?_
      refine xthen ?_
      by_cases hp152 : y151 = true
      · replace h := h.1 hp152
        refine xcondT' hp152 rfl ?_
        refine xregion ?_
        refine xvalP (pv_move rfl) rfl rfl ?_
        refine xvalP (pv_move rfl) rfl rfl ?_
        obtain ⟨c154, h153, h⟩ := h
        refine xvalP (pv_convW h153 UndC.h UndC.h rfl) rfl rfl ?_
        refine xbuildSliceM (f := eb) [c154] UndC.h InfC.h rfl rfl (by first | exact wkR_of rfl | (repeat (first | exact WkR.nil | refine WkR.cons (by (repeat (first | exact WkL.nil | refine WkL.cons (by first | with_reducible exact Wk.refl _ | exact Wk.nil_own _ | exact Wk.nil_pl _ | with_reducible exact Wk.tok _ _ _ | exact Wk.tok _ _ _ | exact Wk.eq (by first | rfl | (simp []; done) | (simp []; omega))) ?_))) ?_))) rfl rfl rfl rfl fun s16 => ?_
        obtain ⟨h155, h⟩ := h
        refine xappendM (l := out105) (l2 := [c154]) 1 h155 UndC.h InfC.h rfl rfl rfl (.refl _) rfl rfl rfl fun i156 => ?_
        refine xvalP (pv_assign rfl) rfl rfl ?_
        refine xnil ?_
        refine xin_normal ?_
        exact xmeet ⟨(out105 ++ [c154]), i156, h, rfl⟩ ⟨(.cons rfl (.refl _) (.cons rfl (.refl _) (.cons rfl (.refl _) (.nil _)))), (SubM.of (.keep rfl rfl (.refl _) (.nil _)) (.drop (.keep rfl (.nil _))))⟩
      · replace h := h.2 hp152
        refine xcondF' (b_f hp152) rfl ?_
        refine xskipc ?_
        refine xin_normal ?_
        exact xmeet ⟨out105, i106, h, rfl⟩ ⟨(.cons rfl (.refl _) (.cons rfl (.refl _) (.cons rfl (.refl _) (.nil _)))), (SubM.of (.keep rfl rfl (.refl _) (.nil _)) (.keep rfl (.nil _)))⟩
    · clear h
      rintro _ ⟨out146, i147, h, rfl⟩
      refine xregion ?_
      refine xvalP (pv_move rfl) rfl rfl ?_
      obtain ⟨h157, h⟩ := h
      refine xvalP (pv_addI h157 rfl rfl) rfl rfl ?_
      refine xvalP (pv_assign rfl) rfl rfl ?_
      refine xnil ?_
      obtain ⟨m', hm, hI⟩ := hag1 _ h
      exact xagain ⟨out146, (c107 + 1), i147, hI, rfl⟩ hm ⟨(.cons rfl (.refl _) (.cons rfl (.refl _) (.cons rfl (.refl _) (.nil _)))), (SubM.of (.keep rfl rfl (.refl _) (.nil _)) (.keep rfl (.nil _)))⟩
  · replace h := h.2 hp136
    refine xcondF' (decide_eq_false hp136) rfl ?_
    refine xexit ?_
    refine xthen_exit ?_
    refine xthen_exit ?_
    refine xin_same rfl ?_
    refine xthen ?_
    refine xseq ?_
    refine xregion ?_
    refine xvalP (pv_move rfl) rfl rfl ?_
    refine xvalP (pv_assign rfl) rfl rfl ?_
    refine xnil ?_
    refine xthen ?_
    refine xretc ?_
    replace h := h.symm
    subst h
    exact xret1 hg rfl rfl (.refl _) (SubM.of (.nil _) (.keep rfl (.nil _))) ⟨i106, rfl, rfl, rfl⟩
/-- palinoderef01.In -/
def palinoderef01_In_j2 (i176 : Int) (ag1 : (Int) → Prop) (r : Bool) : Prop :=
  InR (i176 + 2) ∧ ag1 (i176 + 2)
def palinoderef01_In_l1 (row1 : ByteArray) (c2 : UInt8) (ag1 : (Int) → Prop) (i176 : Int) (r : Bool) : Prop :=
  InR (i176 + 1) ∧ (((i176 + 1) < (row1.size : Int) → 0 ≤ (i176 : Int) ∧ ∃ c254 : UInt8, row1[(i176 : Int).toNat]? = some c254 ∧ (((c254.toNat : Int) ≤ (c2.toNat : Int) → InR (i176 + 1) ∧ 0 ≤ ((i176 + 1) : Int) ∧ ∃ c259 : UInt8, row1[((i176 + 1) : Int).toNat]? = some c259 ∧ (((c2.toNat : Int) ≤ (c259.toNat : Int) → r = true) ∧ (¬ ((c2.toNat : Int) ≤ (c259.toNat : Int)) → palinoderef01_In_j2 i176 ag1 r))) ∧ (¬ ((c254.toNat : Int) ≤ (c2.toNat : Int)) → palinoderef01_In_j2 i176 ag1 r))) ∧ (¬ ((i176 + 1) < (row1.size : Int)) → r = false))
def palinoderef01_In_R (row1 : ByteArray) (c2 : UInt8) (r : Bool) : Prop :=
  LoopR (fun ag1 s => palinoderef01_In_l1 row1 c2 ag1 s r) 0
set_option maxHeartbeats 4000000 in
theorem palinoderef01_In_con (row1 : ByteArray) (c2 : UInt8) (r : Bool) (h : palinoderef01_In_R row1 c2 r) : Con Try.prog 23 [.v (.string row1), .v (.int .u8 ((c2.toNat : Int)))] [] [] (Ret (.v (.bool r))) := by
  refine xenter Try.func23 rfl rfl fun g hg => ?_
  simp only [Try.ntmps23, slots]
  refine xseq ?_
  refine xregion ?_
  refine xvalP (pv_assign rfl) rfl rfl ?_
  refine xnil ?_
  refine xthen ?_
  refine xseq ?_
  refine xseq ?_
  refine xregion ?_
  refine xvalP (pv_assign rfl) rfl rfl ?_
  refine xnil ?_
  refine xthen ?_
  refine xblock ?_
  obtain ⟨Inv, ⟨m0, hI⟩, hS⟩ := h
  refine xloop (fun σ m => ∃ (i176 : Int), Inv i176 m ∧ σ = ⟨[(0, .v (.string row1)), (1, .v (.int .u8 ((c2.toNat : Int)))), (5, .v (.int .i64 i176))], [], []⟩) ⟨0, hI, rfl⟩ ⟨(.cons rfl (.refl _) (.cons rfl (.refl _) (.cons rfl (.refl _) (.nil _)))), (SubM.of (.nil _) (.nil _))⟩ ?_
  rintro _ m ⟨i176, hI, rfl⟩
  obtain ⟨ag1, hag1, h⟩ : ∃ ag, (∀ s', ag s' → ∃ m', m' < m ∧ Inv s' m') ∧ palinoderef01_In_l1 row1 c2 ag i176 r := ⟨_, fun _ h => h, hS i176 _ hI⟩
  clear hS hI
  refine xseq ?_
  refine xseq ?_
  refine xregion ?_
  refine xvalP (pv_move rfl) rfl rfl ?_
  obtain ⟨h224, h⟩ := h
  refine xvalP (pv_addI h224 rfl rfl) rfl rfl ?_
  refine xvalP (pv_move rfl) rfl rfl ?_
  refine xvalP (pv_lenS UndC.h rfl) rfl rfl ?_
  refine xvalP (pv_bin2 rfl rfl rfl) rfl rfl ?_
  refine xnil ?_
  refine xthen ?_
  by_cases hp227 : (i176 + 1) < (row1.size : Int)
  · replace h := h.1 hp227
    refine xcondT' (decide_eq_true hp227) rfl ?_
    refine xskipc ?_
    refine xthen ?_
    refine xseqM (fun σ => palinoderef01_In_j2 i176 ag1 r ∧ σ = ⟨[(0, .v (.string row1)), (1, .v (.int .u8 ((c2.toNat : Int)))), (5, .v (.int .i64 i176))], [], []⟩) ?_ ?_
    · refine xblock ?_
      refine xseq ?_
      refine xregion ?_
      refine xvalP (pv_move rfl) rfl rfl ?_
      refine xvalP (pv_move rfl) rfl rfl ?_
      refine xvalP (pv_move rfl) rfl rfl ?_
      obtain ⟨h253, h⟩ := h
      obtain ⟨c254, h253b, h⟩ := h
      refine xvalP (pv_indexSM h253 h253b UndC.h rfl rfl) rfl rfl ?_
      refine xvalP (pv_bin2 rfl rfl rfl) rfl rfl ?_
      refine xvalP (pv_move rfl) rfl rfl ?_
      by_cases hp256 : (c254.toNat : Int) ≤ (c2.toNat : Int)
      · replace h := h.1 hp256
        refine xsetB 18 (decide_eq_true hp256) rfl ?_
        refine xvalP (pv_move rfl) rfl rfl ?_
        refine xvalP (pv_move rfl) rfl rfl ?_
        refine xvalP (pv_move rfl) rfl rfl ?_
        obtain ⟨h257, h⟩ := h
        refine xvalP (pv_addI h257 rfl rfl) rfl rfl ?_
        obtain ⟨h258, h⟩ := h
        obtain ⟨c259, h258b, h⟩ := h
        refine xvalP (pv_indexSM h258 h258b UndC.h rfl rfl) rfl rfl ?_
        refine xvalP (pv_bin2 rfl rfl rfl) rfl rfl ?_
        refine xvalP (pv_pick rfl rfl) rfl rfl ?_
        refine xnil ?_
        refine xthen ?_
        by_cases hp261 : (c2.toNat : Int) ≤ (c259.toNat : Int)
        · replace h := h.1 hp261
          refine xcondT' (decide_eq_true hp261) rfl ?_
          refine xseq ?_
          refine xregion ?_
          refine xvalP (pv_assign rfl) rfl rfl ?_
          refine xnil ?_
          refine xthen ?_
          refine xretc ?_
          refine xin_ret ?_
          refine xthen_ret ?_
          refine xthen_ret ?_
          refine xin_ret ?_
          refine xthen_ret ?_
          replace h := h.symm
          subst h
          exact xret1 hg rfl rfl (.refl _) (SubM.of (.nil _) (.nil _)) ⟨rfl, rfl, rfl⟩
        · replace h := h.2 hp261
          refine xcondF' (decide_eq_false hp261) rfl ?_
          refine xskipc ?_
          refine xin_normal ?_
          exact xmeet ⟨h, rfl⟩ ⟨(.cons rfl (.refl _) (.cons rfl (.refl _) (.cons rfl (.refl _) (.nil _)))), (SubM.of (.nil _) (.nil _))⟩
      · replace h := h.2 hp256
        refine xsetB 18 (decide_eq_false hp256) rfl ?_
        refine xskip rfl rfl ?_
        refine xskip rfl rfl ?_
        refine xskip rfl rfl ?_
        refine xskip rfl rfl ?_
        refine xskip rfl rfl ?_
        refine xskip rfl rfl ?_
        refine xvalP (pv_pick rfl rfl) rfl rfl ?_
        refine xnil ?_
        refine xthen ?_
        refine xcondF rfl ?_
        refine xskipc ?_
        refine xin_normal ?_
        exact xmeet ⟨h, rfl⟩ ⟨(.cons rfl (.refl _) (.cons rfl (.refl _) (.cons rfl (.refl _) (.nil _)))), (SubM.of (.nil _) (.nil _))⟩
    · clear h
      rintro _ ⟨h, rfl⟩
      refine xregion ?_
      refine xvalP (pv_move rfl) rfl rfl ?_
      obtain ⟨h262, h⟩ := h
      refine xvalP (pv_addI h262 rfl rfl) rfl rfl ?_
      refine xvalP (pv_assign rfl) rfl rfl ?_
      refine xnil ?_
      obtain ⟨m', hm, hI⟩ := hag1 _ h
      exact xagain ⟨(i176 + 2), hI, rfl⟩ hm ⟨(.cons rfl (.refl _) (.cons rfl (.refl _) (.cons rfl (.refl _) (.nil _)))), (SubM.of (.nil _) (.nil _))⟩
  · replace h := h.2 hp227
    refine xcondF' (decide_eq_false hp227) rfl ?_
    refine xexit ?_
    refine xthen_exit ?_
    refine xthen_exit ?_
    refine xin_same rfl ?_
    refine xthen ?_
    refine xseq ?_
    refine xregion ?_
    refine xvalP (pv_assign rfl) rfl rfl ?_
    refine xnil ?_
    refine xthen ?_
    refine xretc ?_
    replace h := h.symm
    subst h
    exact xret1 hg rfl rfl (.refl _) (SubM.of (.nil _) (.nil _)) ⟨rfl, rfl, rfl⟩
/-- palinoderef01.Is -/
def palinoderef01_Is_R (x1 : ByteArray) (x2 : UInt8) (r : Bool × Bool) : Prop :=
  (((x1.toList == ((⟨#[117, 112, 112, 101, 114]⟩ : ByteArray)).toList) = true → ∃ y88 : Bool, palinoderef01_In_R (⟨#[65, 90]⟩ : ByteArray) x2 y88 ∧ r = (y88, true)) ∧ (¬ ((x1.toList == ((⟨#[117, 112, 112, 101, 114]⟩ : ByteArray)).toList) = true) → (((x1.toList == ((⟨#[108, 111, 119, 101, 114]⟩ : ByteArray)).toList) = true → ∃ y92 : Bool, palinoderef01_In_R (⟨#[97, 122]⟩ : ByteArray) x2 y92 ∧ r = (y92, true)) ∧ (¬ ((x1.toList == ((⟨#[108, 111, 119, 101, 114]⟩ : ByteArray)).toList) = true) → (((x1.toList == ((⟨#[100, 105, 103, 105, 116]⟩ : ByteArray)).toList) = true → ∃ y96 : Bool, palinoderef01_In_R (⟨#[48, 57]⟩ : ByteArray) x2 y96 ∧ r = (y96, true)) ∧ (¬ ((x1.toList == ((⟨#[100, 105, 103, 105, 116]⟩ : ByteArray)).toList) = true) → (((x1.toList == ((⟨#[97, 108, 112, 104, 97]⟩ : ByteArray)).toList) = true → ∃ y100 : Bool, palinoderef01_In_R (⟨#[65, 90, 97, 122]⟩ : ByteArray) x2 y100 ∧ r = (y100, true)) ∧ (¬ ((x1.toList == ((⟨#[97, 108, 112, 104, 97]⟩ : ByteArray)).toList) = true) → (((x1.toList == ((⟨#[97, 108, 110, 117, 109]⟩ : ByteArray)).toList) = true → ∃ y104 : Bool, palinoderef01_In_R (⟨#[65, 90, 97, 122, 48, 57]⟩ : ByteArray) x2 y104 ∧ r = (y104, true)) ∧ (¬ ((x1.toList == ((⟨#[97, 108, 110, 117, 109]⟩ : ByteArray)).toList) = true) → (((x1.toList == ((⟨#[98, 108, 97, 110, 107]⟩ : ByteArray)).toList) = true → (((x2.toNat : Int) = 32 → r = (true, true)) ∧ (¬ ((x2.toNat : Int) = 32) → r = ((decide ((x2.toNat : Int) = 9)), true)))) ∧ (¬ ((x1.toList == ((⟨#[98, 108, 97, 110, 107]⟩ : ByteArray)).toList) = true) → (((x1.toList == ((⟨#[115, 112, 97, 99, 101]⟩ : ByteArray)).toList) = true → (((x2.toNat : Int) = 32 → r = (true, true)) ∧ (¬ ((x2.toNat : Int) = 32) → ((9 ≤ (x2.toNat : Int) → r = ((decide ((x2.toNat : Int) ≤ 13)), true)) ∧ (¬ (9 ≤ (x2.toNat : Int)) → r = (false, true)))))) ∧ (¬ ((x1.toList == ((⟨#[115, 112, 97, 99, 101]⟩ : ByteArray)).toList) = true) → (((x1.toList == ((⟨#[99, 110, 116, 114, 108]⟩ : ByteArray)).toList) = true → (((x2.toNat : Int) ≤ 31 → r = (true, true)) ∧ (¬ ((x2.toNat : Int) ≤ 31) → r = ((decide ((x2.toNat : Int) = 127)), true)))) ∧ (¬ ((x1.toList == ((⟨#[99, 110, 116, 114, 108]⟩ : ByteArray)).toList) = true) → (((x1.toList == ((⟨#[103, 114, 97, 112, 104]⟩ : ByteArray)).toList) = true → ((33 ≤ (x2.toNat : Int) → r = ((decide ((x2.toNat : Int) ≤ 126)), true)) ∧ (¬ (33 ≤ (x2.toNat : Int)) → r = (false, true)))) ∧ (¬ ((x1.toList == ((⟨#[103, 114, 97, 112, 104]⟩ : ByteArray)).toList) = true) → (((x1.toList == ((⟨#[112, 114, 105, 110, 116]⟩ : ByteArray)).toList) = true → ((32 ≤ (x2.toNat : Int) → r = ((decide ((x2.toNat : Int) ≤ 126)), true)) ∧ (¬ (32 ≤ (x2.toNat : Int)) → r = (false, true)))) ∧ (¬ ((x1.toList == ((⟨#[112, 114, 105, 110, 116]⟩ : ByteArray)).toList) = true) → (((x1.toList == ((⟨#[112, 117, 110, 99, 116]⟩ : ByteArray)).toList) = true → ((33 ≤ (x2.toNat : Int) → (((x2.toNat : Int) ≤ 126 → ∃ y162 : Bool, palinoderef01_In_R (⟨#[65, 90, 97, 122, 48, 57]⟩ : ByteArray) x2 y162 ∧ r = ((!y162), true)) ∧ (¬ ((x2.toNat : Int) ≤ 126) → r = (false, true)))) ∧ (¬ (33 ≤ (x2.toNat : Int)) → r = (false, true)))) ∧ (¬ ((x1.toList == ((⟨#[112, 117, 110, 99, 116]⟩ : ByteArray)).toList) = true) → (((x1.toList == ((⟨#[120, 100, 105, 103, 105, 116]⟩ : ByteArray)).toList) = true → ∃ y166 : Bool, palinoderef01_In_R (⟨#[48, 57, 65, 70, 97, 102]⟩ : ByteArray) x2 y166 ∧ r = (y166, true)) ∧ (¬ ((x1.toList == ((⟨#[120, 100, 105, 103, 105, 116]⟩ : ByteArray)).toList) = true) → r = (false, false)))))))))))))))))))))))))
set_option maxHeartbeats 4000000 in
theorem palinoderef01_Is_con (x1 : ByteArray) (x2 : UInt8) (r : Bool × Bool) (h : palinoderef01_Is_R x1 x2 r) : Con Try.prog 17 [.v (.string x1), .v (.int .u8 ((x2.toNat : Int)))] [] [] (fun rr bx tk => rr = .tup [.v (.bool r.1), .v (.bool r.2)] ∧ bx = [] ∧ tk = []) := by
  refine xenter Try.func17 rfl rfl fun g hg => ?_
  simp only [Try.ntmps17, slots]
  refine xseq ?_
  refine xregion ?_
  refine xvalP (pv_assign rfl) rfl rfl ?_
  refine xvalP (pv_assign rfl) rfl rfl ?_
  refine xnil ?_
  refine xthen ?_
  refine xseq ?_
  refine xseq ?_
  refine xregion ?_
  refine xvalP (pv_move rfl) rfl rfl ?_
  refine xnil ?_
  refine xthen ?_
  refine xblock ?_
  refine xseq ?_
  refine xregion ?_
  refine xvalP (pv_bin2 rfl rfl rfl) rfl rfl ?_
  refine xvalP (pv_assign rfl) rfl rfl ?_
  refine xnil ?_
  refine xthen ?_
  by_cases hp86 : (x1.toList == ((⟨#[117, 112, 112, 101, 114]⟩ : ByteArray)).toList) = true
  · replace h := h.1 hp86
    refine xcondT' hp86 rfl ?_
    refine xseq ?_
    refine xregion ?_
    refine xvalP (pv_move rfl) rfl rfl ?_
    obtain ⟨y88, h87, h⟩ := h
    refine xcall0 (palinoderef01_In_con (⟨#[65, 90]⟩ : ByteArray) x2 _ h87) Try.func23 (by kernel_rfl) rfl (.cons rfl (.refl _) (.cons rfl (.refl _) .nil)) rfl rfl ?_
    refine xvalP (pv_assign rfl) rfl rfl ?_
    refine xvalP (pv_assign rfl) rfl rfl ?_
    refine xnil ?_
    refine xthen ?_
    refine xretc ?_
    refine xin_ret ?_
    refine xthen_ret ?_
    replace h := h.symm
    subst h
    exact xret2 hg rfl rfl (.refl _) rfl (.refl _) (SubM.of (.nil _) (.nil _)) ⟨rfl, rfl, rfl⟩
  · replace h := h.2 hp86
    refine xcondF' (b_f hp86) rfl ?_
    refine xseq ?_
    refine xregion ?_
    refine xvalP (pv_bin2 rfl rfl rfl) rfl rfl ?_
    refine xvalP (pv_assign rfl) rfl rfl ?_
    refine xnil ?_
    refine xthen ?_
    by_cases hp90 : (x1.toList == ((⟨#[108, 111, 119, 101, 114]⟩ : ByteArray)).toList) = true
    · replace h := h.1 hp90
      refine xcondT' hp90 rfl ?_
      refine xseq ?_
      refine xregion ?_
      refine xvalP (pv_move rfl) rfl rfl ?_
      obtain ⟨y92, h91, h⟩ := h
      refine xcall0 (palinoderef01_In_con (⟨#[97, 122]⟩ : ByteArray) x2 _ h91) Try.func23 (by kernel_rfl) rfl (.cons rfl (.refl _) (.cons rfl (.refl _) .nil)) rfl rfl ?_
      refine xvalP (pv_assign rfl) rfl rfl ?_
      refine xvalP (pv_assign rfl) rfl rfl ?_
      refine xnil ?_
      refine xthen ?_
      refine xretc ?_
      refine xin_ret ?_
      refine xthen_ret ?_
      replace h := h.symm
      subst h
      exact xret2 hg rfl rfl (.refl _) rfl (.refl _) (SubM.of (.nil _) (.nil _)) ⟨rfl, rfl, rfl⟩
    · replace h := h.2 hp90
      refine xcondF' (b_f hp90) rfl ?_
      refine xseq ?_
      refine xregion ?_
      refine xvalP (pv_bin2 rfl rfl rfl) rfl rfl ?_
      refine xvalP (pv_assign rfl) rfl rfl ?_
      refine xnil ?_
      refine xthen ?_
      by_cases hp94 : (x1.toList == ((⟨#[100, 105, 103, 105, 116]⟩ : ByteArray)).toList) = true
      · replace h := h.1 hp94
        refine xcondT' hp94 rfl ?_
        refine xseq ?_
        refine xregion ?_
        refine xvalP (pv_move rfl) rfl rfl ?_
        obtain ⟨y96, h95, h⟩ := h
        refine xcall0 (palinoderef01_In_con (⟨#[48, 57]⟩ : ByteArray) x2 _ h95) Try.func23 (by kernel_rfl) rfl (.cons rfl (.refl _) (.cons rfl (.refl _) .nil)) rfl rfl ?_
        refine xvalP (pv_assign rfl) rfl rfl ?_
        refine xvalP (pv_assign rfl) rfl rfl ?_
        refine xnil ?_
        refine xthen ?_
        refine xretc ?_
        refine xin_ret ?_
        refine xthen_ret ?_
        replace h := h.symm
        subst h
        exact xret2 hg rfl rfl (.refl _) rfl (.refl _) (SubM.of (.nil _) (.nil _)) ⟨rfl, rfl, rfl⟩
      · replace h := h.2 hp94
        refine xcondF' (b_f hp94) rfl ?_
        refine xseq ?_
        refine xregion ?_
        refine xvalP (pv_bin2 rfl rfl rfl) rfl rfl ?_
        refine xvalP (pv_assign rfl) rfl rfl ?_
        refine xnil ?_
        refine xthen ?_
        by_cases hp98 : (x1.toList == ((⟨#[97, 108, 112, 104, 97]⟩ : ByteArray)).toList) = true
        · replace h := h.1 hp98
          refine xcondT' hp98 rfl ?_
          refine xseq ?_
          refine xregion ?_
          refine xvalP (pv_move rfl) rfl rfl ?_
          obtain ⟨y100, h99, h⟩ := h
          refine xcall0 (palinoderef01_In_con (⟨#[65, 90, 97, 122]⟩ : ByteArray) x2 _ h99) Try.func23 (by kernel_rfl) rfl (.cons rfl (.refl _) (.cons rfl (.refl _) .nil)) rfl rfl ?_
          refine xvalP (pv_assign rfl) rfl rfl ?_
          refine xvalP (pv_assign rfl) rfl rfl ?_
          refine xnil ?_
          refine xthen ?_
          refine xretc ?_
          refine xin_ret ?_
          refine xthen_ret ?_
          replace h := h.symm
          subst h
          exact xret2 hg rfl rfl (.refl _) rfl (.refl _) (SubM.of (.nil _) (.nil _)) ⟨rfl, rfl, rfl⟩
        · replace h := h.2 hp98
          refine xcondF' (b_f hp98) rfl ?_
          refine xseq ?_
          refine xregion ?_
          refine xvalP (pv_bin2 rfl rfl rfl) rfl rfl ?_
          refine xvalP (pv_assign rfl) rfl rfl ?_
          refine xnil ?_
          refine xthen ?_
          by_cases hp102 : (x1.toList == ((⟨#[97, 108, 110, 117, 109]⟩ : ByteArray)).toList) = true
          · replace h := h.1 hp102
            refine xcondT' hp102 rfl ?_
            refine xseq ?_
            refine xregion ?_
            refine xvalP (pv_move rfl) rfl rfl ?_
            obtain ⟨y104, h103, h⟩ := h
            refine xcall0 (palinoderef01_In_con (⟨#[65, 90, 97, 122, 48, 57]⟩ : ByteArray) x2 _ h103) Try.func23 (by kernel_rfl) rfl (.cons rfl (.refl _) (.cons rfl (.refl _) .nil)) rfl rfl ?_
            refine xvalP (pv_assign rfl) rfl rfl ?_
            refine xvalP (pv_assign rfl) rfl rfl ?_
            refine xnil ?_
            refine xthen ?_
            refine xretc ?_
            refine xin_ret ?_
            refine xthen_ret ?_
            replace h := h.symm
            subst h
            exact xret2 hg rfl rfl (.refl _) rfl (.refl _) (SubM.of (.nil _) (.nil _)) ⟨rfl, rfl, rfl⟩
          · replace h := h.2 hp102
            refine xcondF' (b_f hp102) rfl ?_
            refine xseq ?_
            refine xregion ?_
            refine xvalP (pv_bin2 rfl rfl rfl) rfl rfl ?_
            refine xvalP (pv_assign rfl) rfl rfl ?_
            refine xnil ?_
            refine xthen ?_
            by_cases hp106 : (x1.toList == ((⟨#[98, 108, 97, 110, 107]⟩ : ByteArray)).toList) = true
            · replace h := h.1 hp106
              refine xcondT' hp106 rfl ?_
              refine xseq ?_
              refine xregion ?_
              refine xvalP (pv_move rfl) rfl rfl ?_
              refine xvalP (pv_bin2 rfl rfl rfl) rfl rfl ?_
              refine xvalP (pv_move rfl) rfl rfl ?_
              by_cases hp111 : (x2.toNat : Int) = 32
              · replace h := h.1 hp111
                refine xsetB 31 (decide_eq_true hp111) rfl ?_
                refine xskip rfl rfl ?_
                refine xskip rfl rfl ?_
                refine xvalP (pv_pick rfl rfl) rfl rfl ?_
                refine xvalP (pv_assign rfl) rfl rfl ?_
                refine xvalP (pv_assign rfl) rfl rfl ?_
                refine xnil ?_
                refine xthen ?_
                refine xretc ?_
                refine xin_ret ?_
                refine xthen_ret ?_
                replace h := h.symm
                subst h
                exact xret2 hg rfl rfl (.refl _) rfl (.refl _) (SubM.of (.nil _) (.nil _)) ⟨rfl, rfl, rfl⟩
              · replace h := h.2 hp111
                refine xsetB 31 (decide_eq_false hp111) rfl ?_
                refine xvalP (pv_move rfl) rfl rfl ?_
                refine xvalP (pv_bin2 rfl rfl rfl) rfl rfl ?_
                refine xvalP (pv_pick rfl rfl) rfl rfl ?_
                refine xvalP (pv_assign rfl) rfl rfl ?_
                refine xvalP (pv_assign rfl) rfl rfl ?_
                refine xnil ?_
                refine xthen ?_
                refine xretc ?_
                refine xin_ret ?_
                refine xthen_ret ?_
                replace h := h.symm
                subst h
                exact xret2 hg rfl rfl (.refl _) rfl (.refl _) (SubM.of (.nil _) (.nil _)) ⟨rfl, rfl, rfl⟩
            · replace h := h.2 hp106
              refine xcondF' (b_f hp106) rfl ?_
              refine xseq ?_
              refine xregion ?_
              refine xvalP (pv_bin2 rfl rfl rfl) rfl rfl ?_
              refine xvalP (pv_assign rfl) rfl rfl ?_
              refine xnil ?_
              refine xthen ?_
              by_cases hp114 : (x1.toList == ((⟨#[115, 112, 97, 99, 101]⟩ : ByteArray)).toList) = true
              · replace h := h.1 hp114
                refine xcondT' hp114 rfl ?_
                refine xseq ?_
                refine xregion ?_
                refine xvalP (pv_move rfl) rfl rfl ?_
                refine xvalP (pv_bin2 rfl rfl rfl) rfl rfl ?_
                refine xvalP (pv_move rfl) rfl rfl ?_
                by_cases hp121 : (x2.toNat : Int) = 32
                · replace h := h.1 hp121
                  refine xsetB 39 (decide_eq_true hp121) rfl ?_
                  refine xskip rfl rfl ?_
                  refine xskip rfl rfl ?_
                  refine xskip rfl rfl ?_
                  refine xskip rfl rfl ?_
                  refine xskip rfl rfl ?_
                  refine xskip rfl rfl ?_
                  refine xvalP (pv_pick rfl rfl) rfl rfl ?_
                  refine xvalP (pv_assign rfl) rfl rfl ?_
                  refine xvalP (pv_assign rfl) rfl rfl ?_
                  refine xnil ?_
                  refine xthen ?_
                  refine xretc ?_
                  refine xin_ret ?_
                  refine xthen_ret ?_
                  replace h := h.symm
                  subst h
                  exact xret2 hg rfl rfl (.refl _) rfl (.refl _) (SubM.of (.nil _) (.nil _)) ⟨rfl, rfl, rfl⟩
                · replace h := h.2 hp121
                  refine xsetB 39 (decide_eq_false hp121) rfl ?_
                  refine xvalP (pv_move rfl) rfl rfl ?_
                  refine xvalP (pv_bin2 rfl rfl rfl) rfl rfl ?_
                  refine xvalP (pv_move rfl) rfl rfl ?_
                  by_cases hp123 : 9 ≤ (x2.toNat : Int)
                  · replace h := h.1 hp123
                    refine xsetB 42 (decide_eq_true hp123) rfl ?_
                    refine xvalP (pv_move rfl) rfl rfl ?_
                    refine xvalP (pv_bin2 rfl rfl rfl) rfl rfl ?_
                    refine xvalP (pv_pick rfl rfl) rfl rfl ?_
                    refine xvalP (pv_pick rfl rfl) rfl rfl ?_
                    refine xvalP (pv_assign rfl) rfl rfl ?_
                    refine xvalP (pv_assign rfl) rfl rfl ?_
                    refine xnil ?_
                    refine xthen ?_
                    refine xretc ?_
                    refine xin_ret ?_
                    refine xthen_ret ?_
                    replace h := h.symm
                    subst h
                    exact xret2 hg rfl rfl (.refl _) rfl (.refl _) (SubM.of (.nil _) (.nil _)) ⟨rfl, rfl, rfl⟩
                  · replace h := h.2 hp123
                    refine xsetB 42 (decide_eq_false hp123) rfl ?_
                    refine xskip rfl rfl ?_
                    refine xskip rfl rfl ?_
                    refine xvalP (pv_pick rfl rfl) rfl rfl ?_
                    refine xvalP (pv_pick rfl rfl) rfl rfl ?_
                    refine xvalP (pv_assign rfl) rfl rfl ?_
                    refine xvalP (pv_assign rfl) rfl rfl ?_
                    refine xnil ?_
                    refine xthen ?_
                    refine xretc ?_
                    refine xin_ret ?_
                    refine xthen_ret ?_
                    replace h := h.symm
                    subst h
                    exact xret2 hg rfl rfl (.refl _) rfl (.refl _) (SubM.of (.nil _) (.nil _)) ⟨rfl, rfl, rfl⟩
              · replace h := h.2 hp114
                refine xcondF' (b_f hp114) rfl ?_
                refine xseq ?_
                refine xregion ?_
                refine xvalP (pv_bin2 rfl rfl rfl) rfl rfl ?_
                refine xvalP (pv_assign rfl) rfl rfl ?_
                refine xnil ?_
                refine xthen ?_
                by_cases hp126 : (x1.toList == ((⟨#[99, 110, 116, 114, 108]⟩ : ByteArray)).toList) = true
                · replace h := h.1 hp126
                  refine xcondT' hp126 rfl ?_
                  refine xseq ?_
                  refine xregion ?_
                  refine xvalP (pv_move rfl) rfl rfl ?_
                  refine xvalP (pv_bin2 rfl rfl rfl) rfl rfl ?_
                  refine xvalP (pv_move rfl) rfl rfl ?_
                  by_cases hp131 : (x2.toNat : Int) ≤ 31
                  · replace h := h.1 hp131
                    refine xsetB 51 (decide_eq_true hp131) rfl ?_
                    refine xskip rfl rfl ?_
                    refine xskip rfl rfl ?_
                    refine xvalP (pv_pick rfl rfl) rfl rfl ?_
                    refine xvalP (pv_assign rfl) rfl rfl ?_
                    refine xvalP (pv_assign rfl) rfl rfl ?_
                    refine xnil ?_
                    refine xthen ?_
                    refine xretc ?_
                    refine xin_ret ?_
                    refine xthen_ret ?_
                    replace h := h.symm
                    subst h
                    exact xret2 hg rfl rfl (.refl _) rfl (.refl _) (SubM.of (.nil _) (.nil _)) ⟨rfl, rfl, rfl⟩
                  · replace h := h.2 hp131
                    refine xsetB 51 (decide_eq_false hp131) rfl ?_
                    refine xvalP (pv_move rfl) rfl rfl ?_
                    refine xvalP (pv_bin2 rfl rfl rfl) rfl rfl ?_
                    refine xvalP (pv_pick rfl rfl) rfl rfl ?_
                    refine xvalP (pv_assign rfl) rfl rfl ?_
                    refine xvalP (pv_assign rfl) rfl rfl ?_
                    refine xnil ?_
                    refine xthen ?_
                    refine xretc ?_
                    refine xin_ret ?_
                    refine xthen_ret ?_
                    replace h := h.symm
                    subst h
                    exact xret2 hg rfl rfl (.refl _) rfl (.refl _) (SubM.of (.nil _) (.nil _)) ⟨rfl, rfl, rfl⟩
                · replace h := h.2 hp126
                  refine xcondF' (b_f hp126) rfl ?_
                  refine xseq ?_
                  refine xregion ?_
                  refine xvalP (pv_bin2 rfl rfl rfl) rfl rfl ?_
                  refine xvalP (pv_assign rfl) rfl rfl ?_
                  refine xnil ?_
                  refine xthen ?_
                  by_cases hp134 : (x1.toList == ((⟨#[103, 114, 97, 112, 104]⟩ : ByteArray)).toList) = true
                  · replace h := h.1 hp134
                    refine xcondT' hp134 rfl ?_
                    refine xseq ?_
                    refine xregion ?_
                    refine xvalP (pv_move rfl) rfl rfl ?_
                    refine xvalP (pv_bin2 rfl rfl rfl) rfl rfl ?_
                    refine xvalP (pv_move rfl) rfl rfl ?_
                    by_cases hp139 : 33 ≤ (x2.toNat : Int)
                    · replace h := h.1 hp139
                      refine xsetB 59 (decide_eq_true hp139) rfl ?_
                      refine xvalP (pv_move rfl) rfl rfl ?_
                      refine xvalP (pv_bin2 rfl rfl rfl) rfl rfl ?_
                      refine xvalP (pv_pick rfl rfl) rfl rfl ?_
                      refine xvalP (pv_assign rfl) rfl rfl ?_
                      refine xvalP (pv_assign rfl) rfl rfl ?_
                      refine xnil ?_
                      refine xthen ?_
                      refine xretc ?_
                      refine xin_ret ?_
                      refine xthen_ret ?_
                      replace h := h.symm
                      subst h
                      exact xret2 hg rfl rfl (.refl _) rfl (.refl _) (SubM.of (.nil _) (.nil _)) ⟨rfl, rfl, rfl⟩
                    · replace h := h.2 hp139
                      refine xsetB 59 (decide_eq_false hp139) rfl ?_
                      refine xskip rfl rfl ?_
                      refine xskip rfl rfl ?_
                      refine xvalP (pv_pick rfl rfl) rfl rfl ?_
                      refine xvalP (pv_assign rfl) rfl rfl ?_
                      refine xvalP (pv_assign rfl) rfl rfl ?_
                      refine xnil ?_
                      refine xthen ?_
                      refine xretc ?_
                      refine xin_ret ?_
                      refine xthen_ret ?_
                      replace h := h.symm
                      subst h
                      exact xret2 hg rfl rfl (.refl _) rfl (.refl _) (SubM.of (.nil _) (.nil _)) ⟨rfl, rfl, rfl⟩
                  · replace h := h.2 hp134
                    refine xcondF' (b_f hp134) rfl ?_
                    refine xseq ?_
                    refine xregion ?_
                    refine xvalP (pv_bin2 rfl rfl rfl) rfl rfl ?_
                    refine xvalP (pv_assign rfl) rfl rfl ?_
                    refine xnil ?_
                    refine xthen ?_
                    by_cases hp142 : (x1.toList == ((⟨#[112, 114, 105, 110, 116]⟩ : ByteArray)).toList) = true
                    · replace h := h.1 hp142
                      refine xcondT' hp142 rfl ?_
                      refine xseq ?_
                      refine xregion ?_
                      refine xvalP (pv_move rfl) rfl rfl ?_
                      refine xvalP (pv_bin2 rfl rfl rfl) rfl rfl ?_
                      refine xvalP (pv_move rfl) rfl rfl ?_
                      by_cases hp147 : 32 ≤ (x2.toNat : Int)
                      · replace h := h.1 hp147
                        refine xsetB 67 (decide_eq_true hp147) rfl ?_
                        refine xvalP (pv_move rfl) rfl rfl ?_
                        refine xvalP (pv_bin2 rfl rfl rfl) rfl rfl ?_
                        refine xvalP (pv_pick rfl rfl) rfl rfl ?_
                        refine xvalP (pv_assign rfl) rfl rfl ?_
                        refine xvalP (pv_assign rfl) rfl rfl ?_
                        refine xnil ?_
                        refine xthen ?_
                        refine xretc ?_
                        refine xin_ret ?_
                        refine xthen_ret ?_
                        replace h := h.symm
                        subst h
                        exact xret2 hg rfl rfl (.refl _) rfl (.refl _) (SubM.of (.nil _) (.nil _)) ⟨rfl, rfl, rfl⟩
                      · replace h := h.2 hp147
                        refine xsetB 67 (decide_eq_false hp147) rfl ?_
                        refine xskip rfl rfl ?_
                        refine xskip rfl rfl ?_
                        refine xvalP (pv_pick rfl rfl) rfl rfl ?_
                        refine xvalP (pv_assign rfl) rfl rfl ?_
                        refine xvalP (pv_assign rfl) rfl rfl ?_
                        refine xnil ?_
                        refine xthen ?_
                        refine xretc ?_
                        refine xin_ret ?_
                        refine xthen_ret ?_
                        replace h := h.symm
                        subst h
                        exact xret2 hg rfl rfl (.refl _) rfl (.refl _) (SubM.of (.nil _) (.nil _)) ⟨rfl, rfl, rfl⟩
                    · replace h := h.2 hp142
                      refine xcondF' (b_f hp142) rfl ?_
                      refine xseq ?_
                      refine xregion ?_
                      refine xvalP (pv_bin2 rfl rfl rfl) rfl rfl ?_
                      refine xvalP (pv_assign rfl) rfl rfl ?_
                      refine xnil ?_
                      refine xthen ?_
                      by_cases hp150 : (x1.toList == ((⟨#[112, 117, 110, 99, 116]⟩ : ByteArray)).toList) = true
                      · replace h := h.1 hp150
                        refine xcondT' hp150 rfl ?_
                        refine xseq ?_
                        refine xregion ?_
                        refine xvalP (pv_move rfl) rfl rfl ?_
                        refine xvalP (pv_bin2 rfl rfl rfl) rfl rfl ?_
                        refine xvalP (pv_move rfl) rfl rfl ?_
                        by_cases hp158 : 33 ≤ (x2.toNat : Int)
                        · replace h := h.1 hp158
                          refine xsetB 75 (decide_eq_true hp158) rfl ?_
                          refine xvalP (pv_move rfl) rfl rfl ?_
                          refine xvalP (pv_bin2 rfl rfl rfl) rfl rfl ?_
                          refine xvalP (pv_pick rfl rfl) rfl rfl ?_
                          refine xvalP (pv_move rfl) rfl rfl ?_
                          by_cases hp160 : (x2.toNat : Int) ≤ 126
                          · replace h := h.1 hp160
                            refine xsetB 79 (decide_eq_true hp160) rfl ?_
                            refine xvalP (pv_move rfl) rfl rfl ?_
                            obtain ⟨y162, h161, h⟩ := h
                            refine xcall0 (palinoderef01_In_con (⟨#[65, 90, 97, 122, 48, 57]⟩ : ByteArray) x2 _ h161) Try.func23 (by kernel_rfl) rfl (.cons rfl (.refl _) (.cons rfl (.refl _) .nil)) rfl rfl ?_
                            refine xvalP (pv_not rfl) rfl rfl ?_
                            refine xvalP (pv_pick rfl rfl) rfl rfl ?_
                            refine xvalP (pv_assign rfl) rfl rfl ?_
                            refine xvalP (pv_assign rfl) rfl rfl ?_
                            refine xnil ?_
                            refine xthen ?_
                            refine xretc ?_
                            refine xin_ret ?_
                            refine xthen_ret ?_
                            replace h := h.symm
                            subst h
                            exact xret2 hg rfl rfl (.refl _) rfl (.refl _) (SubM.of (.nil _) (.nil _)) ⟨rfl, rfl, rfl⟩
                          · replace h := h.2 hp160
                            refine xsetB 79 (decide_eq_false hp160) rfl ?_
                            refine xskip rfl rfl ?_
                            refine xskip rfl rfl ?_
                            refine xskip rfl rfl ?_
                            refine xvalP (pv_pick rfl rfl) rfl rfl ?_
                            refine xvalP (pv_assign rfl) rfl rfl ?_
                            refine xvalP (pv_assign rfl) rfl rfl ?_
                            refine xnil ?_
                            refine xthen ?_
                            refine xretc ?_
                            refine xin_ret ?_
                            refine xthen_ret ?_
                            replace h := h.symm
                            subst h
                            exact xret2 hg rfl rfl (.refl _) rfl (.refl _) (SubM.of (.nil _) (.nil _)) ⟨rfl, rfl, rfl⟩
                        · replace h := h.2 hp158
                          refine xsetB 75 (decide_eq_false hp158) rfl ?_
                          refine xskip rfl rfl ?_
                          refine xskip rfl rfl ?_
                          refine xvalP (pv_pick rfl rfl) rfl rfl ?_
                          refine xvalP (pv_move rfl) rfl rfl ?_
                          refine xskip rfl rfl ?_
                          refine xskip rfl rfl ?_
                          refine xskip rfl rfl ?_
                          refine xvalP (pv_pick rfl rfl) rfl rfl ?_
                          refine xvalP (pv_assign rfl) rfl rfl ?_
                          refine xvalP (pv_assign rfl) rfl rfl ?_
                          refine xnil ?_
                          refine xthen ?_
                          refine xretc ?_
                          refine xin_ret ?_
                          refine xthen_ret ?_
                          replace h := h.symm
                          subst h
                          exact xret2 hg rfl rfl (.refl _) rfl (.refl _) (SubM.of (.nil _) (.nil _)) ⟨rfl, rfl, rfl⟩
                      · replace h := h.2 hp150
                        refine xcondF' (b_f hp150) rfl ?_
                        refine xseq ?_
                        refine xregion ?_
                        refine xvalP (pv_bin2 rfl rfl rfl) rfl rfl ?_
                        refine xvalP (pv_assign rfl) rfl rfl ?_
                        refine xnil ?_
                        refine xthen ?_
                        by_cases hp164 : (x1.toList == ((⟨#[120, 100, 105, 103, 105, 116]⟩ : ByteArray)).toList) = true
                        · replace h := h.1 hp164
                          refine xcondT' hp164 rfl ?_
                          refine xseq ?_
                          refine xregion ?_
                          refine xvalP (pv_move rfl) rfl rfl ?_
                          obtain ⟨y166, h165, h⟩ := h
                          refine xcall0 (palinoderef01_In_con (⟨#[48, 57, 65, 70, 97, 102]⟩ : ByteArray) x2 _ h165) Try.func23 (by kernel_rfl) rfl (.cons rfl (.refl _) (.cons rfl (.refl _) .nil)) rfl rfl ?_
                          refine xvalP (pv_assign rfl) rfl rfl ?_
                          refine xvalP (pv_assign rfl) rfl rfl ?_
                          refine xnil ?_
                          refine xthen ?_
                          refine xretc ?_
                          refine xin_ret ?_
                          refine xthen_ret ?_
                          replace h := h.symm
                          subst h
                          exact xret2 hg rfl rfl (.refl _) rfl (.refl _) (SubM.of (.nil _) (.nil _)) ⟨rfl, rfl, rfl⟩
                        · replace h := h.2 hp164
                          refine xcondF' (b_f hp164) rfl ?_
                          refine xskipc ?_
                          refine xin_normal ?_
                          refine xthen ?_
                          refine xseq ?_
                          refine xregion ?_
                          refine xvalP (pv_assign rfl) rfl rfl ?_
                          refine xvalP (pv_assign rfl) rfl rfl ?_
                          refine xnil ?_
                          refine xthen ?_
                          refine xretc ?_
                          replace h := h.symm
                          subst h
                          exact xret2 hg rfl rfl (.refl _) rfl (.refl _) (SubM.of (.nil _) (.nil _)) ⟨rfl, rfl, rfl⟩
/-- digit.within -/
def digit_within_R (c1 : UInt8) (low2 : UInt8) (high3 : UInt8) (r : Bool) : Prop :=
  (((low2.toNat : Int) ≤ (c1.toNat : Int) → r = (decide ((c1.toNat : Int) ≤ (high3.toNat : Int)))) ∧ (¬ ((low2.toNat : Int) ≤ (c1.toNat : Int)) → r = false))
set_option maxHeartbeats 4000000 in
theorem digit_within_con (c1 : UInt8) (low2 : UInt8) (high3 : UInt8) (r : Bool) (h : digit_within_R c1 low2 high3 r) : Con Try.prog 30 [.v (.int .u8 ((c1.toNat : Int))), .v (.int .u8 ((low2.toNat : Int))), .v (.int .u8 ((high3.toNat : Int)))] [] [] (Ret (.v (.bool r))) := by
  refine xenter Try.func30 rfl rfl fun g hg => ?_
  simp only [Try.ntmps30, slots]
  refine xseq ?_
  refine xregion ?_
  refine xvalP (pv_assign rfl) rfl rfl ?_
  refine xnil ?_
  refine xthen ?_
  refine xseq ?_
  refine xregion ?_
  refine xvalP (pv_move rfl) rfl rfl ?_
  refine xvalP (pv_move rfl) rfl rfl ?_
  refine xvalP (pv_bin2 rfl rfl rfl) rfl rfl ?_
  refine xvalP (pv_move rfl) rfl rfl ?_
  by_cases hp8 : (low2.toNat : Int) ≤ (c1.toNat : Int)
  · replace h := h.1 hp8
    refine xsetB 10 (decide_eq_true hp8) rfl ?_
    refine xvalP (pv_move rfl) rfl rfl ?_
    refine xvalP (pv_move rfl) rfl rfl ?_
    refine xvalP (pv_bin2 rfl rfl rfl) rfl rfl ?_
    refine xvalP (pv_pick rfl rfl) rfl rfl ?_
    refine xvalP (pv_assign rfl) rfl rfl ?_
    refine xnil ?_
    refine xthen ?_
    refine xretc ?_
    replace h := h.symm
    subst h
    exact xret1 hg rfl rfl (.refl _) (SubM.of (.nil _) (.nil _)) ⟨rfl, rfl, rfl⟩
  · replace h := h.2 hp8
    refine xsetB 10 (decide_eq_false hp8) rfl ?_
    refine xskip rfl rfl ?_
    refine xskip rfl rfl ?_
    refine xskip rfl rfl ?_
    refine xvalP (pv_pick rfl rfl) rfl rfl ?_
    refine xvalP (pv_assign rfl) rfl rfl ?_
    refine xnil ?_
    refine xthen ?_
    refine xretc ?_
    replace h := h.symm
    subst h
    exact xret1 hg rfl rfl (.refl _) (SubM.of (.nil _) (.nil _)) ⟨rfl, rfl, rfl⟩
/-- digit.isUpper -/
def digit_isUpper_R (c1 : UInt8) (r : Bool) : Prop :=
  ∃ y3 : Bool, digit_within_R c1 (65 : UInt8) (90 : UInt8) y3 ∧ r = y3
set_option maxHeartbeats 4000000 in
theorem digit_isUpper_con (c1 : UInt8) (r : Bool) (h : digit_isUpper_R c1 r) : Con Try.prog 25 [.v (.int .u8 ((c1.toNat : Int)))] [] [] (Ret (.v (.bool r))) := by
  refine xenter Try.func25 rfl rfl fun g hg => ?_
  simp only [Try.ntmps25, slots]
  refine xseq ?_
  refine xregion ?_
  refine xvalP (pv_assign rfl) rfl rfl ?_
  refine xnil ?_
  refine xthen ?_
  refine xseq ?_
  refine xregion ?_
  refine xvalP (pv_move rfl) rfl rfl ?_
  obtain ⟨y3, h2, h⟩ := h
  refine xcall0 (digit_within_con c1 (65 : UInt8) (90 : UInt8) _ h2) Try.func30 (by kernel_rfl) rfl (.cons rfl (.refl _) (.cons rfl (.refl _) (.cons rfl (.refl _) .nil))) rfl rfl ?_
  refine xvalP (pv_assign rfl) rfl rfl ?_
  refine xnil ?_
  refine xthen ?_
  refine xretc ?_
  replace h := h.symm
  subst h
  exact xret1 hg rfl rfl (.refl _) (SubM.of (.nil _) (.nil _)) ⟨rfl, rfl, rfl⟩
/-- digit.isLower -/
def digit_isLower_R (c1 : UInt8) (r : Bool) : Prop :=
  ∃ y3 : Bool, digit_within_R c1 (97 : UInt8) (122 : UInt8) y3 ∧ r = y3
set_option maxHeartbeats 4000000 in
theorem digit_isLower_con (c1 : UInt8) (r : Bool) (h : digit_isLower_R c1 r) : Con Try.prog 26 [.v (.int .u8 ((c1.toNat : Int)))] [] [] (Ret (.v (.bool r))) := by
  refine xenter Try.func26 rfl rfl fun g hg => ?_
  simp only [Try.ntmps26, slots]
  refine xseq ?_
  refine xregion ?_
  refine xvalP (pv_assign rfl) rfl rfl ?_
  refine xnil ?_
  refine xthen ?_
  refine xseq ?_
  refine xregion ?_
  refine xvalP (pv_move rfl) rfl rfl ?_
  obtain ⟨y3, h2, h⟩ := h
  refine xcall0 (digit_within_con c1 (97 : UInt8) (122 : UInt8) _ h2) Try.func30 (by kernel_rfl) rfl (.cons rfl (.refl _) (.cons rfl (.refl _) (.cons rfl (.refl _) .nil))) rfl rfl ?_
  refine xvalP (pv_assign rfl) rfl rfl ?_
  refine xnil ?_
  refine xthen ?_
  refine xretc ?_
  replace h := h.symm
  subst h
  exact xret1 hg rfl rfl (.refl _) (SubM.of (.nil _) (.nil _)) ⟨rfl, rfl, rfl⟩
/-- digit.isDigit -/
def digit_isDigit_R (c1 : UInt8) (r : Bool) : Prop :=
  ∃ y3 : Bool, digit_within_R c1 (48 : UInt8) (57 : UInt8) y3 ∧ r = y3
set_option maxHeartbeats 4000000 in
theorem digit_isDigit_con (c1 : UInt8) (r : Bool) (h : digit_isDigit_R c1 r) : Con Try.prog 27 [.v (.int .u8 ((c1.toNat : Int)))] [] [] (Ret (.v (.bool r))) := by
  refine xenter Try.func27 rfl rfl fun g hg => ?_
  simp only [Try.ntmps27, slots]
  refine xseq ?_
  refine xregion ?_
  refine xvalP (pv_assign rfl) rfl rfl ?_
  refine xnil ?_
  refine xthen ?_
  refine xseq ?_
  refine xregion ?_
  refine xvalP (pv_move rfl) rfl rfl ?_
  obtain ⟨y3, h2, h⟩ := h
  refine xcall0 (digit_within_con c1 (48 : UInt8) (57 : UInt8) _ h2) Try.func30 (by kernel_rfl) rfl (.cons rfl (.refl _) (.cons rfl (.refl _) (.cons rfl (.refl _) .nil))) rfl rfl ?_
  refine xvalP (pv_assign rfl) rfl rfl ?_
  refine xnil ?_
  refine xthen ?_
  refine xretc ?_
  replace h := h.symm
  subst h
  exact xret1 hg rfl rfl (.refl _) (SubM.of (.nil _) (.nil _)) ⟨rfl, rfl, rfl⟩
/-- digit.isAlnum -/
def digit_isAlnum_R (c1 : UInt8) (r : Bool) : Prop :=
  ∃ y11 : Bool, digit_isDigit_R c1 y11 ∧ ((y11 = true → r = true) ∧ (¬ (y11 = true) → ∃ y14 : Bool, digit_isUpper_R c1 y14 ∧ ((y14 = true → r = true) ∧ (¬ (y14 = true) → ∃ y17 : Bool, digit_isLower_R c1 y17 ∧ r = y17))))
set_option maxHeartbeats 4000000 in
theorem digit_isAlnum_con (c1 : UInt8) (r : Bool) (h : digit_isAlnum_R c1 r) : Con Try.prog 28 [.v (.int .u8 ((c1.toNat : Int)))] [] [] (Ret (.v (.bool r))) := by
  refine xenter Try.func28 rfl rfl fun g hg => ?_
  simp only [Try.ntmps28, slots]
  refine xseq ?_
  refine xregion ?_
  refine xvalP (pv_assign rfl) rfl rfl ?_
  refine xnil ?_
  refine xthen ?_
  refine xseq ?_
  refine xregion ?_
  refine xvalP (pv_move rfl) rfl rfl ?_
  obtain ⟨y11, h10, h⟩ := h
  refine xcall0 (digit_isDigit_con c1 _ h10) Try.func27 (by kernel_rfl) rfl (.cons rfl (.refl _) .nil) rfl rfl ?_
  refine xvalP (pv_move rfl) rfl rfl ?_
  by_cases hp12 : y11 = true
  · replace h := h.1 hp12
    refine xsetB 5 hp12 rfl ?_
    refine xskip rfl rfl ?_
    refine xskip rfl rfl ?_
    refine xvalP (pv_pick rfl rfl) rfl rfl ?_
    refine xvalP (pv_move rfl) rfl rfl ?_
    refine xskip rfl rfl ?_
    refine xskip rfl rfl ?_
    refine xvalP (pv_pick rfl rfl) rfl rfl ?_
    refine xvalP (pv_assign rfl) rfl rfl ?_
    refine xnil ?_
    refine xthen ?_
    refine xretc ?_
    replace h := h.symm
    subst h
    exact xret1 hg rfl rfl (.refl _) (SubM.of (.nil _) (.nil _)) ⟨rfl, rfl, rfl⟩
  · replace h := h.2 hp12
    refine xsetB 5 (b_f hp12) rfl ?_
    refine xvalP (pv_move rfl) rfl rfl ?_
    obtain ⟨y14, h13, h⟩ := h
    refine xcall0 (digit_isUpper_con c1 _ h13) Try.func25 (by kernel_rfl) rfl (.cons rfl (.refl _) .nil) rfl rfl ?_
    refine xvalP (pv_pick rfl rfl) rfl rfl ?_
    refine xvalP (pv_move rfl) rfl rfl ?_
    by_cases hp15 : y14 = true
    · replace h := h.1 hp15
      refine xsetB 9 hp15 rfl ?_
      refine xskip rfl rfl ?_
      refine xskip rfl rfl ?_
      refine xvalP (pv_pick rfl rfl) rfl rfl ?_
      refine xvalP (pv_assign rfl) rfl rfl ?_
      refine xnil ?_
      refine xthen ?_
      refine xretc ?_
      replace h := h.symm
      subst h
      exact xret1 hg rfl rfl (.refl _) (SubM.of (.nil _) (.nil _)) ⟨rfl, rfl, rfl⟩
    · replace h := h.2 hp15
      refine xsetB 9 (b_f hp15) rfl ?_
      refine xvalP (pv_move rfl) rfl rfl ?_
      obtain ⟨y17, h16, h⟩ := h
      refine xcall0 (digit_isLower_con c1 _ h16) Try.func26 (by kernel_rfl) rfl (.cons rfl (.refl _) .nil) rfl rfl ?_
      refine xvalP (pv_pick rfl rfl) rfl rfl ?_
      refine xvalP (pv_assign rfl) rfl rfl ?_
      refine xnil ?_
      refine xthen ?_
      refine xretc ?_
      replace h := h.symm
      subst h
      exact xret1 hg rfl rfl (.refl _) (SubM.of (.nil _) (.nil _)) ⟨rfl, rfl, rfl⟩
/-- digit.isBlank -/
def digit_isBlank_R (c1 : UInt8) (r : Bool) : Prop :=
  (((c1.toNat : Int) = 32 → r = true) ∧ (¬ ((c1.toNat : Int) = 32) → r = (decide ((c1.toNat : Int) = 9))))
set_option maxHeartbeats 4000000 in
theorem digit_isBlank_con (c1 : UInt8) (r : Bool) (h : digit_isBlank_R c1 r) : Con Try.prog 29 [.v (.int .u8 ((c1.toNat : Int)))] [] [] (Ret (.v (.bool r))) := by
  refine xenter Try.func29 rfl rfl fun g hg => ?_
  simp only [Try.ntmps29, slots]
  refine xseq ?_
  refine xregion ?_
  refine xvalP (pv_assign rfl) rfl rfl ?_
  refine xnil ?_
  refine xthen ?_
  refine xseq ?_
  refine xregion ?_
  refine xvalP (pv_move rfl) rfl rfl ?_
  refine xvalP (pv_bin2 rfl rfl rfl) rfl rfl ?_
  refine xvalP (pv_move rfl) rfl rfl ?_
  by_cases hp6 : (c1.toNat : Int) = 32
  · replace h := h.1 hp6
    refine xsetB 5 (decide_eq_true hp6) rfl ?_
    refine xskip rfl rfl ?_
    refine xskip rfl rfl ?_
    refine xvalP (pv_pick rfl rfl) rfl rfl ?_
    refine xvalP (pv_assign rfl) rfl rfl ?_
    refine xnil ?_
    refine xthen ?_
    refine xretc ?_
    replace h := h.symm
    subst h
    exact xret1 hg rfl rfl (.refl _) (SubM.of (.nil _) (.nil _)) ⟨rfl, rfl, rfl⟩
  · replace h := h.2 hp6
    refine xsetB 5 (decide_eq_false hp6) rfl ?_
    refine xvalP (pv_move rfl) rfl rfl ?_
    refine xvalP (pv_bin2 rfl rfl rfl) rfl rfl ?_
    refine xvalP (pv_pick rfl rfl) rfl rfl ?_
    refine xvalP (pv_assign rfl) rfl rfl ?_
    refine xnil ?_
    refine xthen ?_
    refine xretc ?_
    replace h := h.symm
    subst h
    exact xret1 hg rfl rfl (.refl _) (SubM.of (.nil _) (.nil _)) ⟨rfl, rfl, rfl⟩
/-- digit.isGraph -/
def digit_isGraph_R (c1 : UInt8) (r : Bool) : Prop :=
  ∃ y3 : Bool, digit_within_R c1 (33 : UInt8) (126 : UInt8) y3 ∧ r = y3
set_option maxHeartbeats 4000000 in
theorem digit_isGraph_con (c1 : UInt8) (r : Bool) (h : digit_isGraph_R c1 r) : Con Try.prog 31 [.v (.int .u8 ((c1.toNat : Int)))] [] [] (Ret (.v (.bool r))) := by
  refine xenter Try.func31 rfl rfl fun g hg => ?_
  simp only [Try.ntmps31, slots]
  refine xseq ?_
  refine xregion ?_
  refine xvalP (pv_assign rfl) rfl rfl ?_
  refine xnil ?_
  refine xthen ?_
  refine xseq ?_
  refine xregion ?_
  refine xvalP (pv_move rfl) rfl rfl ?_
  obtain ⟨y3, h2, h⟩ := h
  refine xcall0 (digit_within_con c1 (33 : UInt8) (126 : UInt8) _ h2) Try.func30 (by kernel_rfl) rfl (.cons rfl (.refl _) (.cons rfl (.refl _) (.cons rfl (.refl _) .nil))) rfl rfl ?_
  refine xvalP (pv_assign rfl) rfl rfl ?_
  refine xnil ?_
  refine xthen ?_
  refine xretc ?_
  replace h := h.symm
  subst h
  exact xret1 hg rfl rfl (.refl _) (SubM.of (.nil _) (.nil _)) ⟨rfl, rfl, rfl⟩
/-- digit.Is -/
def digit_Is_R (x1 : ByteArray) (x2 : UInt8) (r : Bool × Bool) : Prop :=
  (((x1.toList == ((⟨#[117, 112, 112, 101, 114]⟩ : ByteArray)).toList) = true → ∃ y102 : Bool, digit_isUpper_R x2 y102 ∧ r = (y102, true)) ∧ (¬ ((x1.toList == ((⟨#[117, 112, 112, 101, 114]⟩ : ByteArray)).toList) = true) → (((x1.toList == ((⟨#[108, 111, 119, 101, 114]⟩ : ByteArray)).toList) = true → ∃ y106 : Bool, digit_isLower_R x2 y106 ∧ r = (y106, true)) ∧ (¬ ((x1.toList == ((⟨#[108, 111, 119, 101, 114]⟩ : ByteArray)).toList) = true) → (((x1.toList == ((⟨#[100, 105, 103, 105, 116]⟩ : ByteArray)).toList) = true → ∃ y110 : Bool, digit_isDigit_R x2 y110 ∧ r = (y110, true)) ∧ (¬ ((x1.toList == ((⟨#[100, 105, 103, 105, 116]⟩ : ByteArray)).toList) = true) → (((x1.toList == ((⟨#[97, 108, 112, 104, 97]⟩ : ByteArray)).toList) = true → ∃ y119 : Bool, digit_isUpper_R x2 y119 ∧ ((y119 = true → r = (true, true)) ∧ (¬ (y119 = true) → ∃ y122 : Bool, digit_isLower_R x2 y122 ∧ r = (y122, true)))) ∧ (¬ ((x1.toList == ((⟨#[97, 108, 112, 104, 97]⟩ : ByteArray)).toList) = true) → (((x1.toList == ((⟨#[97, 108, 110, 117, 109]⟩ : ByteArray)).toList) = true → ∃ y126 : Bool, digit_isAlnum_R x2 y126 ∧ r = (y126, true)) ∧ (¬ ((x1.toList == ((⟨#[97, 108, 110, 117, 109]⟩ : ByteArray)).toList) = true) → (((x1.toList == ((⟨#[98, 108, 97, 110, 107]⟩ : ByteArray)).toList) = true → ∃ y130 : Bool, digit_isBlank_R x2 y130 ∧ r = (y130, true)) ∧ (¬ ((x1.toList == ((⟨#[98, 108, 97, 110, 107]⟩ : ByteArray)).toList) = true) → (((x1.toList == ((⟨#[115, 112, 97, 99, 101]⟩ : ByteArray)).toList) = true → ∃ y139 : Bool, digit_isBlank_R x2 y139 ∧ ((y139 = true → r = (true, true)) ∧ (¬ (y139 = true) → ∃ y142 : Bool, digit_within_R x2 (10 : UInt8) (13 : UInt8) y142 ∧ r = (y142, true)))) ∧ (¬ ((x1.toList == ((⟨#[115, 112, 97, 99, 101]⟩ : ByteArray)).toList) = true) → (((x1.toList == ((⟨#[99, 110, 116, 114, 108]⟩ : ByteArray)).toList) = true → (((x2.toNat : Int) < 32 → r = (true, true)) ∧ (¬ ((x2.toNat : Int) < 32) → r = ((decide ((x2.toNat : Int) = 127)), true)))) ∧ (¬ ((x1.toList == ((⟨#[99, 110, 116, 114, 108]⟩ : ByteArray)).toList) = true) → (((x1.toList == ((⟨#[103, 114, 97, 112, 104]⟩ : ByteArray)).toList) = true → ∃ y154 : Bool, digit_isGraph_R x2 y154 ∧ r = (y154, true)) ∧ (¬ ((x1.toList == ((⟨#[103, 114, 97, 112, 104]⟩ : ByteArray)).toList) = true) → (((x1.toList == ((⟨#[112, 114, 105, 110, 116]⟩ : ByteArray)).toList) = true → ∃ y162 : Bool, digit_isGraph_R x2 y162 ∧ ((y162 = true → r = (true, true)) ∧ (¬ (y162 = true) → r = ((decide ((x2.toNat : Int) = 32)), true)))) ∧ (¬ ((x1.toList == ((⟨#[112, 114, 105, 110, 116]⟩ : ByteArray)).toList) = true) → (((x1.toList == ((⟨#[112, 117, 110, 99, 116]⟩ : ByteArray)).toList) = true → ∃ y173 : Bool, digit_isGraph_R x2 y173 ∧ ((y173 = true → ∃ y176 : Bool, digit_isAlnum_R x2 y176 ∧ r = ((!y176), true)) ∧ (¬ (y173 = true) → r = (false, true)))) ∧ (¬ ((x1.toList == ((⟨#[112, 117, 110, 99, 116]⟩ : ByteArray)).toList) = true) → (((x1.toList == ((⟨#[120, 100, 105, 103, 105, 116]⟩ : ByteArray)).toList) = true → ∃ y188 : Bool, digit_isDigit_R x2 y188 ∧ ((y188 = true → r = (true, true)) ∧ (¬ (y188 = true) → ∃ y191 : Bool, digit_within_R x2 (65 : UInt8) (70 : UInt8) y191 ∧ ((y191 = true → r = (true, true)) ∧ (¬ (y191 = true) → ∃ y194 : Bool, digit_within_R x2 (97 : UInt8) (102 : UInt8) y194 ∧ r = (y194, true)))))) ∧ (¬ ((x1.toList == ((⟨#[120, 100, 105, 103, 105, 116]⟩ : ByteArray)).toList) = true) → r = (false, false)))))))))))))))))))))))))
set_option maxHeartbeats 4000000 in
theorem digit_Is_con (x1 : ByteArray) (x2 : UInt8) (r : Bool × Bool) (h : digit_Is_R x1 x2 r) : Con Try.prog 24 [.v (.string x1), .v (.int .u8 ((x2.toNat : Int)))] [] [] (fun rr bx tk => rr = .tup [.v (.bool r.1), .v (.bool r.2)] ∧ bx = [] ∧ tk = []) := by
  refine xenter Try.func24 rfl rfl fun g hg => ?_
  simp only [Try.ntmps24, slots]
  refine xseq ?_
  refine xregion ?_
  refine xvalP (pv_assign rfl) rfl rfl ?_
  refine xvalP (pv_assign rfl) rfl rfl ?_
  refine xnil ?_
  refine xthen ?_
  refine xseq ?_
  refine xseq ?_
  refine xregion ?_
  refine xvalP (pv_move rfl) rfl rfl ?_
  refine xnil ?_
  refine xthen ?_
  refine xblock ?_
  refine xseq ?_
  refine xregion ?_
  refine xvalP (pv_bin2 rfl rfl rfl) rfl rfl ?_
  refine xvalP (pv_assign rfl) rfl rfl ?_
  refine xnil ?_
  refine xthen ?_
  by_cases hp100 : (x1.toList == ((⟨#[117, 112, 112, 101, 114]⟩ : ByteArray)).toList) = true
  · replace h := h.1 hp100
    refine xcondT' hp100 rfl ?_
    refine xseq ?_
    refine xregion ?_
    refine xvalP (pv_move rfl) rfl rfl ?_
    obtain ⟨y102, h101, h⟩ := h
    refine xcall0 (digit_isUpper_con x2 _ h101) Try.func25 (by kernel_rfl) rfl (.cons rfl (.refl _) .nil) rfl rfl ?_
    refine xvalP (pv_assign rfl) rfl rfl ?_
    refine xvalP (pv_assign rfl) rfl rfl ?_
    refine xnil ?_
    refine xthen ?_
    refine xretc ?_
    refine xin_ret ?_
    refine xthen_ret ?_
    replace h := h.symm
    subst h
    exact xret2 hg rfl rfl (.refl _) rfl (.refl _) (SubM.of (.nil _) (.nil _)) ⟨rfl, rfl, rfl⟩
  · replace h := h.2 hp100
    refine xcondF' (b_f hp100) rfl ?_
    refine xseq ?_
    refine xregion ?_
    refine xvalP (pv_bin2 rfl rfl rfl) rfl rfl ?_
    refine xvalP (pv_assign rfl) rfl rfl ?_
    refine xnil ?_
    refine xthen ?_
    by_cases hp104 : (x1.toList == ((⟨#[108, 111, 119, 101, 114]⟩ : ByteArray)).toList) = true
    · replace h := h.1 hp104
      refine xcondT' hp104 rfl ?_
      refine xseq ?_
      refine xregion ?_
      refine xvalP (pv_move rfl) rfl rfl ?_
      obtain ⟨y106, h105, h⟩ := h
      refine xcall0 (digit_isLower_con x2 _ h105) Try.func26 (by kernel_rfl) rfl (.cons rfl (.refl _) .nil) rfl rfl ?_
      refine xvalP (pv_assign rfl) rfl rfl ?_
      refine xvalP (pv_assign rfl) rfl rfl ?_
      refine xnil ?_
      refine xthen ?_
      refine xretc ?_
      refine xin_ret ?_
      refine xthen_ret ?_
      replace h := h.symm
      subst h
      exact xret2 hg rfl rfl (.refl _) rfl (.refl _) (SubM.of (.nil _) (.nil _)) ⟨rfl, rfl, rfl⟩
    · replace h := h.2 hp104
      refine xcondF' (b_f hp104) rfl ?_
      refine xseq ?_
      refine xregion ?_
      refine xvalP (pv_bin2 rfl rfl rfl) rfl rfl ?_
      refine xvalP (pv_assign rfl) rfl rfl ?_
      refine xnil ?_
      refine xthen ?_
      by_cases hp108 : (x1.toList == ((⟨#[100, 105, 103, 105, 116]⟩ : ByteArray)).toList) = true
      · replace h := h.1 hp108
        refine xcondT' hp108 rfl ?_
        refine xseq ?_
        refine xregion ?_
        refine xvalP (pv_move rfl) rfl rfl ?_
        obtain ⟨y110, h109, h⟩ := h
        refine xcall0 (digit_isDigit_con x2 _ h109) Try.func27 (by kernel_rfl) rfl (.cons rfl (.refl _) .nil) rfl rfl ?_
        refine xvalP (pv_assign rfl) rfl rfl ?_
        refine xvalP (pv_assign rfl) rfl rfl ?_
        refine xnil ?_
        refine xthen ?_
        refine xretc ?_
        refine xin_ret ?_
        refine xthen_ret ?_
        replace h := h.symm
        subst h
        exact xret2 hg rfl rfl (.refl _) rfl (.refl _) (SubM.of (.nil _) (.nil _)) ⟨rfl, rfl, rfl⟩
      · replace h := h.2 hp108
        refine xcondF' (b_f hp108) rfl ?_
        refine xseq ?_
        refine xregion ?_
        refine xvalP (pv_bin2 rfl rfl rfl) rfl rfl ?_
        refine xvalP (pv_assign rfl) rfl rfl ?_
        refine xnil ?_
        refine xthen ?_
        by_cases hp112 : (x1.toList == ((⟨#[97, 108, 112, 104, 97]⟩ : ByteArray)).toList) = true
        · replace h := h.1 hp112
          refine xcondT' hp112 rfl ?_
          refine xseq ?_
          refine xregion ?_
          refine xvalP (pv_move rfl) rfl rfl ?_
          obtain ⟨y119, h118, h⟩ := h
          refine xcall0 (digit_isUpper_con x2 _ h118) Try.func25 (by kernel_rfl) rfl (.cons rfl (.refl _) .nil) rfl rfl ?_
          refine xvalP (pv_move rfl) rfl rfl ?_
          by_cases hp120 : y119 = true
          · replace h := h.1 hp120
            refine xsetB 23 hp120 rfl ?_
            refine xskip rfl rfl ?_
            refine xskip rfl rfl ?_
            refine xvalP (pv_pick rfl rfl) rfl rfl ?_
            refine xvalP (pv_assign rfl) rfl rfl ?_
            refine xvalP (pv_assign rfl) rfl rfl ?_
            refine xnil ?_
            refine xthen ?_
            refine xretc ?_
            refine xin_ret ?_
            refine xthen_ret ?_
            replace h := h.symm
            subst h
            exact xret2 hg rfl rfl (.refl _) rfl (.refl _) (SubM.of (.nil _) (.nil _)) ⟨rfl, rfl, rfl⟩
          · replace h := h.2 hp120
            refine xsetB 23 (b_f hp120) rfl ?_
            refine xvalP (pv_move rfl) rfl rfl ?_
            obtain ⟨y122, h121, h⟩ := h
            refine xcall0 (digit_isLower_con x2 _ h121) Try.func26 (by kernel_rfl) rfl (.cons rfl (.refl _) .nil) rfl rfl ?_
            refine xvalP (pv_pick rfl rfl) rfl rfl ?_
            refine xvalP (pv_assign rfl) rfl rfl ?_
            refine xvalP (pv_assign rfl) rfl rfl ?_
            refine xnil ?_
            refine xthen ?_
            refine xretc ?_
            refine xin_ret ?_
            refine xthen_ret ?_
            replace h := h.symm
            subst h
            exact xret2 hg rfl rfl (.refl _) rfl (.refl _) (SubM.of (.nil _) (.nil _)) ⟨rfl, rfl, rfl⟩
        · replace h := h.2 hp112
          refine xcondF' (b_f hp112) rfl ?_
          refine xseq ?_
          refine xregion ?_
          refine xvalP (pv_bin2 rfl rfl rfl) rfl rfl ?_
          refine xvalP (pv_assign rfl) rfl rfl ?_
          refine xnil ?_
          refine xthen ?_
          by_cases hp124 : (x1.toList == ((⟨#[97, 108, 110, 117, 109]⟩ : ByteArray)).toList) = true
          · replace h := h.1 hp124
            refine xcondT' hp124 rfl ?_
            refine xseq ?_
            refine xregion ?_
            refine xvalP (pv_move rfl) rfl rfl ?_
            obtain ⟨y126, h125, h⟩ := h
            refine xcall0 (digit_isAlnum_con x2 _ h125) Try.func28 (by kernel_rfl) rfl (.cons rfl (.refl _) .nil) rfl rfl ?_
            refine xvalP (pv_assign rfl) rfl rfl ?_
            refine xvalP (pv_assign rfl) rfl rfl ?_
            refine xnil ?_
            refine xthen ?_
            refine xretc ?_
            refine xin_ret ?_
            refine xthen_ret ?_
            replace h := h.symm
            subst h
            exact xret2 hg rfl rfl (.refl _) rfl (.refl _) (SubM.of (.nil _) (.nil _)) ⟨rfl, rfl, rfl⟩
          · replace h := h.2 hp124
            refine xcondF' (b_f hp124) rfl ?_
            refine xseq ?_
            refine xregion ?_
            refine xvalP (pv_bin2 rfl rfl rfl) rfl rfl ?_
            refine xvalP (pv_assign rfl) rfl rfl ?_
            refine xnil ?_
            refine xthen ?_
            by_cases hp128 : (x1.toList == ((⟨#[98, 108, 97, 110, 107]⟩ : ByteArray)).toList) = true
            · replace h := h.1 hp128
              refine xcondT' hp128 rfl ?_
              refine xseq ?_
              refine xregion ?_
              refine xvalP (pv_move rfl) rfl rfl ?_
              obtain ⟨y130, h129, h⟩ := h
              refine xcall0 (digit_isBlank_con x2 _ h129) Try.func29 (by kernel_rfl) rfl (.cons rfl (.refl _) .nil) rfl rfl ?_
              refine xvalP (pv_assign rfl) rfl rfl ?_
              refine xvalP (pv_assign rfl) rfl rfl ?_
              refine xnil ?_
              refine xthen ?_
              refine xretc ?_
              refine xin_ret ?_
              refine xthen_ret ?_
              replace h := h.symm
              subst h
              exact xret2 hg rfl rfl (.refl _) rfl (.refl _) (SubM.of (.nil _) (.nil _)) ⟨rfl, rfl, rfl⟩
            · replace h := h.2 hp128
              refine xcondF' (b_f hp128) rfl ?_
              refine xseq ?_
              refine xregion ?_
              refine xvalP (pv_bin2 rfl rfl rfl) rfl rfl ?_
              refine xvalP (pv_assign rfl) rfl rfl ?_
              refine xnil ?_
              refine xthen ?_
              by_cases hp132 : (x1.toList == ((⟨#[115, 112, 97, 99, 101]⟩ : ByteArray)).toList) = true
              · replace h := h.1 hp132
                refine xcondT' hp132 rfl ?_
                refine xseq ?_
                refine xregion ?_
                refine xvalP (pv_move rfl) rfl rfl ?_
                obtain ⟨y139, h138, h⟩ := h
                refine xcall0 (digit_isBlank_con x2 _ h138) Try.func29 (by kernel_rfl) rfl (.cons rfl (.refl _) .nil) rfl rfl ?_
                refine xvalP (pv_move rfl) rfl rfl ?_
                by_cases hp140 : y139 = true
                · replace h := h.1 hp140
                  refine xsetB 39 hp140 rfl ?_
                  refine xskip rfl rfl ?_
                  refine xskip rfl rfl ?_
                  refine xvalP (pv_pick rfl rfl) rfl rfl ?_
                  refine xvalP (pv_assign rfl) rfl rfl ?_
                  refine xvalP (pv_assign rfl) rfl rfl ?_
                  refine xnil ?_
                  refine xthen ?_
                  refine xretc ?_
                  refine xin_ret ?_
                  refine xthen_ret ?_
                  replace h := h.symm
                  subst h
                  exact xret2 hg rfl rfl (.refl _) rfl (.refl _) (SubM.of (.nil _) (.nil _)) ⟨rfl, rfl, rfl⟩
                · replace h := h.2 hp140
                  refine xsetB 39 (b_f hp140) rfl ?_
                  refine xvalP (pv_move rfl) rfl rfl ?_
                  obtain ⟨y142, h141, h⟩ := h
                  refine xcall0 (digit_within_con x2 (10 : UInt8) (13 : UInt8) _ h141) Try.func30 (by kernel_rfl) rfl (.cons rfl (.refl _) (.cons rfl (.refl _) (.cons rfl (.refl _) .nil))) rfl rfl ?_
                  refine xvalP (pv_pick rfl rfl) rfl rfl ?_
                  refine xvalP (pv_assign rfl) rfl rfl ?_
                  refine xvalP (pv_assign rfl) rfl rfl ?_
                  refine xnil ?_
                  refine xthen ?_
                  refine xretc ?_
                  refine xin_ret ?_
                  refine xthen_ret ?_
                  replace h := h.symm
                  subst h
                  exact xret2 hg rfl rfl (.refl _) rfl (.refl _) (SubM.of (.nil _) (.nil _)) ⟨rfl, rfl, rfl⟩
              · replace h := h.2 hp132
                refine xcondF' (b_f hp132) rfl ?_
                refine xseq ?_
                refine xregion ?_
                refine xvalP (pv_bin2 rfl rfl rfl) rfl rfl ?_
                refine xvalP (pv_assign rfl) rfl rfl ?_
                refine xnil ?_
                refine xthen ?_
                by_cases hp144 : (x1.toList == ((⟨#[99, 110, 116, 114, 108]⟩ : ByteArray)).toList) = true
                · replace h := h.1 hp144
                  refine xcondT' hp144 rfl ?_
                  refine xseq ?_
                  refine xregion ?_
                  refine xvalP (pv_move rfl) rfl rfl ?_
                  refine xvalP (pv_bin2 rfl rfl rfl) rfl rfl ?_
                  refine xvalP (pv_move rfl) rfl rfl ?_
                  by_cases hp149 : (x2.toNat : Int) < 32
                  · replace h := h.1 hp149
                    refine xsetB 47 (decide_eq_true hp149) rfl ?_
                    refine xskip rfl rfl ?_
                    refine xskip rfl rfl ?_
                    refine xvalP (pv_pick rfl rfl) rfl rfl ?_
                    refine xvalP (pv_assign rfl) rfl rfl ?_
                    refine xvalP (pv_assign rfl) rfl rfl ?_
                    refine xnil ?_
                    refine xthen ?_
                    refine xretc ?_
                    refine xin_ret ?_
                    refine xthen_ret ?_
                    replace h := h.symm
                    subst h
                    exact xret2 hg rfl rfl (.refl _) rfl (.refl _) (SubM.of (.nil _) (.nil _)) ⟨rfl, rfl, rfl⟩
                  · replace h := h.2 hp149
                    refine xsetB 47 (decide_eq_false hp149) rfl ?_
                    refine xvalP (pv_move rfl) rfl rfl ?_
                    refine xvalP (pv_bin2 rfl rfl rfl) rfl rfl ?_
                    refine xvalP (pv_pick rfl rfl) rfl rfl ?_
                    refine xvalP (pv_assign rfl) rfl rfl ?_
                    refine xvalP (pv_assign rfl) rfl rfl ?_
                    refine xnil ?_
                    refine xthen ?_
                    refine xretc ?_
                    refine xin_ret ?_
                    refine xthen_ret ?_
                    replace h := h.symm
                    subst h
                    exact xret2 hg rfl rfl (.refl _) rfl (.refl _) (SubM.of (.nil _) (.nil _)) ⟨rfl, rfl, rfl⟩
                · replace h := h.2 hp144
                  refine xcondF' (b_f hp144) rfl ?_
                  refine xseq ?_
                  refine xregion ?_
                  refine xvalP (pv_bin2 rfl rfl rfl) rfl rfl ?_
                  refine xvalP (pv_assign rfl) rfl rfl ?_
                  refine xnil ?_
                  refine xthen ?_
                  by_cases hp152 : (x1.toList == ((⟨#[103, 114, 97, 112, 104]⟩ : ByteArray)).toList) = true
                  · replace h := h.1 hp152
                    refine xcondT' hp152 rfl ?_
                    refine xseq ?_
                    refine xregion ?_
                    refine xvalP (pv_move rfl) rfl rfl ?_
                    obtain ⟨y154, h153, h⟩ := h
                    refine xcall0 (digit_isGraph_con x2 _ h153) Try.func31 (by kernel_rfl) rfl (.cons rfl (.refl _) .nil) rfl rfl ?_
                    refine xvalP (pv_assign rfl) rfl rfl ?_
                    refine xvalP (pv_assign rfl) rfl rfl ?_
                    refine xnil ?_
                    refine xthen ?_
                    refine xretc ?_
                    refine xin_ret ?_
                    refine xthen_ret ?_
                    replace h := h.symm
                    subst h
                    exact xret2 hg rfl rfl (.refl _) rfl (.refl _) (SubM.of (.nil _) (.nil _)) ⟨rfl, rfl, rfl⟩
                  · replace h := h.2 hp152
                    refine xcondF' (b_f hp152) rfl ?_
                    refine xseq ?_
                    refine xregion ?_
                    refine xvalP (pv_bin2 rfl rfl rfl) rfl rfl ?_
                    refine xvalP (pv_assign rfl) rfl rfl ?_
                    refine xnil ?_
                    refine xthen ?_
                    by_cases hp156 : (x1.toList == ((⟨#[112, 114, 105, 110, 116]⟩ : ByteArray)).toList) = true
                    · replace h := h.1 hp156
                      refine xcondT' hp156 rfl ?_
                      refine xseq ?_
                      refine xregion ?_
                      refine xvalP (pv_move rfl) rfl rfl ?_
                      obtain ⟨y162, h161, h⟩ := h
                      refine xcall0 (digit_isGraph_con x2 _ h161) Try.func31 (by kernel_rfl) rfl (.cons rfl (.refl _) .nil) rfl rfl ?_
                      refine xvalP (pv_move rfl) rfl rfl ?_
                      by_cases hp163 : y162 = true
                      · replace h := h.1 hp163
                        refine xsetB 59 hp163 rfl ?_
                        refine xskip rfl rfl ?_
                        refine xskip rfl rfl ?_
                        refine xvalP (pv_pick rfl rfl) rfl rfl ?_
                        refine xvalP (pv_assign rfl) rfl rfl ?_
                        refine xvalP (pv_assign rfl) rfl rfl ?_
                        refine xnil ?_
                        refine xthen ?_
                        refine xretc ?_
                        refine xin_ret ?_
                        refine xthen_ret ?_
                        replace h := h.symm
                        subst h
                        exact xret2 hg rfl rfl (.refl _) rfl (.refl _) (SubM.of (.nil _) (.nil _)) ⟨rfl, rfl, rfl⟩
                      · replace h := h.2 hp163
                        refine xsetB 59 (b_f hp163) rfl ?_
                        refine xvalP (pv_move rfl) rfl rfl ?_
                        refine xvalP (pv_bin2 rfl rfl rfl) rfl rfl ?_
                        refine xvalP (pv_pick rfl rfl) rfl rfl ?_
                        refine xvalP (pv_assign rfl) rfl rfl ?_
                        refine xvalP (pv_assign rfl) rfl rfl ?_
                        refine xnil ?_
                        refine xthen ?_
                        refine xretc ?_
                        refine xin_ret ?_
                        refine xthen_ret ?_
                        replace h := h.symm
                        subst h
                        exact xret2 hg rfl rfl (.refl _) rfl (.refl _) (SubM.of (.nil _) (.nil _)) ⟨rfl, rfl, rfl⟩
                    · replace h := h.2 hp156
                      refine xcondF' (b_f hp156) rfl ?_
                      refine xseq ?_
                      refine xregion ?_
                      refine xvalP (pv_bin2 rfl rfl rfl) rfl rfl ?_
                      refine xvalP (pv_assign rfl) rfl rfl ?_
                      refine xnil ?_
                      refine xthen ?_
                      by_cases hp166 : (x1.toList == ((⟨#[112, 117, 110, 99, 116]⟩ : ByteArray)).toList) = true
                      · replace h := h.1 hp166
                        refine xcondT' hp166 rfl ?_
                        refine xseq ?_
                        refine xregion ?_
                        refine xvalP (pv_move rfl) rfl rfl ?_
                        obtain ⟨y173, h172, h⟩ := h
                        refine xcall0 (digit_isGraph_con x2 _ h172) Try.func31 (by kernel_rfl) rfl (.cons rfl (.refl _) .nil) rfl rfl ?_
                        refine xvalP (pv_move rfl) rfl rfl ?_
                        by_cases hp174 : y173 = true
                        · replace h := h.1 hp174
                          refine xsetB 67 hp174 rfl ?_
                          refine xvalP (pv_move rfl) rfl rfl ?_
                          obtain ⟨y176, h175, h⟩ := h
                          refine xcall0 (digit_isAlnum_con x2 _ h175) Try.func28 (by kernel_rfl) rfl (.cons rfl (.refl _) .nil) rfl rfl ?_
                          refine xvalP (pv_not rfl) rfl rfl ?_
                          refine xvalP (pv_pick rfl rfl) rfl rfl ?_
                          refine xvalP (pv_assign rfl) rfl rfl ?_
                          refine xvalP (pv_assign rfl) rfl rfl ?_
                          refine xnil ?_
                          refine xthen ?_
                          refine xretc ?_
                          refine xin_ret ?_
                          refine xthen_ret ?_
                          replace h := h.symm
                          subst h
                          exact xret2 hg rfl rfl (.refl _) rfl (.refl _) (SubM.of (.nil _) (.nil _)) ⟨rfl, rfl, rfl⟩
                        · replace h := h.2 hp174
                          refine xsetB 67 (b_f hp174) rfl ?_
                          refine xskip rfl rfl ?_
                          refine xskip rfl rfl ?_
                          refine xskip rfl rfl ?_
                          refine xvalP (pv_pick rfl rfl) rfl rfl ?_
                          refine xvalP (pv_assign rfl) rfl rfl ?_
                          refine xvalP (pv_assign rfl) rfl rfl ?_
                          refine xnil ?_
                          refine xthen ?_
                          refine xretc ?_
                          refine xin_ret ?_
                          refine xthen_ret ?_
                          replace h := h.symm
                          subst h
                          exact xret2 hg rfl rfl (.refl _) rfl (.refl _) (SubM.of (.nil _) (.nil _)) ⟨rfl, rfl, rfl⟩
                      · replace h := h.2 hp166
                        refine xcondF' (b_f hp166) rfl ?_
                        refine xseq ?_
                        refine xregion ?_
                        refine xvalP (pv_bin2 rfl rfl rfl) rfl rfl ?_
                        refine xvalP (pv_assign rfl) rfl rfl ?_
                        refine xnil ?_
                        refine xthen ?_
                        by_cases hp178 : (x1.toList == ((⟨#[120, 100, 105, 103, 105, 116]⟩ : ByteArray)).toList) = true
                        · replace h := h.1 hp178
                          refine xcondT' hp178 rfl ?_
                          refine xseq ?_
                          refine xregion ?_
                          refine xvalP (pv_move rfl) rfl rfl ?_
                          obtain ⟨y188, h187, h⟩ := h
                          refine xcall0 (digit_isDigit_con x2 _ h187) Try.func27 (by kernel_rfl) rfl (.cons rfl (.refl _) .nil) rfl rfl ?_
                          refine xvalP (pv_move rfl) rfl rfl ?_
                          by_cases hp189 : y188 = true
                          · replace h := h.1 hp189
                            refine xsetB 76 hp189 rfl ?_
                            refine xskip rfl rfl ?_
                            refine xskip rfl rfl ?_
                            refine xvalP (pv_pick rfl rfl) rfl rfl ?_
                            refine xvalP (pv_move rfl) rfl rfl ?_
                            refine xskip rfl rfl ?_
                            refine xskip rfl rfl ?_
                            refine xvalP (pv_pick rfl rfl) rfl rfl ?_
                            refine xvalP (pv_assign rfl) rfl rfl ?_
                            refine xvalP (pv_assign rfl) rfl rfl ?_
                            refine xnil ?_
                            refine xthen ?_
                            refine xretc ?_
                            refine xin_ret ?_
                            refine xthen_ret ?_
                            replace h := h.symm
                            subst h
                            exact xret2 hg rfl rfl (.refl _) rfl (.refl _) (SubM.of (.nil _) (.nil _)) ⟨rfl, rfl, rfl⟩
                          · replace h := h.2 hp189
                            refine xsetB 76 (b_f hp189) rfl ?_
                            refine xvalP (pv_move rfl) rfl rfl ?_
                            obtain ⟨y191, h190, h⟩ := h
                            refine xcall0 (digit_within_con x2 (65 : UInt8) (70 : UInt8) _ h190) Try.func30 (by kernel_rfl) rfl (.cons rfl (.refl _) (.cons rfl (.refl _) (.cons rfl (.refl _) .nil))) rfl rfl ?_
                            refine xvalP (pv_pick rfl rfl) rfl rfl ?_
                            refine xvalP (pv_move rfl) rfl rfl ?_
                            by_cases hp192 : y191 = true
                            · replace h := h.1 hp192
                              refine xsetB 80 hp192 rfl ?_
                              refine xskip rfl rfl ?_
                              refine xskip rfl rfl ?_
                              refine xvalP (pv_pick rfl rfl) rfl rfl ?_
                              refine xvalP (pv_assign rfl) rfl rfl ?_
                              refine xvalP (pv_assign rfl) rfl rfl ?_
                              refine xnil ?_
                              refine xthen ?_
                              refine xretc ?_
                              refine xin_ret ?_
                              refine xthen_ret ?_
                              replace h := h.symm
                              subst h
                              exact xret2 hg rfl rfl (.refl _) rfl (.refl _) (SubM.of (.nil _) (.nil _)) ⟨rfl, rfl, rfl⟩
                            · replace h := h.2 hp192
                              refine xsetB 80 (b_f hp192) rfl ?_
                              refine xvalP (pv_move rfl) rfl rfl ?_
                              obtain ⟨y194, h193, h⟩ := h
                              refine xcall0 (digit_within_con x2 (97 : UInt8) (102 : UInt8) _ h193) Try.func30 (by kernel_rfl) rfl (.cons rfl (.refl _) (.cons rfl (.refl _) (.cons rfl (.refl _) .nil))) rfl rfl ?_
                              refine xvalP (pv_pick rfl rfl) rfl rfl ?_
                              refine xvalP (pv_assign rfl) rfl rfl ?_
                              refine xvalP (pv_assign rfl) rfl rfl ?_
                              refine xnil ?_
                              refine xthen ?_
                              refine xretc ?_
                              refine xin_ret ?_
                              refine xthen_ret ?_
                              replace h := h.symm
                              subst h
                              exact xret2 hg rfl rfl (.refl _) rfl (.refl _) (SubM.of (.nil _) (.nil _)) ⟨rfl, rfl, rfl⟩
                        · replace h := h.2 hp178
                          refine xcondF' (b_f hp178) rfl ?_
                          refine xskipc ?_
                          refine xin_normal ?_
                          refine xthen ?_
                          refine xseq ?_
                          refine xregion ?_
                          refine xvalP (pv_assign rfl) rfl rfl ?_
                          refine xvalP (pv_assign rfl) rfl rfl ?_
                          refine xnil ?_
                          refine xthen ?_
                          refine xretc ?_
                          replace h := h.symm
                          subst h
                          exact xret2 hg rfl rfl (.refl _) rfl (.refl _) (SubM.of (.nil _) (.nil _)) ⟨rfl, rfl, rfl⟩
end Go.Proofs.Ytjemjopjiohcoaa
