/- What functions' texts ask for, and the walks that show it (printed by a program). -/
import Derived.Test.YtjemjopjiohcoaaEq
namespace Go.Proofs.Ytjemjopjiohcoaa
abbrev E_palinode_api_Set (x : Arr 4 (UInt64)) : List Sd := ((List.map ew x.l).flatten)
instance : EncLen E_palinode_api_Set 4 := ⟨fun _ => (by first | rfl | (rw [seg_len]; done) | (simp only [seg_len, cellsS, List.length_append, List.length_cons, List.length_nil]; done) | (simp only [seg_len, cellsS, List.length_append, List.length_cons, List.length_nil]; rfl))⟩
/-- class.with -/
def class_with_R (s1 : Arr 4 (UInt64)) (c2 : UInt8) (r : (Arr 4 (UInt64))) : Prop :=
  (64 : Int) ≠ 0 ∧ ∃ c4 : UInt8, (c4.toNat : Int) = IntKind.u8.wrap (((c2.toNat : Int)).tdiv 64) ∧ (0 ≤ ((c4.toNat : Int) : Int) ∧ ((c4.toNat : Int) : Int) < 4) ∧ ∃ y6 : UInt64, s1.l[((c4.toNat : Int) : Int).toNat]? = some y6 ∧ (64 : Int) ≠ 0 ∧ ∃ c8 : UInt8, (c8.toNat : Int) = (((c2.toNat : Int)).tmod 64) ∧ (0 : Int) ≤ (c8.toNat : Int) ∧ ∃ c10 : UInt64, (c10.toNat : Int) = IntKind.u64.wrap ((1 : Int) * 2 ^ (min ((c8.toNat : Int) : Int).toNat IntKind.u64.bits)) ∧ ∃ c12 : UInt64, (c12.toNat : Int) = IntKind.u64.wrap (BitVec.ofInt IntKind.u64.bits (y6.toNat : Int) ||| BitVec.ofInt IntKind.u64.bits (c10.toNat : Int)).toNat ∧ (0 ≤ ((c4.toNat : Int) : Int) ∧ ((c4.toNat : Int) : Int) < 4) ∧ ∃ y14 : UInt64, s1.l[((c4.toNat : Int) : Int).toNat]? = some y14 ∧ r = (Arr.set s1 ((c4.toNat : Int) : Int).toNat c12)
set_option maxHeartbeats 4000000 in
theorem class_with_con (s1 : Arr 4 (UInt64)) (c2 : UInt8) (r : (Arr 4 (UInt64))) (h : class_with_R s1 c2 r) : Con Try.prog 22 [.agg ((List.map ew s1.l).flatten), .v (.int .u8 ((c2.toNat : Int)))] [] [] (Ret (.agg ((List.map ew r.l).flatten))) := by
  refine xenter Try.func22 rfl rfl fun g hg => ?_
  simp only [Try.ntmps22, slots]
  refine xseq ?_
  refine xregion ?_
  refine xbox rfl rfl rfl rfl fun b2 => ?_
  refine xalloc InfC.h rfl rfl fun b4 => ?_
  refine xreb 0 ((List.map ew ((Arr.rep 4 (0 : UInt64))).l).flatten) rfl rfl ?_
  refine xnil ?_
  refine xthen ?_
  refine xseq ?_
  refine xregion ?_
  refine xvalP (pv_move rfl) rfl rfl ?_
  obtain ⟨h3, h⟩ := h
  obtain ⟨c4, h3r, h⟩ := h
  refine xvalP (pv_quoW h3 h3r rfl rfl rfl) rfl rfl ?_
  obtain ⟨h5, h⟩ := h
  obtain ⟨y6, h5b, h⟩ := h
  refine xvalP (pv_indexAddrBA h5 UndC.h ShpC.h rfl rfl) rfl rfl ?_
  refine xval (qv_loadA (f := ew) (a := s1) (k := 1) (off := 0) (i := ((c4.toNat : Int) : Int).toNat) 1 [] [] h5b (by first | rfl | (simp only [cellsS, List.append_assoc, List.nil_append, List.append_nil, List.cons_append]; done) | (simp only [cellsS, List.append_assoc, List.nil_append, List.append_nil, List.cons_append]; rfl)) (by first | rfl | (simp only [seg_len, List.length_append, List.length_cons, List.length_nil]; omega) | omega) (by decide) rfl ShpC.h rfl rfl) rfl rfl ?_
  refine xvalP (pv_move rfl) rfl rfl ?_
  obtain ⟨h7, h⟩ := h
  obtain ⟨c8, h7r, h⟩ := h
  refine xvalP (pv_remW h7 h7r rfl rfl rfl) rfl rfl ?_
  obtain ⟨h9, h⟩ := h
  obtain ⟨c10, h9r, h⟩ := h
  refine xvalP (pv_shlW h9 h9r rfl rfl) rfl rfl ?_
  obtain ⟨c12, h11, h⟩ := h
  refine xvalP (pv_wr h11 rfl rfl rfl) rfl rfl ?_
  obtain ⟨h13, h⟩ := h
  obtain ⟨y14, h13b, h⟩ := h
  refine xvalP (pv_indexAddrBA h13 UndC.h ShpC.h rfl rfl) rfl rfl ?_
  refine xstoreA (f := ew) (a := s1) (k := 1) (off := 0) (i := ((c4.toNat : Int) : Int).toNat) 1 [] [] c12 h13b (by first | rfl | (simp only [cellsS, List.append_assoc, List.nil_append, List.append_nil, List.cons_append]; done) | (simp only [cellsS, List.append_assoc, List.nil_append, List.append_nil, List.cons_append]; rfl)) (by first | rfl | (simp only [seg_len, List.length_append, List.length_cons, List.length_nil]; omega) | omega) (by decide) ShpC.h rfl rfl rfl rfl (by first | rfl | (rw [seg_len]; done) | (simp only [seg_len, cellsS, List.length_append, List.length_cons, List.length_nil]; done) | (simp only [seg_len, cellsS, List.length_append, List.length_cons, List.length_nil]; rfl)) rfl rfl ?_
  refine xreb 1 ((List.map ew ((Arr.set s1 ((c4.toNat : Int) : Int).toNat c12)).l).flatten) rfl (by first | rfl | (simp only [cellsS, List.append_assoc, List.nil_append, List.append_nil, List.cons_append]; done) | (simp only [cellsS, List.append_assoc, List.nil_append, List.append_nil, List.cons_append]; rfl)) ?_
  refine xnil ?_
  refine xthen ?_
  refine xseq ?_
  refine xregion ?_
  refine xval (qv_loadP 1 [] ((List.map ew ((Arr.set s1 ((c4.toNat : Int) : Int).toNat c12)).l).flatten) [] (by first | rfl | (simp only [cellsS, List.append_assoc, List.nil_append, List.append_nil, List.cons_append]; done) | (simp only [cellsS, List.append_assoc, List.nil_append, List.append_nil, List.cons_append]; rfl)) (by first | rfl | (rw [seg_len]; done) | (simp only [seg_len, cellsS, List.length_append, List.length_cons, List.length_nil]; done) | (simp only [seg_len, cellsS, List.length_append, List.length_cons, List.length_nil]; rfl)) (by first | rfl | (rw [seg_len]; done) | (simp only [seg_len, cellsS, List.length_append, List.length_cons, List.length_nil]; done) | (simp only [seg_len, cellsS, List.length_append, List.length_cons, List.length_nil]; rfl)) (part_all (seg_lenE (by rfl))) ShpC.h rfl rfl) rfl rfl ?_
  refine xstoreP 0 [] ((List.map ew ((Arr.rep 4 (0 : UInt64))).l).flatten) [] (by first | rfl | (simp only [cellsS, List.append_assoc, List.nil_append, List.append_nil, List.cons_append]; done) | (simp only [cellsS, List.append_assoc, List.nil_append, List.append_nil, List.cons_append]; rfl)) (by first | rfl | (rw [seg_len]; done) | (simp only [seg_len, cellsS, List.length_append, List.length_cons, List.length_nil]; done) | (simp only [seg_len, cellsS, List.length_append, List.length_cons, List.length_nil]; rfl)) (by first | rfl | (rw [seg_len]; done) | (simp only [seg_len, cellsS, List.length_append, List.length_cons, List.length_nil]; done) | (simp only [seg_len, cellsS, List.length_append, List.length_cons, List.length_nil]; rfl)) ShpC.h rfl rfl rfl rfl (by first | rfl | (rw [seg_len]; done) | (simp only [seg_len, cellsS, List.length_append, List.length_cons, List.length_nil]; done) | (simp only [seg_len, cellsS, List.length_append, List.length_cons, List.length_nil]; rfl)) rfl ?_
  refine xreb 0 ((List.map ew ((Arr.set s1 ((c4.toNat : Int) : Int).toNat c12)).l).flatten) rfl (by first | rfl | (simp only [cellsS, List.append_assoc, List.nil_append, List.append_nil, List.cons_append]; done) | (simp only [cellsS, List.append_assoc, List.nil_append, List.append_nil, List.cons_append]; rfl)) ?_
  refine xnil ?_
  refine xthen ?_
  refine xretc ?_
  replace h := h.symm
  subst h
  exact xretL (rs := [.cell 4 24]) (ss := [.agg ((List.map ew ((Arr.set s1 ((c4.toNat : Int) : Int).toNat c12)).l).flatten)]) hg rfl (by refine RetL.cell 0 ShpC.h rfl rfl (part_midE (pre := []) (mid := ((List.map ew ((Arr.set s1 ((c4.toNat : Int) : Int).toNat c12)).l).flatten)) (post := []) (by first | rfl | (simp only [cellsS, List.append_assoc, List.nil_append, List.append_nil, List.cons_append]; done) | (simp only [cellsS, List.append_assoc, List.nil_append, List.append_nil, List.cons_append]; rfl)) (by first | rfl | (rw [seg_len]; done) | (simp only [seg_len, cellsS, List.length_append, List.length_cons, List.length_nil]; done) | (simp only [seg_len, cellsS, List.length_append, List.length_cons, List.length_nil]; rfl)) (by first | rfl | (rw [seg_len]; done) | (simp only [seg_len, cellsS, List.length_append, List.length_cons, List.length_nil]; done) | (simp only [seg_len, cellsS, List.length_append, List.length_cons, List.length_nil]; rfl)) (part_all (seg_lenE (by rfl)))) (len_midE (pre := []) (mid := ((List.map ew ((Arr.set s1 ((c4.toNat : Int) : Int).toNat c12)).l).flatten)) (post := []) (by first | rfl | (simp only [cellsS, List.append_assoc, List.nil_append, List.append_nil, List.cons_append]; done) | (simp only [cellsS, List.append_assoc, List.nil_append, List.append_nil, List.cons_append]; rfl)) (by first | rfl | (rw [seg_len]; done) | (simp only [seg_len, cellsS, List.length_append, List.length_cons, List.length_nil]; done) | (simp only [seg_len, cellsS, List.length_append, List.length_cons, List.length_nil]; rfl)) (by first | rfl | (rw [seg_len]; done) | (simp only [seg_len, cellsS, List.length_append, List.length_cons, List.length_nil]; done) | (simp only [seg_len, cellsS, List.length_append, List.length_cons, List.length_nil]; rfl))) (by first | with_reducible exact Wk.refl _ | exact Wk.nil_own _ | exact Wk.nil_pl _ | with_reducible exact Wk.tok _ _ _ | exact Wk.tok _ _ _ | exact .eq rfl) ?_; exact RetL.nil) (SubM.of (.nil _) (.nil _)) ⟨rfl, rfl, rfl⟩
/-- class.Of -/
def class_Of_l1 (l1 : List UInt8) (ag1 : (Int × (Arr 4 (UInt64))) → Prop) (x38 : Int) (f39 : Arr 4 (UInt64)) (r : (Arr 4 (UInt64))) : Prop :=
  ((x38 < (l1.length : Int) → 0 ≤ (x38 : Int) ∧ ∃ y51 : UInt8, l1[(x38 : Int).toNat]? = some y51 ∧ ∃ y54 : (Arr 4 (UInt64)), class_with_R f39 y51 y54 ∧ InR (x38 + 1) ∧ ag1 ((x38 + 1), y54)) ∧ (¬ (x38 < (l1.length : Int)) → r = f39))
def class_Of_R (l1 : List UInt8) (r : (Arr 4 (UInt64))) : Prop :=
  LoopR (fun ag1 s => class_Of_l1 l1 ag1 s.1 s.2 r) (0, (Arr.rep 4 (0 : UInt64)))
set_option maxHeartbeats 4000000 in
theorem class_Of_con (l1 : List UInt8) (r : (Arr 4 (UInt64))) (h : class_Of_R l1 r) : Con Try.prog 16 [.sl 1 none (List.map eb l1)] [] [] (Ret (.agg ((List.map ew r.l).flatten))) := by
  refine xenter Try.func16 rfl rfl fun g hg => ?_
  simp only [Try.ntmps16, slots]
  refine xseq ?_
  refine xregion ?_
  refine xalloc InfC.h rfl rfl fun b2 => ?_
  refine xreb 0 ((List.map ew ((Arr.rep 4 (0 : UInt64))).l).flatten) rfl rfl ?_
  refine xnil ?_
  refine xthen ?_
  refine xseq ?_
  refine xregion ?_
  refine xalloc InfC.h rfl rfl fun b3 => ?_
  refine xreb 0 ((List.map ew ((Arr.rep 4 (0 : UInt64))).l).flatten) rfl rfl ?_
  refine xnil ?_
  refine xthen ?_
  refine xseq ?_
  refine xseq ?_
  refine xregion ?_
  refine xvalP (pv_move rfl) rfl rfl ?_
  refine xvalP (pv_lenM UndC.h rfl) rfl rfl ?_
  refine xvalP (pv_move rfl) rfl rfl ?_
  refine xnil ?_
  refine xthen ?_
  refine xblock ?_
  obtain ⟨Inv, ⟨m0, hI⟩, hS⟩ := h
  refine xloop (fun σ m => ∃ (x38 : Int), ∃ (f39 : Arr 4 (UInt64)), Inv (x38, f39) m ∧ σ = ⟨[(2, .v (.pointer (some ⟨b2, 0, none⟩))), (3, .v (.pointer (some ⟨b3, 0, none⟩))), (6, .sl 1 none (List.map eb l1)), (7, .v (.int .i64 ((l1.length : Int)))), (8, .v (.int .i64 x38))], [⟨b3, 24, ((List.map ew f39.l).flatten)⟩, ⟨b2, 24, ((List.map ew ((Arr.rep 4 (0 : UInt64))).l).flatten)⟩], []⟩) ⟨0, (Arr.rep 4 (0 : UInt64)), hI, rfl⟩ ⟨(.cons rfl (.refl _) (.cons rfl (.refl _) (.cons rfl (.refl _) (.cons rfl (.refl _) (.cons rfl (.refl _) (.nil _)))))), (SubM.of (.keep rfl rfl (.refl _) (.keep rfl rfl (.refl _) (.nil _))) (.nil _))⟩ ?_
  rintro _ m ⟨x38, f39, hI, rfl⟩
  obtain ⟨ag1, hag1, h⟩ : ∃ ag, (∀ s', ag s' → ∃ m', m' < m ∧ Inv s' m') ∧ class_Of_l1 l1 ag x38 f39 r := ⟨_, fun _ h => h, hS (x38, f39) _ hI⟩
  clear hS hI
  refine xseq ?_
  refine xregion ?_
  refine xvalP (pv_bin2 rfl rfl rfl) rfl rfl ?_
  refine xnil ?_
  refine xthen ?_
  refine xseq ?_
  by_cases hp50 : x38 < (l1.length : Int)
  · replace h := h.1 hp50
    refine xcondT' (decide_eq_true hp50) rfl ?_
    refine xskipc ?_
    refine xthen ?_
    refine xseq ?_
    refine xblock ?_
    refine xseq ?_
    refine xregion ?_
    obtain ⟨h52a, h⟩ := h
    obtain ⟨y51, h52b, h⟩ := h
    refine xvalP (pv_indexAddrM h52a h52b UndC.h ShpC.h rfl rfl) rfl rfl ?_
    refine xval (qv_load ShpC.h rfl rfl rfl) rfl rfl ?_
    refine xvalP (pv_assign rfl) rfl rfl ?_
    refine xnil ?_
    refine xthen ?_
    refine xregion ?_
    refine xval (qv_loadP 0 [] ((List.map ew f39.l).flatten) [] (by first | rfl | (simp only [cellsS, List.append_assoc, List.nil_append, List.append_nil, List.cons_append]; done) | (simp only [cellsS, List.append_assoc, List.nil_append, List.append_nil, List.cons_append]; rfl)) (by first | rfl | (rw [seg_len]; done) | (simp only [seg_len, cellsS, List.length_append, List.length_cons, List.length_nil]; done) | (simp only [seg_len, cellsS, List.length_append, List.length_cons, List.length_nil]; rfl)) (by first | rfl | (rw [seg_len]; done) | (simp only [seg_len, cellsS, List.length_append, List.length_cons, List.length_nil]; done) | (simp only [seg_len, cellsS, List.length_append, List.length_cons, List.length_nil]; rfl)) (part_all (seg_lenE (by rfl))) ShpC.h rfl rfl) rfl rfl ?_
    refine xvalP (pv_move rfl) rfl rfl ?_
    obtain ⟨y54, h53, h⟩ := h
    refine xcall0 (class_with_con f39 y51 _ h53) Try.func22 (by kernel_rfl) rfl (.cons rfl (.refl _) (.cons rfl (.refl _) .nil)) rfl rfl ?_
    refine xstoreP 0 [] ((List.map ew f39.l).flatten) [] (by first | rfl | (simp only [cellsS, List.append_assoc, List.nil_append, List.append_nil, List.cons_append]; done) | (simp only [cellsS, List.append_assoc, List.nil_append, List.append_nil, List.cons_append]; rfl)) (by first | rfl | (rw [seg_len]; done) | (simp only [seg_len, cellsS, List.length_append, List.length_cons, List.length_nil]; done) | (simp only [seg_len, cellsS, List.length_append, List.length_cons, List.length_nil]; rfl)) (by first | rfl | (rw [seg_len]; done) | (simp only [seg_len, cellsS, List.length_append, List.length_cons, List.length_nil]; done) | (simp only [seg_len, cellsS, List.length_append, List.length_cons, List.length_nil]; rfl)) ShpC.h rfl rfl rfl rfl (by first | rfl | (rw [seg_len]; done) | (simp only [seg_len, cellsS, List.length_append, List.length_cons, List.length_nil]; done) | (simp only [seg_len, cellsS, List.length_append, List.length_cons, List.length_nil]; rfl)) rfl ?_
    refine xreb 0 ((List.map ew y54.l).flatten) rfl (by first | rfl | (simp only [cellsS, List.append_assoc, List.nil_append, List.append_nil, List.cons_append]; done) | (simp only [cellsS, List.append_assoc, List.nil_append, List.append_nil, List.cons_append]; rfl)) ?_
    refine xnil ?_
    refine xin_normal ?_
    refine xthen ?_
    refine xregion ?_
    obtain ⟨h55, h⟩ := h
    refine xvalP (pv_addI h55 rfl rfl) rfl rfl ?_
    refine xvalP (pv_move rfl) rfl rfl ?_
    refine xnil ?_
    obtain ⟨m', hm, hI⟩ := hag1 _ h
    exact xagain ⟨(x38 + 1), y54, hI, rfl⟩ hm ⟨(.cons rfl (.refl _) (.cons rfl (.refl _) (.cons rfl (.refl _) (.cons rfl (.refl _) (.cons rfl (.refl _) (.nil _)))))), (SubM.of (.keep rfl rfl (.refl _) (.keep rfl rfl (.refl _) (.nil _))) (.nil _))⟩
  · replace h := h.2 hp50
    refine xcondF' (decide_eq_false hp50) rfl ?_
    refine xexit ?_
    refine xthen_exit ?_
    refine xthen_exit ?_
    refine xin_same rfl ?_
    refine xthen ?_
    refine xseq ?_
    refine xregion ?_
    refine xval (qv_loadP 0 [] ((List.map ew f39.l).flatten) [] (by first | rfl | (simp only [cellsS, List.append_assoc, List.nil_append, List.append_nil, List.cons_append]; done) | (simp only [cellsS, List.append_assoc, List.nil_append, List.append_nil, List.cons_append]; rfl)) (by first | rfl | (rw [seg_len]; done) | (simp only [seg_len, cellsS, List.length_append, List.length_cons, List.length_nil]; done) | (simp only [seg_len, cellsS, List.length_append, List.length_cons, List.length_nil]; rfl)) (by first | rfl | (rw [seg_len]; done) | (simp only [seg_len, cellsS, List.length_append, List.length_cons, List.length_nil]; done) | (simp only [seg_len, cellsS, List.length_append, List.length_cons, List.length_nil]; rfl)) (part_all (seg_lenE (by rfl))) ShpC.h rfl rfl) rfl rfl ?_
    refine xstoreP 1 [] ((List.map ew ((Arr.rep 4 (0 : UInt64))).l).flatten) [] (by first | rfl | (simp only [cellsS, List.append_assoc, List.nil_append, List.append_nil, List.cons_append]; done) | (simp only [cellsS, List.append_assoc, List.nil_append, List.append_nil, List.cons_append]; rfl)) (by first | rfl | (rw [seg_len]; done) | (simp only [seg_len, cellsS, List.length_append, List.length_cons, List.length_nil]; done) | (simp only [seg_len, cellsS, List.length_append, List.length_cons, List.length_nil]; rfl)) (by first | rfl | (rw [seg_len]; done) | (simp only [seg_len, cellsS, List.length_append, List.length_cons, List.length_nil]; done) | (simp only [seg_len, cellsS, List.length_append, List.length_cons, List.length_nil]; rfl)) ShpC.h rfl rfl rfl rfl (by first | rfl | (rw [seg_len]; done) | (simp only [seg_len, cellsS, List.length_append, List.length_cons, List.length_nil]; done) | (simp only [seg_len, cellsS, List.length_append, List.length_cons, List.length_nil]; rfl)) rfl ?_
    refine xreb 1 ((List.map ew f39.l).flatten) rfl (by first | rfl | (simp only [cellsS, List.append_assoc, List.nil_append, List.append_nil, List.cons_append]; done) | (simp only [cellsS, List.append_assoc, List.nil_append, List.append_nil, List.cons_append]; rfl)) ?_
    refine xnil ?_
    refine xthen ?_
    refine xretc ?_
    replace h := h.symm
    subst h
    exact xretL (rs := [.cell 2 24]) (ss := [.agg ((List.map ew f39.l).flatten)]) hg rfl (by refine RetL.cell 1 ShpC.h rfl rfl (part_midE (pre := []) (mid := ((List.map ew f39.l).flatten)) (post := []) (by first | rfl | (simp only [cellsS, List.append_assoc, List.nil_append, List.append_nil, List.cons_append]; done) | (simp only [cellsS, List.append_assoc, List.nil_append, List.append_nil, List.cons_append]; rfl)) (by first | rfl | (rw [seg_len]; done) | (simp only [seg_len, cellsS, List.length_append, List.length_cons, List.length_nil]; done) | (simp only [seg_len, cellsS, List.length_append, List.length_cons, List.length_nil]; rfl)) (by first | rfl | (rw [seg_len]; done) | (simp only [seg_len, cellsS, List.length_append, List.length_cons, List.length_nil]; done) | (simp only [seg_len, cellsS, List.length_append, List.length_cons, List.length_nil]; rfl)) (part_all (seg_lenE (by rfl)))) (len_midE (pre := []) (mid := ((List.map ew f39.l).flatten)) (post := []) (by first | rfl | (simp only [cellsS, List.append_assoc, List.nil_append, List.append_nil, List.cons_append]; done) | (simp only [cellsS, List.append_assoc, List.nil_append, List.append_nil, List.cons_append]; rfl)) (by first | rfl | (rw [seg_len]; done) | (simp only [seg_len, cellsS, List.length_append, List.length_cons, List.length_nil]; done) | (simp only [seg_len, cellsS, List.length_append, List.length_cons, List.length_nil]; rfl)) (by first | rfl | (rw [seg_len]; done) | (simp only [seg_len, cellsS, List.length_append, List.length_cons, List.length_nil]; done) | (simp only [seg_len, cellsS, List.length_append, List.length_cons, List.length_nil]; rfl))) (by first | with_reducible exact Wk.refl _ | exact Wk.nil_own _ | exact Wk.nil_pl _ | with_reducible exact Wk.tok _ _ _ | exact Wk.tok _ _ _ | exact .eq rfl) ?_; exact RetL.nil) (SubM.of (.nil _) (.nil _)) ⟨rfl, rfl, rfl⟩
/-- class.Not -/
def class_Not_l1 (ag1 : (Int × (Arr 4 (UInt64))) → Prop) (x44 : Int) (f45 : Arr 4 (UInt64)) (r : (Arr 4 (UInt64))) : Prop :=
  ((x44 < 4 → (0 ≤ (x44 : Int) ∧ (x44 : Int) < 4) ∧ ∃ y60 : UInt64, f45.l[(x44 : Int).toNat]? = some y60 ∧ ∃ c62 : UInt64, (c62.toNat : Int) = IntKind.u64.wrap (BitVec.ofInt IntKind.u64.bits IntKind.u64.max ^^^ BitVec.ofInt IntKind.u64.bits (y60.toNat : Int)).toNat ∧ (0 ≤ (x44 : Int) ∧ (x44 : Int) < 4) ∧ ∃ y64 : UInt64, f45.l[(x44 : Int).toNat]? = some y64 ∧ InR (x44 + 1) ∧ ag1 ((x44 + 1), (Arr.set f45 (x44 : Int).toNat c62))) ∧ (¬ (x44 < 4) → r = f45))
def class_Not_R (s1 : Arr 4 (UInt64)) (r : (Arr 4 (UInt64))) : Prop :=
  LoopR (fun ag1 s => class_Not_l1 ag1 s.1 s.2 r) (0, s1)
set_option maxHeartbeats 4000000 in
theorem class_Not_con (s1 : Arr 4 (UInt64)) (r : (Arr 4 (UInt64))) (h : class_Not_R s1 r) : Con Try.prog 10 [.agg ((List.map ew s1.l).flatten)] [] [] (Ret (.agg ((List.map ew r.l).flatten))) := by
  refine xenter Try.func10 rfl rfl fun g hg => ?_
  simp only [Try.ntmps10, slots]
  refine xseq ?_
  refine xregion ?_
  refine xbox rfl rfl rfl rfl fun b1 => ?_
  refine xalloc InfC.h rfl rfl fun b2 => ?_
  refine xreb 0 ((List.map ew ((Arr.rep 4 (0 : UInt64))).l).flatten) rfl rfl ?_
  refine xnil ?_
  refine xthen ?_
  refine xseq ?_
  refine xseq ?_
  refine xregion ?_
  refine xvalP (pv_move rfl) rfl rfl ?_
  refine xnil ?_
  refine xthen ?_
  refine xblock ?_
  obtain ⟨Inv, ⟨m0, hI⟩, hS⟩ := h
  refine xloop (fun σ m => ∃ (x44 : Int), ∃ (f45 : Arr 4 (UInt64)), Inv (x44, f45) m ∧ σ = ⟨[(1, .v (.pointer (some ⟨b1, 0, none⟩))), (2, .v (.pointer (some ⟨b2, 0, none⟩))), (4, .v (.int .i64 x44))], [⟨b2, 24, ((List.map ew ((Arr.rep 4 (0 : UInt64))).l).flatten)⟩, ⟨b1, 24, ((List.map ew f45.l).flatten)⟩], []⟩) ⟨0, s1, hI, rfl⟩ ⟨(.cons rfl (.refl _) (.cons rfl (.refl _) (.cons rfl (.refl _) (.nil _)))), (SubM.of (.keep rfl rfl (.refl _) (.keep rfl rfl (.refl _) (.nil _))) (.nil _))⟩ ?_
  rintro _ m ⟨x44, f45, hI, rfl⟩
  obtain ⟨ag1, hag1, h⟩ : ∃ ag, (∀ s', ag s' → ∃ m', m' < m ∧ Inv s' m') ∧ class_Not_l1 ag x44 f45 r := ⟨_, fun _ h => h, hS (x44, f45) _ hI⟩
  clear hS hI
  refine xseq ?_
  refine xregion ?_
  refine xvalP (pv_bin2 rfl rfl rfl) rfl rfl ?_
  refine xnil ?_
  refine xthen ?_
  refine xseq ?_
  by_cases hp58 : x44 < 4
  · replace h := h.1 hp58
    refine xcondT' (decide_eq_true hp58) rfl ?_
    refine xskipc ?_
    refine xthen ?_
    refine xseq ?_
    refine xblock ?_
    refine xseq ?_
    refine xregion ?_
    refine xvalP (pv_move rfl) rfl rfl ?_
    refine xvalP (pv_assign rfl) rfl rfl ?_
    refine xnil ?_
    refine xthen ?_
    refine xregion ?_
    refine xvalP (pv_move rfl) rfl rfl ?_
    refine xvalP (pv_move rfl) rfl rfl ?_
    obtain ⟨h59, h⟩ := h
    obtain ⟨y60, h59b, h⟩ := h
    refine xvalP (pv_indexAddrBA h59 UndC.h ShpC.h rfl rfl) rfl rfl ?_
    refine xval (qv_loadA (f := ew) (a := f45) (k := 1) (off := 0) (i := (x44 : Int).toNat) 1 [] [] h59b (by first | rfl | (simp only [cellsS, List.append_assoc, List.nil_append, List.append_nil, List.cons_append]; done) | (simp only [cellsS, List.append_assoc, List.nil_append, List.append_nil, List.cons_append]; rfl)) (by first | rfl | (simp only [seg_len, List.length_append, List.length_cons, List.length_nil]; omega) | omega) (by decide) rfl ShpC.h rfl rfl) rfl rfl ?_
    obtain ⟨c62, h61, h⟩ := h
    refine xvalP (pv_xorU h61 rfl) rfl rfl ?_
    obtain ⟨h63, h⟩ := h
    obtain ⟨y64, h63b, h⟩ := h
    refine xvalP (pv_indexAddrBA h63 UndC.h ShpC.h rfl rfl) rfl rfl ?_
    refine xstoreA (f := ew) (a := f45) (k := 1) (off := 0) (i := (x44 : Int).toNat) 1 [] [] c62 h63b (by first | rfl | (simp only [cellsS, List.append_assoc, List.nil_append, List.append_nil, List.cons_append]; done) | (simp only [cellsS, List.append_assoc, List.nil_append, List.append_nil, List.cons_append]; rfl)) (by first | rfl | (simp only [seg_len, List.length_append, List.length_cons, List.length_nil]; omega) | omega) (by decide) ShpC.h rfl rfl rfl rfl (by first | rfl | (rw [seg_len]; done) | (simp only [seg_len, cellsS, List.length_append, List.length_cons, List.length_nil]; done) | (simp only [seg_len, cellsS, List.length_append, List.length_cons, List.length_nil]; rfl)) rfl rfl ?_
    refine xreb 1 ((List.map ew ((Arr.set f45 (x44 : Int).toNat c62)).l).flatten) rfl (by first | rfl | (simp only [cellsS, List.append_assoc, List.nil_append, List.append_nil, List.cons_append]; done) | (simp only [cellsS, List.append_assoc, List.nil_append, List.append_nil, List.cons_append]; rfl)) ?_
    refine xnil ?_
    refine xin_normal ?_
    refine xthen ?_
    refine xregion ?_
    obtain ⟨h65, h⟩ := h
    refine xvalP (pv_addI h65 rfl rfl) rfl rfl ?_
    refine xvalP (pv_move rfl) rfl rfl ?_
    refine xnil ?_
    obtain ⟨m', hm, hI⟩ := hag1 _ h
    exact xagain ⟨(x44 + 1), (Arr.set f45 (x44 : Int).toNat c62), hI, rfl⟩ hm ⟨(.cons rfl (.refl _) (.cons rfl (.refl _) (.cons rfl (.refl _) (.nil _)))), (SubM.of (.keep rfl rfl (.refl _) (.keep rfl rfl (.refl _) (.nil _))) (.nil _))⟩
  · replace h := h.2 hp58
    refine xcondF' (decide_eq_false hp58) rfl ?_
    refine xexit ?_
    refine xthen_exit ?_
    refine xthen_exit ?_
    refine xin_same rfl ?_
    refine xthen ?_
    refine xseq ?_
    refine xregion ?_
    refine xval (qv_loadP 1 [] ((List.map ew f45.l).flatten) [] (by first | rfl | (simp only [cellsS, List.append_assoc, List.nil_append, List.append_nil, List.cons_append]; done) | (simp only [cellsS, List.append_assoc, List.nil_append, List.append_nil, List.cons_append]; rfl)) (by first | rfl | (rw [seg_len]; done) | (simp only [seg_len, cellsS, List.length_append, List.length_cons, List.length_nil]; done) | (simp only [seg_len, cellsS, List.length_append, List.length_cons, List.length_nil]; rfl)) (by first | rfl | (rw [seg_len]; done) | (simp only [seg_len, cellsS, List.length_append, List.length_cons, List.length_nil]; done) | (simp only [seg_len, cellsS, List.length_append, List.length_cons, List.length_nil]; rfl)) (part_all (seg_lenE (by rfl))) ShpC.h rfl rfl) rfl rfl ?_
    refine xstoreP 0 [] ((List.map ew ((Arr.rep 4 (0 : UInt64))).l).flatten) [] (by first | rfl | (simp only [cellsS, List.append_assoc, List.nil_append, List.append_nil, List.cons_append]; done) | (simp only [cellsS, List.append_assoc, List.nil_append, List.append_nil, List.cons_append]; rfl)) (by first | rfl | (rw [seg_len]; done) | (simp only [seg_len, cellsS, List.length_append, List.length_cons, List.length_nil]; done) | (simp only [seg_len, cellsS, List.length_append, List.length_cons, List.length_nil]; rfl)) (by first | rfl | (rw [seg_len]; done) | (simp only [seg_len, cellsS, List.length_append, List.length_cons, List.length_nil]; done) | (simp only [seg_len, cellsS, List.length_append, List.length_cons, List.length_nil]; rfl)) ShpC.h rfl rfl rfl rfl (by first | rfl | (rw [seg_len]; done) | (simp only [seg_len, cellsS, List.length_append, List.length_cons, List.length_nil]; done) | (simp only [seg_len, cellsS, List.length_append, List.length_cons, List.length_nil]; rfl)) rfl ?_
    refine xreb 0 ((List.map ew f45.l).flatten) rfl (by first | rfl | (simp only [cellsS, List.append_assoc, List.nil_append, List.append_nil, List.cons_append]; done) | (simp only [cellsS, List.append_assoc, List.nil_append, List.append_nil, List.cons_append]; rfl)) ?_
    refine xnil ?_
    refine xthen ?_
    refine xretc ?_
    replace h := h.symm
    subst h
    exact xretL (rs := [.cell 2 24]) (ss := [.agg ((List.map ew f45.l).flatten)]) hg rfl (by refine RetL.cell 0 ShpC.h rfl rfl (part_midE (pre := []) (mid := ((List.map ew f45.l).flatten)) (post := []) (by first | rfl | (simp only [cellsS, List.append_assoc, List.nil_append, List.append_nil, List.cons_append]; done) | (simp only [cellsS, List.append_assoc, List.nil_append, List.append_nil, List.cons_append]; rfl)) (by first | rfl | (rw [seg_len]; done) | (simp only [seg_len, cellsS, List.length_append, List.length_cons, List.length_nil]; done) | (simp only [seg_len, cellsS, List.length_append, List.length_cons, List.length_nil]; rfl)) (by first | rfl | (rw [seg_len]; done) | (simp only [seg_len, cellsS, List.length_append, List.length_cons, List.length_nil]; done) | (simp only [seg_len, cellsS, List.length_append, List.length_cons, List.length_nil]; rfl)) (part_all (seg_lenE (by rfl)))) (len_midE (pre := []) (mid := ((List.map ew f45.l).flatten)) (post := []) (by first | rfl | (simp only [cellsS, List.append_assoc, List.nil_append, List.append_nil, List.cons_append]; done) | (simp only [cellsS, List.append_assoc, List.nil_append, List.append_nil, List.cons_append]; rfl)) (by first | rfl | (rw [seg_len]; done) | (simp only [seg_len, cellsS, List.length_append, List.length_cons, List.length_nil]; done) | (simp only [seg_len, cellsS, List.length_append, List.length_cons, List.length_nil]; rfl)) (by first | rfl | (rw [seg_len]; done) | (simp only [seg_len, cellsS, List.length_append, List.length_cons, List.length_nil]; done) | (simp only [seg_len, cellsS, List.length_append, List.length_cons, List.length_nil]; rfl))) (by first | with_reducible exact Wk.refl _ | exact Wk.nil_own _ | exact Wk.nil_pl _ | with_reducible exact Wk.tok _ _ _ | exact Wk.tok _ _ _ | exact .eq rfl) ?_; exact RetL.nil) (SubM.of (.nil _) (.nil _)) ⟨rfl, rfl, rfl⟩
/-- math/bits.OnesCount64 -/
def math_bits_OnesCount64_R (x1 : UInt64) (r : Int) : Prop :=
  (0 : Int) ≤ 1 ∧ ∃ c3 : UInt64, (c3.toNat : Int) = ((x1.toNat : Int) : Int).fdiv (2 ^ (min (1 : Int).toNat IntKind.u64.bits)) ∧ ∃ c5 : UInt64, (c5.toNat : Int) = IntKind.u64.wrap (BitVec.ofInt IntKind.u64.bits (c3.toNat : Int) &&& BitVec.ofInt IntKind.u64.bits (6148914691236517205)).toNat ∧ ∃ c7 : UInt64, (c7.toNat : Int) = IntKind.u64.wrap (BitVec.ofInt IntKind.u64.bits (x1.toNat : Int) &&& BitVec.ofInt IntKind.u64.bits (6148914691236517205)).toNat ∧ ∃ c9 : UInt64, (c9.toNat : Int) = IntKind.u64.wrap ((c5.toNat : Int) + (c7.toNat : Int)) ∧ (0 : Int) ≤ 2 ∧ ∃ c11 : UInt64, (c11.toNat : Int) = ((c9.toNat : Int) : Int).fdiv (2 ^ (min (2 : Int).toNat IntKind.u64.bits)) ∧ ∃ c13 : UInt64, (c13.toNat : Int) = IntKind.u64.wrap (BitVec.ofInt IntKind.u64.bits (c11.toNat : Int) &&& BitVec.ofInt IntKind.u64.bits (3689348814741910323)).toNat ∧ ∃ c15 : UInt64, (c15.toNat : Int) = IntKind.u64.wrap (BitVec.ofInt IntKind.u64.bits (c9.toNat : Int) &&& BitVec.ofInt IntKind.u64.bits (3689348814741910323)).toNat ∧ ∃ c17 : UInt64, (c17.toNat : Int) = IntKind.u64.wrap ((c13.toNat : Int) + (c15.toNat : Int)) ∧ (0 : Int) ≤ 4 ∧ ∃ c19 : UInt64, (c19.toNat : Int) = ((c17.toNat : Int) : Int).fdiv (2 ^ (min (4 : Int).toNat IntKind.u64.bits)) ∧ ∃ c21 : UInt64, (c21.toNat : Int) = IntKind.u64.wrap ((c19.toNat : Int) + (c17.toNat : Int)) ∧ ∃ c23 : UInt64, (c23.toNat : Int) = IntKind.u64.wrap (BitVec.ofInt IntKind.u64.bits (c21.toNat : Int) &&& BitVec.ofInt IntKind.u64.bits (1085102592571150095)).toNat ∧ (0 : Int) ≤ 8 ∧ ∃ c25 : UInt64, (c25.toNat : Int) = ((c23.toNat : Int) : Int).fdiv (2 ^ (min (8 : Int).toNat IntKind.u64.bits)) ∧ ∃ c27 : UInt64, (c27.toNat : Int) = IntKind.u64.wrap ((c23.toNat : Int) + (c25.toNat : Int)) ∧ (0 : Int) ≤ 16 ∧ ∃ c29 : UInt64, (c29.toNat : Int) = ((c27.toNat : Int) : Int).fdiv (2 ^ (min (16 : Int).toNat IntKind.u64.bits)) ∧ ∃ c31 : UInt64, (c31.toNat : Int) = IntKind.u64.wrap ((c27.toNat : Int) + (c29.toNat : Int)) ∧ (0 : Int) ≤ 32 ∧ ∃ c33 : UInt64, (c33.toNat : Int) = ((c31.toNat : Int) : Int).fdiv (2 ^ (min (32 : Int).toNat IntKind.u64.bits)) ∧ ∃ c35 : UInt64, (c35.toNat : Int) = IntKind.u64.wrap ((c31.toNat : Int) + (c33.toNat : Int)) ∧ ∃ z37 : Int, z37 = IntKind.i64.wrap ((c35.toNat : Int)) ∧ ∃ c39 : Int, c39 = IntKind.i64.wrap (BitVec.ofInt IntKind.i64.bits (z37) &&& BitVec.ofInt IntKind.i64.bits (127)).toNat ∧ r = c39
set_option maxHeartbeats 4000000 in
theorem math_bits_OnesCount64_con (x1 : UInt64) (r : Int) (h : math_bits_OnesCount64_R x1 r) : Con Try.prog 21 [.v (.int .u64 ((x1.toNat : Int)))] [] [] (Ret (.v (.int .i64 r))) := by
  refine xenter Try.func21 rfl rfl fun g hg => ?_
  simp only [Try.ntmps21, slots]
  refine xseq ?_
  refine xregion ?_
  refine xvalP (pv_assign rfl) rfl rfl ?_
  refine xnil ?_
  refine xthen ?_
  refine xseq ?_
  refine xregion ?_
  refine xvalP (pv_move rfl) rfl rfl ?_
  obtain ⟨h2, h⟩ := h
  obtain ⟨c3, h2r, h⟩ := h
  refine xvalP (pv_shrW h2 h2r rfl rfl) rfl rfl ?_
  obtain ⟨c5, h4, h⟩ := h
  refine xvalP (pv_wr h4 rfl rfl rfl) rfl rfl ?_
  refine xvalP (pv_move rfl) rfl rfl ?_
  obtain ⟨c7, h6, h⟩ := h
  refine xvalP (pv_wr h6 rfl rfl rfl) rfl rfl ?_
  obtain ⟨c9, h8, h⟩ := h
  refine xvalP (pv_wr h8 rfl rfl rfl) rfl rfl ?_
  refine xvalP (pv_assign rfl) rfl rfl ?_
  refine xnil ?_
  refine xthen ?_
  refine xseq ?_
  refine xregion ?_
  refine xvalP (pv_move rfl) rfl rfl ?_
  obtain ⟨h10, h⟩ := h
  obtain ⟨c11, h10r, h⟩ := h
  refine xvalP (pv_shrW h10 h10r rfl rfl) rfl rfl ?_
  obtain ⟨c13, h12, h⟩ := h
  refine xvalP (pv_wr h12 rfl rfl rfl) rfl rfl ?_
  refine xvalP (pv_move rfl) rfl rfl ?_
  obtain ⟨c15, h14, h⟩ := h
  refine xvalP (pv_wr h14 rfl rfl rfl) rfl rfl ?_
  obtain ⟨c17, h16, h⟩ := h
  refine xvalP (pv_wr h16 rfl rfl rfl) rfl rfl ?_
  refine xvalP (pv_assign rfl) rfl rfl ?_
  refine xnil ?_
  refine xthen ?_
  refine xseq ?_
  refine xregion ?_
  refine xvalP (pv_move rfl) rfl rfl ?_
  obtain ⟨h18, h⟩ := h
  obtain ⟨c19, h18r, h⟩ := h
  refine xvalP (pv_shrW h18 h18r rfl rfl) rfl rfl ?_
  refine xvalP (pv_move rfl) rfl rfl ?_
  obtain ⟨c21, h20, h⟩ := h
  refine xvalP (pv_wr h20 rfl rfl rfl) rfl rfl ?_
  obtain ⟨c23, h22, h⟩ := h
  refine xvalP (pv_wr h22 rfl rfl rfl) rfl rfl ?_
  refine xvalP (pv_assign rfl) rfl rfl ?_
  refine xnil ?_
  refine xthen ?_
  refine xseq ?_
  refine xregion ?_
  refine xvalP (pv_move rfl) rfl rfl ?_
  refine xvalP (pv_move rfl) rfl rfl ?_
  obtain ⟨h24, h⟩ := h
  obtain ⟨c25, h24r, h⟩ := h
  refine xvalP (pv_shrW h24 h24r rfl rfl) rfl rfl ?_
  obtain ⟨c27, h26, h⟩ := h
  refine xvalP (pv_wr h26 rfl rfl rfl) rfl rfl ?_
  refine xvalP (pv_assign rfl) rfl rfl ?_
  refine xnil ?_
  refine xthen ?_
  refine xseq ?_
  refine xregion ?_
  refine xvalP (pv_move rfl) rfl rfl ?_
  refine xvalP (pv_move rfl) rfl rfl ?_
  obtain ⟨h28, h⟩ := h
  obtain ⟨c29, h28r, h⟩ := h
  refine xvalP (pv_shrW h28 h28r rfl rfl) rfl rfl ?_
  obtain ⟨c31, h30, h⟩ := h
  refine xvalP (pv_wr h30 rfl rfl rfl) rfl rfl ?_
  refine xvalP (pv_assign rfl) rfl rfl ?_
  refine xnil ?_
  refine xthen ?_
  refine xseq ?_
  refine xregion ?_
  refine xvalP (pv_move rfl) rfl rfl ?_
  refine xvalP (pv_move rfl) rfl rfl ?_
  obtain ⟨h32, h⟩ := h
  obtain ⟨c33, h32r, h⟩ := h
  refine xvalP (pv_shrW h32 h32r rfl rfl) rfl rfl ?_
  obtain ⟨c35, h34, h⟩ := h
  refine xvalP (pv_wr h34 rfl rfl rfl) rfl rfl ?_
  refine xvalP (pv_assign rfl) rfl rfl ?_
  refine xnil ?_
  refine xthen ?_
  refine xseq ?_
  refine xregion ?_
  refine xvalP (pv_move rfl) rfl rfl ?_
  obtain ⟨z37, h36, h⟩ := h
  refine xvalP (pv_convW h36 UndC.h UndC.h rfl) rfl rfl ?_
  obtain ⟨c39, h38, h⟩ := h
  refine xvalP (pv_wr h38 rfl rfl rfl) rfl rfl ?_
  refine xvalP (pv_assign rfl) rfl rfl ?_
  refine xnil ?_
  refine xthen ?_
  refine xretc ?_
  replace h := h.symm
  subst h
  exact xret1 hg rfl rfl (.refl _) (SubM.of (.nil _) (.nil _)) ⟨rfl, rfl, rfl⟩
/-- class.Count -/
def class_Count_l1 (s1 : Arr 4 (UInt64)) (ag1 : (Int × Int) → Prop) (nv40 : Int) (x41 : Int) (r : Int) : Prop :=
  ((x41 < 4 → (0 ≤ (x41 : Int) ∧ (x41 : Int) < 4) ∧ ∃ y55 : UInt64, s1.l[(x41 : Int).toNat]? = some y55 ∧ ∃ y57 : Int, math_bits_OnesCount64_R y55 y57 ∧ InR (nv40 + y57) ∧ InR (x41 + 1) ∧ ag1 ((nv40 + y57), (x41 + 1))) ∧ (¬ (x41 < 4) → r = nv40))
def class_Count_R (s1 : Arr 4 (UInt64)) (r : Int) : Prop :=
  LoopR (fun ag1 s => class_Count_l1 s1 ag1 s.1 s.2 r) (0, 0)
set_option maxHeartbeats 4000000 in
theorem class_Count_con (s1 : Arr 4 (UInt64)) (r : Int) (h : class_Count_R s1 r) : Con Try.prog 13 [.agg ((List.map ew s1.l).flatten)] [] [] (Ret (.v (.int .i64 r))) := by
  refine xenter Try.func13 rfl rfl fun g hg => ?_
  simp only [Try.ntmps13, slots]
  refine xseq ?_
  refine xregion ?_
  refine xbox rfl rfl rfl rfl fun b1 => ?_
  refine xvalP (pv_assign rfl) rfl rfl ?_
  refine xnil ?_
  refine xthen ?_
  refine xseq ?_
  refine xregion ?_
  refine xvalP (pv_assign rfl) rfl rfl ?_
  refine xnil ?_
  refine xthen ?_
  refine xseq ?_
  refine xseq ?_
  refine xregion ?_
  refine xval (qv_loadP 0 [] ((List.map ew s1.l).flatten) [] (by first | rfl | (simp only [cellsS, List.append_assoc, List.nil_append, List.append_nil, List.cons_append]; done) | (simp only [cellsS, List.append_assoc, List.nil_append, List.append_nil, List.cons_append]; rfl)) (by first | rfl | (rw [seg_len]; done) | (simp only [seg_len, cellsS, List.length_append, List.length_cons, List.length_nil]; done) | (simp only [seg_len, cellsS, List.length_append, List.length_cons, List.length_nil]; rfl)) (by first | rfl | (rw [seg_len]; done) | (simp only [seg_len, cellsS, List.length_append, List.length_cons, List.length_nil]; done) | (simp only [seg_len, cellsS, List.length_append, List.length_cons, List.length_nil]; rfl)) (part_all (seg_lenE (by rfl))) ShpC.h rfl rfl) rfl rfl ?_
  refine xvalP (pv_move rfl) rfl rfl ?_
  refine xnil ?_
  refine xthen ?_
  refine xblock ?_
  obtain ⟨Inv, ⟨m0, hI⟩, hS⟩ := h
  refine xloop (fun σ m => ∃ (nv40 : Int), ∃ (x41 : Int), Inv (nv40, x41) m ∧ σ = ⟨[(3, .v (.int .i64 nv40)), (6, .agg ((List.map ew s1.l).flatten)), (7, .v (.int .i64 x41))], [], []⟩) ⟨0, 0, hI, rfl⟩ ⟨(.cons rfl (.refl _) (.cons rfl (.refl _) (.cons rfl (.refl _) (.nil _)))), (SubM.of (.nil _) (.nil _))⟩ ?_
  rintro _ m ⟨nv40, x41, hI, rfl⟩
  obtain ⟨ag1, hag1, h⟩ : ∃ ag, (∀ s', ag s' → ∃ m', m' < m ∧ Inv s' m') ∧ class_Count_l1 s1 ag nv40 x41 r := ⟨_, fun _ h => h, hS (nv40, x41) _ hI⟩
  clear hS hI
  refine xseq ?_
  refine xregion ?_
  refine xvalP (pv_bin2 rfl rfl rfl) rfl rfl ?_
  refine xnil ?_
  refine xthen ?_
  refine xseq ?_
  by_cases hp53 : x41 < 4
  · replace h := h.1 hp53
    refine xcondT' (decide_eq_true hp53) rfl ?_
    refine xskipc ?_
    refine xthen ?_
    refine xseq ?_
    refine xblock ?_
    refine xseq ?_
    refine xregion ?_
    obtain ⟨h54, h⟩ := h
    obtain ⟨y55, h54b, h⟩ := h
    refine xvalP (pv_indexAA (f := ew) (a := s1) [] h54 h54b (by first | rfl | (simp only [cellsS, List.append_assoc, List.nil_append, List.append_nil, List.cons_append]; done) | (simp only [cellsS, List.append_assoc, List.nil_append, List.append_nil, List.cons_append]; rfl)) rfl UndC.h ShpC.h rfl rfl) rfl rfl ?_
    refine xvalP (pv_assign rfl) rfl rfl ?_
    refine xnil ?_
    refine xthen ?_
    refine xregion ?_
    refine xvalP (pv_move rfl) rfl rfl ?_
    refine xvalP (pv_move rfl) rfl rfl ?_
    obtain ⟨y57, h56, h⟩ := h
    refine xcall0 (math_bits_OnesCount64_con y55 _ h56) Try.func21 (by kernel_rfl) rfl (.cons rfl (.refl _) .nil) rfl rfl ?_
    obtain ⟨h58, h⟩ := h
    refine xvalP (pv_addI h58 rfl rfl) rfl rfl ?_
    refine xvalP (pv_assign rfl) rfl rfl ?_
    refine xnil ?_
    refine xin_normal ?_
    refine xthen ?_
    refine xregion ?_
    obtain ⟨h59, h⟩ := h
    refine xvalP (pv_addI h59 rfl rfl) rfl rfl ?_
    refine xvalP (pv_move rfl) rfl rfl ?_
    refine xnil ?_
    obtain ⟨m', hm, hI⟩ := hag1 _ h
    exact xagain ⟨(nv40 + y57), (x41 + 1), hI, rfl⟩ hm ⟨(.cons rfl (.refl _) (.cons rfl (.refl _) (.cons rfl (.refl _) (.nil _)))), (SubM.of (.nil _) (.nil _))⟩
  · replace h := h.2 hp53
    refine xcondF' (decide_eq_false hp53) rfl ?_
    refine xexit ?_
    refine xthen_exit ?_
    refine xthen_exit ?_
    refine xin_same rfl ?_
    refine xthen ?_
    refine xseq ?_
    refine xregion ?_
    refine xvalP (pv_move rfl) rfl rfl ?_
    refine xvalP (pv_assign rfl) rfl rfl ?_
    refine xnil ?_
    refine xthen ?_
    refine xretc ?_
    replace h := h.symm
    subst h
    exact xret1 hg rfl rfl (.refl _) (SubM.of (.nil _) (.nil _)) ⟨rfl, rfl, rfl⟩
/-- class.Has -/
def class_Has_R (s1 : Arr 4 (UInt64)) (c2 : UInt8) (r : Bool) : Prop :=
  (64 : Int) ≠ 0 ∧ ∃ c4 : UInt8, (c4.toNat : Int) = IntKind.u8.wrap (((c2.toNat : Int)).tdiv 64) ∧ (0 ≤ ((c4.toNat : Int) : Int) ∧ ((c4.toNat : Int) : Int) < 4) ∧ ∃ y6 : UInt64, s1.l[((c4.toNat : Int) : Int).toNat]? = some y6 ∧ (64 : Int) ≠ 0 ∧ ∃ c8 : UInt8, (c8.toNat : Int) = (((c2.toNat : Int)).tmod 64) ∧ (0 : Int) ≤ (c8.toNat : Int) ∧ ∃ c10 : UInt64, (c10.toNat : Int) = ((y6.toNat : Int) : Int).fdiv (2 ^ (min ((c8.toNat : Int) : Int).toNat IntKind.u64.bits)) ∧ ∃ c12 : UInt64, (c12.toNat : Int) = IntKind.u64.wrap (BitVec.ofInt IntKind.u64.bits (c10.toNat : Int) &&& BitVec.ofInt IntKind.u64.bits (1)).toNat ∧ r = (decide ((c12.toNat : Int) = 1))
set_option maxHeartbeats 4000000 in
theorem class_Has_con (s1 : Arr 4 (UInt64)) (c2 : UInt8) (r : Bool) (h : class_Has_R s1 c2 r) : Con Try.prog 8 [.agg ((List.map ew s1.l).flatten), .v (.int .u8 ((c2.toNat : Int)))] [] [] (Ret (.v (.bool r))) := by
  refine xenter Try.func8 rfl rfl fun g hg => ?_
  simp only [Try.ntmps8, slots]
  refine xseq ?_
  refine xregion ?_
  refine xbox rfl rfl rfl rfl fun b2 => ?_
  refine xvalP (pv_assign rfl) rfl rfl ?_
  refine xnil ?_
  refine xthen ?_
  refine xseq ?_
  refine xregion ?_
  refine xvalP (pv_move rfl) rfl rfl ?_
  obtain ⟨h3, h⟩ := h
  obtain ⟨c4, h3r, h⟩ := h
  refine xvalP (pv_quoW h3 h3r rfl rfl rfl) rfl rfl ?_
  obtain ⟨h5, h⟩ := h
  obtain ⟨y6, h5b, h⟩ := h
  refine xvalP (pv_indexAddrBA h5 UndC.h ShpC.h rfl rfl) rfl rfl ?_
  refine xval (qv_loadA (f := ew) (a := s1) (k := 1) (off := 0) (i := ((c4.toNat : Int) : Int).toNat) 0 [] [] h5b (by first | rfl | (simp only [cellsS, List.append_assoc, List.nil_append, List.append_nil, List.cons_append]; done) | (simp only [cellsS, List.append_assoc, List.nil_append, List.append_nil, List.cons_append]; rfl)) (by first | rfl | (simp only [seg_len, List.length_append, List.length_cons, List.length_nil]; omega) | omega) (by decide) rfl ShpC.h rfl rfl) rfl rfl ?_
  refine xvalP (pv_move rfl) rfl rfl ?_
  obtain ⟨h7, h⟩ := h
  obtain ⟨c8, h7r, h⟩ := h
  refine xvalP (pv_remW h7 h7r rfl rfl rfl) rfl rfl ?_
  obtain ⟨h9, h⟩ := h
  obtain ⟨c10, h9r, h⟩ := h
  refine xvalP (pv_shrW h9 h9r rfl rfl) rfl rfl ?_
  obtain ⟨c12, h11, h⟩ := h
  refine xvalP (pv_wr h11 rfl rfl rfl) rfl rfl ?_
  refine xvalP (pv_bin2 rfl rfl rfl) rfl rfl ?_
  refine xvalP (pv_assign rfl) rfl rfl ?_
  refine xnil ?_
  refine xthen ?_
  refine xretc ?_
  replace h := h.symm
  subst h
  exact xret1 hg rfl rfl (.refl _) (SubM.of (.nil _) (.nil _)) ⟨rfl, rfl, rfl⟩
/-- palinodelaw05.awake -/
def palinodelaw05_awake_R (r : Bool) : Prop :=
  ∃ y19 : (Arr 4 (UInt64)), class_Of_R ([] : List UInt8) y19 ∧ ∃ y21 : (Arr 4 (UInt64)), class_Not_R y19 y21 ∧ ∃ y23 : Int, class_Count_R y21 y23 ∧ ((y23 = 256 → ∃ y27 : (Arr 4 (UInt64)), class_Of_R ([(65 : UInt8), (200 : UInt8)]) y27 ∧ ∃ y29 : Bool, class_Has_R y27 (200 : UInt8) y29 ∧ ((y29 = true → ∃ y32 : (Arr 4 (UInt64)), class_Of_R ([(65 : UInt8)]) y32 ∧ ∃ y34 : Bool, class_Has_R y32 (66 : UInt8) y34 ∧ r = (!y34)) ∧ (¬ (y29 = true) → r = false))) ∧ (¬ (y23 = 256) → r = false))
set_option maxHeartbeats 4000000 in
theorem palinodelaw05_awake_con (r : Bool) (h : palinodelaw05_awake_R r) : Con Try.prog 14 [] [] [] (Ret (.v (.bool r))) := by
  refine xenter Try.func14 rfl rfl fun g hg => ?_
  simp only [Try.ntmps14, slots]
  refine xseq ?_
  refine xregion ?_
  refine xvalP (pv_assign rfl) rfl rfl ?_
  refine xnil ?_
  refine xthen ?_
  refine xseq ?_
  refine xregion ?_
  obtain ⟨y19, h18, h⟩ := h
  refine xcall0 (class_Of_con ([] : List UInt8) _ h18) Try.func16 (by kernel_rfl) rfl (.cons rfl (.nil_pl _) .nil) rfl rfl ?_
  obtain ⟨y21, h20, h⟩ := h
  refine xcall0 (class_Not_con y19 _ h20) Try.func10 (by kernel_rfl) rfl (.cons rfl (.refl _) .nil) rfl rfl ?_
  obtain ⟨y23, h22, h⟩ := h
  refine xcall0 (class_Count_con y21 _ h22) Try.func13 (by kernel_rfl) rfl (.cons rfl (.refl _) .nil) rfl rfl ?_
  refine xvalP (pv_bin2 rfl rfl rfl) rfl rfl ?_
  refine xvalP (pv_move rfl) rfl rfl ?_
  by_cases hp25 : y23 = 256
  · replace h := h.1 hp25
    refine xsetB 5 (decide_eq_true hp25) rfl ?_
    refine xbuildSliceM (f := eb) [(65 : UInt8), (200 : UInt8)] UndC.h InfC.h rfl rfl (by first | exact wkR_of rfl | (repeat (first | exact WkR.nil | refine WkR.cons (by (repeat (first | exact WkL.nil | refine WkL.cons (by first | with_reducible exact Wk.refl _ | exact Wk.nil_own _ | exact Wk.nil_pl _ | with_reducible exact Wk.tok _ _ _ | exact Wk.tok _ _ _ | exact Wk.eq (by first | rfl | (simp []; done) | (simp []; omega))) ?_))) ?_))) rfl rfl rfl rfl fun s6 => ?_
    obtain ⟨y27, h26, h⟩ := h
    refine xcall0 (class_Of_con ([(65 : UInt8), (200 : UInt8)]) _ h26) Try.func16 (by kernel_rfl) rfl (.cons rfl (.tok _ _ _) .nil) rfl rfl ?_
    obtain ⟨y29, h28, h⟩ := h
    refine xcall0 (class_Has_con y27 (200 : UInt8) _ h28) Try.func8 (by kernel_rfl) rfl (.cons rfl (.refl _) (.cons rfl (.refl _) .nil)) rfl rfl ?_
    refine xvalP (pv_pick rfl rfl) rfl rfl ?_
    refine xvalP (pv_move rfl) rfl rfl ?_
    by_cases hp30 : y29 = true
    · replace h := h.1 hp30
      refine xsetB 10 hp30 rfl ?_
      refine xbuildSliceM (f := eb) [(65 : UInt8)] UndC.h InfC.h rfl rfl (by first | exact wkR_of rfl | (repeat (first | exact WkR.nil | refine WkR.cons (by (repeat (first | exact WkL.nil | refine WkL.cons (by first | with_reducible exact Wk.refl _ | exact Wk.nil_own _ | exact Wk.nil_pl _ | with_reducible exact Wk.tok _ _ _ | exact Wk.tok _ _ _ | exact Wk.eq (by first | rfl | (simp []; done) | (simp []; omega))) ?_))) ?_))) rfl rfl rfl rfl fun s11 => ?_
      obtain ⟨y32, h31, h⟩ := h
      refine xcall0 (class_Of_con ([(65 : UInt8)]) _ h31) Try.func16 (by kernel_rfl) rfl (.cons rfl (.tok _ _ _) .nil) rfl rfl ?_
      obtain ⟨y34, h33, h⟩ := h
      refine xcall0 (class_Has_con y32 (66 : UInt8) _ h33) Try.func8 (by kernel_rfl) rfl (.cons rfl (.refl _) (.cons rfl (.refl _) .nil)) rfl rfl ?_
      refine xvalP (pv_not rfl) rfl rfl ?_
      refine xvalP (pv_pick rfl rfl) rfl rfl ?_
      refine xvalP (pv_assign rfl) rfl rfl ?_
      refine xnil ?_
      refine xthen ?_
      refine xretc ?_
      replace h := h.symm
      subst h
      exact xret1 hg rfl rfl (.refl _) (SubM.of (.nil _) (.nil _)) ⟨rfl, rfl, rfl⟩
    · replace h := h.2 hp30
      refine xsetB 10 (b_f hp30) rfl ?_
      refine xskip rfl rfl ?_
      refine xskip rfl rfl ?_
      refine xskip rfl rfl ?_
      refine xskip rfl rfl ?_
      refine xvalP (pv_pick rfl rfl) rfl rfl ?_
      refine xvalP (pv_assign rfl) rfl rfl ?_
      refine xnil ?_
      refine xthen ?_
      refine xretc ?_
      replace h := h.symm
      subst h
      exact xret1 hg rfl rfl (.refl _) (SubM.of (.nil _) (.nil _)) ⟨rfl, rfl, rfl⟩
  · replace h := h.2 hp25
    refine xsetB 5 (decide_eq_false hp25) rfl ?_
    refine xskip rfl rfl ?_
    refine xskip rfl rfl ?_
    refine xskip rfl rfl ?_
    refine xvalP (pv_pick rfl rfl) rfl rfl ?_
    refine xvalP (pv_move rfl) rfl rfl ?_
    refine xskip rfl rfl ?_
    refine xskip rfl rfl ?_
    refine xskip rfl rfl ?_
    refine xskip rfl rfl ?_
    refine xvalP (pv_pick rfl rfl) rfl rfl ?_
    refine xvalP (pv_assign rfl) rfl rfl ?_
    refine xnil ?_
    refine xthen ?_
    refine xretc ?_
    replace h := h.symm
    subst h
    exact xret1 hg rfl rfl (.refl _) (SubM.of (.nil _) (.nil _)) ⟨rfl, rfl, rfl⟩
/-- palinoderef05.Has -/
def palinoderef05_Has_l1 (c2 : UInt8) (ag1 : (UInt64 × UInt8) → Prop) (w57 : UInt64) (i58 : UInt8) (r : Bool) : Prop :=
  (64 : Int) ≠ 0 ∧ ∃ c76 : UInt8, (c76.toNat : Int) = (((c2.toNat : Int)).tmod 64) ∧ (((i58.toNat : Int) < (c76.toNat : Int) → (2 : Int) ≠ 0 ∧ ∃ c80 : UInt64, (c80.toNat : Int) = IntKind.u64.wrap (((w57.toNat : Int)).tdiv 2) ∧ ∃ c82 : UInt8, (c82.toNat : Int) = IntKind.u8.wrap ((i58.toNat : Int) + 1) ∧ ag1 (c80, c82)) ∧ (¬ ((i58.toNat : Int) < (c76.toNat : Int)) → (2 : Int) ≠ 0 ∧ ∃ c84 : UInt64, (c84.toNat : Int) = (((w57.toNat : Int)).tmod 2) ∧ r = (decide ((c84.toNat : Int) = 1))))
def palinoderef05_Has_R (s1 : Arr 4 (UInt64)) (c2 : UInt8) (r : Bool) : Prop :=
  (64 : Int) ≠ 0 ∧ ∃ c4 : UInt8, (c4.toNat : Int) = IntKind.u8.wrap (((c2.toNat : Int)).tdiv 64) ∧ (0 ≤ ((c4.toNat : Int) : Int) ∧ ((c4.toNat : Int) : Int) < 4) ∧ ∃ y6 : UInt64, s1.l[((c4.toNat : Int) : Int).toNat]? = some y6 ∧ LoopR (fun ag1 s => palinoderef05_Has_l1 c2 ag1 s.1 s.2 r) (y6, (0 : UInt8))
set_option maxHeartbeats 4000000 in
theorem palinoderef05_Has_con (s1 : Arr 4 (UInt64)) (c2 : UInt8) (r : Bool) (h : palinoderef05_Has_R s1 c2 r) : Con Try.prog 9 [.agg ((List.map ew s1.l).flatten), .v (.int .u8 ((c2.toNat : Int)))] [] [] (Ret (.v (.bool r))) := by
  refine xenter Try.func9 rfl rfl fun g hg => ?_
  simp only [Try.ntmps9, slots]
  refine xseq ?_
  refine xregion ?_
  refine xbox rfl rfl rfl rfl fun b2 => ?_
  refine xvalP (pv_assign rfl) rfl rfl ?_
  refine xnil ?_
  refine xthen ?_
  refine xseq ?_
  refine xregion ?_
  refine xvalP (pv_move rfl) rfl rfl ?_
  obtain ⟨h3, h⟩ := h
  obtain ⟨c4, h3r, h⟩ := h
  refine xvalP (pv_quoW h3 h3r rfl rfl rfl) rfl rfl ?_
  obtain ⟨h5, h⟩ := h
  obtain ⟨y6, h5b, h⟩ := h
  refine xvalP (pv_indexAddrBA h5 UndC.h ShpC.h rfl rfl) rfl rfl ?_
  refine xval (qv_loadA (f := ew) (a := s1) (k := 1) (off := 0) (i := ((c4.toNat : Int) : Int).toNat) 0 [] [] h5b (by first | rfl | (simp only [cellsS, List.append_assoc, List.nil_append, List.append_nil, List.cons_append]; done) | (simp only [cellsS, List.append_assoc, List.nil_append, List.append_nil, List.cons_append]; rfl)) (by first | rfl | (simp only [seg_len, List.length_append, List.length_cons, List.length_nil]; omega) | omega) (by decide) rfl ShpC.h rfl rfl) rfl rfl ?_
  refine xvalP (pv_assign rfl) rfl rfl ?_
  refine xnil ?_
  refine xthen ?_
  refine xseq ?_
  refine xseq ?_
  refine xregion ?_
  refine xvalP (pv_assign rfl) rfl rfl ?_
  refine xnil ?_
  refine xthen ?_
  refine xblock ?_
  obtain ⟨Inv, ⟨m0, hI⟩, hS⟩ := h
  refine xloop (fun σ m => ∃ (w57 : UInt64), ∃ (i58 : UInt8), Inv (w57, i58) m ∧ σ = ⟨[(1, .v (.int .u8 ((c2.toNat : Int)))), (5, .v (.int .u64 ((w57.toNat : Int)))), (6, .v (.int .u8 ((i58.toNat : Int))))], [], []⟩) ⟨y6, (0 : UInt8), hI, rfl⟩ ⟨(.cons rfl (.refl _) (.cons rfl (.refl _) (.cons rfl (.refl _) (.nil _)))), (SubM.of (.nil _) (.nil _))⟩ ?_
  rintro _ m ⟨w57, i58, hI, rfl⟩
  obtain ⟨ag1, hag1, h⟩ : ∃ ag, (∀ s', ag s' → ∃ m', m' < m ∧ Inv s' m') ∧ palinoderef05_Has_l1 c2 ag w57 i58 r := ⟨_, fun _ h => h, hS (w57, i58) _ hI⟩
  clear hS hI
  refine xseq ?_
  refine xseq ?_
  refine xregion ?_
  refine xvalP (pv_move rfl) rfl rfl ?_
  refine xvalP (pv_move rfl) rfl rfl ?_
  obtain ⟨h75, h⟩ := h
  obtain ⟨c76, h75r, h⟩ := h
  refine xvalP (pv_remW h75 h75r rfl rfl rfl) rfl rfl ?_
  refine xvalP (pv_bin2 rfl rfl rfl) rfl rfl ?_
  refine xnil ?_
  refine xthen ?_
  by_cases hp78 : (i58.toNat : Int) < (c76.toNat : Int)
  · replace h := h.1 hp78
    refine xcondT' (decide_eq_true hp78) rfl ?_
    refine xskipc ?_
    refine xthen ?_
    refine xseq ?_
    refine xblock ?_
    refine xregion ?_
    refine xvalP (pv_move rfl) rfl rfl ?_
    obtain ⟨h79, h⟩ := h
    obtain ⟨c80, h79r, h⟩ := h
    refine xvalP (pv_quoW h79 h79r rfl rfl rfl) rfl rfl ?_
    refine xvalP (pv_assign rfl) rfl rfl ?_
    refine xnil ?_
    refine xin_normal ?_
    refine xthen ?_
    refine xregion ?_
    refine xvalP (pv_move rfl) rfl rfl ?_
    obtain ⟨c82, h81, h⟩ := h
    refine xvalP (pv_wr h81 rfl rfl rfl) rfl rfl ?_
    refine xvalP (pv_assign rfl) rfl rfl ?_
    refine xnil ?_
    obtain ⟨m', hm, hI⟩ := hag1 _ h
    exact xagain ⟨c80, c82, hI, rfl⟩ hm ⟨(.cons rfl (.refl _) (.cons rfl (.refl _) (.cons rfl (.refl _) (.nil _)))), (SubM.of (.nil _) (.nil _))⟩
  · replace h := h.2 hp78
    refine xcondF' (decide_eq_false hp78) rfl ?_
    refine xexit ?_
    refine xthen_exit ?_
    refine xthen_exit ?_
    refine xin_same rfl ?_
    refine xthen ?_
    refine xseq ?_
    refine xregion ?_
    refine xvalP (pv_move rfl) rfl rfl ?_
    obtain ⟨h83, h⟩ := h
    obtain ⟨c84, h83r, h⟩ := h
    refine xvalP (pv_remW h83 h83r rfl rfl rfl) rfl rfl ?_
    refine xvalP (pv_bin2 rfl rfl rfl) rfl rfl ?_
    refine xvalP (pv_assign rfl) rfl rfl ?_
    refine xnil ?_
    refine xthen ?_
    refine xretc ?_
    replace h := h.symm
    subst h
    exact xret1 hg rfl rfl (.refl _) (SubM.of (.nil _) (.nil _)) ⟨rfl, rfl, rfl⟩
/-- class.Union -/
def class_Union_l2 (y735 : Arr 4 (UInt64)) (x534 : Int) (ag1 : (Int × (Arr 4 (UInt64))) → Prop) (ag2 : (Int × (Arr 4 (UInt64))) → Prop) (x757 : Int) (f758 : Arr 4 (UInt64)) (r : (Arr 4 (UInt64))) : Prop :=
  ((x757 < 4 → (0 ≤ (x757 : Int) ∧ (x757 : Int) < 4) ∧ ∃ y791 : UInt64, f758.l[(x757 : Int).toNat]? = some y791 ∧ (0 ≤ (x757 : Int) ∧ (x757 : Int) < 4) ∧ ∃ y793 : UInt64, y735.l[(x757 : Int).toNat]? = some y793 ∧ ∃ c795 : UInt64, (c795.toNat : Int) = IntKind.u64.wrap (BitVec.ofInt IntKind.u64.bits (y791.toNat : Int) ||| BitVec.ofInt IntKind.u64.bits (y793.toNat : Int)).toNat ∧ (0 ≤ (x757 : Int) ∧ (x757 : Int) < 4) ∧ ∃ y797 : UInt64, f758.l[(x757 : Int).toNat]? = some y797 ∧ InR (x757 + 1) ∧ ag2 ((x757 + 1), (Arr.set f758 (x757 : Int).toNat c795))) ∧ (¬ (x757 < 4) → InR (x534 + 1) ∧ ag1 ((x534 + 1), f758)))
def class_Union_l1 (l1 : List (Arr 4 (UInt64))) (ag1 : (Int × (Arr 4 (UInt64))) → Prop) (x534 : Int) (f535 : Arr 4 (UInt64)) (r : (Arr 4 (UInt64))) : Prop :=
  ((x534 < (l1.length : Int) → 0 ≤ (x534 : Int) ∧ ∃ y735 : Arr 4 (UInt64), l1[(x534 : Int).toNat]? = some y735 ∧ LoopR (fun ag2 s => class_Union_l2 y735 x534 ag1 ag2 s.1 s.2 r) (0, f535)) ∧ (¬ (x534 < (l1.length : Int)) → r = f535))
def class_Union_R (l1 : List (Arr 4 (UInt64))) (r : (Arr 4 (UInt64))) : Prop :=
  LoopR (fun ag1 s => class_Union_l1 l1 ag1 s.1 s.2 r) (0, (Arr.rep 4 (0 : UInt64)))
set_option maxHeartbeats 4000000 in
theorem class_Union_con (l1 : List (Arr 4 (UInt64))) (r : (Arr 4 (UInt64))) (h : class_Union_R l1 r) : Con Try.prog 15 [.sl 4 none (List.map E_palinode_api_Set l1)] [] [] (Ret (.agg ((List.map ew r.l).flatten))) := by
  refine xenter Try.func15 rfl rfl fun g hg => ?_
  simp only [Try.ntmps15, slots]
  refine xseq ?_
  refine xregion ?_
  refine xalloc InfC.h rfl rfl fun b2 => ?_
  refine xreb 0 ((List.map ew ((Arr.rep 4 (0 : UInt64))).l).flatten) rfl rfl ?_
  refine xnil ?_
  refine xthen ?_
  refine xseq ?_
  refine xregion ?_
  refine xalloc InfC.h rfl rfl fun b3 => ?_
  refine xreb 0 ((List.map ew ((Arr.rep 4 (0 : UInt64))).l).flatten) rfl rfl ?_
  refine xnil ?_
  refine xthen ?_
  refine xseq ?_
  refine xseq ?_
  refine xregion ?_
  refine xvalP (pv_move rfl) rfl rfl ?_
  refine xvalP (pv_lenM UndC.h rfl) rfl rfl ?_
  refine xvalP (pv_move rfl) rfl rfl ?_
  refine xnil ?_
  refine xthen ?_
  refine xblock ?_
  obtain ⟨Inv, ⟨m0, hI⟩, hS⟩ := h
  refine xloop (fun σ m => ∃ (x534 : Int), ∃ (f535 : Arr 4 (UInt64)), Inv (x534, f535) m ∧ σ = ⟨[(2, .v (.pointer (some ⟨b2, 0, none⟩))), (3, .v (.pointer (some ⟨b3, 0, none⟩))), (7, .sl 4 none (List.map E_palinode_api_Set l1)), (8, .v (.int .i64 ((l1.length : Int)))), (9, .v (.int .i64 x534))], [⟨b3, 24, ((List.map ew f535.l).flatten)⟩, ⟨b2, 24, ((List.map ew ((Arr.rep 4 (0 : UInt64))).l).flatten)⟩], []⟩) ⟨0, (Arr.rep 4 (0 : UInt64)), hI, rfl⟩ ⟨(.cons rfl (.refl _) (.cons rfl (.refl _) (.cons rfl (.refl _) (.cons rfl (.refl _) (.cons rfl (.refl _) (.nil _)))))), (SubM.of (.keep rfl rfl (.refl _) (.keep rfl rfl (.refl _) (.nil _))) (.nil _))⟩ ?_
  rintro _ m ⟨x534, f535, hI, rfl⟩
  obtain ⟨ag1, hag1, h⟩ : ∃ ag, (∀ s', ag s' → ∃ m', m' < m ∧ Inv s' m') ∧ class_Union_l1 l1 ag x534 f535 r := ⟨_, fun _ h => h, hS (x534, f535) _ hI⟩
  clear hS hI
  refine xseq ?_
  refine xregion ?_
  refine xvalP (pv_bin2 rfl rfl rfl) rfl rfl ?_
  refine xnil ?_
  refine xthen ?_
  refine xseq ?_
  by_cases hp670 : x534 < (l1.length : Int)
  · replace h := h.1 hp670
    refine xcondT' (decide_eq_true hp670) rfl ?_
    refine xskipc ?_
    refine xthen ?_
    refine xseq ?_
    refine xblock ?_
    refine xseq ?_
    refine xregion ?_
    obtain ⟨h736a, h⟩ := h
    obtain ⟨y735, h736b, h⟩ := h
    refine xvalP (pv_indexAddrM h736a h736b UndC.h ShpC.h rfl rfl) rfl rfl ?_
    refine xval (qv_loadEP ((List.map ew y735.l).flatten) [] (by first | rfl | (simp only [cellsS, List.append_assoc, List.nil_append, List.append_nil, List.cons_append]; done) | (simp only [cellsS, List.append_assoc, List.nil_append, List.append_nil, List.cons_append]; rfl)) (by first | rfl | (rw [seg_len]; done) | (simp only [seg_len, cellsS, List.length_append, List.length_cons, List.length_nil]; done) | (simp only [seg_len, cellsS, List.length_append, List.length_cons, List.length_nil]; rfl)) (part_all (seg_lenE (by rfl))) ShpC.h rfl) rfl rfl ?_
    refine xalloc InfC.h rfl rfl fun b5 => ?_
    refine xreb 0 ((List.map ew ((Arr.rep 4 (0 : UInt64))).l).flatten) rfl rfl ?_
    refine xstoreP 0 [] ((List.map ew ((Arr.rep 4 (0 : UInt64))).l).flatten) [] (by first | rfl | (simp only [cellsS, List.append_assoc, List.nil_append, List.append_nil, List.cons_append]; done) | (simp only [cellsS, List.append_assoc, List.nil_append, List.append_nil, List.cons_append]; rfl)) (by first | rfl | (rw [seg_len]; done) | (simp only [seg_len, cellsS, List.length_append, List.length_cons, List.length_nil]; done) | (simp only [seg_len, cellsS, List.length_append, List.length_cons, List.length_nil]; rfl)) (by first | rfl | (rw [seg_len]; done) | (simp only [seg_len, cellsS, List.length_append, List.length_cons, List.length_nil]; done) | (simp only [seg_len, cellsS, List.length_append, List.length_cons, List.length_nil]; rfl)) ShpC.h rfl rfl rfl rfl (by first | rfl | (rw [seg_len]; done) | (simp only [seg_len, cellsS, List.length_append, List.length_cons, List.length_nil]; done) | (simp only [seg_len, cellsS, List.length_append, List.length_cons, List.length_nil]; rfl)) rfl ?_
    refine xreb 0 ((List.map ew y735.l).flatten) rfl (by first | rfl | (simp only [cellsS, List.append_assoc, List.nil_append, List.append_nil, List.cons_append]; done) | (simp only [cellsS, List.append_assoc, List.nil_append, List.append_nil, List.cons_append]; rfl)) ?_
    refine xnil ?_
    refine xthen ?_
    refine xseq ?_
    refine xregion ?_
    refine xvalP (pv_move rfl) rfl rfl ?_
    refine xnil ?_
    refine xthen ?_
    refine xblock ?_
    obtain ⟨Inv, ⟨m0, hI⟩, hS⟩ := h
    refine xloop (fun σ m => ∃ (x757 : Int), ∃ (f758 : Arr 4 (UInt64)), Inv (x757, f758) m ∧ σ = ⟨[(2, .v (.pointer (some ⟨b2, 0, none⟩))), (3, .v (.pointer (some ⟨b3, 0, none⟩))), (5, .v (.pointer (some ⟨b5, 0, none⟩))), (7, .sl 4 none (List.map E_palinode_api_Set l1)), (8, .v (.int .i64 ((l1.length : Int)))), (9, .v (.int .i64 x534)), (13, .v (.int .i64 x757))], [⟨b5, 24, ((List.map ew y735.l).flatten)⟩, ⟨b3, 24, ((List.map ew f758.l).flatten)⟩, ⟨b2, 24, ((List.map ew ((Arr.rep 4 (0 : UInt64))).l).flatten)⟩], []⟩) ⟨0, f535, hI, rfl⟩ ⟨(.cons rfl (.refl _) (.cons rfl (.refl _) (.cons rfl (.refl _) (.cons rfl (.refl _) (.cons rfl (.refl _) (.cons rfl (.refl _) (.cons rfl (.refl _) (.nil _)))))))), (SubM.of (.keep rfl rfl (.refl _) (.keep rfl rfl (.refl _) (.keep rfl rfl (.refl _) (.nil _)))) (.nil _))⟩ ?_
    rintro _ m ⟨x757, f758, hI, rfl⟩
    obtain ⟨ag2, hag2, h⟩ : ∃ ag, (∀ s', ag s' → ∃ m', m' < m ∧ Inv s' m') ∧ class_Union_l2 y735 x534 ag1 ag x757 f758 r := ⟨_, fun _ h => h, hS (x757, f758) _ hI⟩
    clear hS hI
    refine xseq ?_
    refine xregion ?_
    refine xvalP (pv_bin2 rfl rfl rfl) rfl rfl ?_
    refine xnil ?_
    refine xthen ?_
    refine xseq ?_
    by_cases hp781 : x757 < 4
    · replace h := h.1 hp781
      refine xcondT' (decide_eq_true hp781) rfl ?_
      refine xskipc ?_
      refine xthen ?_
      refine xseq ?_
      refine xblock ?_
      refine xseq ?_
      refine xregion ?_
      refine xvalP (pv_move rfl) rfl rfl ?_
      refine xvalP (pv_assign rfl) rfl rfl ?_
      refine xnil ?_
      refine xthen ?_
      refine xregionD (m := 9) (by kernel_rfl) rfl ?_
      obtain ⟨h790, h⟩ := h
      obtain ⟨y791, h790b, h⟩ := h
      obtain ⟨h792, h⟩ := h
      obtain ⟨y793, h792b, h⟩ := h
      obtain ⟨c795, h794, h⟩ := h
      obtain ⟨h796, h⟩ := h
      obtain ⟨y797, h796b, h⟩ := h
      refine xpval 0 rfl (pv_move rfl) rfl rfl (by kernel_rfl) (by kernel_rfl) (by kernel_rfl) (fun _ _ _ _ h => h) ?_
      refine xpval 1 rfl (pv_indexAddrBA h790 UndC.h ShpC.h rfl rfl) rfl rfl (by kernel_rfl) (by kernel_rfl) (by kernel_rfl) (fun _ _ _ _ h => h) ?_
      refine xpval 3 rfl (pv_move rfl) rfl rfl (by kernel_rfl) (by kernel_rfl) (by kernel_rfl) (fun _ _ _ _ h => h) ?_
      refine xpval 4 rfl (pv_indexAddrBA h792 UndC.h ShpC.h rfl rfl) rfl rfl (by kernel_rfl) (by kernel_rfl) (by kernel_rfl) (fun _ _ _ _ h => h) ?_
      refine xpvalE 2 [5] rfl (qv_loadA (f := ew) (a := f758) (k := 1) (off := 0) (i := (x757 : Int).toNat) 1 [] [] h790b (by first | rfl | (simp only [cellsS, List.append_assoc, List.nil_append, List.append_nil, List.cons_append]; done) | (simp only [cellsS, List.append_assoc, List.nil_append, List.append_nil, List.cons_append]; rfl)) (by first | rfl | (simp only [seg_len, List.length_append, List.length_cons, List.length_nil]; omega) | omega) (by decide) rfl ShpC.h rfl rfl) rfl rfl (by kernel_rfl) (by kernel_rfl) (by kernel_rfl) (fun _ _ _ _ h => h) ?_
      refine xpvalE 5 [] rfl (qv_loadA (f := ew) (a := y735) (k := 1) (off := 0) (i := (x757 : Int).toNat) 0 [] [] h792b (by first | rfl | (simp only [cellsS, List.append_assoc, List.nil_append, List.append_nil, List.cons_append]; done) | (simp only [cellsS, List.append_assoc, List.nil_append, List.append_nil, List.cons_append]; rfl)) (by first | rfl | (simp only [seg_len, List.length_append, List.length_cons, List.length_nil]; omega) | omega) (by decide) rfl ShpC.h rfl rfl) rfl rfl (by kernel_rfl) (by kernel_rfl) (by kernel_rfl) (fun _ _ _ _ h => h) ?_
      refine xpval 6 rfl (pv_wr h794 rfl rfl rfl) rfl rfl (by kernel_rfl) (by kernel_rfl) (by kernel_rfl) (fun _ _ _ _ h => h) ?_
      refine xpval 7 rfl (pv_indexAddrBA h796 UndC.h ShpC.h rfl rfl) rfl rfl (by kernel_rfl) (by kernel_rfl) (by kernel_rfl) (fun _ _ _ _ h => h) ?_
      refine xpstep (i := 8) (by kernel_rfl) rfl ?_
      refine wstoreA (f := ew) (a := f758) (k := 1) (off := 0) (i := (x757 : Int).toNat) 1 [] [] c795 h796b (by first | rfl | (simp only [cellsS, List.append_assoc, List.nil_append, List.append_nil, List.cons_append]; done) | (simp only [cellsS, List.append_assoc, List.nil_append, List.append_nil, List.cons_append]; rfl)) (by first | rfl | (simp only [seg_len, List.length_append, List.length_cons, List.length_nil]; omega) | omega) (by decide) ShpC.h rfl rfl rfl rfl (by first | rfl | (rw [seg_len]; done) | (simp only [seg_len, cellsS, List.length_append, List.length_cons, List.length_nil]; done) | (simp only [seg_len, cellsS, List.length_append, List.length_cons, List.length_nil]; rfl)) rfl rfl ?_
      refine preb 1 ((List.map ew ((Arr.set f758 (x757 : Int).toNat c795)).l).flatten) rfl (by first | rfl | (simp only [cellsS, List.append_assoc, List.nil_append, List.append_nil, List.cons_append]; done) | (simp only [cellsS, List.append_assoc, List.nil_append, List.append_nil, List.cons_append]; rfl)) ?_
      refine xpdone (by kernel_rfl) ?_
      refine xin_normal ?_
      refine xthen ?_
      refine xregion ?_
      obtain ⟨h798, h⟩ := h
      refine xvalP (pv_addI h798 rfl rfl) rfl rfl ?_
      refine xvalP (pv_move rfl) rfl rfl ?_
      refine xnil ?_
      obtain ⟨m', hm, hI⟩ := hag2 _ h
      exact xagain ⟨(x757 + 1), (Arr.set f758 (x757 : Int).toNat c795), hI, rfl⟩ hm ⟨(.cons rfl (.refl _) (.cons rfl (.refl _) (.cons rfl (.refl _) (.cons rfl (.refl _) (.cons rfl (.refl _) (.cons rfl (.refl _) (.cons rfl (.refl _) (.nil _)))))))), (SubM.of (.keep rfl rfl (.refl _) (.keep rfl rfl (.refl _) (.keep rfl rfl (.refl _) (.nil _)))) (.nil _))⟩
    · replace h := h.2 hp781
      refine xcondF' (decide_eq_false hp781) rfl ?_
      refine xexit ?_
      refine xthen_exit ?_
      refine xthen_exit ?_
      refine xin_same rfl ?_
      refine xin_normal ?_
      refine xthen ?_
      refine xregion ?_
      obtain ⟨h799, h⟩ := h
      refine xvalP (pv_addI h799 rfl rfl) rfl rfl ?_
      refine xvalP (pv_move rfl) rfl rfl ?_
      refine xnil ?_
      obtain ⟨m', hm, hI⟩ := hag1 _ h
      exact xagain ⟨(x534 + 1), f758, hI, rfl⟩ hm ⟨(.cons rfl (.refl _) (.cons rfl (.refl _) (.cons rfl (.refl _) (.cons rfl (.refl _) (.cons rfl (.refl _) (.nil _)))))), (SubM.of (.drop (.keep rfl rfl (.refl _) (.keep rfl rfl (.refl _) (.nil _)))) (.nil _))⟩
  · replace h := h.2 hp670
    refine xcondF' (decide_eq_false hp670) rfl ?_
    refine xexit ?_
    refine xthen_exit ?_
    refine xthen_exit ?_
    refine xin_same rfl ?_
    refine xthen ?_
    refine xseq ?_
    refine xregion ?_
    refine xval (qv_loadP 0 [] ((List.map ew f535.l).flatten) [] (by first | rfl | (simp only [cellsS, List.append_assoc, List.nil_append, List.append_nil, List.cons_append]; done) | (simp only [cellsS, List.append_assoc, List.nil_append, List.append_nil, List.cons_append]; rfl)) (by first | rfl | (rw [seg_len]; done) | (simp only [seg_len, cellsS, List.length_append, List.length_cons, List.length_nil]; done) | (simp only [seg_len, cellsS, List.length_append, List.length_cons, List.length_nil]; rfl)) (by first | rfl | (rw [seg_len]; done) | (simp only [seg_len, cellsS, List.length_append, List.length_cons, List.length_nil]; done) | (simp only [seg_len, cellsS, List.length_append, List.length_cons, List.length_nil]; rfl)) (part_all (seg_lenE (by rfl))) ShpC.h rfl rfl) rfl rfl ?_
    refine xstoreP 1 [] ((List.map ew ((Arr.rep 4 (0 : UInt64))).l).flatten) [] (by first | rfl | (simp only [cellsS, List.append_assoc, List.nil_append, List.append_nil, List.cons_append]; done) | (simp only [cellsS, List.append_assoc, List.nil_append, List.append_nil, List.cons_append]; rfl)) (by first | rfl | (rw [seg_len]; done) | (simp only [seg_len, cellsS, List.length_append, List.length_cons, List.length_nil]; done) | (simp only [seg_len, cellsS, List.length_append, List.length_cons, List.length_nil]; rfl)) (by first | rfl | (rw [seg_len]; done) | (simp only [seg_len, cellsS, List.length_append, List.length_cons, List.length_nil]; done) | (simp only [seg_len, cellsS, List.length_append, List.length_cons, List.length_nil]; rfl)) ShpC.h rfl rfl rfl rfl (by first | rfl | (rw [seg_len]; done) | (simp only [seg_len, cellsS, List.length_append, List.length_cons, List.length_nil]; done) | (simp only [seg_len, cellsS, List.length_append, List.length_cons, List.length_nil]; rfl)) rfl ?_
    refine xreb 1 ((List.map ew f535.l).flatten) rfl (by first | rfl | (simp only [cellsS, List.append_assoc, List.nil_append, List.append_nil, List.cons_append]; done) | (simp only [cellsS, List.append_assoc, List.nil_append, List.append_nil, List.cons_append]; rfl)) ?_
    refine xnil ?_
    refine xthen ?_
    refine xretc ?_
    replace h := h.symm
    subst h
    exact xretL (rs := [.cell 2 24]) (ss := [.agg ((List.map ew f535.l).flatten)]) hg rfl (by refine RetL.cell 1 ShpC.h rfl rfl (part_midE (pre := []) (mid := ((List.map ew f535.l).flatten)) (post := []) (by first | rfl | (simp only [cellsS, List.append_assoc, List.nil_append, List.append_nil, List.cons_append]; done) | (simp only [cellsS, List.append_assoc, List.nil_append, List.append_nil, List.cons_append]; rfl)) (by first | rfl | (rw [seg_len]; done) | (simp only [seg_len, cellsS, List.length_append, List.length_cons, List.length_nil]; done) | (simp only [seg_len, cellsS, List.length_append, List.length_cons, List.length_nil]; rfl)) (by first | rfl | (rw [seg_len]; done) | (simp only [seg_len, cellsS, List.length_append, List.length_cons, List.length_nil]; done) | (simp only [seg_len, cellsS, List.length_append, List.length_cons, List.length_nil]; rfl)) (part_all (seg_lenE (by rfl)))) (len_midE (pre := []) (mid := ((List.map ew f535.l).flatten)) (post := []) (by first | rfl | (simp only [cellsS, List.append_assoc, List.nil_append, List.append_nil, List.cons_append]; done) | (simp only [cellsS, List.append_assoc, List.nil_append, List.append_nil, List.cons_append]; rfl)) (by first | rfl | (rw [seg_len]; done) | (simp only [seg_len, cellsS, List.length_append, List.length_cons, List.length_nil]; done) | (simp only [seg_len, cellsS, List.length_append, List.length_cons, List.length_nil]; rfl)) (by first | rfl | (rw [seg_len]; done) | (simp only [seg_len, cellsS, List.length_append, List.length_cons, List.length_nil]; done) | (simp only [seg_len, cellsS, List.length_append, List.length_cons, List.length_nil]; rfl))) (by first | with_reducible exact Wk.refl _ | exact Wk.nil_own _ | exact Wk.nil_pl _ | with_reducible exact Wk.tok _ _ _ | exact Wk.tok _ _ _ | exact .eq rfl) ?_; exact RetL.nil) (SubM.of (.nil _) (.nil _)) ⟨rfl, rfl, rfl⟩
/-- palinodelaw05.ClassUnions -/
def palinodelaw05_ClassUnions_j2 (i82 : Int) (ag1 : (Bool × Int) → Prop) (inv112 : Bool) (r : Bool) : Prop :=
  InR (i82 + 1) ∧ ag1 (inv112, (i82 + 1))
def palinodelaw05_ClassUnions_j3 (x138 : Bool) (r : Bool) : Prop :=
  r = x138
def palinodelaw05_ClassUnions_l1 (l1 : List (Arr 4 (UInt64))) (c2 : UInt8) (ag1 : (Bool × Int) → Prop) (inv81 : Bool) (i82 : Int) (r : Bool) : Prop :=
  ((i82 < (l1.length : Int) → ((inv81 = true → palinodelaw05_ClassUnions_j2 i82 ag1 true r) ∧ (¬ (inv81 = true) → 0 ≤ (i82 : Int) ∧ ∃ y114 : Arr 4 (UInt64), l1[(i82 : Int).toNat]? = some y114 ∧ ∃ y117 : Bool, palinoderef05_Has_R y114 c2 y117 ∧ palinodelaw05_ClassUnions_j2 i82 ag1 y117 r))) ∧ (¬ (i82 < (l1.length : Int)) → ∃ y120 : (Arr 4 (UInt64)), class_Union_R l1 y120 ∧ ∃ y140 : Bool, class_Has_R y120 c2 y140 ∧ (((y140 == inv81) = true → ∃ y144 : (Arr 4 (UInt64)), class_Union_R ([y120, y120]) y144 ∧ (((y144 : Arr 4 (UInt64)) = y120 → ∃ y149 : (Arr 4 (UInt64)), class_Union_R ([] : List (Arr 4 (UInt64))) y149 ∧ (((y149 : Arr 4 (UInt64)) = (Arr.rep 4 (0 : UInt64)) → ∃ y153 : Bool, palinodelaw05_awake_R y153 ∧ palinodelaw05_ClassUnions_j3 y153 r) ∧ (¬ ((y149 : Arr 4 (UInt64)) = (Arr.rep 4 (0 : UInt64))) → palinodelaw05_ClassUnions_j3 false r))) ∧ (¬ ((y144 : Arr 4 (UInt64)) = y120) → palinodelaw05_ClassUnions_j3 false r))) ∧ (¬ ((y140 == inv81) = true) → palinodelaw05_ClassUnions_j3 false r))))
def palinodelaw05_ClassUnions_R (l1 : List (Arr 4 (UInt64))) (c2 : UInt8) (r : Bool) : Prop :=
  ((12 < (l1.length : Int) → ∃ y12 : Bool, palinodelaw05_awake_R y12 ∧ r = y12) ∧ (¬ (12 < (l1.length : Int)) → LoopR (fun ag1 s => palinodelaw05_ClassUnions_l1 l1 c2 ag1 s.1 s.2 r) (false, 0)))
set_option maxHeartbeats 4000000 in
theorem palinodelaw05_ClassUnions_con (l1 : List (Arr 4 (UInt64))) (c2 : UInt8) (r : Bool) (h : palinodelaw05_ClassUnions_R l1 c2 r) : Con Try.prog 4 [.sl 4 none (List.map E_palinode_api_Set l1), .v (.int .u8 ((c2.toNat : Int)))] [] [] (Ret (.v (.bool r))) := by
  refine xenter Try.func4 rfl rfl fun g hg => ?_
  simp only [Try.ntmps4, slots]
  refine xseq ?_
  refine xregion ?_
  refine xvalP (pv_assign rfl) rfl rfl ?_
  refine xnil ?_
  refine xthen ?_
  refine xseq ?_
  refine xseq ?_
  refine xregion ?_
  refine xvalP (pv_move rfl) rfl rfl ?_
  refine xvalP (pv_lenM UndC.h rfl) rfl rfl ?_
  refine xvalP (pv_bin2 rfl rfl rfl) rfl rfl ?_
  refine xnil ?_
  refine xthen ?_
  by_cases hp10 : 12 < (l1.length : Int)
  · replace h := h.1 hp10
    refine xcondT' (decide_eq_true hp10) rfl ?_
    refine xseq ?_
    refine xregion ?_
    obtain ⟨y12, h11, h⟩ := h
    refine xcall0 (palinodelaw05_awake_con _ h11) Try.func14 (by kernel_rfl) rfl .nil rfl rfl ?_
    refine xvalP (pv_assign rfl) rfl rfl ?_
    refine xnil ?_
    refine xthen ?_
    refine xretc ?_
    refine xthen_ret ?_
    replace h := h.symm
    subst h
    exact xret1 hg rfl rfl (.refl _) (SubM.of (.nil _) (.nil _)) ⟨rfl, rfl, rfl⟩
  · replace h := h.2 hp10
    refine xcondF' (decide_eq_false hp10) rfl ?_
    refine xskipc ?_
    refine xthen ?_
    refine xseq ?_
    refine xregion ?_
    refine xvalP (pv_assign rfl) rfl rfl ?_
    refine xnil ?_
    refine xthen ?_
    refine xseq ?_
    refine xseq ?_
    refine xregion ?_
    refine xvalP (pv_assign rfl) rfl rfl ?_
    refine xnil ?_
    refine xthen ?_
    refine xblock ?_
    obtain ⟨Inv, ⟨m0, hI⟩, hS⟩ := h
    refine xloop (fun σ m => ∃ (inv81 : Bool), ∃ (i82 : Int), Inv (inv81, i82) m ∧ σ = ⟨[(0, .sl 4 none (List.map E_palinode_api_Set l1)), (1, .v (.int .u8 ((c2.toNat : Int)))), (5, .v (.bool inv81)), (6, .v (.int .i64 i82))], [], []⟩) ⟨false, 0, hI, rfl⟩ ⟨(.cons rfl (.refl _) (.cons rfl (.refl _) (.cons rfl (.refl _) (.cons rfl (.refl _) (.nil _))))), (SubM.of (.nil _) (.nil _))⟩ ?_
    rintro _ m ⟨inv81, i82, hI, rfl⟩
    obtain ⟨ag1, hag1, h⟩ : ∃ ag, (∀ s', ag s' → ∃ m', m' < m ∧ Inv s' m') ∧ palinodelaw05_ClassUnions_l1 l1 c2 ag inv81 i82 r := ⟨_, fun _ h => h, hS (inv81, i82) _ hI⟩
    clear hS hI
    refine xseq ?_
    refine xseq ?_
    refine xregion ?_
    refine xvalP (pv_move rfl) rfl rfl ?_
    refine xvalP (pv_move rfl) rfl rfl ?_
    refine xvalP (pv_lenM UndC.h rfl) rfl rfl ?_
    refine xvalP (pv_bin2 rfl rfl rfl) rfl rfl ?_
    refine xnil ?_
    refine xthen ?_
    by_cases hp106 : i82 < (l1.length : Int)
    · replace h := h.1 hp106
      refine xcondT' (decide_eq_true hp106) rfl ?_
      refine xskipc ?_
      refine xthen ?_
      refine xseqM (fun σ => ∃ (inv112 : Bool), palinodelaw05_ClassUnions_j2 i82 ag1 inv112 r ∧ σ = ⟨[(0, .sl 4 none (List.map E_palinode_api_Set l1)), (1, .v (.int .u8 ((c2.toNat : Int)))), (5, .v (.bool inv112)), (6, .v (.int .i64 i82))], [], []⟩) ?_ ?_
      · refine xblock ?_
        refine xregion ?_
        refine xvalP (pv_move rfl) rfl rfl ?_
        refine xvalP (pv_move rfl) rfl rfl ?_
        by_cases hp113 : inv81 = true
        · replace h := h.1 hp113
          refine xsetB 19 hp113 rfl ?_
          refine xskip rfl rfl ?_
          refine xskip rfl rfl ?_
          refine xskip rfl rfl ?_
          refine xskip rfl rfl ?_
          refine xskip rfl rfl ?_
          refine xskip rfl rfl ?_
          refine xvalP (pv_pick rfl rfl) rfl rfl ?_
          refine xvalP (pv_assign rfl) rfl rfl ?_
          refine xnil ?_
          refine xin_normal ?_
          exact xmeet ⟨true, h, rfl⟩ ⟨(.cons rfl (.refl _) (.cons rfl (.refl _) (.cons rfl (.refl _) (.cons rfl (.refl _) (.nil _))))), (SubM.of (.nil _) (.nil _))⟩
        · replace h := h.2 hp113
          refine xsetB 19 (b_f hp113) rfl ?_
          refine xvalP (pv_move rfl) rfl rfl ?_
          refine xvalP (pv_move rfl) rfl rfl ?_
          obtain ⟨h115a, h⟩ := h
          obtain ⟨y114, h115b, h⟩ := h
          refine xvalP (pv_indexAddrM h115a h115b UndC.h ShpC.h rfl rfl) rfl rfl ?_
          refine xval (qv_loadEP ((List.map ew y114.l).flatten) [] (by first | rfl | (simp only [cellsS, List.append_assoc, List.nil_append, List.append_nil, List.cons_append]; done) | (simp only [cellsS, List.append_assoc, List.nil_append, List.append_nil, List.cons_append]; rfl)) (by first | rfl | (rw [seg_len]; done) | (simp only [seg_len, cellsS, List.length_append, List.length_cons, List.length_nil]; done) | (simp only [seg_len, cellsS, List.length_append, List.length_cons, List.length_nil]; rfl)) (part_all (seg_lenE (by rfl))) ShpC.h rfl) rfl rfl ?_
          refine xvalP (pv_move rfl) rfl rfl ?_
          obtain ⟨y117, h116, h⟩ := h
          refine xcall0 (palinoderef05_Has_con y114 c2 _ h116) Try.func9 (by kernel_rfl) rfl (.cons rfl (.refl _) (.cons rfl (.refl _) .nil)) rfl rfl ?_
          refine xvalP (pv_pick rfl rfl) rfl rfl ?_
          refine xvalP (pv_assign rfl) rfl rfl ?_
          refine xnil ?_
          refine xin_normal ?_
          exact xmeet ⟨y117, h, rfl⟩ ⟨(.cons rfl (.refl _) (.cons rfl (.refl _) (.cons rfl (.refl _) (.cons rfl (.refl _) (.nil _))))), (SubM.of (.nil _) (.nil _))⟩
      · clear h
        rintro _ ⟨inv112, h, rfl⟩
        refine xregion ?_
        refine xvalP (pv_move rfl) rfl rfl ?_
        obtain ⟨h118, h⟩ := h
        refine xvalP (pv_addI h118 rfl rfl) rfl rfl ?_
        refine xvalP (pv_assign rfl) rfl rfl ?_
        refine xnil ?_
        obtain ⟨m', hm, hI⟩ := hag1 _ h
        exact xagain ⟨inv112, (i82 + 1), hI, rfl⟩ hm ⟨(.cons rfl (.refl _) (.cons rfl (.refl _) (.cons rfl (.refl _) (.cons rfl (.refl _) (.nil _))))), (SubM.of (.nil _) (.nil _))⟩
    · replace h := h.2 hp106
      refine xcondF' (decide_eq_false hp106) rfl ?_
      refine xexit ?_
      refine xthen_exit ?_
      refine xthen_exit ?_
      refine xin_same rfl ?_
      refine xthen ?_
      refine xseq ?_
      refine xregion ?_
      refine xvalP (pv_move rfl) rfl rfl ?_
      obtain ⟨y120, h119, h⟩ := h
      refine xcall0 (class_Union_con l1 _ h119) Try.func15 (by kernel_rfl) rfl (.cons rfl (.refl _) .nil) rfl rfl ?_
      refine xalloc InfC.h rfl rfl fun b7 => ?_
      refine xreb 0 ((List.map ew ((Arr.rep 4 (0 : UInt64))).l).flatten) rfl rfl ?_
      refine xstoreP 0 [] ((List.map ew ((Arr.rep 4 (0 : UInt64))).l).flatten) [] (by first | rfl | (simp only [cellsS, List.append_assoc, List.nil_append, List.append_nil, List.cons_append]; done) | (simp only [cellsS, List.append_assoc, List.nil_append, List.append_nil, List.cons_append]; rfl)) (by first | rfl | (rw [seg_len]; done) | (simp only [seg_len, cellsS, List.length_append, List.length_cons, List.length_nil]; done) | (simp only [seg_len, cellsS, List.length_append, List.length_cons, List.length_nil]; rfl)) (by first | rfl | (rw [seg_len]; done) | (simp only [seg_len, cellsS, List.length_append, List.length_cons, List.length_nil]; done) | (simp only [seg_len, cellsS, List.length_append, List.length_cons, List.length_nil]; rfl)) ShpC.h rfl rfl rfl rfl (by first | rfl | (rw [seg_len]; done) | (simp only [seg_len, cellsS, List.length_append, List.length_cons, List.length_nil]; done) | (simp only [seg_len, cellsS, List.length_append, List.length_cons, List.length_nil]; rfl)) rfl ?_
      refine xreb 0 ((List.map ew y120.l).flatten) rfl (by first | rfl | (simp only [cellsS, List.append_assoc, List.nil_append, List.append_nil, List.cons_append]; done) | (simp only [cellsS, List.append_assoc, List.nil_append, List.append_nil, List.cons_append]; rfl)) ?_
      refine xnil ?_
      refine xthen ?_
      refine xseqM (fun σ => ∃ (x138 : Bool), palinodelaw05_ClassUnions_j3 x138 r ∧ σ = ⟨[(4, .v (.bool x138))], [], []⟩) ?_ ?_
      · refine xregionD (m := 22) (by kernel_rfl) rfl ?_
        obtain ⟨y140, h139, h⟩ := h
        refine xpval 1 rfl (pv_move rfl) rfl rfl (by kernel_rfl) (by kernel_rfl) (by kernel_rfl) (fun _ _ _ _ h => h) ?_
        refine xpval 3 rfl (pv_move rfl) rfl rfl (by kernel_rfl) (by kernel_rfl) (by kernel_rfl) (fun _ _ _ _ h => h) ?_
        refine xpvalE 0 [] rfl (qv_loadP 0 [] ((List.map ew y120.l).flatten) [] (by first | rfl | (simp only [cellsS, List.append_assoc, List.nil_append, List.append_nil, List.cons_append]; done) | (simp only [cellsS, List.append_assoc, List.nil_append, List.append_nil, List.cons_append]; rfl)) (by first | rfl | (rw [seg_len]; done) | (simp only [seg_len, cellsS, List.length_append, List.length_cons, List.length_nil]; done) | (simp only [seg_len, cellsS, List.length_append, List.length_cons, List.length_nil]; rfl)) (by first | rfl | (rw [seg_len]; done) | (simp only [seg_len, cellsS, List.length_append, List.length_cons, List.length_nil]; done) | (simp only [seg_len, cellsS, List.length_append, List.length_cons, List.length_nil]; rfl)) (part_all (seg_lenE (by rfl))) ShpC.h rfl rfl) rfl rfl (by kernel_rfl) (by kernel_rfl) (by kernel_rfl) (fun _ _ _ _ h => h) ?_
        refine xpstep (i := 2) (by kernel_rfl) rfl ?_
        refine wcall0 (class_Has_con y120 c2 _ h139) Try.func8 (by kernel_rfl) rfl (.cons rfl (.refl _) (.cons rfl (.refl _) .nil)) rfl rfl ?_
        refine xpval 4 rfl (pv_eqB UndC.h rfl rfl) rfl rfl (by kernel_rfl) (by kernel_rfl) (by kernel_rfl) (fun _ _ _ _ h => h) ?_
        refine xpval 5 rfl (pv_move rfl) rfl rfl (by kernel_rfl) (by kernel_rfl) (by kernel_rfl) (fun _ _ _ _ h => h) ?_
        by_cases hp142 : (y140 == inv81) = true
        · replace h := h.1 hp142
          refine psetB 34 hp142 rfl ?_
          obtain ⟨y144, h143, h⟩ := h
          refine xpcut 8 #[true, true, true, true, true, true, true, true, true, true, true, true, true, true, false, false, false, false, false, false, false, false] (fun σ => σ = ⟨[(42, .v (.bool (decide ((y144 : Arr 4 (UInt64)) = y120))))], [], []⟩) ?_ (fun key146 => ?_)
          · rintro _ rfl
            by_cases hp147 : (y144 : Arr 4 (UInt64)) = y120
            · replace h := h.1 hp147
              refine psetB 42 (decide_eq_true hp147) rfl ?_
              obtain ⟨y149, h148, h⟩ := h
              refine xpval 15 rfl (pv_buildAC (cs := ((List.map ew ((Arr.rep 4 (0 : UInt64))).l).flatten)) UndC.h ShpC.h InfC.h rfl (by rfl)) rfl rfl (by kernel_rfl) (by kernel_rfl) (by kernel_rfl) (fun _ _ _ _ h => h) ?_
              refine xpstep (i := 14) (by kernel_rfl) rfl ?_
              refine wcall0 (class_Union_con ([] : List (Arr 4 (UInt64))) _ h148) Try.func15 (by kernel_rfl) rfl (.cons rfl (.nil_pl _) .nil) rfl rfl ?_
              refine xpval 16 rfl (pv_eqAgg (f := E_palinode_api_Set) (a := y149) (b := (Arr.rep 4 (0 : UInt64))) (eqC_arr (t := 24) (e := 22) (f := ew) UndC.h ShpC.h (by kernel_rfl) inferInstance (fun _ => rfl)) (by decide) (by kernel_rfl) (by first | rfl | exact congrArg (fun q => some (Sd.agg q)) (by first | rfl | (simp only [cellsS, List.append_assoc, List.nil_append, List.append_nil, List.cons_append]; done) | (simp only [cellsS, List.append_assoc, List.nil_append, List.append_nil, List.cons_append]; rfl))) (by first | rfl | exact congrArg (fun q => some (Sd.agg q)) (by first | rfl | (simp only [cellsS, List.append_assoc, List.nil_append, List.append_nil, List.cons_append]; done) | (simp only [cellsS, List.append_assoc, List.nil_append, List.append_nil, List.cons_append]; rfl)))) rfl rfl (by kernel_rfl) (by kernel_rfl) (by kernel_rfl) (fun _ _ _ _ h => h) ?_
              refine xpval 17 rfl (pv_pick rfl rfl) rfl rfl (by kernel_rfl) (by kernel_rfl) (by kernel_rfl) (fun _ _ _ _ h => h) ?_
              refine xpval 18 rfl (pv_move rfl) rfl rfl (by kernel_rfl) (by kernel_rfl) (by kernel_rfl) (fun _ _ _ _ h => h) ?_
              by_cases hp151 : (y149 : Arr 4 (UInt64)) = (Arr.rep 4 (0 : UInt64))
              · replace h := h.1 hp151
                refine psetB 47 (decide_eq_true hp151) rfl ?_
                obtain ⟨y153, h152, h⟩ := h
                refine xpstep (i := 19) (by kernel_rfl) rfl ?_
                refine wcall0 (palinodelaw05_awake_con _ h152) Try.func14 (by kernel_rfl) rfl .nil rfl rfl ?_
                refine xpval 20 rfl (pv_pick rfl rfl) rfl rfl (by kernel_rfl) (by kernel_rfl) (by kernel_rfl) (fun _ _ _ _ h => h) ?_
                refine xpval 21 rfl (pv_assign rfl) rfl rfl (by kernel_rfl) (by kernel_rfl) (by kernel_rfl) (fun _ _ _ _ h => h) ?_
                refine xpdone (by kernel_rfl) ?_
                exact xmeet ⟨y153, h, rfl⟩ ⟨(.cons rfl (.refl _) (.nil _)), (SubM.of (.nil _) (.nil _))⟩
              · replace h := h.2 hp151
                refine psetB 47 (decide_eq_false hp151) rfl ?_
                refine xpskip 19 rfl rfl rfl (by kernel_rfl) (by kernel_rfl) (by kernel_rfl) (fun _ _ _ _ h => h) ?_
                refine xpval 20 rfl (pv_pick rfl rfl) rfl rfl (by kernel_rfl) (by kernel_rfl) (by kernel_rfl) (fun _ _ _ _ h => h) ?_
                refine xpval 21 rfl (pv_assign rfl) rfl rfl (by kernel_rfl) (by kernel_rfl) (by kernel_rfl) (fun _ _ _ _ h => h) ?_
                refine xpdone (by kernel_rfl) ?_
                exact xmeet ⟨false, h, rfl⟩ ⟨(.cons rfl (.refl _) (.nil _)), (SubM.of (.nil _) (.nil _))⟩
            · replace h := h.2 hp147
              refine psetB 42 (decide_eq_false hp147) rfl ?_
              refine xpskip 14 rfl rfl rfl (by kernel_rfl) (by kernel_rfl) (by kernel_rfl) (fun _ _ _ _ h => h) ?_
              refine xpskip 15 rfl rfl rfl (by kernel_rfl) (by kernel_rfl) (by kernel_rfl) (fun _ _ _ _ h => h) ?_
              refine xpskip 16 rfl rfl rfl (by kernel_rfl) (by kernel_rfl) (by kernel_rfl) (fun _ _ _ _ h => h) ?_
              refine xpval 17 rfl (pv_pick rfl rfl) rfl rfl (by kernel_rfl) (by kernel_rfl) (by kernel_rfl) (fun _ _ _ _ h => h) ?_
              refine xpval 18 rfl (pv_move rfl) rfl rfl (by kernel_rfl) (by kernel_rfl) (by kernel_rfl) (fun _ _ _ _ h => h) ?_
              refine xpskip 19 rfl rfl rfl (by kernel_rfl) (by kernel_rfl) (by kernel_rfl) (fun _ _ _ _ h => h) ?_
              refine xpval 20 rfl (pv_pick rfl rfl) rfl rfl (by kernel_rfl) (by kernel_rfl) (by kernel_rfl) (fun _ _ _ _ h => h) ?_
              refine xpval 21 rfl (pv_assign rfl) rfl rfl (by kernel_rfl) (by kernel_rfl) (by kernel_rfl) (fun _ _ _ _ h => h) ?_
              refine xpdone (by kernel_rfl) ?_
              exact xmeet ⟨false, h, rfl⟩ ⟨(.cons rfl (.refl _) (.nil _)), (SubM.of (.nil _) (.nil _))⟩
          refine xpcut 12 #[true, true, true, true, true, true, true, true, true, false, true, false, false, false, false, false, false, false, false, false, false, false] (fun σ => ∃ (i154 : Option (Nat × Nat)), σ = ⟨[(34, .v (.bool true)), (37, .sl 4 (some i154) (List.map E_palinode_api_Set ([y120, y120]))), (39, .agg ((List.map ew y120.l).flatten))], [], [⟨i154, 24, 4, ([y120, y120]).length⟩]⟩) ?_ (fun key155 => ?_)
          · rintro _ ⟨i154, rfl⟩
            refine xpstep (i := 9) (by kernel_rfl) rfl ?_
            refine wcall0 (class_Union_con ([y120, y120]) _ h143) Try.func15 (by kernel_rfl) rfl (.cons rfl (.tok _ _ _) .nil) rfl rfl ?_
            refine xpval 11 rfl (pv_eqAgg (f := E_palinode_api_Set) (a := y144) (b := y120) (eqC_arr (t := 24) (e := 22) (f := ew) UndC.h ShpC.h (by kernel_rfl) inferInstance (fun _ => rfl)) (by decide) (by kernel_rfl) (by first | rfl | exact congrArg (fun q => some (Sd.agg q)) (by first | rfl | (simp only [cellsS, List.append_assoc, List.nil_append, List.append_nil, List.cons_append]; done) | (simp only [cellsS, List.append_assoc, List.nil_append, List.append_nil, List.cons_append]; rfl))) (by first | rfl | exact congrArg (fun q => some (Sd.agg q)) (by first | rfl | (simp only [cellsS, List.append_assoc, List.nil_append, List.append_nil, List.cons_append]; done) | (simp only [cellsS, List.append_assoc, List.nil_append, List.append_nil, List.cons_append]; rfl)))) rfl rfl (by kernel_rfl) (by kernel_rfl) (by kernel_rfl) (fun _ _ _ _ h => h) ?_
            refine xpval 12 rfl (pv_pick rfl rfl) rfl rfl (by kernel_rfl) (by kernel_rfl) (by kernel_rfl) (fun _ _ _ _ h => h) ?_
            refine xpval 13 rfl (pv_move rfl) rfl rfl (by kernel_rfl) (by kernel_rfl) (by kernel_rfl) (fun _ _ _ _ h => h) ?_
            exact xpuse key146 rfl ⟨(.cons rfl (.refl _) (.nil _)), (SubM.of (.nil _) (.nil _))⟩ rfl (by kernel_rfl)
          refine xpvalE 6 [7, 10] rfl (qv_loadP 0 [] ((List.map ew y120.l).flatten) [] (by first | rfl | (simp only [cellsS, List.append_assoc, List.nil_append, List.append_nil, List.cons_append]; done) | (simp only [cellsS, List.append_assoc, List.nil_append, List.append_nil, List.cons_append]; rfl)) (by first | rfl | (rw [seg_len]; done) | (simp only [seg_len, cellsS, List.length_append, List.length_cons, List.length_nil]; done) | (simp only [seg_len, cellsS, List.length_append, List.length_cons, List.length_nil]; rfl)) (by first | rfl | (rw [seg_len]; done) | (simp only [seg_len, cellsS, List.length_append, List.length_cons, List.length_nil]; done) | (simp only [seg_len, cellsS, List.length_append, List.length_cons, List.length_nil]; rfl)) (part_all (seg_lenE (by rfl))) ShpC.h rfl rfl) rfl rfl (by kernel_rfl) (by kernel_rfl) (by kernel_rfl) (fun _ _ _ _ h => h) ?_
          refine xpvalE 7 [10] rfl (qv_loadP 0 [] ((List.map ew y120.l).flatten) [] (by first | rfl | (simp only [cellsS, List.append_assoc, List.nil_append, List.append_nil, List.cons_append]; done) | (simp only [cellsS, List.append_assoc, List.nil_append, List.append_nil, List.cons_append]; rfl)) (by first | rfl | (rw [seg_len]; done) | (simp only [seg_len, cellsS, List.length_append, List.length_cons, List.length_nil]; done) | (simp only [seg_len, cellsS, List.length_append, List.length_cons, List.length_nil]; rfl)) (by first | rfl | (rw [seg_len]; done) | (simp only [seg_len, cellsS, List.length_append, List.length_cons, List.length_nil]; done) | (simp only [seg_len, cellsS, List.length_append, List.length_cons, List.length_nil]; rfl)) (part_all (seg_lenE (by rfl))) ShpC.h rfl rfl) rfl rfl (by kernel_rfl) (by kernel_rfl) (by kernel_rfl) (fun _ _ _ _ h => h) ?_
          refine xpstepN (is := [8, 10]) (by kernel_rfl) (by simp) ?_
          intro i hi; simp only [List.mem_cons, List.not_mem_nil, or_false] at hi; rcases hi with rfl | rfl
          · refine ⟨_, rfl, ?_⟩
            refine wbuildSliceME (f := E_palinode_api_Set) [y120, y120] UndC.h InfC.h rfl (.cons rfl (beq_of (seg_lenE (by rfl))) rfl rfl (.cons rfl (beq_of (seg_lenE (by rfl))) rfl rfl .nil)) (by first | exact wkR_of rfl | (repeat (first | exact WkR.nil | refine WkR.cons (by (repeat (first | exact WkL.nil | refine WkL.cons (by first | with_reducible exact Wk.refl _ | exact Wk.nil_own _ | exact Wk.nil_pl _ | with_reducible exact Wk.tok _ _ _ | exact Wk.tok _ _ _ | exact Wk.eq (by first | rfl | (simp []; done) | (simp []; omega))) ?_))) ?_))) rfl rfl rfl rfl fun s37 => ?_
            refine xpstepN (is := [9, 10]) (by kernel_rfl) (by simp) ?_
            intro i hi; simp only [List.mem_cons, List.not_mem_nil, or_false] at hi; rcases hi with rfl | rfl
            · refine ⟨_, rfl, ?_⟩
              refine wcall0 (class_Union_con ([y120, y120]) _ h143) Try.func15 (by kernel_rfl) rfl (.cons rfl (.tok _ _ _) .nil) rfl rfl ?_
              refine xpvalE 10 [] rfl (qv_loadP 0 [] ((List.map ew y120.l).flatten) [] (by first | rfl | (simp only [cellsS, List.append_assoc, List.nil_append, List.append_nil, List.cons_append]; done) | (simp only [cellsS, List.append_assoc, List.nil_append, List.append_nil, List.cons_append]; rfl)) (by first | rfl | (rw [seg_len]; done) | (simp only [seg_len, cellsS, List.length_append, List.length_cons, List.length_nil]; done) | (simp only [seg_len, cellsS, List.length_append, List.length_cons, List.length_nil]; rfl)) (by first | rfl | (rw [seg_len]; done) | (simp only [seg_len, cellsS, List.length_append, List.length_cons, List.length_nil]; done) | (simp only [seg_len, cellsS, List.length_append, List.length_cons, List.length_nil]; rfl)) (part_all (seg_lenE (by rfl))) ShpC.h rfl rfl) rfl rfl (by kernel_rfl) (by kernel_rfl) (by kernel_rfl) (fun _ _ _ _ h => h) ?_
              refine xpval 11 rfl (pv_eqAgg (f := E_palinode_api_Set) (a := y144) (b := y120) (eqC_arr (t := 24) (e := 22) (f := ew) UndC.h ShpC.h (by kernel_rfl) inferInstance (fun _ => rfl)) (by decide) (by kernel_rfl) (by first | rfl | exact congrArg (fun q => some (Sd.agg q)) (by first | rfl | (simp only [cellsS, List.append_assoc, List.nil_append, List.append_nil, List.cons_append]; done) | (simp only [cellsS, List.append_assoc, List.nil_append, List.append_nil, List.cons_append]; rfl))) (by first | rfl | exact congrArg (fun q => some (Sd.agg q)) (by first | rfl | (simp only [cellsS, List.append_assoc, List.nil_append, List.append_nil, List.cons_append]; done) | (simp only [cellsS, List.append_assoc, List.nil_append, List.append_nil, List.cons_append]; rfl)))) rfl rfl (by kernel_rfl) (by kernel_rfl) (by kernel_rfl) (fun _ _ _ _ h => h) ?_
              refine xpval 12 rfl (pv_pick rfl rfl) rfl rfl (by kernel_rfl) (by kernel_rfl) (by kernel_rfl) (fun _ _ _ _ h => h) ?_
              refine xpval 13 rfl (pv_move rfl) rfl rfl (by kernel_rfl) (by kernel_rfl) (by kernel_rfl) (fun _ _ _ _ h => h) ?_
              exact xpuse key146 rfl ⟨(.cons rfl (.refl _) (.nil _)), (SubM.of (.nil _) (.nil _))⟩ rfl (by kernel_rfl)
            · refine ⟨_, rfl, ?_⟩
              refine wval (qv_loadP 0 [] ((List.map ew y120.l).flatten) [] (by first | rfl | (simp only [cellsS, List.append_assoc, List.nil_append, List.append_nil, List.cons_append]; done) | (simp only [cellsS, List.append_assoc, List.nil_append, List.append_nil, List.cons_append]; rfl)) (by first | rfl | (rw [seg_len]; done) | (simp only [seg_len, cellsS, List.length_append, List.length_cons, List.length_nil]; done) | (simp only [seg_len, cellsS, List.length_append, List.length_cons, List.length_nil]; rfl)) (by first | rfl | (rw [seg_len]; done) | (simp only [seg_len, cellsS, List.length_append, List.length_cons, List.length_nil]; done) | (simp only [seg_len, cellsS, List.length_append, List.length_cons, List.length_nil]; rfl)) (part_all (seg_lenE (by rfl))) ShpC.h rfl rfl) rfl rfl ?_
              exact xpuse key155 ⟨(some (s37, 2)), rfl⟩ ⟨(.cons rfl (.refl _) (.cons rfl (.refl _) (.cons rfl (.refl _) (.nil _)))), (SubM.of (.nil _) (.keep rfl (.nil _)))⟩ rfl (by kernel_rfl)
          · refine ⟨_, rfl, ?_⟩
            refine wval (qv_loadP 0 [] ((List.map ew y120.l).flatten) [] (by first | rfl | (simp only [cellsS, List.append_assoc, List.nil_append, List.append_nil, List.cons_append]; done) | (simp only [cellsS, List.append_assoc, List.nil_append, List.append_nil, List.cons_append]; rfl)) (by first | rfl | (rw [seg_len]; done) | (simp only [seg_len, cellsS, List.length_append, List.length_cons, List.length_nil]; done) | (simp only [seg_len, cellsS, List.length_append, List.length_cons, List.length_nil]; rfl)) (by first | rfl | (rw [seg_len]; done) | (simp only [seg_len, cellsS, List.length_append, List.length_cons, List.length_nil]; done) | (simp only [seg_len, cellsS, List.length_append, List.length_cons, List.length_nil]; rfl)) (part_all (seg_lenE (by rfl))) ShpC.h rfl rfl) rfl rfl ?_
            refine xpstep (i := 8) (by kernel_rfl) rfl ?_
            refine wbuildSliceME (f := E_palinode_api_Set) [y120, y120] UndC.h InfC.h rfl (.cons rfl (beq_of (seg_lenE (by rfl))) rfl rfl (.cons rfl (beq_of (seg_lenE (by rfl))) rfl rfl .nil)) (by first | exact wkR_of rfl | (repeat (first | exact WkR.nil | refine WkR.cons (by (repeat (first | exact WkL.nil | refine WkL.cons (by first | with_reducible exact Wk.refl _ | exact Wk.nil_own _ | exact Wk.nil_pl _ | with_reducible exact Wk.tok _ _ _ | exact Wk.tok _ _ _ | exact Wk.eq (by first | rfl | (simp []; done) | (simp []; omega))) ?_))) ?_))) rfl rfl rfl rfl fun s37 => ?_
            exact xpuse key155 ⟨(some (s37, 2)), rfl⟩ ⟨(.cons rfl (.refl _) (.cons rfl (.refl _) (.cons rfl (.refl _) (.nil _)))), (SubM.of (.nil _) (.keep rfl (.nil _)))⟩ rfl (by kernel_rfl)
        · replace h := h.2 hp142
          refine psetB 34 (b_f hp142) rfl ?_
          refine xpskip 6 rfl rfl rfl (by kernel_rfl) (by kernel_rfl) (by kernel_rfl) (fun _ _ _ _ h => h) ?_
          refine xpskip 7 rfl rfl rfl (by kernel_rfl) (by kernel_rfl) (by kernel_rfl) (fun _ _ _ _ h => h) ?_
          refine xpskip 8 rfl rfl rfl (by kernel_rfl) (by kernel_rfl) (by kernel_rfl) (fun _ _ _ _ h => h) ?_
          refine xpskip 9 rfl rfl rfl (by kernel_rfl) (by kernel_rfl) (by kernel_rfl) (fun _ _ _ _ h => h) ?_
          refine xpskip 10 rfl rfl rfl (by kernel_rfl) (by kernel_rfl) (by kernel_rfl) (fun _ _ _ _ h => h) ?_
          refine xpskip 11 rfl rfl rfl (by kernel_rfl) (by kernel_rfl) (by kernel_rfl) (fun _ _ _ _ h => h) ?_
          refine xpval 12 rfl (pv_pick rfl rfl) rfl rfl (by kernel_rfl) (by kernel_rfl) (by kernel_rfl) (fun _ _ _ _ h => h) ?_
          refine xpval 13 rfl (pv_move rfl) rfl rfl (by kernel_rfl) (by kernel_rfl) (by kernel_rfl) (fun _ _ _ _ h => h) ?_
          refine xpskip 14 rfl rfl rfl (by kernel_rfl) (by kernel_rfl) (by kernel_rfl) (fun _ _ _ _ h => h) ?_
          refine xpskip 15 rfl rfl rfl (by kernel_rfl) (by kernel_rfl) (by kernel_rfl) (fun _ _ _ _ h => h) ?_
          refine xpskip 16 rfl rfl rfl (by kernel_rfl) (by kernel_rfl) (by kernel_rfl) (fun _ _ _ _ h => h) ?_
          refine xpval 17 rfl (pv_pick rfl rfl) rfl rfl (by kernel_rfl) (by kernel_rfl) (by kernel_rfl) (fun _ _ _ _ h => h) ?_
          refine xpval 18 rfl (pv_move rfl) rfl rfl (by kernel_rfl) (by kernel_rfl) (by kernel_rfl) (fun _ _ _ _ h => h) ?_
          refine xpskip 19 rfl rfl rfl (by kernel_rfl) (by kernel_rfl) (by kernel_rfl) (fun _ _ _ _ h => h) ?_
          refine xpval 20 rfl (pv_pick rfl rfl) rfl rfl (by kernel_rfl) (by kernel_rfl) (by kernel_rfl) (fun _ _ _ _ h => h) ?_
          refine xpval 21 rfl (pv_assign rfl) rfl rfl (by kernel_rfl) (by kernel_rfl) (by kernel_rfl) (fun _ _ _ _ h => h) ?_
          refine xpdone (by kernel_rfl) ?_
          exact xmeet ⟨false, h, rfl⟩ ⟨(.cons rfl (.refl _) (.nil _)), (SubM.of (.nil _) (.nil _))⟩
      · clear h
        rintro _ ⟨x138, h, rfl⟩
        refine xretc ?_
        replace h := h.symm
        subst h
        exact xret1 hg rfl rfl (.refl _) (SubM.of (.nil _) (.nil _)) ⟨rfl, rfl, rfl⟩
end Go.Proofs.Ytjemjopjiohcoaa
