/- What functions' texts ask for, and the walks that show it (printed by a program). -/
import Derived.Test.YtgplmognfmjllaaGKp6
namespace Go.Proofs.Ytgplmognfmjllaa
/-- palinoderef05.Of -/
def palinoderef05_Of_j2 (iv180 : Int) (ag1 : (Int × (Arr 4 (UInt64))) → Prop) (f249 : Arr 4 (UInt64)) (r : (Arr 4 (UInt64))) : Prop :=
  InR (iv180 - 1) ∧ ag1 ((iv180 - 1), f249)
def palinoderef05_Of_l1 (inv1 : Arr 256 (Bool)) (ag1 : (Int × (Arr 4 (UInt64))) → Prop) (iv180 : Int) (f181 : Arr 4 (UInt64)) (r : (Arr 4 (UInt64))) : Prop :=
  ((0 ≤ iv180 → (64 : Int) ≠ 0 ∧ InR ((iv180 : Int).tdiv (64)) ∧ (64 : Int) ≠ 0 ∧ InR ((iv180 : Int).tdiv (64)) ∧ (0 ≤ (((iv180 : Int).tdiv (64)) : Int) ∧ (((iv180 : Int).tdiv (64)) : Int) < 4) ∧ ∃ y253 : UInt64, f181.l[(((iv180 : Int).tdiv (64)) : Int).toNat]? = some y253 ∧ ∃ c255 : UInt64, (c255.toNat : Int) = IntKind.u64.wrap ((y253.toNat : Int) * 2) ∧ (0 ≤ (((iv180 : Int).tdiv (64)) : Int) ∧ (((iv180 : Int).tdiv (64)) : Int) < 4) ∧ ∃ y257 : UInt64, f181.l[(((iv180 : Int).tdiv (64)) : Int).toNat]? = some y257 ∧ (0 ≤ (iv180 : Int) ∧ (iv180 : Int) < 256) ∧ ∃ y259 : Bool, inv1.l[(iv180 : Int).toNat]? = some y259 ∧ ((y259 = true → (64 : Int) ≠ 0 ∧ InR ((iv180 : Int).tdiv (64)) ∧ (64 : Int) ≠ 0 ∧ InR ((iv180 : Int).tdiv (64)) ∧ (0 ≤ (((iv180 : Int).tdiv (64)) : Int) ∧ (((iv180 : Int).tdiv (64)) : Int) < 4) ∧ ∃ y264 : UInt64, ((Arr.set f181 (((iv180 : Int).tdiv (64)) : Int).toNat c255)).l[(((iv180 : Int).tdiv (64)) : Int).toNat]? = some y264 ∧ ∃ c266 : UInt64, (c266.toNat : Int) = IntKind.u64.wrap ((y264.toNat : Int) + 1) ∧ (0 ≤ (((iv180 : Int).tdiv (64)) : Int) ∧ (((iv180 : Int).tdiv (64)) : Int) < 4) ∧ ∃ y268 : UInt64, ((Arr.set f181 (((iv180 : Int).tdiv (64)) : Int).toNat c255)).l[(((iv180 : Int).tdiv (64)) : Int).toNat]? = some y268 ∧ palinoderef05_Of_j2 iv180 ag1 (Arr.set ((Arr.set f181 (((iv180 : Int).tdiv (64)) : Int).toNat c255)) (((iv180 : Int).tdiv (64)) : Int).toNat c266) r) ∧ (¬ (y259 = true) → palinoderef05_Of_j2 iv180 ag1 (Arr.set f181 (((iv180 : Int).tdiv (64)) : Int).toNat c255) r))) ∧ (¬ (0 ≤ iv180) → r = f181))
def palinoderef05_Of_R (inv1 : Arr 256 (Bool)) (r : (Arr 4 (UInt64))) : Prop :=
  LoopR (fun ag1 s => palinoderef05_Of_l1 inv1 ag1 s.1 s.2 r) (255, (Arr.rep 4 (0 : UInt64)))
set_option maxHeartbeats 4000000 in
theorem palinoderef05_Of_con (inv1 : Arr 256 (Bool)) (r : (Arr 4 (UInt64))) (h : palinoderef05_Of_R inv1 r) : Con Try.prog 20 [.agg ((List.map eB inv1.l).flatten)] [] [] (Ret (.agg ((List.map ew r.l).flatten))) := by
  refine xenter Try.func20 rfl rfl fun g hg => ?_
  simp only [Try.ntmps20, slots]
  refine xseq ?_
  refine xregion ?_
  refine xbox rfl rfl rfl rfl fun b1 => ?_
  refine xalloc InfC.h rfl rfl fun b2 => ?_
  refine xreb 0 ((List.map ew ((Arr.rep 4 (0 : UInt64))).l).flatten) rfl rfl ?_
  refine xnil ?_
  refine xthen ?_
  refine xseq ?_
  refine xregion ?_
  refine xalloc InfC.h rfl rfl fun b3 => ?_
  refine xreb 0 ((List.map ew ((Arr.rep 4 (0 : UInt64))).l).flatten) rfl rfl ?_
  refine xnil ?_
  refine xthen ?_
  refine xseq ?_
  refine xseq ?_
  refine xregion ?_
  refine xvalP (pv_assign rfl) rfl rfl ?_
  refine xnil ?_
  refine xthen ?_
  refine xblock ?_
  obtain ⟨Inv, ⟨m0, hI⟩, hS⟩ := h
  refine xloop (fun σ m => ∃ (iv180 : Int), ∃ (f181 : Arr 4 (UInt64)), Inv (iv180, f181) m ∧ σ = ⟨[(1, .v (.pointer (some ⟨b1, 0, none⟩))), (2, .v (.pointer (some ⟨b2, 0, none⟩))), (3, .v (.pointer (some ⟨b3, 0, none⟩))), (4, .v (.int .i64 iv180))], [⟨b3, 26, ((List.map ew f181.l).flatten)⟩, ⟨b2, 26, ((List.map ew ((Arr.rep 4 (0 : UInt64))).l).flatten)⟩, ⟨b1, 42, ((List.map eB inv1.l).flatten)⟩], []⟩) ⟨255, (Arr.rep 4 (0 : UInt64)), hI, rfl⟩ ⟨(.cons rfl (.refl _) (.cons rfl (.refl _) (.cons rfl (.refl _) (.cons rfl (.refl _) (.nil _))))), (SubM.of (.keep rfl rfl (.refl _) (.keep rfl rfl (.refl _) (.keep rfl rfl (.refl _) (.nil _)))) (.nil _))⟩ ?_
  rintro _ m ⟨iv180, f181, hI, rfl⟩
  obtain ⟨ag1, hag1, h⟩ : ∃ ag, (∀ s', ag s' → ∃ m', m' < m ∧ Inv s' m') ∧ palinoderef05_Of_l1 inv1 ag iv180 f181 r := ⟨_, fun _ h => h, hS (iv180, f181) _ hI⟩
  clear hS hI
  refine xseq ?_
  refine xseq ?_
  refine xregion ?_
  refine xvalP (pv_move rfl) rfl rfl ?_
  refine xvalP (pv_bin2 rfl rfl rfl) rfl rfl ?_
  refine xnil ?_
  refine xthen ?_
  by_cases hp229 : 0 ≤ iv180
  · replace h := h.1 hp229
    refine xcondT' (decide_eq_true hp229) rfl ?_
    refine xskipc ?_
    refine xthen ?_
    refine xseqM (fun σ => ∃ (f249 : Arr 4 (UInt64)), palinoderef05_Of_j2 iv180 ag1 f249 r ∧ σ = ⟨[(1, .v (.pointer (some ⟨b1, 0, none⟩))), (2, .v (.pointer (some ⟨b2, 0, none⟩))), (3, .v (.pointer (some ⟨b3, 0, none⟩))), (4, .v (.int .i64 iv180))], [⟨b3, 26, ((List.map ew f249.l).flatten)⟩, ⟨b2, 26, ((List.map ew ((Arr.rep 4 (0 : UInt64))).l).flatten)⟩, ⟨b1, 42, ((List.map eB inv1.l).flatten)⟩], []⟩) ?_ ?_
    · refine xblock ?_
      refine xseq ?_
      refine xregion ?_
      refine xvalP (pv_move rfl) rfl rfl ?_
      obtain ⟨h250, h⟩ := h
      obtain ⟨h250r, h⟩ := h
      refine xvalP (pv_quoW h250 (wrap_id h250r.1 h250r.2).symm rfl rfl rfl) rfl rfl ?_
      refine xvalP (pv_move rfl) rfl rfl ?_
      obtain ⟨h251, h⟩ := h
      obtain ⟨h251r, h⟩ := h
      refine xvalP (pv_quoW h251 (wrap_id h251r.1 h251r.2).symm rfl rfl rfl) rfl rfl ?_
      obtain ⟨h252, h⟩ := h
      obtain ⟨y253, h252b, h⟩ := h
      refine xvalP (pv_indexAddrBA h252 UndC.h ShpC.h rfl rfl) rfl rfl ?_
      refine xval (qv_loadA (f := ew) (a := f181) (k := 1) (off := 0) (i := (((iv180 : Int).tdiv (64)) : Int).toNat) 0 [] [] h252b (by first | rfl | exact (List.append_nil _).symm | exact List.append_nil _ | exact List.append_assoc _ _ _ | exact (List.append_assoc _ _ _).symm | exact congrArg _ (List.append_nil _).symm | exact congrArg _ (List.append_nil _) | (simp; done) | (simp [cellsS]; done)) (by first | rfl | omega | (simp only [List.length_cons, List.length_nil]; omega) | (simp only [seg_len, List.length_append, List.length_cons, List.length_nil]; omega)) (by decide) rfl ShpC.h rfl rfl) rfl rfl ?_
      obtain ⟨c255, h254, h⟩ := h
      refine xvalP (pv_wr h254 rfl rfl rfl) rfl rfl ?_
      obtain ⟨h256, h⟩ := h
      obtain ⟨y257, h256b, h⟩ := h
      refine xvalP (pv_indexAddrBA h256 UndC.h ShpC.h rfl rfl) rfl rfl ?_
      refine xstoreA (f := ew) (a := f181) (k := 1) (off := 0) (i := (((iv180 : Int).tdiv (64)) : Int).toNat) 0 [] [] c255 h256b (by first | rfl | exact (List.append_nil _).symm | exact List.append_nil _ | exact List.append_assoc _ _ _ | exact (List.append_assoc _ _ _).symm | exact congrArg _ (List.append_nil _).symm | exact congrArg _ (List.append_nil _) | (simp; done) | (simp [cellsS]; done)) (by first | rfl | omega | (simp only [List.length_cons, List.length_nil]; omega) | (simp only [seg_len, List.length_append, List.length_cons, List.length_nil]; omega)) (by decide) ShpC.h rfl rfl rfl rfl (by first | rfl | exact seg_lenE (by rfl) | exact len_app rfl (seg_lenE (by rfl)) (by rfl) | exact len_app (seg_lenE (by rfl)) rfl (by rfl) | exact len_app rfl (len_app (seg_lenE (by rfl)) rfl (by rfl)) (by rfl) | (simp only [seg_len, cellsS, List.length_append, List.length_cons, List.length_nil]; done) | (simp only [seg_len, cellsS, List.length_append, List.length_cons, List.length_nil]; rfl)) rfl rfl ?_
      refine xreb 0 ((List.map ew ((Arr.set f181 (((iv180 : Int).tdiv (64)) : Int).toNat c255)).l).flatten) rfl (by first | rfl | exact (List.append_nil _).symm | exact List.append_nil _ | exact List.append_assoc _ _ _ | exact (List.append_assoc _ _ _).symm | exact congrArg _ (List.append_nil _).symm | exact congrArg _ (List.append_nil _) | (simp; done) | (simp [cellsS]; done)) ?_
      refine xnil ?_
      refine xthen ?_
      refine xseq ?_
      refine xregion ?_
      refine xvalP (pv_move rfl) rfl rfl ?_
      obtain ⟨h258, h⟩ := h
      obtain ⟨y259, h258b, h⟩ := h
      refine xvalP (pv_indexAddrBA h258 UndC.h ShpC.h rfl rfl) rfl rfl ?_
      refine xval (qv_loadA (f := eB) (a := inv1) (k := 1) (off := 0) (i := (iv180 : Int).toNat) 2 [] [] h258b (by first | rfl | exact (List.append_nil _).symm | exact List.append_nil _ | exact List.append_assoc _ _ _ | exact (List.append_assoc _ _ _).symm | exact congrArg _ (List.append_nil _).symm | exact congrArg _ (List.append_nil _) | (simp; done) | (simp [cellsS]; done)) (by first | rfl | omega | (simp only [List.length_cons, List.length_nil]; omega) | (simp only [seg_len, List.length_append, List.length_cons, List.length_nil]; omega)) (by decide) rfl ShpC.h rfl rfl) rfl rfl ?_
      refine xnil ?_
      refine xthen ?_
      by_cases hp260 : y259 = true
      · replace h := h.1 hp260
        refine xcondT' hp260 rfl ?_
        refine xregion ?_
        refine xvalP (pv_move rfl) rfl rfl ?_
        obtain ⟨h261, h⟩ := h
        obtain ⟨h261r, h⟩ := h
        refine xvalP (pv_quoW h261 (wrap_id h261r.1 h261r.2).symm rfl rfl rfl) rfl rfl ?_
        refine xvalP (pv_move rfl) rfl rfl ?_
        obtain ⟨h262, h⟩ := h
        obtain ⟨h262r, h⟩ := h
        refine xvalP (pv_quoW h262 (wrap_id h262r.1 h262r.2).symm rfl rfl rfl) rfl rfl ?_
        obtain ⟨h263, h⟩ := h
        obtain ⟨y264, h263b, h⟩ := h
        refine xvalP (pv_indexAddrBA h263 UndC.h ShpC.h rfl rfl) rfl rfl ?_
        refine xval (qv_loadA (f := ew) (a := (Arr.set f181 (((iv180 : Int).tdiv (64)) : Int).toNat c255)) (k := 1) (off := 0) (i := (((iv180 : Int).tdiv (64)) : Int).toNat) 0 [] [] h263b (by first | rfl | exact (List.append_nil _).symm | exact List.append_nil _ | exact List.append_assoc _ _ _ | exact (List.append_assoc _ _ _).symm | exact congrArg _ (List.append_nil _).symm | exact congrArg _ (List.append_nil _) | (simp; done) | (simp [cellsS]; done)) (by first | rfl | omega | (simp only [List.length_cons, List.length_nil]; omega) | (simp only [seg_len, List.length_append, List.length_cons, List.length_nil]; omega)) (by decide) rfl ShpC.h rfl rfl) rfl rfl ?_
        obtain ⟨c266, h265, h⟩ := h
        refine xvalP (pv_wr h265 rfl rfl rfl) rfl rfl ?_
        obtain ⟨h267, h⟩ := h
        obtain ⟨y268, h267b, h⟩ := h
        refine xvalP (pv_indexAddrBA h267 UndC.h ShpC.h rfl rfl) rfl rfl ?_
        refine xstoreA (f := ew) (a := (Arr.set f181 (((iv180 : Int).tdiv (64)) : Int).toNat c255)) (k := 1) (off := 0) (i := (((iv180 : Int).tdiv (64)) : Int).toNat) 0 [] [] c266 h267b (by first | rfl | exact (List.append_nil _).symm | exact List.append_nil _ | exact List.append_assoc _ _ _ | exact (List.append_assoc _ _ _).symm | exact congrArg _ (List.append_nil _).symm | exact congrArg _ (List.append_nil _) | (simp; done) | (simp [cellsS]; done)) (by first | rfl | omega | (simp only [List.length_cons, List.length_nil]; omega) | (simp only [seg_len, List.length_append, List.length_cons, List.length_nil]; omega)) (by decide) ShpC.h rfl rfl rfl rfl (by first | rfl | exact seg_lenE (by rfl) | exact len_app rfl (seg_lenE (by rfl)) (by rfl) | exact len_app (seg_lenE (by rfl)) rfl (by rfl) | exact len_app rfl (len_app (seg_lenE (by rfl)) rfl (by rfl)) (by rfl) | (simp only [seg_len, cellsS, List.length_append, List.length_cons, List.length_nil]; done) | (simp only [seg_len, cellsS, List.length_append, List.length_cons, List.length_nil]; rfl)) rfl rfl ?_
        refine xreb 0 ((List.map ew ((Arr.set ((Arr.set f181 (((iv180 : Int).tdiv (64)) : Int).toNat c255)) (((iv180 : Int).tdiv (64)) : Int).toNat c266)).l).flatten) rfl (by first | rfl | exact (List.append_nil _).symm | exact List.append_nil _ | exact List.append_assoc _ _ _ | exact (List.append_assoc _ _ _).symm | exact congrArg _ (List.append_nil _).symm | exact congrArg _ (List.append_nil _) | (simp; done) | (simp [cellsS]; done)) ?_
        refine xnil ?_
        refine xin_normal ?_
        exact xmeet ⟨(Arr.set ((Arr.set f181 (((iv180 : Int).tdiv (64)) : Int).toNat c255)) (((iv180 : Int).tdiv (64)) : Int).toNat c266), h, rfl⟩ ⟨(.cons rfl (.refl _) (.cons rfl (.refl _) (.cons rfl (.refl _) (.cons rfl (.refl _) (.nil _))))), (SubM.of (.keep rfl rfl (.refl _) (.keep rfl rfl (.refl _) (.keep rfl rfl (.refl _) (.nil _)))) (.nil _))⟩
      · replace h := h.2 hp260
        refine xcondF' (b_f hp260) rfl ?_
        refine xskipc ?_
        refine xin_normal ?_
        exact xmeet ⟨(Arr.set f181 (((iv180 : Int).tdiv (64)) : Int).toNat c255), h, rfl⟩ ⟨(.cons rfl (.refl _) (.cons rfl (.refl _) (.cons rfl (.refl _) (.cons rfl (.refl _) (.nil _))))), (SubM.of (.keep rfl rfl (.refl _) (.keep rfl rfl (.refl _) (.keep rfl rfl (.refl _) (.nil _)))) (.nil _))⟩
    · clear h
      rintro _ ⟨f249, h, rfl⟩
      refine xregion ?_
      refine xvalP (pv_move rfl) rfl rfl ?_
      obtain ⟨h269, h⟩ := h
      refine xvalP (pv_subI h269 rfl rfl) rfl rfl ?_
      refine xvalP (pv_assign rfl) rfl rfl ?_
      refine xnil ?_
      obtain ⟨m', hm, hI⟩ := hag1 _ h
      exact xagain ⟨(iv180 - 1), f249, hI, rfl⟩ hm ⟨(.cons rfl (.refl _) (.cons rfl (.refl _) (.cons rfl (.refl _) (.cons rfl (.refl _) (.nil _))))), (SubM.of (.keep rfl rfl (.refl _) (.keep rfl rfl (.refl _) (.keep rfl rfl (.refl _) (.nil _)))) (.nil _))⟩
  · replace h := h.2 hp229
    refine xcondF' (decide_eq_false hp229) rfl ?_
    refine xexit ?_
    refine xthen_exit ?_
    refine xthen_exit ?_
    refine xin_same rfl ?_
    refine xthen ?_
    refine xseq ?_
    refine xregion ?_
    refine xval (qv_loadP 0 [] ((List.map ew f181.l).flatten) [] (by first | rfl | exact (List.append_nil _).symm | exact List.append_nil _ | exact List.append_assoc _ _ _ | exact (List.append_assoc _ _ _).symm | exact congrArg _ (List.append_nil _).symm | exact congrArg _ (List.append_nil _) | (simp; done) | (simp [cellsS]; done)) (by first | rfl | exact seg_lenE (by rfl) | exact len_app rfl (seg_lenE (by rfl)) (by rfl) | exact len_app (seg_lenE (by rfl)) rfl (by rfl) | exact len_app rfl (len_app (seg_lenE (by rfl)) rfl (by rfl)) (by rfl) | (simp only [seg_len, cellsS, List.length_append, List.length_cons, List.length_nil]; done) | (simp only [seg_len, cellsS, List.length_append, List.length_cons, List.length_nil]; rfl)) (by first | rfl | exact seg_lenE (by rfl) | exact len_app rfl (seg_lenE (by rfl)) (by rfl) | exact len_app (seg_lenE (by rfl)) rfl (by rfl) | exact len_app rfl (len_app (seg_lenE (by rfl)) rfl (by rfl)) (by rfl) | (simp only [seg_len, cellsS, List.length_append, List.length_cons, List.length_nil]; done) | (simp only [seg_len, cellsS, List.length_append, List.length_cons, List.length_nil]; rfl)) (part_all (seg_lenE (by rfl))) ShpC.h rfl rfl) rfl rfl ?_
    refine xstoreP 1 [] ((List.map ew ((Arr.rep 4 (0 : UInt64))).l).flatten) [] (by first | rfl | exact (List.append_nil _).symm | exact List.append_nil _ | exact List.append_assoc _ _ _ | exact (List.append_assoc _ _ _).symm | exact congrArg _ (List.append_nil _).symm | exact congrArg _ (List.append_nil _) | (simp; done) | (simp [cellsS]; done)) (by first | rfl | exact seg_lenE (by rfl) | exact len_app rfl (seg_lenE (by rfl)) (by rfl) | exact len_app (seg_lenE (by rfl)) rfl (by rfl) | exact len_app rfl (len_app (seg_lenE (by rfl)) rfl (by rfl)) (by rfl) | (simp only [seg_len, cellsS, List.length_append, List.length_cons, List.length_nil]; done) | (simp only [seg_len, cellsS, List.length_append, List.length_cons, List.length_nil]; rfl)) (by first | rfl | exact seg_lenE (by rfl) | exact len_app rfl (seg_lenE (by rfl)) (by rfl) | exact len_app (seg_lenE (by rfl)) rfl (by rfl) | exact len_app rfl (len_app (seg_lenE (by rfl)) rfl (by rfl)) (by rfl) | (simp only [seg_len, cellsS, List.length_append, List.length_cons, List.length_nil]; done) | (simp only [seg_len, cellsS, List.length_append, List.length_cons, List.length_nil]; rfl)) ShpC.h rfl rfl rfl rfl (by first | rfl | exact seg_lenE (by rfl) | exact len_app rfl (seg_lenE (by rfl)) (by rfl) | exact len_app (seg_lenE (by rfl)) rfl (by rfl) | exact len_app rfl (len_app (seg_lenE (by rfl)) rfl (by rfl)) (by rfl) | (simp only [seg_len, cellsS, List.length_append, List.length_cons, List.length_nil]; done) | (simp only [seg_len, cellsS, List.length_append, List.length_cons, List.length_nil]; rfl)) rfl ?_
    refine xreb 1 ((List.map ew f181.l).flatten) rfl (by first | rfl | exact (List.append_nil _).symm | exact List.append_nil _ | exact List.append_assoc _ _ _ | exact (List.append_assoc _ _ _).symm | exact congrArg _ (List.append_nil _).symm | exact congrArg _ (List.append_nil _) | (simp; done) | (simp [cellsS]; done)) ?_
    refine xnil ?_
    refine xthen ?_
    refine xretc ?_
    replace h := h.symm
    subst h
    exact xretL (rs := [.cell 2 26]) (ss := [.agg ((List.map ew f181.l).flatten)]) hg rfl (by refine RetL.cell 1 ShpC.h rfl rfl (part_midE (pre := []) (mid := ((List.map ew f181.l).flatten)) (post := []) (by first | rfl | exact (List.append_nil _).symm | exact List.append_nil _ | exact List.append_assoc _ _ _ | exact (List.append_assoc _ _ _).symm | exact congrArg _ (List.append_nil _).symm | exact congrArg _ (List.append_nil _) | (simp; done) | (simp [cellsS]; done)) (by first | rfl | exact seg_lenE (by rfl) | exact len_app rfl (seg_lenE (by rfl)) (by rfl) | exact len_app (seg_lenE (by rfl)) rfl (by rfl) | exact len_app rfl (len_app (seg_lenE (by rfl)) rfl (by rfl)) (by rfl) | (simp only [seg_len, cellsS, List.length_append, List.length_cons, List.length_nil]; done) | (simp only [seg_len, cellsS, List.length_append, List.length_cons, List.length_nil]; rfl)) (by first | rfl | exact seg_lenE (by rfl) | exact len_app rfl (seg_lenE (by rfl)) (by rfl) | exact len_app (seg_lenE (by rfl)) rfl (by rfl) | exact len_app rfl (len_app (seg_lenE (by rfl)) rfl (by rfl)) (by rfl) | (simp only [seg_len, cellsS, List.length_append, List.length_cons, List.length_nil]; done) | (simp only [seg_len, cellsS, List.length_append, List.length_cons, List.length_nil]; rfl)) (part_all (seg_lenE (by rfl)))) (len_midE (pre := []) (mid := ((List.map ew f181.l).flatten)) (post := []) (by first | rfl | exact (List.append_nil _).symm | exact List.append_nil _ | exact List.append_assoc _ _ _ | exact (List.append_assoc _ _ _).symm | exact congrArg _ (List.append_nil _).symm | exact congrArg _ (List.append_nil _) | (simp; done) | (simp [cellsS]; done)) (by first | rfl | exact seg_lenE (by rfl) | exact len_app rfl (seg_lenE (by rfl)) (by rfl) | exact len_app (seg_lenE (by rfl)) rfl (by rfl) | exact len_app rfl (len_app (seg_lenE (by rfl)) rfl (by rfl)) (by rfl) | (simp only [seg_len, cellsS, List.length_append, List.length_cons, List.length_nil]; done) | (simp only [seg_len, cellsS, List.length_append, List.length_cons, List.length_nil]; rfl)) (by first | rfl | exact seg_lenE (by rfl) | exact len_app rfl (seg_lenE (by rfl)) (by rfl) | exact len_app (seg_lenE (by rfl)) rfl (by rfl) | exact len_app rfl (len_app (seg_lenE (by rfl)) rfl (by rfl)) (by rfl) | (simp only [seg_len, cellsS, List.length_append, List.length_cons, List.length_nil]; done) | (simp only [seg_len, cellsS, List.length_append, List.length_cons, List.length_nil]; rfl))) (by first | with_reducible exact Wk.refl _ | exact Wk.nil_own _ | exact Wk.nil_pl _ | with_reducible exact Wk.tok _ _ _ | exact Wk.tok _ _ _ | exact .eq rfl) ?_; exact RetL.nil) (SubM.of (.nil _) (.nil _)) ⟨rfl, rfl, rfl⟩
/-- palinoderef07.Parse -/
def palinoderef07_Parse_j6 (x6127 : Int) (ag3 : (Int × Int × (Arr 256 (Bool))) → Prop) (x8490 : Int) (f8491 : Arr 256 (Bool)) (r : (Arr 4 (UInt64)) × Int × Int) : Prop :=
  InR (x6127 + 1) ∧ ag3 (x8490, (x6127 + 1), f8491)
def palinoderef07_Parse_j9 (x9064 : Int) (ag8 : (Int × (Arr 256 (Bool))) → Prop) (f9145 : Arr 256 (Bool)) (r : (Arr 4 (UInt64)) × Int × Int) : Prop :=
  InR (x9064 + 1) ∧ ag8 ((x9064 + 1), f9145)
def palinoderef07_Parse_l8 (y8493 : (Int × (Arr 256 (Bool)) × Bool × Int × Int)) (x6127 : Int) (ag3 : (Int × Int × (Arr 256 (Bool))) → Prop) (ag8 : (Int × (Arr 256 (Bool))) → Prop) (x9064 : Int) (f9065 : Arr 256 (Bool)) (r : (Arr 4 (UInt64)) × Int × Int) : Prop :=
  ((x9064 < 256 → (0 ≤ (x9064 : Int) ∧ (x9064 : Int) < 256) ∧ ∃ y9147 : Bool, f9065.l[(x9064 : Int).toNat]? = some y9147 ∧ ((y9147 = true → (0 ≤ (x9064 : Int) ∧ (x9064 : Int) < 256) ∧ ∃ y9150 : Bool, f9065.l[(x9064 : Int).toNat]? = some y9150 ∧ palinoderef07_Parse_j9 x9064 ag8 (Arr.set f9065 (x9064 : Int).toNat true) r) ∧ (¬ (y9147 = true) → ((y8493.2.2.1 = true → (0 ≤ (x9064 : Int) ∧ (x9064 : Int) < 256) ∧ ∃ y9153 : Bool, y8493.2.1.l[(x9064 : Int).toNat]? = some y9153 ∧ ((y9153 = true → (0 ≤ (x9064 : Int) ∧ (x9064 : Int) < 256) ∧ ∃ y9156 : Bool, f9065.l[(x9064 : Int).toNat]? = some y9156 ∧ palinoderef07_Parse_j9 x9064 ag8 (Arr.set f9065 (x9064 : Int).toNat true) r) ∧ (¬ (y9153 = true) → ((¬ (y8493.2.2.1 = true) → (0 ≤ (x9064 : Int) ∧ (x9064 : Int) < 256) ∧ ∃ y9160 : Bool, f9065.l[(x9064 : Int).toNat]? = some y9160 ∧ palinoderef07_Parse_j9 x9064 ag8 (Arr.set f9065 (x9064 : Int).toNat ((decide (x9064 = y8493.1)))) r) ∧ (¬ (¬ (y8493.2.2.1 = true)) → (0 ≤ (x9064 : Int) ∧ (x9064 : Int) < 256) ∧ ∃ y9162 : Bool, f9065.l[(x9064 : Int).toNat]? = some y9162 ∧ palinoderef07_Parse_j9 x9064 ag8 (Arr.set f9065 (x9064 : Int).toNat false) r))))) ∧ (¬ (y8493.2.2.1 = true) → ((¬ (y8493.2.2.1 = true) → (0 ≤ (x9064 : Int) ∧ (x9064 : Int) < 256) ∧ ∃ y9166 : Bool, f9065.l[(x9064 : Int).toNat]? = some y9166 ∧ palinoderef07_Parse_j9 x9064 ag8 (Arr.set f9065 (x9064 : Int).toNat ((decide (x9064 = y8493.1)))) r) ∧ (¬ (¬ (y8493.2.2.1 = true)) → (0 ≤ (x9064 : Int) ∧ (x9064 : Int) < 256) ∧ ∃ y9168 : Bool, f9065.l[(x9064 : Int).toNat]? = some y9168 ∧ palinoderef07_Parse_j9 x9064 ag8 (Arr.set f9065 (x9064 : Int).toNat false) r))))))) ∧ (¬ (x9064 < 256) → palinoderef07_Parse_j6 x6127 ag3 y8493.2.2.2.1 f9065 r))
def palinoderef07_Parse_l11 (y9174 : (Int × (Arr 256 (Bool)) × Bool × Int × Int)) (x6127 : Int) (ag3 : (Int × Int × (Arr 256 (Bool))) → Prop) (ag11 : (Int × (Arr 256 (Bool))) → Prop) (x9225 : Int) (f9226 : Arr 256 (Bool)) (r : (Arr 4 (UInt64)) × Int × Int) : Prop :=
  ((x9225 ≤ y9174.1 → (0 ≤ (x9225 : Int) ∧ (x9225 : Int) < 256) ∧ ∃ y9239 : Bool, f9226.l[(x9225 : Int).toNat]? = some y9239 ∧ InR (x9225 + 1) ∧ ag11 ((x9225 + 1), (Arr.set f9226 (x9225 : Int).toNat true))) ∧ (¬ (x9225 ≤ y9174.1) → palinoderef07_Parse_j6 x6127 ag3 y9174.2.2.2.1 f9226 r))
def palinoderef07_Parse_j10 (y9174 : (Int × (Arr 256 (Bool)) × Bool × Int × Int)) (x6127 : Int) (ag3 : (Int × Int × (Arr 256 (Bool))) → Prop) (y8493 : (Int × (Arr 256 (Bool)) × Bool × Int × Int)) (f6128 : Arr 256 (Bool)) (x9191 : Bool) (r : (Arr 4 (UInt64)) × Int × Int) : Prop :=
  ((x9191 = true → r = ((Arr.rep 4 (0 : UInt64)), 0, 3)) ∧ (¬ (x9191 = true) → LoopR (fun ag11 s => palinoderef07_Parse_l11 y9174 x6127 ag3 ag11 s.1 s.2 r) (y8493.1, f6128)))
def palinoderef07_Parse_j7 (y8493 : (Int × (Arr 256 (Bool)) × Bool × Int × Int)) (x6127 : Int) (ag3 : (Int × Int × (Arr 256 (Bool))) → Prop) (f6128 : Arr 256 (Bool)) (x1 : List UInt8) (x8844 : Bool) (r : (Arr 4 (UInt64)) × Int × Int) : Prop :=
  ((x8844 = true → LoopR (fun ag8 s => palinoderef07_Parse_l8 y8493 x6127 ag3 ag8 s.1 s.2 r) (0, f6128)) ∧ (¬ (x8844 = true) → ((y8493.2.2.1 = true → r = ((Arr.rep 4 (0 : UInt64)), 0, 3)) ∧ (¬ (y8493.2.2.1 = true) → InR (y8493.2.2.2.1 + 1) ∧ ∃ y9174 : (Int × (Arr 256 (Bool)) × Bool × Int × Int), palinoderef07_read_R x1 (y8493.2.2.2.1 + 1) y9174 ∧ ((¬ (y9174.2.2.2.2 = 0) → r = ((Arr.rep 4 (0 : UInt64)), 0, y9174.2.2.2.2)) ∧ (¬ (¬ (y9174.2.2.2.2 = 0)) → palinoderef07_Parse_j10 y9174 x6127 ag3 y8493 f6128 (y9174.2.2.1 || (decide (y9174.1 < y8493.1))) r))))))
def palinoderef07_Parse_j4 (x1 : List UInt8) (x6126 : Int) (x6127 : Int) (ag3 : (Int × Int × (Arr 256 (Bool))) → Prop) (f6128 : Arr 256 (Bool)) (r : (Arr 4 (UInt64)) × Int × Int) : Prop :=
  ∃ y8493 : (Int × (Arr 256 (Bool)) × Bool × Int × Int), palinoderef07_read_R x1 x6126 y8493 ∧ ((¬ (y8493.2.2.2.2 = 0) → r = ((Arr.rep 4 (0 : UInt64)), 0, y8493.2.2.2.2)) ∧ (¬ (¬ (y8493.2.2.2.2 = 0)) → ∃ y8846 : Int, palinoderef07_at_R x1 y8493.2.2.2.1 y8846 ∧ ((¬ (y8846 = 45) → palinoderef07_Parse_j7 y8493 x6127 ag3 f6128 x1 true r) ∧ (¬ (¬ (y8846 = 45)) → InR (y8493.2.2.2.1 + 1) ∧ ∃ y8851 : Int, palinoderef07_at_R x1 (y8493.2.2.2.1 + 1) y8851 ∧ palinoderef07_Parse_j7 y8493 x6127 ag3 f6128 x1 (decide (y8851 = 93)) r))))
def palinoderef07_Parse_l5 (y24 : Int) (x6126 : Int) (ag5 : (Int × (Arr 256 (Bool))) → Prop) (x7716 : Int) (f7717 : Arr 256 (Bool)) (r : (Arr 4 (UInt64)) × Int × Int) : Prop :=
  ((x7716 < 256 → (0 ≤ (x7716 : Int) ∧ (x7716 : Int) < 256) ∧ ∃ y7733 : Bool, f7717.l[(x7716 : Int).toNat]? = some y7733 ∧ (0 ≤ (x7716 : Int) ∧ (x7716 : Int) < 256) ∧ ∃ y7736 : Bool, f7717.l[(x7716 : Int).toNat]? = some y7736 ∧ InR (x7716 + 1) ∧ ag5 ((x7716 + 1), (Arr.set f7717 (x7716 : Int).toNat ((!(y7733 == (decide (y24 = 94)))))))) ∧ (¬ (x7716 < 256) → ∃ y7739 : (Arr 4 (UInt64)), palinoderef05_Of_R f7717 y7739 ∧ InR (x6126 + 1) ∧ r = (y7739, (x6126 + 1), 0)))
def palinoderef07_Parse_l3 (x1 : List UInt8) (y24 : Int) (ag3 : (Int × Int × (Arr 256 (Bool))) → Prop) (x6126 : Int) (x6127 : Int) (f6128 : Arr 256 (Bool)) (r : (Arr 4 (UInt64)) × Int × Int) : Prop :=
  ((x6127 = 0 → palinoderef07_Parse_j4 x1 x6126 x6127 ag3 f6128 r) ∧ (¬ (x6127 = 0) → ∃ y7671 : Int, palinoderef07_at_R x1 x6126 y7671 ∧ ((¬ (y7671 = 93) → palinoderef07_Parse_j4 x1 x6126 x6127 ag3 f6128 r) ∧ (¬ (¬ (y7671 = 93)) → LoopR (fun ag5 s => palinoderef07_Parse_l5 y24 x6126 ag5 s.1 s.2 r) (0, f6128)))))
def palinoderef07_Parse_j2 (x1 : List UInt8) (y24 : Int) (x28 : Int) (r : (Arr 4 (UInt64)) × Int × Int) : Prop :=
  LoopR (fun ag3 s => palinoderef07_Parse_l3 x1 y24 ag3 s.1 s.2.1 s.2.2 r) (x28, 0, (Arr.rep 256 false))
def palinoderef07_Parse_j1 (x1 : List UInt8) (x2 : Int) (x17 : Bool) (r : (Arr 4 (UInt64)) × Int × Int) : Prop :=
  ((x17 = true → r = ((Arr.rep 4 (0 : UInt64)), 0, 1)) ∧ (¬ (x17 = true) → ∃ y24 : Int, palinoderef07_at_R x1 x2 y24 ∧ ((y24 = 94 → InR (x2 + 1) ∧ palinoderef07_Parse_j2 x1 y24 (x2 + 1) r) ∧ (¬ (y24 = 94) → palinoderef07_Parse_j2 x1 y24 x2 r))))
def palinoderef07_Parse_R (x1 : List UInt8) (x2 : Int) (r : (Arr 4 (UInt64)) × Int × Int) : Prop :=
  palinoderef07_Parse_j1 x1 x2 ((decide (x2 < 0)) || (decide ((x1.length : Int) < x2))) r
set_option maxRecDepth 100000 in
set_option maxHeartbeats 4000000 in
theorem palinoderef07_Parse_con (x1 : List UInt8) (x2 : Int) (r : (Arr 4 (UInt64)) × Int × Int) (h : palinoderef07_Parse_R x1 x2 r) : Con Try.prog 9 [.sl 1 none (List.map eb x1), .v (.int .i64 x2)] [] [] (fun rr bx tk => rr = .tup [.agg ((List.map ew r.1.l).flatten), .v (.int .i64 r.2.1), .v (.int .i64 r.2.2)] ∧ bx = [] ∧ tk = []) := by
  refine xenter Try.func9 rfl rfl fun g hg => ?_
  simp only [Try.ntmps9, slots]
  unfold palinoderef07_Parse_R at h
  refine xseq ?_
  refine xregion ?_
  refine xalloc InfC.h rfl rfl fun b4 => ?_
  refine xreb 0 ((List.map ew ((Arr.rep 4 (0 : UInt64))).l).flatten) rfl rfl ?_
  refine xvalP (pv_assign rfl) rfl rfl ?_
  refine xvalP (pv_assign rfl) rfl rfl ?_
  refine xnil ?_
  refine xthen ?_
  refine xseq ?_
  refine xseqM (fun σ => ∃ (x17 : Bool), palinoderef07_Parse_j1 x1 x2 x17 r ∧ σ = ⟨[(0, .sl 1 none (List.map eb x1)), (1, .v (.int .i64 x2)), (4, .v (.pointer (some ⟨b4, 0, none⟩))), (22, .v (.bool x17))], [⟨b4, 26, ((List.map ew ((Arr.rep 4 (0 : UInt64))).l).flatten)⟩], []⟩) ?_ ?_
  · refine xregion ?_
    refine xvalP (pv_move rfl) rfl rfl ?_
    refine xvalP (pv_bin2 rfl rfl rfl) rfl rfl ?_
    refine xvalP (pv_move rfl) rfl rfl ?_
    by_cases hp19 : x2 < 0
    · rw [show (decide (x2 < 0)) = true from (decide_eq_true hp19), Bool.true_or] at h
      refine xsetB 17 (decide_eq_true hp19) rfl ?_
      refine xskip rfl rfl ?_
      refine xskip rfl rfl ?_
      refine xskip rfl rfl ?_
      refine xskip rfl rfl ?_
      refine xvalP (pv_pick rfl rfl) rfl rfl ?_
      refine xnil ?_
      exact xmeet ⟨true, h, rfl⟩ ⟨(.cons rfl (.refl _) (.cons rfl (.refl _) (.cons rfl (.refl _) (.cons rfl (.refl _) (.nil _))))), (SubM.of (.keep rfl rfl (.refl _) (.nil _)) (.nil _))⟩
    · rw [show (decide (x2 < 0)) = false from (decide_eq_false hp19), Bool.false_or] at h
      refine xsetB 17 (decide_eq_false hp19) rfl ?_
      refine xvalP (pv_move rfl) rfl rfl ?_
      refine xvalP (pv_move rfl) rfl rfl ?_
      refine xvalP (pv_lenM UndC.h rfl) rfl rfl ?_
      refine xvalP (pv_bin2 rfl rfl rfl) rfl rfl ?_
      refine xvalP (pv_pick rfl rfl) rfl rfl ?_
      refine xnil ?_
      exact xmeet ⟨(decide ((x1.length : Int) < x2)), h, rfl⟩ ⟨(.cons rfl (.refl _) (.cons rfl (.refl _) (.cons rfl (.refl _) (.cons rfl (.refl _) (.nil _))))), (SubM.of (.keep rfl rfl (.refl _) (.nil _)) (.nil _))⟩
  · clear h
    rintro _ ⟨x17, h, rfl⟩
    by_cases hp22 : x17 = true
    · replace h := h.1 hp22
      refine xcondT' hp22 rfl ?_
      refine xseq ?_
      refine xregion ?_
      refine xvalP (pv_buildAC (cs := ((List.map ew ((Arr.rep 4 (0 : UInt64))).l).flatten)) UndC.h ShpC.h InfC.h rfl (by rfl)) rfl rfl ?_
      refine xstoreP 0 [] ((List.map ew ((Arr.rep 4 (0 : UInt64))).l).flatten) [] (by first | rfl | exact (List.append_nil _).symm | exact List.append_nil _ | exact List.append_assoc _ _ _ | exact (List.append_assoc _ _ _).symm | exact congrArg _ (List.append_nil _).symm | exact congrArg _ (List.append_nil _) | (simp; done) | (simp [cellsS]; done)) (by first | rfl | exact seg_lenE (by rfl) | exact len_app rfl (seg_lenE (by rfl)) (by rfl) | exact len_app (seg_lenE (by rfl)) rfl (by rfl) | exact len_app rfl (len_app (seg_lenE (by rfl)) rfl (by rfl)) (by rfl) | (simp only [seg_len, cellsS, List.length_append, List.length_cons, List.length_nil]; done) | (simp only [seg_len, cellsS, List.length_append, List.length_cons, List.length_nil]; rfl)) (by first | rfl | exact seg_lenE (by rfl) | exact len_app rfl (seg_lenE (by rfl)) (by rfl) | exact len_app (seg_lenE (by rfl)) rfl (by rfl) | exact len_app rfl (len_app (seg_lenE (by rfl)) rfl (by rfl)) (by rfl) | (simp only [seg_len, cellsS, List.length_append, List.length_cons, List.length_nil]; done) | (simp only [seg_len, cellsS, List.length_append, List.length_cons, List.length_nil]; rfl)) ShpC.h rfl rfl rfl rfl (by first | rfl | exact seg_lenE (by rfl) | exact len_app rfl (seg_lenE (by rfl)) (by rfl) | exact len_app (seg_lenE (by rfl)) rfl (by rfl) | exact len_app rfl (len_app (seg_lenE (by rfl)) rfl (by rfl)) (by rfl) | (simp only [seg_len, cellsS, List.length_append, List.length_cons, List.length_nil]; done) | (simp only [seg_len, cellsS, List.length_append, List.length_cons, List.length_nil]; rfl)) rfl ?_
      refine xreb 0 ((List.map ew ((Arr.rep 4 (0 : UInt64))).l).flatten) rfl (by first | rfl | exact (List.append_nil _).symm | exact List.append_nil _ | exact List.append_assoc _ _ _ | exact (List.append_assoc _ _ _).symm | exact congrArg _ (List.append_nil _).symm | exact congrArg _ (List.append_nil _) | (simp; done) | (simp [cellsS]; done)) ?_
      refine xvalP (pv_assign rfl) rfl rfl ?_
      refine xvalP (pv_assign rfl) rfl rfl ?_
      refine xnil ?_
      refine xthen ?_
      refine xretc ?_
      refine xthen_ret ?_
      replace h := h.symm
      subst h
      exact xretL (rs := [.cell 4 26, .tmp 5, .tmp 6]) (ss := [.agg ((List.map ew ((Arr.rep 4 (0 : UInt64))).l).flatten), .v (.int .i64 0), .v (.int .i64 1)]) hg rfl (by refine RetL.cell 0 ShpC.h rfl rfl (part_midE (pre := []) (mid := ((List.map ew ((Arr.rep 4 (0 : UInt64))).l).flatten)) (post := []) (by first | rfl | exact (List.append_nil _).symm | exact List.append_nil _ | exact List.append_assoc _ _ _ | exact (List.append_assoc _ _ _).symm | exact congrArg _ (List.append_nil _).symm | exact congrArg _ (List.append_nil _) | (simp; done) | (simp [cellsS]; done)) (by first | rfl | exact seg_lenE (by rfl) | exact len_app rfl (seg_lenE (by rfl)) (by rfl) | exact len_app (seg_lenE (by rfl)) rfl (by rfl) | exact len_app rfl (len_app (seg_lenE (by rfl)) rfl (by rfl)) (by rfl) | (simp only [seg_len, cellsS, List.length_append, List.length_cons, List.length_nil]; done) | (simp only [seg_len, cellsS, List.length_append, List.length_cons, List.length_nil]; rfl)) (by first | rfl | exact seg_lenE (by rfl) | exact len_app rfl (seg_lenE (by rfl)) (by rfl) | exact len_app (seg_lenE (by rfl)) rfl (by rfl) | exact len_app rfl (len_app (seg_lenE (by rfl)) rfl (by rfl)) (by rfl) | (simp only [seg_len, cellsS, List.length_append, List.length_cons, List.length_nil]; done) | (simp only [seg_len, cellsS, List.length_append, List.length_cons, List.length_nil]; rfl)) (part_all (seg_lenE (by rfl)))) (len_midE (pre := []) (mid := ((List.map ew ((Arr.rep 4 (0 : UInt64))).l).flatten)) (post := []) (by first | rfl | exact (List.append_nil _).symm | exact List.append_nil _ | exact List.append_assoc _ _ _ | exact (List.append_assoc _ _ _).symm | exact congrArg _ (List.append_nil _).symm | exact congrArg _ (List.append_nil _) | (simp; done) | (simp [cellsS]; done)) (by first | rfl | exact seg_lenE (by rfl) | exact len_app rfl (seg_lenE (by rfl)) (by rfl) | exact len_app (seg_lenE (by rfl)) rfl (by rfl) | exact len_app rfl (len_app (seg_lenE (by rfl)) rfl (by rfl)) (by rfl) | (simp only [seg_len, cellsS, List.length_append, List.length_cons, List.length_nil]; done) | (simp only [seg_len, cellsS, List.length_append, List.length_cons, List.length_nil]; rfl)) (by first | rfl | exact seg_lenE (by rfl) | exact len_app rfl (seg_lenE (by rfl)) (by rfl) | exact len_app (seg_lenE (by rfl)) rfl (by rfl) | exact len_app rfl (len_app (seg_lenE (by rfl)) rfl (by rfl)) (by rfl) | (simp only [seg_len, cellsS, List.length_append, List.length_cons, List.length_nil]; done) | (simp only [seg_len, cellsS, List.length_append, List.length_cons, List.length_nil]; rfl))) (by first | with_reducible exact Wk.refl _ | exact Wk.nil_own _ | exact Wk.nil_pl _ | with_reducible exact Wk.tok _ _ _ | exact Wk.tok _ _ _ | exact .eq rfl) ?_; refine RetL.tmp rfl (.refl _) ?_; refine RetL.tmp rfl (.refl _) ?_; exact RetL.nil) (SubM.of (.nil _) (.nil _)) ⟨rfl, rfl, rfl⟩
    · replace h := h.2 hp22
      refine xcondF' (b_f hp22) rfl ?_
      refine xskipc ?_
      refine xthen ?_
      refine xseq ?_
      refine xregion ?_
      refine xvalP (pv_move rfl) rfl rfl ?_
      refine xvalP (pv_move rfl) rfl rfl ?_
      obtain ⟨y24, h23, h⟩ := h
      refine xcall0 (palinoderef07_at_con x1 x2 _ h23) Try.func18 (by kernel_rfl) rfl (.cons rfl (.refl _) (.cons rfl (.refl _) .nil)) rfl rfl ?_
      refine xvalP (pv_bin2 rfl rfl rfl) rfl rfl ?_
      refine xvalP (pv_assign rfl) rfl rfl ?_
      refine xnil ?_
      refine xthen ?_
      refine xseqM (fun σ => ∃ (x28 : Int), palinoderef07_Parse_j2 x1 y24 x28 r ∧ σ = ⟨[(0, .sl 1 none (List.map eb x1)), (1, .v (.int .i64 x28)), (4, .v (.pointer (some ⟨b4, 0, none⟩))), (7, .v (.bool (decide (y24 = 94))))], [⟨b4, 26, ((List.map ew ((Arr.rep 4 (0 : UInt64))).l).flatten)⟩], []⟩) ?_ ?_
      · refine xseq ?_
        refine xregion ?_
        refine xvalP (pv_move rfl) rfl rfl ?_
        refine xnil ?_
        refine xthen ?_
        by_cases hp29 : y24 = 94
        · replace h := h.1 hp29
          refine xcondT' (decide_eq_true hp29) rfl ?_
          refine xregion ?_
          refine xvalP (pv_move rfl) rfl rfl ?_
          obtain ⟨h30, h⟩ := h
          refine xvalP (pv_addI h30 rfl rfl) rfl rfl ?_
          refine xvalP (pv_assign rfl) rfl rfl ?_
          refine xnil ?_
          exact xmeet ⟨(x2 + 1), h, rfl⟩ ⟨(.cons rfl (.refl _) (.cons rfl (.refl _) (.cons rfl (.refl _) (.cons rfl (.refl _) (.nil _))))), (SubM.of (.keep rfl rfl (.refl _) (.nil _)) (.nil _))⟩
        · replace h := h.2 hp29
          refine xcondF' (decide_eq_false hp29) rfl ?_
          refine xskipc ?_
          exact xmeet ⟨x2, h, rfl⟩ ⟨(.cons rfl (.refl _) (.cons rfl (.refl _) (.cons rfl (.refl _) (.cons rfl (.refl _) (.nil _))))), (SubM.of (.keep rfl rfl (.refl _) (.nil _)) (.nil _))⟩
      · clear h
        rintro _ ⟨x28, h, rfl⟩
        refine xseq ?_
        refine xregion ?_
        refine xalloc InfC.h rfl rfl fun b8 => ?_
        refine xreb 0 ((List.map eB ((Arr.rep 256 false)).l).flatten) rfl rfl ?_
        refine xnil ?_
        refine xthen ?_
        refine xseq ?_
        refine xseq ?_
        refine xregion ?_
        refine xvalP (pv_assign rfl) rfl rfl ?_
        refine xnil ?_
        refine xthen ?_
        refine xblock ?_
        obtain ⟨Inv, ⟨m0, hI⟩, hS⟩ := h
        refine xloop (fun σ m => ∃ (x6126 : Int), ∃ (x6127 : Int), ∃ (f6128 : Arr 256 (Bool)), Inv (x6126, x6127, f6128) m ∧ σ = ⟨[(0, .sl 1 none (List.map eb x1)), (1, .v (.int .i64 x6126)), (4, .v (.pointer (some ⟨b4, 0, none⟩))), (7, .v (.bool (decide (y24 = 94)))), (8, .v (.pointer (some ⟨b8, 0, none⟩))), (9, .v (.int .i64 x6127))], [⟨b8, 42, ((List.map eB f6128.l).flatten)⟩, ⟨b4, 26, ((List.map ew ((Arr.rep 4 (0 : UInt64))).l).flatten)⟩], []⟩) ⟨x28, 0, (Arr.rep 256 false), hI, rfl⟩ (by exact ⟨(.cons rfl (.refl _) (.cons rfl (.refl _) (.cons rfl (.refl _) (.cons rfl (.refl _) (.cons rfl (.refl _) (.cons rfl (.refl _) (.nil _))))))), (SubM.of (.keep rfl rfl (.refl _) (.keep rfl rfl (.refl _) (.nil _))) (.nil _))⟩) ?_
        rintro _ m ⟨x6126, x6127, f6128, hI, rfl⟩
        obtain ⟨ag3, hag3, h⟩ : ∃ ag, (∀ s', ag s' → ∃ m', m' < m ∧ Inv s' m') ∧ palinoderef07_Parse_l3 x1 y24 ag x6126 x6127 f6128 r := ⟨_, fun _ h => h, hS (x6126, x6127, f6128) _ hI⟩
        clear hS hI
        refine xseqM (fun σ => palinoderef07_Parse_j4 x1 x6126 x6127 ag3 f6128 r ∧ σ = ⟨[(0, .sl 1 none (List.map eb x1)), (1, .v (.int .i64 x6126)), (4, .v (.pointer (some ⟨b4, 0, none⟩))), (7, .v (.bool (decide (y24 = 94)))), (8, .v (.pointer (some ⟨b8, 0, none⟩))), (9, .v (.int .i64 x6127))], [⟨b8, 42, ((List.map eB f6128.l).flatten)⟩, ⟨b4, 26, ((List.map ew ((Arr.rep 4 (0 : UInt64))).l).flatten)⟩], []⟩) ?_ ?_
        · refine xseq ?_
          refine xregion ?_
          refine xvalP (pv_move rfl) rfl rfl ?_
          refine xvalP (pv_bin2 rfl rfl rfl) rfl rfl ?_
          refine xvalP (pv_move rfl) rfl rfl ?_
          by_cases hp7669 : x6127 = 0
          · replace h := h.1 hp7669
            refine xsetB 33 (decide_eq_true hp7669) rfl ?_
            refine xskip rfl rfl ?_
            refine xskip rfl rfl ?_
            refine xskip rfl rfl ?_
            refine xskip rfl rfl ?_
            refine xvalP (pv_pick rfl rfl) rfl rfl ?_
            refine xnil ?_
            refine xthen ?_
            refine xcondT rfl ?_
            refine xskipc ?_
            exact xmeet ⟨h, rfl⟩ ⟨(.cons rfl (.refl _) (.cons rfl (.refl _) (.cons rfl (.refl _) (.cons rfl (.refl _) (.cons rfl (.refl _) (.cons rfl (.refl _) (.nil _))))))), (SubM.of (.keep rfl rfl (.refl _) (.keep rfl rfl (.refl _) (.nil _))) (.nil _))⟩
          · replace h := h.2 hp7669
            refine xsetB 33 (decide_eq_false hp7669) rfl ?_
            refine xvalP (pv_move rfl) rfl rfl ?_
            refine xvalP (pv_move rfl) rfl rfl ?_
            obtain ⟨y7671, h7670, h⟩ := h
            refine xcall0 (palinoderef07_at_con x1 x6126 _ h7670) Try.func18 (by kernel_rfl) rfl (.cons rfl (.refl _) (.cons rfl (.refl _) .nil)) rfl rfl ?_
            refine xvalP (pv_bin2 rfl rfl rfl) rfl rfl ?_
            refine xvalP (pv_pick rfl rfl) rfl rfl ?_
            refine xnil ?_
            refine xthen ?_
            by_cases hp7673 : ¬ (y7671 = 93)
            · replace h := h.1 hp7673
              refine xcondT' (not_t (decide_eq_false hp7673)) rfl ?_
              refine xskipc ?_
              exact xmeet ⟨h, rfl⟩ ⟨(.cons rfl (.refl _) (.cons rfl (.refl _) (.cons rfl (.refl _) (.cons rfl (.refl _) (.cons rfl (.refl _) (.cons rfl (.refl _) (.nil _))))))), (SubM.of (.keep rfl rfl (.refl _) (.keep rfl rfl (.refl _) (.nil _))) (.nil _))⟩
            · replace h := h.2 hp7673
              refine xcondF' (not_f (decide_eq_true (Decidable.of_not_not hp7673))) rfl ?_
              refine xexit ?_
              refine xthen_exit ?_
              refine xthen_exit ?_
              refine xin_same rfl ?_
              refine xthen ?_
              refine xseq ?_
              refine xseq ?_
              refine xregion ?_
              refine xvalP (pv_assign rfl) rfl rfl ?_
              refine xnil ?_
              refine xthen ?_
              refine xblock ?_
              obtain ⟨Inv, ⟨m0, hI⟩, hS⟩ := h
              refine xloop (fun σ m => ∃ (x7716 : Int), ∃ (f7717 : Arr 256 (Bool)), Inv (x7716, f7717) m ∧ σ = ⟨[(1, .v (.int .i64 x6126)), (4, .v (.pointer (some ⟨b4, 0, none⟩))), (7, .v (.bool (decide (y24 = 94)))), (8, .v (.pointer (some ⟨b8, 0, none⟩))), (14, .v (.int .i64 x7716))], [⟨b8, 42, ((List.map eB f7717.l).flatten)⟩, ⟨b4, 26, ((List.map ew ((Arr.rep 4 (0 : UInt64))).l).flatten)⟩], []⟩) ⟨0, f6128, hI, rfl⟩ ⟨(.cons rfl (.refl _) (.cons rfl (.refl _) (.cons rfl (.refl _) (.cons rfl (.refl _) (.cons rfl (.refl _) (.nil _)))))), (SubM.of (.keep rfl rfl (.refl _) (.keep rfl rfl (.refl _) (.nil _))) (.nil _))⟩ ?_
              rintro _ m ⟨x7716, f7717, hI, rfl⟩
              obtain ⟨ag5, hag5, h⟩ : ∃ ag, (∀ s', ag s' → ∃ m', m' < m ∧ Inv s' m') ∧ palinoderef07_Parse_l5 y24 x6126 ag x7716 f7717 r := ⟨_, fun _ h => h, hS (x7716, f7717) _ hI⟩
              clear hS hI
              refine xseq ?_
              refine xseq ?_
              refine xregion ?_
              refine xvalP (pv_move rfl) rfl rfl ?_
              refine xvalP (pv_bin2 rfl rfl rfl) rfl rfl ?_
              refine xnil ?_
              refine xthen ?_
              by_cases hp7731 : x7716 < 256
              · replace h := h.1 hp7731
                refine xcondT' (decide_eq_true hp7731) rfl ?_
                refine xskipc ?_
                refine xthen ?_
                refine xseq ?_
                refine xblock ?_
                refine xregion ?_
                refine xvalP (pv_move rfl) rfl rfl ?_
                refine xvalP (pv_move rfl) rfl rfl ?_
                obtain ⟨h7732, h⟩ := h
                obtain ⟨y7733, h7732b, h⟩ := h
                refine xvalP (pv_indexAddrBA h7732 UndC.h ShpC.h rfl rfl) rfl rfl ?_
                refine xval (qv_loadA (f := eB) (a := f7717) (k := 1) (off := 0) (i := (x7716 : Int).toNat) 0 [] [] h7732b (by first | rfl | exact (List.append_nil _).symm | exact List.append_nil _ | exact List.append_assoc _ _ _ | exact (List.append_assoc _ _ _).symm | exact congrArg _ (List.append_nil _).symm | exact congrArg _ (List.append_nil _) | (simp; done) | (simp [cellsS]; done)) (by first | rfl | omega | (simp only [List.length_cons, List.length_nil]; omega) | (simp only [seg_len, List.length_append, List.length_cons, List.length_nil]; omega)) (by decide) rfl ShpC.h rfl rfl) rfl rfl ?_
                refine xvalP (pv_move rfl) rfl rfl ?_
                refine xvalP (pv_neB UndC.h rfl rfl) rfl rfl ?_
                obtain ⟨h7735, h⟩ := h
                obtain ⟨y7736, h7735b, h⟩ := h
                refine xvalP (pv_indexAddrBA h7735 UndC.h ShpC.h rfl rfl) rfl rfl ?_
                refine xstoreA (f := eB) (a := f7717) (k := 1) (off := 0) (i := (x7716 : Int).toNat) 0 [] [] (!(y7733 == (decide (y24 = 94)))) h7735b (by first | rfl | exact (List.append_nil _).symm | exact List.append_nil _ | exact List.append_assoc _ _ _ | exact (List.append_assoc _ _ _).symm | exact congrArg _ (List.append_nil _).symm | exact congrArg _ (List.append_nil _) | (simp; done) | (simp [cellsS]; done)) (by first | rfl | omega | (simp only [List.length_cons, List.length_nil]; omega) | (simp only [seg_len, List.length_append, List.length_cons, List.length_nil]; omega)) (by decide) ShpC.h rfl rfl rfl rfl (by first | rfl | exact seg_lenE (by rfl) | exact len_app rfl (seg_lenE (by rfl)) (by rfl) | exact len_app (seg_lenE (by rfl)) rfl (by rfl) | exact len_app rfl (len_app (seg_lenE (by rfl)) rfl (by rfl)) (by rfl) | (simp only [seg_len, cellsS, List.length_append, List.length_cons, List.length_nil]; done) | (simp only [seg_len, cellsS, List.length_append, List.length_cons, List.length_nil]; rfl)) rfl rfl ?_
                refine xreb 0 ((List.map eB ((Arr.set f7717 (x7716 : Int).toNat ((!(y7733 == (decide (y24 = 94))))))).l).flatten) rfl (by first | rfl | exact (List.append_nil _).symm | exact List.append_nil _ | exact List.append_assoc _ _ _ | exact (List.append_assoc _ _ _).symm | exact congrArg _ (List.append_nil _).symm | exact congrArg _ (List.append_nil _) | (simp; done) | (simp [cellsS]; done)) ?_
                refine xnil ?_
                refine xin_normal ?_
                refine xthen ?_
                refine xregion ?_
                refine xvalP (pv_move rfl) rfl rfl ?_
                obtain ⟨h7737, h⟩ := h
                refine xvalP (pv_addI h7737 rfl rfl) rfl rfl ?_
                refine xvalP (pv_assign rfl) rfl rfl ?_
                refine xnil ?_
                obtain ⟨m', hm, hI⟩ := hag5 _ h
                exact xagain ⟨(x7716 + 1), (Arr.set f7717 (x7716 : Int).toNat ((!(y7733 == (decide (y24 = 94)))))), hI, rfl⟩ hm ⟨(.cons rfl (.refl _) (.cons rfl (.refl _) (.cons rfl (.refl _) (.cons rfl (.refl _) (.cons rfl (.refl _) (.nil _)))))), (SubM.of (.keep rfl rfl (.refl _) (.keep rfl rfl (.refl _) (.nil _))) (.nil _))⟩
              · replace h := h.2 hp7731
                refine xcondF' (decide_eq_false hp7731) rfl ?_
                refine xexit ?_
                refine xthen_exit ?_
                refine xthen_exit ?_
                refine xin_same rfl ?_
                refine xthen ?_
                refine xseq ?_
                refine xregion ?_
                refine xval (qv_loadP 0 [] ((List.map eB f7717.l).flatten) [] (by first | rfl | exact (List.append_nil _).symm | exact List.append_nil _ | exact List.append_assoc _ _ _ | exact (List.append_assoc _ _ _).symm | exact congrArg _ (List.append_nil _).symm | exact congrArg _ (List.append_nil _) | (simp; done) | (simp [cellsS]; done)) (by first | rfl | exact seg_lenE (by rfl) | exact len_app rfl (seg_lenE (by rfl)) (by rfl) | exact len_app (seg_lenE (by rfl)) rfl (by rfl) | exact len_app rfl (len_app (seg_lenE (by rfl)) rfl (by rfl)) (by rfl) | (simp only [seg_len, cellsS, List.length_append, List.length_cons, List.length_nil]; done) | (simp only [seg_len, cellsS, List.length_append, List.length_cons, List.length_nil]; rfl)) (by first | rfl | exact seg_lenE (by rfl) | exact len_app rfl (seg_lenE (by rfl)) (by rfl) | exact len_app (seg_lenE (by rfl)) rfl (by rfl) | exact len_app rfl (len_app (seg_lenE (by rfl)) rfl (by rfl)) (by rfl) | (simp only [seg_len, cellsS, List.length_append, List.length_cons, List.length_nil]; done) | (simp only [seg_len, cellsS, List.length_append, List.length_cons, List.length_nil]; rfl)) (part_all (seg_lenE (by rfl))) ShpC.h rfl rfl) rfl rfl ?_
                obtain ⟨y7739, h7738, h⟩ := h
                refine xcall0 (palinoderef05_Of_con f7717 _ h7738) Try.func20 (by kernel_rfl) rfl (.cons rfl (.refl _) .nil) rfl rfl ?_
                refine xvalP (pv_move rfl) rfl rfl ?_
                obtain ⟨h7740, h⟩ := h
                refine xvalP (pv_addI h7740 rfl rfl) rfl rfl ?_
                refine xstoreP 1 [] ((List.map ew ((Arr.rep 4 (0 : UInt64))).l).flatten) [] (by first | rfl | exact (List.append_nil _).symm | exact List.append_nil _ | exact List.append_assoc _ _ _ | exact (List.append_assoc _ _ _).symm | exact congrArg _ (List.append_nil _).symm | exact congrArg _ (List.append_nil _) | (simp; done) | (simp [cellsS]; done)) (by first | rfl | exact seg_lenE (by rfl) | exact len_app rfl (seg_lenE (by rfl)) (by rfl) | exact len_app (seg_lenE (by rfl)) rfl (by rfl) | exact len_app rfl (len_app (seg_lenE (by rfl)) rfl (by rfl)) (by rfl) | (simp only [seg_len, cellsS, List.length_append, List.length_cons, List.length_nil]; done) | (simp only [seg_len, cellsS, List.length_append, List.length_cons, List.length_nil]; rfl)) (by first | rfl | exact seg_lenE (by rfl) | exact len_app rfl (seg_lenE (by rfl)) (by rfl) | exact len_app (seg_lenE (by rfl)) rfl (by rfl) | exact len_app rfl (len_app (seg_lenE (by rfl)) rfl (by rfl)) (by rfl) | (simp only [seg_len, cellsS, List.length_append, List.length_cons, List.length_nil]; done) | (simp only [seg_len, cellsS, List.length_append, List.length_cons, List.length_nil]; rfl)) ShpC.h rfl rfl rfl rfl (by first | rfl | exact seg_lenE (by rfl) | exact len_app rfl (seg_lenE (by rfl)) (by rfl) | exact len_app (seg_lenE (by rfl)) rfl (by rfl) | exact len_app rfl (len_app (seg_lenE (by rfl)) rfl (by rfl)) (by rfl) | (simp only [seg_len, cellsS, List.length_append, List.length_cons, List.length_nil]; done) | (simp only [seg_len, cellsS, List.length_append, List.length_cons, List.length_nil]; rfl)) rfl ?_
                refine xreb 1 ((List.map ew y7739.l).flatten) rfl (by first | rfl | exact (List.append_nil _).symm | exact List.append_nil _ | exact List.append_assoc _ _ _ | exact (List.append_assoc _ _ _).symm | exact congrArg _ (List.append_nil _).symm | exact congrArg _ (List.append_nil _) | (simp; done) | (simp [cellsS]; done)) ?_
                refine xvalP (pv_assign rfl) rfl rfl ?_
                refine xvalP (pv_assign rfl) rfl rfl ?_
                refine xnil ?_
                refine xthen ?_
                refine xretc ?_
                replace h := h.symm
                subst h
                exact xretL (rs := [.cell 4 26, .tmp 5, .tmp 6]) (ss := [.agg ((List.map ew y7739.l).flatten), .v (.int .i64 ((x6126 + 1))), .v (.int .i64 0)]) hg rfl (by refine RetL.cell 1 ShpC.h rfl rfl (part_midE (pre := []) (mid := ((List.map ew y7739.l).flatten)) (post := []) (by first | rfl | exact (List.append_nil _).symm | exact List.append_nil _ | exact List.append_assoc _ _ _ | exact (List.append_assoc _ _ _).symm | exact congrArg _ (List.append_nil _).symm | exact congrArg _ (List.append_nil _) | (simp; done) | (simp [cellsS]; done)) (by first | rfl | exact seg_lenE (by rfl) | exact len_app rfl (seg_lenE (by rfl)) (by rfl) | exact len_app (seg_lenE (by rfl)) rfl (by rfl) | exact len_app rfl (len_app (seg_lenE (by rfl)) rfl (by rfl)) (by rfl) | (simp only [seg_len, cellsS, List.length_append, List.length_cons, List.length_nil]; done) | (simp only [seg_len, cellsS, List.length_append, List.length_cons, List.length_nil]; rfl)) (by first | rfl | exact seg_lenE (by rfl) | exact len_app rfl (seg_lenE (by rfl)) (by rfl) | exact len_app (seg_lenE (by rfl)) rfl (by rfl) | exact len_app rfl (len_app (seg_lenE (by rfl)) rfl (by rfl)) (by rfl) | (simp only [seg_len, cellsS, List.length_append, List.length_cons, List.length_nil]; done) | (simp only [seg_len, cellsS, List.length_append, List.length_cons, List.length_nil]; rfl)) (part_all (seg_lenE (by rfl)))) (len_midE (pre := []) (mid := ((List.map ew y7739.l).flatten)) (post := []) (by first | rfl | exact (List.append_nil _).symm | exact List.append_nil _ | exact List.append_assoc _ _ _ | exact (List.append_assoc _ _ _).symm | exact congrArg _ (List.append_nil _).symm | exact congrArg _ (List.append_nil _) | (simp; done) | (simp [cellsS]; done)) (by first | rfl | exact seg_lenE (by rfl) | exact len_app rfl (seg_lenE (by rfl)) (by rfl) | exact len_app (seg_lenE (by rfl)) rfl (by rfl) | exact len_app rfl (len_app (seg_lenE (by rfl)) rfl (by rfl)) (by rfl) | (simp only [seg_len, cellsS, List.length_append, List.length_cons, List.length_nil]; done) | (simp only [seg_len, cellsS, List.length_append, List.length_cons, List.length_nil]; rfl)) (by first | rfl | exact seg_lenE (by rfl) | exact len_app rfl (seg_lenE (by rfl)) (by rfl) | exact len_app (seg_lenE (by rfl)) rfl (by rfl) | exact len_app rfl (len_app (seg_lenE (by rfl)) rfl (by rfl)) (by rfl) | (simp only [seg_len, cellsS, List.length_append, List.length_cons, List.length_nil]; done) | (simp only [seg_len, cellsS, List.length_append, List.length_cons, List.length_nil]; rfl))) (by first | with_reducible exact Wk.refl _ | exact Wk.nil_own _ | exact Wk.nil_pl _ | with_reducible exact Wk.tok _ _ _ | exact Wk.tok _ _ _ | exact .eq rfl) ?_; refine RetL.tmp rfl (.refl _) ?_; refine RetL.tmp rfl (.refl _) ?_; exact RetL.nil) (SubM.of (.nil _) (.nil _)) ⟨rfl, rfl, rfl⟩
        · clear h
          rintro _ ⟨h, rfl⟩
          refine xseqM (fun σ => ∃ (x8490 : Int), ∃ (f8491 : Arr 256 (Bool)), palinoderef07_Parse_j6 x6127 ag3 x8490 f8491 r ∧ σ = ⟨[(0, .sl 1 none (List.map eb x1)), (1, .v (.int .i64 x8490)), (4, .v (.pointer (some ⟨b4, 0, none⟩))), (7, .v (.bool (decide (y24 = 94)))), (8, .v (.pointer (some ⟨b8, 0, none⟩))), (9, .v (.int .i64 x6127))], [⟨b8, 42, ((List.map eB f8491.l).flatten)⟩, ⟨b4, 26, ((List.map ew ((Arr.rep 4 (0 : UInt64))).l).flatten)⟩], []⟩) ?_ ?_
          · refine xblock ?_
            refine xseq ?_
            refine xregion ?_
            refine xvalP (pv_move rfl) rfl rfl ?_
            refine xvalP (pv_move rfl) rfl rfl ?_
            obtain ⟨y8493, h8492, h⟩ := h
            refine xcall0 (palinoderef07_read_con x1 x6126 _ h8492) Try.func19 (by kernel_rfl) rfl (.cons rfl (.refl _) (.cons rfl (.refl _) .nil)) rfl rfl ?_
            refine xalloc InfC.h rfl rfl fun b10 => ?_
            refine xreb 0 ([.v (.int .i64 0)] ++ ((List.map eB ((Arr.rep 256 false)).l).flatten ++ [.v (.bool false), .v (.int .i64 0), .v (.int .i64 0)])) rfl rfl ?_
            refine xstoreP 0 [] ([.v (.int .i64 0)] ++ ((List.map eB ((Arr.rep 256 false)).l).flatten ++ [.v (.bool false), .v (.int .i64 0), .v (.int .i64 0)])) [] (by first | rfl | exact (List.append_nil _).symm | exact List.append_nil _ | exact List.append_assoc _ _ _ | exact (List.append_assoc _ _ _).symm | exact congrArg _ (List.append_nil _).symm | exact congrArg _ (List.append_nil _) | (simp; done) | (simp [cellsS]; done)) (by first | rfl | exact seg_lenE (by rfl) | exact len_app rfl (seg_lenE (by rfl)) (by rfl) | exact len_app (seg_lenE (by rfl)) rfl (by rfl) | exact len_app rfl (len_app (seg_lenE (by rfl)) rfl (by rfl)) (by rfl) | (simp only [seg_len, cellsS, List.length_append, List.length_cons, List.length_nil]; done) | (simp only [seg_len, cellsS, List.length_append, List.length_cons, List.length_nil]; rfl)) (by first | rfl | exact seg_lenE (by rfl) | exact len_app rfl (seg_lenE (by rfl)) (by rfl) | exact len_app (seg_lenE (by rfl)) rfl (by rfl) | exact len_app rfl (len_app (seg_lenE (by rfl)) rfl (by rfl)) (by rfl) | (simp only [seg_len, cellsS, List.length_append, List.length_cons, List.length_nil]; done) | (simp only [seg_len, cellsS, List.length_append, List.length_cons, List.length_nil]; rfl)) ShpC.h rfl rfl rfl rfl (by first | rfl | exact seg_lenE (by rfl) | exact len_app rfl (seg_lenE (by rfl)) (by rfl) | exact len_app (seg_lenE (by rfl)) rfl (by rfl) | exact len_app rfl (len_app (seg_lenE (by rfl)) rfl (by rfl)) (by rfl) | (simp only [seg_len, cellsS, List.length_append, List.length_cons, List.length_nil]; done) | (simp only [seg_len, cellsS, List.length_append, List.length_cons, List.length_nil]; rfl)) rfl ?_
            refine xreb 0 ([.v (.int .i64 y8493.1)] ++ ((List.map eB y8493.2.1.l).flatten ++ [.v (.bool y8493.2.2.1), .v (.int .i64 y8493.2.2.2.1), .v (.int .i64 y8493.2.2.2.2)])) rfl (by first | rfl | exact (List.append_nil _).symm | exact List.append_nil _ | exact List.append_assoc _ _ _ | exact (List.append_assoc _ _ _).symm | exact congrArg _ (List.append_nil _).symm | exact congrArg _ (List.append_nil _) | (simp; done) | (simp [cellsS]; done)) ?_
            refine xnil ?_
            refine xthen ?_
            refine xseq ?_
            refine xseq ?_
            refine xregion ?_
            refine xvalP (qv_fieldAddrB FldC.h rfl) rfl rfl ?_
            refine xval (qv_loadP 0 ([.v (.int .i64 y8493.1)] ++ ((List.map eB y8493.2.1.l).flatten ++ [.v (.bool y8493.2.2.1), .v (.int .i64 y8493.2.2.2.1)])) [.v (.int .i64 y8493.2.2.2.2)] [] (by first | rfl | exact (List.append_nil _).symm | exact List.append_nil _ | exact List.append_assoc _ _ _ | exact (List.append_assoc _ _ _).symm | exact congrArg _ (List.append_nil _).symm | exact congrArg _ (List.append_nil _) | (simp; done) | (simp [cellsS]; done)) (by first | rfl | exact seg_lenE (by rfl) | exact len_app rfl (seg_lenE (by rfl)) (by rfl) | exact len_app (seg_lenE (by rfl)) rfl (by rfl) | exact len_app rfl (len_app (seg_lenE (by rfl)) rfl (by rfl)) (by rfl) | (simp only [seg_len, cellsS, List.length_append, List.length_cons, List.length_nil]; done) | (simp only [seg_len, cellsS, List.length_append, List.length_cons, List.length_nil]; rfl)) (by first | rfl | exact seg_lenE (by rfl) | exact len_app rfl (seg_lenE (by rfl)) (by rfl) | exact len_app (seg_lenE (by rfl)) rfl (by rfl) | exact len_app rfl (len_app (seg_lenE (by rfl)) rfl (by rfl)) (by rfl) | (simp only [seg_len, cellsS, List.length_append, List.length_cons, List.length_nil]; done) | (simp only [seg_len, cellsS, List.length_append, List.length_cons, List.length_nil]; rfl)) rfl ShpC.h rfl rfl) rfl rfl ?_
            refine xvalP (pv_bin2 rfl rfl rfl) rfl rfl ?_
            refine xnil ?_
            refine xthen ?_
            by_cases hp8499 : ¬ (y8493.2.2.2.2 = 0)
            · replace h := h.1 hp8499
              refine xcondT' (not_t (decide_eq_false hp8499)) rfl ?_
              refine xseq ?_
              refine xregionD (m := 6) (by kernel_rfl) rfl ?_
              refine xpcut 0 #[true, true, true, true, true, true] (fun σ => σ = ⟨[(4, .v (.pointer (some ⟨b4, 0, none⟩))), (5, .v (.int .i64 0)), (6, .v (.int .i64 y8493.2.2.2.2))], [⟨b4, 26, ((List.map ew ((Arr.rep 4 (0 : UInt64))).l).flatten)⟩], []⟩) ?_ (fun key8501 => ?_)
              · rintro _ rfl
                refine xpdone (by kernel_rfl) ?_
                refine xthen ?_
                refine xretc ?_
                refine xthen_ret ?_
                refine xin_ret ?_
                refine xthen_ret ?_
                refine xthen_ret ?_
                refine xin_ret ?_
                refine xthen_ret ?_
                replace h := h.symm
                subst h
                exact xretL (rs := [.cell 4 26, .tmp 5, .tmp 6]) (ss := [.agg ((List.map ew ((Arr.rep 4 (0 : UInt64))).l).flatten), .v (.int .i64 0), .v (.int .i64 y8493.2.2.2.2)]) hg rfl (by refine RetL.cell 0 ShpC.h rfl rfl (part_midE (pre := []) (mid := ((List.map ew ((Arr.rep 4 (0 : UInt64))).l).flatten)) (post := []) (by first | rfl | exact (List.append_nil _).symm | exact List.append_nil _ | exact List.append_assoc _ _ _ | exact (List.append_assoc _ _ _).symm | exact congrArg _ (List.append_nil _).symm | exact congrArg _ (List.append_nil _) | (simp; done) | (simp [cellsS]; done)) (by first | rfl | exact seg_lenE (by rfl) | exact len_app rfl (seg_lenE (by rfl)) (by rfl) | exact len_app (seg_lenE (by rfl)) rfl (by rfl) | exact len_app rfl (len_app (seg_lenE (by rfl)) rfl (by rfl)) (by rfl) | (simp only [seg_len, cellsS, List.length_append, List.length_cons, List.length_nil]; done) | (simp only [seg_len, cellsS, List.length_append, List.length_cons, List.length_nil]; rfl)) (by first | rfl | exact seg_lenE (by rfl) | exact len_app rfl (seg_lenE (by rfl)) (by rfl) | exact len_app (seg_lenE (by rfl)) rfl (by rfl) | exact len_app rfl (len_app (seg_lenE (by rfl)) rfl (by rfl)) (by rfl) | (simp only [seg_len, cellsS, List.length_append, List.length_cons, List.length_nil]; done) | (simp only [seg_len, cellsS, List.length_append, List.length_cons, List.length_nil]; rfl)) (part_all (seg_lenE (by rfl)))) (len_midE (pre := []) (mid := ((List.map ew ((Arr.rep 4 (0 : UInt64))).l).flatten)) (post := []) (by first | rfl | exact (List.append_nil _).symm | exact List.append_nil _ | exact List.append_assoc _ _ _ | exact (List.append_assoc _ _ _).symm | exact congrArg _ (List.append_nil _).symm | exact congrArg _ (List.append_nil _) | (simp; done) | (simp [cellsS]; done)) (by first | rfl | exact seg_lenE (by rfl) | exact len_app rfl (seg_lenE (by rfl)) (by rfl) | exact len_app (seg_lenE (by rfl)) rfl (by rfl) | exact len_app rfl (len_app (seg_lenE (by rfl)) rfl (by rfl)) (by rfl) | (simp only [seg_len, cellsS, List.length_append, List.length_cons, List.length_nil]; done) | (simp only [seg_len, cellsS, List.length_append, List.length_cons, List.length_nil]; rfl)) (by first | rfl | exact seg_lenE (by rfl) | exact len_app rfl (seg_lenE (by rfl)) (by rfl) | exact len_app (seg_lenE (by rfl)) rfl (by rfl) | exact len_app rfl (len_app (seg_lenE (by rfl)) rfl (by rfl)) (by rfl) | (simp only [seg_len, cellsS, List.length_append, List.length_cons, List.length_nil]; done) | (simp only [seg_len, cellsS, List.length_append, List.length_cons, List.length_nil]; rfl))) (by first | with_reducible exact Wk.refl _ | exact Wk.nil_own _ | exact Wk.nil_pl _ | with_reducible exact Wk.tok _ _ _ | exact Wk.tok _ _ _ | exact .eq rfl) ?_; refine RetL.tmp rfl (.refl _) ?_; refine RetL.tmp rfl (.refl _) ?_; exact RetL.nil) (SubM.of (.nil _) (.nil _)) ⟨rfl, rfl, rfl⟩
              refine xpval 0 rfl (pv_buildAC (cs := ((List.map ew ((Arr.rep 4 (0 : UInt64))).l).flatten)) UndC.h ShpC.h InfC.h rfl (by rfl)) rfl rfl (by kernel_rfl) (by kernel_rfl) (by kernel_rfl) (fun _ _ _ _ h => h) ?_
              refine xpval 1 rfl (qv_fieldAddrB FldC.h rfl) rfl rfl (by kernel_rfl) (by kernel_rfl) (by kernel_rfl) (fun _ _ _ _ h => h) ?_
              refine xpstepN (is := [2, 3]) (by kernel_rfl) (by simp) ?_
              intro i hi; simp only [List.mem_cons, List.not_mem_nil, or_false] at hi; rcases hi with rfl | rfl
              · refine ⟨_, rfl, ?_⟩
                refine wval (qv_loadP 0 ([.v (.int .i64 y8493.1)] ++ ((List.map eB y8493.2.1.l).flatten ++ [.v (.bool y8493.2.2.1), .v (.int .i64 y8493.2.2.2.1)])) [.v (.int .i64 y8493.2.2.2.2)] [] (by first | rfl | exact (List.append_nil _).symm | exact List.append_nil _ | exact List.append_assoc _ _ _ | exact (List.append_assoc _ _ _).symm | exact congrArg _ (List.append_nil _).symm | exact congrArg _ (List.append_nil _) | (simp; done) | (simp [cellsS]; done)) (by first | rfl | exact seg_lenE (by rfl) | exact len_app rfl (seg_lenE (by rfl)) (by rfl) | exact len_app (seg_lenE (by rfl)) rfl (by rfl) | exact len_app rfl (len_app (seg_lenE (by rfl)) rfl (by rfl)) (by rfl) | (simp only [seg_len, cellsS, List.length_append, List.length_cons, List.length_nil]; done) | (simp only [seg_len, cellsS, List.length_append, List.length_cons, List.length_nil]; rfl)) (by first | rfl | exact seg_lenE (by rfl) | exact len_app rfl (seg_lenE (by rfl)) (by rfl) | exact len_app (seg_lenE (by rfl)) rfl (by rfl) | exact len_app rfl (len_app (seg_lenE (by rfl)) rfl (by rfl)) (by rfl) | (simp only [seg_len, cellsS, List.length_append, List.length_cons, List.length_nil]; done) | (simp only [seg_len, cellsS, List.length_append, List.length_cons, List.length_nil]; rfl)) rfl ShpC.h rfl rfl) rfl rfl ?_
                refine xpstep (i := 3) (by kernel_rfl) rfl ?_
                refine wstoreP 2 [] ((List.map ew ((Arr.rep 4 (0 : UInt64))).l).flatten) [] (by first | rfl | exact (List.append_nil _).symm | exact List.append_nil _ | exact List.append_assoc _ _ _ | exact (List.append_assoc _ _ _).symm | exact congrArg _ (List.append_nil _).symm | exact congrArg _ (List.append_nil _) | (simp; done) | (simp [cellsS]; done)) (by first | rfl | exact seg_lenE (by rfl) | exact len_app rfl (seg_lenE (by rfl)) (by rfl) | exact len_app (seg_lenE (by rfl)) rfl (by rfl) | exact len_app rfl (len_app (seg_lenE (by rfl)) rfl (by rfl)) (by rfl) | (simp only [seg_len, cellsS, List.length_append, List.length_cons, List.length_nil]; done) | (simp only [seg_len, cellsS, List.length_append, List.length_cons, List.length_nil]; rfl)) (by first | rfl | exact seg_lenE (by rfl) | exact len_app rfl (seg_lenE (by rfl)) (by rfl) | exact len_app (seg_lenE (by rfl)) rfl (by rfl) | exact len_app rfl (len_app (seg_lenE (by rfl)) rfl (by rfl)) (by rfl) | (simp only [seg_len, cellsS, List.length_append, List.length_cons, List.length_nil]; done) | (simp only [seg_len, cellsS, List.length_append, List.length_cons, List.length_nil]; rfl)) ShpC.h rfl rfl rfl rfl (by first | rfl | exact seg_lenE (by rfl) | exact len_app rfl (seg_lenE (by rfl)) (by rfl) | exact len_app (seg_lenE (by rfl)) rfl (by rfl) | exact len_app rfl (len_app (seg_lenE (by rfl)) rfl (by rfl)) (by rfl) | (simp only [seg_len, cellsS, List.length_append, List.length_cons, List.length_nil]; done) | (simp only [seg_len, cellsS, List.length_append, List.length_cons, List.length_nil]; rfl)) rfl ?_
                refine preb 2 ((List.map ew ((Arr.rep 4 (0 : UInt64))).l).flatten) rfl (by first | rfl | exact (List.append_nil _).symm | exact List.append_nil _ | exact List.append_assoc _ _ _ | exact (List.append_assoc _ _ _).symm | exact congrArg _ (List.append_nil _).symm | exact congrArg _ (List.append_nil _) | (simp; done) | (simp [cellsS]; done)) ?_
                refine xpval 4 rfl (pv_assign rfl) rfl rfl (by kernel_rfl) (by kernel_rfl) (by kernel_rfl) (fun _ _ _ _ h => h) ?_
                refine xpval 5 rfl (pv_assign rfl) rfl rfl (by kernel_rfl) (by kernel_rfl) (by kernel_rfl) (fun _ _ _ _ h => h) ?_
                exact xpuse key8501 rfl ⟨(.cons rfl (.refl _) (.cons rfl (.refl _) (.cons rfl (.refl _) (.nil _)))), (SubM.of (.drop (.drop (.keep rfl rfl (.refl _) (.nil _)))) (.nil _))⟩ rfl (by kernel_rfl)
              · refine ⟨_, rfl, ?_⟩
                refine wstoreP 2 [] ((List.map ew ((Arr.rep 4 (0 : UInt64))).l).flatten) [] (by first | rfl | exact (List.append_nil _).symm | exact List.append_nil _ | exact List.append_assoc _ _ _ | exact (List.append_assoc _ _ _).symm | exact congrArg _ (List.append_nil _).symm | exact congrArg _ (List.append_nil _) | (simp; done) | (simp [cellsS]; done)) (by first | rfl | exact seg_lenE (by rfl) | exact len_app rfl (seg_lenE (by rfl)) (by rfl) | exact len_app (seg_lenE (by rfl)) rfl (by rfl) | exact len_app rfl (len_app (seg_lenE (by rfl)) rfl (by rfl)) (by rfl) | (simp only [seg_len, cellsS, List.length_append, List.length_cons, List.length_nil]; done) | (simp only [seg_len, cellsS, List.length_append, List.length_cons, List.length_nil]; rfl)) (by first | rfl | exact seg_lenE (by rfl) | exact len_app rfl (seg_lenE (by rfl)) (by rfl) | exact len_app (seg_lenE (by rfl)) rfl (by rfl) | exact len_app rfl (len_app (seg_lenE (by rfl)) rfl (by rfl)) (by rfl) | (simp only [seg_len, cellsS, List.length_append, List.length_cons, List.length_nil]; done) | (simp only [seg_len, cellsS, List.length_append, List.length_cons, List.length_nil]; rfl)) ShpC.h rfl rfl rfl rfl (by first | rfl | exact seg_lenE (by rfl) | exact len_app rfl (seg_lenE (by rfl)) (by rfl) | exact len_app (seg_lenE (by rfl)) rfl (by rfl) | exact len_app rfl (len_app (seg_lenE (by rfl)) rfl (by rfl)) (by rfl) | (simp only [seg_len, cellsS, List.length_append, List.length_cons, List.length_nil]; done) | (simp only [seg_len, cellsS, List.length_append, List.length_cons, List.length_nil]; rfl)) rfl ?_
                refine preb 2 ((List.map ew ((Arr.rep 4 (0 : UInt64))).l).flatten) rfl (by first | rfl | exact (List.append_nil _).symm | exact List.append_nil _ | exact List.append_assoc _ _ _ | exact (List.append_assoc _ _ _).symm | exact congrArg _ (List.append_nil _).symm | exact congrArg _ (List.append_nil _) | (simp; done) | (simp [cellsS]; done)) ?_
                refine xpval 4 rfl (pv_assign rfl) rfl rfl (by kernel_rfl) (by kernel_rfl) (by kernel_rfl) (fun _ _ _ _ h => h) ?_
                refine xpvalE 2 [] rfl (qv_loadP 0 ([.v (.int .i64 y8493.1)] ++ ((List.map eB y8493.2.1.l).flatten ++ [.v (.bool y8493.2.2.1), .v (.int .i64 y8493.2.2.2.1)])) [.v (.int .i64 y8493.2.2.2.2)] [] (by first | rfl | exact (List.append_nil _).symm | exact List.append_nil _ | exact List.append_assoc _ _ _ | exact (List.append_assoc _ _ _).symm | exact congrArg _ (List.append_nil _).symm | exact congrArg _ (List.append_nil _) | (simp; done) | (simp [cellsS]; done)) (by first | rfl | exact seg_lenE (by rfl) | exact len_app rfl (seg_lenE (by rfl)) (by rfl) | exact len_app (seg_lenE (by rfl)) rfl (by rfl) | exact len_app rfl (len_app (seg_lenE (by rfl)) rfl (by rfl)) (by rfl) | (simp only [seg_len, cellsS, List.length_append, List.length_cons, List.length_nil]; done) | (simp only [seg_len, cellsS, List.length_append, List.length_cons, List.length_nil]; rfl)) (by first | rfl | exact seg_lenE (by rfl) | exact len_app rfl (seg_lenE (by rfl)) (by rfl) | exact len_app (seg_lenE (by rfl)) rfl (by rfl) | exact len_app rfl (len_app (seg_lenE (by rfl)) rfl (by rfl)) (by rfl) | (simp only [seg_len, cellsS, List.length_append, List.length_cons, List.length_nil]; done) | (simp only [seg_len, cellsS, List.length_append, List.length_cons, List.length_nil]; rfl)) rfl ShpC.h rfl rfl) rfl rfl (by kernel_rfl) (by kernel_rfl) (by kernel_rfl) (fun _ _ _ _ h => h) ?_
                refine xpval 5 rfl (pv_assign rfl) rfl rfl (by kernel_rfl) (by kernel_rfl) (by kernel_rfl) (fun _ _ _ _ h => h) ?_
                exact xpuse key8501 rfl ⟨(.cons rfl (.refl _) (.cons rfl (.refl _) (.cons rfl (.refl _) (.nil _)))), (SubM.of (.drop (.drop (.keep rfl rfl (.refl _) (.nil _)))) (.nil _))⟩ rfl (by kernel_rfl)
            · replace h := h.2 hp8499
              refine xcondF' (not_f (decide_eq_true (Decidable.of_not_not hp8499))) rfl ?_
              refine xskipc ?_
              refine xthen ?_
              refine xseq ?_
              refine xseqM (fun σ => ∃ (x8844 : Bool), palinoderef07_Parse_j7 y8493 x6127 ag3 f6128 x1 x8844 r ∧ σ = ⟨[(0, .sl 1 none (List.map eb x1)), (4, .v (.pointer (some ⟨b4, 0, none⟩))), (7, .v (.bool (decide (y24 = 94)))), (8, .v (.pointer (some ⟨b8, 0, none⟩))), (9, .v (.int .i64 x6127)), (10, .v (.pointer (some ⟨b10, 0, none⟩))), (62, .v (.bool x8844))], [⟨b10, 44, ([.v (.int .i64 y8493.1)] ++ ((List.map eB y8493.2.1.l).flatten ++ [.v (.bool y8493.2.2.1), .v (.int .i64 y8493.2.2.2.1), .v (.int .i64 y8493.2.2.2.2)]))⟩, ⟨b8, 42, ((List.map eB f6128.l).flatten)⟩, ⟨b4, 26, ((List.map ew ((Arr.rep 4 (0 : UInt64))).l).flatten)⟩], []⟩) ?_ ?_
              · refine xregion ?_
                refine xvalP (pv_move rfl) rfl rfl ?_
                refine xvalP (qv_fieldAddrB FldC.h rfl) rfl rfl ?_
                refine xval (qv_loadP 0 ([.v (.int .i64 y8493.1)] ++ ((List.map eB y8493.2.1.l).flatten ++ [.v (.bool y8493.2.2.1)])) [.v (.int .i64 y8493.2.2.2.1)] [.v (.int .i64 y8493.2.2.2.2)] (by first | rfl | exact (List.append_nil _).symm | exact List.append_nil _ | exact List.append_assoc _ _ _ | exact (List.append_assoc _ _ _).symm | exact congrArg _ (List.append_nil _).symm | exact congrArg _ (List.append_nil _) | (simp; done) | (simp [cellsS]; done)) (by first | rfl | exact seg_lenE (by rfl) | exact len_app rfl (seg_lenE (by rfl)) (by rfl) | exact len_app (seg_lenE (by rfl)) rfl (by rfl) | exact len_app rfl (len_app (seg_lenE (by rfl)) rfl (by rfl)) (by rfl) | (simp only [seg_len, cellsS, List.length_append, List.length_cons, List.length_nil]; done) | (simp only [seg_len, cellsS, List.length_append, List.length_cons, List.length_nil]; rfl)) (by first | rfl | exact seg_lenE (by rfl) | exact len_app rfl (seg_lenE (by rfl)) (by rfl) | exact len_app (seg_lenE (by rfl)) rfl (by rfl) | exact len_app rfl (len_app (seg_lenE (by rfl)) rfl (by rfl)) (by rfl) | (simp only [seg_len, cellsS, List.length_append, List.length_cons, List.length_nil]; done) | (simp only [seg_len, cellsS, List.length_append, List.length_cons, List.length_nil]; rfl)) rfl ShpC.h rfl rfl) rfl rfl ?_
                obtain ⟨y8846, h8845, h⟩ := h
                refine xcall0 (palinoderef07_at_con x1 y8493.2.2.2.1 _ h8845) Try.func18 (by kernel_rfl) rfl (.cons rfl (.refl _) (.cons rfl (.refl _) .nil)) rfl rfl ?_
                refine xvalP (pv_bin2 rfl rfl rfl) rfl rfl ?_
                refine xvalP (pv_move rfl) rfl rfl ?_
                by_cases hp8848 : ¬ (y8846 = 45)
                · replace h := h.1 hp8848
                  refine xsetB 55 (not_t (decide_eq_false hp8848)) rfl ?_
                  refine xskip rfl rfl ?_
                  refine xskip rfl rfl ?_
                  refine xskip rfl rfl ?_
                  refine xskip rfl rfl ?_
                  refine xskip rfl rfl ?_
                  refine xskip rfl rfl ?_
                  refine xvalP (pv_pick rfl rfl) rfl rfl ?_
                  refine xnil ?_
                  exact xmeet ⟨true, h, rfl⟩ ⟨(.cons rfl (.refl _) (.cons rfl (.refl _) (.cons rfl (.refl _) (.cons rfl (.refl _) (.cons rfl (.refl _) (.cons rfl (.refl _) (.cons rfl (.refl _) (.nil _)))))))), (SubM.of (.keep rfl rfl (.refl _) (.keep rfl rfl (.refl _) (.keep rfl rfl (.refl _) (.nil _)))) (.nil _))⟩
                · replace h := h.2 hp8848
                  refine xsetB 55 (not_f (decide_eq_true (Decidable.of_not_not hp8848))) rfl ?_
                  refine xvalP (pv_move rfl) rfl rfl ?_
                  refine xvalP (qv_fieldAddrB FldC.h rfl) rfl rfl ?_
                  refine xval (qv_loadP 0 ([.v (.int .i64 y8493.1)] ++ ((List.map eB y8493.2.1.l).flatten ++ [.v (.bool y8493.2.2.1)])) [.v (.int .i64 y8493.2.2.2.1)] [.v (.int .i64 y8493.2.2.2.2)] (by first | rfl | exact (List.append_nil _).symm | exact List.append_nil _ | exact List.append_assoc _ _ _ | exact (List.append_assoc _ _ _).symm | exact congrArg _ (List.append_nil _).symm | exact congrArg _ (List.append_nil _) | (simp; done) | (simp [cellsS]; done)) (by first | rfl | exact seg_lenE (by rfl) | exact len_app rfl (seg_lenE (by rfl)) (by rfl) | exact len_app (seg_lenE (by rfl)) rfl (by rfl) | exact len_app rfl (len_app (seg_lenE (by rfl)) rfl (by rfl)) (by rfl) | (simp only [seg_len, cellsS, List.length_append, List.length_cons, List.length_nil]; done) | (simp only [seg_len, cellsS, List.length_append, List.length_cons, List.length_nil]; rfl)) (by first | rfl | exact seg_lenE (by rfl) | exact len_app rfl (seg_lenE (by rfl)) (by rfl) | exact len_app (seg_lenE (by rfl)) rfl (by rfl) | exact len_app rfl (len_app (seg_lenE (by rfl)) rfl (by rfl)) (by rfl) | (simp only [seg_len, cellsS, List.length_append, List.length_cons, List.length_nil]; done) | (simp only [seg_len, cellsS, List.length_append, List.length_cons, List.length_nil]; rfl)) rfl ShpC.h rfl rfl) rfl rfl ?_
                  obtain ⟨h8849, h⟩ := h
                  refine xvalP (pv_addI h8849 rfl rfl) rfl rfl ?_
                  obtain ⟨y8851, h8850, h⟩ := h
                  refine xcall0 (palinoderef07_at_con x1 (y8493.2.2.2.1 + 1) _ h8850) Try.func18 (by kernel_rfl) rfl (.cons rfl (.refl _) (.cons rfl (.refl _) .nil)) rfl rfl ?_
                  refine xvalP (pv_bin2 rfl rfl rfl) rfl rfl ?_
                  refine xvalP (pv_pick rfl rfl) rfl rfl ?_
                  refine xnil ?_
                  exact xmeet ⟨(decide (y8851 = 93)), h, rfl⟩ ⟨(.cons rfl (.refl _) (.cons rfl (.refl _) (.cons rfl (.refl _) (.cons rfl (.refl _) (.cons rfl (.refl _) (.cons rfl (.refl _) (.cons rfl (.refl _) (.nil _)))))))), (SubM.of (.keep rfl rfl (.refl _) (.keep rfl rfl (.refl _) (.keep rfl rfl (.refl _) (.nil _)))) (.nil _))⟩
              · clear h
                rintro _ ⟨x8844, h, rfl⟩
                by_cases hp8853 : x8844 = true
                · replace h := h.1 hp8853
                  refine xcondT' hp8853 rfl ?_
                  refine xseq ?_
                  refine xseq ?_
                  refine xregion ?_
                  refine xvalP (pv_assign rfl) rfl rfl ?_
                  refine xnil ?_
                  refine xthen ?_
                  refine xblock ?_
                  obtain ⟨Inv, ⟨m0, hI⟩, hS⟩ := h
                  refine xloop (fun σ m => ∃ (x9064 : Int), ∃ (f9065 : Arr 256 (Bool)), Inv (x9064, f9065) m ∧ σ = ⟨[(0, .sl 1 none (List.map eb x1)), (4, .v (.pointer (some ⟨b4, 0, none⟩))), (7, .v (.bool (decide (y24 = 94)))), (8, .v (.pointer (some ⟨b8, 0, none⟩))), (9, .v (.int .i64 x6127)), (10, .v (.pointer (some ⟨b10, 0, none⟩))), (11, .v (.int .i64 x9064))], [⟨b10, 44, ([.v (.int .i64 y8493.1)] ++ ((List.map eB y8493.2.1.l).flatten ++ [.v (.bool y8493.2.2.1), .v (.int .i64 y8493.2.2.2.1), .v (.int .i64 y8493.2.2.2.2)]))⟩, ⟨b8, 42, ((List.map eB f9065.l).flatten)⟩, ⟨b4, 26, ((List.map ew ((Arr.rep 4 (0 : UInt64))).l).flatten)⟩], []⟩) ⟨0, f6128, hI, rfl⟩ ⟨(.cons rfl (.refl _) (.cons rfl (.refl _) (.cons rfl (.refl _) (.cons rfl (.refl _) (.cons rfl (.refl _) (.cons rfl (.refl _) (.cons rfl (.refl _) (.nil _)))))))), (SubM.of (.keep rfl rfl (.refl _) (.keep rfl rfl (.refl _) (.keep rfl rfl (.refl _) (.nil _)))) (.nil _))⟩ ?_
                  rintro _ m ⟨x9064, f9065, hI, rfl⟩
                  obtain ⟨ag8, hag8, h⟩ : ∃ ag, (∀ s', ag s' → ∃ m', m' < m ∧ Inv s' m') ∧ palinoderef07_Parse_l8 y8493 x6127 ag3 ag x9064 f9065 r := ⟨_, fun _ h => h, hS (x9064, f9065) _ hI⟩
                  clear hS hI
                  refine xseq ?_
                  refine xseq ?_
                  refine xregion ?_
                  refine xvalP (pv_move rfl) rfl rfl ?_
                  refine xvalP (pv_bin2 rfl rfl rfl) rfl rfl ?_
                  refine xnil ?_
                  refine xthen ?_
                  by_cases hp9121 : x9064 < 256
                  · replace h := h.1 hp9121
                    refine xcondT' (decide_eq_true hp9121) rfl ?_
                    refine xskipc ?_
                    refine xthen ?_
                    refine xseqM (fun σ => ∃ (f9145 : Arr 256 (Bool)), palinoderef07_Parse_j9 x9064 ag8 f9145 r ∧ σ = ⟨[(0, .sl 1 none (List.map eb x1)), (4, .v (.pointer (some ⟨b4, 0, none⟩))), (7, .v (.bool (decide (y24 = 94)))), (8, .v (.pointer (some ⟨b8, 0, none⟩))), (9, .v (.int .i64 x6127)), (10, .v (.pointer (some ⟨b10, 0, none⟩))), (11, .v (.int .i64 x9064))], [⟨b10, 44, ([.v (.int .i64 y8493.1)] ++ ((List.map eB y8493.2.1.l).flatten ++ [.v (.bool y8493.2.2.1), .v (.int .i64 y8493.2.2.2.1), .v (.int .i64 y8493.2.2.2.2)]))⟩, ⟨b8, 42, ((List.map eB f9145.l).flatten)⟩, ⟨b4, 26, ((List.map ew ((Arr.rep 4 (0 : UInt64))).l).flatten)⟩], []⟩) ?_ ?_
                    · refine xblock ?_
                      refine xregion ?_
                      refine xvalP (pv_move rfl) rfl rfl ?_
                      refine xvalP (pv_move rfl) rfl rfl ?_
                      obtain ⟨h9146, h⟩ := h
                      obtain ⟨y9147, h9146b, h⟩ := h
                      refine xvalP (pv_indexAddrBA h9146 UndC.h ShpC.h rfl rfl) rfl rfl ?_
                      refine xval (qv_loadA (f := eB) (a := f9065) (k := 1) (off := 0) (i := (x9064 : Int).toNat) 1 [] [] h9146b (by first | rfl | exact (List.append_nil _).symm | exact List.append_nil _ | exact List.append_assoc _ _ _ | exact (List.append_assoc _ _ _).symm | exact congrArg _ (List.append_nil _).symm | exact congrArg _ (List.append_nil _) | (simp; done) | (simp [cellsS]; done)) (by first | rfl | omega | (simp only [List.length_cons, List.length_nil]; omega) | (simp only [seg_len, List.length_append, List.length_cons, List.length_nil]; omega)) (by decide) rfl ShpC.h rfl rfl) rfl rfl ?_
                      refine xvalP (pv_move rfl) rfl rfl ?_
                      by_cases hp9148 : y9147 = true
                      · replace h := h.1 hp9148
                        refine xsetB 71 hp9148 rfl ?_
                        refine xskip rfl rfl ?_
                        refine xskip rfl rfl ?_
                        refine xskip rfl rfl ?_
                        refine xskip rfl rfl ?_
                        refine xskip rfl rfl ?_
                        refine xskip rfl rfl ?_
                        refine xskip rfl rfl ?_
                        refine xskip rfl rfl ?_
                        refine xvalP (pv_pick rfl rfl) rfl rfl ?_
                        refine xvalP (pv_move rfl) rfl rfl ?_
                        refine xskip rfl rfl ?_
                        refine xskip rfl rfl ?_
                        refine xskip rfl rfl ?_
                        refine xskip rfl rfl ?_
                        refine xskip rfl rfl ?_
                        refine xskip rfl rfl ?_
                        refine xskip rfl rfl ?_
                        refine xskip rfl rfl ?_
                        refine xskip rfl rfl ?_
                        refine xvalP (pv_pick rfl rfl) rfl rfl ?_
                        obtain ⟨h9149, h⟩ := h
                        obtain ⟨y9150, h9149b, h⟩ := h
                        refine xvalP (pv_indexAddrBA h9149 UndC.h ShpC.h rfl rfl) rfl rfl ?_
                        refine xstoreA (f := eB) (a := f9065) (k := 1) (off := 0) (i := (x9064 : Int).toNat) 1 [] [] true h9149b (by first | rfl | exact (List.append_nil _).symm | exact List.append_nil _ | exact List.append_assoc _ _ _ | exact (List.append_assoc _ _ _).symm | exact congrArg _ (List.append_nil _).symm | exact congrArg _ (List.append_nil _) | (simp; done) | (simp [cellsS]; done)) (by first | rfl | omega | (simp only [List.length_cons, List.length_nil]; omega) | (simp only [seg_len, List.length_append, List.length_cons, List.length_nil]; omega)) (by decide) ShpC.h rfl rfl rfl rfl (by first | rfl | exact seg_lenE (by rfl) | exact len_app rfl (seg_lenE (by rfl)) (by rfl) | exact len_app (seg_lenE (by rfl)) rfl (by rfl) | exact len_app rfl (len_app (seg_lenE (by rfl)) rfl (by rfl)) (by rfl) | (simp only [seg_len, cellsS, List.length_append, List.length_cons, List.length_nil]; done) | (simp only [seg_len, cellsS, List.length_append, List.length_cons, List.length_nil]; rfl)) rfl rfl ?_
                        refine xreb 1 ((List.map eB ((Arr.set f9065 (x9064 : Int).toNat true)).l).flatten) rfl (by first | rfl | exact (List.append_nil _).symm | exact List.append_nil _ | exact List.append_assoc _ _ _ | exact (List.append_assoc _ _ _).symm | exact congrArg _ (List.append_nil _).symm | exact congrArg _ (List.append_nil _) | (simp; done) | (simp [cellsS]; done)) ?_
                        refine xnil ?_
                        refine xin_normal ?_
                        exact xmeet ⟨(Arr.set f9065 (x9064 : Int).toNat true), h, rfl⟩ ⟨(.cons rfl (.refl _) (.cons rfl (.refl _) (.cons rfl (.refl _) (.cons rfl (.refl _) (.cons rfl (.refl _) (.cons rfl (.refl _) (.cons rfl (.refl _) (.nil _)))))))), (SubM.of (.keep rfl rfl (.refl _) (.keep rfl rfl (.refl _) (.keep rfl rfl (.refl _) (.nil _)))) (.nil _))⟩
                      · replace h := h.2 hp9148
                        refine xsetB 71 (b_f hp9148) rfl ?_
                        refine xvalP (qv_fieldAddrB FldC.h rfl) rfl rfl ?_
                        refine xval (qv_loadP 0 ([.v (.int .i64 y8493.1)] ++ (List.map eB y8493.2.1.l).flatten) [.v (.bool y8493.2.2.1)] [.v (.int .i64 y8493.2.2.2.1), .v (.int .i64 y8493.2.2.2.2)] (by first | rfl | exact (List.append_nil _).symm | exact List.append_nil _ | exact List.append_assoc _ _ _ | exact (List.append_assoc _ _ _).symm | exact congrArg _ (List.append_nil _).symm | exact congrArg _ (List.append_nil _) | (simp; done) | (simp [cellsS]; done)) (by first | rfl | exact seg_lenE (by rfl) | exact len_app rfl (seg_lenE (by rfl)) (by rfl) | exact len_app (seg_lenE (by rfl)) rfl (by rfl) | exact len_app rfl (len_app (seg_lenE (by rfl)) rfl (by rfl)) (by rfl) | (simp only [seg_len, cellsS, List.length_append, List.length_cons, List.length_nil]; done) | (simp only [seg_len, cellsS, List.length_append, List.length_cons, List.length_nil]; rfl)) (by first | rfl | exact seg_lenE (by rfl) | exact len_app rfl (seg_lenE (by rfl)) (by rfl) | exact len_app (seg_lenE (by rfl)) rfl (by rfl) | exact len_app rfl (len_app (seg_lenE (by rfl)) rfl (by rfl)) (by rfl) | (simp only [seg_len, cellsS, List.length_append, List.length_cons, List.length_nil]; done) | (simp only [seg_len, cellsS, List.length_append, List.length_cons, List.length_nil]; rfl)) rfl ShpC.h rfl rfl) rfl rfl ?_
                        refine xvalP (pv_move rfl) rfl rfl ?_
                        by_cases hp9151 : y8493.2.2.1 = true
                        · replace h := h.1 hp9151
                          refine xsetB 74 hp9151 rfl ?_
                          refine xvalP (pv_move rfl) rfl rfl ?_
                          refine xvalP (qv_fieldAddrB FldC.h rfl) rfl rfl ?_
                          obtain ⟨h9152, h⟩ := h
                          obtain ⟨y9153, h9152b, h⟩ := h
                          refine xvalP (pv_indexAddrBA h9152 UndC.h ShpC.h rfl rfl) rfl rfl ?_
                          refine xval (qv_loadA (f := eB) (a := y8493.2.1) (k := 1) (off := 0) (i := (x9064 : Int).toNat) 0 [.v (.int .i64 y8493.1)] [.v (.bool y8493.2.2.1), .v (.int .i64 y8493.2.2.2.1), .v (.int .i64 y8493.2.2.2.2)] h9152b (by first | rfl | exact (List.append_nil _).symm | exact List.append_nil _ | exact List.append_assoc _ _ _ | exact (List.append_assoc _ _ _).symm | exact congrArg _ (List.append_nil _).symm | exact congrArg _ (List.append_nil _) | (simp; done) | (simp [cellsS]; done)) (by first | rfl | omega | (simp only [List.length_cons, List.length_nil]; omega) | (simp only [seg_len, List.length_append, List.length_cons, List.length_nil]; omega)) (by decide) rfl ShpC.h rfl rfl) rfl rfl ?_
                          refine xvalP (pv_pick rfl rfl) rfl rfl ?_
                          refine xvalP (pv_pick rfl rfl) rfl rfl ?_
                          refine xvalP (pv_move rfl) rfl rfl ?_
                          by_cases hp9154 : y9153 = true
                          · replace h := h.1 hp9154
                            refine xsetB 81 hp9154 rfl ?_
                            refine xskip rfl rfl ?_
                            refine xskip rfl rfl ?_
                            refine xskip rfl rfl ?_
                            refine xskip rfl rfl ?_
                            refine xskip rfl rfl ?_
                            refine xskip rfl rfl ?_
                            refine xskip rfl rfl ?_
                            refine xskip rfl rfl ?_
                            refine xskip rfl rfl ?_
                            refine xvalP (pv_pick rfl rfl) rfl rfl ?_
                            obtain ⟨h9155, h⟩ := h
                            obtain ⟨y9156, h9155b, h⟩ := h
                            refine xvalP (pv_indexAddrBA h9155 UndC.h ShpC.h rfl rfl) rfl rfl ?_
                            refine xstoreA (f := eB) (a := f9065) (k := 1) (off := 0) (i := (x9064 : Int).toNat) 1 [] [] true h9155b (by first | rfl | exact (List.append_nil _).symm | exact List.append_nil _ | exact List.append_assoc _ _ _ | exact (List.append_assoc _ _ _).symm | exact congrArg _ (List.append_nil _).symm | exact congrArg _ (List.append_nil _) | (simp; done) | (simp [cellsS]; done)) (by first | rfl | omega | (simp only [List.length_cons, List.length_nil]; omega) | (simp only [seg_len, List.length_append, List.length_cons, List.length_nil]; omega)) (by decide) ShpC.h rfl rfl rfl rfl (by first | rfl | exact seg_lenE (by rfl) | exact len_app rfl (seg_lenE (by rfl)) (by rfl) | exact len_app (seg_lenE (by rfl)) rfl (by rfl) | exact len_app rfl (len_app (seg_lenE (by rfl)) rfl (by rfl)) (by rfl) | (simp only [seg_len, cellsS, List.length_append, List.length_cons, List.length_nil]; done) | (simp only [seg_len, cellsS, List.length_append, List.length_cons, List.length_nil]; rfl)) rfl rfl ?_
                            refine xreb 1 ((List.map eB ((Arr.set f9065 (x9064 : Int).toNat true)).l).flatten) rfl (by first | rfl | exact (List.append_nil _).symm | exact List.append_nil _ | exact List.append_assoc _ _ _ | exact (List.append_assoc _ _ _).symm | exact congrArg _ (List.append_nil _).symm | exact congrArg _ (List.append_nil _) | (simp; done) | (simp [cellsS]; done)) ?_
                            refine xnil ?_
                            refine xin_normal ?_
                            exact xmeet ⟨(Arr.set f9065 (x9064 : Int).toNat true), h, rfl⟩ ⟨(.cons rfl (.refl _) (.cons rfl (.refl _) (.cons rfl (.refl _) (.cons rfl (.refl _) (.cons rfl (.refl _) (.cons rfl (.refl _) (.cons rfl (.refl _) (.nil _)))))))), (SubM.of (.keep rfl rfl (.refl _) (.keep rfl rfl (.refl _) (.keep rfl rfl (.refl _) (.nil _)))) (.nil _))⟩
                          · replace h := h.2 hp9154
                            refine xsetB 81 (b_f hp9154) rfl ?_
                            refine xvalP (qv_fieldAddrB FldC.h rfl) rfl rfl ?_
                            refine xval (qv_loadP 0 ([.v (.int .i64 y8493.1)] ++ (List.map eB y8493.2.1.l).flatten) [.v (.bool y8493.2.2.1)] [.v (.int .i64 y8493.2.2.2.1), .v (.int .i64 y8493.2.2.2.2)] (by first | rfl | exact (List.append_nil _).symm | exact List.append_nil _ | exact List.append_assoc _ _ _ | exact (List.append_assoc _ _ _).symm | exact congrArg _ (List.append_nil _).symm | exact congrArg _ (List.append_nil _) | (simp; done) | (simp [cellsS]; done)) (by first | rfl | exact seg_lenE (by rfl) | exact len_app rfl (seg_lenE (by rfl)) (by rfl) | exact len_app (seg_lenE (by rfl)) rfl (by rfl) | exact len_app rfl (len_app (seg_lenE (by rfl)) rfl (by rfl)) (by rfl) | (simp only [seg_len, cellsS, List.length_append, List.length_cons, List.length_nil]; done) | (simp only [seg_len, cellsS, List.length_append, List.length_cons, List.length_nil]; rfl)) (by first | rfl | exact seg_lenE (by rfl) | exact len_app rfl (seg_lenE (by rfl)) (by rfl) | exact len_app (seg_lenE (by rfl)) rfl (by rfl) | exact len_app rfl (len_app (seg_lenE (by rfl)) rfl (by rfl)) (by rfl) | (simp only [seg_len, cellsS, List.length_append, List.length_cons, List.length_nil]; done) | (simp only [seg_len, cellsS, List.length_append, List.length_cons, List.length_nil]; rfl)) rfl ShpC.h rfl rfl) rfl rfl ?_
                            refine xvalP (pv_not rfl) rfl rfl ?_
                            refine xvalP (pv_move rfl) rfl rfl ?_
                            by_cases hp9157 : ¬ (y8493.2.2.1 = true)
                            · replace h := h.1 hp9157
                              refine xsetB 85 (not_t (b_f hp9157)) rfl ?_
                              refine xvalP (pv_move rfl) rfl rfl ?_
                              refine xvalP (qv_fieldAddrB FldC.h rfl) rfl rfl ?_
                              refine xval (qv_loadB 0 ShpC.h rfl rfl rfl rfl) rfl rfl ?_
                              refine xvalP (pv_bin2 rfl rfl rfl) rfl rfl ?_
                              refine xvalP (pv_pick rfl rfl) rfl rfl ?_
                              refine xvalP (pv_pick rfl rfl) rfl rfl ?_
                              obtain ⟨h9159, h⟩ := h
                              obtain ⟨y9160, h9159b, h⟩ := h
                              refine xvalP (pv_indexAddrBA h9159 UndC.h ShpC.h rfl rfl) rfl rfl ?_
                              refine xstoreA (f := eB) (a := f9065) (k := 1) (off := 0) (i := (x9064 : Int).toNat) 1 [] [] (decide (x9064 = y8493.1)) h9159b (by first | rfl | exact (List.append_nil _).symm | exact List.append_nil _ | exact List.append_assoc _ _ _ | exact (List.append_assoc _ _ _).symm | exact congrArg _ (List.append_nil _).symm | exact congrArg _ (List.append_nil _) | (simp; done) | (simp [cellsS]; done)) (by first | rfl | omega | (simp only [List.length_cons, List.length_nil]; omega) | (simp only [seg_len, List.length_append, List.length_cons, List.length_nil]; omega)) (by decide) ShpC.h rfl rfl rfl rfl (by first | rfl | exact seg_lenE (by rfl) | exact len_app rfl (seg_lenE (by rfl)) (by rfl) | exact len_app (seg_lenE (by rfl)) rfl (by rfl) | exact len_app rfl (len_app (seg_lenE (by rfl)) rfl (by rfl)) (by rfl) | (simp only [seg_len, cellsS, List.length_append, List.length_cons, List.length_nil]; done) | (simp only [seg_len, cellsS, List.length_append, List.length_cons, List.length_nil]; rfl)) rfl rfl ?_
                              refine xreb 1 ((List.map eB ((Arr.set f9065 (x9064 : Int).toNat ((decide (x9064 = y8493.1))))).l).flatten) rfl (by first | rfl | exact (List.append_nil _).symm | exact List.append_nil _ | exact List.append_assoc _ _ _ | exact (List.append_assoc _ _ _).symm | exact congrArg _ (List.append_nil _).symm | exact congrArg _ (List.append_nil _) | (simp; done) | (simp [cellsS]; done)) ?_
                              refine xnil ?_
                              refine xin_normal ?_
                              exact xmeet ⟨(Arr.set f9065 (x9064 : Int).toNat ((decide (x9064 = y8493.1)))), h, rfl⟩ ⟨(.cons rfl (.refl _) (.cons rfl (.refl _) (.cons rfl (.refl _) (.cons rfl (.refl _) (.cons rfl (.refl _) (.cons rfl (.refl _) (.cons rfl (.refl _) (.nil _)))))))), (SubM.of (.keep rfl rfl (.refl _) (.keep rfl rfl (.refl _) (.keep rfl rfl (.refl _) (.nil _)))) (.nil _))⟩
                            · replace h := h.2 hp9157
                              refine xsetB 85 (not_f (Decidable.of_not_not hp9157)) rfl ?_
                              refine xskip rfl rfl ?_
                              refine xskip rfl rfl ?_
                              refine xskip rfl rfl ?_
                              refine xskip rfl rfl ?_
                              refine xvalP (pv_pick rfl rfl) rfl rfl ?_
                              refine xvalP (pv_pick rfl rfl) rfl rfl ?_
                              obtain ⟨h9161, h⟩ := h
                              obtain ⟨y9162, h9161b, h⟩ := h
                              refine xvalP (pv_indexAddrBA h9161 UndC.h ShpC.h rfl rfl) rfl rfl ?_
                              refine xstoreA (f := eB) (a := f9065) (k := 1) (off := 0) (i := (x9064 : Int).toNat) 1 [] [] false h9161b (by first | rfl | exact (List.append_nil _).symm | exact List.append_nil _ | exact List.append_assoc _ _ _ | exact (List.append_assoc _ _ _).symm | exact congrArg _ (List.append_nil _).symm | exact congrArg _ (List.append_nil _) | (simp; done) | (simp [cellsS]; done)) (by first | rfl | omega | (simp only [List.length_cons, List.length_nil]; omega) | (simp only [seg_len, List.length_append, List.length_cons, List.length_nil]; omega)) (by decide) ShpC.h rfl rfl rfl rfl (by first | rfl | exact seg_lenE (by rfl) | exact len_app rfl (seg_lenE (by rfl)) (by rfl) | exact len_app (seg_lenE (by rfl)) rfl (by rfl) | exact len_app rfl (len_app (seg_lenE (by rfl)) rfl (by rfl)) (by rfl) | (simp only [seg_len, cellsS, List.length_append, List.length_cons, List.length_nil]; done) | (simp only [seg_len, cellsS, List.length_append, List.length_cons, List.length_nil]; rfl)) rfl rfl ?_
                              refine xreb 1 ((List.map eB ((Arr.set f9065 (x9064 : Int).toNat false)).l).flatten) rfl (by first | rfl | exact (List.append_nil _).symm | exact List.append_nil _ | exact List.append_assoc _ _ _ | exact (List.append_assoc _ _ _).symm | exact congrArg _ (List.append_nil _).symm | exact congrArg _ (List.append_nil _) | (simp; done) | (simp [cellsS]; done)) ?_
                              refine xnil ?_
                              refine xin_normal ?_
                              exact xmeet ⟨(Arr.set f9065 (x9064 : Int).toNat false), h, rfl⟩ ⟨(.cons rfl (.refl _) (.cons rfl (.refl _) (.cons rfl (.refl _) (.cons rfl (.refl _) (.cons rfl (.refl _) (.cons rfl (.refl _) (.cons rfl (.refl _) (.nil _)))))))), (SubM.of (.keep rfl rfl (.refl _) (.keep rfl rfl (.refl _) (.keep rfl rfl (.refl _) (.nil _)))) (.nil _))⟩
                        · replace h := h.2 hp9151
                          refine xsetB 74 (b_f hp9151) rfl ?_
                          refine xskip rfl rfl ?_
                          refine xskip rfl rfl ?_
                          refine xskip rfl rfl ?_
                          refine xskip rfl rfl ?_
                          refine xvalP (pv_pick rfl rfl) rfl rfl ?_
                          refine xvalP (pv_pick rfl rfl) rfl rfl ?_
                          refine xvalP (pv_move rfl) rfl rfl ?_
                          refine xvalP (qv_fieldAddrB FldC.h rfl) rfl rfl ?_
                          refine xval (qv_loadP 0 ([.v (.int .i64 y8493.1)] ++ (List.map eB y8493.2.1.l).flatten) [.v (.bool y8493.2.2.1)] [.v (.int .i64 y8493.2.2.2.1), .v (.int .i64 y8493.2.2.2.2)] (by first | rfl | exact (List.append_nil _).symm | exact List.append_nil _ | exact List.append_assoc _ _ _ | exact (List.append_assoc _ _ _).symm | exact congrArg _ (List.append_nil _).symm | exact congrArg _ (List.append_nil _) | (simp; done) | (simp [cellsS]; done)) (by first | rfl | exact seg_lenE (by rfl) | exact len_app rfl (seg_lenE (by rfl)) (by rfl) | exact len_app (seg_lenE (by rfl)) rfl (by rfl) | exact len_app rfl (len_app (seg_lenE (by rfl)) rfl (by rfl)) (by rfl) | (simp only [seg_len, cellsS, List.length_append, List.length_cons, List.length_nil]; done) | (simp only [seg_len, cellsS, List.length_append, List.length_cons, List.length_nil]; rfl)) (by first | rfl | exact seg_lenE (by rfl) | exact len_app rfl (seg_lenE (by rfl)) (by rfl) | exact len_app (seg_lenE (by rfl)) rfl (by rfl) | exact len_app rfl (len_app (seg_lenE (by rfl)) rfl (by rfl)) (by rfl) | (simp only [seg_len, cellsS, List.length_append, List.length_cons, List.length_nil]; done) | (simp only [seg_len, cellsS, List.length_append, List.length_cons, List.length_nil]; rfl)) rfl ShpC.h rfl rfl) rfl rfl ?_
                          refine xvalP (pv_not rfl) rfl rfl ?_
                          refine xvalP (pv_move rfl) rfl rfl ?_
                          by_cases hp9163 : ¬ (y8493.2.2.1 = true)
                          · replace h := h.1 hp9163
                            refine xsetB 85 (not_t (b_f hp9163)) rfl ?_
                            refine xvalP (pv_move rfl) rfl rfl ?_
                            refine xvalP (qv_fieldAddrB FldC.h rfl) rfl rfl ?_
                            refine xval (qv_loadB 0 ShpC.h rfl rfl rfl rfl) rfl rfl ?_
                            refine xvalP (pv_bin2 rfl rfl rfl) rfl rfl ?_
                            refine xvalP (pv_pick rfl rfl) rfl rfl ?_
                            refine xvalP (pv_pick rfl rfl) rfl rfl ?_
                            obtain ⟨h9165, h⟩ := h
                            obtain ⟨y9166, h9165b, h⟩ := h
                            refine xvalP (pv_indexAddrBA h9165 UndC.h ShpC.h rfl rfl) rfl rfl ?_
                            refine xstoreA (f := eB) (a := f9065) (k := 1) (off := 0) (i := (x9064 : Int).toNat) 1 [] [] (decide (x9064 = y8493.1)) h9165b (by first | rfl | exact (List.append_nil _).symm | exact List.append_nil _ | exact List.append_assoc _ _ _ | exact (List.append_assoc _ _ _).symm | exact congrArg _ (List.append_nil _).symm | exact congrArg _ (List.append_nil _) | (simp; done) | (simp [cellsS]; done)) (by first | rfl | omega | (simp only [List.length_cons, List.length_nil]; omega) | (simp only [seg_len, List.length_append, List.length_cons, List.length_nil]; omega)) (by decide) ShpC.h rfl rfl rfl rfl (by first | rfl | exact seg_lenE (by rfl) | exact len_app rfl (seg_lenE (by rfl)) (by rfl) | exact len_app (seg_lenE (by rfl)) rfl (by rfl) | exact len_app rfl (len_app (seg_lenE (by rfl)) rfl (by rfl)) (by rfl) | (simp only [seg_len, cellsS, List.length_append, List.length_cons, List.length_nil]; done) | (simp only [seg_len, cellsS, List.length_append, List.length_cons, List.length_nil]; rfl)) rfl rfl ?_
                            refine xreb 1 ((List.map eB ((Arr.set f9065 (x9064 : Int).toNat ((decide (x9064 = y8493.1))))).l).flatten) rfl (by first | rfl | exact (List.append_nil _).symm | exact List.append_nil _ | exact List.append_assoc _ _ _ | exact (List.append_assoc _ _ _).symm | exact congrArg _ (List.append_nil _).symm | exact congrArg _ (List.append_nil _) | (simp; done) | (simp [cellsS]; done)) ?_
                            refine xnil ?_
                            refine xin_normal ?_
                            exact xmeet ⟨(Arr.set f9065 (x9064 : Int).toNat ((decide (x9064 = y8493.1)))), h, rfl⟩ ⟨(.cons rfl (.refl _) (.cons rfl (.refl _) (.cons rfl (.refl _) (.cons rfl (.refl _) (.cons rfl (.refl _) (.cons rfl (.refl _) (.cons rfl (.refl _) (.nil _)))))))), (SubM.of (.keep rfl rfl (.refl _) (.keep rfl rfl (.refl _) (.keep rfl rfl (.refl _) (.nil _)))) (.nil _))⟩
                          · replace h := h.2 hp9163
                            refine xsetB 85 (not_f (Decidable.of_not_not hp9163)) rfl ?_
                            refine xskip rfl rfl ?_
                            refine xskip rfl rfl ?_
                            refine xskip rfl rfl ?_
                            refine xskip rfl rfl ?_
                            refine xvalP (pv_pick rfl rfl) rfl rfl ?_
                            refine xvalP (pv_pick rfl rfl) rfl rfl ?_
                            obtain ⟨h9167, h⟩ := h
                            obtain ⟨y9168, h9167b, h⟩ := h
                            refine xvalP (pv_indexAddrBA h9167 UndC.h ShpC.h rfl rfl) rfl rfl ?_
                            refine xstoreA (f := eB) (a := f9065) (k := 1) (off := 0) (i := (x9064 : Int).toNat) 1 [] [] false h9167b (by first | rfl | exact (List.append_nil _).symm | exact List.append_nil _ | exact List.append_assoc _ _ _ | exact (List.append_assoc _ _ _).symm | exact congrArg _ (List.append_nil _).symm | exact congrArg _ (List.append_nil _) | (simp; done) | (simp [cellsS]; done)) (by first | rfl | omega | (simp only [List.length_cons, List.length_nil]; omega) | (simp only [seg_len, List.length_append, List.length_cons, List.length_nil]; omega)) (by decide) ShpC.h rfl rfl rfl rfl (by first | rfl | exact seg_lenE (by rfl) | exact len_app rfl (seg_lenE (by rfl)) (by rfl) | exact len_app (seg_lenE (by rfl)) rfl (by rfl) | exact len_app rfl (len_app (seg_lenE (by rfl)) rfl (by rfl)) (by rfl) | (simp only [seg_len, cellsS, List.length_append, List.length_cons, List.length_nil]; done) | (simp only [seg_len, cellsS, List.length_append, List.length_cons, List.length_nil]; rfl)) rfl rfl ?_
                            refine xreb 1 ((List.map eB ((Arr.set f9065 (x9064 : Int).toNat false)).l).flatten) rfl (by first | rfl | exact (List.append_nil _).symm | exact List.append_nil _ | exact List.append_assoc _ _ _ | exact (List.append_assoc _ _ _).symm | exact congrArg _ (List.append_nil _).symm | exact congrArg _ (List.append_nil _) | (simp; done) | (simp [cellsS]; done)) ?_
                            refine xnil ?_
                            refine xin_normal ?_
                            exact xmeet ⟨(Arr.set f9065 (x9064 : Int).toNat false), h, rfl⟩ ⟨(.cons rfl (.refl _) (.cons rfl (.refl _) (.cons rfl (.refl _) (.cons rfl (.refl _) (.cons rfl (.refl _) (.cons rfl (.refl _) (.cons rfl (.refl _) (.nil _)))))))), (SubM.of (.keep rfl rfl (.refl _) (.keep rfl rfl (.refl _) (.keep rfl rfl (.refl _) (.nil _)))) (.nil _))⟩
                    · clear h
                      rintro _ ⟨f9145, h, rfl⟩
                      refine xregion ?_
                      refine xvalP (pv_move rfl) rfl rfl ?_
                      obtain ⟨h9169, h⟩ := h
                      refine xvalP (pv_addI h9169 rfl rfl) rfl rfl ?_
                      refine xvalP (pv_assign rfl) rfl rfl ?_
                      refine xnil ?_
                      obtain ⟨m', hm, hI⟩ := hag8 _ h
                      exact xagain ⟨(x9064 + 1), f9145, hI, rfl⟩ hm ⟨(.cons rfl (.refl _) (.cons rfl (.refl _) (.cons rfl (.refl _) (.cons rfl (.refl _) (.cons rfl (.refl _) (.cons rfl (.refl _) (.cons rfl (.refl _) (.nil _)))))))), (SubM.of (.keep rfl rfl (.refl _) (.keep rfl rfl (.refl _) (.keep rfl rfl (.refl _) (.nil _)))) (.nil _))⟩
                  · replace h := h.2 hp9121
                    refine xcondF' (decide_eq_false hp9121) rfl ?_
                    refine xexit ?_
                    refine xthen_exit ?_
                    refine xthen_exit ?_
                    refine xin_same rfl ?_
                    refine xthen ?_
                    refine xseq ?_
                    refine xregion ?_
                    refine xvalP (qv_fieldAddrB FldC.h rfl) rfl rfl ?_
                    refine xval (qv_loadP 0 ([.v (.int .i64 y8493.1)] ++ ((List.map eB y8493.2.1.l).flatten ++ [.v (.bool y8493.2.2.1)])) [.v (.int .i64 y8493.2.2.2.1)] [.v (.int .i64 y8493.2.2.2.2)] (by first | rfl | exact (List.append_nil _).symm | exact List.append_nil _ | exact List.append_assoc _ _ _ | exact (List.append_assoc _ _ _).symm | exact congrArg _ (List.append_nil _).symm | exact congrArg _ (List.append_nil _) | (simp; done) | (simp [cellsS]; done)) (by first | rfl | exact seg_lenE (by rfl) | exact len_app rfl (seg_lenE (by rfl)) (by rfl) | exact len_app (seg_lenE (by rfl)) rfl (by rfl) | exact len_app rfl (len_app (seg_lenE (by rfl)) rfl (by rfl)) (by rfl) | (simp only [seg_len, cellsS, List.length_append, List.length_cons, List.length_nil]; done) | (simp only [seg_len, cellsS, List.length_append, List.length_cons, List.length_nil]; rfl)) (by first | rfl | exact seg_lenE (by rfl) | exact len_app rfl (seg_lenE (by rfl)) (by rfl) | exact len_app (seg_lenE (by rfl)) rfl (by rfl) | exact len_app rfl (len_app (seg_lenE (by rfl)) rfl (by rfl)) (by rfl) | (simp only [seg_len, cellsS, List.length_append, List.length_cons, List.length_nil]; done) | (simp only [seg_len, cellsS, List.length_append, List.length_cons, List.length_nil]; rfl)) rfl ShpC.h rfl rfl) rfl rfl ?_
                    refine xvalP (pv_assign rfl) rfl rfl ?_
                    refine xnil ?_
                    refine xthen ?_
                    refine xexit ?_
                    refine xthen_exit ?_
                    refine xin_same rfl ?_
                    exact xmeet ⟨y8493.2.2.2.1, f9065, h, rfl⟩ ⟨(.cons rfl (.refl _) (.cons rfl (.refl _) (.cons rfl (.refl _) (.cons rfl (.refl _) (.cons rfl (.refl _) (.cons rfl (.refl _) (.nil _))))))), (SubM.of (.drop (.keep rfl rfl (.refl _) (.keep rfl rfl (.refl _) (.nil _)))) (.nil _))⟩
                · replace h := h.2 hp8853
                  refine xcondF' (b_f hp8853) rfl ?_
                  refine xskipc ?_
                  refine xthen ?_
                  refine xseq ?_
                  refine xseq ?_
                  refine xregion ?_
                  refine xvalP (qv_fieldAddrB FldC.h rfl) rfl rfl ?_
                  refine xval (qv_loadP 0 ([.v (.int .i64 y8493.1)] ++ (List.map eB y8493.2.1.l).flatten) [.v (.bool y8493.2.2.1)] [.v (.int .i64 y8493.2.2.2.1), .v (.int .i64 y8493.2.2.2.2)] (by first | rfl | exact (List.append_nil _).symm | exact List.append_nil _ | exact List.append_assoc _ _ _ | exact (List.append_assoc _ _ _).symm | exact congrArg _ (List.append_nil _).symm | exact congrArg _ (List.append_nil _) | (simp; done) | (simp [cellsS]; done)) (by first | rfl | exact seg_lenE (by rfl) | exact len_app rfl (seg_lenE (by rfl)) (by rfl) | exact len_app (seg_lenE (by rfl)) rfl (by rfl) | exact len_app rfl (len_app (seg_lenE (by rfl)) rfl (by rfl)) (by rfl) | (simp only [seg_len, cellsS, List.length_append, List.length_cons, List.length_nil]; done) | (simp only [seg_len, cellsS, List.length_append, List.length_cons, List.length_nil]; rfl)) (by first | rfl | exact seg_lenE (by rfl) | exact len_app rfl (seg_lenE (by rfl)) (by rfl) | exact len_app (seg_lenE (by rfl)) rfl (by rfl) | exact len_app rfl (len_app (seg_lenE (by rfl)) rfl (by rfl)) (by rfl) | (simp only [seg_len, cellsS, List.length_append, List.length_cons, List.length_nil]; done) | (simp only [seg_len, cellsS, List.length_append, List.length_cons, List.length_nil]; rfl)) rfl ShpC.h rfl rfl) rfl rfl ?_
                  refine xnil ?_
                  refine xthen ?_
                  by_cases hp9171 : y8493.2.2.1 = true
                  · replace h := h.1 hp9171
                    refine xcondT' hp9171 rfl ?_
                    refine xseq ?_
                    refine xregion ?_
                    refine xvalP (pv_buildAC (cs := ((List.map ew ((Arr.rep 4 (0 : UInt64))).l).flatten)) UndC.h ShpC.h InfC.h rfl (by rfl)) rfl rfl ?_
                    refine xstoreP 2 [] ((List.map ew ((Arr.rep 4 (0 : UInt64))).l).flatten) [] (by first | rfl | exact (List.append_nil _).symm | exact List.append_nil _ | exact List.append_assoc _ _ _ | exact (List.append_assoc _ _ _).symm | exact congrArg _ (List.append_nil _).symm | exact congrArg _ (List.append_nil _) | (simp; done) | (simp [cellsS]; done)) (by first | rfl | exact seg_lenE (by rfl) | exact len_app rfl (seg_lenE (by rfl)) (by rfl) | exact len_app (seg_lenE (by rfl)) rfl (by rfl) | exact len_app rfl (len_app (seg_lenE (by rfl)) rfl (by rfl)) (by rfl) | (simp only [seg_len, cellsS, List.length_append, List.length_cons, List.length_nil]; done) | (simp only [seg_len, cellsS, List.length_append, List.length_cons, List.length_nil]; rfl)) (by first | rfl | exact seg_lenE (by rfl) | exact len_app rfl (seg_lenE (by rfl)) (by rfl) | exact len_app (seg_lenE (by rfl)) rfl (by rfl) | exact len_app rfl (len_app (seg_lenE (by rfl)) rfl (by rfl)) (by rfl) | (simp only [seg_len, cellsS, List.length_append, List.length_cons, List.length_nil]; done) | (simp only [seg_len, cellsS, List.length_append, List.length_cons, List.length_nil]; rfl)) ShpC.h rfl rfl rfl rfl (by first | rfl | exact seg_lenE (by rfl) | exact len_app rfl (seg_lenE (by rfl)) (by rfl) | exact len_app (seg_lenE (by rfl)) rfl (by rfl) | exact len_app rfl (len_app (seg_lenE (by rfl)) rfl (by rfl)) (by rfl) | (simp only [seg_len, cellsS, List.length_append, List.length_cons, List.length_nil]; done) | (simp only [seg_len, cellsS, List.length_append, List.length_cons, List.length_nil]; rfl)) rfl ?_
                    refine xreb 2 ((List.map ew ((Arr.rep 4 (0 : UInt64))).l).flatten) rfl (by first | rfl | exact (List.append_nil _).symm | exact List.append_nil _ | exact List.append_assoc _ _ _ | exact (List.append_assoc _ _ _).symm | exact congrArg _ (List.append_nil _).symm | exact congrArg _ (List.append_nil _) | (simp; done) | (simp [cellsS]; done)) ?_
                    refine xvalP (pv_assign rfl) rfl rfl ?_
                    refine xvalP (pv_assign rfl) rfl rfl ?_
                    refine xnil ?_
                    refine xthen ?_
                    refine xretc ?_
                    refine xthen_ret ?_
                    refine xin_ret ?_
                    refine xthen_ret ?_
                    refine xthen_ret ?_
                    refine xin_ret ?_
                    refine xthen_ret ?_
                    replace h := h.symm
                    subst h
                    exact xretL (rs := [.cell 4 26, .tmp 5, .tmp 6]) (ss := [.agg ((List.map ew ((Arr.rep 4 (0 : UInt64))).l).flatten), .v (.int .i64 0), .v (.int .i64 3)]) hg rfl (by refine RetL.cell 2 ShpC.h rfl rfl (part_midE (pre := []) (mid := ((List.map ew ((Arr.rep 4 (0 : UInt64))).l).flatten)) (post := []) (by first | rfl | exact (List.append_nil _).symm | exact List.append_nil _ | exact List.append_assoc _ _ _ | exact (List.append_assoc _ _ _).symm | exact congrArg _ (List.append_nil _).symm | exact congrArg _ (List.append_nil _) | (simp; done) | (simp [cellsS]; done)) (by first | rfl | exact seg_lenE (by rfl) | exact len_app rfl (seg_lenE (by rfl)) (by rfl) | exact len_app (seg_lenE (by rfl)) rfl (by rfl) | exact len_app rfl (len_app (seg_lenE (by rfl)) rfl (by rfl)) (by rfl) | (simp only [seg_len, cellsS, List.length_append, List.length_cons, List.length_nil]; done) | (simp only [seg_len, cellsS, List.length_append, List.length_cons, List.length_nil]; rfl)) (by first | rfl | exact seg_lenE (by rfl) | exact len_app rfl (seg_lenE (by rfl)) (by rfl) | exact len_app (seg_lenE (by rfl)) rfl (by rfl) | exact len_app rfl (len_app (seg_lenE (by rfl)) rfl (by rfl)) (by rfl) | (simp only [seg_len, cellsS, List.length_append, List.length_cons, List.length_nil]; done) | (simp only [seg_len, cellsS, List.length_append, List.length_cons, List.length_nil]; rfl)) (part_all (seg_lenE (by rfl)))) (len_midE (pre := []) (mid := ((List.map ew ((Arr.rep 4 (0 : UInt64))).l).flatten)) (post := []) (by first | rfl | exact (List.append_nil _).symm | exact List.append_nil _ | exact List.append_assoc _ _ _ | exact (List.append_assoc _ _ _).symm | exact congrArg _ (List.append_nil _).symm | exact congrArg _ (List.append_nil _) | (simp; done) | (simp [cellsS]; done)) (by first | rfl | exact seg_lenE (by rfl) | exact len_app rfl (seg_lenE (by rfl)) (by rfl) | exact len_app (seg_lenE (by rfl)) rfl (by rfl) | exact len_app rfl (len_app (seg_lenE (by rfl)) rfl (by rfl)) (by rfl) | (simp only [seg_len, cellsS, List.length_append, List.length_cons, List.length_nil]; done) | (simp only [seg_len, cellsS, List.length_append, List.length_cons, List.length_nil]; rfl)) (by first | rfl | exact seg_lenE (by rfl) | exact len_app rfl (seg_lenE (by rfl)) (by rfl) | exact len_app (seg_lenE (by rfl)) rfl (by rfl) | exact len_app rfl (len_app (seg_lenE (by rfl)) rfl (by rfl)) (by rfl) | (simp only [seg_len, cellsS, List.length_append, List.length_cons, List.length_nil]; done) | (simp only [seg_len, cellsS, List.length_append, List.length_cons, List.length_nil]; rfl))) (by first | with_reducible exact Wk.refl _ | exact Wk.nil_own _ | exact Wk.nil_pl _ | with_reducible exact Wk.tok _ _ _ | exact Wk.tok _ _ _ | exact .eq rfl) ?_; refine RetL.tmp rfl (.refl _) ?_; refine RetL.tmp rfl (.refl _) ?_; exact RetL.nil) (SubM.of (.nil _) (.nil _)) ⟨rfl, rfl, rfl⟩
                  · replace h := h.2 hp9171
                    refine xcondF' (b_f hp9171) rfl ?_
                    refine xskipc ?_
                    refine xthen ?_
                    refine xseq ?_
                    refine xregion ?_
                    refine xvalP (pv_move rfl) rfl rfl ?_
                    refine xvalP (qv_fieldAddrB FldC.h rfl) rfl rfl ?_
                    refine xval (qv_loadP 0 ([.v (.int .i64 y8493.1)] ++ ((List.map eB y8493.2.1.l).flatten ++ [.v (.bool y8493.2.2.1)])) [.v (.int .i64 y8493.2.2.2.1)] [.v (.int .i64 y8493.2.2.2.2)] (by first | rfl | exact (List.append_nil _).symm | exact List.append_nil _ | exact List.append_assoc _ _ _ | exact (List.append_assoc _ _ _).symm | exact congrArg _ (List.append_nil _).symm | exact congrArg _ (List.append_nil _) | (simp; done) | (simp [cellsS]; done)) (by first | rfl | exact seg_lenE (by rfl) | exact len_app rfl (seg_lenE (by rfl)) (by rfl) | exact len_app (seg_lenE (by rfl)) rfl (by rfl) | exact len_app rfl (len_app (seg_lenE (by rfl)) rfl (by rfl)) (by rfl) | (simp only [seg_len, cellsS, List.length_append, List.length_cons, List.length_nil]; done) | (simp only [seg_len, cellsS, List.length_append, List.length_cons, List.length_nil]; rfl)) (by first | rfl | exact seg_lenE (by rfl) | exact len_app rfl (seg_lenE (by rfl)) (by rfl) | exact len_app (seg_lenE (by rfl)) rfl (by rfl) | exact len_app rfl (len_app (seg_lenE (by rfl)) rfl (by rfl)) (by rfl) | (simp only [seg_len, cellsS, List.length_append, List.length_cons, List.length_nil]; done) | (simp only [seg_len, cellsS, List.length_append, List.length_cons, List.length_nil]; rfl)) rfl ShpC.h rfl rfl) rfl rfl ?_
                    obtain ⟨h9172, h⟩ := h
                    refine xvalP (pv_addI h9172 rfl rfl) rfl rfl ?_
                    obtain ⟨y9174, h9173, h⟩ := h
                    refine xcall0 (palinoderef07_read_con x1 (y8493.2.2.2.1 + 1) _ h9173) Try.func19 (by kernel_rfl) rfl (.cons rfl (.refl _) (.cons rfl (.refl _) .nil)) rfl rfl ?_
                    refine xalloc InfC.h rfl rfl fun b12 => ?_
                    refine xreb 0 ([.v (.int .i64 0)] ++ ((List.map eB ((Arr.rep 256 false)).l).flatten ++ [.v (.bool false), .v (.int .i64 0), .v (.int .i64 0)])) rfl rfl ?_
                    refine xstoreP 0 [] ([.v (.int .i64 0)] ++ ((List.map eB ((Arr.rep 256 false)).l).flatten ++ [.v (.bool false), .v (.int .i64 0), .v (.int .i64 0)])) [] (by first | rfl | exact (List.append_nil _).symm | exact List.append_nil _ | exact List.append_assoc _ _ _ | exact (List.append_assoc _ _ _).symm | exact congrArg _ (List.append_nil _).symm | exact congrArg _ (List.append_nil _) | (simp; done) | (simp [cellsS]; done)) (by first | rfl | exact seg_lenE (by rfl) | exact len_app rfl (seg_lenE (by rfl)) (by rfl) | exact len_app (seg_lenE (by rfl)) rfl (by rfl) | exact len_app rfl (len_app (seg_lenE (by rfl)) rfl (by rfl)) (by rfl) | (simp only [seg_len, cellsS, List.length_append, List.length_cons, List.length_nil]; done) | (simp only [seg_len, cellsS, List.length_append, List.length_cons, List.length_nil]; rfl)) (by first | rfl | exact seg_lenE (by rfl) | exact len_app rfl (seg_lenE (by rfl)) (by rfl) | exact len_app (seg_lenE (by rfl)) rfl (by rfl) | exact len_app rfl (len_app (seg_lenE (by rfl)) rfl (by rfl)) (by rfl) | (simp only [seg_len, cellsS, List.length_append, List.length_cons, List.length_nil]; done) | (simp only [seg_len, cellsS, List.length_append, List.length_cons, List.length_nil]; rfl)) ShpC.h rfl rfl rfl rfl (by first | rfl | exact seg_lenE (by rfl) | exact len_app rfl (seg_lenE (by rfl)) (by rfl) | exact len_app (seg_lenE (by rfl)) rfl (by rfl) | exact len_app rfl (len_app (seg_lenE (by rfl)) rfl (by rfl)) (by rfl) | (simp only [seg_len, cellsS, List.length_append, List.length_cons, List.length_nil]; done) | (simp only [seg_len, cellsS, List.length_append, List.length_cons, List.length_nil]; rfl)) rfl ?_
                    refine xreb 0 ([.v (.int .i64 y9174.1)] ++ ((List.map eB y9174.2.1.l).flatten ++ [.v (.bool y9174.2.2.1), .v (.int .i64 y9174.2.2.2.1), .v (.int .i64 y9174.2.2.2.2)])) rfl (by first | rfl | exact (List.append_nil _).symm | exact List.append_nil _ | exact List.append_assoc _ _ _ | exact (List.append_assoc _ _ _).symm | exact congrArg _ (List.append_nil _).symm | exact congrArg _ (List.append_nil _) | (simp; done) | (simp [cellsS]; done)) ?_
                    refine xnil ?_
                    refine xthen ?_
                    refine xseq ?_
                    refine xseq ?_
                    refine xregion ?_
                    refine xvalP (qv_fieldAddrB FldC.h rfl) rfl rfl ?_
                    refine xval (qv_loadP 0 ([.v (.int .i64 y9174.1)] ++ ((List.map eB y9174.2.1.l).flatten ++ [.v (.bool y9174.2.2.1), .v (.int .i64 y9174.2.2.2.1)])) [.v (.int .i64 y9174.2.2.2.2)] [] (by first | rfl | exact (List.append_nil _).symm | exact List.append_nil _ | exact List.append_assoc _ _ _ | exact (List.append_assoc _ _ _).symm | exact congrArg _ (List.append_nil _).symm | exact congrArg _ (List.append_nil _) | (simp; done) | (simp [cellsS]; done)) (by first | rfl | exact seg_lenE (by rfl) | exact len_app rfl (seg_lenE (by rfl)) (by rfl) | exact len_app (seg_lenE (by rfl)) rfl (by rfl) | exact len_app rfl (len_app (seg_lenE (by rfl)) rfl (by rfl)) (by rfl) | (simp only [seg_len, cellsS, List.length_append, List.length_cons, List.length_nil]; done) | (simp only [seg_len, cellsS, List.length_append, List.length_cons, List.length_nil]; rfl)) (by first | rfl | exact seg_lenE (by rfl) | exact len_app rfl (seg_lenE (by rfl)) (by rfl) | exact len_app (seg_lenE (by rfl)) rfl (by rfl) | exact len_app rfl (len_app (seg_lenE (by rfl)) rfl (by rfl)) (by rfl) | (simp only [seg_len, cellsS, List.length_append, List.length_cons, List.length_nil]; done) | (simp only [seg_len, cellsS, List.length_append, List.length_cons, List.length_nil]; rfl)) rfl ShpC.h rfl rfl) rfl rfl ?_
                    refine xvalP (pv_bin2 rfl rfl rfl) rfl rfl ?_
                    refine xnil ?_
                    refine xthen ?_
                    by_cases hp9180 : ¬ (y9174.2.2.2.2 = 0)
                    · replace h := h.1 hp9180
                      refine xcondT' (not_t (decide_eq_false hp9180)) rfl ?_
                      refine xseq ?_
                      refine xregionD (m := 6) (by kernel_rfl) rfl ?_
                      refine xpcut 0 #[true, true, true, true, true, true] (fun σ => σ = ⟨[(4, .v (.pointer (some ⟨b4, 0, none⟩))), (5, .v (.int .i64 0)), (6, .v (.int .i64 y9174.2.2.2.2))], [⟨b4, 26, ((List.map ew ((Arr.rep 4 (0 : UInt64))).l).flatten)⟩], []⟩) ?_ (fun key9182 => ?_)
                      · rintro _ rfl
                        refine xpdone (by kernel_rfl) ?_
                        refine xthen ?_
                        refine xretc ?_
                        refine xthen_ret ?_
                        refine xin_ret ?_
                        refine xthen_ret ?_
                        refine xthen_ret ?_
                        refine xin_ret ?_
                        refine xthen_ret ?_
                        replace h := h.symm
                        subst h
                        exact xretL (rs := [.cell 4 26, .tmp 5, .tmp 6]) (ss := [.agg ((List.map ew ((Arr.rep 4 (0 : UInt64))).l).flatten), .v (.int .i64 0), .v (.int .i64 y9174.2.2.2.2)]) hg rfl (by refine RetL.cell 0 ShpC.h rfl rfl (part_midE (pre := []) (mid := ((List.map ew ((Arr.rep 4 (0 : UInt64))).l).flatten)) (post := []) (by first | rfl | exact (List.append_nil _).symm | exact List.append_nil _ | exact List.append_assoc _ _ _ | exact (List.append_assoc _ _ _).symm | exact congrArg _ (List.append_nil _).symm | exact congrArg _ (List.append_nil _) | (simp; done) | (simp [cellsS]; done)) (by first | rfl | exact seg_lenE (by rfl) | exact len_app rfl (seg_lenE (by rfl)) (by rfl) | exact len_app (seg_lenE (by rfl)) rfl (by rfl) | exact len_app rfl (len_app (seg_lenE (by rfl)) rfl (by rfl)) (by rfl) | (simp only [seg_len, cellsS, List.length_append, List.length_cons, List.length_nil]; done) | (simp only [seg_len, cellsS, List.length_append, List.length_cons, List.length_nil]; rfl)) (by first | rfl | exact seg_lenE (by rfl) | exact len_app rfl (seg_lenE (by rfl)) (by rfl) | exact len_app (seg_lenE (by rfl)) rfl (by rfl) | exact len_app rfl (len_app (seg_lenE (by rfl)) rfl (by rfl)) (by rfl) | (simp only [seg_len, cellsS, List.length_append, List.length_cons, List.length_nil]; done) | (simp only [seg_len, cellsS, List.length_append, List.length_cons, List.length_nil]; rfl)) (part_all (seg_lenE (by rfl)))) (len_midE (pre := []) (mid := ((List.map ew ((Arr.rep 4 (0 : UInt64))).l).flatten)) (post := []) (by first | rfl | exact (List.append_nil _).symm | exact List.append_nil _ | exact List.append_assoc _ _ _ | exact (List.append_assoc _ _ _).symm | exact congrArg _ (List.append_nil _).symm | exact congrArg _ (List.append_nil _) | (simp; done) | (simp [cellsS]; done)) (by first | rfl | exact seg_lenE (by rfl) | exact len_app rfl (seg_lenE (by rfl)) (by rfl) | exact len_app (seg_lenE (by rfl)) rfl (by rfl) | exact len_app rfl (len_app (seg_lenE (by rfl)) rfl (by rfl)) (by rfl) | (simp only [seg_len, cellsS, List.length_append, List.length_cons, List.length_nil]; done) | (simp only [seg_len, cellsS, List.length_append, List.length_cons, List.length_nil]; rfl)) (by first | rfl | exact seg_lenE (by rfl) | exact len_app rfl (seg_lenE (by rfl)) (by rfl) | exact len_app (seg_lenE (by rfl)) rfl (by rfl) | exact len_app rfl (len_app (seg_lenE (by rfl)) rfl (by rfl)) (by rfl) | (simp only [seg_len, cellsS, List.length_append, List.length_cons, List.length_nil]; done) | (simp only [seg_len, cellsS, List.length_append, List.length_cons, List.length_nil]; rfl))) (by first | with_reducible exact Wk.refl _ | exact Wk.nil_own _ | exact Wk.nil_pl _ | with_reducible exact Wk.tok _ _ _ | exact Wk.tok _ _ _ | exact .eq rfl) ?_; refine RetL.tmp rfl (.refl _) ?_; refine RetL.tmp rfl (.refl _) ?_; exact RetL.nil) (SubM.of (.nil _) (.nil _)) ⟨rfl, rfl, rfl⟩
                      refine xpval 0 rfl (pv_buildAC (cs := ((List.map ew ((Arr.rep 4 (0 : UInt64))).l).flatten)) UndC.h ShpC.h InfC.h rfl (by rfl)) rfl rfl (by kernel_rfl) (by kernel_rfl) (by kernel_rfl) (fun _ _ _ _ h => h) ?_
                      refine xpval 1 rfl (qv_fieldAddrB FldC.h rfl) rfl rfl (by kernel_rfl) (by kernel_rfl) (by kernel_rfl) (fun _ _ _ _ h => h) ?_
                      refine xpstepN (is := [2, 3]) (by kernel_rfl) (by simp) ?_
                      intro i hi; simp only [List.mem_cons, List.not_mem_nil, or_false] at hi; rcases hi with rfl | rfl
                      · refine ⟨_, rfl, ?_⟩
                        refine wval (qv_loadP 0 ([.v (.int .i64 y9174.1)] ++ ((List.map eB y9174.2.1.l).flatten ++ [.v (.bool y9174.2.2.1), .v (.int .i64 y9174.2.2.2.1)])) [.v (.int .i64 y9174.2.2.2.2)] [] (by first | rfl | exact (List.append_nil _).symm | exact List.append_nil _ | exact List.append_assoc _ _ _ | exact (List.append_assoc _ _ _).symm | exact congrArg _ (List.append_nil _).symm | exact congrArg _ (List.append_nil _) | (simp; done) | (simp [cellsS]; done)) (by first | rfl | exact seg_lenE (by rfl) | exact len_app rfl (seg_lenE (by rfl)) (by rfl) | exact len_app (seg_lenE (by rfl)) rfl (by rfl) | exact len_app rfl (len_app (seg_lenE (by rfl)) rfl (by rfl)) (by rfl) | (simp only [seg_len, cellsS, List.length_append, List.length_cons, List.length_nil]; done) | (simp only [seg_len, cellsS, List.length_append, List.length_cons, List.length_nil]; rfl)) (by first | rfl | exact seg_lenE (by rfl) | exact len_app rfl (seg_lenE (by rfl)) (by rfl) | exact len_app (seg_lenE (by rfl)) rfl (by rfl) | exact len_app rfl (len_app (seg_lenE (by rfl)) rfl (by rfl)) (by rfl) | (simp only [seg_len, cellsS, List.length_append, List.length_cons, List.length_nil]; done) | (simp only [seg_len, cellsS, List.length_append, List.length_cons, List.length_nil]; rfl)) rfl ShpC.h rfl rfl) rfl rfl ?_
                        refine xpstep (i := 3) (by kernel_rfl) rfl ?_
                        refine wstoreP 3 [] ((List.map ew ((Arr.rep 4 (0 : UInt64))).l).flatten) [] (by first | rfl | exact (List.append_nil _).symm | exact List.append_nil _ | exact List.append_assoc _ _ _ | exact (List.append_assoc _ _ _).symm | exact congrArg _ (List.append_nil _).symm | exact congrArg _ (List.append_nil _) | (simp; done) | (simp [cellsS]; done)) (by first | rfl | exact seg_lenE (by rfl) | exact len_app rfl (seg_lenE (by rfl)) (by rfl) | exact len_app (seg_lenE (by rfl)) rfl (by rfl) | exact len_app rfl (len_app (seg_lenE (by rfl)) rfl (by rfl)) (by rfl) | (simp only [seg_len, cellsS, List.length_append, List.length_cons, List.length_nil]; done) | (simp only [seg_len, cellsS, List.length_append, List.length_cons, List.length_nil]; rfl)) (by first | rfl | exact seg_lenE (by rfl) | exact len_app rfl (seg_lenE (by rfl)) (by rfl) | exact len_app (seg_lenE (by rfl)) rfl (by rfl) | exact len_app rfl (len_app (seg_lenE (by rfl)) rfl (by rfl)) (by rfl) | (simp only [seg_len, cellsS, List.length_append, List.length_cons, List.length_nil]; done) | (simp only [seg_len, cellsS, List.length_append, List.length_cons, List.length_nil]; rfl)) ShpC.h rfl rfl rfl rfl (by first | rfl | exact seg_lenE (by rfl) | exact len_app rfl (seg_lenE (by rfl)) (by rfl) | exact len_app (seg_lenE (by rfl)) rfl (by rfl) | exact len_app rfl (len_app (seg_lenE (by rfl)) rfl (by rfl)) (by rfl) | (simp only [seg_len, cellsS, List.length_append, List.length_cons, List.length_nil]; done) | (simp only [seg_len, cellsS, List.length_append, List.length_cons, List.length_nil]; rfl)) rfl ?_
                        refine preb 3 ((List.map ew ((Arr.rep 4 (0 : UInt64))).l).flatten) rfl (by first | rfl | exact (List.append_nil _).symm | exact List.append_nil _ | exact List.append_assoc _ _ _ | exact (List.append_assoc _ _ _).symm | exact congrArg _ (List.append_nil _).symm | exact congrArg _ (List.append_nil _) | (simp; done) | (simp [cellsS]; done)) ?_
                        refine xpval 4 rfl (pv_assign rfl) rfl rfl (by kernel_rfl) (by kernel_rfl) (by kernel_rfl) (fun _ _ _ _ h => h) ?_
                        refine xpval 5 rfl (pv_assign rfl) rfl rfl (by kernel_rfl) (by kernel_rfl) (by kernel_rfl) (fun _ _ _ _ h => h) ?_
                        exact xpuse key9182 rfl ⟨(.cons rfl (.refl _) (.cons rfl (.refl _) (.cons rfl (.refl _) (.nil _)))), (SubM.of (.drop (.drop (.drop (.keep rfl rfl (.refl _) (.nil _))))) (.nil _))⟩ rfl (by kernel_rfl)
                      · refine ⟨_, rfl, ?_⟩
                        refine wstoreP 3 [] ((List.map ew ((Arr.rep 4 (0 : UInt64))).l).flatten) [] (by first | rfl | exact (List.append_nil _).symm | exact List.append_nil _ | exact List.append_assoc _ _ _ | exact (List.append_assoc _ _ _).symm | exact congrArg _ (List.append_nil _).symm | exact congrArg _ (List.append_nil _) | (simp; done) | (simp [cellsS]; done)) (by first | rfl | exact seg_lenE (by rfl) | exact len_app rfl (seg_lenE (by rfl)) (by rfl) | exact len_app (seg_lenE (by rfl)) rfl (by rfl) | exact len_app rfl (len_app (seg_lenE (by rfl)) rfl (by rfl)) (by rfl) | (simp only [seg_len, cellsS, List.length_append, List.length_cons, List.length_nil]; done) | (simp only [seg_len, cellsS, List.length_append, List.length_cons, List.length_nil]; rfl)) (by first | rfl | exact seg_lenE (by rfl) | exact len_app rfl (seg_lenE (by rfl)) (by rfl) | exact len_app (seg_lenE (by rfl)) rfl (by rfl) | exact len_app rfl (len_app (seg_lenE (by rfl)) rfl (by rfl)) (by rfl) | (simp only [seg_len, cellsS, List.length_append, List.length_cons, List.length_nil]; done) | (simp only [seg_len, cellsS, List.length_append, List.length_cons, List.length_nil]; rfl)) ShpC.h rfl rfl rfl rfl (by first | rfl | exact seg_lenE (by rfl) | exact len_app rfl (seg_lenE (by rfl)) (by rfl) | exact len_app (seg_lenE (by rfl)) rfl (by rfl) | exact len_app rfl (len_app (seg_lenE (by rfl)) rfl (by rfl)) (by rfl) | (simp only [seg_len, cellsS, List.length_append, List.length_cons, List.length_nil]; done) | (simp only [seg_len, cellsS, List.length_append, List.length_cons, List.length_nil]; rfl)) rfl ?_
                        refine preb 3 ((List.map ew ((Arr.rep 4 (0 : UInt64))).l).flatten) rfl (by first | rfl | exact (List.append_nil _).symm | exact List.append_nil _ | exact List.append_assoc _ _ _ | exact (List.append_assoc _ _ _).symm | exact congrArg _ (List.append_nil _).symm | exact congrArg _ (List.append_nil _) | (simp; done) | (simp [cellsS]; done)) ?_
                        refine xpval 4 rfl (pv_assign rfl) rfl rfl (by kernel_rfl) (by kernel_rfl) (by kernel_rfl) (fun _ _ _ _ h => h) ?_
                        refine xpvalE 2 [] rfl (qv_loadP 0 ([.v (.int .i64 y9174.1)] ++ ((List.map eB y9174.2.1.l).flatten ++ [.v (.bool y9174.2.2.1), .v (.int .i64 y9174.2.2.2.1)])) [.v (.int .i64 y9174.2.2.2.2)] [] (by first | rfl | exact (List.append_nil _).symm | exact List.append_nil _ | exact List.append_assoc _ _ _ | exact (List.append_assoc _ _ _).symm | exact congrArg _ (List.append_nil _).symm | exact congrArg _ (List.append_nil _) | (simp; done) | (simp [cellsS]; done)) (by first | rfl | exact seg_lenE (by rfl) | exact len_app rfl (seg_lenE (by rfl)) (by rfl) | exact len_app (seg_lenE (by rfl)) rfl (by rfl) | exact len_app rfl (len_app (seg_lenE (by rfl)) rfl (by rfl)) (by rfl) | (simp only [seg_len, cellsS, List.length_append, List.length_cons, List.length_nil]; done) | (simp only [seg_len, cellsS, List.length_append, List.length_cons, List.length_nil]; rfl)) (by first | rfl | exact seg_lenE (by rfl) | exact len_app rfl (seg_lenE (by rfl)) (by rfl) | exact len_app (seg_lenE (by rfl)) rfl (by rfl) | exact len_app rfl (len_app (seg_lenE (by rfl)) rfl (by rfl)) (by rfl) | (simp only [seg_len, cellsS, List.length_append, List.length_cons, List.length_nil]; done) | (simp only [seg_len, cellsS, List.length_append, List.length_cons, List.length_nil]; rfl)) rfl ShpC.h rfl rfl) rfl rfl (by kernel_rfl) (by kernel_rfl) (by kernel_rfl) (fun _ _ _ _ h => h) ?_
                        refine xpval 5 rfl (pv_assign rfl) rfl rfl (by kernel_rfl) (by kernel_rfl) (by kernel_rfl) (fun _ _ _ _ h => h) ?_
                        exact xpuse key9182 rfl ⟨(.cons rfl (.refl _) (.cons rfl (.refl _) (.cons rfl (.refl _) (.nil _)))), (SubM.of (.drop (.drop (.drop (.keep rfl rfl (.refl _) (.nil _))))) (.nil _))⟩ rfl (by kernel_rfl)
                    · replace h := h.2 hp9180
                      refine xcondF' (not_f (decide_eq_true (Decidable.of_not_not hp9180))) rfl ?_
                      refine xskipc ?_
                      refine xthen ?_
                      refine xseq ?_
                      refine xseqM (fun σ => ∃ (x9191 : Bool), palinoderef07_Parse_j10 y9174 x6127 ag3 y8493 f6128 x9191 r ∧ σ = ⟨[(0, .sl 1 none (List.map eb x1)), (4, .v (.pointer (some ⟨b4, 0, none⟩))), (7, .v (.bool (decide (y24 = 94)))), (8, .v (.pointer (some ⟨b8, 0, none⟩))), (9, .v (.int .i64 x6127)), (10, .v (.pointer (some ⟨b10, 0, none⟩))), (12, .v (.pointer (some ⟨b12, 0, none⟩))), (117, .v (.bool x9191))], [⟨b12, 44, ([.v (.int .i64 y9174.1)] ++ ((List.map eB y9174.2.1.l).flatten ++ [.v (.bool y9174.2.2.1), .v (.int .i64 y9174.2.2.2.1), .v (.int .i64 y9174.2.2.2.2)]))⟩, ⟨b10, 44, ([.v (.int .i64 y8493.1)] ++ ((List.map eB y8493.2.1.l).flatten ++ [.v (.bool y8493.2.2.1), .v (.int .i64 y8493.2.2.2.1), .v (.int .i64 y8493.2.2.2.2)]))⟩, ⟨b8, 42, ((List.map eB f6128.l).flatten)⟩, ⟨b4, 26, ((List.map ew ((Arr.rep 4 (0 : UInt64))).l).flatten)⟩], []⟩) ?_ ?_
                      · refine xregion ?_
                        refine xvalP (qv_fieldAddrB FldC.h rfl) rfl rfl ?_
                        refine xval (qv_loadP 0 ([.v (.int .i64 y9174.1)] ++ (List.map eB y9174.2.1.l).flatten) [.v (.bool y9174.2.2.1)] [.v (.int .i64 y9174.2.2.2.1), .v (.int .i64 y9174.2.2.2.2)] (by first | rfl | exact (List.append_nil _).symm | exact List.append_nil _ | exact List.append_assoc _ _ _ | exact (List.append_assoc _ _ _).symm | exact congrArg _ (List.append_nil _).symm | exact congrArg _ (List.append_nil _) | (simp; done) | (simp [cellsS]; done)) (by first | rfl | exact seg_lenE (by rfl) | exact len_app rfl (seg_lenE (by rfl)) (by rfl) | exact len_app (seg_lenE (by rfl)) rfl (by rfl) | exact len_app rfl (len_app (seg_lenE (by rfl)) rfl (by rfl)) (by rfl) | (simp only [seg_len, cellsS, List.length_append, List.length_cons, List.length_nil]; done) | (simp only [seg_len, cellsS, List.length_append, List.length_cons, List.length_nil]; rfl)) (by first | rfl | exact seg_lenE (by rfl) | exact len_app rfl (seg_lenE (by rfl)) (by rfl) | exact len_app (seg_lenE (by rfl)) rfl (by rfl) | exact len_app rfl (len_app (seg_lenE (by rfl)) rfl (by rfl)) (by rfl) | (simp only [seg_len, cellsS, List.length_append, List.length_cons, List.length_nil]; done) | (simp only [seg_len, cellsS, List.length_append, List.length_cons, List.length_nil]; rfl)) rfl ShpC.h rfl rfl) rfl rfl ?_
                        refine xvalP (pv_move rfl) rfl rfl ?_
                        by_cases hp9192 : y9174.2.2.1 = true
                        · rw [show y9174.2.2.1 = true from hp9192, Bool.true_or] at h
                          refine xsetB 111 hp9192 rfl ?_
                          refine xskip rfl rfl ?_
                          refine xskip rfl rfl ?_
                          refine xskip rfl rfl ?_
                          refine xskip rfl rfl ?_
                          refine xskip rfl rfl ?_
                          refine xvalP (pv_pick rfl rfl) rfl rfl ?_
                          refine xnil ?_
                          exact xmeet ⟨true, h, rfl⟩ ⟨(.cons rfl (.refl _) (.cons rfl (.refl _) (.cons rfl (.refl _) (.cons rfl (.refl _) (.cons rfl (.refl _) (.cons rfl (.refl _) (.cons rfl (.refl _) (.cons rfl (.refl _) (.nil _))))))))), (SubM.of (.keep rfl rfl (.refl _) (.keep rfl rfl (.refl _) (.keep rfl rfl (.refl _) (.keep rfl rfl (.refl _) (.nil _))))) (.nil _))⟩
                        · rw [show y9174.2.2.1 = false from (b_f hp9192), Bool.false_or] at h
                          refine xsetB 111 (b_f hp9192) rfl ?_
                          refine xvalP (qv_fieldAddrB FldC.h rfl) rfl rfl ?_
                          refine xval (qv_loadB 0 ShpC.h rfl rfl rfl rfl) rfl rfl ?_
                          refine xvalP (qv_fieldAddrB FldC.h rfl) rfl rfl ?_
                          refine xval (qv_loadB 1 ShpC.h rfl rfl rfl rfl) rfl rfl ?_
                          refine xvalP (pv_bin2 rfl rfl rfl) rfl rfl ?_
                          refine xvalP (pv_pick rfl rfl) rfl rfl ?_
                          refine xnil ?_
                          exact xmeet ⟨(decide (y9174.1 < y8493.1)), h, rfl⟩ ⟨(.cons rfl (.refl _) (.cons rfl (.refl _) (.cons rfl (.refl _) (.cons rfl (.refl _) (.cons rfl (.refl _) (.cons rfl (.refl _) (.cons rfl (.refl _) (.cons rfl (.refl _) (.nil _))))))))), (SubM.of (.keep rfl rfl (.refl _) (.keep rfl rfl (.refl _) (.keep rfl rfl (.refl _) (.keep rfl rfl (.refl _) (.nil _))))) (.nil _))⟩
                      · clear h
                        rintro _ ⟨x9191, h, rfl⟩
                        by_cases hp9194 : x9191 = true
                        · replace h := h.1 hp9194
                          refine xcondT' hp9194 rfl ?_
                          refine xseq ?_
                          refine xregion ?_
                          refine xvalP (pv_buildAC (cs := ((List.map ew ((Arr.rep 4 (0 : UInt64))).l).flatten)) UndC.h ShpC.h InfC.h rfl (by rfl)) rfl rfl ?_
                          refine xstoreP 3 [] ((List.map ew ((Arr.rep 4 (0 : UInt64))).l).flatten) [] (by first | rfl | exact (List.append_nil _).symm | exact List.append_nil _ | exact List.append_assoc _ _ _ | exact (List.append_assoc _ _ _).symm | exact congrArg _ (List.append_nil _).symm | exact congrArg _ (List.append_nil _) | (simp; done) | (simp [cellsS]; done)) (by first | rfl | exact seg_lenE (by rfl) | exact len_app rfl (seg_lenE (by rfl)) (by rfl) | exact len_app (seg_lenE (by rfl)) rfl (by rfl) | exact len_app rfl (len_app (seg_lenE (by rfl)) rfl (by rfl)) (by rfl) | (simp only [seg_len, cellsS, List.length_append, List.length_cons, List.length_nil]; done) | (simp only [seg_len, cellsS, List.length_append, List.length_cons, List.length_nil]; rfl)) (by first | rfl | exact seg_lenE (by rfl) | exact len_app rfl (seg_lenE (by rfl)) (by rfl) | exact len_app (seg_lenE (by rfl)) rfl (by rfl) | exact len_app rfl (len_app (seg_lenE (by rfl)) rfl (by rfl)) (by rfl) | (simp only [seg_len, cellsS, List.length_append, List.length_cons, List.length_nil]; done) | (simp only [seg_len, cellsS, List.length_append, List.length_cons, List.length_nil]; rfl)) ShpC.h rfl rfl rfl rfl (by first | rfl | exact seg_lenE (by rfl) | exact len_app rfl (seg_lenE (by rfl)) (by rfl) | exact len_app (seg_lenE (by rfl)) rfl (by rfl) | exact len_app rfl (len_app (seg_lenE (by rfl)) rfl (by rfl)) (by rfl) | (simp only [seg_len, cellsS, List.length_append, List.length_cons, List.length_nil]; done) | (simp only [seg_len, cellsS, List.length_append, List.length_cons, List.length_nil]; rfl)) rfl ?_
                          refine xreb 3 ((List.map ew ((Arr.rep 4 (0 : UInt64))).l).flatten) rfl (by first | rfl | exact (List.append_nil _).symm | exact List.append_nil _ | exact List.append_assoc _ _ _ | exact (List.append_assoc _ _ _).symm | exact congrArg _ (List.append_nil _).symm | exact congrArg _ (List.append_nil _) | (simp; done) | (simp [cellsS]; done)) ?_
                          refine xvalP (pv_assign rfl) rfl rfl ?_
                          refine xvalP (pv_assign rfl) rfl rfl ?_
                          refine xnil ?_
                          refine xthen ?_
                          refine xretc ?_
                          refine xthen_ret ?_
                          refine xin_ret ?_
                          refine xthen_ret ?_
                          refine xthen_ret ?_
                          refine xin_ret ?_
                          refine xthen_ret ?_
                          replace h := h.symm
                          subst h
                          exact xretL (rs := [.cell 4 26, .tmp 5, .tmp 6]) (ss := [.agg ((List.map ew ((Arr.rep 4 (0 : UInt64))).l).flatten), .v (.int .i64 0), .v (.int .i64 3)]) hg rfl (by refine RetL.cell 3 ShpC.h rfl rfl (part_midE (pre := []) (mid := ((List.map ew ((Arr.rep 4 (0 : UInt64))).l).flatten)) (post := []) (by first | rfl | exact (List.append_nil _).symm | exact List.append_nil _ | exact List.append_assoc _ _ _ | exact (List.append_assoc _ _ _).symm | exact congrArg _ (List.append_nil _).symm | exact congrArg _ (List.append_nil _) | (simp; done) | (simp [cellsS]; done)) (by first | rfl | exact seg_lenE (by rfl) | exact len_app rfl (seg_lenE (by rfl)) (by rfl) | exact len_app (seg_lenE (by rfl)) rfl (by rfl) | exact len_app rfl (len_app (seg_lenE (by rfl)) rfl (by rfl)) (by rfl) | (simp only [seg_len, cellsS, List.length_append, List.length_cons, List.length_nil]; done) | (simp only [seg_len, cellsS, List.length_append, List.length_cons, List.length_nil]; rfl)) (by first | rfl | exact seg_lenE (by rfl) | exact len_app rfl (seg_lenE (by rfl)) (by rfl) | exact len_app (seg_lenE (by rfl)) rfl (by rfl) | exact len_app rfl (len_app (seg_lenE (by rfl)) rfl (by rfl)) (by rfl) | (simp only [seg_len, cellsS, List.length_append, List.length_cons, List.length_nil]; done) | (simp only [seg_len, cellsS, List.length_append, List.length_cons, List.length_nil]; rfl)) (part_all (seg_lenE (by rfl)))) (len_midE (pre := []) (mid := ((List.map ew ((Arr.rep 4 (0 : UInt64))).l).flatten)) (post := []) (by first | rfl | exact (List.append_nil _).symm | exact List.append_nil _ | exact List.append_assoc _ _ _ | exact (List.append_assoc _ _ _).symm | exact congrArg _ (List.append_nil _).symm | exact congrArg _ (List.append_nil _) | (simp; done) | (simp [cellsS]; done)) (by first | rfl | exact seg_lenE (by rfl) | exact len_app rfl (seg_lenE (by rfl)) (by rfl) | exact len_app (seg_lenE (by rfl)) rfl (by rfl) | exact len_app rfl (len_app (seg_lenE (by rfl)) rfl (by rfl)) (by rfl) | (simp only [seg_len, cellsS, List.length_append, List.length_cons, List.length_nil]; done) | (simp only [seg_len, cellsS, List.length_append, List.length_cons, List.length_nil]; rfl)) (by first | rfl | exact seg_lenE (by rfl) | exact len_app rfl (seg_lenE (by rfl)) (by rfl) | exact len_app (seg_lenE (by rfl)) rfl (by rfl) | exact len_app rfl (len_app (seg_lenE (by rfl)) rfl (by rfl)) (by rfl) | (simp only [seg_len, cellsS, List.length_append, List.length_cons, List.length_nil]; done) | (simp only [seg_len, cellsS, List.length_append, List.length_cons, List.length_nil]; rfl))) (by first | with_reducible exact Wk.refl _ | exact Wk.nil_own _ | exact Wk.nil_pl _ | with_reducible exact Wk.tok _ _ _ | exact Wk.tok _ _ _ | exact .eq rfl) ?_; refine RetL.tmp rfl (.refl _) ?_; refine RetL.tmp rfl (.refl _) ?_; exact RetL.nil) (SubM.of (.nil _) (.nil _)) ⟨rfl, rfl, rfl⟩
                        · replace h := h.2 hp9194
                          refine xcondF' (b_f hp9194) rfl ?_
                          refine xskipc ?_
                          refine xthen ?_
                          refine xseq ?_
                          refine xseq ?_
                          refine xregion ?_
                          refine xvalP (qv_fieldAddrB FldC.h rfl) rfl rfl ?_
                          refine xval (qv_loadB 1 ShpC.h rfl rfl rfl rfl) rfl rfl ?_
                          refine xvalP (pv_assign rfl) rfl rfl ?_
                          refine xnil ?_
                          refine xthen ?_
                          refine xblock ?_
                          obtain ⟨Inv, ⟨m0, hI⟩, hS⟩ := h
                          refine xloop (fun σ m => ∃ (x9225 : Int), ∃ (f9226 : Arr 256 (Bool)), Inv (x9225, f9226) m ∧ σ = ⟨[(0, .sl 1 none (List.map eb x1)), (4, .v (.pointer (some ⟨b4, 0, none⟩))), (7, .v (.bool (decide (y24 = 94)))), (8, .v (.pointer (some ⟨b8, 0, none⟩))), (9, .v (.int .i64 x6127)), (12, .v (.pointer (some ⟨b12, 0, none⟩))), (13, .v (.int .i64 x9225))], [⟨b12, 44, ([.v (.int .i64 y9174.1)] ++ ((List.map eB y9174.2.1.l).flatten ++ [.v (.bool y9174.2.2.1), .v (.int .i64 y9174.2.2.2.1), .v (.int .i64 y9174.2.2.2.2)]))⟩, ⟨b8, 42, ((List.map eB f9226.l).flatten)⟩, ⟨b4, 26, ((List.map ew ((Arr.rep 4 (0 : UInt64))).l).flatten)⟩], []⟩) ⟨y8493.1, f6128, hI, rfl⟩ ⟨(.cons rfl (.refl _) (.cons rfl (.refl _) (.cons rfl (.refl _) (.cons rfl (.refl _) (.cons rfl (.refl _) (.cons rfl (.refl _) (.cons rfl (.refl _) (.nil _)))))))), (SubM.of (.keep rfl rfl (.refl _) (.drop (.keep rfl rfl (.refl _) (.keep rfl rfl (.refl _) (.nil _))))) (.nil _))⟩ ?_
                          rintro _ m ⟨x9225, f9226, hI, rfl⟩
                          obtain ⟨ag11, hag11, h⟩ : ∃ ag, (∀ s', ag s' → ∃ m', m' < m ∧ Inv s' m') ∧ palinoderef07_Parse_l11 y9174 x6127 ag3 ag x9225 f9226 r := ⟨_, fun _ h => h, hS (x9225, f9226) _ hI⟩
                          clear hS hI
                          refine xseq ?_
                          refine xseq ?_
                          refine xregion ?_
                          refine xvalP (pv_move rfl) rfl rfl ?_
                          refine xvalP (qv_fieldAddrB FldC.h rfl) rfl rfl ?_
                          refine xval (qv_loadB 0 ShpC.h rfl rfl rfl rfl) rfl rfl ?_
                          refine xvalP (pv_bin2 rfl rfl rfl) rfl rfl ?_
                          refine xnil ?_
                          refine xthen ?_
                          by_cases hp9237 : x9225 ≤ y9174.1
                          · replace h := h.1 hp9237
                            refine xcondT' (decide_eq_true hp9237) rfl ?_
                            refine xskipc ?_
                            refine xthen ?_
                            refine xseq ?_
                            refine xblock ?_
                            refine xregion ?_
                            refine xvalP (pv_move rfl) rfl rfl ?_
                            obtain ⟨h9238, h⟩ := h
                            obtain ⟨y9239, h9238b, h⟩ := h
                            refine xvalP (pv_indexAddrBA h9238 UndC.h ShpC.h rfl rfl) rfl rfl ?_
                            refine xstoreA (f := eB) (a := f9226) (k := 1) (off := 0) (i := (x9225 : Int).toNat) 1 [] [] true h9238b (by first | rfl | exact (List.append_nil _).symm | exact List.append_nil _ | exact List.append_assoc _ _ _ | exact (List.append_assoc _ _ _).symm | exact congrArg _ (List.append_nil _).symm | exact congrArg _ (List.append_nil _) | (simp; done) | (simp [cellsS]; done)) (by first | rfl | omega | (simp only [List.length_cons, List.length_nil]; omega) | (simp only [seg_len, List.length_append, List.length_cons, List.length_nil]; omega)) (by decide) ShpC.h rfl rfl rfl rfl (by first | rfl | exact seg_lenE (by rfl) | exact len_app rfl (seg_lenE (by rfl)) (by rfl) | exact len_app (seg_lenE (by rfl)) rfl (by rfl) | exact len_app rfl (len_app (seg_lenE (by rfl)) rfl (by rfl)) (by rfl) | (simp only [seg_len, cellsS, List.length_append, List.length_cons, List.length_nil]; done) | (simp only [seg_len, cellsS, List.length_append, List.length_cons, List.length_nil]; rfl)) rfl rfl ?_
                            refine xreb 1 ((List.map eB ((Arr.set f9226 (x9225 : Int).toNat true)).l).flatten) rfl (by first | rfl | exact (List.append_nil _).symm | exact List.append_nil _ | exact List.append_assoc _ _ _ | exact (List.append_assoc _ _ _).symm | exact congrArg _ (List.append_nil _).symm | exact congrArg _ (List.append_nil _) | (simp; done) | (simp [cellsS]; done)) ?_
                            refine xnil ?_
                            refine xin_normal ?_
                            refine xthen ?_
                            refine xregion ?_
                            refine xvalP (pv_move rfl) rfl rfl ?_
                            obtain ⟨h9240, h⟩ := h
                            refine xvalP (pv_addI h9240 rfl rfl) rfl rfl ?_
                            refine xvalP (pv_assign rfl) rfl rfl ?_
                            refine xnil ?_
                            obtain ⟨m', hm, hI⟩ := hag11 _ h
                            exact xagain ⟨(x9225 + 1), (Arr.set f9226 (x9225 : Int).toNat true), hI, rfl⟩ hm ⟨(.cons rfl (.refl _) (.cons rfl (.refl _) (.cons rfl (.refl _) (.cons rfl (.refl _) (.cons rfl (.refl _) (.cons rfl (.refl _) (.cons rfl (.refl _) (.nil _)))))))), (SubM.of (.keep rfl rfl (.refl _) (.keep rfl rfl (.refl _) (.keep rfl rfl (.refl _) (.nil _)))) (.nil _))⟩
                          · replace h := h.2 hp9237
                            refine xcondF' (decide_eq_false hp9237) rfl ?_
                            refine xexit ?_
                            refine xthen_exit ?_
                            refine xthen_exit ?_
                            refine xin_same rfl ?_
                            refine xthen ?_
                            refine xregion ?_
                            refine xvalP (qv_fieldAddrB FldC.h rfl) rfl rfl ?_
                            refine xval (qv_loadP 0 ([.v (.int .i64 y9174.1)] ++ ((List.map eB y9174.2.1.l).flatten ++ [.v (.bool y9174.2.2.1)])) [.v (.int .i64 y9174.2.2.2.1)] [.v (.int .i64 y9174.2.2.2.2)] (by first | rfl | exact (List.append_nil _).symm | exact List.append_nil _ | exact List.append_assoc _ _ _ | exact (List.append_assoc _ _ _).symm | exact congrArg _ (List.append_nil _).symm | exact congrArg _ (List.append_nil _) | (simp; done) | (simp [cellsS]; done)) (by first | rfl | exact seg_lenE (by rfl) | exact len_app rfl (seg_lenE (by rfl)) (by rfl) | exact len_app (seg_lenE (by rfl)) rfl (by rfl) | exact len_app rfl (len_app (seg_lenE (by rfl)) rfl (by rfl)) (by rfl) | (simp only [seg_len, cellsS, List.length_append, List.length_cons, List.length_nil]; done) | (simp only [seg_len, cellsS, List.length_append, List.length_cons, List.length_nil]; rfl)) (by first | rfl | exact seg_lenE (by rfl) | exact len_app rfl (seg_lenE (by rfl)) (by rfl) | exact len_app (seg_lenE (by rfl)) rfl (by rfl) | exact len_app rfl (len_app (seg_lenE (by rfl)) rfl (by rfl)) (by rfl) | (simp only [seg_len, cellsS, List.length_append, List.length_cons, List.length_nil]; done) | (simp only [seg_len, cellsS, List.length_append, List.length_cons, List.length_nil]; rfl)) rfl ShpC.h rfl rfl) rfl rfl ?_
                            refine xvalP (pv_assign rfl) rfl rfl ?_
                            refine xnil ?_
                            refine xin_normal ?_
                            exact xmeet ⟨y9174.2.2.2.1, f9226, h, rfl⟩ ⟨(.cons rfl (.refl _) (.cons rfl (.refl _) (.cons rfl (.refl _) (.cons rfl (.refl _) (.cons rfl (.refl _) (.cons rfl (.refl _) (.nil _))))))), (SubM.of (.drop (.keep rfl rfl (.refl _) (.keep rfl rfl (.refl _) (.nil _)))) (.nil _))⟩
          · clear h
            rintro _ ⟨x8490, f8491, h, rfl⟩
            refine xregion ?_
            refine xvalP (pv_move rfl) rfl rfl ?_
            obtain ⟨h9241, h⟩ := h
            refine xvalP (pv_addI h9241 rfl rfl) rfl rfl ?_
            refine xvalP (pv_assign rfl) rfl rfl ?_
            refine xnil ?_
            obtain ⟨m', hm, hI⟩ := hag3 _ h
            exact xagain ⟨x8490, (x6127 + 1), f8491, hI, rfl⟩ hm ⟨(.cons rfl (.refl _) (.cons rfl (.refl _) (.cons rfl (.refl _) (.cons rfl (.refl _) (.cons rfl (.refl _) (.cons rfl (.refl _) (.nil _))))))), (SubM.of (.keep rfl rfl (.refl _) (.keep rfl rfl (.refl _) (.nil _))) (.nil _))⟩
end Go.Proofs.Ytgplmognfmjllaa
