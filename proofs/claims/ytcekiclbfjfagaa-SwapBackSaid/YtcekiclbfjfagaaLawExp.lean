/- The walk of the law SwapExpands. -/
import Derived.Test.YtcekiclbfjfagaaSwapW
import Derived.Test.YtcekiclbfjfagaaSwapG
namespace Go.Proofs.Ytcekiclbfjfagaa

theorem not_great {l : List PartT} {n : Nat} (h : greatB l n = false) : l.length ≤ 12 ∧ (∀ p ∈ l, p.2.2.length ≤ 30) ∧ n ≤ 60 := by
  unfold greatB at h
  simp only [Bool.or_eq_false_iff, decide_eq_false_iff_not, List.any_eq_false, decide_eq_true_eq] at h
  obtain ⟨⟨h1, h2⟩, h3⟩ := h
  refine ⟨by omega, fun p hp => ?_, by omega⟩
  have := h1 p (by rw [List.take_of_length_le (by omega)]; exact hp)
  omega
theorem expOne_len {text : List UInt8} {sp : List (Int × Int)} {p : PartT} (hp : p.2.2.length ≤ 30) (ht : text.length ≤ 60) : (expOne text sp p).length ≤ 60 := by
  unfold expOne
  split
  · omega
  · split
    · split
      · split
        · rw [List.length_drop, List.length_take]; omega
        · simp
      · simp
    · simp
theorem expand_len {text : List UInt8} {sp : List (Int × Int)} : ∀ {l : List PartT}, (∀ p ∈ l, p.2.2.length ≤ 30) → text.length ≤ 60 → (expand text sp l).length ≤ 60 * l.length
  | [], _, _ => by simp [expand]
  | p :: l, h, ht => by
    have ih := expand_len (sp := sp) (l := l) (fun q hq => h q (by simp [hq])) ht
    have h1 := expOne_len (sp := sp) (h p (by simp)) ht
    have e : expand text sp (p :: l) = expOne text sp p ++ expand text sp l := by simp [expand]
    rw [e, List.length_append, List.length_cons]; omega
theorem hit_part {sp : List (Int × Int)} (h10 : sp.length = 10) : partS true 20 0 (cellsS (.agg (hitC sp))) = some (.agg (hitC sp)) := by
  show some (Sd.agg (((hitC sp).drop 0).take 20)) = _
  rw [List.drop_zero, List.take_of_length_le (by rw [hitC_length, h10]; exact Nat.le_refl _)]
theorem hit_ble {sp : List (Int × Int)} (h10 : sp.length = 10) : Nat.ble (0 + 20) (cellsS (.agg (hitC sp))).length = true := by
  show Nat.ble (0 + 20) (hitC sp).length = true
  rw [hitC_length, h10]; rfl
set_option maxHeartbeats 2000000 in
theorem lawExp_any (l : List PartT) (text : List UInt8) (sp : List (Int × Int)) (h10 : sp.length = 10) : Con Try.prog 3 [.sl 3 none (l.map encP), .sl 1 none (text.map eb), .agg (hitC sp)] [] [] (Ret (.v (.bool true))) := by
  refine xenter Try.func3 rfl rfl fun g hg => ?_
  simp only [Try.ntmps3, slots]
  repeat
    first
    | refine xseq ?_
    | first
      | refine xregion ?_
      | refine xvalP (pv_move rfl) rfl rfl ?_
      | refine xvalP (pv_assign rfl) rfl rfl ?_
      | refine xvalP (pv_add1 rfl rfl (by omega)) rfl rfl ?_
      | refine xvalP (pv_sub1 rfl rfl (by omega)) rfl rfl ?_
      | refine xvalP (pv_bin2 rfl rfl rfl) rfl rfl ?_
      | refine xnil ?_
      | refine xthen ?_
      | refine xblock ?_
      | refine xval (qv_load ShpC.h rfl rfl rfl) rfl rfl ?_
      | refine xvalP (qv_fieldAddrB FldC.h rfl) rfl rfl ?_
      | refine xvalP (qv_fieldAddrE FldC.h rfl) rfl rfl ?_
      | refine xval (qv_loadB 0 ShpC.h rfl rfl rfl rfl) rfl rfl ?_
      | refine xval (qv_loadB 1 ShpC.h rfl rfl rfl rfl) rfl rfl ?_
      | refine xval (qv_loadB 2 ShpC.h rfl rfl rfl rfl) rfl rfl ?_
      | refine xval (qv_loadB 3 ShpC.h rfl rfl rfl rfl) rfl rfl ?_
      | refine xval (qv_loadB 4 ShpC.h rfl rfl rfl rfl) rfl rfl ?_
      | refine xvalP (pv_pick rfl rfl) rfl rfl ?_
      | refine xvalP (pv_len UndC.h rfl rfl) rfl rfl ?_
      | refine xvalP (pv_lenS UndC.h rfl) rfl rfl ?_
      | refine xvalP (pv_lenRb UndC.h rfl) rfl rfl ?_
      | refine xvalP (pv_lenV UndC.h rfl) rfl rfl ?_
      | refine xvalP (pv_not rfl) rfl rfl ?_
      | refine xvalP (pv_nilCheck rfl) rfl rfl ?_
      | refine xvalP (pv_nilCheckE rfl) rfl rfl ?_
      | refine xvalP (pv_nilCheckF rfl) rfl rfl ?_
      | refine xvalP (pv_extract rfl rfl) rfl rfl ?_
      | refine xvalP (qv_field FldC.h rfl rfl) rfl rfl ?_
      | refine xvalP (pv_indexAddr UndC.h ShpC.h rfl rfl rfl (map_at (by assumption))) rfl rfl ?_
      | refine xvalP (pv_indexAddrB UndC.h ShpC.h rfl rfl (Int.toNat_of_nonneg (by decide)).symm (by decide)) rfl rfl ?_
      | refine xvalP (pv_indexAddrE UndC.h ShpC.h rfl rfl (Int.toNat_of_nonneg (by decide)).symm (by decide)) rfl rfl ?_
      | refine xvalP (pv_eqB UndC.h rfl rfl) rfl rfl ?_
      | refine xvalP (pv_neB UndC.h rfl rfl) rfl rfl ?_
      | refine xvalP (pv_convI UndC.h UndC.h rfl) rfl rfl ?_
      | refine xvalP (pv_buildC StrC.h rfl rfl) rfl rfl ?_
      | refine xalloc InfC.h rfl rfl fun _ => ?_
      | refine xbuildSliceC UndC.h InfC.h rfl rfl rfl rfl rfl rfl fun _ => ?_
      | refine xvalP (pv_makeFuncC rfl) rfl rfl ?_
      | refine xbox rfl rfl rfl rfl fun _ => ?_
      | refine xstore 0 ShpC.h rfl rfl rfl rfl rfl rfl rfl ?_
      | refine xstore 1 ShpC.h rfl rfl rfl rfl rfl rfl rfl ?_
      | refine xstore 2 ShpC.h rfl rfl rfl rfl rfl rfl rfl ?_
      | refine xstore 3 ShpC.h rfl rfl rfl rfl rfl rfl rfl ?_
      | refine xstore 4 ShpC.h rfl rfl rfl rfl rfl rfl rfl ?_
      | refine xskip rfl rfl ?_
      | refine xskip0 rfl ?_
      | refine xcondT rfl ?_
      | refine xcondF rfl ?_
      | refine xskipc ?_
      | refine xexit ?_
      | refine xretc ?_
      | refine xin_normal ?_
      | refine xin_ret ?_
      | refine xthen_exit ?_
      | refine xthen_ret ?_
      | refine xin_same rfl ?_
      | refine xin_other rfl ?_
  refine xcall0 (great_any l text) Try.func7 (by kernel_rfl) rfl (by repeat (first | exact EvL.nil | refine EvL.cons rfl (by first | with_reducible exact Wk.refl _ | exact Wk.nil_pl _ | with_reducible exact Wk.tok _ _ _ | exact Wk.eq rfl) ?_)) rfl rfl ?_
  repeat
    first
    | refine xseq ?_
    | first
      | refine xregion ?_
      | refine xvalP (pv_move rfl) rfl rfl ?_
      | refine xvalP (pv_assign rfl) rfl rfl ?_
      | refine xvalP (pv_add1 rfl rfl (by omega)) rfl rfl ?_
      | refine xvalP (pv_sub1 rfl rfl (by omega)) rfl rfl ?_
      | refine xvalP (pv_bin2 rfl rfl rfl) rfl rfl ?_
      | refine xnil ?_
      | refine xthen ?_
      | refine xblock ?_
      | refine xval (qv_load ShpC.h rfl rfl rfl) rfl rfl ?_
      | refine xvalP (qv_fieldAddrB FldC.h rfl) rfl rfl ?_
      | refine xvalP (qv_fieldAddrE FldC.h rfl) rfl rfl ?_
      | refine xval (qv_loadB 0 ShpC.h rfl rfl rfl rfl) rfl rfl ?_
      | refine xval (qv_loadB 1 ShpC.h rfl rfl rfl rfl) rfl rfl ?_
      | refine xval (qv_loadB 2 ShpC.h rfl rfl rfl rfl) rfl rfl ?_
      | refine xval (qv_loadB 3 ShpC.h rfl rfl rfl rfl) rfl rfl ?_
      | refine xval (qv_loadB 4 ShpC.h rfl rfl rfl rfl) rfl rfl ?_
      | refine xvalP (pv_pick rfl rfl) rfl rfl ?_
      | refine xvalP (pv_len UndC.h rfl rfl) rfl rfl ?_
      | refine xvalP (pv_lenS UndC.h rfl) rfl rfl ?_
      | refine xvalP (pv_lenRb UndC.h rfl) rfl rfl ?_
      | refine xvalP (pv_lenV UndC.h rfl) rfl rfl ?_
      | refine xvalP (pv_not rfl) rfl rfl ?_
      | refine xvalP (pv_nilCheck rfl) rfl rfl ?_
      | refine xvalP (pv_nilCheckE rfl) rfl rfl ?_
      | refine xvalP (pv_nilCheckF rfl) rfl rfl ?_
      | refine xvalP (pv_extract rfl rfl) rfl rfl ?_
      | refine xvalP (qv_field FldC.h rfl rfl) rfl rfl ?_
      | refine xvalP (pv_indexAddr UndC.h ShpC.h rfl rfl rfl (map_at (by assumption))) rfl rfl ?_
      | refine xvalP (pv_indexAddrB UndC.h ShpC.h rfl rfl (Int.toNat_of_nonneg (by decide)).symm (by decide)) rfl rfl ?_
      | refine xvalP (pv_indexAddrE UndC.h ShpC.h rfl rfl (Int.toNat_of_nonneg (by decide)).symm (by decide)) rfl rfl ?_
      | refine xvalP (pv_eqB UndC.h rfl rfl) rfl rfl ?_
      | refine xvalP (pv_neB UndC.h rfl rfl) rfl rfl ?_
      | refine xvalP (pv_convI UndC.h UndC.h rfl) rfl rfl ?_
      | refine xvalP (pv_buildC StrC.h rfl rfl) rfl rfl ?_
      | refine xalloc InfC.h rfl rfl fun _ => ?_
      | refine xbuildSliceC UndC.h InfC.h rfl rfl rfl rfl rfl rfl fun _ => ?_
      | refine xvalP (pv_makeFuncC rfl) rfl rfl ?_
      | refine xbox rfl rfl rfl rfl fun _ => ?_
      | refine xstore 0 ShpC.h rfl rfl rfl rfl rfl rfl rfl ?_
      | refine xstore 1 ShpC.h rfl rfl rfl rfl rfl rfl rfl ?_
      | refine xstore 2 ShpC.h rfl rfl rfl rfl rfl rfl rfl ?_
      | refine xstore 3 ShpC.h rfl rfl rfl rfl rfl rfl rfl ?_
      | refine xstore 4 ShpC.h rfl rfl rfl rfl rfl rfl rfl ?_
      | refine xskip rfl rfl ?_
      | refine xskip0 rfl ?_
      | refine xcondT rfl ?_
      | refine xcondF rfl ?_
      | refine xskipc ?_
      | refine xexit ?_
      | refine xretc ?_
      | refine xin_normal ?_
      | refine xin_ret ?_
      | refine xthen_exit ?_
      | refine xthen_ret ?_
      | refine xin_same rfl ?_
      | refine xin_other rfl ?_
  refine xcondB rfl (fun h1 => ?_) (fun h1 => ?_)
  · repeat
      first
      | refine xseq ?_
      | first
        | refine xregion ?_
        | refine xvalP (pv_move rfl) rfl rfl ?_
        | refine xvalP (pv_assign rfl) rfl rfl ?_
        | refine xvalP (pv_add1 rfl rfl (by omega)) rfl rfl ?_
        | refine xvalP (pv_sub1 rfl rfl (by omega)) rfl rfl ?_
        | refine xvalP (pv_bin2 rfl rfl rfl) rfl rfl ?_
        | refine xnil ?_
        | refine xthen ?_
        | refine xblock ?_
        | refine xval (qv_load ShpC.h rfl rfl rfl) rfl rfl ?_
        | refine xvalP (qv_fieldAddrB FldC.h rfl) rfl rfl ?_
        | refine xvalP (qv_fieldAddrE FldC.h rfl) rfl rfl ?_
        | refine xval (qv_loadB 0 ShpC.h rfl rfl rfl rfl) rfl rfl ?_
        | refine xval (qv_loadB 1 ShpC.h rfl rfl rfl rfl) rfl rfl ?_
        | refine xval (qv_loadB 2 ShpC.h rfl rfl rfl rfl) rfl rfl ?_
        | refine xval (qv_loadB 3 ShpC.h rfl rfl rfl rfl) rfl rfl ?_
        | refine xval (qv_loadB 4 ShpC.h rfl rfl rfl rfl) rfl rfl ?_
        | refine xvalP (pv_pick rfl rfl) rfl rfl ?_
        | refine xvalP (pv_len UndC.h rfl rfl) rfl rfl ?_
        | refine xvalP (pv_lenS UndC.h rfl) rfl rfl ?_
        | refine xvalP (pv_lenRb UndC.h rfl) rfl rfl ?_
        | refine xvalP (pv_lenV UndC.h rfl) rfl rfl ?_
        | refine xvalP (pv_not rfl) rfl rfl ?_
        | refine xvalP (pv_nilCheck rfl) rfl rfl ?_
        | refine xvalP (pv_nilCheckE rfl) rfl rfl ?_
        | refine xvalP (pv_nilCheckF rfl) rfl rfl ?_
        | refine xvalP (pv_extract rfl rfl) rfl rfl ?_
        | refine xvalP (qv_field FldC.h rfl rfl) rfl rfl ?_
        | refine xvalP (pv_indexAddr UndC.h ShpC.h rfl rfl rfl (map_at (by assumption))) rfl rfl ?_
        | refine xvalP (pv_indexAddrB UndC.h ShpC.h rfl rfl (Int.toNat_of_nonneg (by decide)).symm (by decide)) rfl rfl ?_
        | refine xvalP (pv_indexAddrE UndC.h ShpC.h rfl rfl (Int.toNat_of_nonneg (by decide)).symm (by decide)) rfl rfl ?_
        | refine xvalP (pv_eqB UndC.h rfl rfl) rfl rfl ?_
        | refine xvalP (pv_neB UndC.h rfl rfl) rfl rfl ?_
        | refine xvalP (pv_convI UndC.h UndC.h rfl) rfl rfl ?_
        | refine xvalP (pv_buildC StrC.h rfl rfl) rfl rfl ?_
        | refine xalloc InfC.h rfl rfl fun _ => ?_
        | refine xbuildSliceC UndC.h InfC.h rfl rfl rfl rfl rfl rfl fun _ => ?_
        | refine xvalP (pv_makeFuncC rfl) rfl rfl ?_
        | refine xbox rfl rfl rfl rfl fun _ => ?_
        | refine xstore 0 ShpC.h rfl rfl rfl rfl rfl rfl rfl ?_
        | refine xstore 1 ShpC.h rfl rfl rfl rfl rfl rfl rfl ?_
        | refine xstore 2 ShpC.h rfl rfl rfl rfl rfl rfl rfl ?_
        | refine xstore 3 ShpC.h rfl rfl rfl rfl rfl rfl rfl ?_
        | refine xstore 4 ShpC.h rfl rfl rfl rfl rfl rfl rfl ?_
        | refine xskip rfl rfl ?_
        | refine xskip0 rfl ?_
        | refine xcondT rfl ?_
        | refine xcondF rfl ?_
        | refine xskipc ?_
        | refine xexit ?_
        | refine xretc ?_
        | refine xin_normal ?_
        | refine xin_ret ?_
        | refine xthen_exit ?_
        | refine xthen_ret ?_
        | refine xin_same rfl ?_
        | refine xin_other rfl ?_
    refine xcall0 (awake_any) Try.func8 (by kernel_rfl) rfl (by repeat (first | exact EvL.nil | refine EvL.cons rfl (by first | with_reducible exact Wk.refl _ | exact Wk.nil_pl _ | with_reducible exact Wk.tok _ _ _ | exact Wk.eq rfl) ?_)) rfl rfl ?_
    repeat
      first
      | refine xseq ?_
      | first
        | refine xregion ?_
        | refine xvalP (pv_move rfl) rfl rfl ?_
        | refine xvalP (pv_assign rfl) rfl rfl ?_
        | refine xvalP (pv_add1 rfl rfl (by omega)) rfl rfl ?_
        | refine xvalP (pv_sub1 rfl rfl (by omega)) rfl rfl ?_
        | refine xvalP (pv_bin2 rfl rfl rfl) rfl rfl ?_
        | refine xnil ?_
        | refine xthen ?_
        | refine xblock ?_
        | refine xval (qv_load ShpC.h rfl rfl rfl) rfl rfl ?_
        | refine xvalP (qv_fieldAddrB FldC.h rfl) rfl rfl ?_
        | refine xvalP (qv_fieldAddrE FldC.h rfl) rfl rfl ?_
        | refine xval (qv_loadB 0 ShpC.h rfl rfl rfl rfl) rfl rfl ?_
        | refine xval (qv_loadB 1 ShpC.h rfl rfl rfl rfl) rfl rfl ?_
        | refine xval (qv_loadB 2 ShpC.h rfl rfl rfl rfl) rfl rfl ?_
        | refine xval (qv_loadB 3 ShpC.h rfl rfl rfl rfl) rfl rfl ?_
        | refine xval (qv_loadB 4 ShpC.h rfl rfl rfl rfl) rfl rfl ?_
        | refine xvalP (pv_pick rfl rfl) rfl rfl ?_
        | refine xvalP (pv_len UndC.h rfl rfl) rfl rfl ?_
        | refine xvalP (pv_lenS UndC.h rfl) rfl rfl ?_
        | refine xvalP (pv_lenRb UndC.h rfl) rfl rfl ?_
        | refine xvalP (pv_lenV UndC.h rfl) rfl rfl ?_
        | refine xvalP (pv_not rfl) rfl rfl ?_
        | refine xvalP (pv_nilCheck rfl) rfl rfl ?_
        | refine xvalP (pv_nilCheckE rfl) rfl rfl ?_
        | refine xvalP (pv_nilCheckF rfl) rfl rfl ?_
        | refine xvalP (pv_extract rfl rfl) rfl rfl ?_
        | refine xvalP (qv_field FldC.h rfl rfl) rfl rfl ?_
        | refine xvalP (pv_indexAddr UndC.h ShpC.h rfl rfl rfl (map_at (by assumption))) rfl rfl ?_
        | refine xvalP (pv_indexAddrB UndC.h ShpC.h rfl rfl (Int.toNat_of_nonneg (by decide)).symm (by decide)) rfl rfl ?_
        | refine xvalP (pv_indexAddrE UndC.h ShpC.h rfl rfl (Int.toNat_of_nonneg (by decide)).symm (by decide)) rfl rfl ?_
        | refine xvalP (pv_eqB UndC.h rfl rfl) rfl rfl ?_
        | refine xvalP (pv_neB UndC.h rfl rfl) rfl rfl ?_
        | refine xvalP (pv_convI UndC.h UndC.h rfl) rfl rfl ?_
        | refine xvalP (pv_buildC StrC.h rfl rfl) rfl rfl ?_
        | refine xalloc InfC.h rfl rfl fun _ => ?_
        | refine xbuildSliceC UndC.h InfC.h rfl rfl rfl rfl rfl rfl fun _ => ?_
        | refine xvalP (pv_makeFuncC rfl) rfl rfl ?_
        | refine xbox rfl rfl rfl rfl fun _ => ?_
        | refine xstore 0 ShpC.h rfl rfl rfl rfl rfl rfl rfl ?_
        | refine xstore 1 ShpC.h rfl rfl rfl rfl rfl rfl rfl ?_
        | refine xstore 2 ShpC.h rfl rfl rfl rfl rfl rfl rfl ?_
        | refine xstore 3 ShpC.h rfl rfl rfl rfl rfl rfl rfl ?_
        | refine xstore 4 ShpC.h rfl rfl rfl rfl rfl rfl rfl ?_
        | refine xskip rfl rfl ?_
        | refine xskip0 rfl ?_
        | refine xcondT rfl ?_
        | refine xcondF rfl ?_
        | refine xskipc ?_
        | refine xexit ?_
        | refine xretc ?_
        | refine xin_normal ?_
        | refine xin_ret ?_
        | refine xthen_exit ?_
        | refine xthen_ret ?_
        | refine xin_same rfl ?_
        | refine xin_other rfl ?_
    exact xret1 hg rfl rfl (.refl _) (SubM.none _ _) ⟨rfl, rfl, rfl⟩
  · obtain ⟨g1, g2, g3⟩ := not_great h1
    have hlen := expand_len (sp := sp) g2 g3
    have hs := same_any (expand text sp l) (expand text sp l) (by omega)
    rw [decide_eq_true rfl] at hs
    repeat
      first
      | refine xseq ?_
      | first
        | refine xregion ?_
        | refine xvalP (pv_move rfl) rfl rfl ?_
        | refine xvalP (pv_assign rfl) rfl rfl ?_
        | refine xvalP (pv_add1 rfl rfl (by omega)) rfl rfl ?_
        | refine xvalP (pv_sub1 rfl rfl (by omega)) rfl rfl ?_
        | refine xvalP (pv_bin2 rfl rfl rfl) rfl rfl ?_
        | refine xnil ?_
        | refine xthen ?_
        | refine xblock ?_
        | refine xval (qv_load ShpC.h rfl rfl rfl) rfl rfl ?_
        | refine xvalP (qv_fieldAddrB FldC.h rfl) rfl rfl ?_
        | refine xvalP (qv_fieldAddrE FldC.h rfl) rfl rfl ?_
        | refine xval (qv_loadB 0 ShpC.h rfl rfl rfl rfl) rfl rfl ?_
        | refine xval (qv_loadB 1 ShpC.h rfl rfl rfl rfl) rfl rfl ?_
        | refine xval (qv_loadB 2 ShpC.h rfl rfl rfl rfl) rfl rfl ?_
        | refine xval (qv_loadB 3 ShpC.h rfl rfl rfl rfl) rfl rfl ?_
        | refine xval (qv_loadB 4 ShpC.h rfl rfl rfl rfl) rfl rfl ?_
        | refine xvalP (pv_pick rfl rfl) rfl rfl ?_
        | refine xvalP (pv_len UndC.h rfl rfl) rfl rfl ?_
        | refine xvalP (pv_lenS UndC.h rfl) rfl rfl ?_
        | refine xvalP (pv_lenRb UndC.h rfl) rfl rfl ?_
        | refine xvalP (pv_lenV UndC.h rfl) rfl rfl ?_
        | refine xvalP (pv_not rfl) rfl rfl ?_
        | refine xvalP (pv_nilCheck rfl) rfl rfl ?_
        | refine xvalP (pv_nilCheckE rfl) rfl rfl ?_
        | refine xvalP (pv_nilCheckF rfl) rfl rfl ?_
        | refine xvalP (pv_extract rfl rfl) rfl rfl ?_
        | refine xvalP (qv_field FldC.h rfl rfl) rfl rfl ?_
        | refine xvalP (pv_indexAddr UndC.h ShpC.h rfl rfl rfl (map_at (by assumption))) rfl rfl ?_
        | refine xvalP (pv_indexAddrB UndC.h ShpC.h rfl rfl (Int.toNat_of_nonneg (by decide)).symm (by decide)) rfl rfl ?_
        | refine xvalP (pv_indexAddrE UndC.h ShpC.h rfl rfl (Int.toNat_of_nonneg (by decide)).symm (by decide)) rfl rfl ?_
        | refine xvalP (pv_eqB UndC.h rfl rfl) rfl rfl ?_
        | refine xvalP (pv_neB UndC.h rfl rfl) rfl rfl ?_
        | refine xvalP (pv_convI UndC.h UndC.h rfl) rfl rfl ?_
        | refine xvalP (pv_buildC StrC.h rfl rfl) rfl rfl ?_
        | refine xalloc InfC.h rfl rfl fun _ => ?_
        | refine xbuildSliceC UndC.h InfC.h rfl rfl rfl rfl rfl rfl fun _ => ?_
        | refine xvalP (pv_makeFuncC rfl) rfl rfl ?_
        | refine xbox rfl rfl rfl rfl fun _ => ?_
        | refine xstore 0 ShpC.h rfl rfl rfl rfl rfl rfl rfl ?_
        | refine xstore 1 ShpC.h rfl rfl rfl rfl rfl rfl rfl ?_
        | refine xstore 2 ShpC.h rfl rfl rfl rfl rfl rfl rfl ?_
        | refine xstore 3 ShpC.h rfl rfl rfl rfl rfl rfl rfl ?_
        | refine xstore 4 ShpC.h rfl rfl rfl rfl rfl rfl rfl ?_
        | refine xskip rfl rfl ?_
        | refine xskip0 rfl ?_
        | refine xcondT rfl ?_
        | refine xcondF rfl ?_
        | refine xskipc ?_
        | refine xexit ?_
        | refine xretc ?_
        | refine xin_normal ?_
        | refine xin_ret ?_
        | refine xthen_exit ?_
        | refine xthen_ret ?_
        | refine xin_same rfl ?_
        | refine xin_other rfl ?_
    refine xregionD (m := 13) (by kernel_rfl) rfl ?_
    refine xpval 0 rfl (pv_move rfl) rfl rfl (by kernel_rfl) (by kernel_rfl) (by kernel_rfl) (fun _ _ _ _ h => h) ?_
    refine xpval 1 rfl (pv_move rfl) rfl rfl (by kernel_rfl) (by kernel_rfl) (by kernel_rfl) (fun _ _ _ _ h => h) ?_
    refine xpval 4 rfl (pv_move rfl) rfl rfl (by kernel_rfl) (by kernel_rfl) (by kernel_rfl) (fun _ _ _ _ h => h) ?_
    refine xpval 5 rfl (pv_move rfl) rfl rfl (by kernel_rfl) (by kernel_rfl) (by kernel_rfl) (fun _ _ _ _ h => h) ?_
    refine xpvalE 2 [6] rfl (qv_loadB 0 ShpC.h rfl rfl (hit_part h10) (hit_ble h10)) rfl rfl (by kernel_rfl) (by kernel_rfl) (by kernel_rfl) (fun _ _ _ _ h => h) ?_
    refine xpstepN (is := [3, 6]) (by kernel_rfl) (by simp) ?_
    intro i hi; simp only [List.mem_cons, List.not_mem_nil, or_false] at hi; rcases hi with rfl | rfl
    · refine ⟨_, rfl, ?_⟩
      refine wcallO (expand_any l text sp h10 (by omega) (by omega)) Try.func10 (by kernel_rfl) rfl (by repeat (first | exact EvL.nil | refine EvL.cons rfl (by first | with_reducible exact Wk.refl _ | exact Wk.nil_pl _ | with_reducible exact Wk.tok _ _ _ | exact Wk.eq rfl) ?_)) rfl rfl fun id1 => ?_
      refine xpvalE 6 [] rfl (qv_loadB 0 ShpC.h rfl rfl (hit_part h10) (hit_ble h10)) rfl rfl (by kernel_rfl) (by kernel_rfl) (by kernel_rfl) (fun _ _ _ _ h => h) ?_
      refine xpstep (i := 7) (by kernel_rfl) rfl ?_
      refine wcallO (rexpand_any l text sp h10 (by omega) (by omega)) Try.func11 (by kernel_rfl) rfl (by repeat (first | exact EvL.nil | refine EvL.cons rfl (by first | with_reducible exact Wk.refl _ | exact Wk.nil_pl _ | with_reducible exact Wk.tok _ _ _ | exact Wk.eq rfl) ?_)) rfl rfl fun id2 => ?_
      refine xpstep (i := 8) (by kernel_rfl) rfl ?_
      refine wcall0 (hs) Try.func9 (by kernel_rfl) rfl (by repeat (first | exact EvL.nil | refine EvL.cons rfl (by first | with_reducible exact Wk.refl _ | exact Wk.nil_pl _ | with_reducible exact Wk.tok _ _ _ | exact Wk.eq rfl) ?_)) rfl rfl ?_
      refine xpval 9 rfl (pv_move rfl) rfl rfl (by kernel_rfl) (by kernel_rfl) (by kernel_rfl) (fun _ _ _ _ h => h) ?_
      refine xpstep (i := 10) (by kernel_rfl) rfl ?_
      refine wcall0 (awake_any) Try.func8 (by kernel_rfl) rfl (by repeat (first | exact EvL.nil | refine EvL.cons rfl (by first | with_reducible exact Wk.refl _ | exact Wk.nil_pl _ | with_reducible exact Wk.tok _ _ _ | exact Wk.eq rfl) ?_)) rfl rfl ?_
      refine xpval 11 rfl (pv_pick rfl rfl) rfl rfl (by kernel_rfl) (by kernel_rfl) (by kernel_rfl) (fun _ _ _ _ h => h) ?_
      refine xpval 12 rfl (pv_assign rfl) rfl rfl (by kernel_rfl) (by kernel_rfl) (by kernel_rfl) (fun _ _ _ _ h => h) ?_
      refine xpdone (by kernel_rfl) ?_
      refine xthen ?_
      refine xretc ?_
      exact xret1 hg rfl rfl (.refl _) (SubM.none _ _) ⟨rfl, rfl, rfl⟩
    · refine ⟨_, rfl, ?_⟩
      refine wval (qv_loadB 0 ShpC.h rfl rfl (hit_part h10) (hit_ble h10)) rfl rfl ?_
      refine xpstep (i := 3) (by kernel_rfl) rfl ?_
      refine wcallO (expand_any l text sp h10 (by omega) (by omega)) Try.func10 (by kernel_rfl) rfl (by repeat (first | exact EvL.nil | refine EvL.cons rfl (by first | with_reducible exact Wk.refl _ | exact Wk.nil_pl _ | with_reducible exact Wk.tok _ _ _ | exact Wk.eq rfl) ?_)) rfl rfl fun id1 => ?_
      refine xpstep (i := 7) (by kernel_rfl) rfl ?_
      refine wcallO (rexpand_any l text sp h10 (by omega) (by omega)) Try.func11 (by kernel_rfl) rfl (by repeat (first | exact EvL.nil | refine EvL.cons rfl (by first | with_reducible exact Wk.refl _ | exact Wk.nil_pl _ | with_reducible exact Wk.tok _ _ _ | exact Wk.eq rfl) ?_)) rfl rfl fun id2 => ?_
      refine xpstep (i := 8) (by kernel_rfl) rfl ?_
      refine wcall0 (hs) Try.func9 (by kernel_rfl) rfl (by repeat (first | exact EvL.nil | refine EvL.cons rfl (by first | with_reducible exact Wk.refl _ | exact Wk.nil_pl _ | with_reducible exact Wk.tok _ _ _ | exact Wk.eq rfl) ?_)) rfl rfl ?_
      refine xpval 9 rfl (pv_move rfl) rfl rfl (by kernel_rfl) (by kernel_rfl) (by kernel_rfl) (fun _ _ _ _ h => h) ?_
      refine xpstep (i := 10) (by kernel_rfl) rfl ?_
      refine wcall0 (awake_any) Try.func8 (by kernel_rfl) rfl (by repeat (first | exact EvL.nil | refine EvL.cons rfl (by first | with_reducible exact Wk.refl _ | exact Wk.nil_pl _ | with_reducible exact Wk.tok _ _ _ | exact Wk.eq rfl) ?_)) rfl rfl ?_
      refine xpval 11 rfl (pv_pick rfl rfl) rfl rfl (by kernel_rfl) (by kernel_rfl) (by kernel_rfl) (fun _ _ _ _ h => h) ?_
      refine xpval 12 rfl (pv_assign rfl) rfl rfl (by kernel_rfl) (by kernel_rfl) (by kernel_rfl) (fun _ _ _ _ h => h) ?_
      refine xpdone (by kernel_rfl) ?_
      refine xthen ?_
      refine xretc ?_
      exact xret1 hg rfl rfl (.refl _) (SubM.none _ _) ⟨rfl, rfl, rfl⟩
end Go.Proofs.Ytcekiclbfjfagaa
