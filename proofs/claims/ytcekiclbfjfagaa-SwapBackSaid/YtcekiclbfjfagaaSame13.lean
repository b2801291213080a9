/- The walks of swap.Same, of what it calls, and of palinoderef13.Same. -/
import Derived.Test.YtcekiclbfjfagaaSwap
import Derived.Test.YtcekiclbfjfagaaBytes
import Derived.Test.YtcekiclbfjfagaaFront2
namespace Go.Proofs.Ytcekiclbfjfagaa

def EqInv (xs ys : List UInt8) (σ : St) (m : Nat) : Prop := ∃ k, k ≤ xs.length ∧ m = xs.length - k ∧ xs.take k = ys.take k ∧
  σ = ⟨[(13, .v (.int .i64 (k : Int))), (12, .v (.int .i64 ((xs.map eb).length : Int))), (0, .sl 1 none (xs.map eb)), (1, .sl 1 none (ys.map eb))], [], []⟩
set_option maxHeartbeats 1000000 in
theorem equal_any (xs ys : List UInt8) (hl : xs.length ≤ 1000000000) : Con Try.prog 27 [.sl 1 none (xs.map eb), .sl 1 none (ys.map eb)] [] [] (Ret (.v (.bool (decide (xs = ys))))) := by
  refine xenter Try.func27 rfl rfl fun g hg => ?_
  simp only [Try.ntmps27, slots]
  repeat
    first
    | refine xseq ?_
    | first
      | refine xregion ?_
      | refine xvalP (pv_move rfl) rfl rfl ?_
      | refine xvalP (pv_assign rfl) rfl rfl ?_
      | refine xvalP (pv_add1 rfl rfl (by omega)) rfl rfl ?_
      | refine xvalP (pv_sub1 rfl rfl (by omega)) rfl rfl ?_
      | refine xvalP (pv_bin2 rfl rfl rfl) rfl rfl ?_
      | refine xnil ?_
      | refine xthen ?_
      | refine xblock ?_
      | refine xval (qv_load ShpC.h rfl rfl rfl) rfl rfl ?_
      | refine xvalP (qv_fieldAddrB FldC.h rfl) rfl rfl ?_
      | refine xvalP (qv_fieldAddrE FldC.h rfl) rfl rfl ?_
      | refine xval (qv_loadB 0 ShpC.h rfl rfl rfl rfl) rfl rfl ?_
      | refine xval (qv_loadB 1 ShpC.h rfl rfl rfl rfl) rfl rfl ?_
      | refine xval (qv_loadB 2 ShpC.h rfl rfl rfl rfl) rfl rfl ?_
      | refine xval (qv_loadB 3 ShpC.h rfl rfl rfl rfl) rfl rfl ?_
      | refine xval (qv_loadB 4 ShpC.h rfl rfl rfl rfl) rfl rfl ?_
      | refine xvalP (pv_pick rfl rfl) rfl rfl ?_
      | refine xvalP (pv_len UndC.h rfl rfl) rfl rfl ?_
      | refine xvalP (pv_lenS UndC.h rfl) rfl rfl ?_
      | refine xvalP (pv_lenRb UndC.h rfl) rfl rfl ?_
      | refine xvalP (pv_lenV UndC.h rfl) rfl rfl ?_
      | refine xvalP (pv_not rfl) rfl rfl ?_
      | refine xvalP (pv_nilCheck rfl) rfl rfl ?_
      | refine xvalP (pv_nilCheckE rfl) rfl rfl ?_
      | refine xvalP (pv_nilCheckF rfl) rfl rfl ?_
      | refine xvalP (pv_extract rfl rfl) rfl rfl ?_
      | refine xvalP (qv_field FldC.h rfl rfl) rfl rfl ?_
      | refine xvalP (pv_indexAddr UndC.h ShpC.h rfl rfl rfl (map_at (by assumption))) rfl rfl ?_
      | refine xvalP (pv_indexAddrB UndC.h ShpC.h rfl rfl (Int.toNat_of_nonneg (by decide)).symm (by decide)) rfl rfl ?_
      | refine xvalP (pv_indexAddrE UndC.h ShpC.h rfl rfl (Int.toNat_of_nonneg (by decide)).symm (by decide)) rfl rfl ?_
      | refine xvalP (pv_eqB UndC.h rfl rfl) rfl rfl ?_
      | refine xvalP (pv_neB UndC.h rfl rfl) rfl rfl ?_
      | refine xvalP (pv_convI UndC.h UndC.h rfl) rfl rfl ?_
      | refine xvalP (pv_buildC StrC.h rfl rfl) rfl rfl ?_
      | refine xalloc InfC.h rfl rfl fun _ => ?_
      | refine xbuildSliceC UndC.h InfC.h rfl rfl rfl rfl rfl rfl fun _ => ?_
      | refine xvalP (pv_makeFuncC rfl) rfl rfl ?_
      | refine xbox rfl rfl rfl rfl fun _ => ?_
      | refine xstore 0 ShpC.h rfl rfl rfl rfl rfl rfl rfl ?_
      | refine xstore 1 ShpC.h rfl rfl rfl rfl rfl rfl rfl ?_
      | refine xstore 2 ShpC.h rfl rfl rfl rfl rfl rfl rfl ?_
      | refine xstore 3 ShpC.h rfl rfl rfl rfl rfl rfl rfl ?_
      | refine xstore 4 ShpC.h rfl rfl rfl rfl rfl rfl rfl ?_
      | refine xskip rfl rfl ?_
      | refine xskip0 rfl ?_
      | refine xcondT rfl ?_
      | refine xcondF rfl ?_
      | refine xskipc ?_
      | refine xexit ?_
      | refine xretc ?_
      | refine xin_normal ?_
      | refine xin_ret ?_
      | refine xthen_exit ?_
      | refine xthen_ret ?_
      | refine xin_same rfl ?_
      | refine xin_other rfl ?_
  refine xcondN rfl (fun h1 => ?_) (fun h1 => ?_)
  · have hne : xs ≠ ys := fun e => h1 (by rw [e])
    repeat
      first
      | refine xseq ?_
      | first
        | refine xregion ?_
        | refine xvalP (pv_move rfl) rfl rfl ?_
        | refine xvalP (pv_assign rfl) rfl rfl ?_
        | refine xvalP (pv_add1 rfl rfl (by omega)) rfl rfl ?_
        | refine xvalP (pv_sub1 rfl rfl (by omega)) rfl rfl ?_
        | refine xvalP (pv_bin2 rfl rfl rfl) rfl rfl ?_
        | refine xnil ?_
        | refine xthen ?_
        | refine xblock ?_
        | refine xval (qv_load ShpC.h rfl rfl rfl) rfl rfl ?_
        | refine xvalP (qv_fieldAddrB FldC.h rfl) rfl rfl ?_
        | refine xvalP (qv_fieldAddrE FldC.h rfl) rfl rfl ?_
        | refine xval (qv_loadB 0 ShpC.h rfl rfl rfl rfl) rfl rfl ?_
        | refine xval (qv_loadB 1 ShpC.h rfl rfl rfl rfl) rfl rfl ?_
        | refine xval (qv_loadB 2 ShpC.h rfl rfl rfl rfl) rfl rfl ?_
        | refine xval (qv_loadB 3 ShpC.h rfl rfl rfl rfl) rfl rfl ?_
        | refine xval (qv_loadB 4 ShpC.h rfl rfl rfl rfl) rfl rfl ?_
        | refine xvalP (pv_pick rfl rfl) rfl rfl ?_
        | refine xvalP (pv_len UndC.h rfl rfl) rfl rfl ?_
        | refine xvalP (pv_lenS UndC.h rfl) rfl rfl ?_
        | refine xvalP (pv_lenRb UndC.h rfl) rfl rfl ?_
        | refine xvalP (pv_lenV UndC.h rfl) rfl rfl ?_
        | refine xvalP (pv_not rfl) rfl rfl ?_
        | refine xvalP (pv_nilCheck rfl) rfl rfl ?_
        | refine xvalP (pv_nilCheckE rfl) rfl rfl ?_
        | refine xvalP (pv_nilCheckF rfl) rfl rfl ?_
        | refine xvalP (pv_extract rfl rfl) rfl rfl ?_
        | refine xvalP (qv_field FldC.h rfl rfl) rfl rfl ?_
        | refine xvalP (pv_indexAddr UndC.h ShpC.h rfl rfl rfl (map_at (by assumption))) rfl rfl ?_
        | refine xvalP (pv_indexAddrB UndC.h ShpC.h rfl rfl (Int.toNat_of_nonneg (by decide)).symm (by decide)) rfl rfl ?_
        | refine xvalP (pv_indexAddrE UndC.h ShpC.h rfl rfl (Int.toNat_of_nonneg (by decide)).symm (by decide)) rfl rfl ?_
        | refine xvalP (pv_eqB UndC.h rfl rfl) rfl rfl ?_
        | refine xvalP (pv_neB UndC.h rfl rfl) rfl rfl ?_
        | refine xvalP (pv_convI UndC.h UndC.h rfl) rfl rfl ?_
        | refine xvalP (pv_buildC StrC.h rfl rfl) rfl rfl ?_
        | refine xalloc InfC.h rfl rfl fun _ => ?_
        | refine xbuildSliceC UndC.h InfC.h rfl rfl rfl rfl rfl rfl fun _ => ?_
        | refine xvalP (pv_makeFuncC rfl) rfl rfl ?_
        | refine xbox rfl rfl rfl rfl fun _ => ?_
        | refine xstore 0 ShpC.h rfl rfl rfl rfl rfl rfl rfl ?_
        | refine xstore 1 ShpC.h rfl rfl rfl rfl rfl rfl rfl ?_
        | refine xstore 2 ShpC.h rfl rfl rfl rfl rfl rfl rfl ?_
        | refine xstore 3 ShpC.h rfl rfl rfl rfl rfl rfl rfl ?_
        | refine xstore 4 ShpC.h rfl rfl rfl rfl rfl rfl rfl ?_
        | refine xskip rfl rfl ?_
        | refine xskip0 rfl ?_
        | refine xcondT rfl ?_
        | refine xcondF rfl ?_
        | refine xskipc ?_
        | refine xexit ?_
        | refine xretc ?_
        | refine xin_normal ?_
        | refine xin_ret ?_
        | refine xthen_exit ?_
        | refine xthen_ret ?_
        | refine xin_same rfl ?_
        | refine xin_other rfl ?_
    exact xret1 hg rfl rfl (.eq (by rw [decide_eq_false hne]; rfl)) (SubM.none _ _) ⟨rfl, rfl, rfl⟩
  · have hl2 : xs.length = ys.length := by simp at h1; omega
    repeat
      first
      | refine xseq ?_
      | first
        | refine xregion ?_
        | refine xvalP (pv_move rfl) rfl rfl ?_
        | refine xvalP (pv_assign rfl) rfl rfl ?_
        | refine xvalP (pv_add1 rfl rfl (by omega)) rfl rfl ?_
        | refine xvalP (pv_sub1 rfl rfl (by omega)) rfl rfl ?_
        | refine xvalP (pv_bin2 rfl rfl rfl) rfl rfl ?_
        | refine xnil ?_
        | refine xthen ?_
        | refine xblock ?_
        | refine xval (qv_load ShpC.h rfl rfl rfl) rfl rfl ?_
        | refine xvalP (qv_fieldAddrB FldC.h rfl) rfl rfl ?_
        | refine xvalP (qv_fieldAddrE FldC.h rfl) rfl rfl ?_
        | refine xval (qv_loadB 0 ShpC.h rfl rfl rfl rfl) rfl rfl ?_
        | refine xval (qv_loadB 1 ShpC.h rfl rfl rfl rfl) rfl rfl ?_
        | refine xval (qv_loadB 2 ShpC.h rfl rfl rfl rfl) rfl rfl ?_
        | refine xval (qv_loadB 3 ShpC.h rfl rfl rfl rfl) rfl rfl ?_
        | refine xval (qv_loadB 4 ShpC.h rfl rfl rfl rfl) rfl rfl ?_
        | refine xvalP (pv_pick rfl rfl) rfl rfl ?_
        | refine xvalP (pv_len UndC.h rfl rfl) rfl rfl ?_
        | refine xvalP (pv_lenS UndC.h rfl) rfl rfl ?_
        | refine xvalP (pv_lenRb UndC.h rfl) rfl rfl ?_
        | refine xvalP (pv_lenV UndC.h rfl) rfl rfl ?_
        | refine xvalP (pv_not rfl) rfl rfl ?_
        | refine xvalP (pv_nilCheck rfl) rfl rfl ?_
        | refine xvalP (pv_nilCheckE rfl) rfl rfl ?_
        | refine xvalP (pv_nilCheckF rfl) rfl rfl ?_
        | refine xvalP (pv_extract rfl rfl) rfl rfl ?_
        | refine xvalP (qv_field FldC.h rfl rfl) rfl rfl ?_
        | refine xvalP (pv_indexAddr UndC.h ShpC.h rfl rfl rfl (map_at (by assumption))) rfl rfl ?_
        | refine xvalP (pv_indexAddrB UndC.h ShpC.h rfl rfl (Int.toNat_of_nonneg (by decide)).symm (by decide)) rfl rfl ?_
        | refine xvalP (pv_indexAddrE UndC.h ShpC.h rfl rfl (Int.toNat_of_nonneg (by decide)).symm (by decide)) rfl rfl ?_
        | refine xvalP (pv_eqB UndC.h rfl rfl) rfl rfl ?_
        | refine xvalP (pv_neB UndC.h rfl rfl) rfl rfl ?_
        | refine xvalP (pv_convI UndC.h UndC.h rfl) rfl rfl ?_
        | refine xvalP (pv_buildC StrC.h rfl rfl) rfl rfl ?_
        | refine xalloc InfC.h rfl rfl fun _ => ?_
        | refine xbuildSliceC UndC.h InfC.h rfl rfl rfl rfl rfl rfl fun _ => ?_
        | refine xvalP (pv_makeFuncC rfl) rfl rfl ?_
        | refine xbox rfl rfl rfl rfl fun _ => ?_
        | refine xstore 0 ShpC.h rfl rfl rfl rfl rfl rfl rfl ?_
        | refine xstore 1 ShpC.h rfl rfl rfl rfl rfl rfl rfl ?_
        | refine xstore 2 ShpC.h rfl rfl rfl rfl rfl rfl rfl ?_
        | refine xstore 3 ShpC.h rfl rfl rfl rfl rfl rfl rfl ?_
        | refine xstore 4 ShpC.h rfl rfl rfl rfl rfl rfl rfl ?_
        | refine xskip rfl rfl ?_
        | refine xskip0 rfl ?_
        | refine xcondT rfl ?_
        | refine xcondF rfl ?_
        | refine xskipc ?_
        | refine xexit ?_
        | refine xretc ?_
        | refine xin_normal ?_
        | refine xin_ret ?_
        | refine xthen_exit ?_
        | refine xthen_ret ?_
        | refine xin_same rfl ?_
        | refine xin_other rfl ?_
    refine xloop (EqInv xs ys) ⟨0, Nat.zero_le _, rfl, rfl, rfl⟩ ⟨by (repeat (first | exact ImpT.nil _ | refine ImpT.cons rfl (by first | with_reducible exact Wk.refl _ | exact Wk.nil_own _ | exact Wk.nil_pl _ | with_reducible exact Wk.tok _ _ _ | exact Wk.tok _ _ _ | exact Wk.eq (by first | rfl | (simp []; done) | (simp []; omega))) ?_)), SubM.refl _ _⟩ ?_
    rintro _ m ⟨k, hk, rfl, heq, rfl⟩
    repeat
      first
      | refine xseq ?_
      | first
        | refine xregion ?_
        | refine xvalP (pv_move rfl) rfl rfl ?_
        | refine xvalP (pv_assign rfl) rfl rfl ?_
        | refine xvalP (pv_add1 rfl rfl (by omega)) rfl rfl ?_
        | refine xvalP (pv_sub1 rfl rfl (by omega)) rfl rfl ?_
        | refine xvalP (pv_bin2 rfl rfl rfl) rfl rfl ?_
        | refine xnil ?_
        | refine xthen ?_
        | refine xblock ?_
        | refine xval (qv_load ShpC.h rfl rfl rfl) rfl rfl ?_
        | refine xvalP (qv_fieldAddrB FldC.h rfl) rfl rfl ?_
        | refine xvalP (qv_fieldAddrE FldC.h rfl) rfl rfl ?_
        | refine xval (qv_loadB 0 ShpC.h rfl rfl rfl rfl) rfl rfl ?_
        | refine xval (qv_loadB 1 ShpC.h rfl rfl rfl rfl) rfl rfl ?_
        | refine xval (qv_loadB 2 ShpC.h rfl rfl rfl rfl) rfl rfl ?_
        | refine xval (qv_loadB 3 ShpC.h rfl rfl rfl rfl) rfl rfl ?_
        | refine xval (qv_loadB 4 ShpC.h rfl rfl rfl rfl) rfl rfl ?_
        | refine xvalP (pv_pick rfl rfl) rfl rfl ?_
        | refine xvalP (pv_len UndC.h rfl rfl) rfl rfl ?_
        | refine xvalP (pv_lenS UndC.h rfl) rfl rfl ?_
        | refine xvalP (pv_lenRb UndC.h rfl) rfl rfl ?_
        | refine xvalP (pv_lenV UndC.h rfl) rfl rfl ?_
        | refine xvalP (pv_not rfl) rfl rfl ?_
        | refine xvalP (pv_nilCheck rfl) rfl rfl ?_
        | refine xvalP (pv_nilCheckE rfl) rfl rfl ?_
        | refine xvalP (pv_nilCheckF rfl) rfl rfl ?_
        | refine xvalP (pv_extract rfl rfl) rfl rfl ?_
        | refine xvalP (qv_field FldC.h rfl rfl) rfl rfl ?_
        | refine xvalP (pv_indexAddr UndC.h ShpC.h rfl rfl rfl (map_at (by assumption))) rfl rfl ?_
        | refine xvalP (pv_indexAddrB UndC.h ShpC.h rfl rfl (Int.toNat_of_nonneg (by decide)).symm (by decide)) rfl rfl ?_
        | refine xvalP (pv_indexAddrE UndC.h ShpC.h rfl rfl (Int.toNat_of_nonneg (by decide)).symm (by decide)) rfl rfl ?_
        | refine xvalP (pv_eqB UndC.h rfl rfl) rfl rfl ?_
        | refine xvalP (pv_neB UndC.h rfl rfl) rfl rfl ?_
        | refine xvalP (pv_convI UndC.h UndC.h rfl) rfl rfl ?_
        | refine xvalP (pv_buildC StrC.h rfl rfl) rfl rfl ?_
        | refine xalloc InfC.h rfl rfl fun _ => ?_
        | refine xbuildSliceC UndC.h InfC.h rfl rfl rfl rfl rfl rfl fun _ => ?_
        | refine xvalP (pv_makeFuncC rfl) rfl rfl ?_
        | refine xbox rfl rfl rfl rfl fun _ => ?_
        | refine xstore 0 ShpC.h rfl rfl rfl rfl rfl rfl rfl ?_
        | refine xstore 1 ShpC.h rfl rfl rfl rfl rfl rfl rfl ?_
        | refine xstore 2 ShpC.h rfl rfl rfl rfl rfl rfl rfl ?_
        | refine xstore 3 ShpC.h rfl rfl rfl rfl rfl rfl rfl ?_
        | refine xstore 4 ShpC.h rfl rfl rfl rfl rfl rfl rfl ?_
        | refine xskip rfl rfl ?_
        | refine xskip0 rfl ?_
        | refine xcondT rfl ?_
        | refine xcondF rfl ?_
        | refine xskipc ?_
        | refine xexit ?_
        | refine xretc ?_
        | refine xin_normal ?_
        | refine xin_ret ?_
        | refine xthen_exit ?_
        | refine xthen_ret ?_
        | refine xin_same rfl ?_
        | refine xin_other rfl ?_
    refine xcondD rfl (fun h2 => ?_) (fun h2 => ?_)
    · have hk1 : k < xs.length := by simpa using h2
      obtain ⟨x, hx⟩ : ∃ x, xs[k]? = some x := ⟨_, List.getElem?_eq_getElem hk1⟩
      obtain ⟨y, hy⟩ : ∃ y, ys[k]? = some y := ⟨_, List.getElem?_eq_getElem (by omega)⟩
      repeat
        first
        | refine xseq ?_
        | first
          | refine xregion ?_
          | refine xvalP (pv_move rfl) rfl rfl ?_
          | refine xvalP (pv_assign rfl) rfl rfl ?_
          | refine xvalP (pv_add1 rfl rfl (by omega)) rfl rfl ?_
          | refine xvalP (pv_sub1 rfl rfl (by omega)) rfl rfl ?_
          | refine xvalP (pv_bin2 rfl rfl rfl) rfl rfl ?_
          | refine xnil ?_
          | refine xthen ?_
          | refine xblock ?_
          | refine xval (qv_load ShpC.h rfl rfl rfl) rfl rfl ?_
          | refine xvalP (qv_fieldAddrB FldC.h rfl) rfl rfl ?_
          | refine xvalP (qv_fieldAddrE FldC.h rfl) rfl rfl ?_
          | refine xval (qv_loadB 0 ShpC.h rfl rfl rfl rfl) rfl rfl ?_
          | refine xval (qv_loadB 1 ShpC.h rfl rfl rfl rfl) rfl rfl ?_
          | refine xval (qv_loadB 2 ShpC.h rfl rfl rfl rfl) rfl rfl ?_
          | refine xval (qv_loadB 3 ShpC.h rfl rfl rfl rfl) rfl rfl ?_
          | refine xval (qv_loadB 4 ShpC.h rfl rfl rfl rfl) rfl rfl ?_
          | refine xvalP (pv_pick rfl rfl) rfl rfl ?_
          | refine xvalP (pv_len UndC.h rfl rfl) rfl rfl ?_
          | refine xvalP (pv_lenS UndC.h rfl) rfl rfl ?_
          | refine xvalP (pv_lenRb UndC.h rfl) rfl rfl ?_
          | refine xvalP (pv_lenV UndC.h rfl) rfl rfl ?_
          | refine xvalP (pv_not rfl) rfl rfl ?_
          | refine xvalP (pv_nilCheck rfl) rfl rfl ?_
          | refine xvalP (pv_nilCheckE rfl) rfl rfl ?_
          | refine xvalP (pv_nilCheckF rfl) rfl rfl ?_
          | refine xvalP (pv_extract rfl rfl) rfl rfl ?_
          | refine xvalP (qv_field FldC.h rfl rfl) rfl rfl ?_
          | refine xvalP (pv_indexAddr UndC.h ShpC.h rfl rfl rfl (map_at (by assumption))) rfl rfl ?_
          | refine xvalP (pv_indexAddrB UndC.h ShpC.h rfl rfl (Int.toNat_of_nonneg (by decide)).symm (by decide)) rfl rfl ?_
          | refine xvalP (pv_indexAddrE UndC.h ShpC.h rfl rfl (Int.toNat_of_nonneg (by decide)).symm (by decide)) rfl rfl ?_
          | refine xvalP (pv_eqB UndC.h rfl rfl) rfl rfl ?_
          | refine xvalP (pv_neB UndC.h rfl rfl) rfl rfl ?_
          | refine xvalP (pv_convI UndC.h UndC.h rfl) rfl rfl ?_
          | refine xvalP (pv_buildC StrC.h rfl rfl) rfl rfl ?_
          | refine xalloc InfC.h rfl rfl fun _ => ?_
          | refine xbuildSliceC UndC.h InfC.h rfl rfl rfl rfl rfl rfl fun _ => ?_
          | refine xvalP (pv_makeFuncC rfl) rfl rfl ?_
          | refine xbox rfl rfl rfl rfl fun _ => ?_
          | refine xstore 0 ShpC.h rfl rfl rfl rfl rfl rfl rfl ?_
          | refine xstore 1 ShpC.h rfl rfl rfl rfl rfl rfl rfl ?_
          | refine xstore 2 ShpC.h rfl rfl rfl rfl rfl rfl rfl ?_
          | refine xstore 3 ShpC.h rfl rfl rfl rfl rfl rfl rfl ?_
          | refine xstore 4 ShpC.h rfl rfl rfl rfl rfl rfl rfl ?_
          | refine xskip rfl rfl ?_
          | refine xskip0 rfl ?_
          | refine xcondT rfl ?_
          | refine xcondF rfl ?_
          | refine xskipc ?_
          | refine xexit ?_
          | refine xretc ?_
          | refine xin_normal ?_
          | refine xin_ret ?_
          | refine xthen_exit ?_
          | refine xthen_ret ?_
          | refine xin_same rfl ?_
          | refine xin_other rfl ?_
      refine xregionD (m := 9) (by kernel_rfl) rfl ?_
      refine xpval 0 rfl (pv_move rfl) rfl rfl (by kernel_rfl) (by kernel_rfl) (by kernel_rfl) (fun _ _ _ _ h => h) ?_
      refine xpval 1 rfl (pv_move rfl) rfl rfl (by kernel_rfl) (by kernel_rfl) (by kernel_rfl) (fun _ _ _ _ h => h) ?_
      refine xpval 2 rfl (pv_indexAddr UndC.h ShpC.h rfl rfl rfl (map_at (by assumption))) rfl rfl (by kernel_rfl) (by kernel_rfl) (by kernel_rfl) (fun _ _ _ _ h => h) ?_
      refine xpval 4 rfl (pv_move rfl) rfl rfl (by kernel_rfl) (by kernel_rfl) (by kernel_rfl) (fun _ _ _ _ h => h) ?_
      refine xpval 5 rfl (pv_move rfl) rfl rfl (by kernel_rfl) (by kernel_rfl) (by kernel_rfl) (fun _ _ _ _ h => h) ?_
      refine xpval 6 rfl (pv_indexAddr UndC.h ShpC.h rfl rfl rfl (map_at (by assumption))) rfl rfl (by kernel_rfl) (by kernel_rfl) (by kernel_rfl) (fun _ _ _ _ h => h) ?_
      first | refine xpvalE 3 [7] rfl (qv_load ShpC.h rfl rfl rfl) rfl rfl (by kernel_rfl) (by kernel_rfl) (by kernel_rfl) (fun _ _ _ _ h => h) ?_ | refine xpvalE 3 [7] rfl (qv_loadB 0 ShpC.h rfl rfl rfl rfl) rfl rfl (by kernel_rfl) (by kernel_rfl) (by kernel_rfl) (fun _ _ _ _ h => h) ?_ | refine xpvalE 3 [7] rfl (qv_loadB 1 ShpC.h rfl rfl rfl rfl) rfl rfl (by kernel_rfl) (by kernel_rfl) (by kernel_rfl) (fun _ _ _ _ h => h) ?_ | refine xpvalE 3 [7] rfl (qv_loadB 2 ShpC.h rfl rfl rfl rfl) rfl rfl (by kernel_rfl) (by kernel_rfl) (by kernel_rfl) (fun _ _ _ _ h => h) ?_ | refine xpvalE 3 [7] rfl (qv_loadB 3 ShpC.h rfl rfl rfl rfl) rfl rfl (by kernel_rfl) (by kernel_rfl) (by kernel_rfl) (fun _ _ _ _ h => h) ?_ | refine xpvalE 3 [7] rfl (qv_loadB 4 ShpC.h rfl rfl rfl rfl) rfl rfl (by kernel_rfl) (by kernel_rfl) (by kernel_rfl) (fun _ _ _ _ h => h) ?_ | refine xpvalE 3 [7] rfl (qv_loadB 5 ShpC.h rfl rfl rfl rfl) rfl rfl (by kernel_rfl) (by kernel_rfl) (by kernel_rfl) (fun _ _ _ _ h => h) ?_
      first | refine xpvalE 7 [] rfl (qv_load ShpC.h rfl rfl rfl) rfl rfl (by kernel_rfl) (by kernel_rfl) (by kernel_rfl) (fun _ _ _ _ h => h) ?_ | refine xpvalE 7 [] rfl (qv_loadB 0 ShpC.h rfl rfl rfl rfl) rfl rfl (by kernel_rfl) (by kernel_rfl) (by kernel_rfl) (fun _ _ _ _ h => h) ?_ | refine xpvalE 7 [] rfl (qv_loadB 1 ShpC.h rfl rfl rfl rfl) rfl rfl (by kernel_rfl) (by kernel_rfl) (by kernel_rfl) (fun _ _ _ _ h => h) ?_ | refine xpvalE 7 [] rfl (qv_loadB 2 ShpC.h rfl rfl rfl rfl) rfl rfl (by kernel_rfl) (by kernel_rfl) (by kernel_rfl) (fun _ _ _ _ h => h) ?_ | refine xpvalE 7 [] rfl (qv_loadB 3 ShpC.h rfl rfl rfl rfl) rfl rfl (by kernel_rfl) (by kernel_rfl) (by kernel_rfl) (fun _ _ _ _ h => h) ?_ | refine xpvalE 7 [] rfl (qv_loadB 4 ShpC.h rfl rfl rfl rfl) rfl rfl (by kernel_rfl) (by kernel_rfl) (by kernel_rfl) (fun _ _ _ _ h => h) ?_ | refine xpvalE 7 [] rfl (qv_loadB 5 ShpC.h rfl rfl rfl rfl) rfl rfl (by kernel_rfl) (by kernel_rfl) (by kernel_rfl) (fun _ _ _ _ h => h) ?_
      first | refine xpval 8 rfl (pv_add1 rfl rfl (by omega)) rfl rfl (by kernel_rfl) (by kernel_rfl) (by kernel_rfl) (fun _ _ _ _ h => h) ?_ | refine xpval 8 rfl (pv_bin2 rfl rfl rfl) rfl rfl (by kernel_rfl) (by kernel_rfl) (by kernel_rfl) (fun _ _ _ _ h => h) ?_ | refine xpval 8 rfl (pv_eqB UndC.h rfl rfl) rfl rfl (by kernel_rfl) (by kernel_rfl) (by kernel_rfl) (fun _ _ _ _ h => h) ?_ | refine xpval 8 rfl (pv_neB UndC.h rfl rfl) rfl rfl (by kernel_rfl) (by kernel_rfl) (by kernel_rfl) (fun _ _ _ _ h => h) ?_ | refine xpval 8 rfl (pv_eqNil UndC.h rfl rfl) rfl rfl (by kernel_rfl) (by kernel_rfl) (by kernel_rfl) (fun _ _ _ _ h => h) ?_ | refine xpval 8 rfl (pv_neNil UndC.h rfl rfl) rfl rfl (by kernel_rfl) (by kernel_rfl) (by kernel_rfl) (fun _ _ _ _ h => h) ?_
      refine xpdone (by kernel_rfl) ?_
      repeat
        first
        | refine xseq ?_
        | first
          | refine xregion ?_
          | refine xvalP (pv_move rfl) rfl rfl ?_
          | refine xvalP (pv_assign rfl) rfl rfl ?_
          | refine xvalP (pv_add1 rfl rfl (by omega)) rfl rfl ?_
          | refine xvalP (pv_sub1 rfl rfl (by omega)) rfl rfl ?_
          | refine xvalP (pv_bin2 rfl rfl rfl) rfl rfl ?_
          | refine xnil ?_
          | refine xthen ?_
          | refine xblock ?_
          | refine xval (qv_load ShpC.h rfl rfl rfl) rfl rfl ?_
          | refine xvalP (qv_fieldAddrB FldC.h rfl) rfl rfl ?_
          | refine xvalP (qv_fieldAddrE FldC.h rfl) rfl rfl ?_
          | refine xval (qv_loadB 0 ShpC.h rfl rfl rfl rfl) rfl rfl ?_
          | refine xval (qv_loadB 1 ShpC.h rfl rfl rfl rfl) rfl rfl ?_
          | refine xval (qv_loadB 2 ShpC.h rfl rfl rfl rfl) rfl rfl ?_
          | refine xval (qv_loadB 3 ShpC.h rfl rfl rfl rfl) rfl rfl ?_
          | refine xval (qv_loadB 4 ShpC.h rfl rfl rfl rfl) rfl rfl ?_
          | refine xvalP (pv_pick rfl rfl) rfl rfl ?_
          | refine xvalP (pv_len UndC.h rfl rfl) rfl rfl ?_
          | refine xvalP (pv_lenS UndC.h rfl) rfl rfl ?_
          | refine xvalP (pv_lenRb UndC.h rfl) rfl rfl ?_
          | refine xvalP (pv_lenV UndC.h rfl) rfl rfl ?_
          | refine xvalP (pv_not rfl) rfl rfl ?_
          | refine xvalP (pv_nilCheck rfl) rfl rfl ?_
          | refine xvalP (pv_nilCheckE rfl) rfl rfl ?_
          | refine xvalP (pv_nilCheckF rfl) rfl rfl ?_
          | refine xvalP (pv_extract rfl rfl) rfl rfl ?_
          | refine xvalP (qv_field FldC.h rfl rfl) rfl rfl ?_
          | refine xvalP (pv_indexAddr UndC.h ShpC.h rfl rfl rfl (map_at (by assumption))) rfl rfl ?_
          | refine xvalP (pv_indexAddrB UndC.h ShpC.h rfl rfl (Int.toNat_of_nonneg (by decide)).symm (by decide)) rfl rfl ?_
          | refine xvalP (pv_indexAddrE UndC.h ShpC.h rfl rfl (Int.toNat_of_nonneg (by decide)).symm (by decide)) rfl rfl ?_
          | refine xvalP (pv_eqB UndC.h rfl rfl) rfl rfl ?_
          | refine xvalP (pv_neB UndC.h rfl rfl) rfl rfl ?_
          | refine xvalP (pv_convI UndC.h UndC.h rfl) rfl rfl ?_
          | refine xvalP (pv_buildC StrC.h rfl rfl) rfl rfl ?_
          | refine xalloc InfC.h rfl rfl fun _ => ?_
          | refine xbuildSliceC UndC.h InfC.h rfl rfl rfl rfl rfl rfl fun _ => ?_
          | refine xvalP (pv_makeFuncC rfl) rfl rfl ?_
          | refine xbox rfl rfl rfl rfl fun _ => ?_
          | refine xstore 0 ShpC.h rfl rfl rfl rfl rfl rfl rfl ?_
          | refine xstore 1 ShpC.h rfl rfl rfl rfl rfl rfl rfl ?_
          | refine xstore 2 ShpC.h rfl rfl rfl rfl rfl rfl rfl ?_
          | refine xstore 3 ShpC.h rfl rfl rfl rfl rfl rfl rfl ?_
          | refine xstore 4 ShpC.h rfl rfl rfl rfl rfl rfl rfl ?_
          | refine xskip rfl rfl ?_
          | refine xskip0 rfl ?_
          | refine xcondT rfl ?_
          | refine xcondF rfl ?_
          | refine xskipc ?_
          | refine xexit ?_
          | refine xretc ?_
          | refine xin_normal ?_
          | refine xin_ret ?_
          | refine xthen_exit ?_
          | refine xthen_ret ?_
          | refine xin_same rfl ?_
          | refine xin_other rfl ?_
      refine xcondN rfl (fun h3 => ?_) (fun h3 => ?_)
      · have hne : xs ≠ ys := fun e => h3 (by subst e; rw [hx] at hy; injection hy with hy; rw [hy])
        repeat
          first
          | refine xseq ?_
          | first
            | refine xregion ?_
            | refine xvalP (pv_move rfl) rfl rfl ?_
            | refine xvalP (pv_assign rfl) rfl rfl ?_
            | refine xvalP (pv_add1 rfl rfl (by omega)) rfl rfl ?_
            | refine xvalP (pv_sub1 rfl rfl (by omega)) rfl rfl ?_
            | refine xvalP (pv_bin2 rfl rfl rfl) rfl rfl ?_
            | refine xnil ?_
            | refine xthen ?_
            | refine xblock ?_
            | refine xval (qv_load ShpC.h rfl rfl rfl) rfl rfl ?_
            | refine xvalP (qv_fieldAddrB FldC.h rfl) rfl rfl ?_
            | refine xvalP (qv_fieldAddrE FldC.h rfl) rfl rfl ?_
            | refine xval (qv_loadB 0 ShpC.h rfl rfl rfl rfl) rfl rfl ?_
            | refine xval (qv_loadB 1 ShpC.h rfl rfl rfl rfl) rfl rfl ?_
            | refine xval (qv_loadB 2 ShpC.h rfl rfl rfl rfl) rfl rfl ?_
            | refine xval (qv_loadB 3 ShpC.h rfl rfl rfl rfl) rfl rfl ?_
            | refine xval (qv_loadB 4 ShpC.h rfl rfl rfl rfl) rfl rfl ?_
            | refine xvalP (pv_pick rfl rfl) rfl rfl ?_
            | refine xvalP (pv_len UndC.h rfl rfl) rfl rfl ?_
            | refine xvalP (pv_lenS UndC.h rfl) rfl rfl ?_
            | refine xvalP (pv_lenRb UndC.h rfl) rfl rfl ?_
            | refine xvalP (pv_lenV UndC.h rfl) rfl rfl ?_
            | refine xvalP (pv_not rfl) rfl rfl ?_
            | refine xvalP (pv_nilCheck rfl) rfl rfl ?_
            | refine xvalP (pv_nilCheckE rfl) rfl rfl ?_
            | refine xvalP (pv_nilCheckF rfl) rfl rfl ?_
            | refine xvalP (pv_extract rfl rfl) rfl rfl ?_
            | refine xvalP (qv_field FldC.h rfl rfl) rfl rfl ?_
            | refine xvalP (pv_indexAddr UndC.h ShpC.h rfl rfl rfl (map_at (by assumption))) rfl rfl ?_
            | refine xvalP (pv_indexAddrB UndC.h ShpC.h rfl rfl (Int.toNat_of_nonneg (by decide)).symm (by decide)) rfl rfl ?_
            | refine xvalP (pv_indexAddrE UndC.h ShpC.h rfl rfl (Int.toNat_of_nonneg (by decide)).symm (by decide)) rfl rfl ?_
            | refine xvalP (pv_eqB UndC.h rfl rfl) rfl rfl ?_
            | refine xvalP (pv_neB UndC.h rfl rfl) rfl rfl ?_
            | refine xvalP (pv_convI UndC.h UndC.h rfl) rfl rfl ?_
            | refine xvalP (pv_buildC StrC.h rfl rfl) rfl rfl ?_
            | refine xalloc InfC.h rfl rfl fun _ => ?_
            | refine xbuildSliceC UndC.h InfC.h rfl rfl rfl rfl rfl rfl fun _ => ?_
            | refine xvalP (pv_makeFuncC rfl) rfl rfl ?_
            | refine xbox rfl rfl rfl rfl fun _ => ?_
            | refine xstore 0 ShpC.h rfl rfl rfl rfl rfl rfl rfl ?_
            | refine xstore 1 ShpC.h rfl rfl rfl rfl rfl rfl rfl ?_
            | refine xstore 2 ShpC.h rfl rfl rfl rfl rfl rfl rfl ?_
            | refine xstore 3 ShpC.h rfl rfl rfl rfl rfl rfl rfl ?_
            | refine xstore 4 ShpC.h rfl rfl rfl rfl rfl rfl rfl ?_
            | refine xskip rfl rfl ?_
            | refine xskip0 rfl ?_
            | refine xcondT rfl ?_
            | refine xcondF rfl ?_
            | refine xskipc ?_
            | refine xexit ?_
            | refine xretc ?_
            | refine xin_normal ?_
            | refine xin_ret ?_
            | refine xthen_exit ?_
            | refine xthen_ret ?_
            | refine xin_same rfl ?_
            | refine xin_other rfl ?_
        exact xret1 hg rfl rfl (.eq (by rw [decide_eq_false hne]; rfl)) (SubM.none _ _) ⟨rfl, rfl, rfl⟩
      · have hxy := u8_cast_inj.1 h3
        repeat
          first
          | refine xseq ?_
          | first
            | refine xregion ?_
            | refine xvalP (pv_move rfl) rfl rfl ?_
            | refine xvalP (pv_assign rfl) rfl rfl ?_
            | refine xvalP (pv_add1 rfl rfl (by omega)) rfl rfl ?_
            | refine xvalP (pv_sub1 rfl rfl (by omega)) rfl rfl ?_
            | refine xvalP (pv_bin2 rfl rfl rfl) rfl rfl ?_
            | refine xnil ?_
            | refine xthen ?_
            | refine xblock ?_
            | refine xval (qv_load ShpC.h rfl rfl rfl) rfl rfl ?_
            | refine xvalP (qv_fieldAddrB FldC.h rfl) rfl rfl ?_
            | refine xvalP (qv_fieldAddrE FldC.h rfl) rfl rfl ?_
            | refine xval (qv_loadB 0 ShpC.h rfl rfl rfl rfl) rfl rfl ?_
            | refine xval (qv_loadB 1 ShpC.h rfl rfl rfl rfl) rfl rfl ?_
            | refine xval (qv_loadB 2 ShpC.h rfl rfl rfl rfl) rfl rfl ?_
            | refine xval (qv_loadB 3 ShpC.h rfl rfl rfl rfl) rfl rfl ?_
            | refine xval (qv_loadB 4 ShpC.h rfl rfl rfl rfl) rfl rfl ?_
            | refine xvalP (pv_pick rfl rfl) rfl rfl ?_
            | refine xvalP (pv_len UndC.h rfl rfl) rfl rfl ?_
            | refine xvalP (pv_lenS UndC.h rfl) rfl rfl ?_
            | refine xvalP (pv_lenRb UndC.h rfl) rfl rfl ?_
            | refine xvalP (pv_lenV UndC.h rfl) rfl rfl ?_
            | refine xvalP (pv_not rfl) rfl rfl ?_
            | refine xvalP (pv_nilCheck rfl) rfl rfl ?_
            | refine xvalP (pv_nilCheckE rfl) rfl rfl ?_
            | refine xvalP (pv_nilCheckF rfl) rfl rfl ?_
            | refine xvalP (pv_extract rfl rfl) rfl rfl ?_
            | refine xvalP (qv_field FldC.h rfl rfl) rfl rfl ?_
            | refine xvalP (pv_indexAddr UndC.h ShpC.h rfl rfl rfl (map_at (by assumption))) rfl rfl ?_
            | refine xvalP (pv_indexAddrB UndC.h ShpC.h rfl rfl (Int.toNat_of_nonneg (by decide)).symm (by decide)) rfl rfl ?_
            | refine xvalP (pv_indexAddrE UndC.h ShpC.h rfl rfl (Int.toNat_of_nonneg (by decide)).symm (by decide)) rfl rfl ?_
            | refine xvalP (pv_eqB UndC.h rfl rfl) rfl rfl ?_
            | refine xvalP (pv_neB UndC.h rfl rfl) rfl rfl ?_
            | refine xvalP (pv_convI UndC.h UndC.h rfl) rfl rfl ?_
            | refine xvalP (pv_buildC StrC.h rfl rfl) rfl rfl ?_
            | refine xalloc InfC.h rfl rfl fun _ => ?_
            | refine xbuildSliceC UndC.h InfC.h rfl rfl rfl rfl rfl rfl fun _ => ?_
            | refine xvalP (pv_makeFuncC rfl) rfl rfl ?_
            | refine xbox rfl rfl rfl rfl fun _ => ?_
            | refine xstore 0 ShpC.h rfl rfl rfl rfl rfl rfl rfl ?_
            | refine xstore 1 ShpC.h rfl rfl rfl rfl rfl rfl rfl ?_
            | refine xstore 2 ShpC.h rfl rfl rfl rfl rfl rfl rfl ?_
            | refine xstore 3 ShpC.h rfl rfl rfl rfl rfl rfl rfl ?_
            | refine xstore 4 ShpC.h rfl rfl rfl rfl rfl rfl rfl ?_
            | refine xskip rfl rfl ?_
            | refine xskip0 rfl ?_
            | refine xcondT rfl ?_
            | refine xcondF rfl ?_
            | refine xskipc ?_
            | refine xexit ?_
            | refine xretc ?_
            | refine xin_normal ?_
            | refine xin_ret ?_
            | refine xthen_exit ?_
            | refine xthen_ret ?_
            | refine xin_same rfl ?_
            | refine xin_other rfl ?_
        refine xagain ⟨k + 1, hk1, rfl, by rw [List.take_add_one, List.take_add_one, heq, hx, hy, hxy], rfl⟩ (by omega) ⟨by (repeat (first | exact ImpT.nil _ | refine ImpT.cons rfl (by first | with_reducible exact Wk.refl _ | exact Wk.nil_own _ | exact Wk.nil_pl _ | with_reducible exact Wk.tok _ _ _ | exact Wk.tok _ _ _ | exact Wk.eq (by first | rfl | (simp []; done) | (simp []; omega))) ?_)), (SubM.of (by repeat (first | with_reducible exact SubB.refl _ | exact SubB.nil _ | refine SubB.keep rfl rfl (by first | with_reducible exact WkL.refl _ | ((repeat (first | exact WkL.nil | refine WkL.cons (by first | with_reducible exact Wk.refl _ | exact Wk.nil_own _ | exact Wk.nil_pl _ | with_reducible exact Wk.tok _ _ _ | exact Wk.tok _ _ _ | exact Wk.eq (by first | rfl | (simp []; done) | (simp []; omega))) ?_)); done) | exact WkL.refl _) ?_ | refine SubB.drop ?_)) (by repeat (first | exact SubT.nil _ | refine SubT.add ?_ | (refine SubT.keep ?_ ?_; focus (first | with_reducible rfl | (simp []; done))) | refine SubT.drop ?_)))⟩
    · obtain rfl : k = xs.length := by have : ¬ (k : Int) < (xs.length : Int) := by simpa using h2
                                       omega
      have he : xs = ys := by rw [List.take_length, List.take_of_length_le (by omega)] at heq; exact heq
      repeat
        first
        | refine xseq ?_
        | first
          | refine xregion ?_
          | refine xvalP (pv_move rfl) rfl rfl ?_
          | refine xvalP (pv_assign rfl) rfl rfl ?_
          | refine xvalP (pv_add1 rfl rfl (by omega)) rfl rfl ?_
          | refine xvalP (pv_sub1 rfl rfl (by omega)) rfl rfl ?_
          | refine xvalP (pv_bin2 rfl rfl rfl) rfl rfl ?_
          | refine xnil ?_
          | refine xthen ?_
          | refine xblock ?_
          | refine xval (qv_load ShpC.h rfl rfl rfl) rfl rfl ?_
          | refine xvalP (qv_fieldAddrB FldC.h rfl) rfl rfl ?_
          | refine xvalP (qv_fieldAddrE FldC.h rfl) rfl rfl ?_
          | refine xval (qv_loadB 0 ShpC.h rfl rfl rfl rfl) rfl rfl ?_
          | refine xval (qv_loadB 1 ShpC.h rfl rfl rfl rfl) rfl rfl ?_
          | refine xval (qv_loadB 2 ShpC.h rfl rfl rfl rfl) rfl rfl ?_
          | refine xval (qv_loadB 3 ShpC.h rfl rfl rfl rfl) rfl rfl ?_
          | refine xval (qv_loadB 4 ShpC.h rfl rfl rfl rfl) rfl rfl ?_
          | refine xvalP (pv_pick rfl rfl) rfl rfl ?_
          | refine xvalP (pv_len UndC.h rfl rfl) rfl rfl ?_
          | refine xvalP (pv_lenS UndC.h rfl) rfl rfl ?_
          | refine xvalP (pv_lenRb UndC.h rfl) rfl rfl ?_
          | refine xvalP (pv_lenV UndC.h rfl) rfl rfl ?_
          | refine xvalP (pv_not rfl) rfl rfl ?_
          | refine xvalP (pv_nilCheck rfl) rfl rfl ?_
          | refine xvalP (pv_nilCheckE rfl) rfl rfl ?_
          | refine xvalP (pv_nilCheckF rfl) rfl rfl ?_
          | refine xvalP (pv_extract rfl rfl) rfl rfl ?_
          | refine xvalP (qv_field FldC.h rfl rfl) rfl rfl ?_
          | refine xvalP (pv_indexAddr UndC.h ShpC.h rfl rfl rfl (map_at (by assumption))) rfl rfl ?_
          | refine xvalP (pv_indexAddrB UndC.h ShpC.h rfl rfl (Int.toNat_of_nonneg (by decide)).symm (by decide)) rfl rfl ?_
          | refine xvalP (pv_indexAddrE UndC.h ShpC.h rfl rfl (Int.toNat_of_nonneg (by decide)).symm (by decide)) rfl rfl ?_
          | refine xvalP (pv_eqB UndC.h rfl rfl) rfl rfl ?_
          | refine xvalP (pv_neB UndC.h rfl rfl) rfl rfl ?_
          | refine xvalP (pv_convI UndC.h UndC.h rfl) rfl rfl ?_
          | refine xvalP (pv_buildC StrC.h rfl rfl) rfl rfl ?_
          | refine xalloc InfC.h rfl rfl fun _ => ?_
          | refine xbuildSliceC UndC.h InfC.h rfl rfl rfl rfl rfl rfl fun _ => ?_
          | refine xvalP (pv_makeFuncC rfl) rfl rfl ?_
          | refine xbox rfl rfl rfl rfl fun _ => ?_
          | refine xstore 0 ShpC.h rfl rfl rfl rfl rfl rfl rfl ?_
          | refine xstore 1 ShpC.h rfl rfl rfl rfl rfl rfl rfl ?_
          | refine xstore 2 ShpC.h rfl rfl rfl rfl rfl rfl rfl ?_
          | refine xstore 3 ShpC.h rfl rfl rfl rfl rfl rfl rfl ?_
          | refine xstore 4 ShpC.h rfl rfl rfl rfl rfl rfl rfl ?_
          | refine xskip rfl rfl ?_
          | refine xskip0 rfl ?_
          | refine xcondT rfl ?_
          | refine xcondF rfl ?_
          | refine xskipc ?_
          | refine xexit ?_
          | refine xretc ?_
          | refine xin_normal ?_
          | refine xin_ret ?_
          | refine xthen_exit ?_
          | refine xthen_ret ?_
          | refine xin_same rfl ?_
          | refine xin_other rfl ?_
      exact xret1 hg rfl rfl (.eq (by rw [decide_eq_true he]; rfl)) (SubM.none _ _) ⟨rfl, rfl, rfl⟩

theorem part_eq {p q : PartT} : p = q ↔ p.1 = q.1 ∧ p.2.1 = q.2.1 ∧ p.2.2 = q.2.2 := by
  obtain ⟨a, b, c⟩ := p; obtain ⟨a', b', c'⟩ := q; simp
set_option maxHeartbeats 1000000 in
theorem eqP_any (p q : PartT) (hl : p.2.2.length ≤ 1000000000) : Con Try.prog 26 [.agg (encP p), .agg (encP q)] [] [] (Ret (.v (.bool (decide (p = q))))) := by
  refine xenter Try.func26 rfl rfl fun g hg => ?_
  simp only [Try.ntmps26, slots]
  repeat
    first
    | refine xseq ?_
    | first
      | refine xregion ?_
      | refine xvalP (pv_move rfl) rfl rfl ?_
      | refine xvalP (pv_assign rfl) rfl rfl ?_
      | refine xvalP (pv_add1 rfl rfl (by omega)) rfl rfl ?_
      | refine xvalP (pv_sub1 rfl rfl (by omega)) rfl rfl ?_
      | refine xvalP (pv_bin2 rfl rfl rfl) rfl rfl ?_
      | refine xnil ?_
      | refine xthen ?_
      | refine xblock ?_
      | refine xval (qv_load ShpC.h rfl rfl rfl) rfl rfl ?_
      | refine xvalP (qv_fieldAddrB FldC.h rfl) rfl rfl ?_
      | refine xvalP (qv_fieldAddrE FldC.h rfl) rfl rfl ?_
      | refine xval (qv_loadB 0 ShpC.h rfl rfl rfl rfl) rfl rfl ?_
      | refine xval (qv_loadB 1 ShpC.h rfl rfl rfl rfl) rfl rfl ?_
      | refine xval (qv_loadB 2 ShpC.h rfl rfl rfl rfl) rfl rfl ?_
      | refine xval (qv_loadB 3 ShpC.h rfl rfl rfl rfl) rfl rfl ?_
      | refine xval (qv_loadB 4 ShpC.h rfl rfl rfl rfl) rfl rfl ?_
      | refine xvalP (pv_pick rfl rfl) rfl rfl ?_
      | refine xvalP (pv_len UndC.h rfl rfl) rfl rfl ?_
      | refine xvalP (pv_lenS UndC.h rfl) rfl rfl ?_
      | refine xvalP (pv_lenRb UndC.h rfl) rfl rfl ?_
      | refine xvalP (pv_lenV UndC.h rfl) rfl rfl ?_
      | refine xvalP (pv_not rfl) rfl rfl ?_
      | refine xvalP (pv_nilCheck rfl) rfl rfl ?_
      | refine xvalP (pv_nilCheckE rfl) rfl rfl ?_
      | refine xvalP (pv_nilCheckF rfl) rfl rfl ?_
      | refine xvalP (pv_extract rfl rfl) rfl rfl ?_
      | refine xvalP (qv_field FldC.h rfl rfl) rfl rfl ?_
      | refine xvalP (pv_indexAddr UndC.h ShpC.h rfl rfl rfl (map_at (by assumption))) rfl rfl ?_
      | refine xvalP (pv_indexAddrB UndC.h ShpC.h rfl rfl (Int.toNat_of_nonneg (by decide)).symm (by decide)) rfl rfl ?_
      | refine xvalP (pv_indexAddrE UndC.h ShpC.h rfl rfl (Int.toNat_of_nonneg (by decide)).symm (by decide)) rfl rfl ?_
      | refine xvalP (pv_eqB UndC.h rfl rfl) rfl rfl ?_
      | refine xvalP (pv_neB UndC.h rfl rfl) rfl rfl ?_
      | refine xvalP (pv_convI UndC.h UndC.h rfl) rfl rfl ?_
      | refine xvalP (pv_buildC StrC.h rfl rfl) rfl rfl ?_
      | refine xalloc InfC.h rfl rfl fun _ => ?_
      | refine xbuildSliceC UndC.h InfC.h rfl rfl rfl rfl rfl rfl fun _ => ?_
      | refine xvalP (pv_makeFuncC rfl) rfl rfl ?_
      | refine xbox rfl rfl rfl rfl fun _ => ?_
      | refine xstore 0 ShpC.h rfl rfl rfl rfl rfl rfl rfl ?_
      | refine xstore 1 ShpC.h rfl rfl rfl rfl rfl rfl rfl ?_
      | refine xstore 2 ShpC.h rfl rfl rfl rfl rfl rfl rfl ?_
      | refine xstore 3 ShpC.h rfl rfl rfl rfl rfl rfl rfl ?_
      | refine xstore 4 ShpC.h rfl rfl rfl rfl rfl rfl rfl ?_
      | refine xskip rfl rfl ?_
      | refine xskip0 rfl ?_
      | refine xcondT rfl ?_
      | refine xcondF rfl ?_
      | refine xskipc ?_
      | refine xexit ?_
      | refine xretc ?_
      | refine xin_normal ?_
      | refine xin_ret ?_
      | refine xthen_exit ?_
      | refine xthen_ret ?_
      | refine xin_same rfl ?_
      | refine xin_other rfl ?_
  refine xguardD rfl rfl (fun h1 => ?_) (fun h1 => ?_)
  · repeat
      first
      | refine xseq ?_
      | first
        | refine xregion ?_
        | refine xvalP (pv_move rfl) rfl rfl ?_
        | refine xvalP (pv_assign rfl) rfl rfl ?_
        | refine xvalP (pv_add1 rfl rfl (by omega)) rfl rfl ?_
        | refine xvalP (pv_sub1 rfl rfl (by omega)) rfl rfl ?_
        | refine xvalP (pv_bin2 rfl rfl rfl) rfl rfl ?_
        | refine xnil ?_
        | refine xthen ?_
        | refine xblock ?_
        | refine xval (qv_load ShpC.h rfl rfl rfl) rfl rfl ?_
        | refine xvalP (qv_fieldAddrB FldC.h rfl) rfl rfl ?_
        | refine xvalP (qv_fieldAddrE FldC.h rfl) rfl rfl ?_
        | refine xval (qv_loadB 0 ShpC.h rfl rfl rfl rfl) rfl rfl ?_
        | refine xval (qv_loadB 1 ShpC.h rfl rfl rfl rfl) rfl rfl ?_
        | refine xval (qv_loadB 2 ShpC.h rfl rfl rfl rfl) rfl rfl ?_
        | refine xval (qv_loadB 3 ShpC.h rfl rfl rfl rfl) rfl rfl ?_
        | refine xval (qv_loadB 4 ShpC.h rfl rfl rfl rfl) rfl rfl ?_
        | refine xvalP (pv_pick rfl rfl) rfl rfl ?_
        | refine xvalP (pv_len UndC.h rfl rfl) rfl rfl ?_
        | refine xvalP (pv_lenS UndC.h rfl) rfl rfl ?_
        | refine xvalP (pv_lenRb UndC.h rfl) rfl rfl ?_
        | refine xvalP (pv_lenV UndC.h rfl) rfl rfl ?_
        | refine xvalP (pv_not rfl) rfl rfl ?_
        | refine xvalP (pv_nilCheck rfl) rfl rfl ?_
        | refine xvalP (pv_nilCheckE rfl) rfl rfl ?_
        | refine xvalP (pv_nilCheckF rfl) rfl rfl ?_
        | refine xvalP (pv_extract rfl rfl) rfl rfl ?_
        | refine xvalP (qv_field FldC.h rfl rfl) rfl rfl ?_
        | refine xvalP (pv_indexAddr UndC.h ShpC.h rfl rfl rfl (map_at (by assumption))) rfl rfl ?_
        | refine xvalP (pv_indexAddrB UndC.h ShpC.h rfl rfl (Int.toNat_of_nonneg (by decide)).symm (by decide)) rfl rfl ?_
        | refine xvalP (pv_indexAddrE UndC.h ShpC.h rfl rfl (Int.toNat_of_nonneg (by decide)).symm (by decide)) rfl rfl ?_
        | refine xvalP (pv_eqB UndC.h rfl rfl) rfl rfl ?_
        | refine xvalP (pv_neB UndC.h rfl rfl) rfl rfl ?_
        | refine xvalP (pv_convI UndC.h UndC.h rfl) rfl rfl ?_
        | refine xvalP (pv_buildC StrC.h rfl rfl) rfl rfl ?_
        | refine xalloc InfC.h rfl rfl fun _ => ?_
        | refine xbuildSliceC UndC.h InfC.h rfl rfl rfl rfl rfl rfl fun _ => ?_
        | refine xvalP (pv_makeFuncC rfl) rfl rfl ?_
        | refine xbox rfl rfl rfl rfl fun _ => ?_
        | refine xstore 0 ShpC.h rfl rfl rfl rfl rfl rfl rfl ?_
        | refine xstore 1 ShpC.h rfl rfl rfl rfl rfl rfl rfl ?_
        | refine xstore 2 ShpC.h rfl rfl rfl rfl rfl rfl rfl ?_
        | refine xstore 3 ShpC.h rfl rfl rfl rfl rfl rfl rfl ?_
        | refine xstore 4 ShpC.h rfl rfl rfl rfl rfl rfl rfl ?_
        | refine xskip rfl rfl ?_
        | refine xskip0 rfl ?_
        | refine xcondT rfl ?_
        | refine xcondF rfl ?_
        | refine xskipc ?_
        | refine xexit ?_
        | refine xretc ?_
        | refine xin_normal ?_
        | refine xin_ret ?_
        | refine xthen_exit ?_
        | refine xthen_ret ?_
        | refine xin_same rfl ?_
        | refine xin_other rfl ?_
    refine xguardD rfl rfl (fun h2 => ?_) (fun h2 => ?_)
    · repeat
        first
        | refine xseq ?_
        | first
          | refine xregion ?_
          | refine xvalP (pv_move rfl) rfl rfl ?_
          | refine xvalP (pv_assign rfl) rfl rfl ?_
          | refine xvalP (pv_add1 rfl rfl (by omega)) rfl rfl ?_
          | refine xvalP (pv_sub1 rfl rfl (by omega)) rfl rfl ?_
          | refine xvalP (pv_bin2 rfl rfl rfl) rfl rfl ?_
          | refine xnil ?_
          | refine xthen ?_
          | refine xblock ?_
          | refine xval (qv_load ShpC.h rfl rfl rfl) rfl rfl ?_
          | refine xvalP (qv_fieldAddrB FldC.h rfl) rfl rfl ?_
          | refine xvalP (qv_fieldAddrE FldC.h rfl) rfl rfl ?_
          | refine xval (qv_loadB 0 ShpC.h rfl rfl rfl rfl) rfl rfl ?_
          | refine xval (qv_loadB 1 ShpC.h rfl rfl rfl rfl) rfl rfl ?_
          | refine xval (qv_loadB 2 ShpC.h rfl rfl rfl rfl) rfl rfl ?_
          | refine xval (qv_loadB 3 ShpC.h rfl rfl rfl rfl) rfl rfl ?_
          | refine xval (qv_loadB 4 ShpC.h rfl rfl rfl rfl) rfl rfl ?_
          | refine xvalP (pv_pick rfl rfl) rfl rfl ?_
          | refine xvalP (pv_len UndC.h rfl rfl) rfl rfl ?_
          | refine xvalP (pv_lenS UndC.h rfl) rfl rfl ?_
          | refine xvalP (pv_lenRb UndC.h rfl) rfl rfl ?_
          | refine xvalP (pv_lenV UndC.h rfl) rfl rfl ?_
          | refine xvalP (pv_not rfl) rfl rfl ?_
          | refine xvalP (pv_nilCheck rfl) rfl rfl ?_
          | refine xvalP (pv_nilCheckE rfl) rfl rfl ?_
          | refine xvalP (pv_nilCheckF rfl) rfl rfl ?_
          | refine xvalP (pv_extract rfl rfl) rfl rfl ?_
          | refine xvalP (qv_field FldC.h rfl rfl) rfl rfl ?_
          | refine xvalP (pv_indexAddr UndC.h ShpC.h rfl rfl rfl (map_at (by assumption))) rfl rfl ?_
          | refine xvalP (pv_indexAddrB UndC.h ShpC.h rfl rfl (Int.toNat_of_nonneg (by decide)).symm (by decide)) rfl rfl ?_
          | refine xvalP (pv_indexAddrE UndC.h ShpC.h rfl rfl (Int.toNat_of_nonneg (by decide)).symm (by decide)) rfl rfl ?_
          | refine xvalP (pv_eqB UndC.h rfl rfl) rfl rfl ?_
          | refine xvalP (pv_neB UndC.h rfl rfl) rfl rfl ?_
          | refine xvalP (pv_convI UndC.h UndC.h rfl) rfl rfl ?_
          | refine xvalP (pv_buildC StrC.h rfl rfl) rfl rfl ?_
          | refine xalloc InfC.h rfl rfl fun _ => ?_
          | refine xbuildSliceC UndC.h InfC.h rfl rfl rfl rfl rfl rfl fun _ => ?_
          | refine xvalP (pv_makeFuncC rfl) rfl rfl ?_
          | refine xbox rfl rfl rfl rfl fun _ => ?_
          | refine xstore 0 ShpC.h rfl rfl rfl rfl rfl rfl rfl ?_
          | refine xstore 1 ShpC.h rfl rfl rfl rfl rfl rfl rfl ?_
          | refine xstore 2 ShpC.h rfl rfl rfl rfl rfl rfl rfl ?_
          | refine xstore 3 ShpC.h rfl rfl rfl rfl rfl rfl rfl ?_
          | refine xstore 4 ShpC.h rfl rfl rfl rfl rfl rfl rfl ?_
          | refine xskip rfl rfl ?_
          | refine xskip0 rfl ?_
          | refine xcondT rfl ?_
          | refine xcondF rfl ?_
          | refine xskipc ?_
          | refine xexit ?_
          | refine xretc ?_
          | refine xin_normal ?_
          | refine xin_ret ?_
          | refine xthen_exit ?_
          | refine xthen_ret ?_
          | refine xin_same rfl ?_
          | refine xin_other rfl ?_
      refine xcall0 (equal_any p.2.2 q.2.2 hl) Try.func27 (by kernel_rfl) rfl (by repeat (first | exact EvL.nil | refine EvL.cons rfl (by first | with_reducible exact Wk.refl _ | exact Wk.nil_pl _ | with_reducible exact Wk.tok _ _ _ | exact Wk.eq rfl) ?_)) rfl rfl ?_
      repeat
        first
        | refine xseq ?_
        | first
          | refine xregion ?_
          | refine xvalP (pv_move rfl) rfl rfl ?_
          | refine xvalP (pv_assign rfl) rfl rfl ?_
          | refine xvalP (pv_add1 rfl rfl (by omega)) rfl rfl ?_
          | refine xvalP (pv_sub1 rfl rfl (by omega)) rfl rfl ?_
          | refine xvalP (pv_bin2 rfl rfl rfl) rfl rfl ?_
          | refine xnil ?_
          | refine xthen ?_
          | refine xblock ?_
          | refine xval (qv_load ShpC.h rfl rfl rfl) rfl rfl ?_
          | refine xvalP (qv_fieldAddrB FldC.h rfl) rfl rfl ?_
          | refine xvalP (qv_fieldAddrE FldC.h rfl) rfl rfl ?_
          | refine xval (qv_loadB 0 ShpC.h rfl rfl rfl rfl) rfl rfl ?_
          | refine xval (qv_loadB 1 ShpC.h rfl rfl rfl rfl) rfl rfl ?_
          | refine xval (qv_loadB 2 ShpC.h rfl rfl rfl rfl) rfl rfl ?_
          | refine xval (qv_loadB 3 ShpC.h rfl rfl rfl rfl) rfl rfl ?_
          | refine xval (qv_loadB 4 ShpC.h rfl rfl rfl rfl) rfl rfl ?_
          | refine xvalP (pv_pick rfl rfl) rfl rfl ?_
          | refine xvalP (pv_len UndC.h rfl rfl) rfl rfl ?_
          | refine xvalP (pv_lenS UndC.h rfl) rfl rfl ?_
          | refine xvalP (pv_lenRb UndC.h rfl) rfl rfl ?_
          | refine xvalP (pv_lenV UndC.h rfl) rfl rfl ?_
          | refine xvalP (pv_not rfl) rfl rfl ?_
          | refine xvalP (pv_nilCheck rfl) rfl rfl ?_
          | refine xvalP (pv_nilCheckE rfl) rfl rfl ?_
          | refine xvalP (pv_nilCheckF rfl) rfl rfl ?_
          | refine xvalP (pv_extract rfl rfl) rfl rfl ?_
          | refine xvalP (qv_field FldC.h rfl rfl) rfl rfl ?_
          | refine xvalP (pv_indexAddr UndC.h ShpC.h rfl rfl rfl (map_at (by assumption))) rfl rfl ?_
          | refine xvalP (pv_indexAddrB UndC.h ShpC.h rfl rfl (Int.toNat_of_nonneg (by decide)).symm (by decide)) rfl rfl ?_
          | refine xvalP (pv_indexAddrE UndC.h ShpC.h rfl rfl (Int.toNat_of_nonneg (by decide)).symm (by decide)) rfl rfl ?_
          | refine xvalP (pv_eqB UndC.h rfl rfl) rfl rfl ?_
          | refine xvalP (pv_neB UndC.h rfl rfl) rfl rfl ?_
          | refine xvalP (pv_convI UndC.h UndC.h rfl) rfl rfl ?_
          | refine xvalP (pv_buildC StrC.h rfl rfl) rfl rfl ?_
          | refine xalloc InfC.h rfl rfl fun _ => ?_
          | refine xbuildSliceC UndC.h InfC.h rfl rfl rfl rfl rfl rfl fun _ => ?_
          | refine xvalP (pv_makeFuncC rfl) rfl rfl ?_
          | refine xbox rfl rfl rfl rfl fun _ => ?_
          | refine xstore 0 ShpC.h rfl rfl rfl rfl rfl rfl rfl ?_
          | refine xstore 1 ShpC.h rfl rfl rfl rfl rfl rfl rfl ?_
          | refine xstore 2 ShpC.h rfl rfl rfl rfl rfl rfl rfl ?_
          | refine xstore 3 ShpC.h rfl rfl rfl rfl rfl rfl rfl ?_
          | refine xstore 4 ShpC.h rfl rfl rfl rfl rfl rfl rfl ?_
          | refine xskip rfl rfl ?_
          | refine xskip0 rfl ?_
          | refine xcondT rfl ?_
          | refine xcondF rfl ?_
          | refine xskipc ?_
          | refine xexit ?_
          | refine xretc ?_
          | refine xin_normal ?_
          | refine xin_ret ?_
          | refine xthen_exit ?_
          | refine xthen_ret ?_
          | refine xin_same rfl ?_
          | refine xin_other rfl ?_
      exact xret1 hg rfl rfl (.eq (by congr 2; rw [decide_eq_decide, part_eq]; simp [h1, h2])) (SubM.none _ _) ⟨rfl, rfl, rfl⟩
    · repeat
        first
        | refine xseq ?_
        | first
          | refine xregion ?_
          | refine xvalP (pv_move rfl) rfl rfl ?_
          | refine xvalP (pv_assign rfl) rfl rfl ?_
          | refine xvalP (pv_add1 rfl rfl (by omega)) rfl rfl ?_
          | refine xvalP (pv_sub1 rfl rfl (by omega)) rfl rfl ?_
          | refine xvalP (pv_bin2 rfl rfl rfl) rfl rfl ?_
          | refine xnil ?_
          | refine xthen ?_
          | refine xblock ?_
          | refine xval (qv_load ShpC.h rfl rfl rfl) rfl rfl ?_
          | refine xvalP (qv_fieldAddrB FldC.h rfl) rfl rfl ?_
          | refine xvalP (qv_fieldAddrE FldC.h rfl) rfl rfl ?_
          | refine xval (qv_loadB 0 ShpC.h rfl rfl rfl rfl) rfl rfl ?_
          | refine xval (qv_loadB 1 ShpC.h rfl rfl rfl rfl) rfl rfl ?_
          | refine xval (qv_loadB 2 ShpC.h rfl rfl rfl rfl) rfl rfl ?_
          | refine xval (qv_loadB 3 ShpC.h rfl rfl rfl rfl) rfl rfl ?_
          | refine xval (qv_loadB 4 ShpC.h rfl rfl rfl rfl) rfl rfl ?_
          | refine xvalP (pv_pick rfl rfl) rfl rfl ?_
          | refine xvalP (pv_len UndC.h rfl rfl) rfl rfl ?_
          | refine xvalP (pv_lenS UndC.h rfl) rfl rfl ?_
          | refine xvalP (pv_lenRb UndC.h rfl) rfl rfl ?_
          | refine xvalP (pv_lenV UndC.h rfl) rfl rfl ?_
          | refine xvalP (pv_not rfl) rfl rfl ?_
          | refine xvalP (pv_nilCheck rfl) rfl rfl ?_
          | refine xvalP (pv_nilCheckE rfl) rfl rfl ?_
          | refine xvalP (pv_nilCheckF rfl) rfl rfl ?_
          | refine xvalP (pv_extract rfl rfl) rfl rfl ?_
          | refine xvalP (qv_field FldC.h rfl rfl) rfl rfl ?_
          | refine xvalP (pv_indexAddr UndC.h ShpC.h rfl rfl rfl (map_at (by assumption))) rfl rfl ?_
          | refine xvalP (pv_indexAddrB UndC.h ShpC.h rfl rfl (Int.toNat_of_nonneg (by decide)).symm (by decide)) rfl rfl ?_
          | refine xvalP (pv_indexAddrE UndC.h ShpC.h rfl rfl (Int.toNat_of_nonneg (by decide)).symm (by decide)) rfl rfl ?_
          | refine xvalP (pv_eqB UndC.h rfl rfl) rfl rfl ?_
          | refine xvalP (pv_neB UndC.h rfl rfl) rfl rfl ?_
          | refine xvalP (pv_convI UndC.h UndC.h rfl) rfl rfl ?_
          | refine xvalP (pv_buildC StrC.h rfl rfl) rfl rfl ?_
          | refine xalloc InfC.h rfl rfl fun _ => ?_
          | refine xbuildSliceC UndC.h InfC.h rfl rfl rfl rfl rfl rfl fun _ => ?_
          | refine xvalP (pv_makeFuncC rfl) rfl rfl ?_
          | refine xbox rfl rfl rfl rfl fun _ => ?_
          | refine xstore 0 ShpC.h rfl rfl rfl rfl rfl rfl rfl ?_
          | refine xstore 1 ShpC.h rfl rfl rfl rfl rfl rfl rfl ?_
          | refine xstore 2 ShpC.h rfl rfl rfl rfl rfl rfl rfl ?_
          | refine xstore 3 ShpC.h rfl rfl rfl rfl rfl rfl rfl ?_
          | refine xstore 4 ShpC.h rfl rfl rfl rfl rfl rfl rfl ?_
          | refine xskip rfl rfl ?_
          | refine xskip0 rfl ?_
          | refine xcondT rfl ?_
          | refine xcondF rfl ?_
          | refine xskipc ?_
          | refine xexit ?_
          | refine xretc ?_
          | refine xin_normal ?_
          | refine xin_ret ?_
          | refine xthen_exit ?_
          | refine xthen_ret ?_
          | refine xin_same rfl ?_
          | refine xin_other rfl ?_
      exact xret1 hg rfl rfl (.eq (by rw [decide_eq_false fun e => h2 (part_eq.1 e).2.1]; rfl)) (SubM.none _ _) ⟨rfl, rfl, rfl⟩
  · repeat
      first
      | refine xseq ?_
      | first
        | refine xregion ?_
        | refine xvalP (pv_move rfl) rfl rfl ?_
        | refine xvalP (pv_assign rfl) rfl rfl ?_
        | refine xvalP (pv_add1 rfl rfl (by omega)) rfl rfl ?_
        | refine xvalP (pv_sub1 rfl rfl (by omega)) rfl rfl ?_
        | refine xvalP (pv_bin2 rfl rfl rfl) rfl rfl ?_
        | refine xnil ?_
        | refine xthen ?_
        | refine xblock ?_
        | refine xval (qv_load ShpC.h rfl rfl rfl) rfl rfl ?_
        | refine xvalP (qv_fieldAddrB FldC.h rfl) rfl rfl ?_
        | refine xvalP (qv_fieldAddrE FldC.h rfl) rfl rfl ?_
        | refine xval (qv_loadB 0 ShpC.h rfl rfl rfl rfl) rfl rfl ?_
        | refine xval (qv_loadB 1 ShpC.h rfl rfl rfl rfl) rfl rfl ?_
        | refine xval (qv_loadB 2 ShpC.h rfl rfl rfl rfl) rfl rfl ?_
        | refine xval (qv_loadB 3 ShpC.h rfl rfl rfl rfl) rfl rfl ?_
        | refine xval (qv_loadB 4 ShpC.h rfl rfl rfl rfl) rfl rfl ?_
        | refine xvalP (pv_pick rfl rfl) rfl rfl ?_
        | refine xvalP (pv_len UndC.h rfl rfl) rfl rfl ?_
        | refine xvalP (pv_lenS UndC.h rfl) rfl rfl ?_
        | refine xvalP (pv_lenRb UndC.h rfl) rfl rfl ?_
        | refine xvalP (pv_lenV UndC.h rfl) rfl rfl ?_
        | refine xvalP (pv_not rfl) rfl rfl ?_
        | refine xvalP (pv_nilCheck rfl) rfl rfl ?_
        | refine xvalP (pv_nilCheckE rfl) rfl rfl ?_
        | refine xvalP (pv_nilCheckF rfl) rfl rfl ?_
        | refine xvalP (pv_extract rfl rfl) rfl rfl ?_
        | refine xvalP (qv_field FldC.h rfl rfl) rfl rfl ?_
        | refine xvalP (pv_indexAddr UndC.h ShpC.h rfl rfl rfl (map_at (by assumption))) rfl rfl ?_
        | refine xvalP (pv_indexAddrB UndC.h ShpC.h rfl rfl (Int.toNat_of_nonneg (by decide)).symm (by decide)) rfl rfl ?_
        | refine xvalP (pv_indexAddrE UndC.h ShpC.h rfl rfl (Int.toNat_of_nonneg (by decide)).symm (by decide)) rfl rfl ?_
        | refine xvalP (pv_eqB UndC.h rfl rfl) rfl rfl ?_
        | refine xvalP (pv_neB UndC.h rfl rfl) rfl rfl ?_
        | refine xvalP (pv_convI UndC.h UndC.h rfl) rfl rfl ?_
        | refine xvalP (pv_buildC StrC.h rfl rfl) rfl rfl ?_
        | refine xalloc InfC.h rfl rfl fun _ => ?_
        | refine xbuildSliceC UndC.h InfC.h rfl rfl rfl rfl rfl rfl fun _ => ?_
        | refine xvalP (pv_makeFuncC rfl) rfl rfl ?_
        | refine xbox rfl rfl rfl rfl fun _ => ?_
        | refine xstore 0 ShpC.h rfl rfl rfl rfl rfl rfl rfl ?_
        | refine xstore 1 ShpC.h rfl rfl rfl rfl rfl rfl rfl ?_
        | refine xstore 2 ShpC.h rfl rfl rfl rfl rfl rfl rfl ?_
        | refine xstore 3 ShpC.h rfl rfl rfl rfl rfl rfl rfl ?_
        | refine xstore 4 ShpC.h rfl rfl rfl rfl rfl rfl rfl ?_
        | refine xskip rfl rfl ?_
        | refine xskip0 rfl ?_
        | refine xcondT rfl ?_
        | refine xcondF rfl ?_
        | refine xskipc ?_
        | refine xexit ?_
        | refine xretc ?_
        | refine xin_normal ?_
        | refine xin_ret ?_
        | refine xthen_exit ?_
        | refine xthen_ret ?_
        | refine xin_same rfl ?_
        | refine xin_other rfl ?_
    exact xret1 hg rfl rfl (.eq (by rw [decide_eq_false fun e => h1 (part_eq.1 e).1]; rfl)) (SubM.none _ _) ⟨rfl, rfl, rfl⟩

def EqFInv (xs ys : List PartT) (σ : St) (m : Nat) : Prop := ∃ k, k ≤ xs.length ∧ m = xs.length - k ∧ xs.take k = ys.take k ∧
  σ = ⟨[(17, .v (.int .i64 (k : Int))), (16, .v (.int .i64 ((xs.map encP).length : Int))), (15, .sl 3 none (xs.map encP)), (1, .sl 3 none (ys.map encP)), (2, .v (.func (.func 26) #[] #[]))], [], []⟩
set_option maxHeartbeats 1000000 in
theorem equalF_any (xs ys : List PartT) (hl : xs.length ≤ 1000000000) (hb : ∀ p ∈ xs, p.2.2.length ≤ 1000000000) :
    Con Try.prog 25 [.sl 3 none (xs.map encP), .sl 3 none (ys.map encP), .v (.func (.func 26) #[] #[])] [] [] (Ret (.v (.bool (decide (xs = ys))))) := by
  refine xenter Try.func25 rfl rfl fun g hg => ?_
  simp only [Try.ntmps25, slots]
  repeat
    first
    | refine xseq ?_
    | first
      | refine xregion ?_
      | refine xvalP (pv_move rfl) rfl rfl ?_
      | refine xvalP (pv_assign rfl) rfl rfl ?_
      | refine xvalP (pv_add1 rfl rfl (by omega)) rfl rfl ?_
      | refine xvalP (pv_sub1 rfl rfl (by omega)) rfl rfl ?_
      | refine xvalP (pv_bin2 rfl rfl rfl) rfl rfl ?_
      | refine xnil ?_
      | refine xthen ?_
      | refine xblock ?_
      | refine xval (qv_load ShpC.h rfl rfl rfl) rfl rfl ?_
      | refine xvalP (qv_fieldAddrB FldC.h rfl) rfl rfl ?_
      | refine xvalP (qv_fieldAddrE FldC.h rfl) rfl rfl ?_
      | refine xval (qv_loadB 0 ShpC.h rfl rfl rfl rfl) rfl rfl ?_
      | refine xval (qv_loadB 1 ShpC.h rfl rfl rfl rfl) rfl rfl ?_
      | refine xval (qv_loadB 2 ShpC.h rfl rfl rfl rfl) rfl rfl ?_
      | refine xval (qv_loadB 3 ShpC.h rfl rfl rfl rfl) rfl rfl ?_
      | refine xval (qv_loadB 4 ShpC.h rfl rfl rfl rfl) rfl rfl ?_
      | refine xvalP (pv_pick rfl rfl) rfl rfl ?_
      | refine xvalP (pv_len UndC.h rfl rfl) rfl rfl ?_
      | refine xvalP (pv_lenS UndC.h rfl) rfl rfl ?_
      | refine xvalP (pv_lenRb UndC.h rfl) rfl rfl ?_
      | refine xvalP (pv_lenV UndC.h rfl) rfl rfl ?_
      | refine xvalP (pv_not rfl) rfl rfl ?_
      | refine xvalP (pv_nilCheck rfl) rfl rfl ?_
      | refine xvalP (pv_nilCheckE rfl) rfl rfl ?_
      | refine xvalP (pv_nilCheckF rfl) rfl rfl ?_
      | refine xvalP (pv_extract rfl rfl) rfl rfl ?_
      | refine xvalP (qv_field FldC.h rfl rfl) rfl rfl ?_
      | refine xvalP (pv_indexAddr UndC.h ShpC.h rfl rfl rfl (map_at (by assumption))) rfl rfl ?_
      | refine xvalP (pv_indexAddrB UndC.h ShpC.h rfl rfl (Int.toNat_of_nonneg (by decide)).symm (by decide)) rfl rfl ?_
      | refine xvalP (pv_indexAddrE UndC.h ShpC.h rfl rfl (Int.toNat_of_nonneg (by decide)).symm (by decide)) rfl rfl ?_
      | refine xvalP (pv_eqB UndC.h rfl rfl) rfl rfl ?_
      | refine xvalP (pv_neB UndC.h rfl rfl) rfl rfl ?_
      | refine xvalP (pv_convI UndC.h UndC.h rfl) rfl rfl ?_
      | refine xvalP (pv_buildC StrC.h rfl rfl) rfl rfl ?_
      | refine xalloc InfC.h rfl rfl fun _ => ?_
      | refine xbuildSliceC UndC.h InfC.h rfl rfl rfl rfl rfl rfl fun _ => ?_
      | refine xvalP (pv_makeFuncC rfl) rfl rfl ?_
      | refine xbox rfl rfl rfl rfl fun _ => ?_
      | refine xstore 0 ShpC.h rfl rfl rfl rfl rfl rfl rfl ?_
      | refine xstore 1 ShpC.h rfl rfl rfl rfl rfl rfl rfl ?_
      | refine xstore 2 ShpC.h rfl rfl rfl rfl rfl rfl rfl ?_
      | refine xstore 3 ShpC.h rfl rfl rfl rfl rfl rfl rfl ?_
      | refine xstore 4 ShpC.h rfl rfl rfl rfl rfl rfl rfl ?_
      | refine xskip rfl rfl ?_
      | refine xskip0 rfl ?_
      | refine xcondT rfl ?_
      | refine xcondF rfl ?_
      | refine xskipc ?_
      | refine xexit ?_
      | refine xretc ?_
      | refine xin_normal ?_
      | refine xin_ret ?_
      | refine xthen_exit ?_
      | refine xthen_ret ?_
      | refine xin_same rfl ?_
      | refine xin_other rfl ?_
  refine xcondN rfl (fun h1 => ?_) (fun h1 => ?_)
  · have hne : xs ≠ ys := fun e => h1 (by rw [e])
    repeat
      first
      | refine xseq ?_
      | first
        | refine xregion ?_
        | refine xvalP (pv_move rfl) rfl rfl ?_
        | refine xvalP (pv_assign rfl) rfl rfl ?_
        | refine xvalP (pv_add1 rfl rfl (by omega)) rfl rfl ?_
        | refine xvalP (pv_sub1 rfl rfl (by omega)) rfl rfl ?_
        | refine xvalP (pv_bin2 rfl rfl rfl) rfl rfl ?_
        | refine xnil ?_
        | refine xthen ?_
        | refine xblock ?_
        | refine xval (qv_load ShpC.h rfl rfl rfl) rfl rfl ?_
        | refine xvalP (qv_fieldAddrB FldC.h rfl) rfl rfl ?_
        | refine xvalP (qv_fieldAddrE FldC.h rfl) rfl rfl ?_
        | refine xval (qv_loadB 0 ShpC.h rfl rfl rfl rfl) rfl rfl ?_
        | refine xval (qv_loadB 1 ShpC.h rfl rfl rfl rfl) rfl rfl ?_
        | refine xval (qv_loadB 2 ShpC.h rfl rfl rfl rfl) rfl rfl ?_
        | refine xval (qv_loadB 3 ShpC.h rfl rfl rfl rfl) rfl rfl ?_
        | refine xval (qv_loadB 4 ShpC.h rfl rfl rfl rfl) rfl rfl ?_
        | refine xvalP (pv_pick rfl rfl) rfl rfl ?_
        | refine xvalP (pv_len UndC.h rfl rfl) rfl rfl ?_
        | refine xvalP (pv_lenS UndC.h rfl) rfl rfl ?_
        | refine xvalP (pv_lenRb UndC.h rfl) rfl rfl ?_
        | refine xvalP (pv_lenV UndC.h rfl) rfl rfl ?_
        | refine xvalP (pv_not rfl) rfl rfl ?_
        | refine xvalP (pv_nilCheck rfl) rfl rfl ?_
        | refine xvalP (pv_nilCheckE rfl) rfl rfl ?_
        | refine xvalP (pv_nilCheckF rfl) rfl rfl ?_
        | refine xvalP (pv_extract rfl rfl) rfl rfl ?_
        | refine xvalP (qv_field FldC.h rfl rfl) rfl rfl ?_
        | refine xvalP (pv_indexAddr UndC.h ShpC.h rfl rfl rfl (map_at (by assumption))) rfl rfl ?_
        | refine xvalP (pv_indexAddrB UndC.h ShpC.h rfl rfl (Int.toNat_of_nonneg (by decide)).symm (by decide)) rfl rfl ?_
        | refine xvalP (pv_indexAddrE UndC.h ShpC.h rfl rfl (Int.toNat_of_nonneg (by decide)).symm (by decide)) rfl rfl ?_
        | refine xvalP (pv_eqB UndC.h rfl rfl) rfl rfl ?_
        | refine xvalP (pv_neB UndC.h rfl rfl) rfl rfl ?_
        | refine xvalP (pv_convI UndC.h UndC.h rfl) rfl rfl ?_
        | refine xvalP (pv_buildC StrC.h rfl rfl) rfl rfl ?_
        | refine xalloc InfC.h rfl rfl fun _ => ?_
        | refine xbuildSliceC UndC.h InfC.h rfl rfl rfl rfl rfl rfl fun _ => ?_
        | refine xvalP (pv_makeFuncC rfl) rfl rfl ?_
        | refine xbox rfl rfl rfl rfl fun _ => ?_
        | refine xstore 0 ShpC.h rfl rfl rfl rfl rfl rfl rfl ?_
        | refine xstore 1 ShpC.h rfl rfl rfl rfl rfl rfl rfl ?_
        | refine xstore 2 ShpC.h rfl rfl rfl rfl rfl rfl rfl ?_
        | refine xstore 3 ShpC.h rfl rfl rfl rfl rfl rfl rfl ?_
        | refine xstore 4 ShpC.h rfl rfl rfl rfl rfl rfl rfl ?_
        | refine xskip rfl rfl ?_
        | refine xskip0 rfl ?_
        | refine xcondT rfl ?_
        | refine xcondF rfl ?_
        | refine xskipc ?_
        | refine xexit ?_
        | refine xretc ?_
        | refine xin_normal ?_
        | refine xin_ret ?_
        | refine xthen_exit ?_
        | refine xthen_ret ?_
        | refine xin_same rfl ?_
        | refine xin_other rfl ?_
    exact xret1 hg rfl rfl (.eq (by rw [decide_eq_false hne]; rfl)) (SubM.none _ _) ⟨rfl, rfl, rfl⟩
  · have hl2 : xs.length = ys.length := by simp at h1; omega
    repeat
      first
      | refine xseq ?_
      | first
        | refine xregion ?_
        | refine xvalP (pv_move rfl) rfl rfl ?_
        | refine xvalP (pv_assign rfl) rfl rfl ?_
        | refine xvalP (pv_add1 rfl rfl (by omega)) rfl rfl ?_
        | refine xvalP (pv_sub1 rfl rfl (by omega)) rfl rfl ?_
        | refine xvalP (pv_bin2 rfl rfl rfl) rfl rfl ?_
        | refine xnil ?_
        | refine xthen ?_
        | refine xblock ?_
        | refine xval (qv_load ShpC.h rfl rfl rfl) rfl rfl ?_
        | refine xvalP (qv_fieldAddrB FldC.h rfl) rfl rfl ?_
        | refine xvalP (qv_fieldAddrE FldC.h rfl) rfl rfl ?_
        | refine xval (qv_loadB 0 ShpC.h rfl rfl rfl rfl) rfl rfl ?_
        | refine xval (qv_loadB 1 ShpC.h rfl rfl rfl rfl) rfl rfl ?_
        | refine xval (qv_loadB 2 ShpC.h rfl rfl rfl rfl) rfl rfl ?_
        | refine xval (qv_loadB 3 ShpC.h rfl rfl rfl rfl) rfl rfl ?_
        | refine xval (qv_loadB 4 ShpC.h rfl rfl rfl rfl) rfl rfl ?_
        | refine xvalP (pv_pick rfl rfl) rfl rfl ?_
        | refine xvalP (pv_len UndC.h rfl rfl) rfl rfl ?_
        | refine xvalP (pv_lenS UndC.h rfl) rfl rfl ?_
        | refine xvalP (pv_lenRb UndC.h rfl) rfl rfl ?_
        | refine xvalP (pv_lenV UndC.h rfl) rfl rfl ?_
        | refine xvalP (pv_not rfl) rfl rfl ?_
        | refine xvalP (pv_nilCheck rfl) rfl rfl ?_
        | refine xvalP (pv_nilCheckE rfl) rfl rfl ?_
        | refine xvalP (pv_nilCheckF rfl) rfl rfl ?_
        | refine xvalP (pv_extract rfl rfl) rfl rfl ?_
        | refine xvalP (qv_field FldC.h rfl rfl) rfl rfl ?_
        | refine xvalP (pv_indexAddr UndC.h ShpC.h rfl rfl rfl (map_at (by assumption))) rfl rfl ?_
        | refine xvalP (pv_indexAddrB UndC.h ShpC.h rfl rfl (Int.toNat_of_nonneg (by decide)).symm (by decide)) rfl rfl ?_
        | refine xvalP (pv_indexAddrE UndC.h ShpC.h rfl rfl (Int.toNat_of_nonneg (by decide)).symm (by decide)) rfl rfl ?_
        | refine xvalP (pv_eqB UndC.h rfl rfl) rfl rfl ?_
        | refine xvalP (pv_neB UndC.h rfl rfl) rfl rfl ?_
        | refine xvalP (pv_convI UndC.h UndC.h rfl) rfl rfl ?_
        | refine xvalP (pv_buildC StrC.h rfl rfl) rfl rfl ?_
        | refine xalloc InfC.h rfl rfl fun _ => ?_
        | refine xbuildSliceC UndC.h InfC.h rfl rfl rfl rfl rfl rfl fun _ => ?_
        | refine xvalP (pv_makeFuncC rfl) rfl rfl ?_
        | refine xbox rfl rfl rfl rfl fun _ => ?_
        | refine xstore 0 ShpC.h rfl rfl rfl rfl rfl rfl rfl ?_
        | refine xstore 1 ShpC.h rfl rfl rfl rfl rfl rfl rfl ?_
        | refine xstore 2 ShpC.h rfl rfl rfl rfl rfl rfl rfl ?_
        | refine xstore 3 ShpC.h rfl rfl rfl rfl rfl rfl rfl ?_
        | refine xstore 4 ShpC.h rfl rfl rfl rfl rfl rfl rfl ?_
        | refine xskip rfl rfl ?_
        | refine xskip0 rfl ?_
        | refine xcondT rfl ?_
        | refine xcondF rfl ?_
        | refine xskipc ?_
        | refine xexit ?_
        | refine xretc ?_
        | refine xin_normal ?_
        | refine xin_ret ?_
        | refine xthen_exit ?_
        | refine xthen_ret ?_
        | refine xin_same rfl ?_
        | refine xin_other rfl ?_
    refine xloop (EqFInv xs ys) ⟨0, Nat.zero_le _, rfl, rfl, rfl⟩ ⟨by (repeat (first | exact ImpT.nil _ | refine ImpT.cons rfl (by first | with_reducible exact Wk.refl _ | exact Wk.nil_own _ | exact Wk.nil_pl _ | with_reducible exact Wk.tok _ _ _ | exact Wk.tok _ _ _ | exact Wk.eq (by first | rfl | (simp []; done) | (simp []; omega))) ?_)), SubM.refl _ _⟩ ?_
    rintro _ m ⟨k, hk, rfl, heq, rfl⟩
    repeat
      first
      | refine xseq ?_
      | first
        | refine xregion ?_
        | refine xvalP (pv_move rfl) rfl rfl ?_
        | refine xvalP (pv_assign rfl) rfl rfl ?_
        | refine xvalP (pv_add1 rfl rfl (by omega)) rfl rfl ?_
        | refine xvalP (pv_sub1 rfl rfl (by omega)) rfl rfl ?_
        | refine xvalP (pv_bin2 rfl rfl rfl) rfl rfl ?_
        | refine xnil ?_
        | refine xthen ?_
        | refine xblock ?_
        | refine xval (qv_load ShpC.h rfl rfl rfl) rfl rfl ?_
        | refine xvalP (qv_fieldAddrB FldC.h rfl) rfl rfl ?_
        | refine xvalP (qv_fieldAddrE FldC.h rfl) rfl rfl ?_
        | refine xval (qv_loadB 0 ShpC.h rfl rfl rfl rfl) rfl rfl ?_
        | refine xval (qv_loadB 1 ShpC.h rfl rfl rfl rfl) rfl rfl ?_
        | refine xval (qv_loadB 2 ShpC.h rfl rfl rfl rfl) rfl rfl ?_
        | refine xval (qv_loadB 3 ShpC.h rfl rfl rfl rfl) rfl rfl ?_
        | refine xval (qv_loadB 4 ShpC.h rfl rfl rfl rfl) rfl rfl ?_
        | refine xvalP (pv_pick rfl rfl) rfl rfl ?_
        | refine xvalP (pv_len UndC.h rfl rfl) rfl rfl ?_
        | refine xvalP (pv_lenS UndC.h rfl) rfl rfl ?_
        | refine xvalP (pv_lenRb UndC.h rfl) rfl rfl ?_
        | refine xvalP (pv_lenV UndC.h rfl) rfl rfl ?_
        | refine xvalP (pv_not rfl) rfl rfl ?_
        | refine xvalP (pv_nilCheck rfl) rfl rfl ?_
        | refine xvalP (pv_nilCheckE rfl) rfl rfl ?_
        | refine xvalP (pv_nilCheckF rfl) rfl rfl ?_
        | refine xvalP (pv_extract rfl rfl) rfl rfl ?_
        | refine xvalP (qv_field FldC.h rfl rfl) rfl rfl ?_
        | refine xvalP (pv_indexAddr UndC.h ShpC.h rfl rfl rfl (map_at (by assumption))) rfl rfl ?_
        | refine xvalP (pv_indexAddrB UndC.h ShpC.h rfl rfl (Int.toNat_of_nonneg (by decide)).symm (by decide)) rfl rfl ?_
        | refine xvalP (pv_indexAddrE UndC.h ShpC.h rfl rfl (Int.toNat_of_nonneg (by decide)).symm (by decide)) rfl rfl ?_
        | refine xvalP (pv_eqB UndC.h rfl rfl) rfl rfl ?_
        | refine xvalP (pv_neB UndC.h rfl rfl) rfl rfl ?_
        | refine xvalP (pv_convI UndC.h UndC.h rfl) rfl rfl ?_
        | refine xvalP (pv_buildC StrC.h rfl rfl) rfl rfl ?_
        | refine xalloc InfC.h rfl rfl fun _ => ?_
        | refine xbuildSliceC UndC.h InfC.h rfl rfl rfl rfl rfl rfl fun _ => ?_
        | refine xvalP (pv_makeFuncC rfl) rfl rfl ?_
        | refine xbox rfl rfl rfl rfl fun _ => ?_
        | refine xstore 0 ShpC.h rfl rfl rfl rfl rfl rfl rfl ?_
        | refine xstore 1 ShpC.h rfl rfl rfl rfl rfl rfl rfl ?_
        | refine xstore 2 ShpC.h rfl rfl rfl rfl rfl rfl rfl ?_
        | refine xstore 3 ShpC.h rfl rfl rfl rfl rfl rfl rfl ?_
        | refine xstore 4 ShpC.h rfl rfl rfl rfl rfl rfl rfl ?_
        | refine xskip rfl rfl ?_
        | refine xskip0 rfl ?_
        | refine xcondT rfl ?_
        | refine xcondF rfl ?_
        | refine xskipc ?_
        | refine xexit ?_
        | refine xretc ?_
        | refine xin_normal ?_
        | refine xin_ret ?_
        | refine xthen_exit ?_
        | refine xthen_ret ?_
        | refine xin_same rfl ?_
        | refine xin_other rfl ?_
    refine xcondD rfl (fun h2 => ?_) (fun h2 => ?_)
    · have hk1 : k < xs.length := by simpa using h2
      obtain ⟨x, hx⟩ : ∃ x, xs[k]? = some x := ⟨_, List.getElem?_eq_getElem hk1⟩
      obtain ⟨y, hy⟩ : ∃ y, ys[k]? = some y := ⟨_, List.getElem?_eq_getElem (by omega)⟩
      repeat
        first
        | refine xseq ?_
        | first
          | refine xregion ?_
          | refine xvalP (pv_move rfl) rfl rfl ?_
          | refine xvalP (pv_assign rfl) rfl rfl ?_
          | refine xvalP (pv_add1 rfl rfl (by omega)) rfl rfl ?_
          | refine xvalP (pv_sub1 rfl rfl (by omega)) rfl rfl ?_
          | refine xvalP (pv_bin2 rfl rfl rfl) rfl rfl ?_
          | refine xnil ?_
          | refine xthen ?_
          | refine xblock ?_
          | refine xval (qv_load ShpC.h rfl rfl rfl) rfl rfl ?_
          | refine xvalP (qv_fieldAddrB FldC.h rfl) rfl rfl ?_
          | refine xvalP (qv_fieldAddrE FldC.h rfl) rfl rfl ?_
          | refine xval (qv_loadB 0 ShpC.h rfl rfl rfl rfl) rfl rfl ?_
          | refine xval (qv_loadB 1 ShpC.h rfl rfl rfl rfl) rfl rfl ?_
          | refine xval (qv_loadB 2 ShpC.h rfl rfl rfl rfl) rfl rfl ?_
          | refine xval (qv_loadB 3 ShpC.h rfl rfl rfl rfl) rfl rfl ?_
          | refine xval (qv_loadB 4 ShpC.h rfl rfl rfl rfl) rfl rfl ?_
          | refine xvalP (pv_pick rfl rfl) rfl rfl ?_
          | refine xvalP (pv_len UndC.h rfl rfl) rfl rfl ?_
          | refine xvalP (pv_lenS UndC.h rfl) rfl rfl ?_
          | refine xvalP (pv_lenRb UndC.h rfl) rfl rfl ?_
          | refine xvalP (pv_lenV UndC.h rfl) rfl rfl ?_
          | refine xvalP (pv_not rfl) rfl rfl ?_
          | refine xvalP (pv_nilCheck rfl) rfl rfl ?_
          | refine xvalP (pv_nilCheckE rfl) rfl rfl ?_
          | refine xvalP (pv_nilCheckF rfl) rfl rfl ?_
          | refine xvalP (pv_extract rfl rfl) rfl rfl ?_
          | refine xvalP (qv_field FldC.h rfl rfl) rfl rfl ?_
          | refine xvalP (pv_indexAddr UndC.h ShpC.h rfl rfl rfl (map_at (by assumption))) rfl rfl ?_
          | refine xvalP (pv_indexAddrB UndC.h ShpC.h rfl rfl (Int.toNat_of_nonneg (by decide)).symm (by decide)) rfl rfl ?_
          | refine xvalP (pv_indexAddrE UndC.h ShpC.h rfl rfl (Int.toNat_of_nonneg (by decide)).symm (by decide)) rfl rfl ?_
          | refine xvalP (pv_eqB UndC.h rfl rfl) rfl rfl ?_
          | refine xvalP (pv_neB UndC.h rfl rfl) rfl rfl ?_
          | refine xvalP (pv_convI UndC.h UndC.h rfl) rfl rfl ?_
          | refine xvalP (pv_buildC StrC.h rfl rfl) rfl rfl ?_
          | refine xalloc InfC.h rfl rfl fun _ => ?_
          | refine xbuildSliceC UndC.h InfC.h rfl rfl rfl rfl rfl rfl fun _ => ?_
          | refine xvalP (pv_makeFuncC rfl) rfl rfl ?_
          | refine xbox rfl rfl rfl rfl fun _ => ?_
          | refine xstore 0 ShpC.h rfl rfl rfl rfl rfl rfl rfl ?_
          | refine xstore 1 ShpC.h rfl rfl rfl rfl rfl rfl rfl ?_
          | refine xstore 2 ShpC.h rfl rfl rfl rfl rfl rfl rfl ?_
          | refine xstore 3 ShpC.h rfl rfl rfl rfl rfl rfl rfl ?_
          | refine xstore 4 ShpC.h rfl rfl rfl rfl rfl rfl rfl ?_
          | refine xskip rfl rfl ?_
          | refine xskip0 rfl ?_
          | refine xcondT rfl ?_
          | refine xcondF rfl ?_
          | refine xskipc ?_
          | refine xexit ?_
          | refine xretc ?_
          | refine xin_normal ?_
          | refine xin_ret ?_
          | refine xthen_exit ?_
          | refine xthen_ret ?_
          | refine xin_same rfl ?_
          | refine xin_other rfl ?_
      refine xcallV (eqP_any x y (hb x (List.mem_of_getElem? hx))) (Fb := _) (Ft := _) Try.func26 (by kernel_rfl) rfl rfl (.cons rfl (.eq rfl) (.cons rfl (.eq rfl) .nil)) rfl (SubM.refl _ _) rfl rfl ?_
      rintro _ _ _ ⟨rfl, rfl, rfl⟩
      repeat
        first
        | refine xseq ?_
        | first
          | refine xregion ?_
          | refine xvalP (pv_move rfl) rfl rfl ?_
          | refine xvalP (pv_assign rfl) rfl rfl ?_
          | refine xvalP (pv_add1 rfl rfl (by omega)) rfl rfl ?_
          | refine xvalP (pv_sub1 rfl rfl (by omega)) rfl rfl ?_
          | refine xvalP (pv_bin2 rfl rfl rfl) rfl rfl ?_
          | refine xnil ?_
          | refine xthen ?_
          | refine xblock ?_
          | refine xval (qv_load ShpC.h rfl rfl rfl) rfl rfl ?_
          | refine xvalP (qv_fieldAddrB FldC.h rfl) rfl rfl ?_
          | refine xvalP (qv_fieldAddrE FldC.h rfl) rfl rfl ?_
          | refine xval (qv_loadB 0 ShpC.h rfl rfl rfl rfl) rfl rfl ?_
          | refine xval (qv_loadB 1 ShpC.h rfl rfl rfl rfl) rfl rfl ?_
          | refine xval (qv_loadB 2 ShpC.h rfl rfl rfl rfl) rfl rfl ?_
          | refine xval (qv_loadB 3 ShpC.h rfl rfl rfl rfl) rfl rfl ?_
          | refine xval (qv_loadB 4 ShpC.h rfl rfl rfl rfl) rfl rfl ?_
          | refine xvalP (pv_pick rfl rfl) rfl rfl ?_
          | refine xvalP (pv_len UndC.h rfl rfl) rfl rfl ?_
          | refine xvalP (pv_lenS UndC.h rfl) rfl rfl ?_
          | refine xvalP (pv_lenRb UndC.h rfl) rfl rfl ?_
          | refine xvalP (pv_lenV UndC.h rfl) rfl rfl ?_
          | refine xvalP (pv_not rfl) rfl rfl ?_
          | refine xvalP (pv_nilCheck rfl) rfl rfl ?_
          | refine xvalP (pv_nilCheckE rfl) rfl rfl ?_
          | refine xvalP (pv_nilCheckF rfl) rfl rfl ?_
          | refine xvalP (pv_extract rfl rfl) rfl rfl ?_
          | refine xvalP (qv_field FldC.h rfl rfl) rfl rfl ?_
          | refine xvalP (pv_indexAddr UndC.h ShpC.h rfl rfl rfl (map_at (by assumption))) rfl rfl ?_
          | refine xvalP (pv_indexAddrB UndC.h ShpC.h rfl rfl (Int.toNat_of_nonneg (by decide)).symm (by decide)) rfl rfl ?_
          | refine xvalP (pv_indexAddrE UndC.h ShpC.h rfl rfl (Int.toNat_of_nonneg (by decide)).symm (by decide)) rfl rfl ?_
          | refine xvalP (pv_eqB UndC.h rfl rfl) rfl rfl ?_
          | refine xvalP (pv_neB UndC.h rfl rfl) rfl rfl ?_
          | refine xvalP (pv_convI UndC.h UndC.h rfl) rfl rfl ?_
          | refine xvalP (pv_buildC StrC.h rfl rfl) rfl rfl ?_
          | refine xalloc InfC.h rfl rfl fun _ => ?_
          | refine xbuildSliceC UndC.h InfC.h rfl rfl rfl rfl rfl rfl fun _ => ?_
          | refine xvalP (pv_makeFuncC rfl) rfl rfl ?_
          | refine xbox rfl rfl rfl rfl fun _ => ?_
          | refine xstore 0 ShpC.h rfl rfl rfl rfl rfl rfl rfl ?_
          | refine xstore 1 ShpC.h rfl rfl rfl rfl rfl rfl rfl ?_
          | refine xstore 2 ShpC.h rfl rfl rfl rfl rfl rfl rfl ?_
          | refine xstore 3 ShpC.h rfl rfl rfl rfl rfl rfl rfl ?_
          | refine xstore 4 ShpC.h rfl rfl rfl rfl rfl rfl rfl ?_
          | refine xskip rfl rfl ?_
          | refine xskip0 rfl ?_
          | refine xcondT rfl ?_
          | refine xcondF rfl ?_
          | refine xskipc ?_
          | refine xexit ?_
          | refine xretc ?_
          | refine xin_normal ?_
          | refine xin_ret ?_
          | refine xthen_exit ?_
          | refine xthen_ret ?_
          | refine xin_same rfl ?_
          | refine xin_other rfl ?_
      refine xcondN rfl (fun h3 => ?_) (fun h3 => ?_)
      · have hne : xs ≠ ys := fun e => h3 (by subst e; rw [hx] at hy; injection hy with hy)
        repeat
          first
          | refine xseq ?_
          | first
            | refine xregion ?_
            | refine xvalP (pv_move rfl) rfl rfl ?_
            | refine xvalP (pv_assign rfl) rfl rfl ?_
            | refine xvalP (pv_add1 rfl rfl (by omega)) rfl rfl ?_
            | refine xvalP (pv_sub1 rfl rfl (by omega)) rfl rfl ?_
            | refine xvalP (pv_bin2 rfl rfl rfl) rfl rfl ?_
            | refine xnil ?_
            | refine xthen ?_
            | refine xblock ?_
            | refine xval (qv_load ShpC.h rfl rfl rfl) rfl rfl ?_
            | refine xvalP (qv_fieldAddrB FldC.h rfl) rfl rfl ?_
            | refine xvalP (qv_fieldAddrE FldC.h rfl) rfl rfl ?_
            | refine xval (qv_loadB 0 ShpC.h rfl rfl rfl rfl) rfl rfl ?_
            | refine xval (qv_loadB 1 ShpC.h rfl rfl rfl rfl) rfl rfl ?_
            | refine xval (qv_loadB 2 ShpC.h rfl rfl rfl rfl) rfl rfl ?_
            | refine xval (qv_loadB 3 ShpC.h rfl rfl rfl rfl) rfl rfl ?_
            | refine xval (qv_loadB 4 ShpC.h rfl rfl rfl rfl) rfl rfl ?_
            | refine xvalP (pv_pick rfl rfl) rfl rfl ?_
            | refine xvalP (pv_len UndC.h rfl rfl) rfl rfl ?_
            | refine xvalP (pv_lenS UndC.h rfl) rfl rfl ?_
            | refine xvalP (pv_lenRb UndC.h rfl) rfl rfl ?_
            | refine xvalP (pv_lenV UndC.h rfl) rfl rfl ?_
            | refine xvalP (pv_not rfl) rfl rfl ?_
            | refine xvalP (pv_nilCheck rfl) rfl rfl ?_
            | refine xvalP (pv_nilCheckE rfl) rfl rfl ?_
            | refine xvalP (pv_nilCheckF rfl) rfl rfl ?_
            | refine xvalP (pv_extract rfl rfl) rfl rfl ?_
            | refine xvalP (qv_field FldC.h rfl rfl) rfl rfl ?_
            | refine xvalP (pv_indexAddr UndC.h ShpC.h rfl rfl rfl (map_at (by assumption))) rfl rfl ?_
            | refine xvalP (pv_indexAddrB UndC.h ShpC.h rfl rfl (Int.toNat_of_nonneg (by decide)).symm (by decide)) rfl rfl ?_
            | refine xvalP (pv_indexAddrE UndC.h ShpC.h rfl rfl (Int.toNat_of_nonneg (by decide)).symm (by decide)) rfl rfl ?_
            | refine xvalP (pv_eqB UndC.h rfl rfl) rfl rfl ?_
            | refine xvalP (pv_neB UndC.h rfl rfl) rfl rfl ?_
            | refine xvalP (pv_convI UndC.h UndC.h rfl) rfl rfl ?_
            | refine xvalP (pv_buildC StrC.h rfl rfl) rfl rfl ?_
            | refine xalloc InfC.h rfl rfl fun _ => ?_
            | refine xbuildSliceC UndC.h InfC.h rfl rfl rfl rfl rfl rfl fun _ => ?_
            | refine xvalP (pv_makeFuncC rfl) rfl rfl ?_
            | refine xbox rfl rfl rfl rfl fun _ => ?_
            | refine xstore 0 ShpC.h rfl rfl rfl rfl rfl rfl rfl ?_
            | refine xstore 1 ShpC.h rfl rfl rfl rfl rfl rfl rfl ?_
            | refine xstore 2 ShpC.h rfl rfl rfl rfl rfl rfl rfl ?_
            | refine xstore 3 ShpC.h rfl rfl rfl rfl rfl rfl rfl ?_
            | refine xstore 4 ShpC.h rfl rfl rfl rfl rfl rfl rfl ?_
            | refine xskip rfl rfl ?_
            | refine xskip0 rfl ?_
            | refine xcondT rfl ?_
            | refine xcondF rfl ?_
            | refine xskipc ?_
            | refine xexit ?_
            | refine xretc ?_
            | refine xin_normal ?_
            | refine xin_ret ?_
            | refine xthen_exit ?_
            | refine xthen_ret ?_
            | refine xin_same rfl ?_
            | refine xin_other rfl ?_
        exact xret1 hg rfl rfl (.eq (by rw [decide_eq_false hne]; rfl)) (SubM.none _ _) ⟨rfl, rfl, rfl⟩
      · repeat
          first
          | refine xseq ?_
          | first
            | refine xregion ?_
            | refine xvalP (pv_move rfl) rfl rfl ?_
            | refine xvalP (pv_assign rfl) rfl rfl ?_
            | refine xvalP (pv_add1 rfl rfl (by omega)) rfl rfl ?_
            | refine xvalP (pv_sub1 rfl rfl (by omega)) rfl rfl ?_
            | refine xvalP (pv_bin2 rfl rfl rfl) rfl rfl ?_
            | refine xnil ?_
            | refine xthen ?_
            | refine xblock ?_
            | refine xval (qv_load ShpC.h rfl rfl rfl) rfl rfl ?_
            | refine xvalP (qv_fieldAddrB FldC.h rfl) rfl rfl ?_
            | refine xvalP (qv_fieldAddrE FldC.h rfl) rfl rfl ?_
            | refine xval (qv_loadB 0 ShpC.h rfl rfl rfl rfl) rfl rfl ?_
            | refine xval (qv_loadB 1 ShpC.h rfl rfl rfl rfl) rfl rfl ?_
            | refine xval (qv_loadB 2 ShpC.h rfl rfl rfl rfl) rfl rfl ?_
            | refine xval (qv_loadB 3 ShpC.h rfl rfl rfl rfl) rfl rfl ?_
            | refine xval (qv_loadB 4 ShpC.h rfl rfl rfl rfl) rfl rfl ?_
            | refine xvalP (pv_pick rfl rfl) rfl rfl ?_
            | refine xvalP (pv_len UndC.h rfl rfl) rfl rfl ?_
            | refine xvalP (pv_lenS UndC.h rfl) rfl rfl ?_
            | refine xvalP (pv_lenRb UndC.h rfl) rfl rfl ?_
            | refine xvalP (pv_lenV UndC.h rfl) rfl rfl ?_
            | refine xvalP (pv_not rfl) rfl rfl ?_
            | refine xvalP (pv_nilCheck rfl) rfl rfl ?_
            | refine xvalP (pv_nilCheckE rfl) rfl rfl ?_
            | refine xvalP (pv_nilCheckF rfl) rfl rfl ?_
            | refine xvalP (pv_extract rfl rfl) rfl rfl ?_
            | refine xvalP (qv_field FldC.h rfl rfl) rfl rfl ?_
            | refine xvalP (pv_indexAddr UndC.h ShpC.h rfl rfl rfl (map_at (by assumption))) rfl rfl ?_
            | refine xvalP (pv_indexAddrB UndC.h ShpC.h rfl rfl (Int.toNat_of_nonneg (by decide)).symm (by decide)) rfl rfl ?_
            | refine xvalP (pv_indexAddrE UndC.h ShpC.h rfl rfl (Int.toNat_of_nonneg (by decide)).symm (by decide)) rfl rfl ?_
            | refine xvalP (pv_eqB UndC.h rfl rfl) rfl rfl ?_
            | refine xvalP (pv_neB UndC.h rfl rfl) rfl rfl ?_
            | refine xvalP (pv_convI UndC.h UndC.h rfl) rfl rfl ?_
            | refine xvalP (pv_buildC StrC.h rfl rfl) rfl rfl ?_
            | refine xalloc InfC.h rfl rfl fun _ => ?_
            | refine xbuildSliceC UndC.h InfC.h rfl rfl rfl rfl rfl rfl fun _ => ?_
            | refine xvalP (pv_makeFuncC rfl) rfl rfl ?_
            | refine xbox rfl rfl rfl rfl fun _ => ?_
            | refine xstore 0 ShpC.h rfl rfl rfl rfl rfl rfl rfl ?_
            | refine xstore 1 ShpC.h rfl rfl rfl rfl rfl rfl rfl ?_
            | refine xstore 2 ShpC.h rfl rfl rfl rfl rfl rfl rfl ?_
            | refine xstore 3 ShpC.h rfl rfl rfl rfl rfl rfl rfl ?_
            | refine xstore 4 ShpC.h rfl rfl rfl rfl rfl rfl rfl ?_
            | refine xskip rfl rfl ?_
            | refine xskip0 rfl ?_
            | refine xcondT rfl ?_
            | refine xcondF rfl ?_
            | refine xskipc ?_
            | refine xexit ?_
            | refine xretc ?_
            | refine xin_normal ?_
            | refine xin_ret ?_
            | refine xthen_exit ?_
            | refine xthen_ret ?_
            | refine xin_same rfl ?_
            | refine xin_other rfl ?_
        refine xagain ⟨k + 1, hk1, rfl, by rw [List.take_add_one, List.take_add_one, heq, hx, hy, h3], rfl⟩ (by omega) ⟨by (repeat (first | exact ImpT.nil _ | refine ImpT.cons rfl (by first | with_reducible exact Wk.refl _ | exact Wk.nil_own _ | exact Wk.nil_pl _ | with_reducible exact Wk.tok _ _ _ | exact Wk.tok _ _ _ | exact Wk.eq (by first | rfl | (simp []; done) | (simp []; omega))) ?_)), (SubM.of (by repeat (first | with_reducible exact SubB.refl _ | exact SubB.nil _ | refine SubB.keep rfl rfl (by first | with_reducible exact WkL.refl _ | ((repeat (first | exact WkL.nil | refine WkL.cons (by first | with_reducible exact Wk.refl _ | exact Wk.nil_own _ | exact Wk.nil_pl _ | with_reducible exact Wk.tok _ _ _ | exact Wk.tok _ _ _ | exact Wk.eq (by first | rfl | (simp []; done) | (simp []; omega))) ?_)); done) | exact WkL.refl _) ?_ | refine SubB.drop ?_)) (by repeat (first | exact SubT.nil _ | refine SubT.add ?_ | (refine SubT.keep ?_ ?_; focus (first | with_reducible rfl | (simp []; done))) | refine SubT.drop ?_)))⟩
    · obtain rfl : k = xs.length := by have : ¬ (k : Int) < (xs.length : Int) := by simpa using h2
                                       omega
      have he : xs = ys := by rw [List.take_length, List.take_of_length_le (by omega)] at heq; exact heq
      repeat
        first
        | refine xseq ?_
        | first
          | refine xregion ?_
          | refine xvalP (pv_move rfl) rfl rfl ?_
          | refine xvalP (pv_assign rfl) rfl rfl ?_
          | refine xvalP (pv_add1 rfl rfl (by omega)) rfl rfl ?_
          | refine xvalP (pv_sub1 rfl rfl (by omega)) rfl rfl ?_
          | refine xvalP (pv_bin2 rfl rfl rfl) rfl rfl ?_
          | refine xnil ?_
          | refine xthen ?_
          | refine xblock ?_
          | refine xval (qv_load ShpC.h rfl rfl rfl) rfl rfl ?_
          | refine xvalP (qv_fieldAddrB FldC.h rfl) rfl rfl ?_
          | refine xvalP (qv_fieldAddrE FldC.h rfl) rfl rfl ?_
          | refine xval (qv_loadB 0 ShpC.h rfl rfl rfl rfl) rfl rfl ?_
          | refine xval (qv_loadB 1 ShpC.h rfl rfl rfl rfl) rfl rfl ?_
          | refine xval (qv_loadB 2 ShpC.h rfl rfl rfl rfl) rfl rfl ?_
          | refine xval (qv_loadB 3 ShpC.h rfl rfl rfl rfl) rfl rfl ?_
          | refine xval (qv_loadB 4 ShpC.h rfl rfl rfl rfl) rfl rfl ?_
          | refine xvalP (pv_pick rfl rfl) rfl rfl ?_
          | refine xvalP (pv_len UndC.h rfl rfl) rfl rfl ?_
          | refine xvalP (pv_lenS UndC.h rfl) rfl rfl ?_
          | refine xvalP (pv_lenRb UndC.h rfl) rfl rfl ?_
          | refine xvalP (pv_lenV UndC.h rfl) rfl rfl ?_
          | refine xvalP (pv_not rfl) rfl rfl ?_
          | refine xvalP (pv_nilCheck rfl) rfl rfl ?_
          | refine xvalP (pv_nilCheckE rfl) rfl rfl ?_
          | refine xvalP (pv_nilCheckF rfl) rfl rfl ?_
          | refine xvalP (pv_extract rfl rfl) rfl rfl ?_
          | refine xvalP (qv_field FldC.h rfl rfl) rfl rfl ?_
          | refine xvalP (pv_indexAddr UndC.h ShpC.h rfl rfl rfl (map_at (by assumption))) rfl rfl ?_
          | refine xvalP (pv_indexAddrB UndC.h ShpC.h rfl rfl (Int.toNat_of_nonneg (by decide)).symm (by decide)) rfl rfl ?_
          | refine xvalP (pv_indexAddrE UndC.h ShpC.h rfl rfl (Int.toNat_of_nonneg (by decide)).symm (by decide)) rfl rfl ?_
          | refine xvalP (pv_eqB UndC.h rfl rfl) rfl rfl ?_
          | refine xvalP (pv_neB UndC.h rfl rfl) rfl rfl ?_
          | refine xvalP (pv_convI UndC.h UndC.h rfl) rfl rfl ?_
          | refine xvalP (pv_buildC StrC.h rfl rfl) rfl rfl ?_
          | refine xalloc InfC.h rfl rfl fun _ => ?_
          | refine xbuildSliceC UndC.h InfC.h rfl rfl rfl rfl rfl rfl fun _ => ?_
          | refine xvalP (pv_makeFuncC rfl) rfl rfl ?_
          | refine xbox rfl rfl rfl rfl fun _ => ?_
          | refine xstore 0 ShpC.h rfl rfl rfl rfl rfl rfl rfl ?_
          | refine xstore 1 ShpC.h rfl rfl rfl rfl rfl rfl rfl ?_
          | refine xstore 2 ShpC.h rfl rfl rfl rfl rfl rfl rfl ?_
          | refine xstore 3 ShpC.h rfl rfl rfl rfl rfl rfl rfl ?_
          | refine xstore 4 ShpC.h rfl rfl rfl rfl rfl rfl rfl ?_
          | refine xskip rfl rfl ?_
          | refine xskip0 rfl ?_
          | refine xcondT rfl ?_
          | refine xcondF rfl ?_
          | refine xskipc ?_
          | refine xexit ?_
          | refine xretc ?_
          | refine xin_normal ?_
          | refine xin_ret ?_
          | refine xthen_exit ?_
          | refine xthen_ret ?_
          | refine xin_same rfl ?_
          | refine xin_other rfl ?_
      exact xret1 hg rfl rfl (.eq (by rw [decide_eq_true he]; rfl)) (SubM.none _ _) ⟨rfl, rfl, rfl⟩
theorem sameP_any (xs ys : List PartT) (hl : xs.length ≤ 1000000000) (hb : ∀ p ∈ xs, p.2.2.length ≤ 1000000000) : Con Try.prog 19 [.sl 3 none (xs.map encP), .sl 3 none (ys.map encP)] [] [] (Ret (.v (.bool (decide (xs = ys))))) := by
  refine xenter Try.func19 rfl rfl fun g hg => ?_
  simp only [Try.ntmps19, slots]
  repeat
    first
    | refine xseq ?_
    | first
      | refine xregion ?_
      | refine xvalP (pv_move rfl) rfl rfl ?_
      | refine xvalP (pv_assign rfl) rfl rfl ?_
      | refine xvalP (pv_add1 rfl rfl (by omega)) rfl rfl ?_
      | refine xvalP (pv_sub1 rfl rfl (by omega)) rfl rfl ?_
      | refine xvalP (pv_bin2 rfl rfl rfl) rfl rfl ?_
      | refine xnil ?_
      | refine xthen ?_
      | refine xblock ?_
      | refine xval (qv_load ShpC.h rfl rfl rfl) rfl rfl ?_
      | refine xvalP (qv_fieldAddrB FldC.h rfl) rfl rfl ?_
      | refine xvalP (qv_fieldAddrE FldC.h rfl) rfl rfl ?_
      | refine xval (qv_loadB 0 ShpC.h rfl rfl rfl rfl) rfl rfl ?_
      | refine xval (qv_loadB 1 ShpC.h rfl rfl rfl rfl) rfl rfl ?_
      | refine xval (qv_loadB 2 ShpC.h rfl rfl rfl rfl) rfl rfl ?_
      | refine xval (qv_loadB 3 ShpC.h rfl rfl rfl rfl) rfl rfl ?_
      | refine xval (qv_loadB 4 ShpC.h rfl rfl rfl rfl) rfl rfl ?_
      | refine xvalP (pv_pick rfl rfl) rfl rfl ?_
      | refine xvalP (pv_len UndC.h rfl rfl) rfl rfl ?_
      | refine xvalP (pv_lenS UndC.h rfl) rfl rfl ?_
      | refine xvalP (pv_lenRb UndC.h rfl) rfl rfl ?_
      | refine xvalP (pv_lenV UndC.h rfl) rfl rfl ?_
      | refine xvalP (pv_not rfl) rfl rfl ?_
      | refine xvalP (pv_nilCheck rfl) rfl rfl ?_
      | refine xvalP (pv_nilCheckE rfl) rfl rfl ?_
      | refine xvalP (pv_nilCheckF rfl) rfl rfl ?_
      | refine xvalP (pv_extract rfl rfl) rfl rfl ?_
      | refine xvalP (qv_field FldC.h rfl rfl) rfl rfl ?_
      | refine xvalP (pv_indexAddr UndC.h ShpC.h rfl rfl rfl (map_at (by assumption))) rfl rfl ?_
      | refine xvalP (pv_indexAddrB UndC.h ShpC.h rfl rfl (Int.toNat_of_nonneg (by decide)).symm (by decide)) rfl rfl ?_
      | refine xvalP (pv_indexAddrE UndC.h ShpC.h rfl rfl (Int.toNat_of_nonneg (by decide)).symm (by decide)) rfl rfl ?_
      | refine xvalP (pv_eqB UndC.h rfl rfl) rfl rfl ?_
      | refine xvalP (pv_neB UndC.h rfl rfl) rfl rfl ?_
      | refine xvalP (pv_convI UndC.h UndC.h rfl) rfl rfl ?_
      | refine xvalP (pv_buildC StrC.h rfl rfl) rfl rfl ?_
      | refine xalloc InfC.h rfl rfl fun _ => ?_
      | refine xbuildSliceC UndC.h InfC.h rfl rfl rfl rfl rfl rfl fun _ => ?_
      | refine xvalP (pv_makeFuncC rfl) rfl rfl ?_
      | refine xbox rfl rfl rfl rfl fun _ => ?_
      | refine xstore 0 ShpC.h rfl rfl rfl rfl rfl rfl rfl ?_
      | refine xstore 1 ShpC.h rfl rfl rfl rfl rfl rfl rfl ?_
      | refine xstore 2 ShpC.h rfl rfl rfl rfl rfl rfl rfl ?_
      | refine xstore 3 ShpC.h rfl rfl rfl rfl rfl rfl rfl ?_
      | refine xstore 4 ShpC.h rfl rfl rfl rfl rfl rfl rfl ?_
      | refine xskip rfl rfl ?_
      | refine xskip0 rfl ?_
      | refine xcondT rfl ?_
      | refine xcondF rfl ?_
      | refine xskipc ?_
      | refine xexit ?_
      | refine xretc ?_
      | refine xin_normal ?_
      | refine xin_ret ?_
      | refine xthen_exit ?_
      | refine xthen_ret ?_
      | refine xin_same rfl ?_
      | refine xin_other rfl ?_
  refine xcall0 (equalF_any xs ys hl hb) Try.func25 (by kernel_rfl) rfl (by repeat (first | exact EvL.nil | refine EvL.cons rfl (by first | with_reducible exact Wk.refl _ | exact Wk.nil_pl _ | with_reducible exact Wk.tok _ _ _ | exact Wk.eq rfl) ?_)) rfl rfl ?_
  repeat
    first
    | refine xseq ?_
    | first
      | refine xregion ?_
      | refine xvalP (pv_move rfl) rfl rfl ?_
      | refine xvalP (pv_assign rfl) rfl rfl ?_
      | refine xvalP (pv_add1 rfl rfl (by omega)) rfl rfl ?_
      | refine xvalP (pv_sub1 rfl rfl (by omega)) rfl rfl ?_
      | refine xvalP (pv_bin2 rfl rfl rfl) rfl rfl ?_
      | refine xnil ?_
      | refine xthen ?_
      | refine xblock ?_
      | refine xval (qv_load ShpC.h rfl rfl rfl) rfl rfl ?_
      | refine xvalP (qv_fieldAddrB FldC.h rfl) rfl rfl ?_
      | refine xvalP (qv_fieldAddrE FldC.h rfl) rfl rfl ?_
      | refine xval (qv_loadB 0 ShpC.h rfl rfl rfl rfl) rfl rfl ?_
      | refine xval (qv_loadB 1 ShpC.h rfl rfl rfl rfl) rfl rfl ?_
      | refine xval (qv_loadB 2 ShpC.h rfl rfl rfl rfl) rfl rfl ?_
      | refine xval (qv_loadB 3 ShpC.h rfl rfl rfl rfl) rfl rfl ?_
      | refine xval (qv_loadB 4 ShpC.h rfl rfl rfl rfl) rfl rfl ?_
      | refine xvalP (pv_pick rfl rfl) rfl rfl ?_
      | refine xvalP (pv_len UndC.h rfl rfl) rfl rfl ?_
      | refine xvalP (pv_lenS UndC.h rfl) rfl rfl ?_
      | refine xvalP (pv_lenRb UndC.h rfl) rfl rfl ?_
      | refine xvalP (pv_lenV UndC.h rfl) rfl rfl ?_
      | refine xvalP (pv_not rfl) rfl rfl ?_
      | refine xvalP (pv_nilCheck rfl) rfl rfl ?_
      | refine xvalP (pv_nilCheckE rfl) rfl rfl ?_
      | refine xvalP (pv_nilCheckF rfl) rfl rfl ?_
      | refine xvalP (pv_extract rfl rfl) rfl rfl ?_
      | refine xvalP (qv_field FldC.h rfl rfl) rfl rfl ?_
      | refine xvalP (pv_indexAddr UndC.h ShpC.h rfl rfl rfl (map_at (by assumption))) rfl rfl ?_
      | refine xvalP (pv_indexAddrB UndC.h ShpC.h rfl rfl (Int.toNat_of_nonneg (by decide)).symm (by decide)) rfl rfl ?_
      | refine xvalP (pv_indexAddrE UndC.h ShpC.h rfl rfl (Int.toNat_of_nonneg (by decide)).symm (by decide)) rfl rfl ?_
      | refine xvalP (pv_eqB UndC.h rfl rfl) rfl rfl ?_
      | refine xvalP (pv_neB UndC.h rfl rfl) rfl rfl ?_
      | refine xvalP (pv_convI UndC.h UndC.h rfl) rfl rfl ?_
      | refine xvalP (pv_buildC StrC.h rfl rfl) rfl rfl ?_
      | refine xalloc InfC.h rfl rfl fun _ => ?_
      | refine xbuildSliceC UndC.h InfC.h rfl rfl rfl rfl rfl rfl fun _ => ?_
      | refine xvalP (pv_makeFuncC rfl) rfl rfl ?_
      | refine xbox rfl rfl rfl rfl fun _ => ?_
      | refine xstore 0 ShpC.h rfl rfl rfl rfl rfl rfl rfl ?_
      | refine xstore 1 ShpC.h rfl rfl rfl rfl rfl rfl rfl ?_
      | refine xstore 2 ShpC.h rfl rfl rfl rfl rfl rfl rfl ?_
      | refine xstore 3 ShpC.h rfl rfl rfl rfl rfl rfl rfl ?_
      | refine xstore 4 ShpC.h rfl rfl rfl rfl rfl rfl rfl ?_
      | refine xskip rfl rfl ?_
      | refine xskip0 rfl ?_
      | refine xcondT rfl ?_
      | refine xcondF rfl ?_
      | refine xskipc ?_
      | refine xexit ?_
      | refine xretc ?_
      | refine xin_normal ?_
      | refine xin_ret ?_
      | refine xthen_exit ?_
      | refine xthen_ret ?_
      | refine xin_same rfl ?_
      | refine xin_other rfl ?_
  exact xret1 hg rfl rfl (.refl _) (SubM.none _ _) ⟨rfl, rfl, rfl⟩
end Go.Proofs.Ytcekiclbfjfagaa
