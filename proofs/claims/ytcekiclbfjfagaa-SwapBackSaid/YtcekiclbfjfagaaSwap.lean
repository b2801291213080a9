/- The walks of swap. -/
import Derived.Test.YtcekiclbfjfagaaTy
namespace Go.Proofs.Ytcekiclbfjfagaa

theorem isPart_any (f u : Int) (rows : List (List Sd)) : Con Try.prog 20 [.agg [.v (.int .i64 f), .v (.int .i64 u)], .sl 1 none rows] [] [] (Ret (.v (.bool (decide (0 ≤ f ∧ f ≤ u ∧ u ≤ (rows.length : Int)))))) := by
  refine xenter Try.func20 rfl rfl fun g hg => ?_
  simp only [Try.ntmps20, slots]
  repeat
    first
    | refine xseq ?_
    | first
      | refine xregion ?_
      | refine xvalP (pv_move rfl) rfl rfl ?_
      | refine xvalP (pv_assign rfl) rfl rfl ?_
      | refine xvalP (pv_add1 rfl rfl (by omega)) rfl rfl ?_
      | refine xvalP (pv_sub1 rfl rfl (by omega)) rfl rfl ?_
      | refine xvalP (pv_bin2 rfl rfl rfl) rfl rfl ?_
      | refine xnil ?_
      | refine xthen ?_
      | refine xblock ?_
      | refine xval (qv_load ShpC.h rfl rfl rfl) rfl rfl ?_
      | refine xvalP (qv_fieldAddrB FldC.h rfl) rfl rfl ?_
      | refine xvalP (qv_fieldAddrE FldC.h rfl) rfl rfl ?_
      | refine xval (qv_loadB 0 ShpC.h rfl rfl rfl rfl) rfl rfl ?_
      | refine xval (qv_loadB 1 ShpC.h rfl rfl rfl rfl) rfl rfl ?_
      | refine xval (qv_loadB 2 ShpC.h rfl rfl rfl rfl) rfl rfl ?_
      | refine xval (qv_loadB 3 ShpC.h rfl rfl rfl rfl) rfl rfl ?_
      | refine xval (qv_loadB 4 ShpC.h rfl rfl rfl rfl) rfl rfl ?_
      | refine xvalP (pv_pick rfl rfl) rfl rfl ?_
      | refine xvalP (pv_len UndC.h rfl rfl) rfl rfl ?_
      | refine xvalP (pv_lenS UndC.h rfl) rfl rfl ?_
      | refine xvalP (pv_lenRb UndC.h rfl) rfl rfl ?_
      | refine xvalP (pv_lenV UndC.h rfl) rfl rfl ?_
      | refine xvalP (pv_not rfl) rfl rfl ?_
      | refine xvalP (pv_nilCheck rfl) rfl rfl ?_
      | refine xvalP (pv_nilCheckE rfl) rfl rfl ?_
      | refine xvalP (pv_nilCheckF rfl) rfl rfl ?_
      | refine xvalP (pv_extract rfl rfl) rfl rfl ?_
      | refine xvalP (qv_field FldC.h rfl rfl) rfl rfl ?_
      | refine xvalP (pv_indexAddr UndC.h ShpC.h rfl rfl rfl (map_at (by assumption))) rfl rfl ?_
      | refine xvalP (pv_indexAddrB UndC.h ShpC.h rfl rfl (Int.toNat_of_nonneg (by decide)).symm (by decide)) rfl rfl ?_
      | refine xvalP (pv_indexAddrE UndC.h ShpC.h rfl rfl (Int.toNat_of_nonneg (by decide)).symm (by decide)) rfl rfl ?_
      | refine xvalP (pv_eqB UndC.h rfl rfl) rfl rfl ?_
      | refine xvalP (pv_neB UndC.h rfl rfl) rfl rfl ?_
      | refine xvalP (pv_convI UndC.h UndC.h rfl) rfl rfl ?_
      | refine xvalP (pv_buildC StrC.h rfl rfl) rfl rfl ?_
      | refine xalloc InfC.h rfl rfl fun _ => ?_
      | refine xbuildSliceC UndC.h InfC.h rfl rfl rfl rfl rfl rfl fun _ => ?_
      | refine xvalP (pv_makeFuncC rfl) rfl rfl ?_
      | refine xbox rfl rfl rfl rfl fun _ => ?_
      | refine xstore 0 ShpC.h rfl rfl rfl rfl rfl rfl rfl ?_
      | refine xstore 1 ShpC.h rfl rfl rfl rfl rfl rfl rfl ?_
      | refine xstore 2 ShpC.h rfl rfl rfl rfl rfl rfl rfl ?_
      | refine xstore 3 ShpC.h rfl rfl rfl rfl rfl rfl rfl ?_
      | refine xstore 4 ShpC.h rfl rfl rfl rfl rfl rfl rfl ?_
      | refine xskip rfl rfl ?_
      | refine xskip0 rfl ?_
      | refine xcondT rfl ?_
      | refine xcondF rfl ?_
      | refine xskipc ?_
      | refine xexit ?_
      | refine xretc ?_
      | refine xin_normal ?_
      | refine xin_ret ?_
      | refine xthen_exit ?_
      | refine xthen_ret ?_
      | refine xin_same rfl ?_
      | refine xin_other rfl ?_
  refine xguardD rfl rfl (fun h1 => ?_) (fun h1 => ?_)
  · repeat
      first
      | refine xseq ?_
      | first
        | refine xregion ?_
        | refine xvalP (pv_move rfl) rfl rfl ?_
        | refine xvalP (pv_assign rfl) rfl rfl ?_
        | refine xvalP (pv_add1 rfl rfl (by omega)) rfl rfl ?_
        | refine xvalP (pv_sub1 rfl rfl (by omega)) rfl rfl ?_
        | refine xvalP (pv_bin2 rfl rfl rfl) rfl rfl ?_
        | refine xnil ?_
        | refine xthen ?_
        | refine xblock ?_
        | refine xval (qv_load ShpC.h rfl rfl rfl) rfl rfl ?_
        | refine xvalP (qv_fieldAddrB FldC.h rfl) rfl rfl ?_
        | refine xvalP (qv_fieldAddrE FldC.h rfl) rfl rfl ?_
        | refine xval (qv_loadB 0 ShpC.h rfl rfl rfl rfl) rfl rfl ?_
        | refine xval (qv_loadB 1 ShpC.h rfl rfl rfl rfl) rfl rfl ?_
        | refine xval (qv_loadB 2 ShpC.h rfl rfl rfl rfl) rfl rfl ?_
        | refine xval (qv_loadB 3 ShpC.h rfl rfl rfl rfl) rfl rfl ?_
        | refine xval (qv_loadB 4 ShpC.h rfl rfl rfl rfl) rfl rfl ?_
        | refine xvalP (pv_pick rfl rfl) rfl rfl ?_
        | refine xvalP (pv_len UndC.h rfl rfl) rfl rfl ?_
        | refine xvalP (pv_lenS UndC.h rfl) rfl rfl ?_
        | refine xvalP (pv_lenRb UndC.h rfl) rfl rfl ?_
        | refine xvalP (pv_lenV UndC.h rfl) rfl rfl ?_
        | refine xvalP (pv_not rfl) rfl rfl ?_
        | refine xvalP (pv_nilCheck rfl) rfl rfl ?_
        | refine xvalP (pv_nilCheckE rfl) rfl rfl ?_
        | refine xvalP (pv_nilCheckF rfl) rfl rfl ?_
        | refine xvalP (pv_extract rfl rfl) rfl rfl ?_
        | refine xvalP (qv_field FldC.h rfl rfl) rfl rfl ?_
        | refine xvalP (pv_indexAddr UndC.h ShpC.h rfl rfl rfl (map_at (by assumption))) rfl rfl ?_
        | refine xvalP (pv_indexAddrB UndC.h ShpC.h rfl rfl (Int.toNat_of_nonneg (by decide)).symm (by decide)) rfl rfl ?_
        | refine xvalP (pv_indexAddrE UndC.h ShpC.h rfl rfl (Int.toNat_of_nonneg (by decide)).symm (by decide)) rfl rfl ?_
        | refine xvalP (pv_eqB UndC.h rfl rfl) rfl rfl ?_
        | refine xvalP (pv_neB UndC.h rfl rfl) rfl rfl ?_
        | refine xvalP (pv_convI UndC.h UndC.h rfl) rfl rfl ?_
        | refine xvalP (pv_buildC StrC.h rfl rfl) rfl rfl ?_
        | refine xalloc InfC.h rfl rfl fun _ => ?_
        | refine xbuildSliceC UndC.h InfC.h rfl rfl rfl rfl rfl rfl fun _ => ?_
        | refine xvalP (pv_makeFuncC rfl) rfl rfl ?_
        | refine xbox rfl rfl rfl rfl fun _ => ?_
        | refine xstore 0 ShpC.h rfl rfl rfl rfl rfl rfl rfl ?_
        | refine xstore 1 ShpC.h rfl rfl rfl rfl rfl rfl rfl ?_
        | refine xstore 2 ShpC.h rfl rfl rfl rfl rfl rfl rfl ?_
        | refine xstore 3 ShpC.h rfl rfl rfl rfl rfl rfl rfl ?_
        | refine xstore 4 ShpC.h rfl rfl rfl rfl rfl rfl rfl ?_
        | refine xskip rfl rfl ?_
        | refine xskip0 rfl ?_
        | refine xcondT rfl ?_
        | refine xcondF rfl ?_
        | refine xskipc ?_
        | refine xexit ?_
        | refine xretc ?_
        | refine xin_normal ?_
        | refine xin_ret ?_
        | refine xthen_exit ?_
        | refine xthen_ret ?_
        | refine xin_same rfl ?_
        | refine xin_other rfl ?_
    refine xguardD rfl rfl (fun h2 => ?_) (fun h2 => ?_)
    · repeat
        first
        | refine xseq ?_
        | first
          | refine xregion ?_
          | refine xvalP (pv_move rfl) rfl rfl ?_
          | refine xvalP (pv_assign rfl) rfl rfl ?_
          | refine xvalP (pv_add1 rfl rfl (by omega)) rfl rfl ?_
          | refine xvalP (pv_sub1 rfl rfl (by omega)) rfl rfl ?_
          | refine xvalP (pv_bin2 rfl rfl rfl) rfl rfl ?_
          | refine xnil ?_
          | refine xthen ?_
          | refine xblock ?_
          | refine xval (qv_load ShpC.h rfl rfl rfl) rfl rfl ?_
          | refine xvalP (qv_fieldAddrB FldC.h rfl) rfl rfl ?_
          | refine xvalP (qv_fieldAddrE FldC.h rfl) rfl rfl ?_
          | refine xval (qv_loadB 0 ShpC.h rfl rfl rfl rfl) rfl rfl ?_
          | refine xval (qv_loadB 1 ShpC.h rfl rfl rfl rfl) rfl rfl ?_
          | refine xval (qv_loadB 2 ShpC.h rfl rfl rfl rfl) rfl rfl ?_
          | refine xval (qv_loadB 3 ShpC.h rfl rfl rfl rfl) rfl rfl ?_
          | refine xval (qv_loadB 4 ShpC.h rfl rfl rfl rfl) rfl rfl ?_
          | refine xvalP (pv_pick rfl rfl) rfl rfl ?_
          | refine xvalP (pv_len UndC.h rfl rfl) rfl rfl ?_
          | refine xvalP (pv_lenS UndC.h rfl) rfl rfl ?_
          | refine xvalP (pv_lenRb UndC.h rfl) rfl rfl ?_
          | refine xvalP (pv_lenV UndC.h rfl) rfl rfl ?_
          | refine xvalP (pv_not rfl) rfl rfl ?_
          | refine xvalP (pv_nilCheck rfl) rfl rfl ?_
          | refine xvalP (pv_nilCheckE rfl) rfl rfl ?_
          | refine xvalP (pv_nilCheckF rfl) rfl rfl ?_
          | refine xvalP (pv_extract rfl rfl) rfl rfl ?_
          | refine xvalP (qv_field FldC.h rfl rfl) rfl rfl ?_
          | refine xvalP (pv_indexAddr UndC.h ShpC.h rfl rfl rfl (map_at (by assumption))) rfl rfl ?_
          | refine xvalP (pv_indexAddrB UndC.h ShpC.h rfl rfl (Int.toNat_of_nonneg (by decide)).symm (by decide)) rfl rfl ?_
          | refine xvalP (pv_indexAddrE UndC.h ShpC.h rfl rfl (Int.toNat_of_nonneg (by decide)).symm (by decide)) rfl rfl ?_
          | refine xvalP (pv_eqB UndC.h rfl rfl) rfl rfl ?_
          | refine xvalP (pv_neB UndC.h rfl rfl) rfl rfl ?_
          | refine xvalP (pv_convI UndC.h UndC.h rfl) rfl rfl ?_
          | refine xvalP (pv_buildC StrC.h rfl rfl) rfl rfl ?_
          | refine xalloc InfC.h rfl rfl fun _ => ?_
          | refine xbuildSliceC UndC.h InfC.h rfl rfl rfl rfl rfl rfl fun _ => ?_
          | refine xvalP (pv_makeFuncC rfl) rfl rfl ?_
          | refine xbox rfl rfl rfl rfl fun _ => ?_
          | refine xstore 0 ShpC.h rfl rfl rfl rfl rfl rfl rfl ?_
          | refine xstore 1 ShpC.h rfl rfl rfl rfl rfl rfl rfl ?_
          | refine xstore 2 ShpC.h rfl rfl rfl rfl rfl rfl rfl ?_
          | refine xstore 3 ShpC.h rfl rfl rfl rfl rfl rfl rfl ?_
          | refine xstore 4 ShpC.h rfl rfl rfl rfl rfl rfl rfl ?_
          | refine xskip rfl rfl ?_
          | refine xskip0 rfl ?_
          | refine xcondT rfl ?_
          | refine xcondF rfl ?_
          | refine xskipc ?_
          | refine xexit ?_
          | refine xretc ?_
          | refine xin_normal ?_
          | refine xin_ret ?_
          | refine xthen_exit ?_
          | refine xthen_ret ?_
          | refine xin_same rfl ?_
          | refine xin_other rfl ?_
      exact xret1 hg rfl rfl (.eq (by simp [h1, h2])) (SubM.none _ _) ⟨rfl, rfl, rfl⟩
    · repeat
        first
        | refine xseq ?_
        | first
          | refine xregion ?_
          | refine xvalP (pv_move rfl) rfl rfl ?_
          | refine xvalP (pv_assign rfl) rfl rfl ?_
          | refine xvalP (pv_add1 rfl rfl (by omega)) rfl rfl ?_
          | refine xvalP (pv_sub1 rfl rfl (by omega)) rfl rfl ?_
          | refine xvalP (pv_bin2 rfl rfl rfl) rfl rfl ?_
          | refine xnil ?_
          | refine xthen ?_
          | refine xblock ?_
          | refine xval (qv_load ShpC.h rfl rfl rfl) rfl rfl ?_
          | refine xvalP (qv_fieldAddrB FldC.h rfl) rfl rfl ?_
          | refine xvalP (qv_fieldAddrE FldC.h rfl) rfl rfl ?_
          | refine xval (qv_loadB 0 ShpC.h rfl rfl rfl rfl) rfl rfl ?_
          | refine xval (qv_loadB 1 ShpC.h rfl rfl rfl rfl) rfl rfl ?_
          | refine xval (qv_loadB 2 ShpC.h rfl rfl rfl rfl) rfl rfl ?_
          | refine xval (qv_loadB 3 ShpC.h rfl rfl rfl rfl) rfl rfl ?_
          | refine xval (qv_loadB 4 ShpC.h rfl rfl rfl rfl) rfl rfl ?_
          | refine xvalP (pv_pick rfl rfl) rfl rfl ?_
          | refine xvalP (pv_len UndC.h rfl rfl) rfl rfl ?_
          | refine xvalP (pv_lenS UndC.h rfl) rfl rfl ?_
          | refine xvalP (pv_lenRb UndC.h rfl) rfl rfl ?_
          | refine xvalP (pv_lenV UndC.h rfl) rfl rfl ?_
          | refine xvalP (pv_not rfl) rfl rfl ?_
          | refine xvalP (pv_nilCheck rfl) rfl rfl ?_
          | refine xvalP (pv_nilCheckE rfl) rfl rfl ?_
          | refine xvalP (pv_nilCheckF rfl) rfl rfl ?_
          | refine xvalP (pv_extract rfl rfl) rfl rfl ?_
          | refine xvalP (qv_field FldC.h rfl rfl) rfl rfl ?_
          | refine xvalP (pv_indexAddr UndC.h ShpC.h rfl rfl rfl (map_at (by assumption))) rfl rfl ?_
          | refine xvalP (pv_indexAddrB UndC.h ShpC.h rfl rfl (Int.toNat_of_nonneg (by decide)).symm (by decide)) rfl rfl ?_
          | refine xvalP (pv_indexAddrE UndC.h ShpC.h rfl rfl (Int.toNat_of_nonneg (by decide)).symm (by decide)) rfl rfl ?_
          | refine xvalP (pv_eqB UndC.h rfl rfl) rfl rfl ?_
          | refine xvalP (pv_neB UndC.h rfl rfl) rfl rfl ?_
          | refine xvalP (pv_convI UndC.h UndC.h rfl) rfl rfl ?_
          | refine xvalP (pv_buildC StrC.h rfl rfl) rfl rfl ?_
          | refine xalloc InfC.h rfl rfl fun _ => ?_
          | refine xbuildSliceC UndC.h InfC.h rfl rfl rfl rfl rfl rfl fun _ => ?_
          | refine xvalP (pv_makeFuncC rfl) rfl rfl ?_
          | refine xbox rfl rfl rfl rfl fun _ => ?_
          | refine xstore 0 ShpC.h rfl rfl rfl rfl rfl rfl rfl ?_
          | refine xstore 1 ShpC.h rfl rfl rfl rfl rfl rfl rfl ?_
          | refine xstore 2 ShpC.h rfl rfl rfl rfl rfl rfl rfl ?_
          | refine xstore 3 ShpC.h rfl rfl rfl rfl rfl rfl rfl ?_
          | refine xstore 4 ShpC.h rfl rfl rfl rfl rfl rfl rfl ?_
          | refine xskip rfl rfl ?_
          | refine xskip0 rfl ?_
          | refine xcondT rfl ?_
          | refine xcondF rfl ?_
          | refine xskipc ?_
          | refine xexit ?_
          | refine xretc ?_
          | refine xin_normal ?_
          | refine xin_ret ?_
          | refine xthen_exit ?_
          | refine xthen_ret ?_
          | refine xin_same rfl ?_
          | refine xin_other rfl ?_
      exact xret1 hg rfl rfl (.eq (by rw [decide_eq_false fun h => h2 h.2.1]; rfl)) (SubM.none _ _) ⟨rfl, rfl, rfl⟩
  · repeat
      first
      | refine xseq ?_
      | first
        | refine xregion ?_
        | refine xvalP (pv_move rfl) rfl rfl ?_
        | refine xvalP (pv_assign rfl) rfl rfl ?_
        | refine xvalP (pv_add1 rfl rfl (by omega)) rfl rfl ?_
        | refine xvalP (pv_sub1 rfl rfl (by omega)) rfl rfl ?_
        | refine xvalP (pv_bin2 rfl rfl rfl) rfl rfl ?_
        | refine xnil ?_
        | refine xthen ?_
        | refine xblock ?_
        | refine xval (qv_load ShpC.h rfl rfl rfl) rfl rfl ?_
        | refine xvalP (qv_fieldAddrB FldC.h rfl) rfl rfl ?_
        | refine xvalP (qv_fieldAddrE FldC.h rfl) rfl rfl ?_
        | refine xval (qv_loadB 0 ShpC.h rfl rfl rfl rfl) rfl rfl ?_
        | refine xval (qv_loadB 1 ShpC.h rfl rfl rfl rfl) rfl rfl ?_
        | refine xval (qv_loadB 2 ShpC.h rfl rfl rfl rfl) rfl rfl ?_
        | refine xval (qv_loadB 3 ShpC.h rfl rfl rfl rfl) rfl rfl ?_
        | refine xval (qv_loadB 4 ShpC.h rfl rfl rfl rfl) rfl rfl ?_
        | refine xvalP (pv_pick rfl rfl) rfl rfl ?_
        | refine xvalP (pv_len UndC.h rfl rfl) rfl rfl ?_
        | refine xvalP (pv_lenS UndC.h rfl) rfl rfl ?_
        | refine xvalP (pv_lenRb UndC.h rfl) rfl rfl ?_
        | refine xvalP (pv_lenV UndC.h rfl) rfl rfl ?_
        | refine xvalP (pv_not rfl) rfl rfl ?_
        | refine xvalP (pv_nilCheck rfl) rfl rfl ?_
        | refine xvalP (pv_nilCheckE rfl) rfl rfl ?_
        | refine xvalP (pv_nilCheckF rfl) rfl rfl ?_
        | refine xvalP (pv_extract rfl rfl) rfl rfl ?_
        | refine xvalP (qv_field FldC.h rfl rfl) rfl rfl ?_
        | refine xvalP (pv_indexAddr UndC.h ShpC.h rfl rfl rfl (map_at (by assumption))) rfl rfl ?_
        | refine xvalP (pv_indexAddrB UndC.h ShpC.h rfl rfl (Int.toNat_of_nonneg (by decide)).symm (by decide)) rfl rfl ?_
        | refine xvalP (pv_indexAddrE UndC.h ShpC.h rfl rfl (Int.toNat_of_nonneg (by decide)).symm (by decide)) rfl rfl ?_
        | refine xvalP (pv_eqB UndC.h rfl rfl) rfl rfl ?_
        | refine xvalP (pv_neB UndC.h rfl rfl) rfl rfl ?_
        | refine xvalP (pv_convI UndC.h UndC.h rfl) rfl rfl ?_
        | refine xvalP (pv_buildC StrC.h rfl rfl) rfl rfl ?_
        | refine xalloc InfC.h rfl rfl fun _ => ?_
        | refine xbuildSliceC UndC.h InfC.h rfl rfl rfl rfl rfl rfl fun _ => ?_
        | refine xvalP (pv_makeFuncC rfl) rfl rfl ?_
        | refine xbox rfl rfl rfl rfl fun _ => ?_
        | refine xstore 0 ShpC.h rfl rfl rfl rfl rfl rfl rfl ?_
        | refine xstore 1 ShpC.h rfl rfl rfl rfl rfl rfl rfl ?_
        | refine xstore 2 ShpC.h rfl rfl rfl rfl rfl rfl rfl ?_
        | refine xstore 3 ShpC.h rfl rfl rfl rfl rfl rfl rfl ?_
        | refine xstore 4 ShpC.h rfl rfl rfl rfl rfl rfl rfl ?_
        | refine xskip rfl rfl ?_
        | refine xskip0 rfl ?_
        | refine xcondT rfl ?_
        | refine xcondF rfl ?_
        | refine xskipc ?_
        | refine xexit ?_
        | refine xretc ?_
        | refine xin_normal ?_
        | refine xin_ret ?_
        | refine xthen_exit ?_
        | refine xthen_ret ?_
        | refine xin_same rfl ?_
        | refine xin_other rfl ?_
    exact xret1 hg rfl rfl (.eq (by rw [decide_eq_false fun h => h1 h.1]; rfl)) (SubM.none _ _) ⟨rfl, rfl, rfl⟩

/-- A part: its kind, its group, its bytes. -/
abbrev PartT := Int × Int × List UInt8
def encP (p : PartT) : List Sd := [.v (.int .i64 p.1), .v (.int .i64 p.2.1), .sl 1 none (p.2.2.map eb)]
def hitC (sp : List (Int × Int)) : List Sd := sp.flatMap fun s => [.v (.int .i64 s.1), .v (.int .i64 s.2)]
theorem hitC_length (sp : List (Int × Int)) : (hitC sp).length = 2 * sp.length := by
  induction sp with
  | nil => rfl
  | cons s sp ih => unfold hitC at *; rw [List.flatMap_cons, List.length_append, ih, List.length_cons]; simp; omega
theorem hitC_at : ∀ {sp : List (Int × Int)} {i : Nat} {f u : Int}, sp[i]? = some (f, u) → ((hitC sp).drop (0 + 0 + i * 2)).take 2 = [.v (.int .i64 f), .v (.int .i64 u)]
  | s :: sp, 0, f, u, h => by simp at h; subst h; rfl
  | s :: sp, i + 1, f, u, h => by
    have ih := hitC_at (sp := sp) (i := i) (f := f) (u := u) (by simpa using h)
    rw [show 0 + 0 + (i + 1) * 2 = (0 + 0 + i * 2) + 2 by omega]
    exact ih
/-- What a part becomes. -/
def expOne (text : List UInt8) (sp : List (Int × Int)) (p : PartT) : List UInt8 :=
  if p.1 = 0 then p.2.2 else if p.1 = 1 ∧ 0 ≤ p.2.1 ∧ p.2.1 < 10 then (match sp[p.2.1.toNat]? with
    | some (f, u) => if 0 ≤ f ∧ f ≤ u ∧ u ≤ (text.length : Int) then (text.take u.toNat).drop f.toNat else []
    | none => []) else []
def expand (text : List UInt8) (sp : List (Int × Int)) (l : List PartT) : List UInt8 := (l.map (expOne text sp)).flatten
theorem expand_snoc {text : List UInt8} {sp : List (Int × Int)} {l : List PartT} {k : Nat} {p : PartT} (h : l[k]? = some p) : expand text sp (l.take (k + 1)) = expand text sp (l.take k) ++ expOne text sp p := by
  unfold expand
  rw [List.take_add_one, h]
  simp
theorem expand_le (text : List UInt8) (sp : List (Int × Int)) (l : List PartT) (k : Nat) : (expand text sp (l.take k)).length ≤ (expand text sp l).length := by
  unfold expand
  conv => rhs; rw [← List.take_append_drop k l]
  rw [List.map_append, List.flatten_append, List.length_append]
  omega

def ExpInv (l : List PartT) (text : List UInt8) (sp : List (Int × Int)) (b0 : Nat) (σ : St) (m : Nat) : Prop := ∃ k id, k ≤ l.length ∧ m = l.length - k ∧
  σ = ⟨[(7, .sl 1 (some id) ((expand text sp (l.take k)).map eb)), (13, .v (.int .i64 (k : Int))), (12, .v (.int .i64 ((l.map encP).length : Int))), (11, .sl 3 none (l.map encP)), (1, .sl 1 none (text.map eb)), (5, .v (.pointer (some ⟨b0, 0, none⟩)))],
    [⟨b0, 28, hitC sp⟩], [⟨id, 5, 1, (expand text sp (l.take k)).length⟩]⟩

set_option maxHeartbeats 1000000 in
theorem expand_any (l : List PartT) (text : List UInt8) (sp : List (Int × Int)) (h10 : sp.length = 10) (hl : l.length ≤ 1000) (hb : (expand text sp l).length ≤ 1000000) :
    Con Try.prog 10 [.sl 3 none (l.map encP), .sl 1 none (text.map eb), .agg (hitC sp)] [] [] (RetO 1 5 ((expand text sp l).map eb)) := by
  refine xenter Try.func10 rfl rfl fun g hg => ?_
  simp only [Try.ntmps10, slots]
  repeat
    first
    | refine xseq ?_
    | first
      | refine xregion ?_
      | refine xvalP (pv_move rfl) rfl rfl ?_
      | refine xvalP (pv_assign rfl) rfl rfl ?_
      | refine xvalP (pv_add1 rfl rfl (by omega)) rfl rfl ?_
      | refine xvalP (pv_sub1 rfl rfl (by omega)) rfl rfl ?_
      | refine xvalP (pv_bin2 rfl rfl rfl) rfl rfl ?_
      | refine xnil ?_
      | refine xthen ?_
      | refine xblock ?_
      | refine xval (qv_load ShpC.h rfl rfl rfl) rfl rfl ?_
      | refine xvalP (qv_fieldAddrB FldC.h rfl) rfl rfl ?_
      | refine xvalP (qv_fieldAddrE FldC.h rfl) rfl rfl ?_
      | refine xval (qv_loadB 0 ShpC.h rfl rfl rfl rfl) rfl rfl ?_
      | refine xval (qv_loadB 1 ShpC.h rfl rfl rfl rfl) rfl rfl ?_
      | refine xval (qv_loadB 2 ShpC.h rfl rfl rfl rfl) rfl rfl ?_
      | refine xval (qv_loadB 3 ShpC.h rfl rfl rfl rfl) rfl rfl ?_
      | refine xval (qv_loadB 4 ShpC.h rfl rfl rfl rfl) rfl rfl ?_
      | refine xvalP (pv_pick rfl rfl) rfl rfl ?_
      | refine xvalP (pv_len UndC.h rfl rfl) rfl rfl ?_
      | refine xvalP (pv_lenS UndC.h rfl) rfl rfl ?_
      | refine xvalP (pv_lenRb UndC.h rfl) rfl rfl ?_
      | refine xvalP (pv_lenV UndC.h rfl) rfl rfl ?_
      | refine xvalP (pv_not rfl) rfl rfl ?_
      | refine xvalP (pv_nilCheck rfl) rfl rfl ?_
      | refine xvalP (pv_nilCheckE rfl) rfl rfl ?_
      | refine xvalP (pv_nilCheckF rfl) rfl rfl ?_
      | refine xvalP (pv_extract rfl rfl) rfl rfl ?_
      | refine xvalP (qv_field FldC.h rfl rfl) rfl rfl ?_
      | refine xvalP (pv_indexAddr UndC.h ShpC.h rfl rfl rfl (map_at (by assumption))) rfl rfl ?_
      | refine xvalP (pv_indexAddrB UndC.h ShpC.h rfl rfl (Int.toNat_of_nonneg (by decide)).symm (by decide)) rfl rfl ?_
      | refine xvalP (pv_indexAddrE UndC.h ShpC.h rfl rfl (Int.toNat_of_nonneg (by decide)).symm (by decide)) rfl rfl ?_
      | refine xvalP (pv_eqB UndC.h rfl rfl) rfl rfl ?_
      | refine xvalP (pv_neB UndC.h rfl rfl) rfl rfl ?_
      | refine xvalP (pv_convI UndC.h UndC.h rfl) rfl rfl ?_
      | refine xvalP (pv_buildC StrC.h rfl rfl) rfl rfl ?_
      | refine xalloc InfC.h rfl rfl fun _ => ?_
      | refine xbuildSliceC UndC.h InfC.h rfl rfl rfl rfl rfl rfl fun _ => ?_
      | refine xvalP (pv_makeFuncC rfl) rfl rfl ?_
      | refine xbox rfl rfl rfl rfl fun _ => ?_
      | refine xstore 0 ShpC.h rfl rfl rfl rfl rfl rfl rfl ?_
      | refine xstore 1 ShpC.h rfl rfl rfl rfl rfl rfl rfl ?_
      | refine xstore 2 ShpC.h rfl rfl rfl rfl rfl rfl rfl ?_
      | refine xstore 3 ShpC.h rfl rfl rfl rfl rfl rfl rfl ?_
      | refine xstore 4 ShpC.h rfl rfl rfl rfl rfl rfl rfl ?_
      | refine xskip rfl rfl ?_
      | refine xskip0 rfl ?_
      | refine xcondT rfl ?_
      | refine xcondF rfl ?_
      | refine xskipc ?_
      | refine xexit ?_
      | refine xretc ?_
      | refine xin_normal ?_
      | refine xin_ret ?_
      | refine xthen_exit ?_
      | refine xthen_ret ?_
      | refine xin_same rfl ?_
      | refine xin_other rfl ?_
  refine xloop (ExpInv l text sp _) ⟨0, none, Nat.zero_le _, rfl, rfl⟩ ⟨.cons rfl (.nil_own 1) (.cons rfl (.refl _) (.cons rfl (.refl _) (.cons rfl (.refl _) (.cons rfl (.refl _) (.cons rfl (.refl _) (.nil _)))))), SubM.addNil _ _ _ _ _⟩ ?_
  rintro _ m ⟨k, id, hk, rfl, rfl⟩
  repeat
    first
    | refine xseq ?_
    | first
      | refine xregion ?_
      | refine xvalP (pv_move rfl) rfl rfl ?_
      | refine xvalP (pv_assign rfl) rfl rfl ?_
      | refine xvalP (pv_add1 rfl rfl (by omega)) rfl rfl ?_
      | refine xvalP (pv_sub1 rfl rfl (by omega)) rfl rfl ?_
      | refine xvalP (pv_bin2 rfl rfl rfl) rfl rfl ?_
      | refine xnil ?_
      | refine xthen ?_
      | refine xblock ?_
      | refine xval (qv_load ShpC.h rfl rfl rfl) rfl rfl ?_
      | refine xvalP (qv_fieldAddrB FldC.h rfl) rfl rfl ?_
      | refine xvalP (qv_fieldAddrE FldC.h rfl) rfl rfl ?_
      | refine xval (qv_loadB 0 ShpC.h rfl rfl rfl rfl) rfl rfl ?_
      | refine xval (qv_loadB 1 ShpC.h rfl rfl rfl rfl) rfl rfl ?_
      | refine xval (qv_loadB 2 ShpC.h rfl rfl rfl rfl) rfl rfl ?_
      | refine xval (qv_loadB 3 ShpC.h rfl rfl rfl rfl) rfl rfl ?_
      | refine xval (qv_loadB 4 ShpC.h rfl rfl rfl rfl) rfl rfl ?_
      | refine xvalP (pv_pick rfl rfl) rfl rfl ?_
      | refine xvalP (pv_len UndC.h rfl rfl) rfl rfl ?_
      | refine xvalP (pv_lenS UndC.h rfl) rfl rfl ?_
      | refine xvalP (pv_lenRb UndC.h rfl) rfl rfl ?_
      | refine xvalP (pv_lenV UndC.h rfl) rfl rfl ?_
      | refine xvalP (pv_not rfl) rfl rfl ?_
      | refine xvalP (pv_nilCheck rfl) rfl rfl ?_
      | refine xvalP (pv_nilCheckE rfl) rfl rfl ?_
      | refine xvalP (pv_nilCheckF rfl) rfl rfl ?_
      | refine xvalP (pv_extract rfl rfl) rfl rfl ?_
      | refine xvalP (qv_field FldC.h rfl rfl) rfl rfl ?_
      | refine xvalP (pv_indexAddr UndC.h ShpC.h rfl rfl rfl (map_at (by assumption))) rfl rfl ?_
      | refine xvalP (pv_indexAddrB UndC.h ShpC.h rfl rfl (Int.toNat_of_nonneg (by decide)).symm (by decide)) rfl rfl ?_
      | refine xvalP (pv_indexAddrE UndC.h ShpC.h rfl rfl (Int.toNat_of_nonneg (by decide)).symm (by decide)) rfl rfl ?_
      | refine xvalP (pv_eqB UndC.h rfl rfl) rfl rfl ?_
      | refine xvalP (pv_neB UndC.h rfl rfl) rfl rfl ?_
      | refine xvalP (pv_convI UndC.h UndC.h rfl) rfl rfl ?_
      | refine xvalP (pv_buildC StrC.h rfl rfl) rfl rfl ?_
      | refine xalloc InfC.h rfl rfl fun _ => ?_
      | refine xbuildSliceC UndC.h InfC.h rfl rfl rfl rfl rfl rfl fun _ => ?_
      | refine xvalP (pv_makeFuncC rfl) rfl rfl ?_
      | refine xbox rfl rfl rfl rfl fun _ => ?_
      | refine xstore 0 ShpC.h rfl rfl rfl rfl rfl rfl rfl ?_
      | refine xstore 1 ShpC.h rfl rfl rfl rfl rfl rfl rfl ?_
      | refine xstore 2 ShpC.h rfl rfl rfl rfl rfl rfl rfl ?_
      | refine xstore 3 ShpC.h rfl rfl rfl rfl rfl rfl rfl ?_
      | refine xstore 4 ShpC.h rfl rfl rfl rfl rfl rfl rfl ?_
      | refine xskip rfl rfl ?_
      | refine xskip0 rfl ?_
      | refine xcondT rfl ?_
      | refine xcondF rfl ?_
      | refine xskipc ?_
      | refine xexit ?_
      | refine xretc ?_
      | refine xin_normal ?_
      | refine xin_ret ?_
      | refine xthen_exit ?_
      | refine xthen_ret ?_
      | refine xin_same rfl ?_
      | refine xin_other rfl ?_
  refine xcondD rfl (fun h1 => ?_) (fun h1 => ?_)
  · have hk1 : k < l.length := by simpa using h1
    obtain ⟨p, hp⟩ : ∃ p, l[k]? = some p := ⟨_, List.getElem?_eq_getElem hk1⟩
    have hk2 := expand_le text sp l (k + 1)
    have hsn := expand_snoc (text := text) (sp := sp) hp
    rw [hsn, List.length_append] at hk2
    repeat
      first
      | refine xseq ?_
      | first
        | refine xregion ?_
        | refine xvalP (pv_move rfl) rfl rfl ?_
        | refine xvalP (pv_assign rfl) rfl rfl ?_
        | refine xvalP (pv_add1 rfl rfl (by omega)) rfl rfl ?_
        | refine xvalP (pv_sub1 rfl rfl (by omega)) rfl rfl ?_
        | refine xvalP (pv_bin2 rfl rfl rfl) rfl rfl ?_
        | refine xnil ?_
        | refine xthen ?_
        | refine xblock ?_
        | refine xval (qv_load ShpC.h rfl rfl rfl) rfl rfl ?_
        | refine xvalP (qv_fieldAddrB FldC.h rfl) rfl rfl ?_
        | refine xvalP (qv_fieldAddrE FldC.h rfl) rfl rfl ?_
        | refine xval (qv_loadB 0 ShpC.h rfl rfl rfl rfl) rfl rfl ?_
        | refine xval (qv_loadB 1 ShpC.h rfl rfl rfl rfl) rfl rfl ?_
        | refine xval (qv_loadB 2 ShpC.h rfl rfl rfl rfl) rfl rfl ?_
        | refine xval (qv_loadB 3 ShpC.h rfl rfl rfl rfl) rfl rfl ?_
        | refine xval (qv_loadB 4 ShpC.h rfl rfl rfl rfl) rfl rfl ?_
        | refine xvalP (pv_pick rfl rfl) rfl rfl ?_
        | refine xvalP (pv_len UndC.h rfl rfl) rfl rfl ?_
        | refine xvalP (pv_lenS UndC.h rfl) rfl rfl ?_
        | refine xvalP (pv_lenRb UndC.h rfl) rfl rfl ?_
        | refine xvalP (pv_lenV UndC.h rfl) rfl rfl ?_
        | refine xvalP (pv_not rfl) rfl rfl ?_
        | refine xvalP (pv_nilCheck rfl) rfl rfl ?_
        | refine xvalP (pv_nilCheckE rfl) rfl rfl ?_
        | refine xvalP (pv_nilCheckF rfl) rfl rfl ?_
        | refine xvalP (pv_extract rfl rfl) rfl rfl ?_
        | refine xvalP (qv_field FldC.h rfl rfl) rfl rfl ?_
        | refine xvalP (pv_indexAddr UndC.h ShpC.h rfl rfl rfl (map_at (by assumption))) rfl rfl ?_
        | refine xvalP (pv_indexAddrB UndC.h ShpC.h rfl rfl (Int.toNat_of_nonneg (by decide)).symm (by decide)) rfl rfl ?_
        | refine xvalP (pv_indexAddrE UndC.h ShpC.h rfl rfl (Int.toNat_of_nonneg (by decide)).symm (by decide)) rfl rfl ?_
        | refine xvalP (pv_eqB UndC.h rfl rfl) rfl rfl ?_
        | refine xvalP (pv_neB UndC.h rfl rfl) rfl rfl ?_
        | refine xvalP (pv_convI UndC.h UndC.h rfl) rfl rfl ?_
        | refine xvalP (pv_buildC StrC.h rfl rfl) rfl rfl ?_
        | refine xalloc InfC.h rfl rfl fun _ => ?_
        | refine xbuildSliceC UndC.h InfC.h rfl rfl rfl rfl rfl rfl fun _ => ?_
        | refine xvalP (pv_makeFuncC rfl) rfl rfl ?_
        | refine xbox rfl rfl rfl rfl fun _ => ?_
        | refine xstore 0 ShpC.h rfl rfl rfl rfl rfl rfl rfl ?_
        | refine xstore 1 ShpC.h rfl rfl rfl rfl rfl rfl rfl ?_
        | refine xstore 2 ShpC.h rfl rfl rfl rfl rfl rfl rfl ?_
        | refine xstore 3 ShpC.h rfl rfl rfl rfl rfl rfl rfl ?_
        | refine xstore 4 ShpC.h rfl rfl rfl rfl rfl rfl rfl ?_
        | refine xskip rfl rfl ?_
        | refine xskip0 rfl ?_
        | refine xcondT rfl ?_
        | refine xcondF rfl ?_
        | refine xskipc ?_
        | refine xexit ?_
        | refine xretc ?_
        | refine xin_normal ?_
        | refine xin_ret ?_
        | refine xthen_exit ?_
        | refine xthen_ret ?_
        | refine xin_same rfl ?_
        | refine xin_other rfl ?_
    refine xcondD rfl (fun h2 => ?_) (fun h2 => ?_)
    · have e1 : expOne text sp p = p.2.2 := if_pos h2
      rw [e1] at hsn hk2
      repeat
        first
        | refine xseq ?_
        | first
          | refine xregion ?_
          | refine xvalP (pv_move rfl) rfl rfl ?_
          | refine xvalP (pv_assign rfl) rfl rfl ?_
          | refine xvalP (pv_add1 rfl rfl (by omega)) rfl rfl ?_
          | refine xvalP (pv_sub1 rfl rfl (by omega)) rfl rfl ?_
          | refine xvalP (pv_bin2 rfl rfl rfl) rfl rfl ?_
          | refine xnil ?_
          | refine xthen ?_
          | refine xblock ?_
          | refine xval (qv_load ShpC.h rfl rfl rfl) rfl rfl ?_
          | refine xvalP (qv_fieldAddrB FldC.h rfl) rfl rfl ?_
          | refine xvalP (qv_fieldAddrE FldC.h rfl) rfl rfl ?_
          | refine xval (qv_loadB 0 ShpC.h rfl rfl rfl rfl) rfl rfl ?_
          | refine xval (qv_loadB 1 ShpC.h rfl rfl rfl rfl) rfl rfl ?_
          | refine xval (qv_loadB 2 ShpC.h rfl rfl rfl rfl) rfl rfl ?_
          | refine xval (qv_loadB 3 ShpC.h rfl rfl rfl rfl) rfl rfl ?_
          | refine xval (qv_loadB 4 ShpC.h rfl rfl rfl rfl) rfl rfl ?_
          | refine xvalP (pv_pick rfl rfl) rfl rfl ?_
          | refine xvalP (pv_len UndC.h rfl rfl) rfl rfl ?_
          | refine xvalP (pv_lenS UndC.h rfl) rfl rfl ?_
          | refine xvalP (pv_lenRb UndC.h rfl) rfl rfl ?_
          | refine xvalP (pv_lenV UndC.h rfl) rfl rfl ?_
          | refine xvalP (pv_not rfl) rfl rfl ?_
          | refine xvalP (pv_nilCheck rfl) rfl rfl ?_
          | refine xvalP (pv_nilCheckE rfl) rfl rfl ?_
          | refine xvalP (pv_nilCheckF rfl) rfl rfl ?_
          | refine xvalP (pv_extract rfl rfl) rfl rfl ?_
          | refine xvalP (qv_field FldC.h rfl rfl) rfl rfl ?_
          | refine xvalP (pv_indexAddr UndC.h ShpC.h rfl rfl rfl (map_at (by assumption))) rfl rfl ?_
          | refine xvalP (pv_indexAddrB UndC.h ShpC.h rfl rfl (Int.toNat_of_nonneg (by decide)).symm (by decide)) rfl rfl ?_
          | refine xvalP (pv_indexAddrE UndC.h ShpC.h rfl rfl (Int.toNat_of_nonneg (by decide)).symm (by decide)) rfl rfl ?_
          | refine xvalP (pv_eqB UndC.h rfl rfl) rfl rfl ?_
          | refine xvalP (pv_neB UndC.h rfl rfl) rfl rfl ?_
          | refine xvalP (pv_convI UndC.h UndC.h rfl) rfl rfl ?_
          | refine xvalP (pv_buildC StrC.h rfl rfl) rfl rfl ?_
          | refine xalloc InfC.h rfl rfl fun _ => ?_
          | refine xbuildSliceC UndC.h InfC.h rfl rfl rfl rfl rfl rfl fun _ => ?_
          | refine xvalP (pv_makeFuncC rfl) rfl rfl ?_
          | refine xbox rfl rfl rfl rfl fun _ => ?_
          | refine xstore 0 ShpC.h rfl rfl rfl rfl rfl rfl rfl ?_
          | refine xstore 1 ShpC.h rfl rfl rfl rfl rfl rfl rfl ?_
          | refine xstore 2 ShpC.h rfl rfl rfl rfl rfl rfl rfl ?_
          | refine xstore 3 ShpC.h rfl rfl rfl rfl rfl rfl rfl ?_
          | refine xstore 4 ShpC.h rfl rfl rfl rfl rfl rfl rfl ?_
          | refine xskip rfl rfl ?_
          | refine xskip0 rfl ?_
          | refine xcondT rfl ?_
          | refine xcondF rfl ?_
          | refine xskipc ?_
          | refine xexit ?_
          | refine xretc ?_
          | refine xin_normal ?_
          | refine xin_ret ?_
          | refine xthen_exit ?_
          | refine xthen_ret ?_
          | refine xin_same rfl ?_
          | refine xin_other rfl ?_
      refine xappend UndC.h InfC.h rfl 0 rfl rfl (.refl _) rfl (by simp) rfl rfl ⟨by simp [maxLen]; omega, by simp; omega⟩ fun id2 => ?_
      repeat
        first
        | refine xseq ?_
        | first
          | refine xregion ?_
          | refine xvalP (pv_move rfl) rfl rfl ?_
          | refine xvalP (pv_assign rfl) rfl rfl ?_
          | refine xvalP (pv_add1 rfl rfl (by omega)) rfl rfl ?_
          | refine xvalP (pv_sub1 rfl rfl (by omega)) rfl rfl ?_
          | refine xvalP (pv_bin2 rfl rfl rfl) rfl rfl ?_
          | refine xnil ?_
          | refine xthen ?_
          | refine xblock ?_
          | refine xval (qv_load ShpC.h rfl rfl rfl) rfl rfl ?_
          | refine xvalP (qv_fieldAddrB FldC.h rfl) rfl rfl ?_
          | refine xvalP (qv_fieldAddrE FldC.h rfl) rfl rfl ?_
          | refine xval (qv_loadB 0 ShpC.h rfl rfl rfl rfl) rfl rfl ?_
          | refine xval (qv_loadB 1 ShpC.h rfl rfl rfl rfl) rfl rfl ?_
          | refine xval (qv_loadB 2 ShpC.h rfl rfl rfl rfl) rfl rfl ?_
          | refine xval (qv_loadB 3 ShpC.h rfl rfl rfl rfl) rfl rfl ?_
          | refine xval (qv_loadB 4 ShpC.h rfl rfl rfl rfl) rfl rfl ?_
          | refine xvalP (pv_pick rfl rfl) rfl rfl ?_
          | refine xvalP (pv_len UndC.h rfl rfl) rfl rfl ?_
          | refine xvalP (pv_lenS UndC.h rfl) rfl rfl ?_
          | refine xvalP (pv_lenRb UndC.h rfl) rfl rfl ?_
          | refine xvalP (pv_lenV UndC.h rfl) rfl rfl ?_
          | refine xvalP (pv_not rfl) rfl rfl ?_
          | refine xvalP (pv_nilCheck rfl) rfl rfl ?_
          | refine xvalP (pv_nilCheckE rfl) rfl rfl ?_
          | refine xvalP (pv_nilCheckF rfl) rfl rfl ?_
          | refine xvalP (pv_extract rfl rfl) rfl rfl ?_
          | refine xvalP (qv_field FldC.h rfl rfl) rfl rfl ?_
          | refine xvalP (pv_indexAddr UndC.h ShpC.h rfl rfl rfl (map_at (by assumption))) rfl rfl ?_
          | refine xvalP (pv_indexAddrB UndC.h ShpC.h rfl rfl (Int.toNat_of_nonneg (by decide)).symm (by decide)) rfl rfl ?_
          | refine xvalP (pv_indexAddrE UndC.h ShpC.h rfl rfl (Int.toNat_of_nonneg (by decide)).symm (by decide)) rfl rfl ?_
          | refine xvalP (pv_eqB UndC.h rfl rfl) rfl rfl ?_
          | refine xvalP (pv_neB UndC.h rfl rfl) rfl rfl ?_
          | refine xvalP (pv_convI UndC.h UndC.h rfl) rfl rfl ?_
          | refine xvalP (pv_buildC StrC.h rfl rfl) rfl rfl ?_
          | refine xalloc InfC.h rfl rfl fun _ => ?_
          | refine xbuildSliceC UndC.h InfC.h rfl rfl rfl rfl rfl rfl fun _ => ?_
          | refine xvalP (pv_makeFuncC rfl) rfl rfl ?_
          | refine xbox rfl rfl rfl rfl fun _ => ?_
          | refine xstore 0 ShpC.h rfl rfl rfl rfl rfl rfl rfl ?_
          | refine xstore 1 ShpC.h rfl rfl rfl rfl rfl rfl rfl ?_
          | refine xstore 2 ShpC.h rfl rfl rfl rfl rfl rfl rfl ?_
          | refine xstore 3 ShpC.h rfl rfl rfl rfl rfl rfl rfl ?_
          | refine xstore 4 ShpC.h rfl rfl rfl rfl rfl rfl rfl ?_
          | refine xskip rfl rfl ?_
          | refine xskip0 rfl ?_
          | refine xcondT rfl ?_
          | refine xcondF rfl ?_
          | refine xskipc ?_
          | refine xexit ?_
          | refine xretc ?_
          | refine xin_normal ?_
          | refine xin_ret ?_
          | refine xthen_exit ?_
          | refine xthen_ret ?_
          | refine xin_same rfl ?_
          | refine xin_other rfl ?_
      refine xagain ⟨k + 1, id2, hk1, rfl, rfl⟩ (by omega) ⟨by (repeat (first | exact ImpT.nil _ | refine ImpT.cons rfl (by first | with_reducible exact Wk.refl _ | exact Wk.nil_own _ | exact Wk.nil_pl _ | with_reducible exact Wk.tok _ _ _ | exact Wk.tok _ _ _ | exact Wk.eq (by first | rfl | (simp [hsn]; done) | (simp [hsn]; omega))) ?_)), SubM.to (by (repeat (first | with_reducible exact List.Sublist.refl _ | refine List.Sublist.cons _ ?_))) (by simp [hsn])⟩
    · have e0 : ∀ q : Prop, expOne text sp p = [] → expand text sp (l.take (k + 1)) = expand text sp (l.take k) := fun _ e => by rw [hsn, e, List.append_nil]
      repeat
        first
        | refine xseq ?_
        | first
          | refine xregion ?_
          | refine xvalP (pv_move rfl) rfl rfl ?_
          | refine xvalP (pv_assign rfl) rfl rfl ?_
          | refine xvalP (pv_add1 rfl rfl (by omega)) rfl rfl ?_
          | refine xvalP (pv_sub1 rfl rfl (by omega)) rfl rfl ?_
          | refine xvalP (pv_bin2 rfl rfl rfl) rfl rfl ?_
          | refine xnil ?_
          | refine xthen ?_
          | refine xblock ?_
          | refine xval (qv_load ShpC.h rfl rfl rfl) rfl rfl ?_
          | refine xvalP (qv_fieldAddrB FldC.h rfl) rfl rfl ?_
          | refine xvalP (qv_fieldAddrE FldC.h rfl) rfl rfl ?_
          | refine xval (qv_loadB 0 ShpC.h rfl rfl rfl rfl) rfl rfl ?_
          | refine xval (qv_loadB 1 ShpC.h rfl rfl rfl rfl) rfl rfl ?_
          | refine xval (qv_loadB 2 ShpC.h rfl rfl rfl rfl) rfl rfl ?_
          | refine xval (qv_loadB 3 ShpC.h rfl rfl rfl rfl) rfl rfl ?_
          | refine xval (qv_loadB 4 ShpC.h rfl rfl rfl rfl) rfl rfl ?_
          | refine xvalP (pv_pick rfl rfl) rfl rfl ?_
          | refine xvalP (pv_len UndC.h rfl rfl) rfl rfl ?_
          | refine xvalP (pv_lenS UndC.h rfl) rfl rfl ?_
          | refine xvalP (pv_lenRb UndC.h rfl) rfl rfl ?_
          | refine xvalP (pv_lenV UndC.h rfl) rfl rfl ?_
          | refine xvalP (pv_not rfl) rfl rfl ?_
          | refine xvalP (pv_nilCheck rfl) rfl rfl ?_
          | refine xvalP (pv_nilCheckE rfl) rfl rfl ?_
          | refine xvalP (pv_nilCheckF rfl) rfl rfl ?_
          | refine xvalP (pv_extract rfl rfl) rfl rfl ?_
          | refine xvalP (qv_field FldC.h rfl rfl) rfl rfl ?_
          | refine xvalP (pv_indexAddr UndC.h ShpC.h rfl rfl rfl (map_at (by assumption))) rfl rfl ?_
          | refine xvalP (pv_indexAddrB UndC.h ShpC.h rfl rfl (Int.toNat_of_nonneg (by decide)).symm (by decide)) rfl rfl ?_
          | refine xvalP (pv_indexAddrE UndC.h ShpC.h rfl rfl (Int.toNat_of_nonneg (by decide)).symm (by decide)) rfl rfl ?_
          | refine xvalP (pv_eqB UndC.h rfl rfl) rfl rfl ?_
          | refine xvalP (pv_neB UndC.h rfl rfl) rfl rfl ?_
          | refine xvalP (pv_convI UndC.h UndC.h rfl) rfl rfl ?_
          | refine xvalP (pv_buildC StrC.h rfl rfl) rfl rfl ?_
          | refine xalloc InfC.h rfl rfl fun _ => ?_
          | refine xbuildSliceC UndC.h InfC.h rfl rfl rfl rfl rfl rfl fun _ => ?_
          | refine xvalP (pv_makeFuncC rfl) rfl rfl ?_
          | refine xbox rfl rfl rfl rfl fun _ => ?_
          | refine xstore 0 ShpC.h rfl rfl rfl rfl rfl rfl rfl ?_
          | refine xstore 1 ShpC.h rfl rfl rfl rfl rfl rfl rfl ?_
          | refine xstore 2 ShpC.h rfl rfl rfl rfl rfl rfl rfl ?_
          | refine xstore 3 ShpC.h rfl rfl rfl rfl rfl rfl rfl ?_
          | refine xstore 4 ShpC.h rfl rfl rfl rfl rfl rfl rfl ?_
          | refine xskip rfl rfl ?_
          | refine xskip0 rfl ?_
          | refine xcondT rfl ?_
          | refine xcondF rfl ?_
          | refine xskipc ?_
          | refine xexit ?_
          | refine xretc ?_
          | refine xin_normal ?_
          | refine xin_ret ?_
          | refine xthen_exit ?_
          | refine xthen_ret ?_
          | refine xin_same rfl ?_
          | refine xin_other rfl ?_
      refine xguardD rfl rfl (fun h3 => ?_) (fun h3 => ?_)
      · repeat
          first
          | refine xseq ?_
          | first
            | refine xregion ?_
            | refine xvalP (pv_move rfl) rfl rfl ?_
            | refine xvalP (pv_assign rfl) rfl rfl ?_
            | refine xvalP (pv_add1 rfl rfl (by omega)) rfl rfl ?_
            | refine xvalP (pv_sub1 rfl rfl (by omega)) rfl rfl ?_
            | refine xvalP (pv_bin2 rfl rfl rfl) rfl rfl ?_
            | refine xnil ?_
            | refine xthen ?_
            | refine xblock ?_
            | refine xval (qv_load ShpC.h rfl rfl rfl) rfl rfl ?_
            | refine xvalP (qv_fieldAddrB FldC.h rfl) rfl rfl ?_
            | refine xvalP (qv_fieldAddrE FldC.h rfl) rfl rfl ?_
            | refine xval (qv_loadB 0 ShpC.h rfl rfl rfl rfl) rfl rfl ?_
            | refine xval (qv_loadB 1 ShpC.h rfl rfl rfl rfl) rfl rfl ?_
            | refine xval (qv_loadB 2 ShpC.h rfl rfl rfl rfl) rfl rfl ?_
            | refine xval (qv_loadB 3 ShpC.h rfl rfl rfl rfl) rfl rfl ?_
            | refine xval (qv_loadB 4 ShpC.h rfl rfl rfl rfl) rfl rfl ?_
            | refine xvalP (pv_pick rfl rfl) rfl rfl ?_
            | refine xvalP (pv_len UndC.h rfl rfl) rfl rfl ?_
            | refine xvalP (pv_lenS UndC.h rfl) rfl rfl ?_
            | refine xvalP (pv_lenRb UndC.h rfl) rfl rfl ?_
            | refine xvalP (pv_lenV UndC.h rfl) rfl rfl ?_
            | refine xvalP (pv_not rfl) rfl rfl ?_
            | refine xvalP (pv_nilCheck rfl) rfl rfl ?_
            | refine xvalP (pv_nilCheckE rfl) rfl rfl ?_
            | refine xvalP (pv_nilCheckF rfl) rfl rfl ?_
            | refine xvalP (pv_extract rfl rfl) rfl rfl ?_
            | refine xvalP (qv_field FldC.h rfl rfl) rfl rfl ?_
            | refine xvalP (pv_indexAddr UndC.h ShpC.h rfl rfl rfl (map_at (by assumption))) rfl rfl ?_
            | refine xvalP (pv_indexAddrB UndC.h ShpC.h rfl rfl (Int.toNat_of_nonneg (by decide)).symm (by decide)) rfl rfl ?_
            | refine xvalP (pv_indexAddrE UndC.h ShpC.h rfl rfl (Int.toNat_of_nonneg (by decide)).symm (by decide)) rfl rfl ?_
            | refine xvalP (pv_eqB UndC.h rfl rfl) rfl rfl ?_
            | refine xvalP (pv_neB UndC.h rfl rfl) rfl rfl ?_
            | refine xvalP (pv_convI UndC.h UndC.h rfl) rfl rfl ?_
            | refine xvalP (pv_buildC StrC.h rfl rfl) rfl rfl ?_
            | refine xalloc InfC.h rfl rfl fun _ => ?_
            | refine xbuildSliceC UndC.h InfC.h rfl rfl rfl rfl rfl rfl fun _ => ?_
            | refine xvalP (pv_makeFuncC rfl) rfl rfl ?_
            | refine xbox rfl rfl rfl rfl fun _ => ?_
            | refine xstore 0 ShpC.h rfl rfl rfl rfl rfl rfl rfl ?_
            | refine xstore 1 ShpC.h rfl rfl rfl rfl rfl rfl rfl ?_
            | refine xstore 2 ShpC.h rfl rfl rfl rfl rfl rfl rfl ?_
            | refine xstore 3 ShpC.h rfl rfl rfl rfl rfl rfl rfl ?_
            | refine xstore 4 ShpC.h rfl rfl rfl rfl rfl rfl rfl ?_
            | refine xskip rfl rfl ?_
            | refine xskip0 rfl ?_
            | refine xcondT rfl ?_
            | refine xcondF rfl ?_
            | refine xskipc ?_
            | refine xexit ?_
            | refine xretc ?_
            | refine xin_normal ?_
            | refine xin_ret ?_
            | refine xthen_exit ?_
            | refine xthen_ret ?_
            | refine xin_same rfl ?_
            | refine xin_other rfl ?_
        refine xguardD rfl rfl (fun h4 => ?_) (fun h4 => ?_)
        · repeat
            first
            | refine xseq ?_
            | first
              | refine xregion ?_
              | refine xvalP (pv_move rfl) rfl rfl ?_
              | refine xvalP (pv_assign rfl) rfl rfl ?_
              | refine xvalP (pv_add1 rfl rfl (by omega)) rfl rfl ?_
              | refine xvalP (pv_sub1 rfl rfl (by omega)) rfl rfl ?_
              | refine xvalP (pv_bin2 rfl rfl rfl) rfl rfl ?_
              | refine xnil ?_
              | refine xthen ?_
              | refine xblock ?_
              | refine xval (qv_load ShpC.h rfl rfl rfl) rfl rfl ?_
              | refine xvalP (qv_fieldAddrB FldC.h rfl) rfl rfl ?_
              | refine xvalP (qv_fieldAddrE FldC.h rfl) rfl rfl ?_
              | refine xval (qv_loadB 0 ShpC.h rfl rfl rfl rfl) rfl rfl ?_
              | refine xval (qv_loadB 1 ShpC.h rfl rfl rfl rfl) rfl rfl ?_
              | refine xval (qv_loadB 2 ShpC.h rfl rfl rfl rfl) rfl rfl ?_
              | refine xval (qv_loadB 3 ShpC.h rfl rfl rfl rfl) rfl rfl ?_
              | refine xval (qv_loadB 4 ShpC.h rfl rfl rfl rfl) rfl rfl ?_
              | refine xvalP (pv_pick rfl rfl) rfl rfl ?_
              | refine xvalP (pv_len UndC.h rfl rfl) rfl rfl ?_
              | refine xvalP (pv_lenS UndC.h rfl) rfl rfl ?_
              | refine xvalP (pv_lenRb UndC.h rfl) rfl rfl ?_
              | refine xvalP (pv_lenV UndC.h rfl) rfl rfl ?_
              | refine xvalP (pv_not rfl) rfl rfl ?_
              | refine xvalP (pv_nilCheck rfl) rfl rfl ?_
              | refine xvalP (pv_nilCheckE rfl) rfl rfl ?_
              | refine xvalP (pv_nilCheckF rfl) rfl rfl ?_
              | refine xvalP (pv_extract rfl rfl) rfl rfl ?_
              | refine xvalP (qv_field FldC.h rfl rfl) rfl rfl ?_
              | refine xvalP (pv_indexAddr UndC.h ShpC.h rfl rfl rfl (map_at (by assumption))) rfl rfl ?_
              | refine xvalP (pv_indexAddrB UndC.h ShpC.h rfl rfl (Int.toNat_of_nonneg (by decide)).symm (by decide)) rfl rfl ?_
              | refine xvalP (pv_indexAddrE UndC.h ShpC.h rfl rfl (Int.toNat_of_nonneg (by decide)).symm (by decide)) rfl rfl ?_
              | refine xvalP (pv_eqB UndC.h rfl rfl) rfl rfl ?_
              | refine xvalP (pv_neB UndC.h rfl rfl) rfl rfl ?_
              | refine xvalP (pv_convI UndC.h UndC.h rfl) rfl rfl ?_
              | refine xvalP (pv_buildC StrC.h rfl rfl) rfl rfl ?_
              | refine xalloc InfC.h rfl rfl fun _ => ?_
              | refine xbuildSliceC UndC.h InfC.h rfl rfl rfl rfl rfl rfl fun _ => ?_
              | refine xvalP (pv_makeFuncC rfl) rfl rfl ?_
              | refine xbox rfl rfl rfl rfl fun _ => ?_
              | refine xstore 0 ShpC.h rfl rfl rfl rfl rfl rfl rfl ?_
              | refine xstore 1 ShpC.h rfl rfl rfl rfl rfl rfl rfl ?_
              | refine xstore 2 ShpC.h rfl rfl rfl rfl rfl rfl rfl ?_
              | refine xstore 3 ShpC.h rfl rfl rfl rfl rfl rfl rfl ?_
              | refine xstore 4 ShpC.h rfl rfl rfl rfl rfl rfl rfl ?_
              | refine xskip rfl rfl ?_
              | refine xskip0 rfl ?_
              | refine xcondT rfl ?_
              | refine xcondF rfl ?_
              | refine xskipc ?_
              | refine xexit ?_
              | refine xretc ?_
              | refine xin_normal ?_
              | refine xin_ret ?_
              | refine xthen_exit ?_
              | refine xthen_ret ?_
              | refine xin_same rfl ?_
              | refine xin_other rfl ?_
          refine xcondD rfl (fun h5 => ?_) (fun h5 => ?_)
          · obtain ⟨⟨f, u⟩, hs⟩ : ∃ s, sp[p.2.1.toNat]? = some s := ⟨_, List.getElem?_eq_getElem (by omega)⟩
            have hpi : p.2.1 = ((p.2.1.toNat : Nat) : Int) := by omega
            have e2 : expOne text sp p = if 0 ≤ f ∧ f ≤ u ∧ u ≤ (text.length : Int) then (text.take u.toNat).drop f.toNat else [] := by unfold expOne; rw [if_neg h2, if_pos ⟨h3, h4, h5⟩, hs]
            repeat
              first
              | refine xseq ?_
              | first
                | refine xregion ?_
                | refine xvalP (pv_move rfl) rfl rfl ?_
                | refine xvalP (pv_assign rfl) rfl rfl ?_
                | refine xvalP (pv_add1 rfl rfl (by omega)) rfl rfl ?_
                | refine xvalP (pv_sub1 rfl rfl (by omega)) rfl rfl ?_
                | refine xvalP (pv_bin2 rfl rfl rfl) rfl rfl ?_
                | refine xnil ?_
                | refine xthen ?_
                | refine xblock ?_
                | refine xval (qv_load ShpC.h rfl rfl rfl) rfl rfl ?_
                | refine xvalP (qv_fieldAddrB FldC.h rfl) rfl rfl ?_
                | refine xvalP (qv_fieldAddrE FldC.h rfl) rfl rfl ?_
                | refine xval (qv_loadB 0 ShpC.h rfl rfl rfl rfl) rfl rfl ?_
                | refine xval (qv_loadB 1 ShpC.h rfl rfl rfl rfl) rfl rfl ?_
                | refine xval (qv_loadB 2 ShpC.h rfl rfl rfl rfl) rfl rfl ?_
                | refine xval (qv_loadB 3 ShpC.h rfl rfl rfl rfl) rfl rfl ?_
                | refine xval (qv_loadB 4 ShpC.h rfl rfl rfl rfl) rfl rfl ?_
                | refine xvalP (pv_pick rfl rfl) rfl rfl ?_
                | refine xvalP (pv_len UndC.h rfl rfl) rfl rfl ?_
                | refine xvalP (pv_lenS UndC.h rfl) rfl rfl ?_
                | refine xvalP (pv_lenRb UndC.h rfl) rfl rfl ?_
                | refine xvalP (pv_lenV UndC.h rfl) rfl rfl ?_
                | refine xvalP (pv_not rfl) rfl rfl ?_
                | refine xvalP (pv_nilCheck rfl) rfl rfl ?_
                | refine xvalP (pv_nilCheckE rfl) rfl rfl ?_
                | refine xvalP (pv_nilCheckF rfl) rfl rfl ?_
                | refine xvalP (pv_extract rfl rfl) rfl rfl ?_
                | refine xvalP (qv_field FldC.h rfl rfl) rfl rfl ?_
                | refine xvalP (pv_indexAddr UndC.h ShpC.h rfl rfl rfl (map_at (by assumption))) rfl rfl ?_
                | refine xvalP (pv_indexAddrB UndC.h ShpC.h rfl rfl (Int.toNat_of_nonneg (by decide)).symm (by decide)) rfl rfl ?_
                | refine xvalP (pv_indexAddrE UndC.h ShpC.h rfl rfl (Int.toNat_of_nonneg (by decide)).symm (by decide)) rfl rfl ?_
                | refine xvalP (pv_eqB UndC.h rfl rfl) rfl rfl ?_
                | refine xvalP (pv_neB UndC.h rfl rfl) rfl rfl ?_
                | refine xvalP (pv_convI UndC.h UndC.h rfl) rfl rfl ?_
                | refine xvalP (pv_buildC StrC.h rfl rfl) rfl rfl ?_
                | refine xalloc InfC.h rfl rfl fun _ => ?_
                | refine xbuildSliceC UndC.h InfC.h rfl rfl rfl rfl rfl rfl fun _ => ?_
                | refine xvalP (pv_makeFuncC rfl) rfl rfl ?_
                | refine xbox rfl rfl rfl rfl fun _ => ?_
                | refine xstore 0 ShpC.h rfl rfl rfl rfl rfl rfl rfl ?_
                | refine xstore 1 ShpC.h rfl rfl rfl rfl rfl rfl rfl ?_
                | refine xstore 2 ShpC.h rfl rfl rfl rfl rfl rfl rfl ?_
                | refine xstore 3 ShpC.h rfl rfl rfl rfl rfl rfl rfl ?_
                | refine xstore 4 ShpC.h rfl rfl rfl rfl rfl rfl rfl ?_
                | refine xskip rfl rfl ?_
                | refine xskip0 rfl ?_
                | refine xcondT rfl ?_
                | refine xcondF rfl ?_
                | refine xskipc ?_
                | refine xexit ?_
                | refine xretc ?_
                | refine xin_normal ?_
                | refine xin_ret ?_
                | refine xthen_exit ?_
                | refine xthen_ret ?_
                | refine xin_same rfl ?_
                | refine xin_other rfl ?_
            refine xvalP (pv_indexAddrB UndC.h ShpC.h rfl rfl hpi (by omega)) rfl rfl ?_
            refine xval (qv_loadB 1 ShpC.h rfl rfl (congrArg (fun x => some (Sd.agg x)) (hitC_at hs)) (by rw [hitC_length]; exact Nat.ble_eq_true_of_le (by omega))) rfl rfl ?_
            repeat
              first
              | refine xseq ?_
              | first
                | refine xregion ?_
                | refine xvalP (pv_move rfl) rfl rfl ?_
                | refine xvalP (pv_assign rfl) rfl rfl ?_
                | refine xvalP (pv_add1 rfl rfl (by omega)) rfl rfl ?_
                | refine xvalP (pv_sub1 rfl rfl (by omega)) rfl rfl ?_
                | refine xvalP (pv_bin2 rfl rfl rfl) rfl rfl ?_
                | refine xnil ?_
                | refine xthen ?_
                | refine xblock ?_
                | refine xval (qv_load ShpC.h rfl rfl rfl) rfl rfl ?_
                | refine xvalP (qv_fieldAddrB FldC.h rfl) rfl rfl ?_
                | refine xvalP (qv_fieldAddrE FldC.h rfl) rfl rfl ?_
                | refine xval (qv_loadB 0 ShpC.h rfl rfl rfl rfl) rfl rfl ?_
                | refine xval (qv_loadB 1 ShpC.h rfl rfl rfl rfl) rfl rfl ?_
                | refine xval (qv_loadB 2 ShpC.h rfl rfl rfl rfl) rfl rfl ?_
                | refine xval (qv_loadB 3 ShpC.h rfl rfl rfl rfl) rfl rfl ?_
                | refine xval (qv_loadB 4 ShpC.h rfl rfl rfl rfl) rfl rfl ?_
                | refine xvalP (pv_pick rfl rfl) rfl rfl ?_
                | refine xvalP (pv_len UndC.h rfl rfl) rfl rfl ?_
                | refine xvalP (pv_lenS UndC.h rfl) rfl rfl ?_
                | refine xvalP (pv_lenRb UndC.h rfl) rfl rfl ?_
                | refine xvalP (pv_lenV UndC.h rfl) rfl rfl ?_
                | refine xvalP (pv_not rfl) rfl rfl ?_
                | refine xvalP (pv_nilCheck rfl) rfl rfl ?_
                | refine xvalP (pv_nilCheckE rfl) rfl rfl ?_
                | refine xvalP (pv_nilCheckF rfl) rfl rfl ?_
                | refine xvalP (pv_extract rfl rfl) rfl rfl ?_
                | refine xvalP (qv_field FldC.h rfl rfl) rfl rfl ?_
                | refine xvalP (pv_indexAddr UndC.h ShpC.h rfl rfl rfl (map_at (by assumption))) rfl rfl ?_
                | refine xvalP (pv_indexAddrB UndC.h ShpC.h rfl rfl (Int.toNat_of_nonneg (by decide)).symm (by decide)) rfl rfl ?_
                | refine xvalP (pv_indexAddrE UndC.h ShpC.h rfl rfl (Int.toNat_of_nonneg (by decide)).symm (by decide)) rfl rfl ?_
                | refine xvalP (pv_eqB UndC.h rfl rfl) rfl rfl ?_
                | refine xvalP (pv_neB UndC.h rfl rfl) rfl rfl ?_
                | refine xvalP (pv_convI UndC.h UndC.h rfl) rfl rfl ?_
                | refine xvalP (pv_buildC StrC.h rfl rfl) rfl rfl ?_
                | refine xalloc InfC.h rfl rfl fun _ => ?_
                | refine xbuildSliceC UndC.h InfC.h rfl rfl rfl rfl rfl rfl fun _ => ?_
                | refine xvalP (pv_makeFuncC rfl) rfl rfl ?_
                | refine xbox rfl rfl rfl rfl fun _ => ?_
                | refine xstore 0 ShpC.h rfl rfl rfl rfl rfl rfl rfl ?_
                | refine xstore 1 ShpC.h rfl rfl rfl rfl rfl rfl rfl ?_
                | refine xstore 2 ShpC.h rfl rfl rfl rfl rfl rfl rfl ?_
                | refine xstore 3 ShpC.h rfl rfl rfl rfl rfl rfl rfl ?_
                | refine xstore 4 ShpC.h rfl rfl rfl rfl rfl rfl rfl ?_
                | refine xskip rfl rfl ?_
                | refine xskip0 rfl ?_
                | refine xcondT rfl ?_
                | refine xcondF rfl ?_
                | refine xskipc ?_
                | refine xexit ?_
                | refine xretc ?_
                | refine xin_normal ?_
                | refine xin_ret ?_
                | refine xthen_exit ?_
                | refine xthen_ret ?_
                | refine xin_same rfl ?_
                | refine xin_other rfl ?_
            refine xcall0 (isPart_any f u (text.map eb)) Try.func20 (by kernel_rfl) rfl (by repeat (first | exact EvL.nil | refine EvL.cons rfl (by first | with_reducible exact Wk.refl _ | exact Wk.nil_pl _ | with_reducible exact Wk.tok _ _ _ | exact Wk.eq rfl) ?_)) rfl rfl ?_
            repeat
              first
              | refine xseq ?_
              | first
                | refine xregion ?_
                | refine xvalP (pv_move rfl) rfl rfl ?_
                | refine xvalP (pv_assign rfl) rfl rfl ?_
                | refine xvalP (pv_add1 rfl rfl (by omega)) rfl rfl ?_
                | refine xvalP (pv_sub1 rfl rfl (by omega)) rfl rfl ?_
                | refine xvalP (pv_bin2 rfl rfl rfl) rfl rfl ?_
                | refine xnil ?_
                | refine xthen ?_
                | refine xblock ?_
                | refine xval (qv_load ShpC.h rfl rfl rfl) rfl rfl ?_
                | refine xvalP (qv_fieldAddrB FldC.h rfl) rfl rfl ?_
                | refine xvalP (qv_fieldAddrE FldC.h rfl) rfl rfl ?_
                | refine xval (qv_loadB 0 ShpC.h rfl rfl rfl rfl) rfl rfl ?_
                | refine xval (qv_loadB 1 ShpC.h rfl rfl rfl rfl) rfl rfl ?_
                | refine xval (qv_loadB 2 ShpC.h rfl rfl rfl rfl) rfl rfl ?_
                | refine xval (qv_loadB 3 ShpC.h rfl rfl rfl rfl) rfl rfl ?_
                | refine xval (qv_loadB 4 ShpC.h rfl rfl rfl rfl) rfl rfl ?_
                | refine xvalP (pv_pick rfl rfl) rfl rfl ?_
                | refine xvalP (pv_len UndC.h rfl rfl) rfl rfl ?_
                | refine xvalP (pv_lenS UndC.h rfl) rfl rfl ?_
                | refine xvalP (pv_lenRb UndC.h rfl) rfl rfl ?_
                | refine xvalP (pv_lenV UndC.h rfl) rfl rfl ?_
                | refine xvalP (pv_not rfl) rfl rfl ?_
                | refine xvalP (pv_nilCheck rfl) rfl rfl ?_
                | refine xvalP (pv_nilCheckE rfl) rfl rfl ?_
                | refine xvalP (pv_nilCheckF rfl) rfl rfl ?_
                | refine xvalP (pv_extract rfl rfl) rfl rfl ?_
                | refine xvalP (qv_field FldC.h rfl rfl) rfl rfl ?_
                | refine xvalP (pv_indexAddr UndC.h ShpC.h rfl rfl rfl (map_at (by assumption))) rfl rfl ?_
                | refine xvalP (pv_indexAddrB UndC.h ShpC.h rfl rfl (Int.toNat_of_nonneg (by decide)).symm (by decide)) rfl rfl ?_
                | refine xvalP (pv_indexAddrE UndC.h ShpC.h rfl rfl (Int.toNat_of_nonneg (by decide)).symm (by decide)) rfl rfl ?_
                | refine xvalP (pv_eqB UndC.h rfl rfl) rfl rfl ?_
                | refine xvalP (pv_neB UndC.h rfl rfl) rfl rfl ?_
                | refine xvalP (pv_convI UndC.h UndC.h rfl) rfl rfl ?_
                | refine xvalP (pv_buildC StrC.h rfl rfl) rfl rfl ?_
                | refine xalloc InfC.h rfl rfl fun _ => ?_
                | refine xbuildSliceC UndC.h InfC.h rfl rfl rfl rfl rfl rfl fun _ => ?_
                | refine xvalP (pv_makeFuncC rfl) rfl rfl ?_
                | refine xbox rfl rfl rfl rfl fun _ => ?_
                | refine xstore 0 ShpC.h rfl rfl rfl rfl rfl rfl rfl ?_
                | refine xstore 1 ShpC.h rfl rfl rfl rfl rfl rfl rfl ?_
                | refine xstore 2 ShpC.h rfl rfl rfl rfl rfl rfl rfl ?_
                | refine xstore 3 ShpC.h rfl rfl rfl rfl rfl rfl rfl ?_
                | refine xstore 4 ShpC.h rfl rfl rfl rfl rfl rfl rfl ?_
                | refine xskip rfl rfl ?_
                | refine xskip0 rfl ?_
                | refine xcondT rfl ?_
                | refine xcondF rfl ?_
                | refine xskipc ?_
                | refine xexit ?_
                | refine xretc ?_
                | refine xin_normal ?_
                | refine xin_ret ?_
                | refine xthen_exit ?_
                | refine xthen_ret ?_
                | refine xin_same rfl ?_
                | refine xin_other rfl ?_
            refine xcondD rfl (fun h6 => ?_) (fun h6 => ?_)
            · rw [List.length_map] at h6
              rw [if_pos h6] at e2
              have hfu : f = ((f.toNat : Nat) : Int) := by omega
              have huu : u = ((u.toNat : Nat) : Int) := by omega
              rw [e2] at hsn hk2
              repeat
                first
                | refine xseq ?_
                | first
                  | refine xregion ?_
                  | refine xvalP (pv_move rfl) rfl rfl ?_
                  | refine xvalP (pv_assign rfl) rfl rfl ?_
                  | refine xvalP (pv_add1 rfl rfl (by omega)) rfl rfl ?_
                  | refine xvalP (pv_sub1 rfl rfl (by omega)) rfl rfl ?_
                  | refine xvalP (pv_bin2 rfl rfl rfl) rfl rfl ?_
                  | refine xnil ?_
                  | refine xthen ?_
                  | refine xblock ?_
                  | refine xval (qv_load ShpC.h rfl rfl rfl) rfl rfl ?_
                  | refine xvalP (qv_fieldAddrB FldC.h rfl) rfl rfl ?_
                  | refine xvalP (qv_fieldAddrE FldC.h rfl) rfl rfl ?_
                  | refine xval (qv_loadB 0 ShpC.h rfl rfl rfl rfl) rfl rfl ?_
                  | refine xval (qv_loadB 1 ShpC.h rfl rfl rfl rfl) rfl rfl ?_
                  | refine xval (qv_loadB 2 ShpC.h rfl rfl rfl rfl) rfl rfl ?_
                  | refine xval (qv_loadB 3 ShpC.h rfl rfl rfl rfl) rfl rfl ?_
                  | refine xval (qv_loadB 4 ShpC.h rfl rfl rfl rfl) rfl rfl ?_
                  | refine xvalP (pv_pick rfl rfl) rfl rfl ?_
                  | refine xvalP (pv_len UndC.h rfl rfl) rfl rfl ?_
                  | refine xvalP (pv_lenS UndC.h rfl) rfl rfl ?_
                  | refine xvalP (pv_lenRb UndC.h rfl) rfl rfl ?_
                  | refine xvalP (pv_lenV UndC.h rfl) rfl rfl ?_
                  | refine xvalP (pv_not rfl) rfl rfl ?_
                  | refine xvalP (pv_nilCheck rfl) rfl rfl ?_
                  | refine xvalP (pv_nilCheckE rfl) rfl rfl ?_
                  | refine xvalP (pv_nilCheckF rfl) rfl rfl ?_
                  | refine xvalP (pv_extract rfl rfl) rfl rfl ?_
                  | refine xvalP (qv_field FldC.h rfl rfl) rfl rfl ?_
                  | refine xvalP (pv_indexAddr UndC.h ShpC.h rfl rfl rfl (map_at (by assumption))) rfl rfl ?_
                  | refine xvalP (pv_indexAddrB UndC.h ShpC.h rfl rfl (Int.toNat_of_nonneg (by decide)).symm (by decide)) rfl rfl ?_
                  | refine xvalP (pv_indexAddrE UndC.h ShpC.h rfl rfl (Int.toNat_of_nonneg (by decide)).symm (by decide)) rfl rfl ?_
                  | refine xvalP (pv_eqB UndC.h rfl rfl) rfl rfl ?_
                  | refine xvalP (pv_neB UndC.h rfl rfl) rfl rfl ?_
                  | refine xvalP (pv_convI UndC.h UndC.h rfl) rfl rfl ?_
                  | refine xvalP (pv_buildC StrC.h rfl rfl) rfl rfl ?_
                  | refine xalloc InfC.h rfl rfl fun _ => ?_
                  | refine xbuildSliceC UndC.h InfC.h rfl rfl rfl rfl rfl rfl fun _ => ?_
                  | refine xvalP (pv_makeFuncC rfl) rfl rfl ?_
                  | refine xbox rfl rfl rfl rfl fun _ => ?_
                  | refine xstore 0 ShpC.h rfl rfl rfl rfl rfl rfl rfl ?_
                  | refine xstore 1 ShpC.h rfl rfl rfl rfl rfl rfl rfl ?_
                  | refine xstore 2 ShpC.h rfl rfl rfl rfl rfl rfl rfl ?_
                  | refine xstore 3 ShpC.h rfl rfl rfl rfl rfl rfl rfl ?_
                  | refine xstore 4 ShpC.h rfl rfl rfl rfl rfl rfl rfl ?_
                  | refine xskip rfl rfl ?_
                  | refine xskip0 rfl ?_
                  | refine xcondT rfl ?_
                  | refine xcondF rfl ?_
                  | refine xskipc ?_
                  | refine xexit ?_
                  | refine xretc ?_
                  | refine xin_normal ?_
                  | refine xin_ret ?_
                  | refine xthen_exit ?_
                  | refine xthen_ret ?_
                  | refine xin_same rfl ?_
                  | refine xin_other rfl ?_
              refine xvalP (pv_slice UndC.h ShpC.h rfl (.some_ rfl hfu) (.some_ rfl huu) (by omega) (by rw [List.length_map]; omega)) rfl rfl ?_
              rw [List.length_drop, List.length_take] at hk2
              refine xappend UndC.h InfC.h rfl 0 rfl rfl (.refl _) rfl (by simp) rfl rfl ⟨by simp [maxLen]; omega, by simp; omega⟩ fun id2 => ?_
              repeat
                first
                | refine xseq ?_
                | first
                  | refine xregion ?_
                  | refine xvalP (pv_move rfl) rfl rfl ?_
                  | refine xvalP (pv_assign rfl) rfl rfl ?_
                  | refine xvalP (pv_add1 rfl rfl (by omega)) rfl rfl ?_
                  | refine xvalP (pv_sub1 rfl rfl (by omega)) rfl rfl ?_
                  | refine xvalP (pv_bin2 rfl rfl rfl) rfl rfl ?_
                  | refine xnil ?_
                  | refine xthen ?_
                  | refine xblock ?_
                  | refine xval (qv_load ShpC.h rfl rfl rfl) rfl rfl ?_
                  | refine xvalP (qv_fieldAddrB FldC.h rfl) rfl rfl ?_
                  | refine xvalP (qv_fieldAddrE FldC.h rfl) rfl rfl ?_
                  | refine xval (qv_loadB 0 ShpC.h rfl rfl rfl rfl) rfl rfl ?_
                  | refine xval (qv_loadB 1 ShpC.h rfl rfl rfl rfl) rfl rfl ?_
                  | refine xval (qv_loadB 2 ShpC.h rfl rfl rfl rfl) rfl rfl ?_
                  | refine xval (qv_loadB 3 ShpC.h rfl rfl rfl rfl) rfl rfl ?_
                  | refine xval (qv_loadB 4 ShpC.h rfl rfl rfl rfl) rfl rfl ?_
                  | refine xvalP (pv_pick rfl rfl) rfl rfl ?_
                  | refine xvalP (pv_len UndC.h rfl rfl) rfl rfl ?_
                  | refine xvalP (pv_lenS UndC.h rfl) rfl rfl ?_
                  | refine xvalP (pv_lenRb UndC.h rfl) rfl rfl ?_
                  | refine xvalP (pv_lenV UndC.h rfl) rfl rfl ?_
                  | refine xvalP (pv_not rfl) rfl rfl ?_
                  | refine xvalP (pv_nilCheck rfl) rfl rfl ?_
                  | refine xvalP (pv_nilCheckE rfl) rfl rfl ?_
                  | refine xvalP (pv_nilCheckF rfl) rfl rfl ?_
                  | refine xvalP (pv_extract rfl rfl) rfl rfl ?_
                  | refine xvalP (qv_field FldC.h rfl rfl) rfl rfl ?_
                  | refine xvalP (pv_indexAddr UndC.h ShpC.h rfl rfl rfl (map_at (by assumption))) rfl rfl ?_
                  | refine xvalP (pv_indexAddrB UndC.h ShpC.h rfl rfl (Int.toNat_of_nonneg (by decide)).symm (by decide)) rfl rfl ?_
                  | refine xvalP (pv_indexAddrE UndC.h ShpC.h rfl rfl (Int.toNat_of_nonneg (by decide)).symm (by decide)) rfl rfl ?_
                  | refine xvalP (pv_eqB UndC.h rfl rfl) rfl rfl ?_
                  | refine xvalP (pv_neB UndC.h rfl rfl) rfl rfl ?_
                  | refine xvalP (pv_convI UndC.h UndC.h rfl) rfl rfl ?_
                  | refine xvalP (pv_buildC StrC.h rfl rfl) rfl rfl ?_
                  | refine xalloc InfC.h rfl rfl fun _ => ?_
                  | refine xbuildSliceC UndC.h InfC.h rfl rfl rfl rfl rfl rfl fun _ => ?_
                  | refine xvalP (pv_makeFuncC rfl) rfl rfl ?_
                  | refine xbox rfl rfl rfl rfl fun _ => ?_
                  | refine xstore 0 ShpC.h rfl rfl rfl rfl rfl rfl rfl ?_
                  | refine xstore 1 ShpC.h rfl rfl rfl rfl rfl rfl rfl ?_
                  | refine xstore 2 ShpC.h rfl rfl rfl rfl rfl rfl rfl ?_
                  | refine xstore 3 ShpC.h rfl rfl rfl rfl rfl rfl rfl ?_
                  | refine xstore 4 ShpC.h rfl rfl rfl rfl rfl rfl rfl ?_
                  | refine xskip rfl rfl ?_
                  | refine xskip0 rfl ?_
                  | refine xcondT rfl ?_
                  | refine xcondF rfl ?_
                  | refine xskipc ?_
                  | refine xexit ?_
                  | refine xretc ?_
                  | refine xin_normal ?_
                  | refine xin_ret ?_
                  | refine xthen_exit ?_
                  | refine xthen_ret ?_
                  | refine xin_same rfl ?_
                  | refine xin_other rfl ?_
              refine xagain ⟨k + 1, id2, hk1, rfl, rfl⟩ (by omega) ⟨by (repeat (first | exact ImpT.nil _ | refine ImpT.cons rfl (by first | with_reducible exact Wk.refl _ | exact Wk.nil_own _ | exact Wk.nil_pl _ | with_reducible exact Wk.tok _ _ _ | exact Wk.tok _ _ _ | exact Wk.eq (by first | rfl | (simp [hsn, List.map_take, List.map_drop]; done) | (simp [hsn, List.map_take, List.map_drop]; omega))) ?_)), SubM.to (by (repeat (first | with_reducible exact List.Sublist.refl _ | refine List.Sublist.cons _ ?_))) (by simp [hsn, List.map_take, List.map_drop])⟩
            · rw [List.length_map] at h6
              rw [if_neg h6] at e2
              have hs0 := e0 True e2
              repeat
                first
                | refine xseq ?_
                | first
                  | refine xregion ?_
                  | refine xvalP (pv_move rfl) rfl rfl ?_
                  | refine xvalP (pv_assign rfl) rfl rfl ?_
                  | refine xvalP (pv_add1 rfl rfl (by omega)) rfl rfl ?_
                  | refine xvalP (pv_sub1 rfl rfl (by omega)) rfl rfl ?_
                  | refine xvalP (pv_bin2 rfl rfl rfl) rfl rfl ?_
                  | refine xnil ?_
                  | refine xthen ?_
                  | refine xblock ?_
                  | refine xval (qv_load ShpC.h rfl rfl rfl) rfl rfl ?_
                  | refine xvalP (qv_fieldAddrB FldC.h rfl) rfl rfl ?_
                  | refine xvalP (qv_fieldAddrE FldC.h rfl) rfl rfl ?_
                  | refine xval (qv_loadB 0 ShpC.h rfl rfl rfl rfl) rfl rfl ?_
                  | refine xval (qv_loadB 1 ShpC.h rfl rfl rfl rfl) rfl rfl ?_
                  | refine xval (qv_loadB 2 ShpC.h rfl rfl rfl rfl) rfl rfl ?_
                  | refine xval (qv_loadB 3 ShpC.h rfl rfl rfl rfl) rfl rfl ?_
                  | refine xval (qv_loadB 4 ShpC.h rfl rfl rfl rfl) rfl rfl ?_
                  | refine xvalP (pv_pick rfl rfl) rfl rfl ?_
                  | refine xvalP (pv_len UndC.h rfl rfl) rfl rfl ?_
                  | refine xvalP (pv_lenS UndC.h rfl) rfl rfl ?_
                  | refine xvalP (pv_lenRb UndC.h rfl) rfl rfl ?_
                  | refine xvalP (pv_lenV UndC.h rfl) rfl rfl ?_
                  | refine xvalP (pv_not rfl) rfl rfl ?_
                  | refine xvalP (pv_nilCheck rfl) rfl rfl ?_
                  | refine xvalP (pv_nilCheckE rfl) rfl rfl ?_
                  | refine xvalP (pv_nilCheckF rfl) rfl rfl ?_
                  | refine xvalP (pv_extract rfl rfl) rfl rfl ?_
                  | refine xvalP (qv_field FldC.h rfl rfl) rfl rfl ?_
                  | refine xvalP (pv_indexAddr UndC.h ShpC.h rfl rfl rfl (map_at (by assumption))) rfl rfl ?_
                  | refine xvalP (pv_indexAddrB UndC.h ShpC.h rfl rfl (Int.toNat_of_nonneg (by decide)).symm (by decide)) rfl rfl ?_
                  | refine xvalP (pv_indexAddrE UndC.h ShpC.h rfl rfl (Int.toNat_of_nonneg (by decide)).symm (by decide)) rfl rfl ?_
                  | refine xvalP (pv_eqB UndC.h rfl rfl) rfl rfl ?_
                  | refine xvalP (pv_neB UndC.h rfl rfl) rfl rfl ?_
                  | refine xvalP (pv_convI UndC.h UndC.h rfl) rfl rfl ?_
                  | refine xvalP (pv_buildC StrC.h rfl rfl) rfl rfl ?_
                  | refine xalloc InfC.h rfl rfl fun _ => ?_
                  | refine xbuildSliceC UndC.h InfC.h rfl rfl rfl rfl rfl rfl fun _ => ?_
                  | refine xvalP (pv_makeFuncC rfl) rfl rfl ?_
                  | refine xbox rfl rfl rfl rfl fun _ => ?_
                  | refine xstore 0 ShpC.h rfl rfl rfl rfl rfl rfl rfl ?_
                  | refine xstore 1 ShpC.h rfl rfl rfl rfl rfl rfl rfl ?_
                  | refine xstore 2 ShpC.h rfl rfl rfl rfl rfl rfl rfl ?_
                  | refine xstore 3 ShpC.h rfl rfl rfl rfl rfl rfl rfl ?_
                  | refine xstore 4 ShpC.h rfl rfl rfl rfl rfl rfl rfl ?_
                  | refine xskip rfl rfl ?_
                  | refine xskip0 rfl ?_
                  | refine xcondT rfl ?_
                  | refine xcondF rfl ?_
                  | refine xskipc ?_
                  | refine xexit ?_
                  | refine xretc ?_
                  | refine xin_normal ?_
                  | refine xin_ret ?_
                  | refine xthen_exit ?_
                  | refine xthen_ret ?_
                  | refine xin_same rfl ?_
                  | refine xin_other rfl ?_
              refine xagain ⟨k + 1, id, hk1, rfl, rfl⟩ (by omega) ⟨by (repeat (first | exact ImpT.nil _ | refine ImpT.cons rfl (by first | with_reducible exact Wk.refl _ | exact Wk.nil_own _ | exact Wk.nil_pl _ | with_reducible exact Wk.tok _ _ _ | exact Wk.tok _ _ _ | exact Wk.eq (by first | rfl | (simp [hs0]; done) | (simp [hs0]; omega))) ?_)), SubM.to (by (repeat (first | with_reducible exact List.Sublist.refl _ | refine List.Sublist.cons _ ?_))) (by simp [hs0])⟩
          · have hs0 := e0 True (by unfold expOne; rw [if_neg h2, if_neg fun h => h5 h.2.2])
            repeat
              first
              | refine xseq ?_
              | first
                | refine xregion ?_
                | refine xvalP (pv_move rfl) rfl rfl ?_
                | refine xvalP (pv_assign rfl) rfl rfl ?_
                | refine xvalP (pv_add1 rfl rfl (by omega)) rfl rfl ?_
                | refine xvalP (pv_sub1 rfl rfl (by omega)) rfl rfl ?_
                | refine xvalP (pv_bin2 rfl rfl rfl) rfl rfl ?_
                | refine xnil ?_
                | refine xthen ?_
                | refine xblock ?_
                | refine xval (qv_load ShpC.h rfl rfl rfl) rfl rfl ?_
                | refine xvalP (qv_fieldAddrB FldC.h rfl) rfl rfl ?_
                | refine xvalP (qv_fieldAddrE FldC.h rfl) rfl rfl ?_
                | refine xval (qv_loadB 0 ShpC.h rfl rfl rfl rfl) rfl rfl ?_
                | refine xval (qv_loadB 1 ShpC.h rfl rfl rfl rfl) rfl rfl ?_
                | refine xval (qv_loadB 2 ShpC.h rfl rfl rfl rfl) rfl rfl ?_
                | refine xval (qv_loadB 3 ShpC.h rfl rfl rfl rfl) rfl rfl ?_
                | refine xval (qv_loadB 4 ShpC.h rfl rfl rfl rfl) rfl rfl ?_
                | refine xvalP (pv_pick rfl rfl) rfl rfl ?_
                | refine xvalP (pv_len UndC.h rfl rfl) rfl rfl ?_
                | refine xvalP (pv_lenS UndC.h rfl) rfl rfl ?_
                | refine xvalP (pv_lenRb UndC.h rfl) rfl rfl ?_
                | refine xvalP (pv_lenV UndC.h rfl) rfl rfl ?_
                | refine xvalP (pv_not rfl) rfl rfl ?_
                | refine xvalP (pv_nilCheck rfl) rfl rfl ?_
                | refine xvalP (pv_nilCheckE rfl) rfl rfl ?_
                | refine xvalP (pv_nilCheckF rfl) rfl rfl ?_
                | refine xvalP (pv_extract rfl rfl) rfl rfl ?_
                | refine xvalP (qv_field FldC.h rfl rfl) rfl rfl ?_
                | refine xvalP (pv_indexAddr UndC.h ShpC.h rfl rfl rfl (map_at (by assumption))) rfl rfl ?_
                | refine xvalP (pv_indexAddrB UndC.h ShpC.h rfl rfl (Int.toNat_of_nonneg (by decide)).symm (by decide)) rfl rfl ?_
                | refine xvalP (pv_indexAddrE UndC.h ShpC.h rfl rfl (Int.toNat_of_nonneg (by decide)).symm (by decide)) rfl rfl ?_
                | refine xvalP (pv_eqB UndC.h rfl rfl) rfl rfl ?_
                | refine xvalP (pv_neB UndC.h rfl rfl) rfl rfl ?_
                | refine xvalP (pv_convI UndC.h UndC.h rfl) rfl rfl ?_
                | refine xvalP (pv_buildC StrC.h rfl rfl) rfl rfl ?_
                | refine xalloc InfC.h rfl rfl fun _ => ?_
                | refine xbuildSliceC UndC.h InfC.h rfl rfl rfl rfl rfl rfl fun _ => ?_
                | refine xvalP (pv_makeFuncC rfl) rfl rfl ?_
                | refine xbox rfl rfl rfl rfl fun _ => ?_
                | refine xstore 0 ShpC.h rfl rfl rfl rfl rfl rfl rfl ?_
                | refine xstore 1 ShpC.h rfl rfl rfl rfl rfl rfl rfl ?_
                | refine xstore 2 ShpC.h rfl rfl rfl rfl rfl rfl rfl ?_
                | refine xstore 3 ShpC.h rfl rfl rfl rfl rfl rfl rfl ?_
                | refine xstore 4 ShpC.h rfl rfl rfl rfl rfl rfl rfl ?_
                | refine xskip rfl rfl ?_
                | refine xskip0 rfl ?_
                | refine xcondT rfl ?_
                | refine xcondF rfl ?_
                | refine xskipc ?_
                | refine xexit ?_
                | refine xretc ?_
                | refine xin_normal ?_
                | refine xin_ret ?_
                | refine xthen_exit ?_
                | refine xthen_ret ?_
                | refine xin_same rfl ?_
                | refine xin_other rfl ?_
            refine xagain ⟨k + 1, id, hk1, rfl, rfl⟩ (by omega) ⟨by (repeat (first | exact ImpT.nil _ | refine ImpT.cons rfl (by first | with_reducible exact Wk.refl _ | exact Wk.nil_own _ | exact Wk.nil_pl _ | with_reducible exact Wk.tok _ _ _ | exact Wk.tok _ _ _ | exact Wk.eq (by first | rfl | (simp [hs0]; done) | (simp [hs0]; omega))) ?_)), SubM.to (by (repeat (first | with_reducible exact List.Sublist.refl _ | refine List.Sublist.cons _ ?_))) (by simp [hs0])⟩
        · have hs0 := e0 True (by unfold expOne; rw [if_neg h2, if_neg fun h => h4 h.2.1])
          repeat
            first
            | refine xseq ?_
            | first
              | refine xregion ?_
              | refine xvalP (pv_move rfl) rfl rfl ?_
              | refine xvalP (pv_assign rfl) rfl rfl ?_
              | refine xvalP (pv_add1 rfl rfl (by omega)) rfl rfl ?_
              | refine xvalP (pv_sub1 rfl rfl (by omega)) rfl rfl ?_
              | refine xvalP (pv_bin2 rfl rfl rfl) rfl rfl ?_
              | refine xnil ?_
              | refine xthen ?_
              | refine xblock ?_
              | refine xval (qv_load ShpC.h rfl rfl rfl) rfl rfl ?_
              | refine xvalP (qv_fieldAddrB FldC.h rfl) rfl rfl ?_
              | refine xvalP (qv_fieldAddrE FldC.h rfl) rfl rfl ?_
              | refine xval (qv_loadB 0 ShpC.h rfl rfl rfl rfl) rfl rfl ?_
              | refine xval (qv_loadB 1 ShpC.h rfl rfl rfl rfl) rfl rfl ?_
              | refine xval (qv_loadB 2 ShpC.h rfl rfl rfl rfl) rfl rfl ?_
              | refine xval (qv_loadB 3 ShpC.h rfl rfl rfl rfl) rfl rfl ?_
              | refine xval (qv_loadB 4 ShpC.h rfl rfl rfl rfl) rfl rfl ?_
              | refine xvalP (pv_pick rfl rfl) rfl rfl ?_
              | refine xvalP (pv_len UndC.h rfl rfl) rfl rfl ?_
              | refine xvalP (pv_lenS UndC.h rfl) rfl rfl ?_
              | refine xvalP (pv_lenRb UndC.h rfl) rfl rfl ?_
              | refine xvalP (pv_lenV UndC.h rfl) rfl rfl ?_
              | refine xvalP (pv_not rfl) rfl rfl ?_
              | refine xvalP (pv_nilCheck rfl) rfl rfl ?_
              | refine xvalP (pv_nilCheckE rfl) rfl rfl ?_
              | refine xvalP (pv_nilCheckF rfl) rfl rfl ?_
              | refine xvalP (pv_extract rfl rfl) rfl rfl ?_
              | refine xvalP (qv_field FldC.h rfl rfl) rfl rfl ?_
              | refine xvalP (pv_indexAddr UndC.h ShpC.h rfl rfl rfl (map_at (by assumption))) rfl rfl ?_
              | refine xvalP (pv_indexAddrB UndC.h ShpC.h rfl rfl (Int.toNat_of_nonneg (by decide)).symm (by decide)) rfl rfl ?_
              | refine xvalP (pv_indexAddrE UndC.h ShpC.h rfl rfl (Int.toNat_of_nonneg (by decide)).symm (by decide)) rfl rfl ?_
              | refine xvalP (pv_eqB UndC.h rfl rfl) rfl rfl ?_
              | refine xvalP (pv_neB UndC.h rfl rfl) rfl rfl ?_
              | refine xvalP (pv_convI UndC.h UndC.h rfl) rfl rfl ?_
              | refine xvalP (pv_buildC StrC.h rfl rfl) rfl rfl ?_
              | refine xalloc InfC.h rfl rfl fun _ => ?_
              | refine xbuildSliceC UndC.h InfC.h rfl rfl rfl rfl rfl rfl fun _ => ?_
              | refine xvalP (pv_makeFuncC rfl) rfl rfl ?_
              | refine xbox rfl rfl rfl rfl fun _ => ?_
              | refine xstore 0 ShpC.h rfl rfl rfl rfl rfl rfl rfl ?_
              | refine xstore 1 ShpC.h rfl rfl rfl rfl rfl rfl rfl ?_
              | refine xstore 2 ShpC.h rfl rfl rfl rfl rfl rfl rfl ?_
              | refine xstore 3 ShpC.h rfl rfl rfl rfl rfl rfl rfl ?_
              | refine xstore 4 ShpC.h rfl rfl rfl rfl rfl rfl rfl ?_
              | refine xskip rfl rfl ?_
              | refine xskip0 rfl ?_
              | refine xcondT rfl ?_
              | refine xcondF rfl ?_
              | refine xskipc ?_
              | refine xexit ?_
              | refine xretc ?_
              | refine xin_normal ?_
              | refine xin_ret ?_
              | refine xthen_exit ?_
              | refine xthen_ret ?_
              | refine xin_same rfl ?_
              | refine xin_other rfl ?_
          refine xagain ⟨k + 1, id, hk1, rfl, rfl⟩ (by omega) ⟨by (repeat (first | exact ImpT.nil _ | refine ImpT.cons rfl (by first | with_reducible exact Wk.refl _ | exact Wk.nil_own _ | exact Wk.nil_pl _ | with_reducible exact Wk.tok _ _ _ | exact Wk.tok _ _ _ | exact Wk.eq (by first | rfl | (simp [hs0]; done) | (simp [hs0]; omega))) ?_)), SubM.to (by (repeat (first | with_reducible exact List.Sublist.refl _ | refine List.Sublist.cons _ ?_))) (by simp [hs0])⟩
      · have hs0 := e0 True (by unfold expOne; rw [if_neg h2, if_neg fun h => h3 h.1])
        repeat
          first
          | refine xseq ?_
          | first
            | refine xregion ?_
            | refine xvalP (pv_move rfl) rfl rfl ?_
            | refine xvalP (pv_assign rfl) rfl rfl ?_
            | refine xvalP (pv_add1 rfl rfl (by omega)) rfl rfl ?_
            | refine xvalP (pv_sub1 rfl rfl (by omega)) rfl rfl ?_
            | refine xvalP (pv_bin2 rfl rfl rfl) rfl rfl ?_
            | refine xnil ?_
            | refine xthen ?_
            | refine xblock ?_
            | refine xval (qv_load ShpC.h rfl rfl rfl) rfl rfl ?_
            | refine xvalP (qv_fieldAddrB FldC.h rfl) rfl rfl ?_
            | refine xvalP (qv_fieldAddrE FldC.h rfl) rfl rfl ?_
            | refine xval (qv_loadB 0 ShpC.h rfl rfl rfl rfl) rfl rfl ?_
            | refine xval (qv_loadB 1 ShpC.h rfl rfl rfl rfl) rfl rfl ?_
            | refine xval (qv_loadB 2 ShpC.h rfl rfl rfl rfl) rfl rfl ?_
            | refine xval (qv_loadB 3 ShpC.h rfl rfl rfl rfl) rfl rfl ?_
            | refine xval (qv_loadB 4 ShpC.h rfl rfl rfl rfl) rfl rfl ?_
            | refine xvalP (pv_pick rfl rfl) rfl rfl ?_
            | refine xvalP (pv_len UndC.h rfl rfl) rfl rfl ?_
            | refine xvalP (pv_lenS UndC.h rfl) rfl rfl ?_
            | refine xvalP (pv_lenRb UndC.h rfl) rfl rfl ?_
            | refine xvalP (pv_lenV UndC.h rfl) rfl rfl ?_
            | refine xvalP (pv_not rfl) rfl rfl ?_
            | refine xvalP (pv_nilCheck rfl) rfl rfl ?_
            | refine xvalP (pv_nilCheckE rfl) rfl rfl ?_
            | refine xvalP (pv_nilCheckF rfl) rfl rfl ?_
            | refine xvalP (pv_extract rfl rfl) rfl rfl ?_
            | refine xvalP (qv_field FldC.h rfl rfl) rfl rfl ?_
            | refine xvalP (pv_indexAddr UndC.h ShpC.h rfl rfl rfl (map_at (by assumption))) rfl rfl ?_
            | refine xvalP (pv_indexAddrB UndC.h ShpC.h rfl rfl (Int.toNat_of_nonneg (by decide)).symm (by decide)) rfl rfl ?_
            | refine xvalP (pv_indexAddrE UndC.h ShpC.h rfl rfl (Int.toNat_of_nonneg (by decide)).symm (by decide)) rfl rfl ?_
            | refine xvalP (pv_eqB UndC.h rfl rfl) rfl rfl ?_
            | refine xvalP (pv_neB UndC.h rfl rfl) rfl rfl ?_
            | refine xvalP (pv_convI UndC.h UndC.h rfl) rfl rfl ?_
            | refine xvalP (pv_buildC StrC.h rfl rfl) rfl rfl ?_
            | refine xalloc InfC.h rfl rfl fun _ => ?_
            | refine xbuildSliceC UndC.h InfC.h rfl rfl rfl rfl rfl rfl fun _ => ?_
            | refine xvalP (pv_makeFuncC rfl) rfl rfl ?_
            | refine xbox rfl rfl rfl rfl fun _ => ?_
            | refine xstore 0 ShpC.h rfl rfl rfl rfl rfl rfl rfl ?_
            | refine xstore 1 ShpC.h rfl rfl rfl rfl rfl rfl rfl ?_
            | refine xstore 2 ShpC.h rfl rfl rfl rfl rfl rfl rfl ?_
            | refine xstore 3 ShpC.h rfl rfl rfl rfl rfl rfl rfl ?_
            | refine xstore 4 ShpC.h rfl rfl rfl rfl rfl rfl rfl ?_
            | refine xskip rfl rfl ?_
            | refine xskip0 rfl ?_
            | refine xcondT rfl ?_
            | refine xcondF rfl ?_
            | refine xskipc ?_
            | refine xexit ?_
            | refine xretc ?_
            | refine xin_normal ?_
            | refine xin_ret ?_
            | refine xthen_exit ?_
            | refine xthen_ret ?_
            | refine xin_same rfl ?_
            | refine xin_other rfl ?_
        refine xagain ⟨k + 1, id, hk1, rfl, rfl⟩ (by omega) ⟨by (repeat (first | exact ImpT.nil _ | refine ImpT.cons rfl (by first | with_reducible exact Wk.refl _ | exact Wk.nil_own _ | exact Wk.nil_pl _ | with_reducible exact Wk.tok _ _ _ | exact Wk.tok _ _ _ | exact Wk.eq (by first | rfl | (simp [hs0]; done) | (simp [hs0]; omega))) ?_)), SubM.to (by (repeat (first | with_reducible exact List.Sublist.refl _ | refine List.Sublist.cons _ ?_))) (by simp [hs0])⟩
  · obtain rfl : k = l.length := by have : ¬ (k : Int) < (l.length : Int) := by simpa using h1
                                    omega
    repeat
      first
      | refine xseq ?_
      | first
        | refine xregion ?_
        | refine xvalP (pv_move rfl) rfl rfl ?_
        | refine xvalP (pv_assign rfl) rfl rfl ?_
        | refine xvalP (pv_add1 rfl rfl (by omega)) rfl rfl ?_
        | refine xvalP (pv_sub1 rfl rfl (by omega)) rfl rfl ?_
        | refine xvalP (pv_bin2 rfl rfl rfl) rfl rfl ?_
        | refine xnil ?_
        | refine xthen ?_
        | refine xblock ?_
        | refine xval (qv_load ShpC.h rfl rfl rfl) rfl rfl ?_
        | refine xvalP (qv_fieldAddrB FldC.h rfl) rfl rfl ?_
        | refine xvalP (qv_fieldAddrE FldC.h rfl) rfl rfl ?_
        | refine xval (qv_loadB 0 ShpC.h rfl rfl rfl rfl) rfl rfl ?_
        | refine xval (qv_loadB 1 ShpC.h rfl rfl rfl rfl) rfl rfl ?_
        | refine xval (qv_loadB 2 ShpC.h rfl rfl rfl rfl) rfl rfl ?_
        | refine xval (qv_loadB 3 ShpC.h rfl rfl rfl rfl) rfl rfl ?_
        | refine xval (qv_loadB 4 ShpC.h rfl rfl rfl rfl) rfl rfl ?_
        | refine xvalP (pv_pick rfl rfl) rfl rfl ?_
        | refine xvalP (pv_len UndC.h rfl rfl) rfl rfl ?_
        | refine xvalP (pv_lenS UndC.h rfl) rfl rfl ?_
        | refine xvalP (pv_lenRb UndC.h rfl) rfl rfl ?_
        | refine xvalP (pv_lenV UndC.h rfl) rfl rfl ?_
        | refine xvalP (pv_not rfl) rfl rfl ?_
        | refine xvalP (pv_nilCheck rfl) rfl rfl ?_
        | refine xvalP (pv_nilCheckE rfl) rfl rfl ?_
        | refine xvalP (pv_nilCheckF rfl) rfl rfl ?_
        | refine xvalP (pv_extract rfl rfl) rfl rfl ?_
        | refine xvalP (qv_field FldC.h rfl rfl) rfl rfl ?_
        | refine xvalP (pv_indexAddr UndC.h ShpC.h rfl rfl rfl (map_at (by assumption))) rfl rfl ?_
        | refine xvalP (pv_indexAddrB UndC.h ShpC.h rfl rfl (Int.toNat_of_nonneg (by decide)).symm (by decide)) rfl rfl ?_
        | refine xvalP (pv_indexAddrE UndC.h ShpC.h rfl rfl (Int.toNat_of_nonneg (by decide)).symm (by decide)) rfl rfl ?_
        | refine xvalP (pv_eqB UndC.h rfl rfl) rfl rfl ?_
        | refine xvalP (pv_neB UndC.h rfl rfl) rfl rfl ?_
        | refine xvalP (pv_convI UndC.h UndC.h rfl) rfl rfl ?_
        | refine xvalP (pv_buildC StrC.h rfl rfl) rfl rfl ?_
        | refine xalloc InfC.h rfl rfl fun _ => ?_
        | refine xbuildSliceC UndC.h InfC.h rfl rfl rfl rfl rfl rfl fun _ => ?_
        | refine xvalP (pv_makeFuncC rfl) rfl rfl ?_
        | refine xbox rfl rfl rfl rfl fun _ => ?_
        | refine xstore 0 ShpC.h rfl rfl rfl rfl rfl rfl rfl ?_
        | refine xstore 1 ShpC.h rfl rfl rfl rfl rfl rfl rfl ?_
        | refine xstore 2 ShpC.h rfl rfl rfl rfl rfl rfl rfl ?_
        | refine xstore 3 ShpC.h rfl rfl rfl rfl rfl rfl rfl ?_
        | refine xstore 4 ShpC.h rfl rfl rfl rfl rfl rfl rfl ?_
        | refine xskip rfl rfl ?_
        | refine xskip0 rfl ?_
        | refine xcondT rfl ?_
        | refine xcondF rfl ?_
        | refine xskipc ?_
        | refine xexit ?_
        | refine xretc ?_
        | refine xin_normal ?_
        | refine xin_ret ?_
        | refine xthen_exit ?_
        | refine xthen_ret ?_
        | refine xin_same rfl ?_
        | refine xin_other rfl ?_
    exact xret1 hg rfl rfl (.eq rfl) (SubM.noBx _ _) ⟨id, by rw [List.take_length], rfl, by simp⟩
end Go.Proofs.Ytcekiclbfjfagaa
