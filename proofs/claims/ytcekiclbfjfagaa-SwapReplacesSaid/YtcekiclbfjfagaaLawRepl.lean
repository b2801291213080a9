/- The walk of the law SwapReplaces. -/
import Derived.Test.YtcekiclbfjfagaaReplR
import Derived.Test.YtcekiclbfjfagaaLawExp
namespace Go.Proofs.Ytcekiclbfjfagaa

theorem amp_go {text : List UInt8} {hits : List HitT} : ∀ k, k ≤ hits.length → (replGo text [(1, 0, [])] (hits.take k)).2 ≤ text.length ∧ (replGo text [(1, 0, [])] (hits.take k)).1 = text.take (replGo text [(1, 0, [])] (hits.take k)).2
  | 0, _ => ⟨Nat.zero_le _, rfl⟩
  | k + 1, hk => by
    obtain ⟨h1, h2⟩ := amp_go (text := text) (hits := hits) k (by omega)
    have hh : hits[k]? = some hits[k] := List.getElem?_eq_getElem (by omega)
    rw [replGo_snoc hh]
    generalize replGo text [(1, 0, [])] (hits.take k) = st at h1 h2
    generalize hits[k] = h
    obtain ⟨hl0, hlen⟩ := h
    obtain ⟨⟨f, u⟩, b, c, d, e, f', g', h', i, j, rfl⟩ := ten hl0 hlen
    by_cases hc : 0 ≤ f ∧ f ≤ u ∧ u ≤ (text.length : Int) ∧ (st.2 : Int) ≤ f
    · have e2 : replStep text [(1, 0, [])] st ⟨[(f, u), b, c, d, e, f', g', h', i, j], hlen⟩ = (st.1 ++ (text.take f.toNat).drop st.2 ++ expand text [(f, u), b, c, d, e, f', g', h', i, j] [(1, 0, [])], u.toNat) := if_pos hc
      rw [e2]
      refine ⟨by simp only []; omega, ?_⟩
      have e1 : expand text [(f, u), b, c, d, e, f', g', h', i, j] [(1, 0, [])] = (text.take u.toNat).drop f.toNat := by
        simp [expand, expOne, hc.1, hc.2.1, hc.2.2.1]
      simp only [e1, h2]
      have hfu : st.2 ≤ f.toNat := by omega
      have huu : f.toNat ≤ u.toNat := by omega
      have a1 : text.take st.2 ++ (text.take f.toNat).drop st.2 = text.take f.toNat := by
        have := List.take_append_drop st.2 (text.take f.toNat)
        rwa [List.take_take, Nat.min_eq_left hfu] at this
      rw [a1]
      have := List.take_append_drop f.toNat (text.take u.toNat)
      rwa [List.take_take, Nat.min_eq_left huu] at this
    · have e2 : replStep text [(1, 0, [])] st ⟨[(f, u), b, c, d, e, f', g', h', i, j], hlen⟩ = st := if_neg hc
      rw [e2]; exact ⟨h1, h2⟩
theorem amp_repl (text : List UInt8) (hits : List HitT) : repl text [(1, 0, [])] hits = text := by
  obtain ⟨_, h2⟩ := amp_go (text := text) (hits := hits) hits.length (Nat.le_refl _)
  rw [List.take_length] at h2
  rw [repl, h2, List.take_append_drop]
theorem nil_repl (text : List UInt8) (l : List PartT) : repl text l [] = text := by simp [repl, replGo]

set_option maxHeartbeats 2000000 in
theorem lawRepl_any (l : List PartT) (text : List UInt8) (hits : List HitT) : Con Try.prog 4 [.sl 3 none (l.map encP), .sl 1 none (text.map eb), .sl 20 none (hits.map encH)] [] [] (Ret (.v (.bool true))) := by
  refine xenter Try.func4 rfl rfl fun g hg => ?_
  simp only [Try.ntmps4, slots]
  repeat
    first
    | refine xseq ?_
    | refine xregion ?_
    | refine xvalP (pv_move rfl) rfl rfl ?_
    | refine xvalP (pv_assign rfl) rfl rfl ?_
    | refine xvalP (pv_add1 rfl rfl (by omega)) rfl rfl ?_
    | refine xvalP (pv_sub1 rfl rfl (by omega)) rfl rfl ?_
    | refine xvalP (pv_bin2 rfl rfl rfl) rfl rfl ?_
    | refine xnil ?_
    | refine xthen ?_
    | refine xblock ?_
    | refine xval (qv_load ShpC.h rfl rfl rfl) rfl rfl ?_
    | refine xvalP (qv_fieldAddrB FldC.h rfl) rfl rfl ?_
    | refine xvalP (qv_fieldAddrE FldC.h rfl) rfl rfl ?_
    | refine xval (qv_loadB 0 ShpC.h rfl rfl rfl rfl) rfl rfl ?_
    | refine xval (qv_loadB 1 ShpC.h rfl rfl rfl rfl) rfl rfl ?_
    | refine xval (qv_loadB 2 ShpC.h rfl rfl rfl rfl) rfl rfl ?_
    | refine xval (qv_loadB 3 ShpC.h rfl rfl rfl rfl) rfl rfl ?_
    | refine xval (qv_loadB 4 ShpC.h rfl rfl rfl rfl) rfl rfl ?_
    | refine xvalP (pv_pick rfl rfl) rfl rfl ?_
    | refine xvalP (pv_len UndC.h rfl rfl) rfl rfl ?_
    | refine xvalP (pv_lenS UndC.h rfl) rfl rfl ?_
    | refine xvalP (pv_not rfl) rfl rfl ?_
    | refine xvalP (pv_nilCheck rfl) rfl rfl ?_
    | refine xvalP (pv_nilCheckE rfl) rfl rfl ?_
    | refine xvalP (pv_nilCheckF rfl) rfl rfl ?_
    | refine xvalP (pv_extract rfl rfl) rfl rfl ?_
    | refine xvalP (qv_field FldC.h rfl rfl) rfl rfl ?_
    | refine xvalP (pv_indexAddr UndC.h ShpC.h rfl rfl rfl (map_at (by assumption))) rfl rfl ?_
    | refine xvalP (pv_indexAddrB UndC.h ShpC.h rfl rfl (Int.toNat_of_nonneg (by decide)).symm (by decide)) rfl rfl ?_
    | refine xvalP (pv_indexAddrE UndC.h ShpC.h rfl rfl (Int.toNat_of_nonneg (by decide)).symm (by decide)) rfl rfl ?_
    | refine xvalP (pv_eqB UndC.h rfl rfl) rfl rfl ?_
    | refine xvalP (pv_neB UndC.h rfl rfl) rfl rfl ?_
    | refine xvalP (pv_convI UndC.h UndC.h rfl) rfl rfl ?_
    | refine xvalP (pv_buildC StrC.h rfl rfl) rfl rfl ?_
    | refine xalloc InfC.h rfl rfl fun _ => ?_
    | refine xbuildSliceC UndC.h InfC.h rfl rfl rfl rfl rfl rfl fun _ => ?_
    | refine xvalP (pv_makeFuncC rfl) rfl rfl ?_
    | refine xbox rfl rfl rfl rfl fun _ => ?_
    | refine xstore 0 ShpC.h rfl rfl rfl rfl rfl rfl rfl ?_
    | refine xstore 1 ShpC.h rfl rfl rfl rfl rfl rfl rfl ?_
    | refine xstore 2 ShpC.h rfl rfl rfl rfl rfl rfl rfl ?_
    | refine xstore 3 ShpC.h rfl rfl rfl rfl rfl rfl rfl ?_
    | refine xstore 4 ShpC.h rfl rfl rfl rfl rfl rfl rfl ?_
    | refine xskip rfl rfl ?_
    | refine xskip0 rfl ?_
    | refine xcondT rfl ?_
    | refine xcondF rfl ?_
    | refine xskipc ?_
    | refine xexit ?_
    | refine xretc ?_
    | refine xin_normal ?_
    | refine xin_ret ?_
    | refine xthen_exit ?_
    | refine xthen_ret ?_
    | refine xin_same rfl ?_
    | refine xin_other rfl ?_
  refine xcall0 (great_any l text) Try.func7 (by kernel_rfl) rfl (by repeat (first | exact EvL.nil | refine EvL.cons rfl (by first | with_reducible exact Wk.refl _ | exact Wk.nil_pl _ | with_reducible exact Wk.tok _ _ _ | exact Wk.eq rfl) ?_)) rfl rfl ?_
  repeat
    first
    | refine xseq ?_
    | refine xregion ?_
    | refine xvalP (pv_move rfl) rfl rfl ?_
    | refine xvalP (pv_assign rfl) rfl rfl ?_
    | refine xvalP (pv_add1 rfl rfl (by omega)) rfl rfl ?_
    | refine xvalP (pv_sub1 rfl rfl (by omega)) rfl rfl ?_
    | refine xvalP (pv_bin2 rfl rfl rfl) rfl rfl ?_
    | refine xnil ?_
    | refine xthen ?_
    | refine xblock ?_
    | refine xval (qv_load ShpC.h rfl rfl rfl) rfl rfl ?_
    | refine xvalP (qv_fieldAddrB FldC.h rfl) rfl rfl ?_
    | refine xvalP (qv_fieldAddrE FldC.h rfl) rfl rfl ?_
    | refine xval (qv_loadB 0 ShpC.h rfl rfl rfl rfl) rfl rfl ?_
    | refine xval (qv_loadB 1 ShpC.h rfl rfl rfl rfl) rfl rfl ?_
    | refine xval (qv_loadB 2 ShpC.h rfl rfl rfl rfl) rfl rfl ?_
    | refine xval (qv_loadB 3 ShpC.h rfl rfl rfl rfl) rfl rfl ?_
    | refine xval (qv_loadB 4 ShpC.h rfl rfl rfl rfl) rfl rfl ?_
    | refine xvalP (pv_pick rfl rfl) rfl rfl ?_
    | refine xvalP (pv_len UndC.h rfl rfl) rfl rfl ?_
    | refine xvalP (pv_lenS UndC.h rfl) rfl rfl ?_
    | refine xvalP (pv_not rfl) rfl rfl ?_
    | refine xvalP (pv_nilCheck rfl) rfl rfl ?_
    | refine xvalP (pv_nilCheckE rfl) rfl rfl ?_
    | refine xvalP (pv_nilCheckF rfl) rfl rfl ?_
    | refine xvalP (pv_extract rfl rfl) rfl rfl ?_
    | refine xvalP (qv_field FldC.h rfl rfl) rfl rfl ?_
    | refine xvalP (pv_indexAddr UndC.h ShpC.h rfl rfl rfl (map_at (by assumption))) rfl rfl ?_
    | refine xvalP (pv_indexAddrB UndC.h ShpC.h rfl rfl (Int.toNat_of_nonneg (by decide)).symm (by decide)) rfl rfl ?_
    | refine xvalP (pv_indexAddrE UndC.h ShpC.h rfl rfl (Int.toNat_of_nonneg (by decide)).symm (by decide)) rfl rfl ?_
    | refine xvalP (pv_eqB UndC.h rfl rfl) rfl rfl ?_
    | refine xvalP (pv_neB UndC.h rfl rfl) rfl rfl ?_
    | refine xvalP (pv_convI UndC.h UndC.h rfl) rfl rfl ?_
    | refine xvalP (pv_buildC StrC.h rfl rfl) rfl rfl ?_
    | refine xalloc InfC.h rfl rfl fun _ => ?_
    | refine xbuildSliceC UndC.h InfC.h rfl rfl rfl rfl rfl rfl fun _ => ?_
    | refine xvalP (pv_makeFuncC rfl) rfl rfl ?_
    | refine xbox rfl rfl rfl rfl fun _ => ?_
    | refine xstore 0 ShpC.h rfl rfl rfl rfl rfl rfl rfl ?_
    | refine xstore 1 ShpC.h rfl rfl rfl rfl rfl rfl rfl ?_
    | refine xstore 2 ShpC.h rfl rfl rfl rfl rfl rfl rfl ?_
    | refine xstore 3 ShpC.h rfl rfl rfl rfl rfl rfl rfl ?_
    | refine xstore 4 ShpC.h rfl rfl rfl rfl rfl rfl rfl ?_
    | refine xskip rfl rfl ?_
    | refine xskip0 rfl ?_
    | refine xcondT rfl ?_
    | refine xcondF rfl ?_
    | refine xskipc ?_
    | refine xexit ?_
    | refine xretc ?_
    | refine xin_normal ?_
    | refine xin_ret ?_
    | refine xthen_exit ?_
    | refine xthen_ret ?_
    | refine xin_same rfl ?_
    | refine xin_other rfl ?_
  refine xguard rfl rfl (fun h1 => ?_) (fun h1 => ?_)
  · repeat
      first
      | refine xseq ?_
      | refine xregion ?_
      | refine xvalP (pv_move rfl) rfl rfl ?_
      | refine xvalP (pv_assign rfl) rfl rfl ?_
      | refine xvalP (pv_add1 rfl rfl (by omega)) rfl rfl ?_
      | refine xvalP (pv_sub1 rfl rfl (by omega)) rfl rfl ?_
      | refine xvalP (pv_bin2 rfl rfl rfl) rfl rfl ?_
      | refine xnil ?_
      | refine xthen ?_
      | refine xblock ?_
      | refine xval (qv_load ShpC.h rfl rfl rfl) rfl rfl ?_
      | refine xvalP (qv_fieldAddrB FldC.h rfl) rfl rfl ?_
      | refine xvalP (qv_fieldAddrE FldC.h rfl) rfl rfl ?_
      | refine xval (qv_loadB 0 ShpC.h rfl rfl rfl rfl) rfl rfl ?_
      | refine xval (qv_loadB 1 ShpC.h rfl rfl rfl rfl) rfl rfl ?_
      | refine xval (qv_loadB 2 ShpC.h rfl rfl rfl rfl) rfl rfl ?_
      | refine xval (qv_loadB 3 ShpC.h rfl rfl rfl rfl) rfl rfl ?_
      | refine xval (qv_loadB 4 ShpC.h rfl rfl rfl rfl) rfl rfl ?_
      | refine xvalP (pv_pick rfl rfl) rfl rfl ?_
      | refine xvalP (pv_len UndC.h rfl rfl) rfl rfl ?_
      | refine xvalP (pv_lenS UndC.h rfl) rfl rfl ?_
      | refine xvalP (pv_not rfl) rfl rfl ?_
      | refine xvalP (pv_nilCheck rfl) rfl rfl ?_
      | refine xvalP (pv_nilCheckE rfl) rfl rfl ?_
      | refine xvalP (pv_nilCheckF rfl) rfl rfl ?_
      | refine xvalP (pv_extract rfl rfl) rfl rfl ?_
      | refine xvalP (qv_field FldC.h rfl rfl) rfl rfl ?_
      | refine xvalP (pv_indexAddr UndC.h ShpC.h rfl rfl rfl (map_at (by assumption))) rfl rfl ?_
      | refine xvalP (pv_indexAddrB UndC.h ShpC.h rfl rfl (Int.toNat_of_nonneg (by decide)).symm (by decide)) rfl rfl ?_
      | refine xvalP (pv_indexAddrE UndC.h ShpC.h rfl rfl (Int.toNat_of_nonneg (by decide)).symm (by decide)) rfl rfl ?_
      | refine xvalP (pv_eqB UndC.h rfl rfl) rfl rfl ?_
      | refine xvalP (pv_neB UndC.h rfl rfl) rfl rfl ?_
      | refine xvalP (pv_convI UndC.h UndC.h rfl) rfl rfl ?_
      | refine xvalP (pv_buildC StrC.h rfl rfl) rfl rfl ?_
      | refine xalloc InfC.h rfl rfl fun _ => ?_
      | refine xbuildSliceC UndC.h InfC.h rfl rfl rfl rfl rfl rfl fun _ => ?_
      | refine xvalP (pv_makeFuncC rfl) rfl rfl ?_
      | refine xbox rfl rfl rfl rfl fun _ => ?_
      | refine xstore 0 ShpC.h rfl rfl rfl rfl rfl rfl rfl ?_
      | refine xstore 1 ShpC.h rfl rfl rfl rfl rfl rfl rfl ?_
      | refine xstore 2 ShpC.h rfl rfl rfl rfl rfl rfl rfl ?_
      | refine xstore 3 ShpC.h rfl rfl rfl rfl rfl rfl rfl ?_
      | refine xstore 4 ShpC.h rfl rfl rfl rfl rfl rfl rfl ?_
      | refine xskip rfl rfl ?_
      | refine xskip0 rfl ?_
      | refine xcondT rfl ?_
      | refine xcondF rfl ?_
      | refine xskipc ?_
      | refine xexit ?_
      | refine xretc ?_
      | refine xin_normal ?_
      | refine xin_ret ?_
      | refine xthen_exit ?_
      | refine xthen_ret ?_
      | refine xin_same rfl ?_
      | refine xin_other rfl ?_
    refine xcall0 (awake_any) Try.func8 (by kernel_rfl) rfl (by repeat (first | exact EvL.nil | refine EvL.cons rfl (by first | with_reducible exact Wk.refl _ | exact Wk.nil_pl _ | with_reducible exact Wk.tok _ _ _ | exact Wk.eq rfl) ?_)) rfl rfl ?_
    repeat
      first
      | refine xseq ?_
      | refine xregion ?_
      | refine xvalP (pv_move rfl) rfl rfl ?_
      | refine xvalP (pv_assign rfl) rfl rfl ?_
      | refine xvalP (pv_add1 rfl rfl (by omega)) rfl rfl ?_
      | refine xvalP (pv_sub1 rfl rfl (by omega)) rfl rfl ?_
      | refine xvalP (pv_bin2 rfl rfl rfl) rfl rfl ?_
      | refine xnil ?_
      | refine xthen ?_
      | refine xblock ?_
      | refine xval (qv_load ShpC.h rfl rfl rfl) rfl rfl ?_
      | refine xvalP (qv_fieldAddrB FldC.h rfl) rfl rfl ?_
      | refine xvalP (qv_fieldAddrE FldC.h rfl) rfl rfl ?_
      | refine xval (qv_loadB 0 ShpC.h rfl rfl rfl rfl) rfl rfl ?_
      | refine xval (qv_loadB 1 ShpC.h rfl rfl rfl rfl) rfl rfl ?_
      | refine xval (qv_loadB 2 ShpC.h rfl rfl rfl rfl) rfl rfl ?_
      | refine xval (qv_loadB 3 ShpC.h rfl rfl rfl rfl) rfl rfl ?_
      | refine xval (qv_loadB 4 ShpC.h rfl rfl rfl rfl) rfl rfl ?_
      | refine xvalP (pv_pick rfl rfl) rfl rfl ?_
      | refine xvalP (pv_len UndC.h rfl rfl) rfl rfl ?_
      | refine xvalP (pv_lenS UndC.h rfl) rfl rfl ?_
      | refine xvalP (pv_not rfl) rfl rfl ?_
      | refine xvalP (pv_nilCheck rfl) rfl rfl ?_
      | refine xvalP (pv_nilCheckE rfl) rfl rfl ?_
      | refine xvalP (pv_nilCheckF rfl) rfl rfl ?_
      | refine xvalP (pv_extract rfl rfl) rfl rfl ?_
      | refine xvalP (qv_field FldC.h rfl rfl) rfl rfl ?_
      | refine xvalP (pv_indexAddr UndC.h ShpC.h rfl rfl rfl (map_at (by assumption))) rfl rfl ?_
      | refine xvalP (pv_indexAddrB UndC.h ShpC.h rfl rfl (Int.toNat_of_nonneg (by decide)).symm (by decide)) rfl rfl ?_
      | refine xvalP (pv_indexAddrE UndC.h ShpC.h rfl rfl (Int.toNat_of_nonneg (by decide)).symm (by decide)) rfl rfl ?_
      | refine xvalP (pv_eqB UndC.h rfl rfl) rfl rfl ?_
      | refine xvalP (pv_neB UndC.h rfl rfl) rfl rfl ?_
      | refine xvalP (pv_convI UndC.h UndC.h rfl) rfl rfl ?_
      | refine xvalP (pv_buildC StrC.h rfl rfl) rfl rfl ?_
      | refine xalloc InfC.h rfl rfl fun _ => ?_
      | refine xbuildSliceC UndC.h InfC.h rfl rfl rfl rfl rfl rfl fun _ => ?_
      | refine xvalP (pv_makeFuncC rfl) rfl rfl ?_
      | refine xbox rfl rfl rfl rfl fun _ => ?_
      | refine xstore 0 ShpC.h rfl rfl rfl rfl rfl rfl rfl ?_
      | refine xstore 1 ShpC.h rfl rfl rfl rfl rfl rfl rfl ?_
      | refine xstore 2 ShpC.h rfl rfl rfl rfl rfl rfl rfl ?_
      | refine xstore 3 ShpC.h rfl rfl rfl rfl rfl rfl rfl ?_
      | refine xstore 4 ShpC.h rfl rfl rfl rfl rfl rfl rfl ?_
      | refine xskip rfl rfl ?_
      | refine xskip0 rfl ?_
      | refine xcondT rfl ?_
      | refine xcondF rfl ?_
      | refine xskipc ?_
      | refine xexit ?_
      | refine xretc ?_
      | refine xin_normal ?_
      | refine xin_ret ?_
      | refine xthen_exit ?_
      | refine xthen_ret ?_
      | refine xin_same rfl ?_
      | refine xin_other rfl ?_
    exact xret1 hg rfl rfl (.refl _) (SubM.none _ _) ⟨rfl, rfl, rfl⟩
  · obtain ⟨g1, g2, g3⟩ := not_great h1
    repeat
      first
      | refine xseq ?_
      | refine xregion ?_
      | refine xvalP (pv_move rfl) rfl rfl ?_
      | refine xvalP (pv_assign rfl) rfl rfl ?_
      | refine xvalP (pv_add1 rfl rfl (by omega)) rfl rfl ?_
      | refine xvalP (pv_sub1 rfl rfl (by omega)) rfl rfl ?_
      | refine xvalP (pv_bin2 rfl rfl rfl) rfl rfl ?_
      | refine xnil ?_
      | refine xthen ?_
      | refine xblock ?_
      | refine xval (qv_load ShpC.h rfl rfl rfl) rfl rfl ?_
      | refine xvalP (qv_fieldAddrB FldC.h rfl) rfl rfl ?_
      | refine xvalP (qv_fieldAddrE FldC.h rfl) rfl rfl ?_
      | refine xval (qv_loadB 0 ShpC.h rfl rfl rfl rfl) rfl rfl ?_
      | refine xval (qv_loadB 1 ShpC.h rfl rfl rfl rfl) rfl rfl ?_
      | refine xval (qv_loadB 2 ShpC.h rfl rfl rfl rfl) rfl rfl ?_
      | refine xval (qv_loadB 3 ShpC.h rfl rfl rfl rfl) rfl rfl ?_
      | refine xval (qv_loadB 4 ShpC.h rfl rfl rfl rfl) rfl rfl ?_
      | refine xvalP (pv_pick rfl rfl) rfl rfl ?_
      | refine xvalP (pv_len UndC.h rfl rfl) rfl rfl ?_
      | refine xvalP (pv_lenS UndC.h rfl) rfl rfl ?_
      | refine xvalP (pv_not rfl) rfl rfl ?_
      | refine xvalP (pv_nilCheck rfl) rfl rfl ?_
      | refine xvalP (pv_nilCheckE rfl) rfl rfl ?_
      | refine xvalP (pv_nilCheckF rfl) rfl rfl ?_
      | refine xvalP (pv_extract rfl rfl) rfl rfl ?_
      | refine xvalP (qv_field FldC.h rfl rfl) rfl rfl ?_
      | refine xvalP (pv_indexAddr UndC.h ShpC.h rfl rfl rfl (map_at (by assumption))) rfl rfl ?_
      | refine xvalP (pv_indexAddrB UndC.h ShpC.h rfl rfl (Int.toNat_of_nonneg (by decide)).symm (by decide)) rfl rfl ?_
      | refine xvalP (pv_indexAddrE UndC.h ShpC.h rfl rfl (Int.toNat_of_nonneg (by decide)).symm (by decide)) rfl rfl ?_
      | refine xvalP (pv_eqB UndC.h rfl rfl) rfl rfl ?_
      | refine xvalP (pv_neB UndC.h rfl rfl) rfl rfl ?_
      | refine xvalP (pv_convI UndC.h UndC.h rfl) rfl rfl ?_
      | refine xvalP (pv_buildC StrC.h rfl rfl) rfl rfl ?_
      | refine xalloc InfC.h rfl rfl fun _ => ?_
      | refine xbuildSliceC UndC.h InfC.h rfl rfl rfl rfl rfl rfl fun _ => ?_
      | refine xvalP (pv_makeFuncC rfl) rfl rfl ?_
      | refine xbox rfl rfl rfl rfl fun _ => ?_
      | refine xstore 0 ShpC.h rfl rfl rfl rfl rfl rfl rfl ?_
      | refine xstore 1 ShpC.h rfl rfl rfl rfl rfl rfl rfl ?_
      | refine xstore 2 ShpC.h rfl rfl rfl rfl rfl rfl rfl ?_
      | refine xstore 3 ShpC.h rfl rfl rfl rfl rfl rfl rfl ?_
      | refine xstore 4 ShpC.h rfl rfl rfl rfl rfl rfl rfl ?_
      | refine xskip rfl rfl ?_
      | refine xskip0 rfl ?_
      | refine xcondT rfl ?_
      | refine xcondF rfl ?_
      | refine xskipc ?_
      | refine xexit ?_
      | refine xretc ?_
      | refine xin_normal ?_
      | refine xin_ret ?_
      | refine xthen_exit ?_
      | refine xthen_ret ?_
      | refine xin_same rfl ?_
      | refine xin_other rfl ?_
    refine xcondD rfl (fun h2 => ?_) (fun h2 => ?_)
    · repeat
        first
        | refine xseq ?_
        | refine xregion ?_
        | refine xvalP (pv_move rfl) rfl rfl ?_
        | refine xvalP (pv_assign rfl) rfl rfl ?_
        | refine xvalP (pv_add1 rfl rfl (by omega)) rfl rfl ?_
        | refine xvalP (pv_sub1 rfl rfl (by omega)) rfl rfl ?_
        | refine xvalP (pv_bin2 rfl rfl rfl) rfl rfl ?_
        | refine xnil ?_
        | refine xthen ?_
        | refine xblock ?_
        | refine xval (qv_load ShpC.h rfl rfl rfl) rfl rfl ?_
        | refine xvalP (qv_fieldAddrB FldC.h rfl) rfl rfl ?_
        | refine xvalP (qv_fieldAddrE FldC.h rfl) rfl rfl ?_
        | refine xval (qv_loadB 0 ShpC.h rfl rfl rfl rfl) rfl rfl ?_
        | refine xval (qv_loadB 1 ShpC.h rfl rfl rfl rfl) rfl rfl ?_
        | refine xval (qv_loadB 2 ShpC.h rfl rfl rfl rfl) rfl rfl ?_
        | refine xval (qv_loadB 3 ShpC.h rfl rfl rfl rfl) rfl rfl ?_
        | refine xval (qv_loadB 4 ShpC.h rfl rfl rfl rfl) rfl rfl ?_
        | refine xvalP (pv_pick rfl rfl) rfl rfl ?_
        | refine xvalP (pv_len UndC.h rfl rfl) rfl rfl ?_
        | refine xvalP (pv_lenS UndC.h rfl) rfl rfl ?_
        | refine xvalP (pv_not rfl) rfl rfl ?_
        | refine xvalP (pv_nilCheck rfl) rfl rfl ?_
        | refine xvalP (pv_nilCheckE rfl) rfl rfl ?_
        | refine xvalP (pv_nilCheckF rfl) rfl rfl ?_
        | refine xvalP (pv_extract rfl rfl) rfl rfl ?_
        | refine xvalP (qv_field FldC.h rfl rfl) rfl rfl ?_
        | refine xvalP (pv_indexAddr UndC.h ShpC.h rfl rfl rfl (map_at (by assumption))) rfl rfl ?_
        | refine xvalP (pv_indexAddrB UndC.h ShpC.h rfl rfl (Int.toNat_of_nonneg (by decide)).symm (by decide)) rfl rfl ?_
        | refine xvalP (pv_indexAddrE UndC.h ShpC.h rfl rfl (Int.toNat_of_nonneg (by decide)).symm (by decide)) rfl rfl ?_
        | refine xvalP (pv_eqB UndC.h rfl rfl) rfl rfl ?_
        | refine xvalP (pv_neB UndC.h rfl rfl) rfl rfl ?_
        | refine xvalP (pv_convI UndC.h UndC.h rfl) rfl rfl ?_
        | refine xvalP (pv_buildC StrC.h rfl rfl) rfl rfl ?_
        | refine xalloc InfC.h rfl rfl fun _ => ?_
        | refine xbuildSliceC UndC.h InfC.h rfl rfl rfl rfl rfl rfl fun _ => ?_
        | refine xvalP (pv_makeFuncC rfl) rfl rfl ?_
        | refine xbox rfl rfl rfl rfl fun _ => ?_
        | refine xstore 0 ShpC.h rfl rfl rfl rfl rfl rfl rfl ?_
        | refine xstore 1 ShpC.h rfl rfl rfl rfl rfl rfl rfl ?_
        | refine xstore 2 ShpC.h rfl rfl rfl rfl rfl rfl rfl ?_
        | refine xstore 3 ShpC.h rfl rfl rfl rfl rfl rfl rfl ?_
        | refine xstore 4 ShpC.h rfl rfl rfl rfl rfl rfl rfl ?_
        | refine xskip rfl rfl ?_
        | refine xskip0 rfl ?_
        | refine xcondT rfl ?_
        | refine xcondF rfl ?_
        | refine xskipc ?_
        | refine xexit ?_
        | refine xretc ?_
        | refine xin_normal ?_
        | refine xin_ret ?_
        | refine xthen_exit ?_
        | refine xthen_ret ?_
        | refine xin_same rfl ?_
        | refine xin_other rfl ?_
      refine xcall0 (awake_any) Try.func8 (by kernel_rfl) rfl (by repeat (first | exact EvL.nil | refine EvL.cons rfl (by first | with_reducible exact Wk.refl _ | exact Wk.nil_pl _ | with_reducible exact Wk.tok _ _ _ | exact Wk.eq rfl) ?_)) rfl rfl ?_
      repeat
        first
        | refine xseq ?_
        | refine xregion ?_
        | refine xvalP (pv_move rfl) rfl rfl ?_
        | refine xvalP (pv_assign rfl) rfl rfl ?_
        | refine xvalP (pv_add1 rfl rfl (by omega)) rfl rfl ?_
        | refine xvalP (pv_sub1 rfl rfl (by omega)) rfl rfl ?_
        | refine xvalP (pv_bin2 rfl rfl rfl) rfl rfl ?_
        | refine xnil ?_
        | refine xthen ?_
        | refine xblock ?_
        | refine xval (qv_load ShpC.h rfl rfl rfl) rfl rfl ?_
        | refine xvalP (qv_fieldAddrB FldC.h rfl) rfl rfl ?_
        | refine xvalP (qv_fieldAddrE FldC.h rfl) rfl rfl ?_
        | refine xval (qv_loadB 0 ShpC.h rfl rfl rfl rfl) rfl rfl ?_
        | refine xval (qv_loadB 1 ShpC.h rfl rfl rfl rfl) rfl rfl ?_
        | refine xval (qv_loadB 2 ShpC.h rfl rfl rfl rfl) rfl rfl ?_
        | refine xval (qv_loadB 3 ShpC.h rfl rfl rfl rfl) rfl rfl ?_
        | refine xval (qv_loadB 4 ShpC.h rfl rfl rfl rfl) rfl rfl ?_
        | refine xvalP (pv_pick rfl rfl) rfl rfl ?_
        | refine xvalP (pv_len UndC.h rfl rfl) rfl rfl ?_
        | refine xvalP (pv_lenS UndC.h rfl) rfl rfl ?_
        | refine xvalP (pv_not rfl) rfl rfl ?_
        | refine xvalP (pv_nilCheck rfl) rfl rfl ?_
        | refine xvalP (pv_nilCheckE rfl) rfl rfl ?_
        | refine xvalP (pv_nilCheckF rfl) rfl rfl ?_
        | refine xvalP (pv_extract rfl rfl) rfl rfl ?_
        | refine xvalP (qv_field FldC.h rfl rfl) rfl rfl ?_
        | refine xvalP (pv_indexAddr UndC.h ShpC.h rfl rfl rfl (map_at (by assumption))) rfl rfl ?_
        | refine xvalP (pv_indexAddrB UndC.h ShpC.h rfl rfl (Int.toNat_of_nonneg (by decide)).symm (by decide)) rfl rfl ?_
        | refine xvalP (pv_indexAddrE UndC.h ShpC.h rfl rfl (Int.toNat_of_nonneg (by decide)).symm (by decide)) rfl rfl ?_
        | refine xvalP (pv_eqB UndC.h rfl rfl) rfl rfl ?_
        | refine xvalP (pv_neB UndC.h rfl rfl) rfl rfl ?_
        | refine xvalP (pv_convI UndC.h UndC.h rfl) rfl rfl ?_
        | refine xvalP (pv_buildC StrC.h rfl rfl) rfl rfl ?_
        | refine xalloc InfC.h rfl rfl fun _ => ?_
        | refine xbuildSliceC UndC.h InfC.h rfl rfl rfl rfl rfl rfl fun _ => ?_
        | refine xvalP (pv_makeFuncC rfl) rfl rfl ?_
        | refine xbox rfl rfl rfl rfl fun _ => ?_
        | refine xstore 0 ShpC.h rfl rfl rfl rfl rfl rfl rfl ?_
        | refine xstore 1 ShpC.h rfl rfl rfl rfl rfl rfl rfl ?_
        | refine xstore 2 ShpC.h rfl rfl rfl rfl rfl rfl rfl ?_
        | refine xstore 3 ShpC.h rfl rfl rfl rfl rfl rfl rfl ?_
        | refine xstore 4 ShpC.h rfl rfl rfl rfl rfl rfl rfl ?_
        | refine xskip rfl rfl ?_
        | refine xskip0 rfl ?_
        | refine xcondT rfl ?_
        | refine xcondF rfl ?_
        | refine xskipc ?_
        | refine xexit ?_
        | refine xretc ?_
        | refine xin_normal ?_
        | refine xin_ret ?_
        | refine xthen_exit ?_
        | refine xthen_ret ?_
        | refine xin_same rfl ?_
        | refine xin_other rfl ?_
      exact xret1 hg rfl rfl (.refl _) (SubM.none _ _) ⟨rfl, rfl, rfl⟩
    · have hh : hits.length ≤ 12 := by simp at h2; omega
      have hE : ∀ h ∈ hits, (expand text h.l l).length ≤ 1000 := fun h _ => by have := expand_len (sp := h.l) g2 g3; omega
      have hE1 : ∀ h ∈ hits, (expand text h.l [(1, 0, [])]).length ≤ 1000 := fun h _ => by have := expand_len (sp := h.l) (l := [(1, 0, [])]) (by simp) g3; simp at this; omega
      obtain ⟨hb1, hb2⟩ := replGo_le (by omega) hE hits.length (Nat.le_refl _)
      rw [List.take_length] at hb1 hb2
      have hlen : (repl text l hits).length ≤ 1000000 := by rw [repl, List.length_append, List.length_drop]; omega
      have hs := same_any (repl text l hits) (repl text l hits) (by omega)
      rw [decide_eq_true rfl] at hs
      have ht := same_any text text (by omega)
      rw [decide_eq_true rfl] at ht
      have hr1 := repl_any [(1, 0, [])] text hits (by simp) (by omega) (by omega) hE1
      rw [amp_repl] at hr1
      have hr2 := repl_any l text [] (by omega) (by omega) (by simp) (by simp)
      rw [nil_repl] at hr2
      repeat
        first
        | refine xseq ?_
        | refine xregion ?_
        | refine xvalP (pv_move rfl) rfl rfl ?_
        | refine xvalP (pv_assign rfl) rfl rfl ?_
        | refine xvalP (pv_add1 rfl rfl (by omega)) rfl rfl ?_
        | refine xvalP (pv_sub1 rfl rfl (by omega)) rfl rfl ?_
        | refine xvalP (pv_bin2 rfl rfl rfl) rfl rfl ?_
        | refine xnil ?_
        | refine xthen ?_
        | refine xblock ?_
        | refine xval (qv_load ShpC.h rfl rfl rfl) rfl rfl ?_
        | refine xvalP (qv_fieldAddrB FldC.h rfl) rfl rfl ?_
        | refine xvalP (qv_fieldAddrE FldC.h rfl) rfl rfl ?_
        | refine xval (qv_loadB 0 ShpC.h rfl rfl rfl rfl) rfl rfl ?_
        | refine xval (qv_loadB 1 ShpC.h rfl rfl rfl rfl) rfl rfl ?_
        | refine xval (qv_loadB 2 ShpC.h rfl rfl rfl rfl) rfl rfl ?_
        | refine xval (qv_loadB 3 ShpC.h rfl rfl rfl rfl) rfl rfl ?_
        | refine xval (qv_loadB 4 ShpC.h rfl rfl rfl rfl) rfl rfl ?_
        | refine xvalP (pv_pick rfl rfl) rfl rfl ?_
        | refine xvalP (pv_len UndC.h rfl rfl) rfl rfl ?_
        | refine xvalP (pv_lenS UndC.h rfl) rfl rfl ?_
        | refine xvalP (pv_not rfl) rfl rfl ?_
        | refine xvalP (pv_nilCheck rfl) rfl rfl ?_
        | refine xvalP (pv_nilCheckE rfl) rfl rfl ?_
        | refine xvalP (pv_nilCheckF rfl) rfl rfl ?_
        | refine xvalP (pv_extract rfl rfl) rfl rfl ?_
        | refine xvalP (qv_field FldC.h rfl rfl) rfl rfl ?_
        | refine xvalP (pv_indexAddr UndC.h ShpC.h rfl rfl rfl (map_at (by assumption))) rfl rfl ?_
        | refine xvalP (pv_indexAddrB UndC.h ShpC.h rfl rfl (Int.toNat_of_nonneg (by decide)).symm (by decide)) rfl rfl ?_
        | refine xvalP (pv_indexAddrE UndC.h ShpC.h rfl rfl (Int.toNat_of_nonneg (by decide)).symm (by decide)) rfl rfl ?_
        | refine xvalP (pv_eqB UndC.h rfl rfl) rfl rfl ?_
        | refine xvalP (pv_neB UndC.h rfl rfl) rfl rfl ?_
        | refine xvalP (pv_convI UndC.h UndC.h rfl) rfl rfl ?_
        | refine xvalP (pv_buildC StrC.h rfl rfl) rfl rfl ?_
        | refine xalloc InfC.h rfl rfl fun _ => ?_
        | refine xbuildSliceC UndC.h InfC.h rfl rfl rfl rfl rfl rfl fun _ => ?_
        | refine xvalP (pv_makeFuncC rfl) rfl rfl ?_
        | refine xbox rfl rfl rfl rfl fun _ => ?_
        | refine xstore 0 ShpC.h rfl rfl rfl rfl rfl rfl rfl ?_
        | refine xstore 1 ShpC.h rfl rfl rfl rfl rfl rfl rfl ?_
        | refine xstore 2 ShpC.h rfl rfl rfl rfl rfl rfl rfl ?_
        | refine xstore 3 ShpC.h rfl rfl rfl rfl rfl rfl rfl ?_
        | refine xstore 4 ShpC.h rfl rfl rfl rfl rfl rfl rfl ?_
        | refine xskip rfl rfl ?_
        | refine xskip0 rfl ?_
        | refine xcondT rfl ?_
        | refine xcondF rfl ?_
        | refine xskipc ?_
        | refine xexit ?_
        | refine xretc ?_
        | refine xin_normal ?_
        | refine xin_ret ?_
        | refine xthen_exit ?_
        | refine xthen_ret ?_
        | refine xin_same rfl ?_
        | refine xin_other rfl ?_
      refine xcallO hr1 Try.func12 (by kernel_rfl) rfl (.cons rfl (Wk.trans (.tok _ _ _) (.rows (.cons (.cons (.refl _) (.cons (.refl _) (.cons (.nil_pl 1) .nil))) .nil))) (.cons rfl (.refl _) (.cons rfl (.refl _) .nil))) rfl rfl fun id1 => ?_
      repeat
        first
        | refine xseq ?_
        | refine xregion ?_
        | refine xvalP (pv_move rfl) rfl rfl ?_
        | refine xvalP (pv_assign rfl) rfl rfl ?_
        | refine xvalP (pv_add1 rfl rfl (by omega)) rfl rfl ?_
        | refine xvalP (pv_sub1 rfl rfl (by omega)) rfl rfl ?_
        | refine xvalP (pv_bin2 rfl rfl rfl) rfl rfl ?_
        | refine xnil ?_
        | refine xthen ?_
        | refine xblock ?_
        | refine xval (qv_load ShpC.h rfl rfl rfl) rfl rfl ?_
        | refine xvalP (qv_fieldAddrB FldC.h rfl) rfl rfl ?_
        | refine xvalP (qv_fieldAddrE FldC.h rfl) rfl rfl ?_
        | refine xval (qv_loadB 0 ShpC.h rfl rfl rfl rfl) rfl rfl ?_
        | refine xval (qv_loadB 1 ShpC.h rfl rfl rfl rfl) rfl rfl ?_
        | refine xval (qv_loadB 2 ShpC.h rfl rfl rfl rfl) rfl rfl ?_
        | refine xval (qv_loadB 3 ShpC.h rfl rfl rfl rfl) rfl rfl ?_
        | refine xval (qv_loadB 4 ShpC.h rfl rfl rfl rfl) rfl rfl ?_
        | refine xvalP (pv_pick rfl rfl) rfl rfl ?_
        | refine xvalP (pv_len UndC.h rfl rfl) rfl rfl ?_
        | refine xvalP (pv_lenS UndC.h rfl) rfl rfl ?_
        | refine xvalP (pv_not rfl) rfl rfl ?_
        | refine xvalP (pv_nilCheck rfl) rfl rfl ?_
        | refine xvalP (pv_nilCheckE rfl) rfl rfl ?_
        | refine xvalP (pv_nilCheckF rfl) rfl rfl ?_
        | refine xvalP (pv_extract rfl rfl) rfl rfl ?_
        | refine xvalP (qv_field FldC.h rfl rfl) rfl rfl ?_
        | refine xvalP (pv_indexAddr UndC.h ShpC.h rfl rfl rfl (map_at (by assumption))) rfl rfl ?_
        | refine xvalP (pv_indexAddrB UndC.h ShpC.h rfl rfl (Int.toNat_of_nonneg (by decide)).symm (by decide)) rfl rfl ?_
        | refine xvalP (pv_indexAddrE UndC.h ShpC.h rfl rfl (Int.toNat_of_nonneg (by decide)).symm (by decide)) rfl rfl ?_
        | refine xvalP (pv_eqB UndC.h rfl rfl) rfl rfl ?_
        | refine xvalP (pv_neB UndC.h rfl rfl) rfl rfl ?_
        | refine xvalP (pv_convI UndC.h UndC.h rfl) rfl rfl ?_
        | refine xvalP (pv_buildC StrC.h rfl rfl) rfl rfl ?_
        | refine xalloc InfC.h rfl rfl fun _ => ?_
        | refine xbuildSliceC UndC.h InfC.h rfl rfl rfl rfl rfl rfl fun _ => ?_
        | refine xvalP (pv_makeFuncC rfl) rfl rfl ?_
        | refine xbox rfl rfl rfl rfl fun _ => ?_
        | refine xstore 0 ShpC.h rfl rfl rfl rfl rfl rfl rfl ?_
        | refine xstore 1 ShpC.h rfl rfl rfl rfl rfl rfl rfl ?_
        | refine xstore 2 ShpC.h rfl rfl rfl rfl rfl rfl rfl ?_
        | refine xstore 3 ShpC.h rfl rfl rfl rfl rfl rfl rfl ?_
        | refine xstore 4 ShpC.h rfl rfl rfl rfl rfl rfl rfl ?_
        | refine xskip rfl rfl ?_
        | refine xskip0 rfl ?_
        | refine xcondT rfl ?_
        | refine xcondF rfl ?_
        | refine xskipc ?_
        | refine xexit ?_
        | refine xretc ?_
        | refine xin_normal ?_
        | refine xin_ret ?_
        | refine xthen_exit ?_
        | refine xthen_ret ?_
        | refine xin_same rfl ?_
        | refine xin_other rfl ?_
      refine xcallO (repl_any l text hits (by omega) (by omega) (by omega) hE) Try.func12 (by kernel_rfl) rfl (by repeat (first | exact EvL.nil | refine EvL.cons rfl (by first | with_reducible exact Wk.refl _ | exact Wk.nil_pl _ | with_reducible exact Wk.tok _ _ _ | exact Wk.eq rfl) ?_)) rfl rfl fun id2 => ?_
      repeat
        first
        | refine xseq ?_
        | refine xregion ?_
        | refine xvalP (pv_move rfl) rfl rfl ?_
        | refine xvalP (pv_assign rfl) rfl rfl ?_
        | refine xvalP (pv_add1 rfl rfl (by omega)) rfl rfl ?_
        | refine xvalP (pv_sub1 rfl rfl (by omega)) rfl rfl ?_
        | refine xvalP (pv_bin2 rfl rfl rfl) rfl rfl ?_
        | refine xnil ?_
        | refine xthen ?_
        | refine xblock ?_
        | refine xval (qv_load ShpC.h rfl rfl rfl) rfl rfl ?_
        | refine xvalP (qv_fieldAddrB FldC.h rfl) rfl rfl ?_
        | refine xvalP (qv_fieldAddrE FldC.h rfl) rfl rfl ?_
        | refine xval (qv_loadB 0 ShpC.h rfl rfl rfl rfl) rfl rfl ?_
        | refine xval (qv_loadB 1 ShpC.h rfl rfl rfl rfl) rfl rfl ?_
        | refine xval (qv_loadB 2 ShpC.h rfl rfl rfl rfl) rfl rfl ?_
        | refine xval (qv_loadB 3 ShpC.h rfl rfl rfl rfl) rfl rfl ?_
        | refine xval (qv_loadB 4 ShpC.h rfl rfl rfl rfl) rfl rfl ?_
        | refine xvalP (pv_pick rfl rfl) rfl rfl ?_
        | refine xvalP (pv_len UndC.h rfl rfl) rfl rfl ?_
        | refine xvalP (pv_lenS UndC.h rfl) rfl rfl ?_
        | refine xvalP (pv_not rfl) rfl rfl ?_
        | refine xvalP (pv_nilCheck rfl) rfl rfl ?_
        | refine xvalP (pv_nilCheckE rfl) rfl rfl ?_
        | refine xvalP (pv_nilCheckF rfl) rfl rfl ?_
        | refine xvalP (pv_extract rfl rfl) rfl rfl ?_
        | refine xvalP (qv_field FldC.h rfl rfl) rfl rfl ?_
        | refine xvalP (pv_indexAddr UndC.h ShpC.h rfl rfl rfl (map_at (by assumption))) rfl rfl ?_
        | refine xvalP (pv_indexAddrB UndC.h ShpC.h rfl rfl (Int.toNat_of_nonneg (by decide)).symm (by decide)) rfl rfl ?_
        | refine xvalP (pv_indexAddrE UndC.h ShpC.h rfl rfl (Int.toNat_of_nonneg (by decide)).symm (by decide)) rfl rfl ?_
        | refine xvalP (pv_eqB UndC.h rfl rfl) rfl rfl ?_
        | refine xvalP (pv_neB UndC.h rfl rfl) rfl rfl ?_
        | refine xvalP (pv_convI UndC.h UndC.h rfl) rfl rfl ?_
        | refine xvalP (pv_buildC StrC.h rfl rfl) rfl rfl ?_
        | refine xalloc InfC.h rfl rfl fun _ => ?_
        | refine xbuildSliceC UndC.h InfC.h rfl rfl rfl rfl rfl rfl fun _ => ?_
        | refine xvalP (pv_makeFuncC rfl) rfl rfl ?_
        | refine xbox rfl rfl rfl rfl fun _ => ?_
        | refine xstore 0 ShpC.h rfl rfl rfl rfl rfl rfl rfl ?_
        | refine xstore 1 ShpC.h rfl rfl rfl rfl rfl rfl rfl ?_
        | refine xstore 2 ShpC.h rfl rfl rfl rfl rfl rfl rfl ?_
        | refine xstore 3 ShpC.h rfl rfl rfl rfl rfl rfl rfl ?_
        | refine xstore 4 ShpC.h rfl rfl rfl rfl rfl rfl rfl ?_
        | refine xskip rfl rfl ?_
        | refine xskip0 rfl ?_
        | refine xcondT rfl ?_
        | refine xcondF rfl ?_
        | refine xskipc ?_
        | refine xexit ?_
        | refine xretc ?_
        | refine xin_normal ?_
        | refine xin_ret ?_
        | refine xthen_exit ?_
        | refine xthen_ret ?_
        | refine xin_same rfl ?_
        | refine xin_other rfl ?_
      refine xcallO (rrepl_any l text hits (by omega) (by omega) (by omega) hE) Try.func13 (by kernel_rfl) rfl (by repeat (first | exact EvL.nil | refine EvL.cons rfl (by first | with_reducible exact Wk.refl _ | exact Wk.nil_pl _ | with_reducible exact Wk.tok _ _ _ | exact Wk.eq rfl) ?_)) rfl rfl fun id3 => ?_
      refine xcall0 (hs) Try.func9 (by kernel_rfl) rfl (by repeat (first | exact EvL.nil | refine EvL.cons rfl (by first | with_reducible exact Wk.refl _ | exact Wk.nil_pl _ | with_reducible exact Wk.tok _ _ _ | exact Wk.eq rfl) ?_)) rfl rfl ?_
      repeat
        first
        | refine xseq ?_
        | refine xregion ?_
        | refine xvalP (pv_move rfl) rfl rfl ?_
        | refine xvalP (pv_assign rfl) rfl rfl ?_
        | refine xvalP (pv_add1 rfl rfl (by omega)) rfl rfl ?_
        | refine xvalP (pv_sub1 rfl rfl (by omega)) rfl rfl ?_
        | refine xvalP (pv_bin2 rfl rfl rfl) rfl rfl ?_
        | refine xnil ?_
        | refine xthen ?_
        | refine xblock ?_
        | refine xval (qv_load ShpC.h rfl rfl rfl) rfl rfl ?_
        | refine xvalP (qv_fieldAddrB FldC.h rfl) rfl rfl ?_
        | refine xvalP (qv_fieldAddrE FldC.h rfl) rfl rfl ?_
        | refine xval (qv_loadB 0 ShpC.h rfl rfl rfl rfl) rfl rfl ?_
        | refine xval (qv_loadB 1 ShpC.h rfl rfl rfl rfl) rfl rfl ?_
        | refine xval (qv_loadB 2 ShpC.h rfl rfl rfl rfl) rfl rfl ?_
        | refine xval (qv_loadB 3 ShpC.h rfl rfl rfl rfl) rfl rfl ?_
        | refine xval (qv_loadB 4 ShpC.h rfl rfl rfl rfl) rfl rfl ?_
        | refine xvalP (pv_pick rfl rfl) rfl rfl ?_
        | refine xvalP (pv_len UndC.h rfl rfl) rfl rfl ?_
        | refine xvalP (pv_lenS UndC.h rfl) rfl rfl ?_
        | refine xvalP (pv_not rfl) rfl rfl ?_
        | refine xvalP (pv_nilCheck rfl) rfl rfl ?_
        | refine xvalP (pv_nilCheckE rfl) rfl rfl ?_
        | refine xvalP (pv_nilCheckF rfl) rfl rfl ?_
        | refine xvalP (pv_extract rfl rfl) rfl rfl ?_
        | refine xvalP (qv_field FldC.h rfl rfl) rfl rfl ?_
        | refine xvalP (pv_indexAddr UndC.h ShpC.h rfl rfl rfl (map_at (by assumption))) rfl rfl ?_
        | refine xvalP (pv_indexAddrB UndC.h ShpC.h rfl rfl (Int.toNat_of_nonneg (by decide)).symm (by decide)) rfl rfl ?_
        | refine xvalP (pv_indexAddrE UndC.h ShpC.h rfl rfl (Int.toNat_of_nonneg (by decide)).symm (by decide)) rfl rfl ?_
        | refine xvalP (pv_eqB UndC.h rfl rfl) rfl rfl ?_
        | refine xvalP (pv_neB UndC.h rfl rfl) rfl rfl ?_
        | refine xvalP (pv_convI UndC.h UndC.h rfl) rfl rfl ?_
        | refine xvalP (pv_buildC StrC.h rfl rfl) rfl rfl ?_
        | refine xalloc InfC.h rfl rfl fun _ => ?_
        | refine xbuildSliceC UndC.h InfC.h rfl rfl rfl rfl rfl rfl fun _ => ?_
        | refine xvalP (pv_makeFuncC rfl) rfl rfl ?_
        | refine xbox rfl rfl rfl rfl fun _ => ?_
        | refine xstore 0 ShpC.h rfl rfl rfl rfl rfl rfl rfl ?_
        | refine xstore 1 ShpC.h rfl rfl rfl rfl rfl rfl rfl ?_
        | refine xstore 2 ShpC.h rfl rfl rfl rfl rfl rfl rfl ?_
        | refine xstore 3 ShpC.h rfl rfl rfl rfl rfl rfl rfl ?_
        | refine xstore 4 ShpC.h rfl rfl rfl rfl rfl rfl rfl ?_
        | refine xskip rfl rfl ?_
        | refine xskip0 rfl ?_
        | refine xcondT rfl ?_
        | refine xcondF rfl ?_
        | refine xskipc ?_
        | refine xexit ?_
        | refine xretc ?_
        | refine xin_normal ?_
        | refine xin_ret ?_
        | refine xthen_exit ?_
        | refine xthen_ret ?_
        | refine xin_same rfl ?_
        | refine xin_other rfl ?_
      refine xcall0 (ht) Try.func9 (by kernel_rfl) rfl (by repeat (first | exact EvL.nil | refine EvL.cons rfl (by first | with_reducible exact Wk.refl _ | exact Wk.nil_pl _ | with_reducible exact Wk.tok _ _ _ | exact Wk.eq rfl) ?_)) rfl rfl ?_
      repeat
        first
        | refine xseq ?_
        | refine xregion ?_
        | refine xvalP (pv_move rfl) rfl rfl ?_
        | refine xvalP (pv_assign rfl) rfl rfl ?_
        | refine xvalP (pv_add1 rfl rfl (by omega)) rfl rfl ?_
        | refine xvalP (pv_sub1 rfl rfl (by omega)) rfl rfl ?_
        | refine xvalP (pv_bin2 rfl rfl rfl) rfl rfl ?_
        | refine xnil ?_
        | refine xthen ?_
        | refine xblock ?_
        | refine xval (qv_load ShpC.h rfl rfl rfl) rfl rfl ?_
        | refine xvalP (qv_fieldAddrB FldC.h rfl) rfl rfl ?_
        | refine xvalP (qv_fieldAddrE FldC.h rfl) rfl rfl ?_
        | refine xval (qv_loadB 0 ShpC.h rfl rfl rfl rfl) rfl rfl ?_
        | refine xval (qv_loadB 1 ShpC.h rfl rfl rfl rfl) rfl rfl ?_
        | refine xval (qv_loadB 2 ShpC.h rfl rfl rfl rfl) rfl rfl ?_
        | refine xval (qv_loadB 3 ShpC.h rfl rfl rfl rfl) rfl rfl ?_
        | refine xval (qv_loadB 4 ShpC.h rfl rfl rfl rfl) rfl rfl ?_
        | refine xvalP (pv_pick rfl rfl) rfl rfl ?_
        | refine xvalP (pv_len UndC.h rfl rfl) rfl rfl ?_
        | refine xvalP (pv_lenS UndC.h rfl) rfl rfl ?_
        | refine xvalP (pv_not rfl) rfl rfl ?_
        | refine xvalP (pv_nilCheck rfl) rfl rfl ?_
        | refine xvalP (pv_nilCheckE rfl) rfl rfl ?_
        | refine xvalP (pv_nilCheckF rfl) rfl rfl ?_
        | refine xvalP (pv_extract rfl rfl) rfl rfl ?_
        | refine xvalP (qv_field FldC.h rfl rfl) rfl rfl ?_
        | refine xvalP (pv_indexAddr UndC.h ShpC.h rfl rfl rfl (map_at (by assumption))) rfl rfl ?_
        | refine xvalP (pv_indexAddrB UndC.h ShpC.h rfl rfl (Int.toNat_of_nonneg (by decide)).symm (by decide)) rfl rfl ?_
        | refine xvalP (pv_indexAddrE UndC.h ShpC.h rfl rfl (Int.toNat_of_nonneg (by decide)).symm (by decide)) rfl rfl ?_
        | refine xvalP (pv_eqB UndC.h rfl rfl) rfl rfl ?_
        | refine xvalP (pv_neB UndC.h rfl rfl) rfl rfl ?_
        | refine xvalP (pv_convI UndC.h UndC.h rfl) rfl rfl ?_
        | refine xvalP (pv_buildC StrC.h rfl rfl) rfl rfl ?_
        | refine xalloc InfC.h rfl rfl fun _ => ?_
        | refine xbuildSliceC UndC.h InfC.h rfl rfl rfl rfl rfl rfl fun _ => ?_
        | refine xvalP (pv_makeFuncC rfl) rfl rfl ?_
        | refine xbox rfl rfl rfl rfl fun _ => ?_
        | refine xstore 0 ShpC.h rfl rfl rfl rfl rfl rfl rfl ?_
        | refine xstore 1 ShpC.h rfl rfl rfl rfl rfl rfl rfl ?_
        | refine xstore 2 ShpC.h rfl rfl rfl rfl rfl rfl rfl ?_
        | refine xstore 3 ShpC.h rfl rfl rfl rfl rfl rfl rfl ?_
        | refine xstore 4 ShpC.h rfl rfl rfl rfl rfl rfl rfl ?_
        | refine xskip rfl rfl ?_
        | refine xskip0 rfl ?_
        | refine xcondT rfl ?_
        | refine xcondF rfl ?_
        | refine xskipc ?_
        | refine xexit ?_
        | refine xretc ?_
        | refine xin_normal ?_
        | refine xin_ret ?_
        | refine xthen_exit ?_
        | refine xthen_ret ?_
        | refine xin_same rfl ?_
        | refine xin_other rfl ?_
      refine xcallO (hr2) Try.func12 (by kernel_rfl) rfl (by repeat (first | exact EvL.nil | refine EvL.cons rfl (by first | with_reducible exact Wk.refl _ | exact Wk.nil_pl _ | with_reducible exact Wk.tok _ _ _ | exact Wk.eq rfl) ?_)) rfl rfl fun id4 => ?_
      repeat
        first
        | refine xseq ?_
        | refine xregion ?_
        | refine xvalP (pv_move rfl) rfl rfl ?_
        | refine xvalP (pv_assign rfl) rfl rfl ?_
        | refine xvalP (pv_add1 rfl rfl (by omega)) rfl rfl ?_
        | refine xvalP (pv_sub1 rfl rfl (by omega)) rfl rfl ?_
        | refine xvalP (pv_bin2 rfl rfl rfl) rfl rfl ?_
        | refine xnil ?_
        | refine xthen ?_
        | refine xblock ?_
        | refine xval (qv_load ShpC.h rfl rfl rfl) rfl rfl ?_
        | refine xvalP (qv_fieldAddrB FldC.h rfl) rfl rfl ?_
        | refine xvalP (qv_fieldAddrE FldC.h rfl) rfl rfl ?_
        | refine xval (qv_loadB 0 ShpC.h rfl rfl rfl rfl) rfl rfl ?_
        | refine xval (qv_loadB 1 ShpC.h rfl rfl rfl rfl) rfl rfl ?_
        | refine xval (qv_loadB 2 ShpC.h rfl rfl rfl rfl) rfl rfl ?_
        | refine xval (qv_loadB 3 ShpC.h rfl rfl rfl rfl) rfl rfl ?_
        | refine xval (qv_loadB 4 ShpC.h rfl rfl rfl rfl) rfl rfl ?_
        | refine xvalP (pv_pick rfl rfl) rfl rfl ?_
        | refine xvalP (pv_len UndC.h rfl rfl) rfl rfl ?_
        | refine xvalP (pv_lenS UndC.h rfl) rfl rfl ?_
        | refine xvalP (pv_not rfl) rfl rfl ?_
        | refine xvalP (pv_nilCheck rfl) rfl rfl ?_
        | refine xvalP (pv_nilCheckE rfl) rfl rfl ?_
        | refine xvalP (pv_nilCheckF rfl) rfl rfl ?_
        | refine xvalP (pv_extract rfl rfl) rfl rfl ?_
        | refine xvalP (qv_field FldC.h rfl rfl) rfl rfl ?_
        | refine xvalP (pv_indexAddr UndC.h ShpC.h rfl rfl rfl (map_at (by assumption))) rfl rfl ?_
        | refine xvalP (pv_indexAddrB UndC.h ShpC.h rfl rfl (Int.toNat_of_nonneg (by decide)).symm (by decide)) rfl rfl ?_
        | refine xvalP (pv_indexAddrE UndC.h ShpC.h rfl rfl (Int.toNat_of_nonneg (by decide)).symm (by decide)) rfl rfl ?_
        | refine xvalP (pv_eqB UndC.h rfl rfl) rfl rfl ?_
        | refine xvalP (pv_neB UndC.h rfl rfl) rfl rfl ?_
        | refine xvalP (pv_convI UndC.h UndC.h rfl) rfl rfl ?_
        | refine xvalP (pv_buildC StrC.h rfl rfl) rfl rfl ?_
        | refine xalloc InfC.h rfl rfl fun _ => ?_
        | refine xbuildSliceC UndC.h InfC.h rfl rfl rfl rfl rfl rfl fun _ => ?_
        | refine xvalP (pv_makeFuncC rfl) rfl rfl ?_
        | refine xbox rfl rfl rfl rfl fun _ => ?_
        | refine xstore 0 ShpC.h rfl rfl rfl rfl rfl rfl rfl ?_
        | refine xstore 1 ShpC.h rfl rfl rfl rfl rfl rfl rfl ?_
        | refine xstore 2 ShpC.h rfl rfl rfl rfl rfl rfl rfl ?_
        | refine xstore 3 ShpC.h rfl rfl rfl rfl rfl rfl rfl ?_
        | refine xstore 4 ShpC.h rfl rfl rfl rfl rfl rfl rfl ?_
        | refine xskip rfl rfl ?_
        | refine xskip0 rfl ?_
        | refine xcondT rfl ?_
        | refine xcondF rfl ?_
        | refine xskipc ?_
        | refine xexit ?_
        | refine xretc ?_
        | refine xin_normal ?_
        | refine xin_ret ?_
        | refine xthen_exit ?_
        | refine xthen_ret ?_
        | refine xin_same rfl ?_
        | refine xin_other rfl ?_
      refine xcall0 (ht) Try.func9 (by kernel_rfl) rfl (by repeat (first | exact EvL.nil | refine EvL.cons rfl (by first | with_reducible exact Wk.refl _ | exact Wk.nil_pl _ | with_reducible exact Wk.tok _ _ _ | exact Wk.eq rfl) ?_)) rfl rfl ?_
      repeat
        first
        | refine xseq ?_
        | refine xregion ?_
        | refine xvalP (pv_move rfl) rfl rfl ?_
        | refine xvalP (pv_assign rfl) rfl rfl ?_
        | refine xvalP (pv_add1 rfl rfl (by omega)) rfl rfl ?_
        | refine xvalP (pv_sub1 rfl rfl (by omega)) rfl rfl ?_
        | refine xvalP (pv_bin2 rfl rfl rfl) rfl rfl ?_
        | refine xnil ?_
        | refine xthen ?_
        | refine xblock ?_
        | refine xval (qv_load ShpC.h rfl rfl rfl) rfl rfl ?_
        | refine xvalP (qv_fieldAddrB FldC.h rfl) rfl rfl ?_
        | refine xvalP (qv_fieldAddrE FldC.h rfl) rfl rfl ?_
        | refine xval (qv_loadB 0 ShpC.h rfl rfl rfl rfl) rfl rfl ?_
        | refine xval (qv_loadB 1 ShpC.h rfl rfl rfl rfl) rfl rfl ?_
        | refine xval (qv_loadB 2 ShpC.h rfl rfl rfl rfl) rfl rfl ?_
        | refine xval (qv_loadB 3 ShpC.h rfl rfl rfl rfl) rfl rfl ?_
        | refine xval (qv_loadB 4 ShpC.h rfl rfl rfl rfl) rfl rfl ?_
        | refine xvalP (pv_pick rfl rfl) rfl rfl ?_
        | refine xvalP (pv_len UndC.h rfl rfl) rfl rfl ?_
        | refine xvalP (pv_lenS UndC.h rfl) rfl rfl ?_
        | refine xvalP (pv_not rfl) rfl rfl ?_
        | refine xvalP (pv_nilCheck rfl) rfl rfl ?_
        | refine xvalP (pv_nilCheckE rfl) rfl rfl ?_
        | refine xvalP (pv_nilCheckF rfl) rfl rfl ?_
        | refine xvalP (pv_extract rfl rfl) rfl rfl ?_
        | refine xvalP (qv_field FldC.h rfl rfl) rfl rfl ?_
        | refine xvalP (pv_indexAddr UndC.h ShpC.h rfl rfl rfl (map_at (by assumption))) rfl rfl ?_
        | refine xvalP (pv_indexAddrB UndC.h ShpC.h rfl rfl (Int.toNat_of_nonneg (by decide)).symm (by decide)) rfl rfl ?_
        | refine xvalP (pv_indexAddrE UndC.h ShpC.h rfl rfl (Int.toNat_of_nonneg (by decide)).symm (by decide)) rfl rfl ?_
        | refine xvalP (pv_eqB UndC.h rfl rfl) rfl rfl ?_
        | refine xvalP (pv_neB UndC.h rfl rfl) rfl rfl ?_
        | refine xvalP (pv_convI UndC.h UndC.h rfl) rfl rfl ?_
        | refine xvalP (pv_buildC StrC.h rfl rfl) rfl rfl ?_
        | refine xalloc InfC.h rfl rfl fun _ => ?_
        | refine xbuildSliceC UndC.h InfC.h rfl rfl rfl rfl rfl rfl fun _ => ?_
        | refine xvalP (pv_makeFuncC rfl) rfl rfl ?_
        | refine xbox rfl rfl rfl rfl fun _ => ?_
        | refine xstore 0 ShpC.h rfl rfl rfl rfl rfl rfl rfl ?_
        | refine xstore 1 ShpC.h rfl rfl rfl rfl rfl rfl rfl ?_
        | refine xstore 2 ShpC.h rfl rfl rfl rfl rfl rfl rfl ?_
        | refine xstore 3 ShpC.h rfl rfl rfl rfl rfl rfl rfl ?_
        | refine xstore 4 ShpC.h rfl rfl rfl rfl rfl rfl rfl ?_
        | refine xskip rfl rfl ?_
        | refine xskip0 rfl ?_
        | refine xcondT rfl ?_
        | refine xcondF rfl ?_
        | refine xskipc ?_
        | refine xexit ?_
        | refine xretc ?_
        | refine xin_normal ?_
        | refine xin_ret ?_
        | refine xthen_exit ?_
        | refine xthen_ret ?_
        | refine xin_same rfl ?_
        | refine xin_other rfl ?_
      refine xcall0 (awake_any) Try.func8 (by kernel_rfl) rfl (by repeat (first | exact EvL.nil | refine EvL.cons rfl (by first | with_reducible exact Wk.refl _ | exact Wk.nil_pl _ | with_reducible exact Wk.tok _ _ _ | exact Wk.eq rfl) ?_)) rfl rfl ?_
      repeat
        first
        | refine xseq ?_
        | refine xregion ?_
        | refine xvalP (pv_move rfl) rfl rfl ?_
        | refine xvalP (pv_assign rfl) rfl rfl ?_
        | refine xvalP (pv_add1 rfl rfl (by omega)) rfl rfl ?_
        | refine xvalP (pv_sub1 rfl rfl (by omega)) rfl rfl ?_
        | refine xvalP (pv_bin2 rfl rfl rfl) rfl rfl ?_
        | refine xnil ?_
        | refine xthen ?_
        | refine xblock ?_
        | refine xval (qv_load ShpC.h rfl rfl rfl) rfl rfl ?_
        | refine xvalP (qv_fieldAddrB FldC.h rfl) rfl rfl ?_
        | refine xvalP (qv_fieldAddrE FldC.h rfl) rfl rfl ?_
        | refine xval (qv_loadB 0 ShpC.h rfl rfl rfl rfl) rfl rfl ?_
        | refine xval (qv_loadB 1 ShpC.h rfl rfl rfl rfl) rfl rfl ?_
        | refine xval (qv_loadB 2 ShpC.h rfl rfl rfl rfl) rfl rfl ?_
        | refine xval (qv_loadB 3 ShpC.h rfl rfl rfl rfl) rfl rfl ?_
        | refine xval (qv_loadB 4 ShpC.h rfl rfl rfl rfl) rfl rfl ?_
        | refine xvalP (pv_pick rfl rfl) rfl rfl ?_
        | refine xvalP (pv_len UndC.h rfl rfl) rfl rfl ?_
        | refine xvalP (pv_lenS UndC.h rfl) rfl rfl ?_
        | refine xvalP (pv_not rfl) rfl rfl ?_
        | refine xvalP (pv_nilCheck rfl) rfl rfl ?_
        | refine xvalP (pv_nilCheckE rfl) rfl rfl ?_
        | refine xvalP (pv_nilCheckF rfl) rfl rfl ?_
        | refine xvalP (pv_extract rfl rfl) rfl rfl ?_
        | refine xvalP (qv_field FldC.h rfl rfl) rfl rfl ?_
        | refine xvalP (pv_indexAddr UndC.h ShpC.h rfl rfl rfl (map_at (by assumption))) rfl rfl ?_
        | refine xvalP (pv_indexAddrB UndC.h ShpC.h rfl rfl (Int.toNat_of_nonneg (by decide)).symm (by decide)) rfl rfl ?_
        | refine xvalP (pv_indexAddrE UndC.h ShpC.h rfl rfl (Int.toNat_of_nonneg (by decide)).symm (by decide)) rfl rfl ?_
        | refine xvalP (pv_eqB UndC.h rfl rfl) rfl rfl ?_
        | refine xvalP (pv_neB UndC.h rfl rfl) rfl rfl ?_
        | refine xvalP (pv_convI UndC.h UndC.h rfl) rfl rfl ?_
        | refine xvalP (pv_buildC StrC.h rfl rfl) rfl rfl ?_
        | refine xalloc InfC.h rfl rfl fun _ => ?_
        | refine xbuildSliceC UndC.h InfC.h rfl rfl rfl rfl rfl rfl fun _ => ?_
        | refine xvalP (pv_makeFuncC rfl) rfl rfl ?_
        | refine xbox rfl rfl rfl rfl fun _ => ?_
        | refine xstore 0 ShpC.h rfl rfl rfl rfl rfl rfl rfl ?_
        | refine xstore 1 ShpC.h rfl rfl rfl rfl rfl rfl rfl ?_
        | refine xstore 2 ShpC.h rfl rfl rfl rfl rfl rfl rfl ?_
        | refine xstore 3 ShpC.h rfl rfl rfl rfl rfl rfl rfl ?_
        | refine xstore 4 ShpC.h rfl rfl rfl rfl rfl rfl rfl ?_
        | refine xskip rfl rfl ?_
        | refine xskip0 rfl ?_
        | refine xcondT rfl ?_
        | refine xcondF rfl ?_
        | refine xskipc ?_
        | refine xexit ?_
        | refine xretc ?_
        | refine xin_normal ?_
        | refine xin_ret ?_
        | refine xthen_exit ?_
        | refine xthen_ret ?_
        | refine xin_same rfl ?_
        | refine xin_other rfl ?_
      exact xret1 hg rfl rfl (.refl _) (SubM.none _ _) ⟨rfl, rfl, rfl⟩
end Go.Proofs.Ytcekiclbfjfagaa
