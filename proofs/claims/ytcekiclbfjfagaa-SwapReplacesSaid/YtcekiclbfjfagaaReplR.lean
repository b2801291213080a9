/- The walk of palinoderef13.Replace. -/
import Derived.Test.YtcekiclbfjfagaaRepl
import Derived.Test.YtcekiclbfjfagaaSwapR
namespace Go.Proofs.Ytcekiclbfjfagaa

def RReplInv (l : List PartT) (text : List UInt8) (hits : List HitT) (σ : St) (m : Nat) : Prop := ∃ k id, k ≤ hits.length ∧ m = hits.length - k ∧
  σ = ⟨[(7, .sl 1 (some id) ((replGo text l (hits.take k)).1.map eb)), (8, .v (.int .i64 ((replGo text l (hits.take k)).2 : Int))), (9, .v (.int .i64 (k : Int))), (2, .sl 20 none (hits.map encH)),
      (0, .sl 3 none (l.map encP)), (1, .sl 1 none (text.map eb))], [], [⟨id, 5, 1, (replGo text l (hits.take k)).1.length⟩]⟩

set_option maxHeartbeats 2000000 in
theorem rrepl_any (l : List PartT) (text : List UInt8) (hits : List HitT) (hl : l.length ≤ 1000) (ht : text.length ≤ 1000) (hh : hits.length ≤ 100) (hE : ∀ h ∈ hits, (expand text h.l l).length ≤ 1000) :
    Con Try.prog 13 [.sl 3 none (l.map encP), .sl 1 none (text.map eb), .sl 20 none (hits.map encH)] [] [] (RetO 1 5 ((repl text l hits).map eb)) := by
  refine xenter Try.func13 rfl rfl fun g hg => ?_
  simp only [Try.ntmps13, slots]
  repeat
    first
    | refine xseq ?_
    | refine xregion ?_
    | refine xvalP (pv_move rfl) rfl rfl ?_
    | refine xvalP (pv_assign rfl) rfl rfl ?_
    | refine xvalP (pv_add1 rfl rfl (by omega)) rfl rfl ?_
    | refine xvalP (pv_sub1 rfl rfl (by omega)) rfl rfl ?_
    | refine xvalP (pv_bin2 rfl rfl rfl) rfl rfl ?_
    | refine xnil ?_
    | refine xthen ?_
    | refine xblock ?_
    | refine xval (qv_load ShpC.h rfl rfl rfl) rfl rfl ?_
    | refine xvalP (qv_fieldAddrB FldC.h rfl) rfl rfl ?_
    | refine xvalP (qv_fieldAddrE FldC.h rfl) rfl rfl ?_
    | refine xval (qv_loadB 0 ShpC.h rfl rfl rfl rfl) rfl rfl ?_
    | refine xval (qv_loadB 1 ShpC.h rfl rfl rfl rfl) rfl rfl ?_
    | refine xval (qv_loadB 2 ShpC.h rfl rfl rfl rfl) rfl rfl ?_
    | refine xval (qv_loadB 3 ShpC.h rfl rfl rfl rfl) rfl rfl ?_
    | refine xval (qv_loadB 4 ShpC.h rfl rfl rfl rfl) rfl rfl ?_
    | refine xvalP (pv_pick rfl rfl) rfl rfl ?_
    | refine xvalP (pv_len UndC.h rfl rfl) rfl rfl ?_
    | refine xvalP (pv_lenS UndC.h rfl) rfl rfl ?_
    | refine xvalP (pv_not rfl) rfl rfl ?_
    | refine xvalP (pv_nilCheck rfl) rfl rfl ?_
    | refine xvalP (pv_nilCheckE rfl) rfl rfl ?_
    | refine xvalP (pv_nilCheckF rfl) rfl rfl ?_
    | refine xvalP (pv_extract rfl rfl) rfl rfl ?_
    | refine xvalP (qv_field FldC.h rfl rfl) rfl rfl ?_
    | refine xvalP (pv_indexAddr UndC.h ShpC.h rfl rfl rfl (map_at (by assumption))) rfl rfl ?_
    | refine xvalP (pv_indexAddrB UndC.h ShpC.h rfl rfl (Int.toNat_of_nonneg (by decide)).symm (by decide)) rfl rfl ?_
    | refine xvalP (pv_indexAddrE UndC.h ShpC.h rfl rfl (Int.toNat_of_nonneg (by decide)).symm (by decide)) rfl rfl ?_
    | refine xvalP (pv_eqB UndC.h rfl rfl) rfl rfl ?_
    | refine xvalP (pv_neB UndC.h rfl rfl) rfl rfl ?_
    | refine xvalP (pv_convI UndC.h UndC.h rfl) rfl rfl ?_
    | refine xvalP (pv_buildC StrC.h rfl rfl) rfl rfl ?_
    | refine xalloc InfC.h rfl rfl fun _ => ?_
    | refine xbuildSliceC UndC.h InfC.h rfl rfl rfl rfl rfl rfl fun _ => ?_
    | refine xvalP (pv_makeFuncC rfl) rfl rfl ?_
    | refine xbox rfl rfl rfl rfl fun _ => ?_
    | refine xstore 0 ShpC.h rfl rfl rfl rfl rfl rfl rfl ?_
    | refine xstore 1 ShpC.h rfl rfl rfl rfl rfl rfl rfl ?_
    | refine xstore 2 ShpC.h rfl rfl rfl rfl rfl rfl rfl ?_
    | refine xstore 3 ShpC.h rfl rfl rfl rfl rfl rfl rfl ?_
    | refine xstore 4 ShpC.h rfl rfl rfl rfl rfl rfl rfl ?_
    | refine xskip rfl rfl ?_
    | refine xskip0 rfl ?_
    | refine xcondT rfl ?_
    | refine xcondF rfl ?_
    | refine xskipc ?_
    | refine xexit ?_
    | refine xretc ?_
    | refine xin_normal ?_
    | refine xin_ret ?_
    | refine xthen_exit ?_
    | refine xthen_ret ?_
    | refine xin_same rfl ?_
    | refine xin_other rfl ?_
  refine xloop (RReplInv l text hits) ⟨0, none, Nat.zero_le _, rfl, rfl⟩ ⟨by (repeat (first | exact ImpT.nil _ | refine ImpT.cons rfl (by first | with_reducible exact Wk.refl _ | exact Wk.nil_own _ | exact Wk.nil_pl _ | with_reducible exact Wk.tok _ _ _ | exact Wk.eq (by first | rfl | (simp []; done) | (simp []; omega))) ?_)), (SubM.of (by repeat (first | exact SubB.nil _ | refine SubB.keep rfl rfl (by (repeat (first | exact WkL.nil | refine WkL.cons (by first | with_reducible exact Wk.refl _ | exact Wk.nil_own _ | exact Wk.nil_pl _ | with_reducible exact Wk.tok _ _ _ | exact Wk.eq (by first | rfl | (simp []; done) | (simp []; omega))) ?_))) ?_ | refine SubB.drop ?_)) (by repeat (first | exact SubT.nil _ | refine SubT.add ?_ | (refine SubT.keep ?_ ?_; focus (first | with_reducible rfl | (simp []; done))) | refine SubT.drop ?_)))⟩ ?_
  rintro _ m ⟨k, id, hk, rfl, rfl⟩
  obtain ⟨hb1, hb2⟩ := replGo_le ht hE k hk
  repeat
    first
    | refine xseq ?_
    | refine xregion ?_
    | refine xvalP (pv_move rfl) rfl rfl ?_
    | refine xvalP (pv_assign rfl) rfl rfl ?_
    | refine xvalP (pv_add1 rfl rfl (by omega)) rfl rfl ?_
    | refine xvalP (pv_sub1 rfl rfl (by omega)) rfl rfl ?_
    | refine xvalP (pv_bin2 rfl rfl rfl) rfl rfl ?_
    | refine xnil ?_
    | refine xthen ?_
    | refine xblock ?_
    | refine xval (qv_load ShpC.h rfl rfl rfl) rfl rfl ?_
    | refine xvalP (qv_fieldAddrB FldC.h rfl) rfl rfl ?_
    | refine xvalP (qv_fieldAddrE FldC.h rfl) rfl rfl ?_
    | refine xval (qv_loadB 0 ShpC.h rfl rfl rfl rfl) rfl rfl ?_
    | refine xval (qv_loadB 1 ShpC.h rfl rfl rfl rfl) rfl rfl ?_
    | refine xval (qv_loadB 2 ShpC.h rfl rfl rfl rfl) rfl rfl ?_
    | refine xval (qv_loadB 3 ShpC.h rfl rfl rfl rfl) rfl rfl ?_
    | refine xval (qv_loadB 4 ShpC.h rfl rfl rfl rfl) rfl rfl ?_
    | refine xvalP (pv_pick rfl rfl) rfl rfl ?_
    | refine xvalP (pv_len UndC.h rfl rfl) rfl rfl ?_
    | refine xvalP (pv_lenS UndC.h rfl) rfl rfl ?_
    | refine xvalP (pv_not rfl) rfl rfl ?_
    | refine xvalP (pv_nilCheck rfl) rfl rfl ?_
    | refine xvalP (pv_nilCheckE rfl) rfl rfl ?_
    | refine xvalP (pv_nilCheckF rfl) rfl rfl ?_
    | refine xvalP (pv_extract rfl rfl) rfl rfl ?_
    | refine xvalP (qv_field FldC.h rfl rfl) rfl rfl ?_
    | refine xvalP (pv_indexAddr UndC.h ShpC.h rfl rfl rfl (map_at (by assumption))) rfl rfl ?_
    | refine xvalP (pv_indexAddrB UndC.h ShpC.h rfl rfl (Int.toNat_of_nonneg (by decide)).symm (by decide)) rfl rfl ?_
    | refine xvalP (pv_indexAddrE UndC.h ShpC.h rfl rfl (Int.toNat_of_nonneg (by decide)).symm (by decide)) rfl rfl ?_
    | refine xvalP (pv_eqB UndC.h rfl rfl) rfl rfl ?_
    | refine xvalP (pv_neB UndC.h rfl rfl) rfl rfl ?_
    | refine xvalP (pv_convI UndC.h UndC.h rfl) rfl rfl ?_
    | refine xvalP (pv_buildC StrC.h rfl rfl) rfl rfl ?_
    | refine xalloc InfC.h rfl rfl fun _ => ?_
    | refine xbuildSliceC UndC.h InfC.h rfl rfl rfl rfl rfl rfl fun _ => ?_
    | refine xvalP (pv_makeFuncC rfl) rfl rfl ?_
    | refine xbox rfl rfl rfl rfl fun _ => ?_
    | refine xstore 0 ShpC.h rfl rfl rfl rfl rfl rfl rfl ?_
    | refine xstore 1 ShpC.h rfl rfl rfl rfl rfl rfl rfl ?_
    | refine xstore 2 ShpC.h rfl rfl rfl rfl rfl rfl rfl ?_
    | refine xstore 3 ShpC.h rfl rfl rfl rfl rfl rfl rfl ?_
    | refine xstore 4 ShpC.h rfl rfl rfl rfl rfl rfl rfl ?_
    | refine xskip rfl rfl ?_
    | refine xskip0 rfl ?_
    | refine xcondT rfl ?_
    | refine xcondF rfl ?_
    | refine xskipc ?_
    | refine xexit ?_
    | refine xretc ?_
    | refine xin_normal ?_
    | refine xin_ret ?_
    | refine xthen_exit ?_
    | refine xthen_ret ?_
    | refine xin_same rfl ?_
    | refine xin_other rfl ?_
  refine xcondD rfl (fun h1 => ?_) (fun h1 => ?_)
  · have hk1 : k < hits.length := by simpa using h1
    obtain ⟨h, hx⟩ : ∃ h, hits[k]? = some h := ⟨_, List.getElem?_eq_getElem hk1⟩
    have hsn := replGo_snoc (text := text) (l := l) hx
    have he := hE h (List.mem_of_getElem? hx)
    have hl10 := h.len
    obtain ⟨hl0, hlen⟩ := h
    obtain ⟨⟨f, u⟩, b, c, d, e, f', g', h', i, j, rfl⟩ := ten hl0 hlen
    have he : (expand text [(f, u), b, c, d, e, f', g', h', i, j] l).length ≤ 1000 := he
    repeat
      first
      | refine xseq ?_
      | refine xregion ?_
      | refine xvalP (pv_move rfl) rfl rfl ?_
      | refine xvalP (pv_assign rfl) rfl rfl ?_
      | refine xvalP (pv_add1 rfl rfl (by omega)) rfl rfl ?_
      | refine xvalP (pv_sub1 rfl rfl (by omega)) rfl rfl ?_
      | refine xvalP (pv_bin2 rfl rfl rfl) rfl rfl ?_
      | refine xnil ?_
      | refine xthen ?_
      | refine xblock ?_
      | refine xval (qv_load ShpC.h rfl rfl rfl) rfl rfl ?_
      | refine xvalP (qv_fieldAddrB FldC.h rfl) rfl rfl ?_
      | refine xvalP (qv_fieldAddrE FldC.h rfl) rfl rfl ?_
      | refine xval (qv_loadB 0 ShpC.h rfl rfl rfl rfl) rfl rfl ?_
      | refine xval (qv_loadB 1 ShpC.h rfl rfl rfl rfl) rfl rfl ?_
      | refine xval (qv_loadB 2 ShpC.h rfl rfl rfl rfl) rfl rfl ?_
      | refine xval (qv_loadB 3 ShpC.h rfl rfl rfl rfl) rfl rfl ?_
      | refine xval (qv_loadB 4 ShpC.h rfl rfl rfl rfl) rfl rfl ?_
      | refine xvalP (pv_pick rfl rfl) rfl rfl ?_
      | refine xvalP (pv_len UndC.h rfl rfl) rfl rfl ?_
      | refine xvalP (pv_lenS UndC.h rfl) rfl rfl ?_
      | refine xvalP (pv_not rfl) rfl rfl ?_
      | refine xvalP (pv_nilCheck rfl) rfl rfl ?_
      | refine xvalP (pv_nilCheckE rfl) rfl rfl ?_
      | refine xvalP (pv_nilCheckF rfl) rfl rfl ?_
      | refine xvalP (pv_extract rfl rfl) rfl rfl ?_
      | refine xvalP (qv_field FldC.h rfl rfl) rfl rfl ?_
      | refine xvalP (pv_indexAddr UndC.h ShpC.h rfl rfl rfl (map_at (by assumption))) rfl rfl ?_
      | refine xvalP (pv_indexAddrB UndC.h ShpC.h rfl rfl (Int.toNat_of_nonneg (by decide)).symm (by decide)) rfl rfl ?_
      | refine xvalP (pv_indexAddrE UndC.h ShpC.h rfl rfl (Int.toNat_of_nonneg (by decide)).symm (by decide)) rfl rfl ?_
      | refine xvalP (pv_eqB UndC.h rfl rfl) rfl rfl ?_
      | refine xvalP (pv_neB UndC.h rfl rfl) rfl rfl ?_
      | refine xvalP (pv_convI UndC.h UndC.h rfl) rfl rfl ?_
      | refine xvalP (pv_buildC StrC.h rfl rfl) rfl rfl ?_
      | refine xalloc InfC.h rfl rfl fun _ => ?_
      | refine xbuildSliceC UndC.h InfC.h rfl rfl rfl rfl rfl rfl fun _ => ?_
      | refine xvalP (pv_makeFuncC rfl) rfl rfl ?_
      | refine xbox rfl rfl rfl rfl fun _ => ?_
      | refine xstore 0 ShpC.h rfl rfl rfl rfl rfl rfl rfl ?_
      | refine xstore 1 ShpC.h rfl rfl rfl rfl rfl rfl rfl ?_
      | refine xstore 2 ShpC.h rfl rfl rfl rfl rfl rfl rfl ?_
      | refine xstore 3 ShpC.h rfl rfl rfl rfl rfl rfl rfl ?_
      | refine xstore 4 ShpC.h rfl rfl rfl rfl rfl rfl rfl ?_
      | refine xskip rfl rfl ?_
      | refine xskip0 rfl ?_
      | refine xcondT rfl ?_
      | refine xcondF rfl ?_
      | refine xskipc ?_
      | refine xexit ?_
      | refine xretc ?_
      | refine xin_normal ?_
      | refine xin_ret ?_
      | refine xthen_exit ?_
      | refine xthen_ret ?_
      | refine xin_same rfl ?_
      | refine xin_other rfl ?_
    refine xcall0 (in_any f u (text.map eb)) Try.func21 (by kernel_rfl) rfl (by repeat (first | exact EvL.nil | refine EvL.cons rfl (by first | with_reducible exact Wk.refl _ | exact Wk.nil_pl _ | with_reducible exact Wk.tok _ _ _ | exact Wk.eq rfl) ?_)) rfl rfl ?_
    repeat
      first
      | refine xseq ?_
      | refine xregion ?_
      | refine xvalP (pv_move rfl) rfl rfl ?_
      | refine xvalP (pv_assign rfl) rfl rfl ?_
      | refine xvalP (pv_add1 rfl rfl (by omega)) rfl rfl ?_
      | refine xvalP (pv_sub1 rfl rfl (by omega)) rfl rfl ?_
      | refine xvalP (pv_bin2 rfl rfl rfl) rfl rfl ?_
      | refine xnil ?_
      | refine xthen ?_
      | refine xblock ?_
      | refine xval (qv_load ShpC.h rfl rfl rfl) rfl rfl ?_
      | refine xvalP (qv_fieldAddrB FldC.h rfl) rfl rfl ?_
      | refine xvalP (qv_fieldAddrE FldC.h rfl) rfl rfl ?_
      | refine xval (qv_loadB 0 ShpC.h rfl rfl rfl rfl) rfl rfl ?_
      | refine xval (qv_loadB 1 ShpC.h rfl rfl rfl rfl) rfl rfl ?_
      | refine xval (qv_loadB 2 ShpC.h rfl rfl rfl rfl) rfl rfl ?_
      | refine xval (qv_loadB 3 ShpC.h rfl rfl rfl rfl) rfl rfl ?_
      | refine xval (qv_loadB 4 ShpC.h rfl rfl rfl rfl) rfl rfl ?_
      | refine xvalP (pv_pick rfl rfl) rfl rfl ?_
      | refine xvalP (pv_len UndC.h rfl rfl) rfl rfl ?_
      | refine xvalP (pv_lenS UndC.h rfl) rfl rfl ?_
      | refine xvalP (pv_not rfl) rfl rfl ?_
      | refine xvalP (pv_nilCheck rfl) rfl rfl ?_
      | refine xvalP (pv_nilCheckE rfl) rfl rfl ?_
      | refine xvalP (pv_nilCheckF rfl) rfl rfl ?_
      | refine xvalP (pv_extract rfl rfl) rfl rfl ?_
      | refine xvalP (qv_field FldC.h rfl rfl) rfl rfl ?_
      | refine xvalP (pv_indexAddr UndC.h ShpC.h rfl rfl rfl (map_at (by assumption))) rfl rfl ?_
      | refine xvalP (pv_indexAddrB UndC.h ShpC.h rfl rfl (Int.toNat_of_nonneg (by decide)).symm (by decide)) rfl rfl ?_
      | refine xvalP (pv_indexAddrE UndC.h ShpC.h rfl rfl (Int.toNat_of_nonneg (by decide)).symm (by decide)) rfl rfl ?_
      | refine xvalP (pv_eqB UndC.h rfl rfl) rfl rfl ?_
      | refine xvalP (pv_neB UndC.h rfl rfl) rfl rfl ?_
      | refine xvalP (pv_convI UndC.h UndC.h rfl) rfl rfl ?_
      | refine xvalP (pv_buildC StrC.h rfl rfl) rfl rfl ?_
      | refine xalloc InfC.h rfl rfl fun _ => ?_
      | refine xbuildSliceC UndC.h InfC.h rfl rfl rfl rfl rfl rfl fun _ => ?_
      | refine xvalP (pv_makeFuncC rfl) rfl rfl ?_
      | refine xbox rfl rfl rfl rfl fun _ => ?_
      | refine xstore 0 ShpC.h rfl rfl rfl rfl rfl rfl rfl ?_
      | refine xstore 1 ShpC.h rfl rfl rfl rfl rfl rfl rfl ?_
      | refine xstore 2 ShpC.h rfl rfl rfl rfl rfl rfl rfl ?_
      | refine xstore 3 ShpC.h rfl rfl rfl rfl rfl rfl rfl ?_
      | refine xstore 4 ShpC.h rfl rfl rfl rfl rfl rfl rfl ?_
      | refine xskip rfl rfl ?_
      | refine xskip0 rfl ?_
      | refine xcondT rfl ?_
      | refine xcondF rfl ?_
      | refine xskipc ?_
      | refine xexit ?_
      | refine xretc ?_
      | refine xin_normal ?_
      | refine xin_ret ?_
      | refine xthen_exit ?_
      | refine xthen_ret ?_
      | refine xin_same rfl ?_
      | refine xin_other rfl ?_
    refine xguardD rfl rfl (fun h2 => ?_) (fun h2 => ?_)
    · rw [List.length_map] at h2
      repeat
        first
        | refine xseq ?_
        | refine xregion ?_
        | refine xvalP (pv_move rfl) rfl rfl ?_
        | refine xvalP (pv_assign rfl) rfl rfl ?_
        | refine xvalP (pv_add1 rfl rfl (by omega)) rfl rfl ?_
        | refine xvalP (pv_sub1 rfl rfl (by omega)) rfl rfl ?_
        | refine xvalP (pv_bin2 rfl rfl rfl) rfl rfl ?_
        | refine xnil ?_
        | refine xthen ?_
        | refine xblock ?_
        | refine xval (qv_load ShpC.h rfl rfl rfl) rfl rfl ?_
        | refine xvalP (qv_fieldAddrB FldC.h rfl) rfl rfl ?_
        | refine xvalP (qv_fieldAddrE FldC.h rfl) rfl rfl ?_
        | refine xval (qv_loadB 0 ShpC.h rfl rfl rfl rfl) rfl rfl ?_
        | refine xval (qv_loadB 1 ShpC.h rfl rfl rfl rfl) rfl rfl ?_
        | refine xval (qv_loadB 2 ShpC.h rfl rfl rfl rfl) rfl rfl ?_
        | refine xval (qv_loadB 3 ShpC.h rfl rfl rfl rfl) rfl rfl ?_
        | refine xval (qv_loadB 4 ShpC.h rfl rfl rfl rfl) rfl rfl ?_
        | refine xvalP (pv_pick rfl rfl) rfl rfl ?_
        | refine xvalP (pv_len UndC.h rfl rfl) rfl rfl ?_
        | refine xvalP (pv_lenS UndC.h rfl) rfl rfl ?_
        | refine xvalP (pv_not rfl) rfl rfl ?_
        | refine xvalP (pv_nilCheck rfl) rfl rfl ?_
        | refine xvalP (pv_nilCheckE rfl) rfl rfl ?_
        | refine xvalP (pv_nilCheckF rfl) rfl rfl ?_
        | refine xvalP (pv_extract rfl rfl) rfl rfl ?_
        | refine xvalP (qv_field FldC.h rfl rfl) rfl rfl ?_
        | refine xvalP (pv_indexAddr UndC.h ShpC.h rfl rfl rfl (map_at (by assumption))) rfl rfl ?_
        | refine xvalP (pv_indexAddrB UndC.h ShpC.h rfl rfl (Int.toNat_of_nonneg (by decide)).symm (by decide)) rfl rfl ?_
        | refine xvalP (pv_indexAddrE UndC.h ShpC.h rfl rfl (Int.toNat_of_nonneg (by decide)).symm (by decide)) rfl rfl ?_
        | refine xvalP (pv_eqB UndC.h rfl rfl) rfl rfl ?_
        | refine xvalP (pv_neB UndC.h rfl rfl) rfl rfl ?_
        | refine xvalP (pv_convI UndC.h UndC.h rfl) rfl rfl ?_
        | refine xvalP (pv_buildC StrC.h rfl rfl) rfl rfl ?_
        | refine xalloc InfC.h rfl rfl fun _ => ?_
        | refine xbuildSliceC UndC.h InfC.h rfl rfl rfl rfl rfl rfl fun _ => ?_
        | refine xvalP (pv_makeFuncC rfl) rfl rfl ?_
        | refine xbox rfl rfl rfl rfl fun _ => ?_
        | refine xstore 0 ShpC.h rfl rfl rfl rfl rfl rfl rfl ?_
        | refine xstore 1 ShpC.h rfl rfl rfl rfl rfl rfl rfl ?_
        | refine xstore 2 ShpC.h rfl rfl rfl rfl rfl rfl rfl ?_
        | refine xstore 3 ShpC.h rfl rfl rfl rfl rfl rfl rfl ?_
        | refine xstore 4 ShpC.h rfl rfl rfl rfl rfl rfl rfl ?_
        | refine xskip rfl rfl ?_
        | refine xskip0 rfl ?_
        | refine xcondT rfl ?_
        | refine xcondF rfl ?_
        | refine xskipc ?_
        | refine xexit ?_
        | refine xretc ?_
        | refine xin_normal ?_
        | refine xin_ret ?_
        | refine xthen_exit ?_
        | refine xthen_ret ?_
        | refine xin_same rfl ?_
        | refine xin_other rfl ?_
      refine xcondD rfl (fun h3 => ?_) (fun h3 => ?_)
      · have hs0 : replStep text l (replGo text l (hits.take k)) ⟨[(f, u), b, c, d, e, f', g', h', i, j], hlen⟩ = ((replGo text l (hits.take k)).1 ++ (text.take f.toNat).drop (replGo text l (hits.take k)).2 ++ expand text [(f, u), b, c, d, e, f', g', h', i, j] l, u.toNat) := if_pos ⟨h2.1, h2.2.1, h2.2.2, by simp only [List.headD_cons]; omega⟩
        rw [hs0] at hsn
        have hfu : f = ((f.toNat : Nat) : Int) := by omega
        have huu : u = ((u.toNat : Nat) : Int) := by omega
        repeat
          first
          | refine xseq ?_
          | refine xregion ?_
          | refine xvalP (pv_move rfl) rfl rfl ?_
          | refine xvalP (pv_assign rfl) rfl rfl ?_
          | refine xvalP (pv_add1 rfl rfl (by omega)) rfl rfl ?_
          | refine xvalP (pv_sub1 rfl rfl (by omega)) rfl rfl ?_
          | refine xvalP (pv_bin2 rfl rfl rfl) rfl rfl ?_
          | refine xnil ?_
          | refine xthen ?_
          | refine xblock ?_
          | refine xval (qv_load ShpC.h rfl rfl rfl) rfl rfl ?_
          | refine xvalP (qv_fieldAddrB FldC.h rfl) rfl rfl ?_
          | refine xvalP (qv_fieldAddrE FldC.h rfl) rfl rfl ?_
          | refine xval (qv_loadB 0 ShpC.h rfl rfl rfl rfl) rfl rfl ?_
          | refine xval (qv_loadB 1 ShpC.h rfl rfl rfl rfl) rfl rfl ?_
          | refine xval (qv_loadB 2 ShpC.h rfl rfl rfl rfl) rfl rfl ?_
          | refine xval (qv_loadB 3 ShpC.h rfl rfl rfl rfl) rfl rfl ?_
          | refine xval (qv_loadB 4 ShpC.h rfl rfl rfl rfl) rfl rfl ?_
          | refine xvalP (pv_pick rfl rfl) rfl rfl ?_
          | refine xvalP (pv_len UndC.h rfl rfl) rfl rfl ?_
          | refine xvalP (pv_lenS UndC.h rfl) rfl rfl ?_
          | refine xvalP (pv_not rfl) rfl rfl ?_
          | refine xvalP (pv_nilCheck rfl) rfl rfl ?_
          | refine xvalP (pv_nilCheckE rfl) rfl rfl ?_
          | refine xvalP (pv_nilCheckF rfl) rfl rfl ?_
          | refine xvalP (pv_extract rfl rfl) rfl rfl ?_
          | refine xvalP (qv_field FldC.h rfl rfl) rfl rfl ?_
          | refine xvalP (pv_indexAddr UndC.h ShpC.h rfl rfl rfl (map_at (by assumption))) rfl rfl ?_
          | refine xvalP (pv_indexAddrB UndC.h ShpC.h rfl rfl (Int.toNat_of_nonneg (by decide)).symm (by decide)) rfl rfl ?_
          | refine xvalP (pv_indexAddrE UndC.h ShpC.h rfl rfl (Int.toNat_of_nonneg (by decide)).symm (by decide)) rfl rfl ?_
          | refine xvalP (pv_eqB UndC.h rfl rfl) rfl rfl ?_
          | refine xvalP (pv_neB UndC.h rfl rfl) rfl rfl ?_
          | refine xvalP (pv_convI UndC.h UndC.h rfl) rfl rfl ?_
          | refine xvalP (pv_buildC StrC.h rfl rfl) rfl rfl ?_
          | refine xalloc InfC.h rfl rfl fun _ => ?_
          | refine xbuildSliceC UndC.h InfC.h rfl rfl rfl rfl rfl rfl fun _ => ?_
          | refine xvalP (pv_makeFuncC rfl) rfl rfl ?_
          | refine xbox rfl rfl rfl rfl fun _ => ?_
          | refine xstore 0 ShpC.h rfl rfl rfl rfl rfl rfl rfl ?_
          | refine xstore 1 ShpC.h rfl rfl rfl rfl rfl rfl rfl ?_
          | refine xstore 2 ShpC.h rfl rfl rfl rfl rfl rfl rfl ?_
          | refine xstore 3 ShpC.h rfl rfl rfl rfl rfl rfl rfl ?_
          | refine xstore 4 ShpC.h rfl rfl rfl rfl rfl rfl rfl ?_
          | refine xskip rfl rfl ?_
          | refine xskip0 rfl ?_
          | refine xcondT rfl ?_
          | refine xcondF rfl ?_
          | refine xskipc ?_
          | refine xexit ?_
          | refine xretc ?_
          | refine xin_normal ?_
          | refine xin_ret ?_
          | refine xthen_exit ?_
          | refine xthen_ret ?_
          | refine xin_same rfl ?_
          | refine xin_other rfl ?_
        refine xregionD (m := 16) (by kernel_rfl) rfl ?_
        refine xpval 0 rfl (pv_move rfl) rfl rfl (by kernel_rfl) (by kernel_rfl) (by kernel_rfl) (fun _ _ _ _ h => h) ?_
        refine xpval 1 rfl (pv_move rfl) rfl rfl (by kernel_rfl) (by kernel_rfl) (by kernel_rfl) (fun _ _ _ _ h => h) ?_
        refine xpval 2 rfl (pv_move rfl) rfl rfl (by kernel_rfl) (by kernel_rfl) (by kernel_rfl) (fun _ _ _ _ h => h) ?_
        first | refine xpval 3 rfl (qv_fieldAddrB FldC.h rfl) rfl rfl (by kernel_rfl) (by kernel_rfl) (by kernel_rfl) (fun _ _ _ _ h => h) ?_ | refine xpval 3 rfl (qv_fieldAddrE FldC.h rfl) rfl rfl (by kernel_rfl) (by kernel_rfl) (by kernel_rfl) (fun _ _ _ _ h => h) ?_
        refine xpval 7 rfl (pv_move rfl) rfl rfl (by kernel_rfl) (by kernel_rfl) (by kernel_rfl) (fun _ _ _ _ h => h) ?_
        refine xpval 8 rfl (pv_move rfl) rfl rfl (by kernel_rfl) (by kernel_rfl) (by kernel_rfl) (fun _ _ _ _ h => h) ?_
        refine xpval 9 rfl (pv_move rfl) rfl rfl (by kernel_rfl) (by kernel_rfl) (by kernel_rfl) (fun _ _ _ _ h => h) ?_
        refine xpval 10 rfl (pv_move rfl) rfl rfl (by kernel_rfl) (by kernel_rfl) (by kernel_rfl) (fun _ _ _ _ h => h) ?_
        refine xpval 11 rfl (pv_indexAddr UndC.h ShpC.h rfl rfl rfl (map_at (by assumption))) rfl rfl (by kernel_rfl) (by kernel_rfl) (by kernel_rfl) (fun _ _ _ _ h => h) ?_
        first | refine xpvalE 4 [12] rfl (qv_load ShpC.h rfl rfl rfl) rfl rfl (by kernel_rfl) (by kernel_rfl) (by kernel_rfl) (fun _ _ _ _ h => h) ?_ | refine xpvalE 4 [12] rfl (qv_loadB 0 ShpC.h rfl rfl rfl rfl) rfl rfl (by kernel_rfl) (by kernel_rfl) (by kernel_rfl) (fun _ _ _ _ h => h) ?_ | refine xpvalE 4 [12] rfl (qv_loadB 1 ShpC.h rfl rfl rfl rfl) rfl rfl (by kernel_rfl) (by kernel_rfl) (by kernel_rfl) (fun _ _ _ _ h => h) ?_ | refine xpvalE 4 [12] rfl (qv_loadB 2 ShpC.h rfl rfl rfl rfl) rfl rfl (by kernel_rfl) (by kernel_rfl) (by kernel_rfl) (fun _ _ _ _ h => h) ?_ | refine xpvalE 4 [12] rfl (qv_loadB 3 ShpC.h rfl rfl rfl rfl) rfl rfl (by kernel_rfl) (by kernel_rfl) (by kernel_rfl) (fun _ _ _ _ h => h) ?_ | refine xpvalE 4 [12] rfl (qv_loadB 4 ShpC.h rfl rfl rfl rfl) rfl rfl (by kernel_rfl) (by kernel_rfl) (by kernel_rfl) (fun _ _ _ _ h => h) ?_ | refine xpvalE 4 [12] rfl (qv_loadB 5 ShpC.h rfl rfl rfl rfl) rfl rfl (by kernel_rfl) (by kernel_rfl) (by kernel_rfl) (fun _ _ _ _ h => h) ?_
        refine xpval 5 rfl (pv_slice UndC.h ShpC.h rfl (.some_ rfl rfl) (.some_ rfl hfu) (by omega) (by rw [List.length_map]; omega)) rfl rfl (by kernel_rfl) (by kernel_rfl) (by kernel_rfl) (fun _ _ _ _ h => h) ?_
        refine xpstepN (is := [6, 12]) (by kernel_rfl) (by simp) ?_
        intro i hi; simp only [List.mem_cons, List.not_mem_nil, or_false] at hi; rcases hi with rfl | rfl
        · refine ⟨_, rfl, ?_⟩
          refine wappend UndC.h InfC.h rfl 0 rfl rfl (.refl _) rfl (by simp) rfl rfl ⟨by simp [maxLen]; omega, by simp; omega⟩ fun id2 => ?_
          first | refine xpvalE 12 [] rfl (qv_load ShpC.h rfl rfl rfl) rfl rfl (by kernel_rfl) (by kernel_rfl) (by kernel_rfl) (fun _ _ _ _ h => h) ?_ | refine xpvalE 12 [] rfl (qv_loadB 0 ShpC.h rfl rfl rfl rfl) rfl rfl (by kernel_rfl) (by kernel_rfl) (by kernel_rfl) (fun _ _ _ _ h => h) ?_ | refine xpvalE 12 [] rfl (qv_loadB 1 ShpC.h rfl rfl rfl rfl) rfl rfl (by kernel_rfl) (by kernel_rfl) (by kernel_rfl) (fun _ _ _ _ h => h) ?_ | refine xpvalE 12 [] rfl (qv_loadB 2 ShpC.h rfl rfl rfl rfl) rfl rfl (by kernel_rfl) (by kernel_rfl) (by kernel_rfl) (fun _ _ _ _ h => h) ?_ | refine xpvalE 12 [] rfl (qv_loadB 3 ShpC.h rfl rfl rfl rfl) rfl rfl (by kernel_rfl) (by kernel_rfl) (by kernel_rfl) (fun _ _ _ _ h => h) ?_ | refine xpvalE 12 [] rfl (qv_loadB 4 ShpC.h rfl rfl rfl rfl) rfl rfl (by kernel_rfl) (by kernel_rfl) (by kernel_rfl) (fun _ _ _ _ h => h) ?_ | refine xpvalE 12 [] rfl (qv_loadB 5 ShpC.h rfl rfl rfl rfl) rfl rfl (by kernel_rfl) (by kernel_rfl) (by kernel_rfl) (fun _ _ _ _ h => h) ?_
          refine xpstep (i := 13) (by kernel_rfl) rfl ?_
          refine wcallO (rexpand_any l text _ hlen hl (by omega)) Try.func11 (by kernel_rfl) rfl (by repeat (first | exact EvL.nil | refine EvL.cons rfl (by first | with_reducible exact Wk.refl _ | exact Wk.nil_pl _ | with_reducible exact Wk.tok _ _ _ | exact Wk.eq rfl) ?_)) rfl rfl fun id3 => ?_
          refine xpstep (i := 14) (by kernel_rfl) rfl ?_
          refine wappend UndC.h InfC.h rfl 1 rfl rfl (.refl _) rfl (by simp) rfl rfl ⟨by simp [maxLen]; omega, by simp; omega⟩ fun id4 => ?_
          refine xpval 15 rfl (pv_assign rfl) rfl rfl (by kernel_rfl) (by kernel_rfl) (by kernel_rfl) (fun _ _ _ _ h => h) ?_
          refine xpdone (by kernel_rfl) ?_
          repeat
                      first
                      | refine xseq ?_
                      | refine xregion ?_
                      | refine xvalP (pv_move rfl) rfl rfl ?_
                      | refine xvalP (pv_assign rfl) rfl rfl ?_
                      | refine xvalP (pv_add1 rfl rfl (by omega)) rfl rfl ?_
                      | refine xvalP (pv_sub1 rfl rfl (by omega)) rfl rfl ?_
                      | refine xvalP (pv_bin2 rfl rfl rfl) rfl rfl ?_
                      | refine xnil ?_
                      | refine xthen ?_
                      | refine xblock ?_
                      | refine xval (qv_load ShpC.h rfl rfl rfl) rfl rfl ?_
                      | refine xvalP (qv_fieldAddrB FldC.h rfl) rfl rfl ?_
                      | refine xvalP (qv_fieldAddrE FldC.h rfl) rfl rfl ?_
                      | refine xval (qv_loadB 0 ShpC.h rfl rfl rfl rfl) rfl rfl ?_
                      | refine xval (qv_loadB 1 ShpC.h rfl rfl rfl rfl) rfl rfl ?_
                      | refine xval (qv_loadB 2 ShpC.h rfl rfl rfl rfl) rfl rfl ?_
                      | refine xval (qv_loadB 3 ShpC.h rfl rfl rfl rfl) rfl rfl ?_
                      | refine xval (qv_loadB 4 ShpC.h rfl rfl rfl rfl) rfl rfl ?_
                      | refine xvalP (pv_pick rfl rfl) rfl rfl ?_
                      | refine xvalP (pv_len UndC.h rfl rfl) rfl rfl ?_
                      | refine xvalP (pv_lenS UndC.h rfl) rfl rfl ?_
                      | refine xvalP (pv_not rfl) rfl rfl ?_
                      | refine xvalP (pv_nilCheck rfl) rfl rfl ?_
                      | refine xvalP (pv_nilCheckE rfl) rfl rfl ?_
                      | refine xvalP (pv_nilCheckF rfl) rfl rfl ?_
                      | refine xvalP (pv_extract rfl rfl) rfl rfl ?_
                      | refine xvalP (qv_field FldC.h rfl rfl) rfl rfl ?_
                      | refine xvalP (pv_indexAddr UndC.h ShpC.h rfl rfl rfl (map_at (by assumption))) rfl rfl ?_
                      | refine xvalP (pv_indexAddrB UndC.h ShpC.h rfl rfl (Int.toNat_of_nonneg (by decide)).symm (by decide)) rfl rfl ?_
                      | refine xvalP (pv_indexAddrE UndC.h ShpC.h rfl rfl (Int.toNat_of_nonneg (by decide)).symm (by decide)) rfl rfl ?_
                      | refine xvalP (pv_eqB UndC.h rfl rfl) rfl rfl ?_
                      | refine xvalP (pv_neB UndC.h rfl rfl) rfl rfl ?_
                      | refine xvalP (pv_convI UndC.h UndC.h rfl) rfl rfl ?_
                      | refine xvalP (pv_buildC StrC.h rfl rfl) rfl rfl ?_
                      | refine xalloc InfC.h rfl rfl fun _ => ?_
                      | refine xbuildSliceC UndC.h InfC.h rfl rfl rfl rfl rfl rfl fun _ => ?_
                      | refine xvalP (pv_makeFuncC rfl) rfl rfl ?_
                      | refine xbox rfl rfl rfl rfl fun _ => ?_
                      | refine xstore 0 ShpC.h rfl rfl rfl rfl rfl rfl rfl ?_
                      | refine xstore 1 ShpC.h rfl rfl rfl rfl rfl rfl rfl ?_
                      | refine xstore 2 ShpC.h rfl rfl rfl rfl rfl rfl rfl ?_
                      | refine xstore 3 ShpC.h rfl rfl rfl rfl rfl rfl rfl ?_
                      | refine xstore 4 ShpC.h rfl rfl rfl rfl rfl rfl rfl ?_
                      | refine xskip rfl rfl ?_
                      | refine xskip0 rfl ?_
                      | refine xcondT rfl ?_
                      | refine xcondF rfl ?_
                      | refine xskipc ?_
                      | refine xexit ?_
                      | refine xretc ?_
                      | refine xin_normal ?_
                      | refine xin_ret ?_
                      | refine xthen_exit ?_
                      | refine xthen_ret ?_
                      | refine xin_same rfl ?_
                      | refine xin_other rfl ?_
          refine xagain ⟨k + 1, id4, hk1, rfl, rfl⟩ (by omega) ⟨by (repeat (first | exact ImpT.nil _ | refine ImpT.cons rfl (by first | with_reducible exact Wk.refl _ | exact Wk.nil_own _ | exact Wk.nil_pl _ | with_reducible exact Wk.tok _ _ _ | exact Wk.eq (by first | rfl | (simp [hsn, List.map_take, List.map_drop, ← huu]; done) | (simp [hsn, List.map_take, List.map_drop, ← huu]; omega))) ?_)), (SubM.of (by repeat (first | exact SubB.nil _ | refine SubB.keep rfl rfl (by (repeat (first | exact WkL.nil | refine WkL.cons (by first | with_reducible exact Wk.refl _ | exact Wk.nil_own _ | exact Wk.nil_pl _ | with_reducible exact Wk.tok _ _ _ | exact Wk.eq (by first | rfl | (simp [hsn, List.map_take, List.map_drop, ← huu]; done) | (simp [hsn, List.map_take, List.map_drop, ← huu]; omega))) ?_))) ?_ | refine SubB.drop ?_)) (by repeat (first | exact SubT.nil _ | refine SubT.add ?_ | (refine SubT.keep ?_ ?_; focus (first | with_reducible rfl | (simp [hsn, List.map_take, List.map_drop, ← huu]; done))) | refine SubT.drop ?_)))⟩
        · refine ⟨_, rfl, ?_⟩
          first | refine wval (qv_load ShpC.h rfl rfl rfl) rfl rfl ?_ | refine wval (qv_loadB 0 ShpC.h rfl rfl rfl rfl) rfl rfl ?_ | refine wval (qv_loadB 1 ShpC.h rfl rfl rfl rfl) rfl rfl ?_ | refine wval (qv_loadB 2 ShpC.h rfl rfl rfl rfl) rfl rfl ?_ | refine wval (qv_loadB 3 ShpC.h rfl rfl rfl rfl) rfl rfl ?_ | refine wval (qv_loadB 4 ShpC.h rfl rfl rfl rfl) rfl rfl ?_ | refine wval (qv_loadB 5 ShpC.h rfl rfl rfl rfl) rfl rfl ?_
          refine xpstep (i := 6) (by kernel_rfl) rfl ?_
          refine wappend UndC.h InfC.h rfl 0 rfl rfl (.refl _) rfl (by simp) rfl rfl ⟨by simp [maxLen]; omega, by simp; omega⟩ fun id2 => ?_
          refine xpstep (i := 13) (by kernel_rfl) rfl ?_
          refine wcallO (rexpand_any l text _ hlen hl (by omega)) Try.func11 (by kernel_rfl) rfl (by repeat (first | exact EvL.nil | refine EvL.cons rfl (by first | with_reducible exact Wk.refl _ | exact Wk.nil_pl _ | with_reducible exact Wk.tok _ _ _ | exact Wk.eq rfl) ?_)) rfl rfl fun id3 => ?_
          refine xpstep (i := 14) (by kernel_rfl) rfl ?_
          refine wappend UndC.h InfC.h rfl 1 rfl rfl (.refl _) rfl (by simp) rfl rfl ⟨by simp [maxLen]; omega, by simp; omega⟩ fun id4 => ?_
          refine xpval 15 rfl (pv_assign rfl) rfl rfl (by kernel_rfl) (by kernel_rfl) (by kernel_rfl) (fun _ _ _ _ h => h) ?_
          refine xpdone (by kernel_rfl) ?_
          repeat
                      first
                      | refine xseq ?_
                      | refine xregion ?_
                      | refine xvalP (pv_move rfl) rfl rfl ?_
                      | refine xvalP (pv_assign rfl) rfl rfl ?_
                      | refine xvalP (pv_add1 rfl rfl (by omega)) rfl rfl ?_
                      | refine xvalP (pv_sub1 rfl rfl (by omega)) rfl rfl ?_
                      | refine xvalP (pv_bin2 rfl rfl rfl) rfl rfl ?_
                      | refine xnil ?_
                      | refine xthen ?_
                      | refine xblock ?_
                      | refine xval (qv_load ShpC.h rfl rfl rfl) rfl rfl ?_
                      | refine xvalP (qv_fieldAddrB FldC.h rfl) rfl rfl ?_
                      | refine xvalP (qv_fieldAddrE FldC.h rfl) rfl rfl ?_
                      | refine xval (qv_loadB 0 ShpC.h rfl rfl rfl rfl) rfl rfl ?_
                      | refine xval (qv_loadB 1 ShpC.h rfl rfl rfl rfl) rfl rfl ?_
                      | refine xval (qv_loadB 2 ShpC.h rfl rfl rfl rfl) rfl rfl ?_
                      | refine xval (qv_loadB 3 ShpC.h rfl rfl rfl rfl) rfl rfl ?_
                      | refine xval (qv_loadB 4 ShpC.h rfl rfl rfl rfl) rfl rfl ?_
                      | refine xvalP (pv_pick rfl rfl) rfl rfl ?_
                      | refine xvalP (pv_len UndC.h rfl rfl) rfl rfl ?_
                      | refine xvalP (pv_lenS UndC.h rfl) rfl rfl ?_
                      | refine xvalP (pv_not rfl) rfl rfl ?_
                      | refine xvalP (pv_nilCheck rfl) rfl rfl ?_
                      | refine xvalP (pv_nilCheckE rfl) rfl rfl ?_
                      | refine xvalP (pv_nilCheckF rfl) rfl rfl ?_
                      | refine xvalP (pv_extract rfl rfl) rfl rfl ?_
                      | refine xvalP (qv_field FldC.h rfl rfl) rfl rfl ?_
                      | refine xvalP (pv_indexAddr UndC.h ShpC.h rfl rfl rfl (map_at (by assumption))) rfl rfl ?_
                      | refine xvalP (pv_indexAddrB UndC.h ShpC.h rfl rfl (Int.toNat_of_nonneg (by decide)).symm (by decide)) rfl rfl ?_
                      | refine xvalP (pv_indexAddrE UndC.h ShpC.h rfl rfl (Int.toNat_of_nonneg (by decide)).symm (by decide)) rfl rfl ?_
                      | refine xvalP (pv_eqB UndC.h rfl rfl) rfl rfl ?_
                      | refine xvalP (pv_neB UndC.h rfl rfl) rfl rfl ?_
                      | refine xvalP (pv_convI UndC.h UndC.h rfl) rfl rfl ?_
                      | refine xvalP (pv_buildC StrC.h rfl rfl) rfl rfl ?_
                      | refine xalloc InfC.h rfl rfl fun _ => ?_
                      | refine xbuildSliceC UndC.h InfC.h rfl rfl rfl rfl rfl rfl fun _ => ?_
                      | refine xvalP (pv_makeFuncC rfl) rfl rfl ?_
                      | refine xbox rfl rfl rfl rfl fun _ => ?_
                      | refine xstore 0 ShpC.h rfl rfl rfl rfl rfl rfl rfl ?_
                      | refine xstore 1 ShpC.h rfl rfl rfl rfl rfl rfl rfl ?_
                      | refine xstore 2 ShpC.h rfl rfl rfl rfl rfl rfl rfl ?_
                      | refine xstore 3 ShpC.h rfl rfl rfl rfl rfl rfl rfl ?_
                      | refine xstore 4 ShpC.h rfl rfl rfl rfl rfl rfl rfl ?_
                      | refine xskip rfl rfl ?_
                      | refine xskip0 rfl ?_
                      | refine xcondT rfl ?_
                      | refine xcondF rfl ?_
                      | refine xskipc ?_
                      | refine xexit ?_
                      | refine xretc ?_
                      | refine xin_normal ?_
                      | refine xin_ret ?_
                      | refine xthen_exit ?_
                      | refine xthen_ret ?_
                      | refine xin_same rfl ?_
                      | refine xin_other rfl ?_
          refine xagain ⟨k + 1, id4, hk1, rfl, rfl⟩ (by omega) ⟨by (repeat (first | exact ImpT.nil _ | refine ImpT.cons rfl (by first | with_reducible exact Wk.refl _ | exact Wk.nil_own _ | exact Wk.nil_pl _ | with_reducible exact Wk.tok _ _ _ | exact Wk.eq (by first | rfl | (simp [hsn, List.map_take, List.map_drop, ← huu]; done) | (simp [hsn, List.map_take, List.map_drop, ← huu]; omega))) ?_)), (SubM.of (by repeat (first | exact SubB.nil _ | refine SubB.keep rfl rfl (by (repeat (first | exact WkL.nil | refine WkL.cons (by first | with_reducible exact Wk.refl _ | exact Wk.nil_own _ | exact Wk.nil_pl _ | with_reducible exact Wk.tok _ _ _ | exact Wk.eq (by first | rfl | (simp [hsn, List.map_take, List.map_drop, ← huu]; done) | (simp [hsn, List.map_take, List.map_drop, ← huu]; omega))) ?_))) ?_ | refine SubB.drop ?_)) (by repeat (first | exact SubT.nil _ | refine SubT.add ?_ | (refine SubT.keep ?_ ?_; focus (first | with_reducible rfl | (simp [hsn, List.map_take, List.map_drop, ← huu]; done))) | refine SubT.drop ?_)))⟩
      · have hs0 : replStep text l (replGo text l (hits.take k)) ⟨[(f, u), b, c, d, e, f', g', h', i, j], hlen⟩ = replGo text l (hits.take k) := if_neg fun hc => by have := hc.2.2.2; simp only [List.headD_cons] at this; omega
        rw [hs0] at hsn
        repeat
          first
          | refine xseq ?_
          | refine xregion ?_
          | refine xvalP (pv_move rfl) rfl rfl ?_
          | refine xvalP (pv_assign rfl) rfl rfl ?_
          | refine xvalP (pv_add1 rfl rfl (by omega)) rfl rfl ?_
          | refine xvalP (pv_sub1 rfl rfl (by omega)) rfl rfl ?_
          | refine xvalP (pv_bin2 rfl rfl rfl) rfl rfl ?_
          | refine xnil ?_
          | refine xthen ?_
          | refine xblock ?_
          | refine xval (qv_load ShpC.h rfl rfl rfl) rfl rfl ?_
          | refine xvalP (qv_fieldAddrB FldC.h rfl) rfl rfl ?_
          | refine xvalP (qv_fieldAddrE FldC.h rfl) rfl rfl ?_
          | refine xval (qv_loadB 0 ShpC.h rfl rfl rfl rfl) rfl rfl ?_
          | refine xval (qv_loadB 1 ShpC.h rfl rfl rfl rfl) rfl rfl ?_
          | refine xval (qv_loadB 2 ShpC.h rfl rfl rfl rfl) rfl rfl ?_
          | refine xval (qv_loadB 3 ShpC.h rfl rfl rfl rfl) rfl rfl ?_
          | refine xval (qv_loadB 4 ShpC.h rfl rfl rfl rfl) rfl rfl ?_
          | refine xvalP (pv_pick rfl rfl) rfl rfl ?_
          | refine xvalP (pv_len UndC.h rfl rfl) rfl rfl ?_
          | refine xvalP (pv_lenS UndC.h rfl) rfl rfl ?_
          | refine xvalP (pv_not rfl) rfl rfl ?_
          | refine xvalP (pv_nilCheck rfl) rfl rfl ?_
          | refine xvalP (pv_nilCheckE rfl) rfl rfl ?_
          | refine xvalP (pv_nilCheckF rfl) rfl rfl ?_
          | refine xvalP (pv_extract rfl rfl) rfl rfl ?_
          | refine xvalP (qv_field FldC.h rfl rfl) rfl rfl ?_
          | refine xvalP (pv_indexAddr UndC.h ShpC.h rfl rfl rfl (map_at (by assumption))) rfl rfl ?_
          | refine xvalP (pv_indexAddrB UndC.h ShpC.h rfl rfl (Int.toNat_of_nonneg (by decide)).symm (by decide)) rfl rfl ?_
          | refine xvalP (pv_indexAddrE UndC.h ShpC.h rfl rfl (Int.toNat_of_nonneg (by decide)).symm (by decide)) rfl rfl ?_
          | refine xvalP (pv_eqB UndC.h rfl rfl) rfl rfl ?_
          | refine xvalP (pv_neB UndC.h rfl rfl) rfl rfl ?_
          | refine xvalP (pv_convI UndC.h UndC.h rfl) rfl rfl ?_
          | refine xvalP (pv_buildC StrC.h rfl rfl) rfl rfl ?_
          | refine xalloc InfC.h rfl rfl fun _ => ?_
          | refine xbuildSliceC UndC.h InfC.h rfl rfl rfl rfl rfl rfl fun _ => ?_
          | refine xvalP (pv_makeFuncC rfl) rfl rfl ?_
          | refine xbox rfl rfl rfl rfl fun _ => ?_
          | refine xstore 0 ShpC.h rfl rfl rfl rfl rfl rfl rfl ?_
          | refine xstore 1 ShpC.h rfl rfl rfl rfl rfl rfl rfl ?_
          | refine xstore 2 ShpC.h rfl rfl rfl rfl rfl rfl rfl ?_
          | refine xstore 3 ShpC.h rfl rfl rfl rfl rfl rfl rfl ?_
          | refine xstore 4 ShpC.h rfl rfl rfl rfl rfl rfl rfl ?_
          | refine xskip rfl rfl ?_
          | refine xskip0 rfl ?_
          | refine xcondT rfl ?_
          | refine xcondF rfl ?_
          | refine xskipc ?_
          | refine xexit ?_
          | refine xretc ?_
          | refine xin_normal ?_
          | refine xin_ret ?_
          | refine xthen_exit ?_
          | refine xthen_ret ?_
          | refine xin_same rfl ?_
          | refine xin_other rfl ?_
        refine xagain ⟨k + 1, id, hk1, rfl, rfl⟩ (by omega) ⟨by (repeat (first | exact ImpT.nil _ | refine ImpT.cons rfl (by first | with_reducible exact Wk.refl _ | exact Wk.nil_own _ | exact Wk.nil_pl _ | with_reducible exact Wk.tok _ _ _ | exact Wk.eq (by first | rfl | (simp [hsn]; done) | (simp [hsn]; omega))) ?_)), (SubM.of (by repeat (first | exact SubB.nil _ | refine SubB.keep rfl rfl (by (repeat (first | exact WkL.nil | refine WkL.cons (by first | with_reducible exact Wk.refl _ | exact Wk.nil_own _ | exact Wk.nil_pl _ | with_reducible exact Wk.tok _ _ _ | exact Wk.eq (by first | rfl | (simp [hsn]; done) | (simp [hsn]; omega))) ?_))) ?_ | refine SubB.drop ?_)) (by repeat (first | exact SubT.nil _ | refine SubT.add ?_ | (refine SubT.keep ?_ ?_; focus (first | with_reducible rfl | (simp [hsn]; done))) | refine SubT.drop ?_)))⟩
    · rw [List.length_map] at h2
      have hs0 : replStep text l (replGo text l (hits.take k)) ⟨[(f, u), b, c, d, e, f', g', h', i, j], hlen⟩ = replGo text l (hits.take k) := if_neg fun hc => h2 ⟨hc.1, hc.2.1, hc.2.2.1⟩
      rw [hs0] at hsn
      repeat
        first
        | refine xseq ?_
        | refine xregion ?_
        | refine xvalP (pv_move rfl) rfl rfl ?_
        | refine xvalP (pv_assign rfl) rfl rfl ?_
        | refine xvalP (pv_add1 rfl rfl (by omega)) rfl rfl ?_
        | refine xvalP (pv_sub1 rfl rfl (by omega)) rfl rfl ?_
        | refine xvalP (pv_bin2 rfl rfl rfl) rfl rfl ?_
        | refine xnil ?_
        | refine xthen ?_
        | refine xblock ?_
        | refine xval (qv_load ShpC.h rfl rfl rfl) rfl rfl ?_
        | refine xvalP (qv_fieldAddrB FldC.h rfl) rfl rfl ?_
        | refine xvalP (qv_fieldAddrE FldC.h rfl) rfl rfl ?_
        | refine xval (qv_loadB 0 ShpC.h rfl rfl rfl rfl) rfl rfl ?_
        | refine xval (qv_loadB 1 ShpC.h rfl rfl rfl rfl) rfl rfl ?_
        | refine xval (qv_loadB 2 ShpC.h rfl rfl rfl rfl) rfl rfl ?_
        | refine xval (qv_loadB 3 ShpC.h rfl rfl rfl rfl) rfl rfl ?_
        | refine xval (qv_loadB 4 ShpC.h rfl rfl rfl rfl) rfl rfl ?_
        | refine xvalP (pv_pick rfl rfl) rfl rfl ?_
        | refine xvalP (pv_len UndC.h rfl rfl) rfl rfl ?_
        | refine xvalP (pv_lenS UndC.h rfl) rfl rfl ?_
        | refine xvalP (pv_not rfl) rfl rfl ?_
        | refine xvalP (pv_nilCheck rfl) rfl rfl ?_
        | refine xvalP (pv_nilCheckE rfl) rfl rfl ?_
        | refine xvalP (pv_nilCheckF rfl) rfl rfl ?_
        | refine xvalP (pv_extract rfl rfl) rfl rfl ?_
        | refine xvalP (qv_field FldC.h rfl rfl) rfl rfl ?_
        | refine xvalP (pv_indexAddr UndC.h ShpC.h rfl rfl rfl (map_at (by assumption))) rfl rfl ?_
        | refine xvalP (pv_indexAddrB UndC.h ShpC.h rfl rfl (Int.toNat_of_nonneg (by decide)).symm (by decide)) rfl rfl ?_
        | refine xvalP (pv_indexAddrE UndC.h ShpC.h rfl rfl (Int.toNat_of_nonneg (by decide)).symm (by decide)) rfl rfl ?_
        | refine xvalP (pv_eqB UndC.h rfl rfl) rfl rfl ?_
        | refine xvalP (pv_neB UndC.h rfl rfl) rfl rfl ?_
        | refine xvalP (pv_convI UndC.h UndC.h rfl) rfl rfl ?_
        | refine xvalP (pv_buildC StrC.h rfl rfl) rfl rfl ?_
        | refine xalloc InfC.h rfl rfl fun _ => ?_
        | refine xbuildSliceC UndC.h InfC.h rfl rfl rfl rfl rfl rfl fun _ => ?_
        | refine xvalP (pv_makeFuncC rfl) rfl rfl ?_
        | refine xbox rfl rfl rfl rfl fun _ => ?_
        | refine xstore 0 ShpC.h rfl rfl rfl rfl rfl rfl rfl ?_
        | refine xstore 1 ShpC.h rfl rfl rfl rfl rfl rfl rfl ?_
        | refine xstore 2 ShpC.h rfl rfl rfl rfl rfl rfl rfl ?_
        | refine xstore 3 ShpC.h rfl rfl rfl rfl rfl rfl rfl ?_
        | refine xstore 4 ShpC.h rfl rfl rfl rfl rfl rfl rfl ?_
        | refine xskip rfl rfl ?_
        | refine xskip0 rfl ?_
        | refine xcondT rfl ?_
        | refine xcondF rfl ?_
        | refine xskipc ?_
        | refine xexit ?_
        | refine xretc ?_
        | refine xin_normal ?_
        | refine xin_ret ?_
        | refine xthen_exit ?_
        | refine xthen_ret ?_
        | refine xin_same rfl ?_
        | refine xin_other rfl ?_
      refine xagain ⟨k + 1, id, hk1, rfl, rfl⟩ (by omega) ⟨by (repeat (first | exact ImpT.nil _ | refine ImpT.cons rfl (by first | with_reducible exact Wk.refl _ | exact Wk.nil_own _ | exact Wk.nil_pl _ | with_reducible exact Wk.tok _ _ _ | exact Wk.eq (by first | rfl | (simp [hsn]; done) | (simp [hsn]; omega))) ?_)), (SubM.of (by repeat (first | exact SubB.nil _ | refine SubB.keep rfl rfl (by (repeat (first | exact WkL.nil | refine WkL.cons (by first | with_reducible exact Wk.refl _ | exact Wk.nil_own _ | exact Wk.nil_pl _ | with_reducible exact Wk.tok _ _ _ | exact Wk.eq (by first | rfl | (simp [hsn]; done) | (simp [hsn]; omega))) ?_))) ?_ | refine SubB.drop ?_)) (by repeat (first | exact SubT.nil _ | refine SubT.add ?_ | (refine SubT.keep ?_ ?_; focus (first | with_reducible rfl | (simp [hsn]; done))) | refine SubT.drop ?_)))⟩
  · have hke : k = hits.length := by simp at h1; omega
    rw [hke, List.take_length] at hb1 hb2
    have hb2' : (replGo text l hits).1.length ≤ 200000 := by omega
    simp only [hke, List.take_length]
    repeat
      first
      | refine xseq ?_
      | refine xregion ?_
      | refine xvalP (pv_move rfl) rfl rfl ?_
      | refine xvalP (pv_assign rfl) rfl rfl ?_
      | refine xvalP (pv_add1 rfl rfl (by omega)) rfl rfl ?_
      | refine xvalP (pv_sub1 rfl rfl (by omega)) rfl rfl ?_
      | refine xvalP (pv_bin2 rfl rfl rfl) rfl rfl ?_
      | refine xnil ?_
      | refine xthen ?_
      | refine xblock ?_
      | refine xval (qv_load ShpC.h rfl rfl rfl) rfl rfl ?_
      | refine xvalP (qv_fieldAddrB FldC.h rfl) rfl rfl ?_
      | refine xvalP (qv_fieldAddrE FldC.h rfl) rfl rfl ?_
      | refine xval (qv_loadB 0 ShpC.h rfl rfl rfl rfl) rfl rfl ?_
      | refine xval (qv_loadB 1 ShpC.h rfl rfl rfl rfl) rfl rfl ?_
      | refine xval (qv_loadB 2 ShpC.h rfl rfl rfl rfl) rfl rfl ?_
      | refine xval (qv_loadB 3 ShpC.h rfl rfl rfl rfl) rfl rfl ?_
      | refine xval (qv_loadB 4 ShpC.h rfl rfl rfl rfl) rfl rfl ?_
      | refine xvalP (pv_pick rfl rfl) rfl rfl ?_
      | refine xvalP (pv_len UndC.h rfl rfl) rfl rfl ?_
      | refine xvalP (pv_lenS UndC.h rfl) rfl rfl ?_
      | refine xvalP (pv_not rfl) rfl rfl ?_
      | refine xvalP (pv_nilCheck rfl) rfl rfl ?_
      | refine xvalP (pv_nilCheckE rfl) rfl rfl ?_
      | refine xvalP (pv_nilCheckF rfl) rfl rfl ?_
      | refine xvalP (pv_extract rfl rfl) rfl rfl ?_
      | refine xvalP (qv_field FldC.h rfl rfl) rfl rfl ?_
      | refine xvalP (pv_indexAddr UndC.h ShpC.h rfl rfl rfl (map_at (by assumption))) rfl rfl ?_
      | refine xvalP (pv_indexAddrB UndC.h ShpC.h rfl rfl (Int.toNat_of_nonneg (by decide)).symm (by decide)) rfl rfl ?_
      | refine xvalP (pv_indexAddrE UndC.h ShpC.h rfl rfl (Int.toNat_of_nonneg (by decide)).symm (by decide)) rfl rfl ?_
      | refine xvalP (pv_eqB UndC.h rfl rfl) rfl rfl ?_
      | refine xvalP (pv_neB UndC.h rfl rfl) rfl rfl ?_
      | refine xvalP (pv_convI UndC.h UndC.h rfl) rfl rfl ?_
      | refine xvalP (pv_buildC StrC.h rfl rfl) rfl rfl ?_
      | refine xalloc InfC.h rfl rfl fun _ => ?_
      | refine xbuildSliceC UndC.h InfC.h rfl rfl rfl rfl rfl rfl fun _ => ?_
      | refine xvalP (pv_makeFuncC rfl) rfl rfl ?_
      | refine xbox rfl rfl rfl rfl fun _ => ?_
      | refine xstore 0 ShpC.h rfl rfl rfl rfl rfl rfl rfl ?_
      | refine xstore 1 ShpC.h rfl rfl rfl rfl rfl rfl rfl ?_
      | refine xstore 2 ShpC.h rfl rfl rfl rfl rfl rfl rfl ?_
      | refine xstore 3 ShpC.h rfl rfl rfl rfl rfl rfl rfl ?_
      | refine xstore 4 ShpC.h rfl rfl rfl rfl rfl rfl rfl ?_
      | refine xskip rfl rfl ?_
      | refine xskip0 rfl ?_
      | refine xcondT rfl ?_
      | refine xcondF rfl ?_
      | refine xskipc ?_
      | refine xexit ?_
      | refine xretc ?_
      | refine xin_normal ?_
      | refine xin_ret ?_
      | refine xthen_exit ?_
      | refine xthen_ret ?_
      | refine xin_same rfl ?_
      | refine xin_other rfl ?_
    refine xvalP (pv_slice UndC.h ShpC.h rfl (.some_ rfl rfl) .none_ (by rw [List.length_map]; omega) (Nat.le_refl _)) rfl rfl ?_
    refine xappend UndC.h InfC.h rfl 0 rfl rfl (.refl _) rfl (by simp) rfl rfl ⟨by simp [maxLen]; omega, by simp; omega⟩ fun id2 => ?_
    repeat
      first
      | refine xseq ?_
      | refine xregion ?_
      | refine xvalP (pv_move rfl) rfl rfl ?_
      | refine xvalP (pv_assign rfl) rfl rfl ?_
      | refine xvalP (pv_add1 rfl rfl (by omega)) rfl rfl ?_
      | refine xvalP (pv_sub1 rfl rfl (by omega)) rfl rfl ?_
      | refine xvalP (pv_bin2 rfl rfl rfl) rfl rfl ?_
      | refine xnil ?_
      | refine xthen ?_
      | refine xblock ?_
      | refine xval (qv_load ShpC.h rfl rfl rfl) rfl rfl ?_
      | refine xvalP (qv_fieldAddrB FldC.h rfl) rfl rfl ?_
      | refine xvalP (qv_fieldAddrE FldC.h rfl) rfl rfl ?_
      | refine xval (qv_loadB 0 ShpC.h rfl rfl rfl rfl) rfl rfl ?_
      | refine xval (qv_loadB 1 ShpC.h rfl rfl rfl rfl) rfl rfl ?_
      | refine xval (qv_loadB 2 ShpC.h rfl rfl rfl rfl) rfl rfl ?_
      | refine xval (qv_loadB 3 ShpC.h rfl rfl rfl rfl) rfl rfl ?_
      | refine xval (qv_loadB 4 ShpC.h rfl rfl rfl rfl) rfl rfl ?_
      | refine xvalP (pv_pick rfl rfl) rfl rfl ?_
      | refine xvalP (pv_len UndC.h rfl rfl) rfl rfl ?_
      | refine xvalP (pv_lenS UndC.h rfl) rfl rfl ?_
      | refine xvalP (pv_not rfl) rfl rfl ?_
      | refine xvalP (pv_nilCheck rfl) rfl rfl ?_
      | refine xvalP (pv_nilCheckE rfl) rfl rfl ?_
      | refine xvalP (pv_nilCheckF rfl) rfl rfl ?_
      | refine xvalP (pv_extract rfl rfl) rfl rfl ?_
      | refine xvalP (qv_field FldC.h rfl rfl) rfl rfl ?_
      | refine xvalP (pv_indexAddr UndC.h ShpC.h rfl rfl rfl (map_at (by assumption))) rfl rfl ?_
      | refine xvalP (pv_indexAddrB UndC.h ShpC.h rfl rfl (Int.toNat_of_nonneg (by decide)).symm (by decide)) rfl rfl ?_
      | refine xvalP (pv_indexAddrE UndC.h ShpC.h rfl rfl (Int.toNat_of_nonneg (by decide)).symm (by decide)) rfl rfl ?_
      | refine xvalP (pv_eqB UndC.h rfl rfl) rfl rfl ?_
      | refine xvalP (pv_neB UndC.h rfl rfl) rfl rfl ?_
      | refine xvalP (pv_convI UndC.h UndC.h rfl) rfl rfl ?_
      | refine xvalP (pv_buildC StrC.h rfl rfl) rfl rfl ?_
      | refine xalloc InfC.h rfl rfl fun _ => ?_
      | refine xbuildSliceC UndC.h InfC.h rfl rfl rfl rfl rfl rfl fun _ => ?_
      | refine xvalP (pv_makeFuncC rfl) rfl rfl ?_
      | refine xbox rfl rfl rfl rfl fun _ => ?_
      | refine xstore 0 ShpC.h rfl rfl rfl rfl rfl rfl rfl ?_
      | refine xstore 1 ShpC.h rfl rfl rfl rfl rfl rfl rfl ?_
      | refine xstore 2 ShpC.h rfl rfl rfl rfl rfl rfl rfl ?_
      | refine xstore 3 ShpC.h rfl rfl rfl rfl rfl rfl rfl ?_
      | refine xstore 4 ShpC.h rfl rfl rfl rfl rfl rfl rfl ?_
      | refine xskip rfl rfl ?_
      | refine xskip0 rfl ?_
      | refine xcondT rfl ?_
      | refine xcondF rfl ?_
      | refine xskipc ?_
      | refine xexit ?_
      | refine xretc ?_
      | refine xin_normal ?_
      | refine xin_ret ?_
      | refine xthen_exit ?_
      | refine xthen_ret ?_
      | refine xin_same rfl ?_
      | refine xin_other rfl ?_
    exact xret1 hg rfl rfl (.eq rfl) (SubM.noBx _ _) ⟨id2, by rw [List.take_length, repl, List.map_append, List.map_drop], rfl, by simp [repl]⟩
end Go.Proofs.Ytcekiclbfjfagaa
