/- The walk of swap.Parse. -/
import Derived.Test.YtcekiclbfjfagaaParse
namespace Go.Proofs.Ytcekiclbfjfagaa

/-- What bytes write: parts, a place, an error's number. -/
def pGo (gs : Int) : Nat → List UInt8 → List PartT → List UInt8 → List PartT × Int × Int
  | _, [], out, text => (flushP out text, 0, 0)
  | k, [c], out, text => if c.toNat = 38 then (flushP out text ++ [(1, 0, [])], 0, 0) else if c.toNat = 92 then ([], k, 10) else (flushP out (text ++ [c]), 0, 0)
  | k, c :: d :: rest, out, text => if c.toNat = 38 then pGo gs (k + 1) (d :: rest) (flushP out text ++ [(1, 0, [])]) []
    else if c.toNat = 92 then (if 49 ≤ d.toNat ∧ d.toNat ≤ 57 then (if gs < (d.toNat : Int) - 48 then ([], k, 16) else pGo gs (k + 2) rest (flushP out text ++ [(1, (d.toNat : Int) - 48, [])]) [])
      else pGo gs (k + 2) rest out (text ++ [if d.toNat = 110 then 10 else d]))
    else pGo gs (k + 1) (d :: rest) out (text ++ [c])
theorem flush_nil (out : List PartT) : flushP out [] = out := if_pos rfl
theorem pGo_amp {gs : Int} {k : Nat} {c : UInt8} {l : List UInt8} {out : List PartT} {text : List UInt8} (h : c.toNat = 38) : pGo gs k (c :: l) out text = pGo gs (k + 1) l (flushP out text ++ [(1, 0, [])]) [] := by
  cases l with
  | nil => simp [pGo, h, flush_nil]
  | cons d r => simp [pGo, h]
theorem pGo_text {gs : Int} {k : Nat} {c : UInt8} {l : List UInt8} {out : List PartT} {text : List UInt8} (h : c.toNat ≠ 38) (h2 : c.toNat ≠ 92) : pGo gs k (c :: l) out text = pGo gs (k + 1) l out (text ++ [c]) := by
  cases l with
  | nil => simp [pGo, h, h2]
  | cons d r => simp [pGo, h, h2]
theorem flush_snoc (out : List PartT) (text : List UInt8) (c : UInt8) : (flushP out (text ++ [c])).length ≤ (flushP out text).length + 1 := by
  have h1 : flushP out (text ++ [c]) = out ++ [(0, 0, text ++ [c])] := if_neg (by simp)
  rw [h1]
  unfold flushP
  split <;> simp

def ParInv (gs : Int) (b : List UInt8) (res : List PartT × Int × Int) (bf bt bo : Nat) (σ : St) (m : Nat) : Prop := ∃ k out text tid oid, k ≤ b.length ∧ m = b.length - k ∧ (flushP out text).length ≤ k ∧ text.length ≤ k ∧ pGo gs k (b.drop k) out text = res ∧
  σ = ⟨[(11, .v (.int .i64 (k : Int))), (0, .sl 1 none (b.map eb)), (1, .v (.int .i64 gs)), (7, .v (.pointer (some ⟨bo, 0, none⟩))), (8, .v (.pointer (some ⟨bt, 0, none⟩))), (9, .v (.pointer (some ⟨bf, 0, none⟩))),
      (10, .v (.func (.func 23) #[] #[.pointer (some ⟨bf, 0, none⟩), .pointer (some ⟨bo, 0, none⟩)]))],
    [BFl bf bt bo, BTx bt tid text, BOu bo oid out], [TTx tid text.length, TOu oid out.length]⟩
/-- What Parse hands back. -/
abbrev RetP (res : List PartT × Int × Int) : Sd → List Bx → List Tk → Prop := fun r bx tk => ∃ id, r = .tup [.sl 3 (some id) (res.1.map encP), .v (.int .i64 res.2.1), .v (.int .i64 res.2.2)] ∧ bx = [] ∧ tk = [⟨id, 37, 3, res.1.length⟩]

set_option maxHeartbeats 2000000 in
theorem parse_any (gs : Int) (b : List UInt8) (hl : b.length ≤ 5000) : Con Try.prog 16 [.sl 1 none (b.map eb), .v (.int .i64 gs)] [] [] (RetP (pGo gs 0 b [] [])) := by
  refine xenter Try.func16 rfl rfl fun g hg => ?_
  simp only [Try.ntmps16, slots]
  repeat
    first
    | refine xseq ?_
    | first
      | refine xregion ?_
      | refine xvalP (pv_move rfl) rfl rfl ?_
      | refine xvalP (pv_assign rfl) rfl rfl ?_
      | refine xvalP (pv_add1 rfl rfl (by omega)) rfl rfl ?_
      | refine xvalP (pv_sub1 rfl rfl (by omega)) rfl rfl ?_
      | refine xvalP (pv_bin2 rfl rfl rfl) rfl rfl ?_
      | refine xnil ?_
      | refine xthen ?_
      | refine xblock ?_
      | refine xval (qv_load ShpC.h rfl rfl rfl) rfl rfl ?_
      | refine xvalP (qv_fieldAddrB FldC.h rfl) rfl rfl ?_
      | refine xvalP (qv_fieldAddrE FldC.h rfl) rfl rfl ?_
      | refine xval (qv_loadB 0 ShpC.h rfl rfl rfl rfl) rfl rfl ?_
      | refine xval (qv_loadB 1 ShpC.h rfl rfl rfl rfl) rfl rfl ?_
      | refine xval (qv_loadB 2 ShpC.h rfl rfl rfl rfl) rfl rfl ?_
      | refine xval (qv_loadB 3 ShpC.h rfl rfl rfl rfl) rfl rfl ?_
      | refine xval (qv_loadB 4 ShpC.h rfl rfl rfl rfl) rfl rfl ?_
      | refine xvalP (pv_pick rfl rfl) rfl rfl ?_
      | refine xvalP (pv_len UndC.h rfl rfl) rfl rfl ?_
      | refine xvalP (pv_lenS UndC.h rfl) rfl rfl ?_
      | refine xvalP (pv_lenRb UndC.h rfl) rfl rfl ?_
      | refine xvalP (pv_lenV UndC.h rfl) rfl rfl ?_
      | refine xvalP (pv_not rfl) rfl rfl ?_
      | refine xvalP (pv_nilCheck rfl) rfl rfl ?_
      | refine xvalP (pv_nilCheckE rfl) rfl rfl ?_
      | refine xvalP (pv_nilCheckF rfl) rfl rfl ?_
      | refine xvalP (pv_extract rfl rfl) rfl rfl ?_
      | refine xvalP (qv_field FldC.h rfl rfl) rfl rfl ?_
      | refine xvalP (pv_indexAddr UndC.h ShpC.h rfl rfl rfl (map_at (by assumption))) rfl rfl ?_
      | refine xvalP (pv_indexAddrB UndC.h ShpC.h rfl rfl (Int.toNat_of_nonneg (by decide)).symm (by decide)) rfl rfl ?_
      | refine xvalP (pv_indexAddrE UndC.h ShpC.h rfl rfl (Int.toNat_of_nonneg (by decide)).symm (by decide)) rfl rfl ?_
      | refine xvalP (pv_eqB UndC.h rfl rfl) rfl rfl ?_
      | refine xvalP (pv_neB UndC.h rfl rfl) rfl rfl ?_
      | refine xvalP (pv_convI UndC.h UndC.h rfl) rfl rfl ?_
      | refine xvalP (pv_buildC StrC.h rfl rfl) rfl rfl ?_
      | refine xalloc InfC.h rfl rfl fun _ => ?_
      | refine xbuildSliceC UndC.h InfC.h rfl rfl rfl rfl rfl rfl fun _ => ?_
      | refine xvalP (pv_makeFuncC rfl) rfl rfl ?_
      | refine xbox rfl rfl rfl rfl fun _ => ?_
      | refine xstore 0 ShpC.h rfl rfl rfl rfl rfl rfl rfl ?_
      | refine xstore 1 ShpC.h rfl rfl rfl rfl rfl rfl rfl ?_
      | refine xstore 2 ShpC.h rfl rfl rfl rfl rfl rfl rfl ?_
      | refine xstore 3 ShpC.h rfl rfl rfl rfl rfl rfl rfl ?_
      | refine xstore 4 ShpC.h rfl rfl rfl rfl rfl rfl rfl ?_
      | refine xskip rfl rfl ?_
      | refine xskip0 rfl ?_
      | refine xcondT rfl ?_
      | refine xcondF rfl ?_
      | refine xskipc ?_
      | refine xexit ?_
      | refine xretc ?_
      | refine xin_normal ?_
      | refine xin_ret ?_
      | refine xthen_exit ?_
      | refine xthen_ret ?_
      | refine xin_same rfl ?_
      | refine xin_other rfl ?_
  refine xloop (ParInv gs b (pGo gs 0 b [] []) _ _ _) ⟨0, [], [], none, none, Nat.zero_le _, rfl, Nat.le_refl _, Nat.le_refl _, rfl, rfl⟩ ⟨by (repeat (first | exact ImpT.nil _ | refine ImpT.cons rfl (by first | with_reducible exact Wk.refl _ | exact Wk.nil_own _ | exact Wk.nil_pl _ | with_reducible exact Wk.tok _ _ _ | exact Wk.tok _ _ _ | exact Wk.eq (by first | rfl | (simp []; done) | (simp []; omega))) ?_)), (SubM.of (by repeat (first | with_reducible exact SubB.refl _ | exact SubB.nil _ | refine SubB.keep rfl rfl (by first | with_reducible exact WkL.refl _ | ((repeat (first | exact WkL.nil | refine WkL.cons (by first | with_reducible exact Wk.refl _ | exact Wk.nil_own _ | exact Wk.nil_pl _ | with_reducible exact Wk.tok _ _ _ | exact Wk.tok _ _ _ | exact Wk.eq (by first | rfl | (simp []; done) | (simp []; omega))) ?_)); done) | exact WkL.refl _) ?_ | refine SubB.drop ?_)) (by repeat (first | exact SubT.nil _ | refine SubT.add ?_ | (refine SubT.keep ?_ ?_; focus (first | with_reducible rfl | (simp []; done))) | refine SubT.drop ?_)))⟩ ?_
  rintro _ m ⟨k, out, text, tid, oid, hk, rfl, hfl, htl, hres, rfl⟩
  have hol : out.length ≤ (flushP out text).length := by unfold flushP; split <;> simp
  repeat
    first
    | refine xseq ?_
    | first
      | refine xregion ?_
      | refine xvalP (pv_move rfl) rfl rfl ?_
      | refine xvalP (pv_assign rfl) rfl rfl ?_
      | refine xvalP (pv_add1 rfl rfl (by omega)) rfl rfl ?_
      | refine xvalP (pv_sub1 rfl rfl (by omega)) rfl rfl ?_
      | refine xvalP (pv_bin2 rfl rfl rfl) rfl rfl ?_
      | refine xnil ?_
      | refine xthen ?_
      | refine xblock ?_
      | refine xval (qv_load ShpC.h rfl rfl rfl) rfl rfl ?_
      | refine xvalP (qv_fieldAddrB FldC.h rfl) rfl rfl ?_
      | refine xvalP (qv_fieldAddrE FldC.h rfl) rfl rfl ?_
      | refine xval (qv_loadB 0 ShpC.h rfl rfl rfl rfl) rfl rfl ?_
      | refine xval (qv_loadB 1 ShpC.h rfl rfl rfl rfl) rfl rfl ?_
      | refine xval (qv_loadB 2 ShpC.h rfl rfl rfl rfl) rfl rfl ?_
      | refine xval (qv_loadB 3 ShpC.h rfl rfl rfl rfl) rfl rfl ?_
      | refine xval (qv_loadB 4 ShpC.h rfl rfl rfl rfl) rfl rfl ?_
      | refine xvalP (pv_pick rfl rfl) rfl rfl ?_
      | refine xvalP (pv_len UndC.h rfl rfl) rfl rfl ?_
      | refine xvalP (pv_lenS UndC.h rfl) rfl rfl ?_
      | refine xvalP (pv_lenRb UndC.h rfl) rfl rfl ?_
      | refine xvalP (pv_lenV UndC.h rfl) rfl rfl ?_
      | refine xvalP (pv_not rfl) rfl rfl ?_
      | refine xvalP (pv_nilCheck rfl) rfl rfl ?_
      | refine xvalP (pv_nilCheckE rfl) rfl rfl ?_
      | refine xvalP (pv_nilCheckF rfl) rfl rfl ?_
      | refine xvalP (pv_extract rfl rfl) rfl rfl ?_
      | refine xvalP (qv_field FldC.h rfl rfl) rfl rfl ?_
      | refine xvalP (pv_indexAddr UndC.h ShpC.h rfl rfl rfl (map_at (by assumption))) rfl rfl ?_
      | refine xvalP (pv_indexAddrB UndC.h ShpC.h rfl rfl (Int.toNat_of_nonneg (by decide)).symm (by decide)) rfl rfl ?_
      | refine xvalP (pv_indexAddrE UndC.h ShpC.h rfl rfl (Int.toNat_of_nonneg (by decide)).symm (by decide)) rfl rfl ?_
      | refine xvalP (pv_eqB UndC.h rfl rfl) rfl rfl ?_
      | refine xvalP (pv_neB UndC.h rfl rfl) rfl rfl ?_
      | refine xvalP (pv_convI UndC.h UndC.h rfl) rfl rfl ?_
      | refine xvalP (pv_buildC StrC.h rfl rfl) rfl rfl ?_
      | refine xalloc InfC.h rfl rfl fun _ => ?_
      | refine xbuildSliceC UndC.h InfC.h rfl rfl rfl rfl rfl rfl fun _ => ?_
      | refine xvalP (pv_makeFuncC rfl) rfl rfl ?_
      | refine xbox rfl rfl rfl rfl fun _ => ?_
      | refine xstore 0 ShpC.h rfl rfl rfl rfl rfl rfl rfl ?_
      | refine xstore 1 ShpC.h rfl rfl rfl rfl rfl rfl rfl ?_
      | refine xstore 2 ShpC.h rfl rfl rfl rfl rfl rfl rfl ?_
      | refine xstore 3 ShpC.h rfl rfl rfl rfl rfl rfl rfl ?_
      | refine xstore 4 ShpC.h rfl rfl rfl rfl rfl rfl rfl ?_
      | refine xskip rfl rfl ?_
      | refine xskip0 rfl ?_
      | refine xcondT rfl ?_
      | refine xcondF rfl ?_
      | refine xskipc ?_
      | refine xexit ?_
      | refine xretc ?_
      | refine xin_normal ?_
      | refine xin_ret ?_
      | refine xthen_exit ?_
      | refine xthen_ret ?_
      | refine xin_same rfl ?_
      | refine xin_other rfl ?_
  refine xcondD rfl (fun h1 => ?_) (fun h1 => ?_)
  · have hk1 : k < b.length := by simpa using h1
    obtain ⟨c, hc⟩ : ∃ c, b[k]? = some c := ⟨_, List.getElem?_eq_getElem hk1⟩
    have hd : b.drop k = c :: b.drop (k + 1) := by rw [List.drop_eq_getElem_cons hk1]; congr 1; exact (List.getElem?_eq_some_iff.1 hc).2
    rw [hd] at hres
    repeat
      first
      | refine xseq ?_
      | first
        | refine xregion ?_
        | refine xvalP (pv_move rfl) rfl rfl ?_
        | refine xvalP (pv_assign rfl) rfl rfl ?_
        | refine xvalP (pv_add1 rfl rfl (by omega)) rfl rfl ?_
        | refine xvalP (pv_sub1 rfl rfl (by omega)) rfl rfl ?_
        | refine xvalP (pv_bin2 rfl rfl rfl) rfl rfl ?_
        | refine xnil ?_
        | refine xthen ?_
        | refine xblock ?_
        | refine xval (qv_load ShpC.h rfl rfl rfl) rfl rfl ?_
        | refine xvalP (qv_fieldAddrB FldC.h rfl) rfl rfl ?_
        | refine xvalP (qv_fieldAddrE FldC.h rfl) rfl rfl ?_
        | refine xval (qv_loadB 0 ShpC.h rfl rfl rfl rfl) rfl rfl ?_
        | refine xval (qv_loadB 1 ShpC.h rfl rfl rfl rfl) rfl rfl ?_
        | refine xval (qv_loadB 2 ShpC.h rfl rfl rfl rfl) rfl rfl ?_
        | refine xval (qv_loadB 3 ShpC.h rfl rfl rfl rfl) rfl rfl ?_
        | refine xval (qv_loadB 4 ShpC.h rfl rfl rfl rfl) rfl rfl ?_
        | refine xvalP (pv_pick rfl rfl) rfl rfl ?_
        | refine xvalP (pv_len UndC.h rfl rfl) rfl rfl ?_
        | refine xvalP (pv_lenS UndC.h rfl) rfl rfl ?_
        | refine xvalP (pv_lenRb UndC.h rfl) rfl rfl ?_
        | refine xvalP (pv_lenV UndC.h rfl) rfl rfl ?_
        | refine xvalP (pv_not rfl) rfl rfl ?_
        | refine xvalP (pv_nilCheck rfl) rfl rfl ?_
        | refine xvalP (pv_nilCheckE rfl) rfl rfl ?_
        | refine xvalP (pv_nilCheckF rfl) rfl rfl ?_
        | refine xvalP (pv_extract rfl rfl) rfl rfl ?_
        | refine xvalP (qv_field FldC.h rfl rfl) rfl rfl ?_
        | refine xvalP (pv_indexAddr UndC.h ShpC.h rfl rfl rfl (map_at (by assumption))) rfl rfl ?_
        | refine xvalP (pv_indexAddrB UndC.h ShpC.h rfl rfl (Int.toNat_of_nonneg (by decide)).symm (by decide)) rfl rfl ?_
        | refine xvalP (pv_indexAddrE UndC.h ShpC.h rfl rfl (Int.toNat_of_nonneg (by decide)).symm (by decide)) rfl rfl ?_
        | refine xvalP (pv_eqB UndC.h rfl rfl) rfl rfl ?_
        | refine xvalP (pv_neB UndC.h rfl rfl) rfl rfl ?_
        | refine xvalP (pv_convI UndC.h UndC.h rfl) rfl rfl ?_
        | refine xvalP (pv_buildC StrC.h rfl rfl) rfl rfl ?_
        | refine xalloc InfC.h rfl rfl fun _ => ?_
        | refine xbuildSliceC UndC.h InfC.h rfl rfl rfl rfl rfl rfl fun _ => ?_
        | refine xvalP (pv_makeFuncC rfl) rfl rfl ?_
        | refine xbox rfl rfl rfl rfl fun _ => ?_
        | refine xstore 0 ShpC.h rfl rfl rfl rfl rfl rfl rfl ?_
        | refine xstore 1 ShpC.h rfl rfl rfl rfl rfl rfl rfl ?_
        | refine xstore 2 ShpC.h rfl rfl rfl rfl rfl rfl rfl ?_
        | refine xstore 3 ShpC.h rfl rfl rfl rfl rfl rfl rfl ?_
        | refine xstore 4 ShpC.h rfl rfl rfl rfl rfl rfl rfl ?_
        | refine xskip rfl rfl ?_
        | refine xskip0 rfl ?_
        | refine xcondT rfl ?_
        | refine xcondF rfl ?_
        | refine xskipc ?_
        | refine xexit ?_
        | refine xretc ?_
        | refine xin_normal ?_
        | refine xin_ret ?_
        | refine xthen_exit ?_
        | refine xthen_ret ?_
        | refine xin_same rfl ?_
        | refine xin_other rfl ?_
    refine xcondD rfl (fun h2 => ?_) (fun h2 => ?_)
    · rw [pGo_amp (by omega)] at hres
      repeat
        first
        | refine xseq ?_
        | first
          | refine xregion ?_
          | refine xvalP (pv_move rfl) rfl rfl ?_
          | refine xvalP (pv_assign rfl) rfl rfl ?_
          | refine xvalP (pv_add1 rfl rfl (by omega)) rfl rfl ?_
          | refine xvalP (pv_sub1 rfl rfl (by omega)) rfl rfl ?_
          | refine xvalP (pv_bin2 rfl rfl rfl) rfl rfl ?_
          | refine xnil ?_
          | refine xthen ?_
          | refine xblock ?_
          | refine xval (qv_load ShpC.h rfl rfl rfl) rfl rfl ?_
          | refine xvalP (qv_fieldAddrB FldC.h rfl) rfl rfl ?_
          | refine xvalP (qv_fieldAddrE FldC.h rfl) rfl rfl ?_
          | refine xval (qv_loadB 0 ShpC.h rfl rfl rfl rfl) rfl rfl ?_
          | refine xval (qv_loadB 1 ShpC.h rfl rfl rfl rfl) rfl rfl ?_
          | refine xval (qv_loadB 2 ShpC.h rfl rfl rfl rfl) rfl rfl ?_
          | refine xval (qv_loadB 3 ShpC.h rfl rfl rfl rfl) rfl rfl ?_
          | refine xval (qv_loadB 4 ShpC.h rfl rfl rfl rfl) rfl rfl ?_
          | refine xvalP (pv_pick rfl rfl) rfl rfl ?_
          | refine xvalP (pv_len UndC.h rfl rfl) rfl rfl ?_
          | refine xvalP (pv_lenS UndC.h rfl) rfl rfl ?_
          | refine xvalP (pv_lenRb UndC.h rfl) rfl rfl ?_
          | refine xvalP (pv_lenV UndC.h rfl) rfl rfl ?_
          | refine xvalP (pv_not rfl) rfl rfl ?_
          | refine xvalP (pv_nilCheck rfl) rfl rfl ?_
          | refine xvalP (pv_nilCheckE rfl) rfl rfl ?_
          | refine xvalP (pv_nilCheckF rfl) rfl rfl ?_
          | refine xvalP (pv_extract rfl rfl) rfl rfl ?_
          | refine xvalP (qv_field FldC.h rfl rfl) rfl rfl ?_
          | refine xvalP (pv_indexAddr UndC.h ShpC.h rfl rfl rfl (map_at (by assumption))) rfl rfl ?_
          | refine xvalP (pv_indexAddrB UndC.h ShpC.h rfl rfl (Int.toNat_of_nonneg (by decide)).symm (by decide)) rfl rfl ?_
          | refine xvalP (pv_indexAddrE UndC.h ShpC.h rfl rfl (Int.toNat_of_nonneg (by decide)).symm (by decide)) rfl rfl ?_
          | refine xvalP (pv_eqB UndC.h rfl rfl) rfl rfl ?_
          | refine xvalP (pv_neB UndC.h rfl rfl) rfl rfl ?_
          | refine xvalP (pv_convI UndC.h UndC.h rfl) rfl rfl ?_
          | refine xvalP (pv_buildC StrC.h rfl rfl) rfl rfl ?_
          | refine xalloc InfC.h rfl rfl fun _ => ?_
          | refine xbuildSliceC UndC.h InfC.h rfl rfl rfl rfl rfl rfl fun _ => ?_
          | refine xvalP (pv_makeFuncC rfl) rfl rfl ?_
          | refine xbox rfl rfl rfl rfl fun _ => ?_
          | refine xstore 0 ShpC.h rfl rfl rfl rfl rfl rfl rfl ?_
          | refine xstore 1 ShpC.h rfl rfl rfl rfl rfl rfl rfl ?_
          | refine xstore 2 ShpC.h rfl rfl rfl rfl rfl rfl rfl ?_
          | refine xstore 3 ShpC.h rfl rfl rfl rfl rfl rfl rfl ?_
          | refine xstore 4 ShpC.h rfl rfl rfl rfl rfl rfl rfl ?_
          | refine xskip rfl rfl ?_
          | refine xskip0 rfl ?_
          | refine xcondT rfl ?_
          | refine xcondF rfl ?_
          | refine xskipc ?_
          | refine xexit ?_
          | refine xretc ?_
          | refine xin_normal ?_
          | refine xin_ret ?_
          | refine xthen_exit ?_
          | refine xthen_ret ?_
          | refine xin_same rfl ?_
          | refine xin_other rfl ?_
      refine xcallV (group_any 0 _ _ _ tid oid text out (by omega)) (Fb := []) (Ft := []) Try.func23 (by kernel_rfl) rfl rfl (.cons rfl (.refl _) .nil) rfl (by exact SubM.refl _ _) rfl rfl ?_
      rintro _ _ _ ⟨tid2, oid2, rfl, rfl, rfl⟩
      repeat
        first
        | refine xseq ?_
        | first
          | refine xregion ?_
          | refine xvalP (pv_move rfl) rfl rfl ?_
          | refine xvalP (pv_assign rfl) rfl rfl ?_
          | refine xvalP (pv_add1 rfl rfl (by omega)) rfl rfl ?_
          | refine xvalP (pv_sub1 rfl rfl (by omega)) rfl rfl ?_
          | refine xvalP (pv_bin2 rfl rfl rfl) rfl rfl ?_
          | refine xnil ?_
          | refine xthen ?_
          | refine xblock ?_
          | refine xval (qv_load ShpC.h rfl rfl rfl) rfl rfl ?_
          | refine xvalP (qv_fieldAddrB FldC.h rfl) rfl rfl ?_
          | refine xvalP (qv_fieldAddrE FldC.h rfl) rfl rfl ?_
          | refine xval (qv_loadB 0 ShpC.h rfl rfl rfl rfl) rfl rfl ?_
          | refine xval (qv_loadB 1 ShpC.h rfl rfl rfl rfl) rfl rfl ?_
          | refine xval (qv_loadB 2 ShpC.h rfl rfl rfl rfl) rfl rfl ?_
          | refine xval (qv_loadB 3 ShpC.h rfl rfl rfl rfl) rfl rfl ?_
          | refine xval (qv_loadB 4 ShpC.h rfl rfl rfl rfl) rfl rfl ?_
          | refine xvalP (pv_pick rfl rfl) rfl rfl ?_
          | refine xvalP (pv_len UndC.h rfl rfl) rfl rfl ?_
          | refine xvalP (pv_lenS UndC.h rfl) rfl rfl ?_
          | refine xvalP (pv_lenRb UndC.h rfl) rfl rfl ?_
          | refine xvalP (pv_lenV UndC.h rfl) rfl rfl ?_
          | refine xvalP (pv_not rfl) rfl rfl ?_
          | refine xvalP (pv_nilCheck rfl) rfl rfl ?_
          | refine xvalP (pv_nilCheckE rfl) rfl rfl ?_
          | refine xvalP (pv_nilCheckF rfl) rfl rfl ?_
          | refine xvalP (pv_extract rfl rfl) rfl rfl ?_
          | refine xvalP (qv_field FldC.h rfl rfl) rfl rfl ?_
          | refine xvalP (pv_indexAddr UndC.h ShpC.h rfl rfl rfl (map_at (by assumption))) rfl rfl ?_
          | refine xvalP (pv_indexAddrB UndC.h ShpC.h rfl rfl (Int.toNat_of_nonneg (by decide)).symm (by decide)) rfl rfl ?_
          | refine xvalP (pv_indexAddrE UndC.h ShpC.h rfl rfl (Int.toNat_of_nonneg (by decide)).symm (by decide)) rfl rfl ?_
          | refine xvalP (pv_eqB UndC.h rfl rfl) rfl rfl ?_
          | refine xvalP (pv_neB UndC.h rfl rfl) rfl rfl ?_
          | refine xvalP (pv_convI UndC.h UndC.h rfl) rfl rfl ?_
          | refine xvalP (pv_buildC StrC.h rfl rfl) rfl rfl ?_
          | refine xalloc InfC.h rfl rfl fun _ => ?_
          | refine xbuildSliceC UndC.h InfC.h rfl rfl rfl rfl rfl rfl fun _ => ?_
          | refine xvalP (pv_makeFuncC rfl) rfl rfl ?_
          | refine xbox rfl rfl rfl rfl fun _ => ?_
          | refine xstore 0 ShpC.h rfl rfl rfl rfl rfl rfl rfl ?_
          | refine xstore 1 ShpC.h rfl rfl rfl rfl rfl rfl rfl ?_
          | refine xstore 2 ShpC.h rfl rfl rfl rfl rfl rfl rfl ?_
          | refine xstore 3 ShpC.h rfl rfl rfl rfl rfl rfl rfl ?_
          | refine xstore 4 ShpC.h rfl rfl rfl rfl rfl rfl rfl ?_
          | refine xskip rfl rfl ?_
          | refine xskip0 rfl ?_
          | refine xcondT rfl ?_
          | refine xcondF rfl ?_
          | refine xskipc ?_
          | refine xexit ?_
          | refine xretc ?_
          | refine xin_normal ?_
          | refine xin_ret ?_
          | refine xthen_exit ?_
          | refine xthen_ret ?_
          | refine xin_same rfl ?_
          | refine xin_other rfl ?_
      refine xagain ⟨k + 1, _, _, tid2, oid2, hk1, rfl, by rw [flush_nil]; simp; omega, by simp, hres, rfl⟩ (by omega) ⟨by (repeat (first | exact ImpT.nil _ | refine ImpT.cons rfl (by first | with_reducible exact Wk.refl _ | exact Wk.nil_own _ | exact Wk.nil_pl _ | with_reducible exact Wk.tok _ _ _ | exact Wk.tok _ _ _ | exact Wk.eq (by first | rfl | (simp []; done) | (simp []; omega))) ?_)), (SubM.of (by repeat (first | with_reducible exact SubB.refl _ | exact SubB.nil _ | refine SubB.keep rfl rfl (by first | with_reducible exact WkL.refl _ | ((repeat (first | exact WkL.nil | refine WkL.cons (by first | with_reducible exact Wk.refl _ | exact Wk.nil_own _ | exact Wk.nil_pl _ | with_reducible exact Wk.tok _ _ _ | exact Wk.tok _ _ _ | exact Wk.eq (by first | rfl | (simp []; done) | (simp []; omega))) ?_)); done) | exact WkL.refl _) ?_ | refine SubB.drop ?_)) (by repeat (first | exact SubT.nil _ | refine SubT.add ?_ | (refine SubT.keep ?_ ?_; focus (first | with_reducible rfl | (simp []; done))) | refine SubT.drop ?_)))⟩
    · repeat
        first
        | refine xseq ?_
        | first
          | refine xregion ?_
          | refine xvalP (pv_move rfl) rfl rfl ?_
          | refine xvalP (pv_assign rfl) rfl rfl ?_
          | refine xvalP (pv_add1 rfl rfl (by omega)) rfl rfl ?_
          | refine xvalP (pv_sub1 rfl rfl (by omega)) rfl rfl ?_
          | refine xvalP (pv_bin2 rfl rfl rfl) rfl rfl ?_
          | refine xnil ?_
          | refine xthen ?_
          | refine xblock ?_
          | refine xval (qv_load ShpC.h rfl rfl rfl) rfl rfl ?_
          | refine xvalP (qv_fieldAddrB FldC.h rfl) rfl rfl ?_
          | refine xvalP (qv_fieldAddrE FldC.h rfl) rfl rfl ?_
          | refine xval (qv_loadB 0 ShpC.h rfl rfl rfl rfl) rfl rfl ?_
          | refine xval (qv_loadB 1 ShpC.h rfl rfl rfl rfl) rfl rfl ?_
          | refine xval (qv_loadB 2 ShpC.h rfl rfl rfl rfl) rfl rfl ?_
          | refine xval (qv_loadB 3 ShpC.h rfl rfl rfl rfl) rfl rfl ?_
          | refine xval (qv_loadB 4 ShpC.h rfl rfl rfl rfl) rfl rfl ?_
          | refine xvalP (pv_pick rfl rfl) rfl rfl ?_
          | refine xvalP (pv_len UndC.h rfl rfl) rfl rfl ?_
          | refine xvalP (pv_lenS UndC.h rfl) rfl rfl ?_
          | refine xvalP (pv_lenRb UndC.h rfl) rfl rfl ?_
          | refine xvalP (pv_lenV UndC.h rfl) rfl rfl ?_
          | refine xvalP (pv_not rfl) rfl rfl ?_
          | refine xvalP (pv_nilCheck rfl) rfl rfl ?_
          | refine xvalP (pv_nilCheckE rfl) rfl rfl ?_
          | refine xvalP (pv_nilCheckF rfl) rfl rfl ?_
          | refine xvalP (pv_extract rfl rfl) rfl rfl ?_
          | refine xvalP (qv_field FldC.h rfl rfl) rfl rfl ?_
          | refine xvalP (pv_indexAddr UndC.h ShpC.h rfl rfl rfl (map_at (by assumption))) rfl rfl ?_
          | refine xvalP (pv_indexAddrB UndC.h ShpC.h rfl rfl (Int.toNat_of_nonneg (by decide)).symm (by decide)) rfl rfl ?_
          | refine xvalP (pv_indexAddrE UndC.h ShpC.h rfl rfl (Int.toNat_of_nonneg (by decide)).symm (by decide)) rfl rfl ?_
          | refine xvalP (pv_eqB UndC.h rfl rfl) rfl rfl ?_
          | refine xvalP (pv_neB UndC.h rfl rfl) rfl rfl ?_
          | refine xvalP (pv_convI UndC.h UndC.h rfl) rfl rfl ?_
          | refine xvalP (pv_buildC StrC.h rfl rfl) rfl rfl ?_
          | refine xalloc InfC.h rfl rfl fun _ => ?_
          | refine xbuildSliceC UndC.h InfC.h rfl rfl rfl rfl rfl rfl fun _ => ?_
          | refine xvalP (pv_makeFuncC rfl) rfl rfl ?_
          | refine xbox rfl rfl rfl rfl fun _ => ?_
          | refine xstore 0 ShpC.h rfl rfl rfl rfl rfl rfl rfl ?_
          | refine xstore 1 ShpC.h rfl rfl rfl rfl rfl rfl rfl ?_
          | refine xstore 2 ShpC.h rfl rfl rfl rfl rfl rfl rfl ?_
          | refine xstore 3 ShpC.h rfl rfl rfl rfl rfl rfl rfl ?_
          | refine xstore 4 ShpC.h rfl rfl rfl rfl rfl rfl rfl ?_
          | refine xskip rfl rfl ?_
          | refine xskip0 rfl ?_
          | refine xcondT rfl ?_
          | refine xcondF rfl ?_
          | refine xskipc ?_
          | refine xexit ?_
          | refine xretc ?_
          | refine xin_normal ?_
          | refine xin_ret ?_
          | refine xthen_exit ?_
          | refine xthen_ret ?_
          | refine xin_same rfl ?_
          | refine xin_other rfl ?_
      refine xcondN rfl (fun h3 => ?_) (fun h3 => ?_)
      · rw [pGo_text (by omega) (by omega)] at hres
        have hfs := flush_snoc out text c
        repeat
          first
          | refine xseq ?_
          | first
            | refine xregion ?_
            | refine xvalP (pv_move rfl) rfl rfl ?_
            | refine xvalP (pv_assign rfl) rfl rfl ?_
            | refine xvalP (pv_add1 rfl rfl (by omega)) rfl rfl ?_
            | refine xvalP (pv_sub1 rfl rfl (by omega)) rfl rfl ?_
            | refine xvalP (pv_bin2 rfl rfl rfl) rfl rfl ?_
            | refine xnil ?_
            | refine xthen ?_
            | refine xblock ?_
            | refine xval (qv_load ShpC.h rfl rfl rfl) rfl rfl ?_
            | refine xvalP (qv_fieldAddrB FldC.h rfl) rfl rfl ?_
            | refine xvalP (qv_fieldAddrE FldC.h rfl) rfl rfl ?_
            | refine xval (qv_loadB 0 ShpC.h rfl rfl rfl rfl) rfl rfl ?_
            | refine xval (qv_loadB 1 ShpC.h rfl rfl rfl rfl) rfl rfl ?_
            | refine xval (qv_loadB 2 ShpC.h rfl rfl rfl rfl) rfl rfl ?_
            | refine xval (qv_loadB 3 ShpC.h rfl rfl rfl rfl) rfl rfl ?_
            | refine xval (qv_loadB 4 ShpC.h rfl rfl rfl rfl) rfl rfl ?_
            | refine xvalP (pv_pick rfl rfl) rfl rfl ?_
            | refine xvalP (pv_len UndC.h rfl rfl) rfl rfl ?_
            | refine xvalP (pv_lenS UndC.h rfl) rfl rfl ?_
            | refine xvalP (pv_lenRb UndC.h rfl) rfl rfl ?_
            | refine xvalP (pv_lenV UndC.h rfl) rfl rfl ?_
            | refine xvalP (pv_not rfl) rfl rfl ?_
            | refine xvalP (pv_nilCheck rfl) rfl rfl ?_
            | refine xvalP (pv_nilCheckE rfl) rfl rfl ?_
            | refine xvalP (pv_nilCheckF rfl) rfl rfl ?_
            | refine xvalP (pv_extract rfl rfl) rfl rfl ?_
            | refine xvalP (qv_field FldC.h rfl rfl) rfl rfl ?_
            | refine xvalP (pv_indexAddr UndC.h ShpC.h rfl rfl rfl (map_at (by assumption))) rfl rfl ?_
            | refine xvalP (pv_indexAddrB UndC.h ShpC.h rfl rfl (Int.toNat_of_nonneg (by decide)).symm (by decide)) rfl rfl ?_
            | refine xvalP (pv_indexAddrE UndC.h ShpC.h rfl rfl (Int.toNat_of_nonneg (by decide)).symm (by decide)) rfl rfl ?_
            | refine xvalP (pv_eqB UndC.h rfl rfl) rfl rfl ?_
            | refine xvalP (pv_neB UndC.h rfl rfl) rfl rfl ?_
            | refine xvalP (pv_convI UndC.h UndC.h rfl) rfl rfl ?_
            | refine xvalP (pv_buildC StrC.h rfl rfl) rfl rfl ?_
            | refine xalloc InfC.h rfl rfl fun _ => ?_
            | refine xbuildSliceC UndC.h InfC.h rfl rfl rfl rfl rfl rfl fun _ => ?_
            | refine xvalP (pv_makeFuncC rfl) rfl rfl ?_
            | refine xbox rfl rfl rfl rfl fun _ => ?_
            | refine xstore 0 ShpC.h rfl rfl rfl rfl rfl rfl rfl ?_
            | refine xstore 1 ShpC.h rfl rfl rfl rfl rfl rfl rfl ?_
            | refine xstore 2 ShpC.h rfl rfl rfl rfl rfl rfl rfl ?_
            | refine xstore 3 ShpC.h rfl rfl rfl rfl rfl rfl rfl ?_
            | refine xstore 4 ShpC.h rfl rfl rfl rfl rfl rfl rfl ?_
            | refine xskip rfl rfl ?_
            | refine xskip0 rfl ?_
            | refine xcondT rfl ?_
            | refine xcondF rfl ?_
            | refine xskipc ?_
            | refine xexit ?_
            | refine xretc ?_
            | refine xin_normal ?_
            | refine xin_ret ?_
            | refine xthen_exit ?_
            | refine xthen_ret ?_
            | refine xin_same rfl ?_
            | refine xin_other rfl ?_
        refine xappend UndC.h InfC.h rfl 1 rfl rfl (.refl _) rfl (by simp) rfl rfl ⟨by simp [maxLen]; omega, by simp; omega⟩ fun id2 => ?_
        repeat
          first
          | refine xseq ?_
          | first
            | refine xregion ?_
            | refine xvalP (pv_move rfl) rfl rfl ?_
            | refine xvalP (pv_assign rfl) rfl rfl ?_
            | refine xvalP (pv_add1 rfl rfl (by omega)) rfl rfl ?_
            | refine xvalP (pv_sub1 rfl rfl (by omega)) rfl rfl ?_
            | refine xvalP (pv_bin2 rfl rfl rfl) rfl rfl ?_
            | refine xnil ?_
            | refine xthen ?_
            | refine xblock ?_
            | refine xval (qv_load ShpC.h rfl rfl rfl) rfl rfl ?_
            | refine xvalP (qv_fieldAddrB FldC.h rfl) rfl rfl ?_
            | refine xvalP (qv_fieldAddrE FldC.h rfl) rfl rfl ?_
            | refine xval (qv_loadB 0 ShpC.h rfl rfl rfl rfl) rfl rfl ?_
            | refine xval (qv_loadB 1 ShpC.h rfl rfl rfl rfl) rfl rfl ?_
            | refine xval (qv_loadB 2 ShpC.h rfl rfl rfl rfl) rfl rfl ?_
            | refine xval (qv_loadB 3 ShpC.h rfl rfl rfl rfl) rfl rfl ?_
            | refine xval (qv_loadB 4 ShpC.h rfl rfl rfl rfl) rfl rfl ?_
            | refine xvalP (pv_pick rfl rfl) rfl rfl ?_
            | refine xvalP (pv_len UndC.h rfl rfl) rfl rfl ?_
            | refine xvalP (pv_lenS UndC.h rfl) rfl rfl ?_
            | refine xvalP (pv_lenRb UndC.h rfl) rfl rfl ?_
            | refine xvalP (pv_lenV UndC.h rfl) rfl rfl ?_
            | refine xvalP (pv_not rfl) rfl rfl ?_
            | refine xvalP (pv_nilCheck rfl) rfl rfl ?_
            | refine xvalP (pv_nilCheckE rfl) rfl rfl ?_
            | refine xvalP (pv_nilCheckF rfl) rfl rfl ?_
            | refine xvalP (pv_extract rfl rfl) rfl rfl ?_
            | refine xvalP (qv_field FldC.h rfl rfl) rfl rfl ?_
            | refine xvalP (pv_indexAddr UndC.h ShpC.h rfl rfl rfl (map_at (by assumption))) rfl rfl ?_
            | refine xvalP (pv_indexAddrB UndC.h ShpC.h rfl rfl (Int.toNat_of_nonneg (by decide)).symm (by decide)) rfl rfl ?_
            | refine xvalP (pv_indexAddrE UndC.h ShpC.h rfl rfl (Int.toNat_of_nonneg (by decide)).symm (by decide)) rfl rfl ?_
            | refine xvalP (pv_eqB UndC.h rfl rfl) rfl rfl ?_
            | refine xvalP (pv_neB UndC.h rfl rfl) rfl rfl ?_
            | refine xvalP (pv_convI UndC.h UndC.h rfl) rfl rfl ?_
            | refine xvalP (pv_buildC StrC.h rfl rfl) rfl rfl ?_
            | refine xalloc InfC.h rfl rfl fun _ => ?_
            | refine xbuildSliceC UndC.h InfC.h rfl rfl rfl rfl rfl rfl fun _ => ?_
            | refine xvalP (pv_makeFuncC rfl) rfl rfl ?_
            | refine xbox rfl rfl rfl rfl fun _ => ?_
            | refine xstore 0 ShpC.h rfl rfl rfl rfl rfl rfl rfl ?_
            | refine xstore 1 ShpC.h rfl rfl rfl rfl rfl rfl rfl ?_
            | refine xstore 2 ShpC.h rfl rfl rfl rfl rfl rfl rfl ?_
            | refine xstore 3 ShpC.h rfl rfl rfl rfl rfl rfl rfl ?_
            | refine xstore 4 ShpC.h rfl rfl rfl rfl rfl rfl rfl ?_
            | refine xskip rfl rfl ?_
            | refine xskip0 rfl ?_
            | refine xcondT rfl ?_
            | refine xcondF rfl ?_
            | refine xskipc ?_
            | refine xexit ?_
            | refine xretc ?_
            | refine xin_normal ?_
            | refine xin_ret ?_
            | refine xthen_exit ?_
            | refine xthen_ret ?_
            | refine xin_same rfl ?_
            | refine xin_other rfl ?_
        refine xagain ⟨k + 1, out, text ++ [c], id2, oid, hk1, rfl, by omega, by simp; omega, hres, rfl⟩ (by omega) ⟨by (repeat (first | exact ImpT.nil _ | refine ImpT.cons rfl (by first | with_reducible exact Wk.refl _ | exact Wk.nil_own _ | exact Wk.nil_pl _ | with_reducible exact Wk.tok _ _ _ | exact Wk.tok _ _ _ | exact Wk.eq (by first | rfl | (simp [eb, cellsS]; done) | (simp [eb, cellsS]; omega))) ?_)), (SubM.of (by repeat (first | with_reducible exact SubB.refl _ | exact SubB.nil _ | refine SubB.keep rfl rfl (by first | with_reducible exact WkL.refl _ | ((repeat (first | exact WkL.nil | refine WkL.cons (by first | with_reducible exact Wk.refl _ | exact Wk.nil_own _ | exact Wk.nil_pl _ | with_reducible exact Wk.tok _ _ _ | exact Wk.tok _ _ _ | exact Wk.eq (by first | rfl | (simp [eb, cellsS]; done) | (simp [eb, cellsS]; omega))) ?_)); done) | exact WkL.refl _) ?_ | refine SubB.drop ?_)) (by repeat (first | exact SubT.nil _ | refine SubT.add ?_ | (refine SubT.keep ?_ ?_; focus (first | with_reducible rfl | (simp [eb, cellsS]; done))) | refine SubT.drop ?_)))⟩
      · repeat
          first
          | refine xseq ?_
          | first
            | refine xregion ?_
            | refine xvalP (pv_move rfl) rfl rfl ?_
            | refine xvalP (pv_assign rfl) rfl rfl ?_
            | refine xvalP (pv_add1 rfl rfl (by omega)) rfl rfl ?_
            | refine xvalP (pv_sub1 rfl rfl (by omega)) rfl rfl ?_
            | refine xvalP (pv_bin2 rfl rfl rfl) rfl rfl ?_
            | refine xnil ?_
            | refine xthen ?_
            | refine xblock ?_
            | refine xval (qv_load ShpC.h rfl rfl rfl) rfl rfl ?_
            | refine xvalP (qv_fieldAddrB FldC.h rfl) rfl rfl ?_
            | refine xvalP (qv_fieldAddrE FldC.h rfl) rfl rfl ?_
            | refine xval (qv_loadB 0 ShpC.h rfl rfl rfl rfl) rfl rfl ?_
            | refine xval (qv_loadB 1 ShpC.h rfl rfl rfl rfl) rfl rfl ?_
            | refine xval (qv_loadB 2 ShpC.h rfl rfl rfl rfl) rfl rfl ?_
            | refine xval (qv_loadB 3 ShpC.h rfl rfl rfl rfl) rfl rfl ?_
            | refine xval (qv_loadB 4 ShpC.h rfl rfl rfl rfl) rfl rfl ?_
            | refine xvalP (pv_pick rfl rfl) rfl rfl ?_
            | refine xvalP (pv_len UndC.h rfl rfl) rfl rfl ?_
            | refine xvalP (pv_lenS UndC.h rfl) rfl rfl ?_
            | refine xvalP (pv_lenRb UndC.h rfl) rfl rfl ?_
            | refine xvalP (pv_lenV UndC.h rfl) rfl rfl ?_
            | refine xvalP (pv_not rfl) rfl rfl ?_
            | refine xvalP (pv_nilCheck rfl) rfl rfl ?_
            | refine xvalP (pv_nilCheckE rfl) rfl rfl ?_
            | refine xvalP (pv_nilCheckF rfl) rfl rfl ?_
            | refine xvalP (pv_extract rfl rfl) rfl rfl ?_
            | refine xvalP (qv_field FldC.h rfl rfl) rfl rfl ?_
            | refine xvalP (pv_indexAddr UndC.h ShpC.h rfl rfl rfl (map_at (by assumption))) rfl rfl ?_
            | refine xvalP (pv_indexAddrB UndC.h ShpC.h rfl rfl (Int.toNat_of_nonneg (by decide)).symm (by decide)) rfl rfl ?_
            | refine xvalP (pv_indexAddrE UndC.h ShpC.h rfl rfl (Int.toNat_of_nonneg (by decide)).symm (by decide)) rfl rfl ?_
            | refine xvalP (pv_eqB UndC.h rfl rfl) rfl rfl ?_
            | refine xvalP (pv_neB UndC.h rfl rfl) rfl rfl ?_
            | refine xvalP (pv_convI UndC.h UndC.h rfl) rfl rfl ?_
            | refine xvalP (pv_buildC StrC.h rfl rfl) rfl rfl ?_
            | refine xalloc InfC.h rfl rfl fun _ => ?_
            | refine xbuildSliceC UndC.h InfC.h rfl rfl rfl rfl rfl rfl fun _ => ?_
            | refine xvalP (pv_makeFuncC rfl) rfl rfl ?_
            | refine xbox rfl rfl rfl rfl fun _ => ?_
            | refine xstore 0 ShpC.h rfl rfl rfl rfl rfl rfl rfl ?_
            | refine xstore 1 ShpC.h rfl rfl rfl rfl rfl rfl rfl ?_
            | refine xstore 2 ShpC.h rfl rfl rfl rfl rfl rfl rfl ?_
            | refine xstore 3 ShpC.h rfl rfl rfl rfl rfl rfl rfl ?_
            | refine xstore 4 ShpC.h rfl rfl rfl rfl rfl rfl rfl ?_
            | refine xskip rfl rfl ?_
            | refine xskip0 rfl ?_
            | refine xcondT rfl ?_
            | refine xcondF rfl ?_
            | refine xskipc ?_
            | refine xexit ?_
            | refine xretc ?_
            | refine xin_normal ?_
            | refine xin_ret ?_
            | refine xthen_exit ?_
            | refine xthen_ret ?_
            | refine xin_same rfl ?_
            | refine xin_other rfl ?_
        refine xcondD rfl (fun h4 => ?_) (fun h4 => ?_)
        · have hlen : b.drop (k + 1) = [] := List.drop_eq_nil_of_le (by simp at h4; omega)
          rw [hlen] at hres
          have hr2 : pGo gs 0 b [] [] = ([], (k : Int), 10) := by rw [← hres]; simp [pGo, show c.toNat ≠ 38 by omega, show c.toNat = 92 by omega]
          repeat
            first
            | refine xseq ?_
            | first
              | refine xregion ?_
              | refine xvalP (pv_move rfl) rfl rfl ?_
              | refine xvalP (pv_assign rfl) rfl rfl ?_
              | refine xvalP (pv_add1 rfl rfl (by omega)) rfl rfl ?_
              | refine xvalP (pv_sub1 rfl rfl (by omega)) rfl rfl ?_
              | refine xvalP (pv_bin2 rfl rfl rfl) rfl rfl ?_
              | refine xnil ?_
              | refine xthen ?_
              | refine xblock ?_
              | refine xval (qv_load ShpC.h rfl rfl rfl) rfl rfl ?_
              | refine xvalP (qv_fieldAddrB FldC.h rfl) rfl rfl ?_
              | refine xvalP (qv_fieldAddrE FldC.h rfl) rfl rfl ?_
              | refine xval (qv_loadB 0 ShpC.h rfl rfl rfl rfl) rfl rfl ?_
              | refine xval (qv_loadB 1 ShpC.h rfl rfl rfl rfl) rfl rfl ?_
              | refine xval (qv_loadB 2 ShpC.h rfl rfl rfl rfl) rfl rfl ?_
              | refine xval (qv_loadB 3 ShpC.h rfl rfl rfl rfl) rfl rfl ?_
              | refine xval (qv_loadB 4 ShpC.h rfl rfl rfl rfl) rfl rfl ?_
              | refine xvalP (pv_pick rfl rfl) rfl rfl ?_
              | refine xvalP (pv_len UndC.h rfl rfl) rfl rfl ?_
              | refine xvalP (pv_lenS UndC.h rfl) rfl rfl ?_
              | refine xvalP (pv_lenRb UndC.h rfl) rfl rfl ?_
              | refine xvalP (pv_lenV UndC.h rfl) rfl rfl ?_
              | refine xvalP (pv_not rfl) rfl rfl ?_
              | refine xvalP (pv_nilCheck rfl) rfl rfl ?_
              | refine xvalP (pv_nilCheckE rfl) rfl rfl ?_
              | refine xvalP (pv_nilCheckF rfl) rfl rfl ?_
              | refine xvalP (pv_extract rfl rfl) rfl rfl ?_
              | refine xvalP (qv_field FldC.h rfl rfl) rfl rfl ?_
              | refine xvalP (pv_indexAddr UndC.h ShpC.h rfl rfl rfl (map_at (by assumption))) rfl rfl ?_
              | refine xvalP (pv_indexAddrB UndC.h ShpC.h rfl rfl (Int.toNat_of_nonneg (by decide)).symm (by decide)) rfl rfl ?_
              | refine xvalP (pv_indexAddrE UndC.h ShpC.h rfl rfl (Int.toNat_of_nonneg (by decide)).symm (by decide)) rfl rfl ?_
              | refine xvalP (pv_eqB UndC.h rfl rfl) rfl rfl ?_
              | refine xvalP (pv_neB UndC.h rfl rfl) rfl rfl ?_
              | refine xvalP (pv_convI UndC.h UndC.h rfl) rfl rfl ?_
              | refine xvalP (pv_buildC StrC.h rfl rfl) rfl rfl ?_
              | refine xalloc InfC.h rfl rfl fun _ => ?_
              | refine xbuildSliceC UndC.h InfC.h rfl rfl rfl rfl rfl rfl fun _ => ?_
              | refine xvalP (pv_makeFuncC rfl) rfl rfl ?_
              | refine xbox rfl rfl rfl rfl fun _ => ?_
              | refine xstore 0 ShpC.h rfl rfl rfl rfl rfl rfl rfl ?_
              | refine xstore 1 ShpC.h rfl rfl rfl rfl rfl rfl rfl ?_
              | refine xstore 2 ShpC.h rfl rfl rfl rfl rfl rfl rfl ?_
              | refine xstore 3 ShpC.h rfl rfl rfl rfl rfl rfl rfl ?_
              | refine xstore 4 ShpC.h rfl rfl rfl rfl rfl rfl rfl ?_
              | refine xskip rfl rfl ?_
              | refine xskip0 rfl ?_
              | refine xcondT rfl ?_
              | refine xcondF rfl ?_
              | refine xskipc ?_
              | refine xexit ?_
              | refine xretc ?_
              | refine xin_normal ?_
              | refine xin_ret ?_
              | refine xthen_exit ?_
              | refine xthen_ret ?_
              | refine xin_same rfl ?_
              | refine xin_other rfl ?_
          exact xret3 hg rfl rfl (.nil_own 3) rfl (.refl _) rfl (.eq rfl) (bx' := []) (tk' := [⟨none, 37, 3, 0⟩]) (SubM.of (by repeat (first | with_reducible exact SubB.refl _ | exact SubB.nil _ | refine SubB.keep rfl rfl (by first | with_reducible exact WkL.refl _ | ((repeat (first | exact WkL.nil | refine WkL.cons (by first | with_reducible exact Wk.refl _ | exact Wk.nil_own _ | exact Wk.nil_pl _ | with_reducible exact Wk.tok _ _ _ | exact Wk.tok _ _ _ | exact Wk.eq (by first | rfl | (simp []; done) | (simp []; omega))) ?_)); done) | exact WkL.refl _) ?_ | refine SubB.drop ?_)) (by repeat (first | exact SubT.nil _ | refine SubT.add ?_ | (refine SubT.keep ?_ ?_; focus (first | with_reducible rfl | (simp []; done))) | refine SubT.drop ?_))) ⟨none, by rw [hr2]; rfl, rfl, by rw [hr2]; rfl⟩
        · have hk2 : k + 1 < b.length := by simp at h4; omega
          obtain ⟨d, hdd⟩ : ∃ d, b[k + 1]? = some d := ⟨_, List.getElem?_eq_getElem hk2⟩
          have hd2 : b.drop (k + 1) = d :: b.drop (k + 2) := by rw [List.drop_eq_getElem_cons hk2]; congr 1; exact (List.getElem?_eq_some_iff.1 hdd).2
          rw [hd2] at hres
          have hne : c.toNat ≠ 38 := by omega
          have he : c.toNat = 92 := by omega
          simp only [pGo, if_neg hne, if_pos he] at hres
          repeat
            first
            | refine xseq ?_
            | first
              | refine xregion ?_
              | refine xvalP (pv_move rfl) rfl rfl ?_
              | refine xvalP (pv_assign rfl) rfl rfl ?_
              | refine xvalP (pv_add1 rfl rfl (by omega)) rfl rfl ?_
              | refine xvalP (pv_sub1 rfl rfl (by omega)) rfl rfl ?_
              | refine xvalP (pv_bin2 rfl rfl rfl) rfl rfl ?_
              | refine xnil ?_
              | refine xthen ?_
              | refine xblock ?_
              | refine xval (qv_load ShpC.h rfl rfl rfl) rfl rfl ?_
              | refine xvalP (qv_fieldAddrB FldC.h rfl) rfl rfl ?_
              | refine xvalP (qv_fieldAddrE FldC.h rfl) rfl rfl ?_
              | refine xval (qv_loadB 0 ShpC.h rfl rfl rfl rfl) rfl rfl ?_
              | refine xval (qv_loadB 1 ShpC.h rfl rfl rfl rfl) rfl rfl ?_
              | refine xval (qv_loadB 2 ShpC.h rfl rfl rfl rfl) rfl rfl ?_
              | refine xval (qv_loadB 3 ShpC.h rfl rfl rfl rfl) rfl rfl ?_
              | refine xval (qv_loadB 4 ShpC.h rfl rfl rfl rfl) rfl rfl ?_
              | refine xvalP (pv_pick rfl rfl) rfl rfl ?_
              | refine xvalP (pv_len UndC.h rfl rfl) rfl rfl ?_
              | refine xvalP (pv_lenS UndC.h rfl) rfl rfl ?_
              | refine xvalP (pv_lenRb UndC.h rfl) rfl rfl ?_
              | refine xvalP (pv_lenV UndC.h rfl) rfl rfl ?_
              | refine xvalP (pv_not rfl) rfl rfl ?_
              | refine xvalP (pv_nilCheck rfl) rfl rfl ?_
              | refine xvalP (pv_nilCheckE rfl) rfl rfl ?_
              | refine xvalP (pv_nilCheckF rfl) rfl rfl ?_
              | refine xvalP (pv_extract rfl rfl) rfl rfl ?_
              | refine xvalP (qv_field FldC.h rfl rfl) rfl rfl ?_
              | refine xvalP (pv_indexAddr UndC.h ShpC.h rfl rfl rfl (map_at (by assumption))) rfl rfl ?_
              | refine xvalP (pv_indexAddrB UndC.h ShpC.h rfl rfl (Int.toNat_of_nonneg (by decide)).symm (by decide)) rfl rfl ?_
              | refine xvalP (pv_indexAddrE UndC.h ShpC.h rfl rfl (Int.toNat_of_nonneg (by decide)).symm (by decide)) rfl rfl ?_
              | refine xvalP (pv_eqB UndC.h rfl rfl) rfl rfl ?_
              | refine xvalP (pv_neB UndC.h rfl rfl) rfl rfl ?_
              | refine xvalP (pv_convI UndC.h UndC.h rfl) rfl rfl ?_
              | refine xvalP (pv_buildC StrC.h rfl rfl) rfl rfl ?_
              | refine xalloc InfC.h rfl rfl fun _ => ?_
              | refine xbuildSliceC UndC.h InfC.h rfl rfl rfl rfl rfl rfl fun _ => ?_
              | refine xvalP (pv_makeFuncC rfl) rfl rfl ?_
              | refine xbox rfl rfl rfl rfl fun _ => ?_
              | refine xstore 0 ShpC.h rfl rfl rfl rfl rfl rfl rfl ?_
              | refine xstore 1 ShpC.h rfl rfl rfl rfl rfl rfl rfl ?_
              | refine xstore 2 ShpC.h rfl rfl rfl rfl rfl rfl rfl ?_
              | refine xstore 3 ShpC.h rfl rfl rfl rfl rfl rfl rfl ?_
              | refine xstore 4 ShpC.h rfl rfl rfl rfl rfl rfl rfl ?_
              | refine xskip rfl rfl ?_
              | refine xskip0 rfl ?_
              | refine xcondT rfl ?_
              | refine xcondF rfl ?_
              | refine xskipc ?_
              | refine xexit ?_
              | refine xretc ?_
              | refine xin_normal ?_
              | refine xin_ret ?_
              | refine xthen_exit ?_
              | refine xthen_ret ?_
              | refine xin_same rfl ?_
              | refine xin_other rfl ?_
          have rest2 : ∀ (h : ¬ (49 ≤ d.toNat ∧ d.toNat ≤ 57)), pGo gs (k + 2) (b.drop (k + 2)) out (text ++ [if d.toNat = 110 then 10 else d]) = pGo gs 0 b [] [] := fun h => by rw [if_neg h] at hres; exact hres
          have hfs := flush_snoc out text (if d.toNat = 110 then 10 else d)
          refine xguardD rfl rfl (fun h5 => ?_) (fun h5 => ?_)
          · repeat
              first
              | refine xseq ?_
              | first
                | refine xregion ?_
                | refine xvalP (pv_move rfl) rfl rfl ?_
                | refine xvalP (pv_assign rfl) rfl rfl ?_
                | refine xvalP (pv_add1 rfl rfl (by omega)) rfl rfl ?_
                | refine xvalP (pv_sub1 rfl rfl (by omega)) rfl rfl ?_
                | refine xvalP (pv_bin2 rfl rfl rfl) rfl rfl ?_
                | refine xnil ?_
                | refine xthen ?_
                | refine xblock ?_
                | refine xval (qv_load ShpC.h rfl rfl rfl) rfl rfl ?_
                | refine xvalP (qv_fieldAddrB FldC.h rfl) rfl rfl ?_
                | refine xvalP (qv_fieldAddrE FldC.h rfl) rfl rfl ?_
                | refine xval (qv_loadB 0 ShpC.h rfl rfl rfl rfl) rfl rfl ?_
                | refine xval (qv_loadB 1 ShpC.h rfl rfl rfl rfl) rfl rfl ?_
                | refine xval (qv_loadB 2 ShpC.h rfl rfl rfl rfl) rfl rfl ?_
                | refine xval (qv_loadB 3 ShpC.h rfl rfl rfl rfl) rfl rfl ?_
                | refine xval (qv_loadB 4 ShpC.h rfl rfl rfl rfl) rfl rfl ?_
                | refine xvalP (pv_pick rfl rfl) rfl rfl ?_
                | refine xvalP (pv_len UndC.h rfl rfl) rfl rfl ?_
                | refine xvalP (pv_lenS UndC.h rfl) rfl rfl ?_
                | refine xvalP (pv_lenRb UndC.h rfl) rfl rfl ?_
                | refine xvalP (pv_lenV UndC.h rfl) rfl rfl ?_
                | refine xvalP (pv_not rfl) rfl rfl ?_
                | refine xvalP (pv_nilCheck rfl) rfl rfl ?_
                | refine xvalP (pv_nilCheckE rfl) rfl rfl ?_
                | refine xvalP (pv_nilCheckF rfl) rfl rfl ?_
                | refine xvalP (pv_extract rfl rfl) rfl rfl ?_
                | refine xvalP (qv_field FldC.h rfl rfl) rfl rfl ?_
                | refine xvalP (pv_indexAddr UndC.h ShpC.h rfl rfl rfl (map_at (by assumption))) rfl rfl ?_
                | refine xvalP (pv_indexAddrB UndC.h ShpC.h rfl rfl (Int.toNat_of_nonneg (by decide)).symm (by decide)) rfl rfl ?_
                | refine xvalP (pv_indexAddrE UndC.h ShpC.h rfl rfl (Int.toNat_of_nonneg (by decide)).symm (by decide)) rfl rfl ?_
                | refine xvalP (pv_eqB UndC.h rfl rfl) rfl rfl ?_
                | refine xvalP (pv_neB UndC.h rfl rfl) rfl rfl ?_
                | refine xvalP (pv_convI UndC.h UndC.h rfl) rfl rfl ?_
                | refine xvalP (pv_buildC StrC.h rfl rfl) rfl rfl ?_
                | refine xalloc InfC.h rfl rfl fun _ => ?_
                | refine xbuildSliceC UndC.h InfC.h rfl rfl rfl rfl rfl rfl fun _ => ?_
                | refine xvalP (pv_makeFuncC rfl) rfl rfl ?_
                | refine xbox rfl rfl rfl rfl fun _ => ?_
                | refine xstore 0 ShpC.h rfl rfl rfl rfl rfl rfl rfl ?_
                | refine xstore 1 ShpC.h rfl rfl rfl rfl rfl rfl rfl ?_
                | refine xstore 2 ShpC.h rfl rfl rfl rfl rfl rfl rfl ?_
                | refine xstore 3 ShpC.h rfl rfl rfl rfl rfl rfl rfl ?_
                | refine xstore 4 ShpC.h rfl rfl rfl rfl rfl rfl rfl ?_
                | refine xskip rfl rfl ?_
                | refine xskip0 rfl ?_
                | refine xcondT rfl ?_
                | refine xcondF rfl ?_
                | refine xskipc ?_
                | refine xexit ?_
                | refine xretc ?_
                | refine xin_normal ?_
                | refine xin_ret ?_
                | refine xthen_exit ?_
                | refine xthen_ret ?_
                | refine xin_same rfl ?_
                | refine xin_other rfl ?_
            refine xcondD rfl (fun h6 => ?_) (fun h6 => ?_)
            · rw [if_pos (show 49 ≤ d.toNat ∧ d.toNat ≤ 57 by omega)] at hres
              have hw : IntKind.i64.wrap (IntKind.u8.wrap ((d.toNat : Int) - 48)) = (d.toNat : Int) - 48 := by rw [IntWalk.u8_in _ (by omega), IntWalk.i64_in _ (by omega)]
              repeat
                first
                | refine xseq ?_
                | first
                  | refine xregion ?_
                  | refine xvalP (pv_move rfl) rfl rfl ?_
                  | refine xvalP (pv_assign rfl) rfl rfl ?_
                  | refine xvalP (pv_add1 rfl rfl (by omega)) rfl rfl ?_
                  | refine xvalP (pv_sub1 rfl rfl (by omega)) rfl rfl ?_
                  | refine xvalP (pv_bin2 rfl rfl rfl) rfl rfl ?_
                  | refine xnil ?_
                  | refine xthen ?_
                  | refine xblock ?_
                  | refine xval (qv_load ShpC.h rfl rfl rfl) rfl rfl ?_
                  | refine xvalP (qv_fieldAddrB FldC.h rfl) rfl rfl ?_
                  | refine xvalP (qv_fieldAddrE FldC.h rfl) rfl rfl ?_
                  | refine xval (qv_loadB 0 ShpC.h rfl rfl rfl rfl) rfl rfl ?_
                  | refine xval (qv_loadB 1 ShpC.h rfl rfl rfl rfl) rfl rfl ?_
                  | refine xval (qv_loadB 2 ShpC.h rfl rfl rfl rfl) rfl rfl ?_
                  | refine xval (qv_loadB 3 ShpC.h rfl rfl rfl rfl) rfl rfl ?_
                  | refine xval (qv_loadB 4 ShpC.h rfl rfl rfl rfl) rfl rfl ?_
                  | refine xvalP (pv_pick rfl rfl) rfl rfl ?_
                  | refine xvalP (pv_len UndC.h rfl rfl) rfl rfl ?_
                  | refine xvalP (pv_lenS UndC.h rfl) rfl rfl ?_
                  | refine xvalP (pv_lenRb UndC.h rfl) rfl rfl ?_
                  | refine xvalP (pv_lenV UndC.h rfl) rfl rfl ?_
                  | refine xvalP (pv_not rfl) rfl rfl ?_
                  | refine xvalP (pv_nilCheck rfl) rfl rfl ?_
                  | refine xvalP (pv_nilCheckE rfl) rfl rfl ?_
                  | refine xvalP (pv_nilCheckF rfl) rfl rfl ?_
                  | refine xvalP (pv_extract rfl rfl) rfl rfl ?_
                  | refine xvalP (qv_field FldC.h rfl rfl) rfl rfl ?_
                  | refine xvalP (pv_indexAddr UndC.h ShpC.h rfl rfl rfl (map_at (by assumption))) rfl rfl ?_
                  | refine xvalP (pv_indexAddrB UndC.h ShpC.h rfl rfl (Int.toNat_of_nonneg (by decide)).symm (by decide)) rfl rfl ?_
                  | refine xvalP (pv_indexAddrE UndC.h ShpC.h rfl rfl (Int.toNat_of_nonneg (by decide)).symm (by decide)) rfl rfl ?_
                  | refine xvalP (pv_eqB UndC.h rfl rfl) rfl rfl ?_
                  | refine xvalP (pv_neB UndC.h rfl rfl) rfl rfl ?_
                  | refine xvalP (pv_convI UndC.h UndC.h rfl) rfl rfl ?_
                  | refine xvalP (pv_buildC StrC.h rfl rfl) rfl rfl ?_
                  | refine xalloc InfC.h rfl rfl fun _ => ?_
                  | refine xbuildSliceC UndC.h InfC.h rfl rfl rfl rfl rfl rfl fun _ => ?_
                  | refine xvalP (pv_makeFuncC rfl) rfl rfl ?_
                  | refine xbox rfl rfl rfl rfl fun _ => ?_
                  | refine xstore 0 ShpC.h rfl rfl rfl rfl rfl rfl rfl ?_
                  | refine xstore 1 ShpC.h rfl rfl rfl rfl rfl rfl rfl ?_
                  | refine xstore 2 ShpC.h rfl rfl rfl rfl rfl rfl rfl ?_
                  | refine xstore 3 ShpC.h rfl rfl rfl rfl rfl rfl rfl ?_
                  | refine xstore 4 ShpC.h rfl rfl rfl rfl rfl rfl rfl ?_
                  | refine xskip rfl rfl ?_
                  | refine xskip0 rfl ?_
                  | refine xcondT rfl ?_
                  | refine xcondF rfl ?_
                  | refine xskipc ?_
                  | refine xexit ?_
                  | refine xretc ?_
                  | refine xin_normal ?_
                  | refine xin_ret ?_
                  | refine xthen_exit ?_
                  | refine xthen_ret ?_
                  | refine xin_same rfl ?_
                  | refine xin_other rfl ?_
              refine xcondD rfl (fun h7 => ?_) (fun h7 => ?_)
              · rw [hw] at h7
                rw [if_pos h7] at hres
                repeat
                  first
                  | refine xseq ?_
                  | first
                    | refine xregion ?_
                    | refine xvalP (pv_move rfl) rfl rfl ?_
                    | refine xvalP (pv_assign rfl) rfl rfl ?_
                    | refine xvalP (pv_add1 rfl rfl (by omega)) rfl rfl ?_
                    | refine xvalP (pv_sub1 rfl rfl (by omega)) rfl rfl ?_
                    | refine xvalP (pv_bin2 rfl rfl rfl) rfl rfl ?_
                    | refine xnil ?_
                    | refine xthen ?_
                    | refine xblock ?_
                    | refine xval (qv_load ShpC.h rfl rfl rfl) rfl rfl ?_
                    | refine xvalP (qv_fieldAddrB FldC.h rfl) rfl rfl ?_
                    | refine xvalP (qv_fieldAddrE FldC.h rfl) rfl rfl ?_
                    | refine xval (qv_loadB 0 ShpC.h rfl rfl rfl rfl) rfl rfl ?_
                    | refine xval (qv_loadB 1 ShpC.h rfl rfl rfl rfl) rfl rfl ?_
                    | refine xval (qv_loadB 2 ShpC.h rfl rfl rfl rfl) rfl rfl ?_
                    | refine xval (qv_loadB 3 ShpC.h rfl rfl rfl rfl) rfl rfl ?_
                    | refine xval (qv_loadB 4 ShpC.h rfl rfl rfl rfl) rfl rfl ?_
                    | refine xvalP (pv_pick rfl rfl) rfl rfl ?_
                    | refine xvalP (pv_len UndC.h rfl rfl) rfl rfl ?_
                    | refine xvalP (pv_lenS UndC.h rfl) rfl rfl ?_
                    | refine xvalP (pv_lenRb UndC.h rfl) rfl rfl ?_
                    | refine xvalP (pv_lenV UndC.h rfl) rfl rfl ?_
                    | refine xvalP (pv_not rfl) rfl rfl ?_
                    | refine xvalP (pv_nilCheck rfl) rfl rfl ?_
                    | refine xvalP (pv_nilCheckE rfl) rfl rfl ?_
                    | refine xvalP (pv_nilCheckF rfl) rfl rfl ?_
                    | refine xvalP (pv_extract rfl rfl) rfl rfl ?_
                    | refine xvalP (qv_field FldC.h rfl rfl) rfl rfl ?_
                    | refine xvalP (pv_indexAddr UndC.h ShpC.h rfl rfl rfl (map_at (by assumption))) rfl rfl ?_
                    | refine xvalP (pv_indexAddrB UndC.h ShpC.h rfl rfl (Int.toNat_of_nonneg (by decide)).symm (by decide)) rfl rfl ?_
                    | refine xvalP (pv_indexAddrE UndC.h ShpC.h rfl rfl (Int.toNat_of_nonneg (by decide)).symm (by decide)) rfl rfl ?_
                    | refine xvalP (pv_eqB UndC.h rfl rfl) rfl rfl ?_
                    | refine xvalP (pv_neB UndC.h rfl rfl) rfl rfl ?_
                    | refine xvalP (pv_convI UndC.h UndC.h rfl) rfl rfl ?_
                    | refine xvalP (pv_buildC StrC.h rfl rfl) rfl rfl ?_
                    | refine xalloc InfC.h rfl rfl fun _ => ?_
                    | refine xbuildSliceC UndC.h InfC.h rfl rfl rfl rfl rfl rfl fun _ => ?_
                    | refine xvalP (pv_makeFuncC rfl) rfl rfl ?_
                    | refine xbox rfl rfl rfl rfl fun _ => ?_
                    | refine xstore 0 ShpC.h rfl rfl rfl rfl rfl rfl rfl ?_
                    | refine xstore 1 ShpC.h rfl rfl rfl rfl rfl rfl rfl ?_
                    | refine xstore 2 ShpC.h rfl rfl rfl rfl rfl rfl rfl ?_
                    | refine xstore 3 ShpC.h rfl rfl rfl rfl rfl rfl rfl ?_
                    | refine xstore 4 ShpC.h rfl rfl rfl rfl rfl rfl rfl ?_
                    | refine xskip rfl rfl ?_
                    | refine xskip0 rfl ?_
                    | refine xcondT rfl ?_
                    | refine xcondF rfl ?_
                    | refine xskipc ?_
                    | refine xexit ?_
                    | refine xretc ?_
                    | refine xin_normal ?_
                    | refine xin_ret ?_
                    | refine xthen_exit ?_
                    | refine xthen_ret ?_
                    | refine xin_same rfl ?_
                    | refine xin_other rfl ?_
                exact xret3 hg rfl rfl (.nil_own 3) rfl (.eq rfl) rfl (.eq rfl) (bx' := []) (tk' := [⟨none, 37, 3, 0⟩]) (SubM.of (by repeat (first | with_reducible exact SubB.refl _ | exact SubB.nil _ | refine SubB.keep rfl rfl (by first | with_reducible exact WkL.refl _ | ((repeat (first | exact WkL.nil | refine WkL.cons (by first | with_reducible exact Wk.refl _ | exact Wk.nil_own _ | exact Wk.nil_pl _ | with_reducible exact Wk.tok _ _ _ | exact Wk.tok _ _ _ | exact Wk.eq (by first | rfl | (simp []; done) | (simp []; omega))) ?_)); done) | exact WkL.refl _) ?_ | refine SubB.drop ?_)) (by repeat (first | exact SubT.nil _ | refine SubT.add ?_ | (refine SubT.keep ?_ ?_; focus (first | with_reducible rfl | (simp []; done))) | refine SubT.drop ?_))) ⟨none, by rw [← hres]; rfl, rfl, by rw [← hres]; rfl⟩
              · rw [hw] at h7
                rw [if_neg h7] at hres
                repeat
                  first
                  | refine xseq ?_
                  | first
                    | refine xregion ?_
                    | refine xvalP (pv_move rfl) rfl rfl ?_
                    | refine xvalP (pv_assign rfl) rfl rfl ?_
                    | refine xvalP (pv_add1 rfl rfl (by omega)) rfl rfl ?_
                    | refine xvalP (pv_sub1 rfl rfl (by omega)) rfl rfl ?_
                    | refine xvalP (pv_bin2 rfl rfl rfl) rfl rfl ?_
                    | refine xnil ?_
                    | refine xthen ?_
                    | refine xblock ?_
                    | refine xval (qv_load ShpC.h rfl rfl rfl) rfl rfl ?_
                    | refine xvalP (qv_fieldAddrB FldC.h rfl) rfl rfl ?_
                    | refine xvalP (qv_fieldAddrE FldC.h rfl) rfl rfl ?_
                    | refine xval (qv_loadB 0 ShpC.h rfl rfl rfl rfl) rfl rfl ?_
                    | refine xval (qv_loadB 1 ShpC.h rfl rfl rfl rfl) rfl rfl ?_
                    | refine xval (qv_loadB 2 ShpC.h rfl rfl rfl rfl) rfl rfl ?_
                    | refine xval (qv_loadB 3 ShpC.h rfl rfl rfl rfl) rfl rfl ?_
                    | refine xval (qv_loadB 4 ShpC.h rfl rfl rfl rfl) rfl rfl ?_
                    | refine xvalP (pv_pick rfl rfl) rfl rfl ?_
                    | refine xvalP (pv_len UndC.h rfl rfl) rfl rfl ?_
                    | refine xvalP (pv_lenS UndC.h rfl) rfl rfl ?_
                    | refine xvalP (pv_lenRb UndC.h rfl) rfl rfl ?_
                    | refine xvalP (pv_lenV UndC.h rfl) rfl rfl ?_
                    | refine xvalP (pv_not rfl) rfl rfl ?_
                    | refine xvalP (pv_nilCheck rfl) rfl rfl ?_
                    | refine xvalP (pv_nilCheckE rfl) rfl rfl ?_
                    | refine xvalP (pv_nilCheckF rfl) rfl rfl ?_
                    | refine xvalP (pv_extract rfl rfl) rfl rfl ?_
                    | refine xvalP (qv_field FldC.h rfl rfl) rfl rfl ?_
                    | refine xvalP (pv_indexAddr UndC.h ShpC.h rfl rfl rfl (map_at (by assumption))) rfl rfl ?_
                    | refine xvalP (pv_indexAddrB UndC.h ShpC.h rfl rfl (Int.toNat_of_nonneg (by decide)).symm (by decide)) rfl rfl ?_
                    | refine xvalP (pv_indexAddrE UndC.h ShpC.h rfl rfl (Int.toNat_of_nonneg (by decide)).symm (by decide)) rfl rfl ?_
                    | refine xvalP (pv_eqB UndC.h rfl rfl) rfl rfl ?_
                    | refine xvalP (pv_neB UndC.h rfl rfl) rfl rfl ?_
                    | refine xvalP (pv_convI UndC.h UndC.h rfl) rfl rfl ?_
                    | refine xvalP (pv_buildC StrC.h rfl rfl) rfl rfl ?_
                    | refine xalloc InfC.h rfl rfl fun _ => ?_
                    | refine xbuildSliceC UndC.h InfC.h rfl rfl rfl rfl rfl rfl fun _ => ?_
                    | refine xvalP (pv_makeFuncC rfl) rfl rfl ?_
                    | refine xbox rfl rfl rfl rfl fun _ => ?_
                    | refine xstore 0 ShpC.h rfl rfl rfl rfl rfl rfl rfl ?_
                    | refine xstore 1 ShpC.h rfl rfl rfl rfl rfl rfl rfl ?_
                    | refine xstore 2 ShpC.h rfl rfl rfl rfl rfl rfl rfl ?_
                    | refine xstore 3 ShpC.h rfl rfl rfl rfl rfl rfl rfl ?_
                    | refine xstore 4 ShpC.h rfl rfl rfl rfl rfl rfl rfl ?_
                    | refine xskip rfl rfl ?_
                    | refine xskip0 rfl ?_
                    | refine xcondT rfl ?_
                    | refine xcondF rfl ?_
                    | refine xskipc ?_
                    | refine xexit ?_
                    | refine xretc ?_
                    | refine xin_normal ?_
                    | refine xin_ret ?_
                    | refine xthen_exit ?_
                    | refine xthen_ret ?_
                    | refine xin_same rfl ?_
                    | refine xin_other rfl ?_
                refine xcallV (group_any ((d.toNat : Int) - 48) _ _ _ tid oid text out (by omega)) (Fb := []) (Ft := []) Try.func23 (by kernel_rfl) rfl rfl (.cons rfl (.eq (by rw [hw])) .nil) rfl (by exact SubM.refl _ _) rfl rfl ?_
                rintro _ _ _ ⟨tid2, oid2, rfl, rfl, rfl⟩
                repeat
                  first
                  | refine xseq ?_
                  | first
                    | refine xregion ?_
                    | refine xvalP (pv_move rfl) rfl rfl ?_
                    | refine xvalP (pv_assign rfl) rfl rfl ?_
                    | refine xvalP (pv_add1 rfl rfl (by omega)) rfl rfl ?_
                    | refine xvalP (pv_sub1 rfl rfl (by omega)) rfl rfl ?_
                    | refine xvalP (pv_bin2 rfl rfl rfl) rfl rfl ?_
                    | refine xnil ?_
                    | refine xthen ?_
                    | refine xblock ?_
                    | refine xval (qv_load ShpC.h rfl rfl rfl) rfl rfl ?_
                    | refine xvalP (qv_fieldAddrB FldC.h rfl) rfl rfl ?_
                    | refine xvalP (qv_fieldAddrE FldC.h rfl) rfl rfl ?_
                    | refine xval (qv_loadB 0 ShpC.h rfl rfl rfl rfl) rfl rfl ?_
                    | refine xval (qv_loadB 1 ShpC.h rfl rfl rfl rfl) rfl rfl ?_
                    | refine xval (qv_loadB 2 ShpC.h rfl rfl rfl rfl) rfl rfl ?_
                    | refine xval (qv_loadB 3 ShpC.h rfl rfl rfl rfl) rfl rfl ?_
                    | refine xval (qv_loadB 4 ShpC.h rfl rfl rfl rfl) rfl rfl ?_
                    | refine xvalP (pv_pick rfl rfl) rfl rfl ?_
                    | refine xvalP (pv_len UndC.h rfl rfl) rfl rfl ?_
                    | refine xvalP (pv_lenS UndC.h rfl) rfl rfl ?_
                    | refine xvalP (pv_lenRb UndC.h rfl) rfl rfl ?_
                    | refine xvalP (pv_lenV UndC.h rfl) rfl rfl ?_
                    | refine xvalP (pv_not rfl) rfl rfl ?_
                    | refine xvalP (pv_nilCheck rfl) rfl rfl ?_
                    | refine xvalP (pv_nilCheckE rfl) rfl rfl ?_
                    | refine xvalP (pv_nilCheckF rfl) rfl rfl ?_
                    | refine xvalP (pv_extract rfl rfl) rfl rfl ?_
                    | refine xvalP (qv_field FldC.h rfl rfl) rfl rfl ?_
                    | refine xvalP (pv_indexAddr UndC.h ShpC.h rfl rfl rfl (map_at (by assumption))) rfl rfl ?_
                    | refine xvalP (pv_indexAddrB UndC.h ShpC.h rfl rfl (Int.toNat_of_nonneg (by decide)).symm (by decide)) rfl rfl ?_
                    | refine xvalP (pv_indexAddrE UndC.h ShpC.h rfl rfl (Int.toNat_of_nonneg (by decide)).symm (by decide)) rfl rfl ?_
                    | refine xvalP (pv_eqB UndC.h rfl rfl) rfl rfl ?_
                    | refine xvalP (pv_neB UndC.h rfl rfl) rfl rfl ?_
                    | refine xvalP (pv_convI UndC.h UndC.h rfl) rfl rfl ?_
                    | refine xvalP (pv_buildC StrC.h rfl rfl) rfl rfl ?_
                    | refine xalloc InfC.h rfl rfl fun _ => ?_
                    | refine xbuildSliceC UndC.h InfC.h rfl rfl rfl rfl rfl rfl fun _ => ?_
                    | refine xvalP (pv_makeFuncC rfl) rfl rfl ?_
                    | refine xbox rfl rfl rfl rfl fun _ => ?_
                    | refine xstore 0 ShpC.h rfl rfl rfl rfl rfl rfl rfl ?_
                    | refine xstore 1 ShpC.h rfl rfl rfl rfl rfl rfl rfl ?_
                    | refine xstore 2 ShpC.h rfl rfl rfl rfl rfl rfl rfl ?_
                    | refine xstore 3 ShpC.h rfl rfl rfl rfl rfl rfl rfl ?_
                    | refine xstore 4 ShpC.h rfl rfl rfl rfl rfl rfl rfl ?_
                    | refine xskip rfl rfl ?_
                    | refine xskip0 rfl ?_
                    | refine xcondT rfl ?_
                    | refine xcondF rfl ?_
                    | refine xskipc ?_
                    | refine xexit ?_
                    | refine xretc ?_
                    | refine xin_normal ?_
                    | refine xin_ret ?_
                    | refine xthen_exit ?_
                    | refine xthen_ret ?_
                    | refine xin_same rfl ?_
                    | refine xin_other rfl ?_
                refine xagain ⟨k + 2, _, _, tid2, oid2, by omega, rfl, by rw [flush_nil]; simp; omega, by simp, hres, rfl⟩ (by omega) ⟨by (repeat (first | exact ImpT.nil _ | refine ImpT.cons rfl (by first | with_reducible exact Wk.refl _ | exact Wk.nil_own _ | exact Wk.nil_pl _ | with_reducible exact Wk.tok _ _ _ | exact Wk.tok _ _ _ | exact Wk.eq (by first | rfl | (simp []; done) | (simp []; omega))) ?_)), (SubM.of (by repeat (first | with_reducible exact SubB.refl _ | exact SubB.nil _ | refine SubB.keep rfl rfl (by first | with_reducible exact WkL.refl _ | ((repeat (first | exact WkL.nil | refine WkL.cons (by first | with_reducible exact Wk.refl _ | exact Wk.nil_own _ | exact Wk.nil_pl _ | with_reducible exact Wk.tok _ _ _ | exact Wk.tok _ _ _ | exact Wk.eq (by first | rfl | (simp []; done) | (simp []; omega))) ?_)); done) | exact WkL.refl _) ?_ | refine SubB.drop ?_)) (by repeat (first | exact SubT.nil _ | refine SubT.add ?_ | (refine SubT.keep ?_ ?_; focus (first | with_reducible rfl | (simp []; done))) | refine SubT.drop ?_)))⟩
            · have hr := rest2 (by omega)
              repeat
                first
                | refine xseq ?_
                | first
                  | refine xregion ?_
                  | refine xvalP (pv_move rfl) rfl rfl ?_
                  | refine xvalP (pv_assign rfl) rfl rfl ?_
                  | refine xvalP (pv_add1 rfl rfl (by omega)) rfl rfl ?_
                  | refine xvalP (pv_sub1 rfl rfl (by omega)) rfl rfl ?_
                  | refine xvalP (pv_bin2 rfl rfl rfl) rfl rfl ?_
                  | refine xnil ?_
                  | refine xthen ?_
                  | refine xblock ?_
                  | refine xval (qv_load ShpC.h rfl rfl rfl) rfl rfl ?_
                  | refine xvalP (qv_fieldAddrB FldC.h rfl) rfl rfl ?_
                  | refine xvalP (qv_fieldAddrE FldC.h rfl) rfl rfl ?_
                  | refine xval (qv_loadB 0 ShpC.h rfl rfl rfl rfl) rfl rfl ?_
                  | refine xval (qv_loadB 1 ShpC.h rfl rfl rfl rfl) rfl rfl ?_
                  | refine xval (qv_loadB 2 ShpC.h rfl rfl rfl rfl) rfl rfl ?_
                  | refine xval (qv_loadB 3 ShpC.h rfl rfl rfl rfl) rfl rfl ?_
                  | refine xval (qv_loadB 4 ShpC.h rfl rfl rfl rfl) rfl rfl ?_
                  | refine xvalP (pv_pick rfl rfl) rfl rfl ?_
                  | refine xvalP (pv_len UndC.h rfl rfl) rfl rfl ?_
                  | refine xvalP (pv_lenS UndC.h rfl) rfl rfl ?_
                  | refine xvalP (pv_lenRb UndC.h rfl) rfl rfl ?_
                  | refine xvalP (pv_lenV UndC.h rfl) rfl rfl ?_
                  | refine xvalP (pv_not rfl) rfl rfl ?_
                  | refine xvalP (pv_nilCheck rfl) rfl rfl ?_
                  | refine xvalP (pv_nilCheckE rfl) rfl rfl ?_
                  | refine xvalP (pv_nilCheckF rfl) rfl rfl ?_
                  | refine xvalP (pv_extract rfl rfl) rfl rfl ?_
                  | refine xvalP (qv_field FldC.h rfl rfl) rfl rfl ?_
                  | refine xvalP (pv_indexAddr UndC.h ShpC.h rfl rfl rfl (map_at (by assumption))) rfl rfl ?_
                  | refine xvalP (pv_indexAddrB UndC.h ShpC.h rfl rfl (Int.toNat_of_nonneg (by decide)).symm (by decide)) rfl rfl ?_
                  | refine xvalP (pv_indexAddrE UndC.h ShpC.h rfl rfl (Int.toNat_of_nonneg (by decide)).symm (by decide)) rfl rfl ?_
                  | refine xvalP (pv_eqB UndC.h rfl rfl) rfl rfl ?_
                  | refine xvalP (pv_neB UndC.h rfl rfl) rfl rfl ?_
                  | refine xvalP (pv_convI UndC.h UndC.h rfl) rfl rfl ?_
                  | refine xvalP (pv_buildC StrC.h rfl rfl) rfl rfl ?_
                  | refine xalloc InfC.h rfl rfl fun _ => ?_
                  | refine xbuildSliceC UndC.h InfC.h rfl rfl rfl rfl rfl rfl fun _ => ?_
                  | refine xvalP (pv_makeFuncC rfl) rfl rfl ?_
                  | refine xbox rfl rfl rfl rfl fun _ => ?_
                  | refine xstore 0 ShpC.h rfl rfl rfl rfl rfl rfl rfl ?_
                  | refine xstore 1 ShpC.h rfl rfl rfl rfl rfl rfl rfl ?_
                  | refine xstore 2 ShpC.h rfl rfl rfl rfl rfl rfl rfl ?_
                  | refine xstore 3 ShpC.h rfl rfl rfl rfl rfl rfl rfl ?_
                  | refine xstore 4 ShpC.h rfl rfl rfl rfl rfl rfl rfl ?_
                  | refine xskip rfl rfl ?_
                  | refine xskip0 rfl ?_
                  | refine xcondT rfl ?_
                  | refine xcondF rfl ?_
                  | refine xskipc ?_
                  | refine xexit ?_
                  | refine xretc ?_
                  | refine xin_normal ?_
                  | refine xin_ret ?_
                  | refine xthen_exit ?_
                  | refine xthen_ret ?_
                  | refine xin_same rfl ?_
                  | refine xin_other rfl ?_
              refine xcondD rfl (fun h7 => ?_) (fun h7 => ?_)
              · have e7 : (if d.toNat = 110 then 10 else d) = (10 : UInt8) := if_pos (by omega)
                rw [e7] at hr hfs
                repeat
                  first
                  | refine xseq ?_
                  | first
                    | refine xregion ?_
                    | refine xvalP (pv_move rfl) rfl rfl ?_
                    | refine xvalP (pv_assign rfl) rfl rfl ?_
                    | refine xvalP (pv_add1 rfl rfl (by omega)) rfl rfl ?_
                    | refine xvalP (pv_sub1 rfl rfl (by omega)) rfl rfl ?_
                    | refine xvalP (pv_bin2 rfl rfl rfl) rfl rfl ?_
                    | refine xnil ?_
                    | refine xthen ?_
                    | refine xblock ?_
                    | refine xval (qv_load ShpC.h rfl rfl rfl) rfl rfl ?_
                    | refine xvalP (qv_fieldAddrB FldC.h rfl) rfl rfl ?_
                    | refine xvalP (qv_fieldAddrE FldC.h rfl) rfl rfl ?_
                    | refine xval (qv_loadB 0 ShpC.h rfl rfl rfl rfl) rfl rfl ?_
                    | refine xval (qv_loadB 1 ShpC.h rfl rfl rfl rfl) rfl rfl ?_
                    | refine xval (qv_loadB 2 ShpC.h rfl rfl rfl rfl) rfl rfl ?_
                    | refine xval (qv_loadB 3 ShpC.h rfl rfl rfl rfl) rfl rfl ?_
                    | refine xval (qv_loadB 4 ShpC.h rfl rfl rfl rfl) rfl rfl ?_
                    | refine xvalP (pv_pick rfl rfl) rfl rfl ?_
                    | refine xvalP (pv_len UndC.h rfl rfl) rfl rfl ?_
                    | refine xvalP (pv_lenS UndC.h rfl) rfl rfl ?_
                    | refine xvalP (pv_lenRb UndC.h rfl) rfl rfl ?_
                    | refine xvalP (pv_lenV UndC.h rfl) rfl rfl ?_
                    | refine xvalP (pv_not rfl) rfl rfl ?_
                    | refine xvalP (pv_nilCheck rfl) rfl rfl ?_
                    | refine xvalP (pv_nilCheckE rfl) rfl rfl ?_
                    | refine xvalP (pv_nilCheckF rfl) rfl rfl ?_
                    | refine xvalP (pv_extract rfl rfl) rfl rfl ?_
                    | refine xvalP (qv_field FldC.h rfl rfl) rfl rfl ?_
                    | refine xvalP (pv_indexAddr UndC.h ShpC.h rfl rfl rfl (map_at (by assumption))) rfl rfl ?_
                    | refine xvalP (pv_indexAddrB UndC.h ShpC.h rfl rfl (Int.toNat_of_nonneg (by decide)).symm (by decide)) rfl rfl ?_
                    | refine xvalP (pv_indexAddrE UndC.h ShpC.h rfl rfl (Int.toNat_of_nonneg (by decide)).symm (by decide)) rfl rfl ?_
                    | refine xvalP (pv_eqB UndC.h rfl rfl) rfl rfl ?_
                    | refine xvalP (pv_neB UndC.h rfl rfl) rfl rfl ?_
                    | refine xvalP (pv_convI UndC.h UndC.h rfl) rfl rfl ?_
                    | refine xvalP (pv_buildC StrC.h rfl rfl) rfl rfl ?_
                    | refine xalloc InfC.h rfl rfl fun _ => ?_
                    | refine xbuildSliceC UndC.h InfC.h rfl rfl rfl rfl rfl rfl fun _ => ?_
                    | refine xvalP (pv_makeFuncC rfl) rfl rfl ?_
                    | refine xbox rfl rfl rfl rfl fun _ => ?_
                    | refine xstore 0 ShpC.h rfl rfl rfl rfl rfl rfl rfl ?_
                    | refine xstore 1 ShpC.h rfl rfl rfl rfl rfl rfl rfl ?_
                    | refine xstore 2 ShpC.h rfl rfl rfl rfl rfl rfl rfl ?_
                    | refine xstore 3 ShpC.h rfl rfl rfl rfl rfl rfl rfl ?_
                    | refine xstore 4 ShpC.h rfl rfl rfl rfl rfl rfl rfl ?_
                    | refine xskip rfl rfl ?_
                    | refine xskip0 rfl ?_
                    | refine xcondT rfl ?_
                    | refine xcondF rfl ?_
                    | refine xskipc ?_
                    | refine xexit ?_
                    | refine xretc ?_
                    | refine xin_normal ?_
                    | refine xin_ret ?_
                    | refine xthen_exit ?_
                    | refine xthen_ret ?_
                    | refine xin_same rfl ?_
                    | refine xin_other rfl ?_
                refine xappend UndC.h InfC.h rfl 1 rfl rfl (.refl _) rfl (by simp) rfl rfl ⟨by simp [maxLen]; omega, by simp; omega⟩ fun id2 => ?_
                repeat
                  first
                  | refine xseq ?_
                  | first
                    | refine xregion ?_
                    | refine xvalP (pv_move rfl) rfl rfl ?_
                    | refine xvalP (pv_assign rfl) rfl rfl ?_
                    | refine xvalP (pv_add1 rfl rfl (by omega)) rfl rfl ?_
                    | refine xvalP (pv_sub1 rfl rfl (by omega)) rfl rfl ?_
                    | refine xvalP (pv_bin2 rfl rfl rfl) rfl rfl ?_
                    | refine xnil ?_
                    | refine xthen ?_
                    | refine xblock ?_
                    | refine xval (qv_load ShpC.h rfl rfl rfl) rfl rfl ?_
                    | refine xvalP (qv_fieldAddrB FldC.h rfl) rfl rfl ?_
                    | refine xvalP (qv_fieldAddrE FldC.h rfl) rfl rfl ?_
                    | refine xval (qv_loadB 0 ShpC.h rfl rfl rfl rfl) rfl rfl ?_
                    | refine xval (qv_loadB 1 ShpC.h rfl rfl rfl rfl) rfl rfl ?_
                    | refine xval (qv_loadB 2 ShpC.h rfl rfl rfl rfl) rfl rfl ?_
                    | refine xval (qv_loadB 3 ShpC.h rfl rfl rfl rfl) rfl rfl ?_
                    | refine xval (qv_loadB 4 ShpC.h rfl rfl rfl rfl) rfl rfl ?_
                    | refine xvalP (pv_pick rfl rfl) rfl rfl ?_
                    | refine xvalP (pv_len UndC.h rfl rfl) rfl rfl ?_
                    | refine xvalP (pv_lenS UndC.h rfl) rfl rfl ?_
                    | refine xvalP (pv_lenRb UndC.h rfl) rfl rfl ?_
                    | refine xvalP (pv_lenV UndC.h rfl) rfl rfl ?_
                    | refine xvalP (pv_not rfl) rfl rfl ?_
                    | refine xvalP (pv_nilCheck rfl) rfl rfl ?_
                    | refine xvalP (pv_nilCheckE rfl) rfl rfl ?_
                    | refine xvalP (pv_nilCheckF rfl) rfl rfl ?_
                    | refine xvalP (pv_extract rfl rfl) rfl rfl ?_
                    | refine xvalP (qv_field FldC.h rfl rfl) rfl rfl ?_
                    | refine xvalP (pv_indexAddr UndC.h ShpC.h rfl rfl rfl (map_at (by assumption))) rfl rfl ?_
                    | refine xvalP (pv_indexAddrB UndC.h ShpC.h rfl rfl (Int.toNat_of_nonneg (by decide)).symm (by decide)) rfl rfl ?_
                    | refine xvalP (pv_indexAddrE UndC.h ShpC.h rfl rfl (Int.toNat_of_nonneg (by decide)).symm (by decide)) rfl rfl ?_
                    | refine xvalP (pv_eqB UndC.h rfl rfl) rfl rfl ?_
                    | refine xvalP (pv_neB UndC.h rfl rfl) rfl rfl ?_
                    | refine xvalP (pv_convI UndC.h UndC.h rfl) rfl rfl ?_
                    | refine xvalP (pv_buildC StrC.h rfl rfl) rfl rfl ?_
                    | refine xalloc InfC.h rfl rfl fun _ => ?_
                    | refine xbuildSliceC UndC.h InfC.h rfl rfl rfl rfl rfl rfl fun _ => ?_
                    | refine xvalP (pv_makeFuncC rfl) rfl rfl ?_
                    | refine xbox rfl rfl rfl rfl fun _ => ?_
                    | refine xstore 0 ShpC.h rfl rfl rfl rfl rfl rfl rfl ?_
                    | refine xstore 1 ShpC.h rfl rfl rfl rfl rfl rfl rfl ?_
                    | refine xstore 2 ShpC.h rfl rfl rfl rfl rfl rfl rfl ?_
                    | refine xstore 3 ShpC.h rfl rfl rfl rfl rfl rfl rfl ?_
                    | refine xstore 4 ShpC.h rfl rfl rfl rfl rfl rfl rfl ?_
                    | refine xskip rfl rfl ?_
                    | refine xskip0 rfl ?_
                    | refine xcondT rfl ?_
                    | refine xcondF rfl ?_
                    | refine xskipc ?_
                    | refine xexit ?_
                    | refine xretc ?_
                    | refine xin_normal ?_
                    | refine xin_ret ?_
                    | refine xthen_exit ?_
                    | refine xthen_ret ?_
                    | refine xin_same rfl ?_
                    | refine xin_other rfl ?_
                refine xagain ⟨k + 2, out, text ++ [10], id2, oid, by omega, rfl, by omega, by simp; omega, hr, rfl⟩ (by omega) ⟨by (repeat (first | exact ImpT.nil _ | refine ImpT.cons rfl (by first | with_reducible exact Wk.refl _ | exact Wk.nil_own _ | exact Wk.nil_pl _ | with_reducible exact Wk.tok _ _ _ | exact Wk.tok _ _ _ | exact Wk.eq (by first | rfl | (simp [eb, cellsS, ofV]; done) | (simp [eb, cellsS, ofV]; omega))) ?_)), (SubM.of (by repeat (first | with_reducible exact SubB.refl _ | exact SubB.nil _ | refine SubB.keep rfl rfl (by first | with_reducible exact WkL.refl _ | ((repeat (first | exact WkL.nil | refine WkL.cons (by first | with_reducible exact Wk.refl _ | exact Wk.nil_own _ | exact Wk.nil_pl _ | with_reducible exact Wk.tok _ _ _ | exact Wk.tok _ _ _ | exact Wk.eq (by first | rfl | (simp [eb, cellsS, ofV]; done) | (simp [eb, cellsS, ofV]; omega))) ?_)); done) | exact WkL.refl _) ?_ | refine SubB.drop ?_)) (by repeat (first | exact SubT.nil _ | refine SubT.add ?_ | (refine SubT.keep ?_ ?_; focus (first | with_reducible rfl | (simp [eb, cellsS, ofV]; done))) | refine SubT.drop ?_)))⟩
              · have e7 : (if d.toNat = 110 then 10 else d) = d := if_neg (by omega)
                rw [e7] at hr hfs
                repeat
                  first
                  | refine xseq ?_
                  | first
                    | refine xregion ?_
                    | refine xvalP (pv_move rfl) rfl rfl ?_
                    | refine xvalP (pv_assign rfl) rfl rfl ?_
                    | refine xvalP (pv_add1 rfl rfl (by omega)) rfl rfl ?_
                    | refine xvalP (pv_sub1 rfl rfl (by omega)) rfl rfl ?_
                    | refine xvalP (pv_bin2 rfl rfl rfl) rfl rfl ?_
                    | refine xnil ?_
                    | refine xthen ?_
                    | refine xblock ?_
                    | refine xval (qv_load ShpC.h rfl rfl rfl) rfl rfl ?_
                    | refine xvalP (qv_fieldAddrB FldC.h rfl) rfl rfl ?_
                    | refine xvalP (qv_fieldAddrE FldC.h rfl) rfl rfl ?_
                    | refine xval (qv_loadB 0 ShpC.h rfl rfl rfl rfl) rfl rfl ?_
                    | refine xval (qv_loadB 1 ShpC.h rfl rfl rfl rfl) rfl rfl ?_
                    | refine xval (qv_loadB 2 ShpC.h rfl rfl rfl rfl) rfl rfl ?_
                    | refine xval (qv_loadB 3 ShpC.h rfl rfl rfl rfl) rfl rfl ?_
                    | refine xval (qv_loadB 4 ShpC.h rfl rfl rfl rfl) rfl rfl ?_
                    | refine xvalP (pv_pick rfl rfl) rfl rfl ?_
                    | refine xvalP (pv_len UndC.h rfl rfl) rfl rfl ?_
                    | refine xvalP (pv_lenS UndC.h rfl) rfl rfl ?_
                    | refine xvalP (pv_lenRb UndC.h rfl) rfl rfl ?_
                    | refine xvalP (pv_lenV UndC.h rfl) rfl rfl ?_
                    | refine xvalP (pv_not rfl) rfl rfl ?_
                    | refine xvalP (pv_nilCheck rfl) rfl rfl ?_
                    | refine xvalP (pv_nilCheckE rfl) rfl rfl ?_
                    | refine xvalP (pv_nilCheckF rfl) rfl rfl ?_
                    | refine xvalP (pv_extract rfl rfl) rfl rfl ?_
                    | refine xvalP (qv_field FldC.h rfl rfl) rfl rfl ?_
                    | refine xvalP (pv_indexAddr UndC.h ShpC.h rfl rfl rfl (map_at (by assumption))) rfl rfl ?_
                    | refine xvalP (pv_indexAddrB UndC.h ShpC.h rfl rfl (Int.toNat_of_nonneg (by decide)).symm (by decide)) rfl rfl ?_
                    | refine xvalP (pv_indexAddrE UndC.h ShpC.h rfl rfl (Int.toNat_of_nonneg (by decide)).symm (by decide)) rfl rfl ?_
                    | refine xvalP (pv_eqB UndC.h rfl rfl) rfl rfl ?_
                    | refine xvalP (pv_neB UndC.h rfl rfl) rfl rfl ?_
                    | refine xvalP (pv_convI UndC.h UndC.h rfl) rfl rfl ?_
                    | refine xvalP (pv_buildC StrC.h rfl rfl) rfl rfl ?_
                    | refine xalloc InfC.h rfl rfl fun _ => ?_
                    | refine xbuildSliceC UndC.h InfC.h rfl rfl rfl rfl rfl rfl fun _ => ?_
                    | refine xvalP (pv_makeFuncC rfl) rfl rfl ?_
                    | refine xbox rfl rfl rfl rfl fun _ => ?_
                    | refine xstore 0 ShpC.h rfl rfl rfl rfl rfl rfl rfl ?_
                    | refine xstore 1 ShpC.h rfl rfl rfl rfl rfl rfl rfl ?_
                    | refine xstore 2 ShpC.h rfl rfl rfl rfl rfl rfl rfl ?_
                    | refine xstore 3 ShpC.h rfl rfl rfl rfl rfl rfl rfl ?_
                    | refine xstore 4 ShpC.h rfl rfl rfl rfl rfl rfl rfl ?_
                    | refine xskip rfl rfl ?_
                    | refine xskip0 rfl ?_
                    | refine xcondT rfl ?_
                    | refine xcondF rfl ?_
                    | refine xskipc ?_
                    | refine xexit ?_
                    | refine xretc ?_
                    | refine xin_normal ?_
                    | refine xin_ret ?_
                    | refine xthen_exit ?_
                    | refine xthen_ret ?_
                    | refine xin_same rfl ?_
                    | refine xin_other rfl ?_
                refine xappend UndC.h InfC.h rfl 1 rfl rfl (.refl _) rfl (by simp) rfl rfl ⟨by simp [maxLen]; omega, by simp; omega⟩ fun id2 => ?_
                repeat
                  first
                  | refine xseq ?_
                  | first
                    | refine xregion ?_
                    | refine xvalP (pv_move rfl) rfl rfl ?_
                    | refine xvalP (pv_assign rfl) rfl rfl ?_
                    | refine xvalP (pv_add1 rfl rfl (by omega)) rfl rfl ?_
                    | refine xvalP (pv_sub1 rfl rfl (by omega)) rfl rfl ?_
                    | refine xvalP (pv_bin2 rfl rfl rfl) rfl rfl ?_
                    | refine xnil ?_
                    | refine xthen ?_
                    | refine xblock ?_
                    | refine xval (qv_load ShpC.h rfl rfl rfl) rfl rfl ?_
                    | refine xvalP (qv_fieldAddrB FldC.h rfl) rfl rfl ?_
                    | refine xvalP (qv_fieldAddrE FldC.h rfl) rfl rfl ?_
                    | refine xval (qv_loadB 0 ShpC.h rfl rfl rfl rfl) rfl rfl ?_
                    | refine xval (qv_loadB 1 ShpC.h rfl rfl rfl rfl) rfl rfl ?_
                    | refine xval (qv_loadB 2 ShpC.h rfl rfl rfl rfl) rfl rfl ?_
                    | refine xval (qv_loadB 3 ShpC.h rfl rfl rfl rfl) rfl rfl ?_
                    | refine xval (qv_loadB 4 ShpC.h rfl rfl rfl rfl) rfl rfl ?_
                    | refine xvalP (pv_pick rfl rfl) rfl rfl ?_
                    | refine xvalP (pv_len UndC.h rfl rfl) rfl rfl ?_
                    | refine xvalP (pv_lenS UndC.h rfl) rfl rfl ?_
                    | refine xvalP (pv_lenRb UndC.h rfl) rfl rfl ?_
                    | refine xvalP (pv_lenV UndC.h rfl) rfl rfl ?_
                    | refine xvalP (pv_not rfl) rfl rfl ?_
                    | refine xvalP (pv_nilCheck rfl) rfl rfl ?_
                    | refine xvalP (pv_nilCheckE rfl) rfl rfl ?_
                    | refine xvalP (pv_nilCheckF rfl) rfl rfl ?_
                    | refine xvalP (pv_extract rfl rfl) rfl rfl ?_
                    | refine xvalP (qv_field FldC.h rfl rfl) rfl rfl ?_
                    | refine xvalP (pv_indexAddr UndC.h ShpC.h rfl rfl rfl (map_at (by assumption))) rfl rfl ?_
                    | refine xvalP (pv_indexAddrB UndC.h ShpC.h rfl rfl (Int.toNat_of_nonneg (by decide)).symm (by decide)) rfl rfl ?_
                    | refine xvalP (pv_indexAddrE UndC.h ShpC.h rfl rfl (Int.toNat_of_nonneg (by decide)).symm (by decide)) rfl rfl ?_
                    | refine xvalP (pv_eqB UndC.h rfl rfl) rfl rfl ?_
                    | refine xvalP (pv_neB UndC.h rfl rfl) rfl rfl ?_
                    | refine xvalP (pv_convI UndC.h UndC.h rfl) rfl rfl ?_
                    | refine xvalP (pv_buildC StrC.h rfl rfl) rfl rfl ?_
                    | refine xalloc InfC.h rfl rfl fun _ => ?_
                    | refine xbuildSliceC UndC.h InfC.h rfl rfl rfl rfl rfl rfl fun _ => ?_
                    | refine xvalP (pv_makeFuncC rfl) rfl rfl ?_
                    | refine xbox rfl rfl rfl rfl fun _ => ?_
                    | refine xstore 0 ShpC.h rfl rfl rfl rfl rfl rfl rfl ?_
                    | refine xstore 1 ShpC.h rfl rfl rfl rfl rfl rfl rfl ?_
                    | refine xstore 2 ShpC.h rfl rfl rfl rfl rfl rfl rfl ?_
                    | refine xstore 3 ShpC.h rfl rfl rfl rfl rfl rfl rfl ?_
                    | refine xstore 4 ShpC.h rfl rfl rfl rfl rfl rfl rfl ?_
                    | refine xskip rfl rfl ?_
                    | refine xskip0 rfl ?_
                    | refine xcondT rfl ?_
                    | refine xcondF rfl ?_
                    | refine xskipc ?_
                    | refine xexit ?_
                    | refine xretc ?_
                    | refine xin_normal ?_
                    | refine xin_ret ?_
                    | refine xthen_exit ?_
                    | refine xthen_ret ?_
                    | refine xin_same rfl ?_
                    | refine xin_other rfl ?_
                refine xagain ⟨k + 2, out, text ++ [d], id2, oid, by omega, rfl, by omega, by simp; omega, hr, rfl⟩ (by omega) ⟨by (repeat (first | exact ImpT.nil _ | refine ImpT.cons rfl (by first | with_reducible exact Wk.refl _ | exact Wk.nil_own _ | exact Wk.nil_pl _ | with_reducible exact Wk.tok _ _ _ | exact Wk.tok _ _ _ | exact Wk.eq (by first | rfl | (simp [eb, cellsS]; done) | (simp [eb, cellsS]; omega))) ?_)), (SubM.of (by repeat (first | with_reducible exact SubB.refl _ | exact SubB.nil _ | refine SubB.keep rfl rfl (by first | with_reducible exact WkL.refl _ | ((repeat (first | exact WkL.nil | refine WkL.cons (by first | with_reducible exact Wk.refl _ | exact Wk.nil_own _ | exact Wk.nil_pl _ | with_reducible exact Wk.tok _ _ _ | exact Wk.tok _ _ _ | exact Wk.eq (by first | rfl | (simp [eb, cellsS]; done) | (simp [eb, cellsS]; omega))) ?_)); done) | exact WkL.refl _) ?_ | refine SubB.drop ?_)) (by repeat (first | exact SubT.nil _ | refine SubT.add ?_ | (refine SubT.keep ?_ ?_; focus (first | with_reducible rfl | (simp [eb, cellsS]; done))) | refine SubT.drop ?_)))⟩
          · have hr := rest2 (by omega)
            repeat
              first
              | refine xseq ?_
              | first
                | refine xregion ?_
                | refine xvalP (pv_move rfl) rfl rfl ?_
                | refine xvalP (pv_assign rfl) rfl rfl ?_
                | refine xvalP (pv_add1 rfl rfl (by omega)) rfl rfl ?_
                | refine xvalP (pv_sub1 rfl rfl (by omega)) rfl rfl ?_
                | refine xvalP (pv_bin2 rfl rfl rfl) rfl rfl ?_
                | refine xnil ?_
                | refine xthen ?_
                | refine xblock ?_
                | refine xval (qv_load ShpC.h rfl rfl rfl) rfl rfl ?_
                | refine xvalP (qv_fieldAddrB FldC.h rfl) rfl rfl ?_
                | refine xvalP (qv_fieldAddrE FldC.h rfl) rfl rfl ?_
                | refine xval (qv_loadB 0 ShpC.h rfl rfl rfl rfl) rfl rfl ?_
                | refine xval (qv_loadB 1 ShpC.h rfl rfl rfl rfl) rfl rfl ?_
                | refine xval (qv_loadB 2 ShpC.h rfl rfl rfl rfl) rfl rfl ?_
                | refine xval (qv_loadB 3 ShpC.h rfl rfl rfl rfl) rfl rfl ?_
                | refine xval (qv_loadB 4 ShpC.h rfl rfl rfl rfl) rfl rfl ?_
                | refine xvalP (pv_pick rfl rfl) rfl rfl ?_
                | refine xvalP (pv_len UndC.h rfl rfl) rfl rfl ?_
                | refine xvalP (pv_lenS UndC.h rfl) rfl rfl ?_
                | refine xvalP (pv_lenRb UndC.h rfl) rfl rfl ?_
                | refine xvalP (pv_lenV UndC.h rfl) rfl rfl ?_
                | refine xvalP (pv_not rfl) rfl rfl ?_
                | refine xvalP (pv_nilCheck rfl) rfl rfl ?_
                | refine xvalP (pv_nilCheckE rfl) rfl rfl ?_
                | refine xvalP (pv_nilCheckF rfl) rfl rfl ?_
                | refine xvalP (pv_extract rfl rfl) rfl rfl ?_
                | refine xvalP (qv_field FldC.h rfl rfl) rfl rfl ?_
                | refine xvalP (pv_indexAddr UndC.h ShpC.h rfl rfl rfl (map_at (by assumption))) rfl rfl ?_
                | refine xvalP (pv_indexAddrB UndC.h ShpC.h rfl rfl (Int.toNat_of_nonneg (by decide)).symm (by decide)) rfl rfl ?_
                | refine xvalP (pv_indexAddrE UndC.h ShpC.h rfl rfl (Int.toNat_of_nonneg (by decide)).symm (by decide)) rfl rfl ?_
                | refine xvalP (pv_eqB UndC.h rfl rfl) rfl rfl ?_
                | refine xvalP (pv_neB UndC.h rfl rfl) rfl rfl ?_
                | refine xvalP (pv_convI UndC.h UndC.h rfl) rfl rfl ?_
                | refine xvalP (pv_buildC StrC.h rfl rfl) rfl rfl ?_
                | refine xalloc InfC.h rfl rfl fun _ => ?_
                | refine xbuildSliceC UndC.h InfC.h rfl rfl rfl rfl rfl rfl fun _ => ?_
                | refine xvalP (pv_makeFuncC rfl) rfl rfl ?_
                | refine xbox rfl rfl rfl rfl fun _ => ?_
                | refine xstore 0 ShpC.h rfl rfl rfl rfl rfl rfl rfl ?_
                | refine xstore 1 ShpC.h rfl rfl rfl rfl rfl rfl rfl ?_
                | refine xstore 2 ShpC.h rfl rfl rfl rfl rfl rfl rfl ?_
                | refine xstore 3 ShpC.h rfl rfl rfl rfl rfl rfl rfl ?_
                | refine xstore 4 ShpC.h rfl rfl rfl rfl rfl rfl rfl ?_
                | refine xskip rfl rfl ?_
                | refine xskip0 rfl ?_
                | refine xcondT rfl ?_
                | refine xcondF rfl ?_
                | refine xskipc ?_
                | refine xexit ?_
                | refine xretc ?_
                | refine xin_normal ?_
                | refine xin_ret ?_
                | refine xthen_exit ?_
                | refine xthen_ret ?_
                | refine xin_same rfl ?_
                | refine xin_other rfl ?_
            refine xcondD rfl (fun h7 => ?_) (fun h7 => ?_)
            · have e7 : (if d.toNat = 110 then 10 else d) = (10 : UInt8) := if_pos (by omega)
              rw [e7] at hr hfs
              repeat
                first
                | refine xseq ?_
                | first
                  | refine xregion ?_
                  | refine xvalP (pv_move rfl) rfl rfl ?_
                  | refine xvalP (pv_assign rfl) rfl rfl ?_
                  | refine xvalP (pv_add1 rfl rfl (by omega)) rfl rfl ?_
                  | refine xvalP (pv_sub1 rfl rfl (by omega)) rfl rfl ?_
                  | refine xvalP (pv_bin2 rfl rfl rfl) rfl rfl ?_
                  | refine xnil ?_
                  | refine xthen ?_
                  | refine xblock ?_
                  | refine xval (qv_load ShpC.h rfl rfl rfl) rfl rfl ?_
                  | refine xvalP (qv_fieldAddrB FldC.h rfl) rfl rfl ?_
                  | refine xvalP (qv_fieldAddrE FldC.h rfl) rfl rfl ?_
                  | refine xval (qv_loadB 0 ShpC.h rfl rfl rfl rfl) rfl rfl ?_
                  | refine xval (qv_loadB 1 ShpC.h rfl rfl rfl rfl) rfl rfl ?_
                  | refine xval (qv_loadB 2 ShpC.h rfl rfl rfl rfl) rfl rfl ?_
                  | refine xval (qv_loadB 3 ShpC.h rfl rfl rfl rfl) rfl rfl ?_
                  | refine xval (qv_loadB 4 ShpC.h rfl rfl rfl rfl) rfl rfl ?_
                  | refine xvalP (pv_pick rfl rfl) rfl rfl ?_
                  | refine xvalP (pv_len UndC.h rfl rfl) rfl rfl ?_
                  | refine xvalP (pv_lenS UndC.h rfl) rfl rfl ?_
                  | refine xvalP (pv_lenRb UndC.h rfl) rfl rfl ?_
                  | refine xvalP (pv_lenV UndC.h rfl) rfl rfl ?_
                  | refine xvalP (pv_not rfl) rfl rfl ?_
                  | refine xvalP (pv_nilCheck rfl) rfl rfl ?_
                  | refine xvalP (pv_nilCheckE rfl) rfl rfl ?_
                  | refine xvalP (pv_nilCheckF rfl) rfl rfl ?_
                  | refine xvalP (pv_extract rfl rfl) rfl rfl ?_
                  | refine xvalP (qv_field FldC.h rfl rfl) rfl rfl ?_
                  | refine xvalP (pv_indexAddr UndC.h ShpC.h rfl rfl rfl (map_at (by assumption))) rfl rfl ?_
                  | refine xvalP (pv_indexAddrB UndC.h ShpC.h rfl rfl (Int.toNat_of_nonneg (by decide)).symm (by decide)) rfl rfl ?_
                  | refine xvalP (pv_indexAddrE UndC.h ShpC.h rfl rfl (Int.toNat_of_nonneg (by decide)).symm (by decide)) rfl rfl ?_
                  | refine xvalP (pv_eqB UndC.h rfl rfl) rfl rfl ?_
                  | refine xvalP (pv_neB UndC.h rfl rfl) rfl rfl ?_
                  | refine xvalP (pv_convI UndC.h UndC.h rfl) rfl rfl ?_
                  | refine xvalP (pv_buildC StrC.h rfl rfl) rfl rfl ?_
                  | refine xalloc InfC.h rfl rfl fun _ => ?_
                  | refine xbuildSliceC UndC.h InfC.h rfl rfl rfl rfl rfl rfl fun _ => ?_
                  | refine xvalP (pv_makeFuncC rfl) rfl rfl ?_
                  | refine xbox rfl rfl rfl rfl fun _ => ?_
                  | refine xstore 0 ShpC.h rfl rfl rfl rfl rfl rfl rfl ?_
                  | refine xstore 1 ShpC.h rfl rfl rfl rfl rfl rfl rfl ?_
                  | refine xstore 2 ShpC.h rfl rfl rfl rfl rfl rfl rfl ?_
                  | refine xstore 3 ShpC.h rfl rfl rfl rfl rfl rfl rfl ?_
                  | refine xstore 4 ShpC.h rfl rfl rfl rfl rfl rfl rfl ?_
                  | refine xskip rfl rfl ?_
                  | refine xskip0 rfl ?_
                  | refine xcondT rfl ?_
                  | refine xcondF rfl ?_
                  | refine xskipc ?_
                  | refine xexit ?_
                  | refine xretc ?_
                  | refine xin_normal ?_
                  | refine xin_ret ?_
                  | refine xthen_exit ?_
                  | refine xthen_ret ?_
                  | refine xin_same rfl ?_
                  | refine xin_other rfl ?_
              refine xappend UndC.h InfC.h rfl 1 rfl rfl (.refl _) rfl (by simp) rfl rfl ⟨by simp [maxLen]; omega, by simp; omega⟩ fun id2 => ?_
              repeat
                first
                | refine xseq ?_
                | first
                  | refine xregion ?_
                  | refine xvalP (pv_move rfl) rfl rfl ?_
                  | refine xvalP (pv_assign rfl) rfl rfl ?_
                  | refine xvalP (pv_add1 rfl rfl (by omega)) rfl rfl ?_
                  | refine xvalP (pv_sub1 rfl rfl (by omega)) rfl rfl ?_
                  | refine xvalP (pv_bin2 rfl rfl rfl) rfl rfl ?_
                  | refine xnil ?_
                  | refine xthen ?_
                  | refine xblock ?_
                  | refine xval (qv_load ShpC.h rfl rfl rfl) rfl rfl ?_
                  | refine xvalP (qv_fieldAddrB FldC.h rfl) rfl rfl ?_
                  | refine xvalP (qv_fieldAddrE FldC.h rfl) rfl rfl ?_
                  | refine xval (qv_loadB 0 ShpC.h rfl rfl rfl rfl) rfl rfl ?_
                  | refine xval (qv_loadB 1 ShpC.h rfl rfl rfl rfl) rfl rfl ?_
                  | refine xval (qv_loadB 2 ShpC.h rfl rfl rfl rfl) rfl rfl ?_
                  | refine xval (qv_loadB 3 ShpC.h rfl rfl rfl rfl) rfl rfl ?_
                  | refine xval (qv_loadB 4 ShpC.h rfl rfl rfl rfl) rfl rfl ?_
                  | refine xvalP (pv_pick rfl rfl) rfl rfl ?_
                  | refine xvalP (pv_len UndC.h rfl rfl) rfl rfl ?_
                  | refine xvalP (pv_lenS UndC.h rfl) rfl rfl ?_
                  | refine xvalP (pv_lenRb UndC.h rfl) rfl rfl ?_
                  | refine xvalP (pv_lenV UndC.h rfl) rfl rfl ?_
                  | refine xvalP (pv_not rfl) rfl rfl ?_
                  | refine xvalP (pv_nilCheck rfl) rfl rfl ?_
                  | refine xvalP (pv_nilCheckE rfl) rfl rfl ?_
                  | refine xvalP (pv_nilCheckF rfl) rfl rfl ?_
                  | refine xvalP (pv_extract rfl rfl) rfl rfl ?_
                  | refine xvalP (qv_field FldC.h rfl rfl) rfl rfl ?_
                  | refine xvalP (pv_indexAddr UndC.h ShpC.h rfl rfl rfl (map_at (by assumption))) rfl rfl ?_
                  | refine xvalP (pv_indexAddrB UndC.h ShpC.h rfl rfl (Int.toNat_of_nonneg (by decide)).symm (by decide)) rfl rfl ?_
                  | refine xvalP (pv_indexAddrE UndC.h ShpC.h rfl rfl (Int.toNat_of_nonneg (by decide)).symm (by decide)) rfl rfl ?_
                  | refine xvalP (pv_eqB UndC.h rfl rfl) rfl rfl ?_
                  | refine xvalP (pv_neB UndC.h rfl rfl) rfl rfl ?_
                  | refine xvalP (pv_convI UndC.h UndC.h rfl) rfl rfl ?_
                  | refine xvalP (pv_buildC StrC.h rfl rfl) rfl rfl ?_
                  | refine xalloc InfC.h rfl rfl fun _ => ?_
                  | refine xbuildSliceC UndC.h InfC.h rfl rfl rfl rfl rfl rfl fun _ => ?_
                  | refine xvalP (pv_makeFuncC rfl) rfl rfl ?_
                  | refine xbox rfl rfl rfl rfl fun _ => ?_
                  | refine xstore 0 ShpC.h rfl rfl rfl rfl rfl rfl rfl ?_
                  | refine xstore 1 ShpC.h rfl rfl rfl rfl rfl rfl rfl ?_
                  | refine xstore 2 ShpC.h rfl rfl rfl rfl rfl rfl rfl ?_
                  | refine xstore 3 ShpC.h rfl rfl rfl rfl rfl rfl rfl ?_
                  | refine xstore 4 ShpC.h rfl rfl rfl rfl rfl rfl rfl ?_
                  | refine xskip rfl rfl ?_
                  | refine xskip0 rfl ?_
                  | refine xcondT rfl ?_
                  | refine xcondF rfl ?_
                  | refine xskipc ?_
                  | refine xexit ?_
                  | refine xretc ?_
                  | refine xin_normal ?_
                  | refine xin_ret ?_
                  | refine xthen_exit ?_
                  | refine xthen_ret ?_
                  | refine xin_same rfl ?_
                  | refine xin_other rfl ?_
              refine xagain ⟨k + 2, out, text ++ [10], id2, oid, by omega, rfl, by omega, by simp; omega, hr, rfl⟩ (by omega) ⟨by (repeat (first | exact ImpT.nil _ | refine ImpT.cons rfl (by first | with_reducible exact Wk.refl _ | exact Wk.nil_own _ | exact Wk.nil_pl _ | with_reducible exact Wk.tok _ _ _ | exact Wk.tok _ _ _ | exact Wk.eq (by first | rfl | (simp [eb, cellsS, ofV]; done) | (simp [eb, cellsS, ofV]; omega))) ?_)), (SubM.of (by repeat (first | with_reducible exact SubB.refl _ | exact SubB.nil _ | refine SubB.keep rfl rfl (by first | with_reducible exact WkL.refl _ | ((repeat (first | exact WkL.nil | refine WkL.cons (by first | with_reducible exact Wk.refl _ | exact Wk.nil_own _ | exact Wk.nil_pl _ | with_reducible exact Wk.tok _ _ _ | exact Wk.tok _ _ _ | exact Wk.eq (by first | rfl | (simp [eb, cellsS, ofV]; done) | (simp [eb, cellsS, ofV]; omega))) ?_)); done) | exact WkL.refl _) ?_ | refine SubB.drop ?_)) (by repeat (first | exact SubT.nil _ | refine SubT.add ?_ | (refine SubT.keep ?_ ?_; focus (first | with_reducible rfl | (simp [eb, cellsS, ofV]; done))) | refine SubT.drop ?_)))⟩
            · have e7 : (if d.toNat = 110 then 10 else d) = d := if_neg (by omega)
              rw [e7] at hr hfs
              repeat
                first
                | refine xseq ?_
                | first
                  | refine xregion ?_
                  | refine xvalP (pv_move rfl) rfl rfl ?_
                  | refine xvalP (pv_assign rfl) rfl rfl ?_
                  | refine xvalP (pv_add1 rfl rfl (by omega)) rfl rfl ?_
                  | refine xvalP (pv_sub1 rfl rfl (by omega)) rfl rfl ?_
                  | refine xvalP (pv_bin2 rfl rfl rfl) rfl rfl ?_
                  | refine xnil ?_
                  | refine xthen ?_
                  | refine xblock ?_
                  | refine xval (qv_load ShpC.h rfl rfl rfl) rfl rfl ?_
                  | refine xvalP (qv_fieldAddrB FldC.h rfl) rfl rfl ?_
                  | refine xvalP (qv_fieldAddrE FldC.h rfl) rfl rfl ?_
                  | refine xval (qv_loadB 0 ShpC.h rfl rfl rfl rfl) rfl rfl ?_
                  | refine xval (qv_loadB 1 ShpC.h rfl rfl rfl rfl) rfl rfl ?_
                  | refine xval (qv_loadB 2 ShpC.h rfl rfl rfl rfl) rfl rfl ?_
                  | refine xval (qv_loadB 3 ShpC.h rfl rfl rfl rfl) rfl rfl ?_
                  | refine xval (qv_loadB 4 ShpC.h rfl rfl rfl rfl) rfl rfl ?_
                  | refine xvalP (pv_pick rfl rfl) rfl rfl ?_
                  | refine xvalP (pv_len UndC.h rfl rfl) rfl rfl ?_
                  | refine xvalP (pv_lenS UndC.h rfl) rfl rfl ?_
                  | refine xvalP (pv_lenRb UndC.h rfl) rfl rfl ?_
                  | refine xvalP (pv_lenV UndC.h rfl) rfl rfl ?_
                  | refine xvalP (pv_not rfl) rfl rfl ?_
                  | refine xvalP (pv_nilCheck rfl) rfl rfl ?_
                  | refine xvalP (pv_nilCheckE rfl) rfl rfl ?_
                  | refine xvalP (pv_nilCheckF rfl) rfl rfl ?_
                  | refine xvalP (pv_extract rfl rfl) rfl rfl ?_
                  | refine xvalP (qv_field FldC.h rfl rfl) rfl rfl ?_
                  | refine xvalP (pv_indexAddr UndC.h ShpC.h rfl rfl rfl (map_at (by assumption))) rfl rfl ?_
                  | refine xvalP (pv_indexAddrB UndC.h ShpC.h rfl rfl (Int.toNat_of_nonneg (by decide)).symm (by decide)) rfl rfl ?_
                  | refine xvalP (pv_indexAddrE UndC.h ShpC.h rfl rfl (Int.toNat_of_nonneg (by decide)).symm (by decide)) rfl rfl ?_
                  | refine xvalP (pv_eqB UndC.h rfl rfl) rfl rfl ?_
                  | refine xvalP (pv_neB UndC.h rfl rfl) rfl rfl ?_
                  | refine xvalP (pv_convI UndC.h UndC.h rfl) rfl rfl ?_
                  | refine xvalP (pv_buildC StrC.h rfl rfl) rfl rfl ?_
                  | refine xalloc InfC.h rfl rfl fun _ => ?_
                  | refine xbuildSliceC UndC.h InfC.h rfl rfl rfl rfl rfl rfl fun _ => ?_
                  | refine xvalP (pv_makeFuncC rfl) rfl rfl ?_
                  | refine xbox rfl rfl rfl rfl fun _ => ?_
                  | refine xstore 0 ShpC.h rfl rfl rfl rfl rfl rfl rfl ?_
                  | refine xstore 1 ShpC.h rfl rfl rfl rfl rfl rfl rfl ?_
                  | refine xstore 2 ShpC.h rfl rfl rfl rfl rfl rfl rfl ?_
                  | refine xstore 3 ShpC.h rfl rfl rfl rfl rfl rfl rfl ?_
                  | refine xstore 4 ShpC.h rfl rfl rfl rfl rfl rfl rfl ?_
                  | refine xskip rfl rfl ?_
                  | refine xskip0 rfl ?_
                  | refine xcondT rfl ?_
                  | refine xcondF rfl ?_
                  | refine xskipc ?_
                  | refine xexit ?_
                  | refine xretc ?_
                  | refine xin_normal ?_
                  | refine xin_ret ?_
                  | refine xthen_exit ?_
                  | refine xthen_ret ?_
                  | refine xin_same rfl ?_
                  | refine xin_other rfl ?_
              refine xappend UndC.h InfC.h rfl 1 rfl rfl (.refl _) rfl (by simp) rfl rfl ⟨by simp [maxLen]; omega, by simp; omega⟩ fun id2 => ?_
              repeat
                first
                | refine xseq ?_
                | first
                  | refine xregion ?_
                  | refine xvalP (pv_move rfl) rfl rfl ?_
                  | refine xvalP (pv_assign rfl) rfl rfl ?_
                  | refine xvalP (pv_add1 rfl rfl (by omega)) rfl rfl ?_
                  | refine xvalP (pv_sub1 rfl rfl (by omega)) rfl rfl ?_
                  | refine xvalP (pv_bin2 rfl rfl rfl) rfl rfl ?_
                  | refine xnil ?_
                  | refine xthen ?_
                  | refine xblock ?_
                  | refine xval (qv_load ShpC.h rfl rfl rfl) rfl rfl ?_
                  | refine xvalP (qv_fieldAddrB FldC.h rfl) rfl rfl ?_
                  | refine xvalP (qv_fieldAddrE FldC.h rfl) rfl rfl ?_
                  | refine xval (qv_loadB 0 ShpC.h rfl rfl rfl rfl) rfl rfl ?_
                  | refine xval (qv_loadB 1 ShpC.h rfl rfl rfl rfl) rfl rfl ?_
                  | refine xval (qv_loadB 2 ShpC.h rfl rfl rfl rfl) rfl rfl ?_
                  | refine xval (qv_loadB 3 ShpC.h rfl rfl rfl rfl) rfl rfl ?_
                  | refine xval (qv_loadB 4 ShpC.h rfl rfl rfl rfl) rfl rfl ?_
                  | refine xvalP (pv_pick rfl rfl) rfl rfl ?_
                  | refine xvalP (pv_len UndC.h rfl rfl) rfl rfl ?_
                  | refine xvalP (pv_lenS UndC.h rfl) rfl rfl ?_
                  | refine xvalP (pv_lenRb UndC.h rfl) rfl rfl ?_
                  | refine xvalP (pv_lenV UndC.h rfl) rfl rfl ?_
                  | refine xvalP (pv_not rfl) rfl rfl ?_
                  | refine xvalP (pv_nilCheck rfl) rfl rfl ?_
                  | refine xvalP (pv_nilCheckE rfl) rfl rfl ?_
                  | refine xvalP (pv_nilCheckF rfl) rfl rfl ?_
                  | refine xvalP (pv_extract rfl rfl) rfl rfl ?_
                  | refine xvalP (qv_field FldC.h rfl rfl) rfl rfl ?_
                  | refine xvalP (pv_indexAddr UndC.h ShpC.h rfl rfl rfl (map_at (by assumption))) rfl rfl ?_
                  | refine xvalP (pv_indexAddrB UndC.h ShpC.h rfl rfl (Int.toNat_of_nonneg (by decide)).symm (by decide)) rfl rfl ?_
                  | refine xvalP (pv_indexAddrE UndC.h ShpC.h rfl rfl (Int.toNat_of_nonneg (by decide)).symm (by decide)) rfl rfl ?_
                  | refine xvalP (pv_eqB UndC.h rfl rfl) rfl rfl ?_
                  | refine xvalP (pv_neB UndC.h rfl rfl) rfl rfl ?_
                  | refine xvalP (pv_convI UndC.h UndC.h rfl) rfl rfl ?_
                  | refine xvalP (pv_buildC StrC.h rfl rfl) rfl rfl ?_
                  | refine xalloc InfC.h rfl rfl fun _ => ?_
                  | refine xbuildSliceC UndC.h InfC.h rfl rfl rfl rfl rfl rfl fun _ => ?_
                  | refine xvalP (pv_makeFuncC rfl) rfl rfl ?_
                  | refine xbox rfl rfl rfl rfl fun _ => ?_
                  | refine xstore 0 ShpC.h rfl rfl rfl rfl rfl rfl rfl ?_
                  | refine xstore 1 ShpC.h rfl rfl rfl rfl rfl rfl rfl ?_
                  | refine xstore 2 ShpC.h rfl rfl rfl rfl rfl rfl rfl ?_
                  | refine xstore 3 ShpC.h rfl rfl rfl rfl rfl rfl rfl ?_
                  | refine xstore 4 ShpC.h rfl rfl rfl rfl rfl rfl rfl ?_
                  | refine xskip rfl rfl ?_
                  | refine xskip0 rfl ?_
                  | refine xcondT rfl ?_
                  | refine xcondF rfl ?_
                  | refine xskipc ?_
                  | refine xexit ?_
                  | refine xretc ?_
                  | refine xin_normal ?_
                  | refine xin_ret ?_
                  | refine xthen_exit ?_
                  | refine xthen_ret ?_
                  | refine xin_same rfl ?_
                  | refine xin_other rfl ?_
              refine xagain ⟨k + 2, out, text ++ [d], id2, oid, by omega, rfl, by omega, by simp; omega, hr, rfl⟩ (by omega) ⟨by (repeat (first | exact ImpT.nil _ | refine ImpT.cons rfl (by first | with_reducible exact Wk.refl _ | exact Wk.nil_own _ | exact Wk.nil_pl _ | with_reducible exact Wk.tok _ _ _ | exact Wk.tok _ _ _ | exact Wk.eq (by first | rfl | (simp [eb, cellsS]; done) | (simp [eb, cellsS]; omega))) ?_)), (SubM.of (by repeat (first | with_reducible exact SubB.refl _ | exact SubB.nil _ | refine SubB.keep rfl rfl (by first | with_reducible exact WkL.refl _ | ((repeat (first | exact WkL.nil | refine WkL.cons (by first | with_reducible exact Wk.refl _ | exact Wk.nil_own _ | exact Wk.nil_pl _ | with_reducible exact Wk.tok _ _ _ | exact Wk.tok _ _ _ | exact Wk.eq (by first | rfl | (simp [eb, cellsS]; done) | (simp [eb, cellsS]; omega))) ?_)); done) | exact WkL.refl _) ?_ | refine SubB.drop ?_)) (by repeat (first | exact SubT.nil _ | refine SubT.add ?_ | (refine SubT.keep ?_ ?_; focus (first | with_reducible rfl | (simp [eb, cellsS]; done))) | refine SubT.drop ?_)))⟩
  · have hke : k = b.length := by simp at h1; omega
    rw [hke, List.drop_length] at hres
    have hr2 : pGo gs 0 b [] [] = (flushP out text, 0, 0) := by rw [← hres]; rfl
    repeat
      first
      | refine xseq ?_
      | first
        | refine xregion ?_
        | refine xvalP (pv_move rfl) rfl rfl ?_
        | refine xvalP (pv_assign rfl) rfl rfl ?_
        | refine xvalP (pv_add1 rfl rfl (by omega)) rfl rfl ?_
        | refine xvalP (pv_sub1 rfl rfl (by omega)) rfl rfl ?_
        | refine xvalP (pv_bin2 rfl rfl rfl) rfl rfl ?_
        | refine xnil ?_
        | refine xthen ?_
        | refine xblock ?_
        | refine xval (qv_load ShpC.h rfl rfl rfl) rfl rfl ?_
        | refine xvalP (qv_fieldAddrB FldC.h rfl) rfl rfl ?_
        | refine xvalP (qv_fieldAddrE FldC.h rfl) rfl rfl ?_
        | refine xval (qv_loadB 0 ShpC.h rfl rfl rfl rfl) rfl rfl ?_
        | refine xval (qv_loadB 1 ShpC.h rfl rfl rfl rfl) rfl rfl ?_
        | refine xval (qv_loadB 2 ShpC.h rfl rfl rfl rfl) rfl rfl ?_
        | refine xval (qv_loadB 3 ShpC.h rfl rfl rfl rfl) rfl rfl ?_
        | refine xval (qv_loadB 4 ShpC.h rfl rfl rfl rfl) rfl rfl ?_
        | refine xvalP (pv_pick rfl rfl) rfl rfl ?_
        | refine xvalP (pv_len UndC.h rfl rfl) rfl rfl ?_
        | refine xvalP (pv_lenS UndC.h rfl) rfl rfl ?_
        | refine xvalP (pv_lenRb UndC.h rfl) rfl rfl ?_
        | refine xvalP (pv_lenV UndC.h rfl) rfl rfl ?_
        | refine xvalP (pv_not rfl) rfl rfl ?_
        | refine xvalP (pv_nilCheck rfl) rfl rfl ?_
        | refine xvalP (pv_nilCheckE rfl) rfl rfl ?_
        | refine xvalP (pv_nilCheckF rfl) rfl rfl ?_
        | refine xvalP (pv_extract rfl rfl) rfl rfl ?_
        | refine xvalP (qv_field FldC.h rfl rfl) rfl rfl ?_
        | refine xvalP (pv_indexAddr UndC.h ShpC.h rfl rfl rfl (map_at (by assumption))) rfl rfl ?_
        | refine xvalP (pv_indexAddrB UndC.h ShpC.h rfl rfl (Int.toNat_of_nonneg (by decide)).symm (by decide)) rfl rfl ?_
        | refine xvalP (pv_indexAddrE UndC.h ShpC.h rfl rfl (Int.toNat_of_nonneg (by decide)).symm (by decide)) rfl rfl ?_
        | refine xvalP (pv_eqB UndC.h rfl rfl) rfl rfl ?_
        | refine xvalP (pv_neB UndC.h rfl rfl) rfl rfl ?_
        | refine xvalP (pv_convI UndC.h UndC.h rfl) rfl rfl ?_
        | refine xvalP (pv_buildC StrC.h rfl rfl) rfl rfl ?_
        | refine xalloc InfC.h rfl rfl fun _ => ?_
        | refine xbuildSliceC UndC.h InfC.h rfl rfl rfl rfl rfl rfl fun _ => ?_
        | refine xvalP (pv_makeFuncC rfl) rfl rfl ?_
        | refine xbox rfl rfl rfl rfl fun _ => ?_
        | refine xstore 0 ShpC.h rfl rfl rfl rfl rfl rfl rfl ?_
        | refine xstore 1 ShpC.h rfl rfl rfl rfl rfl rfl rfl ?_
        | refine xstore 2 ShpC.h rfl rfl rfl rfl rfl rfl rfl ?_
        | refine xstore 3 ShpC.h rfl rfl rfl rfl rfl rfl rfl ?_
        | refine xstore 4 ShpC.h rfl rfl rfl rfl rfl rfl rfl ?_
        | refine xskip rfl rfl ?_
        | refine xskip0 rfl ?_
        | refine xcondT rfl ?_
        | refine xcondF rfl ?_
        | refine xskipc ?_
        | refine xexit ?_
        | refine xretc ?_
        | refine xin_normal ?_
        | refine xin_ret ?_
        | refine xthen_exit ?_
        | refine xthen_ret ?_
        | refine xin_same rfl ?_
        | refine xin_other rfl ?_
    refine xcallV (flush_any _ _ tid oid text out (by omega)) (Fb := [BFl _ _ _]) (Ft := []) Try.func22 (by kernel_rfl) rfl rfl .nil rfl (.perm ((List.Perm.refl _).trans (List.perm_append_comm (l₁ := [BFl _ _ _]))) (.refl _)) rfl rfl ?_
    rintro _ _ _ ⟨tid2, oid2, rfl, rfl, rfl⟩
    repeat
      first
      | refine xseq ?_
      | first
        | refine xregion ?_
        | refine xvalP (pv_move rfl) rfl rfl ?_
        | refine xvalP (pv_assign rfl) rfl rfl ?_
        | refine xvalP (pv_add1 rfl rfl (by omega)) rfl rfl ?_
        | refine xvalP (pv_sub1 rfl rfl (by omega)) rfl rfl ?_
        | refine xvalP (pv_bin2 rfl rfl rfl) rfl rfl ?_
        | refine xnil ?_
        | refine xthen ?_
        | refine xblock ?_
        | refine xval (qv_load ShpC.h rfl rfl rfl) rfl rfl ?_
        | refine xvalP (qv_fieldAddrB FldC.h rfl) rfl rfl ?_
        | refine xvalP (qv_fieldAddrE FldC.h rfl) rfl rfl ?_
        | refine xval (qv_loadB 0 ShpC.h rfl rfl rfl rfl) rfl rfl ?_
        | refine xval (qv_loadB 1 ShpC.h rfl rfl rfl rfl) rfl rfl ?_
        | refine xval (qv_loadB 2 ShpC.h rfl rfl rfl rfl) rfl rfl ?_
        | refine xval (qv_loadB 3 ShpC.h rfl rfl rfl rfl) rfl rfl ?_
        | refine xval (qv_loadB 4 ShpC.h rfl rfl rfl rfl) rfl rfl ?_
        | refine xvalP (pv_pick rfl rfl) rfl rfl ?_
        | refine xvalP (pv_len UndC.h rfl rfl) rfl rfl ?_
        | refine xvalP (pv_lenS UndC.h rfl) rfl rfl ?_
        | refine xvalP (pv_lenRb UndC.h rfl) rfl rfl ?_
        | refine xvalP (pv_lenV UndC.h rfl) rfl rfl ?_
        | refine xvalP (pv_not rfl) rfl rfl ?_
        | refine xvalP (pv_nilCheck rfl) rfl rfl ?_
        | refine xvalP (pv_nilCheckE rfl) rfl rfl ?_
        | refine xvalP (pv_nilCheckF rfl) rfl rfl ?_
        | refine xvalP (pv_extract rfl rfl) rfl rfl ?_
        | refine xvalP (qv_field FldC.h rfl rfl) rfl rfl ?_
        | refine xvalP (pv_indexAddr UndC.h ShpC.h rfl rfl rfl (map_at (by assumption))) rfl rfl ?_
        | refine xvalP (pv_indexAddrB UndC.h ShpC.h rfl rfl (Int.toNat_of_nonneg (by decide)).symm (by decide)) rfl rfl ?_
        | refine xvalP (pv_indexAddrE UndC.h ShpC.h rfl rfl (Int.toNat_of_nonneg (by decide)).symm (by decide)) rfl rfl ?_
        | refine xvalP (pv_eqB UndC.h rfl rfl) rfl rfl ?_
        | refine xvalP (pv_neB UndC.h rfl rfl) rfl rfl ?_
        | refine xvalP (pv_convI UndC.h UndC.h rfl) rfl rfl ?_
        | refine xvalP (pv_buildC StrC.h rfl rfl) rfl rfl ?_
        | refine xalloc InfC.h rfl rfl fun _ => ?_
        | refine xbuildSliceC UndC.h InfC.h rfl rfl rfl rfl rfl rfl fun _ => ?_
        | refine xvalP (pv_makeFuncC rfl) rfl rfl ?_
        | refine xbox rfl rfl rfl rfl fun _ => ?_
        | refine xstore 0 ShpC.h rfl rfl rfl rfl rfl rfl rfl ?_
        | refine xstore 1 ShpC.h rfl rfl rfl rfl rfl rfl rfl ?_
        | refine xstore 2 ShpC.h rfl rfl rfl rfl rfl rfl rfl ?_
        | refine xstore 3 ShpC.h rfl rfl rfl rfl rfl rfl rfl ?_
        | refine xstore 4 ShpC.h rfl rfl rfl rfl rfl rfl rfl ?_
        | refine xskip rfl rfl ?_
        | refine xskip0 rfl ?_
        | refine xcondT rfl ?_
        | refine xcondF rfl ?_
        | refine xskipc ?_
        | refine xexit ?_
        | refine xretc ?_
        | refine xin_normal ?_
        | refine xin_ret ?_
        | refine xthen_exit ?_
        | refine xthen_ret ?_
        | refine xin_same rfl ?_
        | refine xin_other rfl ?_
    exact xret3 hg rfl rfl (.refl _) rfl (.refl _) rfl (.eq rfl) (bx' := []) (tk' := [⟨oid2, 37, 3, (flushP out text).length⟩]) (SubM.of (by repeat (first | with_reducible exact SubB.refl _ | exact SubB.nil _ | refine SubB.keep rfl rfl (by first | with_reducible exact WkL.refl _ | ((repeat (first | exact WkL.nil | refine WkL.cons (by first | with_reducible exact Wk.refl _ | exact Wk.nil_own _ | exact Wk.nil_pl _ | with_reducible exact Wk.tok _ _ _ | exact Wk.tok _ _ _ | exact Wk.eq (by first | rfl | (simp []; done) | (simp []; omega))) ?_)); done) | exact WkL.refl _) ?_ | refine SubB.drop ?_)) (by repeat (first | exact SubT.nil _ | refine SubT.add ?_ | (refine SubT.keep ?_ ?_; focus (first | with_reducible rfl | (simp []; done))) | refine SubT.drop ?_))) ⟨oid2, by rw [hr2]; rfl, rfl, by rw [hr2]⟩
end Go.Proofs.Ytcekiclbfjfagaa
