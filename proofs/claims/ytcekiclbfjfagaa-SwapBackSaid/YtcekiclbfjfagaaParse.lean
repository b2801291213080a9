/- The walks of swap.Parse and its closures. -/
import Derived.Test.YtcekiclbfjfagaaSwap
namespace Go.Proofs.Ytcekiclbfjfagaa

def flushP (out : List PartT) (text : List UInt8) : List PartT := if text = [] then out else out ++ [(0, 0, text)]
abbrev txS (id : Option (Nat × Nat)) (l : List UInt8) : Sd := .sl 1 (some id) (l.map eb)
abbrev ouS (id : Option (Nat × Nat)) (l : List PartT) : Sd := .sl 3 (some id) (l.map encP)
abbrev BTx (b : Nat) (id : Option (Nat × Nat)) (l : List UInt8) : Bx := ⟨b, 23, [txS id l]⟩
abbrev BOu (b : Nat) (id : Option (Nat × Nat)) (l : List PartT) : Bx := ⟨b, 22, [ouS id l]⟩
abbrev TTx (id : Option (Nat × Nat)) (n : Nat) : Tk := ⟨id, 5, 1, n⟩
abbrev TOu (id : Option (Nat × Nat)) (n : Nat) : Tk := ⟨id, 37, 3, n⟩
theorem wkP (tid : Option (Option (Nat × Nat))) (l : List UInt8) : WkL [Sd.v (.int .i64 0), .v (.int .i64 0), .sl 1 tid (l.map eb)] (encP (0, 0, l)) := .cons (.refl _) (.cons (.refl _) (.cons (.tok _ _ _) .nil))

set_option maxHeartbeats 1000000 in
theorem flush_any (bt bo : Nat) (tid oid : Option (Nat × Nat)) (text : List UInt8) (out : List PartT) (ho : out.length ≤ 100000) :
    Con Try.prog 22 [.v (.pointer (some ⟨bt, 0, none⟩)), .v (.pointer (some ⟨bo, 0, none⟩))] [BTx bt tid text, BOu bo oid out] [TTx tid text.length, TOu oid out.length]
      (fun r bx tk => ∃ tid' oid', r = .tup [] ∧ bx = [BTx bt tid' [], BOu bo oid' (flushP out text)] ∧ tk = [TTx tid' 0, TOu oid' (flushP out text).length]) := by
  refine xenter Try.func22 rfl rfl fun g hg => ?_
  simp only [Try.ntmps22, slots]
  repeat
    first
    | refine xseq ?_
    | first
      | refine xregion ?_
      | refine xvalP (pv_move rfl) rfl rfl ?_
      | refine xvalP (pv_assign rfl) rfl rfl ?_
      | refine xvalP (pv_add1 rfl rfl (by omega)) rfl rfl ?_
      | refine xvalP (pv_sub1 rfl rfl (by omega)) rfl rfl ?_
      | refine xvalP (pv_bin2 rfl rfl rfl) rfl rfl ?_
      | refine xnil ?_
      | refine xthen ?_
      | refine xblock ?_
      | refine xval (qv_load ShpC.h rfl rfl rfl) rfl rfl ?_
      | refine xvalP (qv_fieldAddrB FldC.h rfl) rfl rfl ?_
      | refine xvalP (qv_fieldAddrE FldC.h rfl) rfl rfl ?_
      | refine xval (qv_loadB 0 ShpC.h rfl rfl rfl rfl) rfl rfl ?_
      | refine xval (qv_loadB 1 ShpC.h rfl rfl rfl rfl) rfl rfl ?_
      | refine xval (qv_loadB 2 ShpC.h rfl rfl rfl rfl) rfl rfl ?_
      | refine xval (qv_loadB 3 ShpC.h rfl rfl rfl rfl) rfl rfl ?_
      | refine xval (qv_loadB 4 ShpC.h rfl rfl rfl rfl) rfl rfl ?_
      | refine xvalP (pv_pick rfl rfl) rfl rfl ?_
      | refine xvalP (pv_len UndC.h rfl rfl) rfl rfl ?_
      | refine xvalP (pv_lenS UndC.h rfl) rfl rfl ?_
      | refine xvalP (pv_lenRb UndC.h rfl) rfl rfl ?_
      | refine xvalP (pv_lenV UndC.h rfl) rfl rfl ?_
      | refine xvalP (pv_not rfl) rfl rfl ?_
      | refine xvalP (pv_nilCheck rfl) rfl rfl ?_
      | refine xvalP (pv_nilCheckE rfl) rfl rfl ?_
      | refine xvalP (pv_nilCheckF rfl) rfl rfl ?_
      | refine xvalP (pv_extract rfl rfl) rfl rfl ?_
      | refine xvalP (qv_field FldC.h rfl rfl) rfl rfl ?_
      | refine xvalP (pv_indexAddr UndC.h ShpC.h rfl rfl rfl (map_at (by assumption))) rfl rfl ?_
      | refine xvalP (pv_indexAddrB UndC.h ShpC.h rfl rfl (Int.toNat_of_nonneg (by decide)).symm (by decide)) rfl rfl ?_
      | refine xvalP (pv_indexAddrE UndC.h ShpC.h rfl rfl (Int.toNat_of_nonneg (by decide)).symm (by decide)) rfl rfl ?_
      | refine xvalP (pv_eqB UndC.h rfl rfl) rfl rfl ?_
      | refine xvalP (pv_neB UndC.h rfl rfl) rfl rfl ?_
      | refine xvalP (pv_convI UndC.h UndC.h rfl) rfl rfl ?_
      | refine xvalP (pv_buildC StrC.h rfl rfl) rfl rfl ?_
      | refine xalloc InfC.h rfl rfl fun _ => ?_
      | refine xbuildSliceC UndC.h InfC.h rfl rfl rfl rfl rfl rfl fun _ => ?_
      | refine xvalP (pv_makeFuncC rfl) rfl rfl ?_
      | refine xbox rfl rfl rfl rfl fun _ => ?_
      | refine xstore 0 ShpC.h rfl rfl rfl rfl rfl rfl rfl ?_
      | refine xstore 1 ShpC.h rfl rfl rfl rfl rfl rfl rfl ?_
      | refine xstore 2 ShpC.h rfl rfl rfl rfl rfl rfl rfl ?_
      | refine xstore 3 ShpC.h rfl rfl rfl rfl rfl rfl rfl ?_
      | refine xstore 4 ShpC.h rfl rfl rfl rfl rfl rfl rfl ?_
      | refine xskip rfl rfl ?_
      | refine xskip0 rfl ?_
      | refine xcondT rfl ?_
      | refine xcondF rfl ?_
      | refine xskipc ?_
      | refine xexit ?_
      | refine xretc ?_
      | refine xin_normal ?_
      | refine xin_ret ?_
      | refine xthen_exit ?_
      | refine xthen_ret ?_
      | refine xin_same rfl ?_
      | refine xin_other rfl ?_
  refine xcondD rfl (fun h1 => ?_) (fun h1 => ?_)
  · have hne : text ≠ [] := fun e => by subst e; simp at h1
    have hf : flushP out text = out ++ [(0, 0, text)] := if_neg hne
    repeat
      first
      | refine xseq ?_
      | first
        | refine xregion ?_
        | refine xvalP (pv_move rfl) rfl rfl ?_
        | refine xvalP (pv_assign rfl) rfl rfl ?_
        | refine xvalP (pv_add1 rfl rfl (by omega)) rfl rfl ?_
        | refine xvalP (pv_sub1 rfl rfl (by omega)) rfl rfl ?_
        | refine xvalP (pv_bin2 rfl rfl rfl) rfl rfl ?_
        | refine xnil ?_
        | refine xthen ?_
        | refine xblock ?_
        | refine xval (qv_load ShpC.h rfl rfl rfl) rfl rfl ?_
        | refine xvalP (qv_fieldAddrB FldC.h rfl) rfl rfl ?_
        | refine xvalP (qv_fieldAddrE FldC.h rfl) rfl rfl ?_
        | refine xval (qv_loadB 0 ShpC.h rfl rfl rfl rfl) rfl rfl ?_
        | refine xval (qv_loadB 1 ShpC.h rfl rfl rfl rfl) rfl rfl ?_
        | refine xval (qv_loadB 2 ShpC.h rfl rfl rfl rfl) rfl rfl ?_
        | refine xval (qv_loadB 3 ShpC.h rfl rfl rfl rfl) rfl rfl ?_
        | refine xval (qv_loadB 4 ShpC.h rfl rfl rfl rfl) rfl rfl ?_
        | refine xvalP (pv_pick rfl rfl) rfl rfl ?_
        | refine xvalP (pv_len UndC.h rfl rfl) rfl rfl ?_
        | refine xvalP (pv_lenS UndC.h rfl) rfl rfl ?_
        | refine xvalP (pv_lenRb UndC.h rfl) rfl rfl ?_
        | refine xvalP (pv_lenV UndC.h rfl) rfl rfl ?_
        | refine xvalP (pv_not rfl) rfl rfl ?_
        | refine xvalP (pv_nilCheck rfl) rfl rfl ?_
        | refine xvalP (pv_nilCheckE rfl) rfl rfl ?_
        | refine xvalP (pv_nilCheckF rfl) rfl rfl ?_
        | refine xvalP (pv_extract rfl rfl) rfl rfl ?_
        | refine xvalP (qv_field FldC.h rfl rfl) rfl rfl ?_
        | refine xvalP (pv_indexAddr UndC.h ShpC.h rfl rfl rfl (map_at (by assumption))) rfl rfl ?_
        | refine xvalP (pv_indexAddrB UndC.h ShpC.h rfl rfl (Int.toNat_of_nonneg (by decide)).symm (by decide)) rfl rfl ?_
        | refine xvalP (pv_indexAddrE UndC.h ShpC.h rfl rfl (Int.toNat_of_nonneg (by decide)).symm (by decide)) rfl rfl ?_
        | refine xvalP (pv_eqB UndC.h rfl rfl) rfl rfl ?_
        | refine xvalP (pv_neB UndC.h rfl rfl) rfl rfl ?_
        | refine xvalP (pv_convI UndC.h UndC.h rfl) rfl rfl ?_
        | refine xvalP (pv_buildC StrC.h rfl rfl) rfl rfl ?_
        | refine xalloc InfC.h rfl rfl fun _ => ?_
        | refine xbuildSliceC UndC.h InfC.h rfl rfl rfl rfl rfl rfl fun _ => ?_
        | refine xvalP (pv_makeFuncC rfl) rfl rfl ?_
        | refine xbox rfl rfl rfl rfl fun _ => ?_
        | refine xstore 0 ShpC.h rfl rfl rfl rfl rfl rfl rfl ?_
        | refine xstore 1 ShpC.h rfl rfl rfl rfl rfl rfl rfl ?_
        | refine xstore 2 ShpC.h rfl rfl rfl rfl rfl rfl rfl ?_
        | refine xstore 3 ShpC.h rfl rfl rfl rfl rfl rfl rfl ?_
        | refine xstore 4 ShpC.h rfl rfl rfl rfl rfl rfl rfl ?_
        | refine xskip rfl rfl ?_
        | refine xskip0 rfl ?_
        | refine xcondT rfl ?_
        | refine xcondF rfl ?_
        | refine xskipc ?_
        | refine xexit ?_
        | refine xretc ?_
        | refine xin_normal ?_
        | refine xin_ret ?_
        | refine xthen_exit ?_
        | refine xthen_ret ?_
        | refine xin_same rfl ?_
        | refine xin_other rfl ?_
    refine xappend (rows := out.map encP) (id := oid) (rows2 := [encP (0, 0, text)]) UndC.h InfC.h rfl 2 rfl rfl (.rows (.cons (wkP (some tid) text) .nil)) rfl (by simp) rfl rfl ⟨by simp [maxLen]; omega, by simp; omega⟩ fun id2 => ?_
    repeat
      first
      | refine xseq ?_
      | first
        | refine xregion ?_
        | refine xvalP (pv_move rfl) rfl rfl ?_
        | refine xvalP (pv_assign rfl) rfl rfl ?_
        | refine xvalP (pv_add1 rfl rfl (by omega)) rfl rfl ?_
        | refine xvalP (pv_sub1 rfl rfl (by omega)) rfl rfl ?_
        | refine xvalP (pv_bin2 rfl rfl rfl) rfl rfl ?_
        | refine xnil ?_
        | refine xthen ?_
        | refine xblock ?_
        | refine xval (qv_load ShpC.h rfl rfl rfl) rfl rfl ?_
        | refine xvalP (qv_fieldAddrB FldC.h rfl) rfl rfl ?_
        | refine xvalP (qv_fieldAddrE FldC.h rfl) rfl rfl ?_
        | refine xval (qv_loadB 0 ShpC.h rfl rfl rfl rfl) rfl rfl ?_
        | refine xval (qv_loadB 1 ShpC.h rfl rfl rfl rfl) rfl rfl ?_
        | refine xval (qv_loadB 2 ShpC.h rfl rfl rfl rfl) rfl rfl ?_
        | refine xval (qv_loadB 3 ShpC.h rfl rfl rfl rfl) rfl rfl ?_
        | refine xval (qv_loadB 4 ShpC.h rfl rfl rfl rfl) rfl rfl ?_
        | refine xvalP (pv_pick rfl rfl) rfl rfl ?_
        | refine xvalP (pv_len UndC.h rfl rfl) rfl rfl ?_
        | refine xvalP (pv_lenS UndC.h rfl) rfl rfl ?_
        | refine xvalP (pv_lenRb UndC.h rfl) rfl rfl ?_
        | refine xvalP (pv_lenV UndC.h rfl) rfl rfl ?_
        | refine xvalP (pv_not rfl) rfl rfl ?_
        | refine xvalP (pv_nilCheck rfl) rfl rfl ?_
        | refine xvalP (pv_nilCheckE rfl) rfl rfl ?_
        | refine xvalP (pv_nilCheckF rfl) rfl rfl ?_
        | refine xvalP (pv_extract rfl rfl) rfl rfl ?_
        | refine xvalP (qv_field FldC.h rfl rfl) rfl rfl ?_
        | refine xvalP (pv_indexAddr UndC.h ShpC.h rfl rfl rfl (map_at (by assumption))) rfl rfl ?_
        | refine xvalP (pv_indexAddrB UndC.h ShpC.h rfl rfl (Int.toNat_of_nonneg (by decide)).symm (by decide)) rfl rfl ?_
        | refine xvalP (pv_indexAddrE UndC.h ShpC.h rfl rfl (Int.toNat_of_nonneg (by decide)).symm (by decide)) rfl rfl ?_
        | refine xvalP (pv_eqB UndC.h rfl rfl) rfl rfl ?_
        | refine xvalP (pv_neB UndC.h rfl rfl) rfl rfl ?_
        | refine xvalP (pv_convI UndC.h UndC.h rfl) rfl rfl ?_
        | refine xvalP (pv_buildC StrC.h rfl rfl) rfl rfl ?_
        | refine xalloc InfC.h rfl rfl fun _ => ?_
        | refine xbuildSliceC UndC.h InfC.h rfl rfl rfl rfl rfl rfl fun _ => ?_
        | refine xvalP (pv_makeFuncC rfl) rfl rfl ?_
        | refine xbox rfl rfl rfl rfl fun _ => ?_
        | refine xstore 0 ShpC.h rfl rfl rfl rfl rfl rfl rfl ?_
        | refine xstore 1 ShpC.h rfl rfl rfl rfl rfl rfl rfl ?_
        | refine xstore 2 ShpC.h rfl rfl rfl rfl rfl rfl rfl ?_
        | refine xstore 3 ShpC.h rfl rfl rfl rfl rfl rfl rfl ?_
        | refine xstore 4 ShpC.h rfl rfl rfl rfl rfl rfl rfl ?_
        | refine xskip rfl rfl ?_
        | refine xskip0 rfl ?_
        | refine xcondT rfl ?_
        | refine xcondF rfl ?_
        | refine xskipc ?_
        | refine xexit ?_
        | refine xretc ?_
        | refine xin_normal ?_
        | refine xin_ret ?_
        | refine xthen_exit ?_
        | refine xthen_ret ?_
        | refine xin_same rfl ?_
        | refine xin_other rfl ?_
    exact xret0 hg rfl (bx' := [BTx bt none [], BOu bo id2 (flushP out text)]) (tk' := [TTx none 0, TOu id2 (flushP out text).length]) (SubM.of (by repeat (first | with_reducible exact SubB.refl _ | exact SubB.nil _ | refine SubB.keep rfl rfl (by first | with_reducible exact WkL.refl _ | ((repeat (first | exact WkL.nil | refine WkL.cons (by first | with_reducible exact Wk.refl _ | exact Wk.nil_own _ | exact Wk.nil_pl _ | with_reducible exact Wk.tok _ _ _ | exact Wk.tok _ _ _ | exact Wk.eq (by first | rfl | (simp [hf]; done) | (simp [hf]; omega))) ?_)); done) | exact WkL.refl _) ?_ | refine SubB.drop ?_)) (by repeat (first | exact SubT.nil _ | refine SubT.add ?_ | (refine SubT.keep ?_ ?_; focus (first | with_reducible rfl | (simp [hf]; done))) | refine SubT.drop ?_))) ⟨none, id2, rfl, rfl, rfl⟩ (.inr rfl)
  · have hne : text = [] := by simp at h1; exact h1
    subst hne
    have hf : flushP out [] = out := if_pos rfl
    repeat
      first
      | refine xseq ?_
      | first
        | refine xregion ?_
        | refine xvalP (pv_move rfl) rfl rfl ?_
        | refine xvalP (pv_assign rfl) rfl rfl ?_
        | refine xvalP (pv_add1 rfl rfl (by omega)) rfl rfl ?_
        | refine xvalP (pv_sub1 rfl rfl (by omega)) rfl rfl ?_
        | refine xvalP (pv_bin2 rfl rfl rfl) rfl rfl ?_
        | refine xnil ?_
        | refine xthen ?_
        | refine xblock ?_
        | refine xval (qv_load ShpC.h rfl rfl rfl) rfl rfl ?_
        | refine xvalP (qv_fieldAddrB FldC.h rfl) rfl rfl ?_
        | refine xvalP (qv_fieldAddrE FldC.h rfl) rfl rfl ?_
        | refine xval (qv_loadB 0 ShpC.h rfl rfl rfl rfl) rfl rfl ?_
        | refine xval (qv_loadB 1 ShpC.h rfl rfl rfl rfl) rfl rfl ?_
        | refine xval (qv_loadB 2 ShpC.h rfl rfl rfl rfl) rfl rfl ?_
        | refine xval (qv_loadB 3 ShpC.h rfl rfl rfl rfl) rfl rfl ?_
        | refine xval (qv_loadB 4 ShpC.h rfl rfl rfl rfl) rfl rfl ?_
        | refine xvalP (pv_pick rfl rfl) rfl rfl ?_
        | refine xvalP (pv_len UndC.h rfl rfl) rfl rfl ?_
        | refine xvalP (pv_lenS UndC.h rfl) rfl rfl ?_
        | refine xvalP (pv_lenRb UndC.h rfl) rfl rfl ?_
        | refine xvalP (pv_lenV UndC.h rfl) rfl rfl ?_
        | refine xvalP (pv_not rfl) rfl rfl ?_
        | refine xvalP (pv_nilCheck rfl) rfl rfl ?_
        | refine xvalP (pv_nilCheckE rfl) rfl rfl ?_
        | refine xvalP (pv_nilCheckF rfl) rfl rfl ?_
        | refine xvalP (pv_extract rfl rfl) rfl rfl ?_
        | refine xvalP (qv_field FldC.h rfl rfl) rfl rfl ?_
        | refine xvalP (pv_indexAddr UndC.h ShpC.h rfl rfl rfl (map_at (by assumption))) rfl rfl ?_
        | refine xvalP (pv_indexAddrB UndC.h ShpC.h rfl rfl (Int.toNat_of_nonneg (by decide)).symm (by decide)) rfl rfl ?_
        | refine xvalP (pv_indexAddrE UndC.h ShpC.h rfl rfl (Int.toNat_of_nonneg (by decide)).symm (by decide)) rfl rfl ?_
        | refine xvalP (pv_eqB UndC.h rfl rfl) rfl rfl ?_
        | refine xvalP (pv_neB UndC.h rfl rfl) rfl rfl ?_
        | refine xvalP (pv_convI UndC.h UndC.h rfl) rfl rfl ?_
        | refine xvalP (pv_buildC StrC.h rfl rfl) rfl rfl ?_
        | refine xalloc InfC.h rfl rfl fun _ => ?_
        | refine xbuildSliceC UndC.h InfC.h rfl rfl rfl rfl rfl rfl fun _ => ?_
        | refine xvalP (pv_makeFuncC rfl) rfl rfl ?_
        | refine xbox rfl rfl rfl rfl fun _ => ?_
        | refine xstore 0 ShpC.h rfl rfl rfl rfl rfl rfl rfl ?_
        | refine xstore 1 ShpC.h rfl rfl rfl rfl rfl rfl rfl ?_
        | refine xstore 2 ShpC.h rfl rfl rfl rfl rfl rfl rfl ?_
        | refine xstore 3 ShpC.h rfl rfl rfl rfl rfl rfl rfl ?_
        | refine xstore 4 ShpC.h rfl rfl rfl rfl rfl rfl rfl ?_
        | refine xskip rfl rfl ?_
        | refine xskip0 rfl ?_
        | refine xcondT rfl ?_
        | refine xcondF rfl ?_
        | refine xskipc ?_
        | refine xexit ?_
        | refine xretc ?_
        | refine xin_normal ?_
        | refine xin_ret ?_
        | refine xthen_exit ?_
        | refine xthen_ret ?_
        | refine xin_same rfl ?_
        | refine xin_other rfl ?_
    exact xret0 hg rfl (.refl _ _) ⟨tid, oid, rfl, by rw [hf], by rw [hf]; rfl⟩ (.inr rfl)

abbrev BFl (b bt bo : Nat) : Bx := ⟨b, 1, [.v (.func (.func 22) #[] #[.pointer (some ⟨bt, 0, none⟩), .pointer (some ⟨bo, 0, none⟩)])]⟩
theorem flushP_le (out : List PartT) (text : List UInt8) : (flushP out text).length ≤ out.length + 1 := by unfold flushP; split <;> simp
set_option maxHeartbeats 1000000 in
theorem group_any (gr : Int) (bf bt bo : Nat) (tid oid : Option (Nat × Nat)) (text : List UInt8) (out : List PartT) (ho : out.length ≤ 99999) :
    Con Try.prog 23 [.v (.int .i64 gr), .v (.pointer (some ⟨bf, 0, none⟩)), .v (.pointer (some ⟨bo, 0, none⟩))] [BFl bf bt bo, BTx bt tid text, BOu bo oid out] [TTx tid text.length, TOu oid out.length]
      (fun r bx tk => ∃ tid' oid', r = .tup [] ∧ bx = [BFl bf bt bo, BTx bt tid' [], BOu bo oid' (flushP out text ++ [(1, gr, [])])] ∧ tk = [TTx tid' 0, TOu oid' (flushP out text ++ [(1, gr, [])]).length]) := by
  have hfl := flushP_le out text
  refine xenter Try.func23 rfl rfl fun g hg => ?_
  simp only [Try.ntmps23, slots]
  repeat
    first
    | refine xseq ?_
    | first
      | refine xregion ?_
      | refine xvalP (pv_move rfl) rfl rfl ?_
      | refine xvalP (pv_assign rfl) rfl rfl ?_
      | refine xvalP (pv_add1 rfl rfl (by omega)) rfl rfl ?_
      | refine xvalP (pv_sub1 rfl rfl (by omega)) rfl rfl ?_
      | refine xvalP (pv_bin2 rfl rfl rfl) rfl rfl ?_
      | refine xnil ?_
      | refine xthen ?_
      | refine xblock ?_
      | refine xval (qv_load ShpC.h rfl rfl rfl) rfl rfl ?_
      | refine xvalP (qv_fieldAddrB FldC.h rfl) rfl rfl ?_
      | refine xvalP (qv_fieldAddrE FldC.h rfl) rfl rfl ?_
      | refine xval (qv_loadB 0 ShpC.h rfl rfl rfl rfl) rfl rfl ?_
      | refine xval (qv_loadB 1 ShpC.h rfl rfl rfl rfl) rfl rfl ?_
      | refine xval (qv_loadB 2 ShpC.h rfl rfl rfl rfl) rfl rfl ?_
      | refine xval (qv_loadB 3 ShpC.h rfl rfl rfl rfl) rfl rfl ?_
      | refine xval (qv_loadB 4 ShpC.h rfl rfl rfl rfl) rfl rfl ?_
      | refine xvalP (pv_pick rfl rfl) rfl rfl ?_
      | refine xvalP (pv_len UndC.h rfl rfl) rfl rfl ?_
      | refine xvalP (pv_lenS UndC.h rfl) rfl rfl ?_
      | refine xvalP (pv_lenRb UndC.h rfl) rfl rfl ?_
      | refine xvalP (pv_lenV UndC.h rfl) rfl rfl ?_
      | refine xvalP (pv_not rfl) rfl rfl ?_
      | refine xvalP (pv_nilCheck rfl) rfl rfl ?_
      | refine xvalP (pv_nilCheckE rfl) rfl rfl ?_
      | refine xvalP (pv_nilCheckF rfl) rfl rfl ?_
      | refine xvalP (pv_extract rfl rfl) rfl rfl ?_
      | refine xvalP (qv_field FldC.h rfl rfl) rfl rfl ?_
      | refine xvalP (pv_indexAddr UndC.h ShpC.h rfl rfl rfl (map_at (by assumption))) rfl rfl ?_
      | refine xvalP (pv_indexAddrB UndC.h ShpC.h rfl rfl (Int.toNat_of_nonneg (by decide)).symm (by decide)) rfl rfl ?_
      | refine xvalP (pv_indexAddrE UndC.h ShpC.h rfl rfl (Int.toNat_of_nonneg (by decide)).symm (by decide)) rfl rfl ?_
      | refine xvalP (pv_eqB UndC.h rfl rfl) rfl rfl ?_
      | refine xvalP (pv_neB UndC.h rfl rfl) rfl rfl ?_
      | refine xvalP (pv_convI UndC.h UndC.h rfl) rfl rfl ?_
      | refine xvalP (pv_buildC StrC.h rfl rfl) rfl rfl ?_
      | refine xalloc InfC.h rfl rfl fun _ => ?_
      | refine xbuildSliceC UndC.h InfC.h rfl rfl rfl rfl rfl rfl fun _ => ?_
      | refine xvalP (pv_makeFuncC rfl) rfl rfl ?_
      | refine xbox rfl rfl rfl rfl fun _ => ?_
      | refine xstore 0 ShpC.h rfl rfl rfl rfl rfl rfl rfl ?_
      | refine xstore 1 ShpC.h rfl rfl rfl rfl rfl rfl rfl ?_
      | refine xstore 2 ShpC.h rfl rfl rfl rfl rfl rfl rfl ?_
      | refine xstore 3 ShpC.h rfl rfl rfl rfl rfl rfl rfl ?_
      | refine xstore 4 ShpC.h rfl rfl rfl rfl rfl rfl rfl ?_
      | refine xskip rfl rfl ?_
      | refine xskip0 rfl ?_
      | refine xcondT rfl ?_
      | refine xcondF rfl ?_
      | refine xskipc ?_
      | refine xexit ?_
      | refine xretc ?_
      | refine xin_normal ?_
      | refine xin_ret ?_
      | refine xthen_exit ?_
      | refine xthen_ret ?_
      | refine xin_same rfl ?_
      | refine xin_other rfl ?_
  refine xcallV (flush_any bt bo tid oid text out (by omega)) (Fb := [BFl bf bt bo]) (Ft := []) Try.func22 (by kernel_rfl) rfl rfl .nil rfl (.perm ((List.Perm.refl _).trans (List.perm_append_comm (l₁ := [BFl bf bt bo]))) (.refl _)) rfl rfl ?_
  rintro _ _ _ ⟨tid2, oid2, rfl, rfl, rfl⟩
  repeat
    first
    | refine xseq ?_
    | first
      | refine xregion ?_
      | refine xvalP (pv_move rfl) rfl rfl ?_
      | refine xvalP (pv_assign rfl) rfl rfl ?_
      | refine xvalP (pv_add1 rfl rfl (by omega)) rfl rfl ?_
      | refine xvalP (pv_sub1 rfl rfl (by omega)) rfl rfl ?_
      | refine xvalP (pv_bin2 rfl rfl rfl) rfl rfl ?_
      | refine xnil ?_
      | refine xthen ?_
      | refine xblock ?_
      | refine xval (qv_load ShpC.h rfl rfl rfl) rfl rfl ?_
      | refine xvalP (qv_fieldAddrB FldC.h rfl) rfl rfl ?_
      | refine xvalP (qv_fieldAddrE FldC.h rfl) rfl rfl ?_
      | refine xval (qv_loadB 0 ShpC.h rfl rfl rfl rfl) rfl rfl ?_
      | refine xval (qv_loadB 1 ShpC.h rfl rfl rfl rfl) rfl rfl ?_
      | refine xval (qv_loadB 2 ShpC.h rfl rfl rfl rfl) rfl rfl ?_
      | refine xval (qv_loadB 3 ShpC.h rfl rfl rfl rfl) rfl rfl ?_
      | refine xval (qv_loadB 4 ShpC.h rfl rfl rfl rfl) rfl rfl ?_
      | refine xvalP (pv_pick rfl rfl) rfl rfl ?_
      | refine xvalP (pv_len UndC.h rfl rfl) rfl rfl ?_
      | refine xvalP (pv_lenS UndC.h rfl) rfl rfl ?_
      | refine xvalP (pv_lenRb UndC.h rfl) rfl rfl ?_
      | refine xvalP (pv_lenV UndC.h rfl) rfl rfl ?_
      | refine xvalP (pv_not rfl) rfl rfl ?_
      | refine xvalP (pv_nilCheck rfl) rfl rfl ?_
      | refine xvalP (pv_nilCheckE rfl) rfl rfl ?_
      | refine xvalP (pv_nilCheckF rfl) rfl rfl ?_
      | refine xvalP (pv_extract rfl rfl) rfl rfl ?_
      | refine xvalP (qv_field FldC.h rfl rfl) rfl rfl ?_
      | refine xvalP (pv_indexAddr UndC.h ShpC.h rfl rfl rfl (map_at (by assumption))) rfl rfl ?_
      | refine xvalP (pv_indexAddrB UndC.h ShpC.h rfl rfl (Int.toNat_of_nonneg (by decide)).symm (by decide)) rfl rfl ?_
      | refine xvalP (pv_indexAddrE UndC.h ShpC.h rfl rfl (Int.toNat_of_nonneg (by decide)).symm (by decide)) rfl rfl ?_
      | refine xvalP (pv_eqB UndC.h rfl rfl) rfl rfl ?_
      | refine xvalP (pv_neB UndC.h rfl rfl) rfl rfl ?_
      | refine xvalP (pv_convI UndC.h UndC.h rfl) rfl rfl ?_
      | refine xvalP (pv_buildC StrC.h rfl rfl) rfl rfl ?_
      | refine xalloc InfC.h rfl rfl fun _ => ?_
      | refine xbuildSliceC UndC.h InfC.h rfl rfl rfl rfl rfl rfl fun _ => ?_
      | refine xvalP (pv_makeFuncC rfl) rfl rfl ?_
      | refine xbox rfl rfl rfl rfl fun _ => ?_
      | refine xstore 0 ShpC.h rfl rfl rfl rfl rfl rfl rfl ?_
      | refine xstore 1 ShpC.h rfl rfl rfl rfl rfl rfl rfl ?_
      | refine xstore 2 ShpC.h rfl rfl rfl rfl rfl rfl rfl ?_
      | refine xstore 3 ShpC.h rfl rfl rfl rfl rfl rfl rfl ?_
      | refine xstore 4 ShpC.h rfl rfl rfl rfl rfl rfl rfl ?_
      | refine xskip rfl rfl ?_
      | refine xskip0 rfl ?_
      | refine xcondT rfl ?_
      | refine xcondF rfl ?_
      | refine xskipc ?_
      | refine xexit ?_
      | refine xretc ?_
      | refine xin_normal ?_
      | refine xin_ret ?_
      | refine xthen_exit ?_
      | refine xthen_ret ?_
      | refine xin_same rfl ?_
      | refine xin_other rfl ?_
  refine xappend (rows2 := [encP (1, gr, [])]) UndC.h InfC.h rfl 2 rfl rfl (.rows (.cons (.cons (.refl _) (.cons (.refl _) (.cons (.nil_pl 1) .nil))) .nil)) rfl (by simp) rfl rfl ⟨by simp [maxLen]; omega, by simp; omega⟩ fun id2 => ?_
  repeat
    first
    | refine xseq ?_
    | first
      | refine xregion ?_
      | refine xvalP (pv_move rfl) rfl rfl ?_
      | refine xvalP (pv_assign rfl) rfl rfl ?_
      | refine xvalP (pv_add1 rfl rfl (by omega)) rfl rfl ?_
      | refine xvalP (pv_sub1 rfl rfl (by omega)) rfl rfl ?_
      | refine xvalP (pv_bin2 rfl rfl rfl) rfl rfl ?_
      | refine xnil ?_
      | refine xthen ?_
      | refine xblock ?_
      | refine xval (qv_load ShpC.h rfl rfl rfl) rfl rfl ?_
      | refine xvalP (qv_fieldAddrB FldC.h rfl) rfl rfl ?_
      | refine xvalP (qv_fieldAddrE FldC.h rfl) rfl rfl ?_
      | refine xval (qv_loadB 0 ShpC.h rfl rfl rfl rfl) rfl rfl ?_
      | refine xval (qv_loadB 1 ShpC.h rfl rfl rfl rfl) rfl rfl ?_
      | refine xval (qv_loadB 2 ShpC.h rfl rfl rfl rfl) rfl rfl ?_
      | refine xval (qv_loadB 3 ShpC.h rfl rfl rfl rfl) rfl rfl ?_
      | refine xval (qv_loadB 4 ShpC.h rfl rfl rfl rfl) rfl rfl ?_
      | refine xvalP (pv_pick rfl rfl) rfl rfl ?_
      | refine xvalP (pv_len UndC.h rfl rfl) rfl rfl ?_
      | refine xvalP (pv_lenS UndC.h rfl) rfl rfl ?_
      | refine xvalP (pv_lenRb UndC.h rfl) rfl rfl ?_
      | refine xvalP (pv_lenV UndC.h rfl) rfl rfl ?_
      | refine xvalP (pv_not rfl) rfl rfl ?_
      | refine xvalP (pv_nilCheck rfl) rfl rfl ?_
      | refine xvalP (pv_nilCheckE rfl) rfl rfl ?_
      | refine xvalP (pv_nilCheckF rfl) rfl rfl ?_
      | refine xvalP (pv_extract rfl rfl) rfl rfl ?_
      | refine xvalP (qv_field FldC.h rfl rfl) rfl rfl ?_
      | refine xvalP (pv_indexAddr UndC.h ShpC.h rfl rfl rfl (map_at (by assumption))) rfl rfl ?_
      | refine xvalP (pv_indexAddrB UndC.h ShpC.h rfl rfl (Int.toNat_of_nonneg (by decide)).symm (by decide)) rfl rfl ?_
      | refine xvalP (pv_indexAddrE UndC.h ShpC.h rfl rfl (Int.toNat_of_nonneg (by decide)).symm (by decide)) rfl rfl ?_
      | refine xvalP (pv_eqB UndC.h rfl rfl) rfl rfl ?_
      | refine xvalP (pv_neB UndC.h rfl rfl) rfl rfl ?_
      | refine xvalP (pv_convI UndC.h UndC.h rfl) rfl rfl ?_
      | refine xvalP (pv_buildC StrC.h rfl rfl) rfl rfl ?_
      | refine xalloc InfC.h rfl rfl fun _ => ?_
      | refine xbuildSliceC UndC.h InfC.h rfl rfl rfl rfl rfl rfl fun _ => ?_
      | refine xvalP (pv_makeFuncC rfl) rfl rfl ?_
      | refine xbox rfl rfl rfl rfl fun _ => ?_
      | refine xstore 0 ShpC.h rfl rfl rfl rfl rfl rfl rfl ?_
      | refine xstore 1 ShpC.h rfl rfl rfl rfl rfl rfl rfl ?_
      | refine xstore 2 ShpC.h rfl rfl rfl rfl rfl rfl rfl ?_
      | refine xstore 3 ShpC.h rfl rfl rfl rfl rfl rfl rfl ?_
      | refine xstore 4 ShpC.h rfl rfl rfl rfl rfl rfl rfl ?_
      | refine xskip rfl rfl ?_
      | refine xskip0 rfl ?_
      | refine xcondT rfl ?_
      | refine xcondF rfl ?_
      | refine xskipc ?_
      | refine xexit ?_
      | refine xretc ?_
      | refine xin_normal ?_
      | refine xin_ret ?_
      | refine xthen_exit ?_
      | refine xthen_ret ?_
      | refine xin_same rfl ?_
      | refine xin_other rfl ?_
  refine xret0 hg rfl (bx' := [BFl bf bt bo, BTx bt tid2 [], BOu bo id2 (flushP out text ++ [(1, gr, [])])]) (tk' := [TTx tid2 0, TOu id2 (flushP out text ++ [(1, gr, [])]).length]) (.trans (.perm (List.perm_append_comm (l₁ := [_, _]) (l₂ := [_])) (.refl _)) (SubM.of (by repeat (first | with_reducible exact SubB.refl _ | exact SubB.nil _ | refine SubB.keep rfl rfl (by first | with_reducible exact WkL.refl _ | ((repeat (first | exact WkL.nil | refine WkL.cons (by first | with_reducible exact Wk.refl _ | exact Wk.nil_own _ | exact Wk.nil_pl _ | with_reducible exact Wk.tok _ _ _ | exact Wk.tok _ _ _ | exact Wk.eq (by first | rfl | (simp []; done) | (simp []; omega))) ?_)); done) | exact WkL.refl _) ?_ | refine SubB.drop ?_)) (by repeat (first | exact SubT.nil _ | refine SubT.add ?_ | (refine SubT.keep ?_ ?_; focus (first | with_reducible rfl | (simp []; done))) | refine SubT.drop ?_)))) ⟨tid2, id2, rfl, rfl, rfl⟩ (.inr rfl)
end Go.Proofs.Ytcekiclbfjfagaa
