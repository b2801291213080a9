
/- What functions' texts ask for, and the walks that show it (printed by a program). -/
import Derived.Test.YtnjnbegjhklcgaaGKp7
namespace Go.Proofs.Ytnjnbegjhklcgaa
/-- (*match.search).do -/
def match_search_do_R (o3 : List (Int × Int × Int × Int × Int × Int × (Arr 4 (UInt64)))) (o4 : Int) (o5 : List UInt8) (o6 : Bool) (o7 : Arr 10 (Int × Int)) (o8 : Int) (l1 : List (Int × (Arr 10 (Int × Int)) × (List (Int × Int × Int × Int)))) (x9 : Int × (Arr 10 (Int × Int)) × (List (Int × Int × Int × Int))) (r : (List (Int × (Arr 10 (Int × Int)) × (List (Int × Int × Int × Int)))) × Bool × (Arr 10 (Int × Int))) : Prop :=
 ∃ y10 : Int × Int × Int × Int, ∃ tl11 : List (Int × Int × Int × Int), x9.2.2 = y10 :: tl11 ∧ ((y10.1 = 1 → (0 ≤ (y10.2.1 : Int) ∧ (y10.2.1 : Int) < 10) ∧ ∃ y18 : Int × Int, x9.2.1.l[(y10.2.1 : Int).toNat]? = some y18 ∧ ∃ y20 : (List (Int × (Arr 10 (Int × Int)) × (List (Int × Int × Int × Int)))) × Bool × (Arr 10 (Int × Int)), match_search_follow_R o3 o4 o5 o6 o7 o8 l1 (x9.1, (Arr.set x9.2.1 (y10.2.1 : Int).toNat ((y10.2.2.2, x9.1))), tl11) y20 ∧ r = (y20.1, y20.2.1, y20.2.2)) ∧ (¬ (y10.1 = 1) → ((y10.1 = 2 → ((¬ (x9.1 = y10.2.2.2) → ∃ y28 : (List (Int × (Arr 10 (Int × Int)) × (List (Int × Int × Int × Int)))) × Bool × (Arr 10 (Int × Int)), match_search_times_R o3 o4 o5 o6 o7 o8 l1 (x9.1, x9.2.1, tl11) y10.2.1 y10.2.2.1 y28 ∧ r = (y28.1, y28.2.1, y28.2.2)) ∧ (¬ (¬ (x9.1 = y10.2.2.2)) → 0 ≤ (y10.2.1 : Int) ∧ ∃ y33 : Int × Int × Int × Int × Int × Int × (Arr 4 (UInt64)), o3[(y10.2.1 : Int).toNat]? = some y33 ∧ ((y10.2.2.1 ≤ y33.2.2.2.1 → ∃ y38 : (List (Int × (Arr 10 (Int × Int)) × (List (Int × Int × Int × Int)))) × Bool × (Arr 10 (Int × Int)), match_search_follow_R o3 o4 o5 o6 o7 o8 l1 (x9.1, x9.2.1, tl11) y38 ∧ r = (y38.1, y38.2.1, y38.2.2)) ∧ (¬ (y10.2.2.1 ≤ y33.2.2.2.1) → r = (l1, o6, o7)))))) ∧ (¬ (y10.1 = 2) → ∃ y41 : (List (Int × (Arr 10 (Int × Int)) × (List (Int × Int × Int × Int)))) × Bool × (Arr 10 (Int × Int)), match_search_node_R o3 o4 o5 o6 o7 o8 l1 (x9.1, x9.2.1, tl11) y10.2.1 y41 ∧ r = (y41.1, y41.2.1, y41.2.2)))))
def match_search_do_ev (fuel : Nat) (o3 : List (Int × Int × Int × Int × Int × Int × (Arr 4 (UInt64)))) (o4 : Int) (o5 : List UInt8) (o6 : Bool) (o7 : Arr 10 (Int × Int)) (o8 : Int) (l1 : List (Int × (Arr 10 (Int × Int)) × (List (Int × Int × Int × Int)))) (x9 : Int × (Arr 10 (Int × Int)) × (List (Int × Int × Int × Int))) : Option ((List (Int × (Arr 10 (Int × Int)) × (List (Int × Int × Int × Int)))) × Bool × (Arr 10 (Int × Int))) :=
 (consE (x9.2.2) fun y10 tl11 => (if y10.1 = 1 then (if (0 ≤ (y10.2.1 : Int) ∧ (y10.2.1 : Int) < 10) then ((x9.2.1.l[(y10.2.1 : Int).toNat]?).bind fun y18 => ((match_search_follow_ev fuel o3 o4 o5 o6 o7 o8 l1 (x9.1, (Arr.set x9.2.1 (y10.2.1 : Int).toNat ((y10.2.2.2, x9.1))), tl11)).bind fun y20 => some (y20.1, y20.2.1, y20.2.2))) else none) else (if y10.1 = 2 then (if ¬ (x9.1 = y10.2.2.2) then ((match_search_times_ev fuel o3 o4 o5 o6 o7 o8 l1 (x9.1, x9.2.1, tl11) y10.2.1 y10.2.2.1).bind fun y28 => some (y28.1, y28.2.1, y28.2.2)) else (if 0 ≤ (y10.2.1 : Int) then ((o3[(y10.2.1 : Int).toNat]?).bind fun y33 => (if y10.2.2.1 ≤ y33.2.2.2.1 then ((match_search_follow_ev fuel o3 o4 o5 o6 o7 o8 l1 (x9.1, x9.2.1, tl11)).bind fun y38 => some (y38.1, y38.2.1, y38.2.2)) else some (l1, o6, o7))) else none)) else ((match_search_node_ev fuel o3 o4 o5 o6 o7 o8 l1 (x9.1, x9.2.1, tl11) y10.2.1).bind fun y41 => some (y41.1, y41.2.1, y41.2.2)))))
theorem match_search_do_ok {fuel : Nat} {o3 : List (Int × Int × Int × Int × Int × Int × (Arr 4 (UInt64)))} {o4 : Int} {o5 : List UInt8} {o6 : Bool} {o7 : Arr 10 (Int × Int)} {o8 : Int} {l1 : List (Int × (Arr 10 (Int × Int)) × (List (Int × Int × Int × Int)))} {x9 : Int × (Arr 10 (Int × Int)) × (List (Int × Int × Int × Int))} {r : (List (Int × (Arr 10 (Int × Int)) × (List (Int × Int × Int × Int)))) × Bool × (Arr 10 (Int × Int))} (h : match_search_do_ev fuel o3 o4 o5 o6 o7 o8 l1 x9 = some r) : match_search_do_R o3 o4 o5 o6 o7 o8 l1 x9 r := by
 unfold match_search_do_ev at h
 unfold match_search_do_R
 obtain ⟨q253, p253, g253, h⟩ := consE_ok h
 refine ⟨q253, p253, g253, ?_⟩
 refine ⟨fun g254 => ?_, fun g254 => ?_⟩
 ·rw [if_pos g254] at h
  obtain ⟨g255, h⟩ := if_ok h
  refine ⟨g255, ?_⟩
  obtain ⟨q256, g256, h⟩ := bind_ok h
  refine ⟨q256, g256, ?_⟩
  obtain ⟨q257, g257, h⟩ := bind_ok h
  refine ⟨q257, match_search_follow_ok g257, ?_⟩
  exact (Option.some.inj h).symm
 ·rw [if_neg g254] at h
  refine ⟨fun g258 => ?_, fun g258 => ?_⟩
  ·rw [if_pos g258] at h
   refine ⟨fun g259 => ?_, fun g259 => ?_⟩
   ·rw [if_pos g259] at h
    obtain ⟨q260, g260, h⟩ := bind_ok h
    refine ⟨q260, match_search_times_ok g260, ?_⟩
    exact (Option.some.inj h).symm
   ·rw [if_neg g259] at h
    obtain ⟨g261, h⟩ := if_ok h
    refine ⟨g261, ?_⟩
    obtain ⟨q262, g262, h⟩ := bind_ok h
    refine ⟨q262, g262, ?_⟩
    refine ⟨fun g263 => ?_, fun g263 => ?_⟩
    ·rw [if_pos g263] at h
     obtain ⟨q264, g264, h⟩ := bind_ok h
     refine ⟨q264, match_search_follow_ok g264, ?_⟩
     exact (Option.some.inj h).symm
    ·rw [if_neg g263] at h
     exact (Option.some.inj h).symm
  ·rw [if_neg g258] at h
   obtain ⟨q265, g265, h⟩ := bind_ok h
   refine ⟨q265, match_search_node_ok g265, ?_⟩
   exact (Option.some.inj h).symm
set_option maxHeartbeats 4000000 in
theorem match_search_do_con (o3 : List (Int × Int × Int × Int × Int × Int × (Arr 4 (UInt64)))) (o4 : Int) (o5 : List UInt8) (o6 : Bool) (o7 : Arr 10 (Int × Int)) (o8 : Int) (l1 : List (Int × (Arr 10 (Int × Int)) × (List (Int × Int × Int × Int)))) (x9 : Int × (Arr 10 (Int × Int)) × (List (Int × Int × Int × Int))) (bx0 : Nat) (ia2 : Option (Nat × Nat)) (r : (List (Int × (Arr 10 (Int × Int)) × (List (Int × Int × Int × Int)))) × Bool × (Arr 10 (Int × Int))) (h : match_search_do_R o3 o4 o5 o6 o7 o8 l1 x9 r) : Con Try.prog 27 [.v (.pointer (some ⟨bx0, 0, none⟩)), .agg ([.v (.int .i64 x9.1)] ++ ((List.map E_palinode_api_Span x9.2.1.l).flatten ++ [.pt (List.isEmpty x9.2.2) (PC_palinode_match_cell x9.2.2)]))] [⟨bx0, 74, ([.sl 10 none (List.map E_palinode_api_Node o3), .v (.int .i64 o4), .sl 1 none (List.map eb o5), .rb ia2 l1.length, .v (.bool o6)] ++ ((List.map E_palinode_api_Span o7.l).flatten ++ [.v (.int .i64 o8)]))⟩, rbx ia2 79 22 (List.map E_palinode_match_way l1)] [] (fun rr bx tk => ∃ j1, rr = .tup [] ∧ bx = [rbx j1 79 22 (List.map E_palinode_match_way r.1), ⟨bx0, 74, ([.sl 10 none (List.map E_palinode_api_Node o3), .v (.int .i64 o4), .sl 1 none (List.map eb o5), .rb j1 r.1.length, .v (.bool r.2.1)] ++ ((List.map E_palinode_api_Span r.2.2.l).flatten ++ [.v (.int .i64 o8)]))⟩] ∧ tk = []) := by
 refine xenter Try.func27 rfl rfl fun g hg => ?_
 simp only [Try.ntmps27, slots]
 refine sr_ ?_
 refine xbox rfl rfl rfl rfl fun b3 => ?_
 refine nt_ ?_
 refine sr_ ?_
 refine vp_ (qv_fieldAddrB FldC.h rfl) ?_
 refine v_ (qv_loadP 0 ([.v (.int .i64 x9.1)] ++ (List.map E_palinode_api_Span x9.2.1.l).flatten) [.pt (List.isEmpty x9.2.2) (PC_palinode_match_cell x9.2.2)] [] sq_ sl_ sl_ rfl ShpC.h rfl rfl) ?_
 refine as_ ?_
 refine nt_ ?_
 refine sr_ ?_
 refine mv_ ?_
 obtain ⟨y10, tl11, h12, h⟩ := h
 refine vp_ (pv_nilCheckPt (cs' := [.v (.int .i64 y10.1), .v (.int .i64 y10.2.1), .v (.int .i64 y10.2.2.1), .v (.int .i64 y10.2.2.2), .pt (List.isEmpty tl11) (PC_palinode_match_cell tl11)]) (by rw [h12]; rfl) (by rw [h12]; rfl) rfl) ?_
 refine vp_ (qv_fieldAddrE FldC.h rfl) ?_
 refine v_ (qv_load ShpC.h rfl rfl rfl) ?_
 refine vp_ (qv_fieldAddrB FldC.h rfl) ?_
 refine xstoreQ 0 ([.v (.int .i64 x9.1)] ++ (List.map E_palinode_api_Span x9.2.1.l).flatten) [.pt (List.isEmpty x9.2.2) (PC_palinode_match_cell x9.2.2)] [] ([.v (.int .i64 x9.1)] ++ ((List.map E_palinode_api_Span x9.2.1.l).flatten ++ [.pt (List.isEmpty tl11) (PC_palinode_match_cell tl11)])) ShpC.h rfl rfl rfl rfl rfl ?_
 refine nt_ ?_
 refine sr_ ?_
 refine mv_ ?_
 refine vp_ (pv_nilCheckPt (cs' := [.v (.int .i64 y10.1), .v (.int .i64 y10.2.1), .v (.int .i64 y10.2.2.1), .v (.int .i64 y10.2.2.2), .pt (List.isEmpty tl11) (PC_palinode_match_cell tl11)]) (by rw [h12]; rfl) (by rw [h12]; rfl) rfl) ?_
 refine vp_ (qv_fieldAddrE FldC.h rfl) ?_
 refine v_ (qv_load ShpC.h rfl rfl rfl) ?_
 refine nt_ ?_
 refine xblock ?_
 refine sr_ ?_
 refine vp_ (pv_bin2 rfl rfl rfl) ?_
 refine as_ ?_
 refine nt_ ?_
 by_cases hp14 : y10.1 = 1
 ·replace h := h.1 hp14
  refine xcondT' (decide_eq_true hp14) rfl ?_
  refine xseq ?_
  refine xregionD (m := 14) (by kernel_rfl) rfl ?_
  obtain ⟨h17, h⟩ := h
  obtain ⟨y18, h17b, h⟩ := h
  refine pl_ 0 rfl (pv_move rfl) ?_
  refine pl_ 1 rfl (pv_nilCheckPt (cs' := [.v (.int .i64 y10.1), .v (.int .i64 y10.2.1), .v (.int .i64 y10.2.2.1), .v (.int .i64 y10.2.2.2), .pt (List.isEmpty tl11) (PC_palinode_match_cell tl11)]) (by rw [h12]; rfl) (by rw [h12]; rfl) rfl) ?_
  refine pl_ 2 rfl (qv_fieldAddrE FldC.h rfl) ?_
  refine pl_ 4 rfl (pv_move rfl) ?_
  refine pl_ 5 rfl (pv_nilCheckPt (cs' := [.v (.int .i64 y10.1), .v (.int .i64 y10.2.1), .v (.int .i64 y10.2.2.1), .v (.int .i64 y10.2.2.2), .pt (List.isEmpty tl11) (PC_palinode_match_cell tl11)]) (by rw [h12]; rfl) (by rw [h12]; rfl) rfl) ?_
  refine pl_ 6 rfl (qv_fieldAddrE FldC.h rfl) ?_
  refine pl_ 8 rfl (qv_fieldAddrB FldC.h rfl) ?_
  refine pl_ 11 rfl (qv_fieldAddrB FldC.h rfl) ?_
  refine xpvalE 7 [3, 9] rfl (qv_load ShpC.h rfl rfl rfl) rfl rfl (by kernel_rfl) (by kernel_rfl) (by kernel_rfl) (fun _ _ _ _ h => h) ?_
  refine xpvalE 9 [3] rfl (qv_loadB 0 ShpC.h rfl rfl rfl rfl) rfl rfl (by kernel_rfl) (by kernel_rfl) (by kernel_rfl) (fun _ _ _ _ h => h) ?_
  refine pl_ 10 rfl (pv_buildC StrC.h rfl rfl) ?_
  refine xpvalE 3 [] rfl (qv_load ShpC.h rfl rfl rfl) rfl rfl (by kernel_rfl) (by kernel_rfl) (by kernel_rfl) (fun _ _ _ _ h => h) ?_
  refine pl_ 12 rfl (pv_indexAddrBA h17 UndC.h ShpC.h rfl rfl) ?_
  refine xpstep (i := 13) (by kernel_rfl) rfl ?_
  refine wstoreA (f := E_palinode_api_Span) (a := x9.2.1) (k := 2) (off := 0) (i := (y10.2.1 : Int).toNat) 0 [.v (.int .i64 x9.1)] [.pt (List.isEmpty tl11) (PC_palinode_match_cell tl11)] (y10.2.2.2, x9.1) h17b sq_ so_ (by decide) ShpC.h rfl rfl rfl rfl sl_ rfl rfl ?_
  refine preb 0 ([.v (.int .i64 x9.1)] ++ ((List.map E_palinode_api_Span ((Arr.set x9.2.1 (y10.2.1 : Int).toNat ((y10.2.2.2, x9.1)))).l).flatten ++ [.pt (List.isEmpty tl11) (PC_palinode_match_cell tl11)])) rfl sq_ ?_
  refine xpdone (by kernel_rfl) ?_
  refine xthen ?_
  refine xregion ?_
  refine mv_ ?_
  refine v_ (qv_loadP 0 [] ([.v (.int .i64 x9.1)] ++ ((List.map E_palinode_api_Span ((Arr.set x9.2.1 (y10.2.1 : Int).toNat ((y10.2.2.2, x9.1)))).l).flatten ++ [.pt (List.isEmpty tl11) (PC_palinode_match_cell tl11)])) [] sq_ sl_ sl_ (part_all sl_) ShpC.h rfl rfl) ?_
  obtain ⟨y20, h19, h⟩ := h
  refine xcallF (Fb := [⟨b3, 79, ([.v (.int .i64 x9.1)] ++ ((List.map E_palinode_api_Span ((Arr.set x9.2.1 (y10.2.1 : Int).toNat ((y10.2.2.2, x9.1)))).l).flatten ++ [.pt (List.isEmpty tl11) (PC_palinode_match_cell tl11)]))⟩]) (Ft := []) (match_search_follow_con o3 o4 o5 o6 o7 o8 l1 (x9.1, (Arr.set x9.2.1 (y10.2.1 : Int).toNat ((y10.2.2.2, x9.1))), tl11) bx0 ia2 _ h19) Try.func26 (by kernel_rfl) rfl (.cons rfl (.refl _) (.cons rfl (.refl _) .nil)) (by refine SubM.trans (SubM.mvB 2 rfl) ?_; refine SubM.trans (SubM.mvB 2 rfl) ?_; (simp only [List.eraseIdx]); exact sm_) rfl rfl ?_
  rintro _ _ _ ⟨i21, rfl, rfl, rfl⟩
  simp only [List.nil_append, List.cons_append]
  refine xnil ?_
  refine xin_normal ?_
  replace h := h.symm
  subst h
  exact xret0 (bx' := [rbx i21 79 22 (List.map E_palinode_match_way y20.1), ⟨bx0, 74, ([.sl 10 none (List.map E_palinode_api_Node o3), .v (.int .i64 o4), .sl 1 none (List.map eb o5), .rb i21 y20.1.length, .v (.bool y20.2.1)] ++ ((List.map E_palinode_api_Span y20.2.2.l).flatten ++ [.v (.int .i64 o8)]))⟩]) (tk' := []) hg rfl (SubM.of (.keep rfl rfl (.refl _) (.keep rfl rfl (by first | exact WkL.refl _ | (exact wl_; done)) (.nil _))) (.nil _)) ⟨i21, rfl, rfl, rfl⟩ (by simp)
 ·replace h := h.2 hp14
  refine xcondF' (decide_eq_false hp14) rfl ?_
  refine sr_ ?_
  refine vp_ (pv_bin2 rfl rfl rfl) ?_
  refine as_ ?_
  refine nt_ ?_
  by_cases hp23 : y10.1 = 2
  ·replace h := h.1 hp23
   refine xcondT' (decide_eq_true hp23) rfl ?_
   refine xblock ?_
   refine xseq ?_
   refine xregionD (m := 8) (by kernel_rfl) rfl ?_
   refine pl_ 0 rfl (qv_fieldAddrB FldC.h rfl) ?_
   refine pl_ 2 rfl (pv_move rfl) ?_
   refine pl_ 3 rfl (pv_nilCheckPt (cs' := [.v (.int .i64 y10.1), .v (.int .i64 y10.2.1), .v (.int .i64 y10.2.2.1), .v (.int .i64 y10.2.2.2), .pt (List.isEmpty tl11) (PC_palinode_match_cell tl11)]) (by rw [h12]; rfl) (by rw [h12]; rfl) rfl) ?_
   refine pl_ 4 rfl (qv_fieldAddrE FldC.h rfl) ?_
   refine xpvalE 1 [5] rfl (qv_loadB 0 ShpC.h rfl rfl rfl rfl) rfl rfl (by kernel_rfl) (by kernel_rfl) (by kernel_rfl) (fun _ _ _ _ h => h) ?_
   refine xpvalE 5 [] rfl (qv_load ShpC.h rfl rfl rfl) rfl rfl (by kernel_rfl) (by kernel_rfl) (by kernel_rfl) (fun _ _ _ _ h => h) ?_
   refine pl_ 6 rfl (pv_bin2 rfl rfl rfl) ?_
   refine pl_ 7 rfl (pv_assign rfl) ?_
   refine xpdone (by kernel_rfl) ?_
   refine xthen ?_
   by_cases hp26 : ¬ (x9.1 = y10.2.2.2)
   ·replace h := h.1 hp26
    refine xcondT' (not_t (decide_eq_false hp26)) rfl ?_
    refine xregionD (m := 11) (by kernel_rfl) rfl ?_
    obtain ⟨y28, h27, h⟩ := h
    refine pl_ 0 rfl (pv_move rfl) ?_
    refine pl_ 2 rfl (pv_move rfl) ?_
    refine pl_ 3 rfl (pv_nilCheckPt (cs' := [.v (.int .i64 y10.1), .v (.int .i64 y10.2.1), .v (.int .i64 y10.2.2.1), .v (.int .i64 y10.2.2.2), .pt (List.isEmpty tl11) (PC_palinode_match_cell tl11)]) (by rw [h12]; rfl) (by rw [h12]; rfl) rfl) ?_
    refine pl_ 4 rfl (qv_fieldAddrE FldC.h rfl) ?_
    refine pl_ 6 rfl (pv_move rfl) ?_
    refine pl_ 7 rfl (pv_nilCheckPt (cs' := [.v (.int .i64 y10.1), .v (.int .i64 y10.2.1), .v (.int .i64 y10.2.2.1), .v (.int .i64 y10.2.2.2), .pt (List.isEmpty tl11) (PC_palinode_match_cell tl11)]) (by rw [h12]; rfl) (by rw [h12]; rfl) rfl) ?_
    refine pl_ 8 rfl (qv_fieldAddrE FldC.h rfl) ?_
    refine xpvalE 1 [5, 9] rfl (qv_loadP 0 [] ([.v (.int .i64 x9.1)] ++ ((List.map E_palinode_api_Span x9.2.1.l).flatten ++ [.pt (List.isEmpty tl11) (PC_palinode_match_cell tl11)])) [] sq_ sl_ sl_ (part_all sl_) ShpC.h rfl rfl) rfl rfl (by kernel_rfl) (by kernel_rfl) (by kernel_rfl) (fun _ _ _ _ h => h) ?_
    refine xpvalE 5 [9] rfl (qv_load ShpC.h rfl rfl rfl) rfl rfl (by kernel_rfl) (by kernel_rfl) (by kernel_rfl) (fun _ _ _ _ h => h) ?_
    refine xpvalE 9 [] rfl (qv_load ShpC.h rfl rfl rfl) rfl rfl (by kernel_rfl) (by kernel_rfl) (by kernel_rfl) (fun _ _ _ _ h => h) ?_
    refine xpstep (i := 10) (by kernel_rfl) rfl ?_
    refine wcallF (Fb := [⟨b3, 79, ([.v (.int .i64 x9.1)] ++ ((List.map E_palinode_api_Span x9.2.1.l).flatten ++ [.pt (List.isEmpty tl11) (PC_palinode_match_cell tl11)]))⟩]) (Ft := []) (match_search_times_con o3 o4 o5 o6 o7 o8 l1 (x9.1, x9.2.1, tl11) y10.2.1 y10.2.2.1 bx0 ia2 _ h27) Try.func33 (by kernel_rfl) rfl (.cons rfl (.refl _) (.cons rfl (.refl _) (.cons rfl (.refl _) (.cons rfl (.refl _) .nil)))) (by refine SubM.trans (SubM.mvB 2 rfl) ?_; refine SubM.trans (SubM.mvB 2 rfl) ?_; (simp only [List.eraseIdx]); exact sm_) rfl rfl ?_
    rintro _ _ _ ⟨i29, rfl, rfl, rfl⟩
    simp only [List.nil_append, List.cons_append]
    refine xpdone (by kernel_rfl) ?_
    refine xin_normal ?_
    refine xin_normal ?_
    replace h := h.symm
    subst h
    exact xret0 (bx' := [rbx i29 79 22 (List.map E_palinode_match_way y28.1), ⟨bx0, 74, ([.sl 10 none (List.map E_palinode_api_Node o3), .v (.int .i64 o4), .sl 1 none (List.map eb o5), .rb i29 y28.1.length, .v (.bool y28.2.1)] ++ ((List.map E_palinode_api_Span y28.2.2.l).flatten ++ [.v (.int .i64 o8)]))⟩]) (tk' := []) hg rfl (SubM.of (.keep rfl rfl (.refl _) (.keep rfl rfl (by first | exact WkL.refl _ | (exact wl_; done)) (.nil _))) (.nil _)) ⟨i29, rfl, rfl, rfl⟩ (by simp)
   ·replace h := h.2 hp26
    refine xcondF' (not_f (decide_eq_true (Decidable.of_not_not hp26))) rfl ?_
    refine xseq ?_
    refine xregionD (m := 18) (by kernel_rfl) rfl ?_
    obtain ⟨h34a, h⟩ := h
    obtain ⟨y33, h34b, h⟩ := h
    refine pl_ 0 rfl (pv_move rfl) ?_
    refine pl_ 1 rfl (pv_nilCheckPt (cs' := [.v (.int .i64 y10.1), .v (.int .i64 y10.2.1), .v (.int .i64 y10.2.2.1), .v (.int .i64 y10.2.2.2), .pt (List.isEmpty tl11) (PC_palinode_match_cell tl11)]) (by rw [h12]; rfl) (by rw [h12]; rfl) rfl) ?_
    refine pl_ 2 rfl (qv_fieldAddrE FldC.h rfl) ?_
    refine pl_ 4 rfl (pv_move rfl) ?_
    refine pl_ 5 rfl (pv_nilCheck rfl) ?_
    refine pl_ 6 rfl (qv_fieldAddrB FldC.h rfl) ?_
    refine pl_ 7 rfl (qv_fieldAddrB FldC.h rfl) ?_
    refine pl_ 9 rfl (pv_move rfl) ?_
    refine pl_ 10 rfl (pv_nilCheckPt (cs' := [.v (.int .i64 y10.1), .v (.int .i64 y10.2.1), .v (.int .i64 y10.2.2.1), .v (.int .i64 y10.2.2.2), .pt (List.isEmpty tl11) (PC_palinode_match_cell tl11)]) (by rw [h12]; rfl) (by rw [h12]; rfl) rfl) ?_
    refine pl_ 11 rfl (qv_fieldAddrE FldC.h rfl) ?_
    refine xpvalE 3 [8, 12, 13, 14, 15] rfl (qv_load ShpC.h rfl rfl rfl) rfl rfl (by kernel_rfl) (by kernel_rfl) (by kernel_rfl) (fun _ _ _ _ h => h) ?_
    refine xpvalE 8 [12] rfl (qv_loadB 1 ShpC.h rfl rfl rfl rfl) rfl rfl (by kernel_rfl) (by kernel_rfl) (by kernel_rfl) (fun _ _ _ _ h => h) ?_
    refine xpvalE 12 [] rfl (qv_load ShpC.h rfl rfl rfl) rfl rfl (by kernel_rfl) (by kernel_rfl) (by kernel_rfl) (fun _ _ _ _ h => h) ?_
    refine pl_ 13 rfl (pv_indexAddrM h34a h34b UndC.h ShpC.h rfl rfl) ?_
    refine pl_ 14 rfl (qv_fieldAddrE FldC.h rfl) ?_
    refine xpvalE 15 [] rfl (qv_load ShpC.h rfl rfl rfl) rfl rfl (by kernel_rfl) (by kernel_rfl) (by kernel_rfl) (fun _ _ _ _ h => h) ?_
    refine pl_ 16 rfl (pv_bin2 rfl rfl rfl) ?_
    refine pl_ 17 rfl (pv_assign rfl) ?_
    refine xpdone (by kernel_rfl) ?_
    refine xthen ?_
    by_cases hp36 : y10.2.2.1 ≤ y33.2.2.2.1
    ·replace h := h.1 hp36
     refine xcondT' (decide_eq_true hp36) rfl ?_
     refine xregion ?_
     refine mv_ ?_
     refine v_ (qv_loadP 0 [] ([.v (.int .i64 x9.1)] ++ ((List.map E_palinode_api_Span x9.2.1.l).flatten ++ [.pt (List.isEmpty tl11) (PC_palinode_match_cell tl11)])) [] sq_ sl_ sl_ (part_all sl_) ShpC.h rfl rfl) ?_
     obtain ⟨y38, h37, h⟩ := h
     refine xcallF (Fb := [⟨b3, 79, ([.v (.int .i64 x9.1)] ++ ((List.map E_palinode_api_Span x9.2.1.l).flatten ++ [.pt (List.isEmpty tl11) (PC_palinode_match_cell tl11)]))⟩]) (Ft := []) (match_search_follow_con o3 o4 o5 o6 o7 o8 l1 (x9.1, x9.2.1, tl11) bx0 ia2 _ h37) Try.func26 (by kernel_rfl) rfl (.cons rfl (.refl _) (.cons rfl (.refl _) .nil)) (by refine SubM.trans (SubM.mvB 2 rfl) ?_; refine SubM.trans (SubM.mvB 2 rfl) ?_; (simp only [List.eraseIdx]); exact sm_) rfl rfl ?_
     rintro _ _ _ ⟨i39, rfl, rfl, rfl⟩
     simp only [List.nil_append, List.cons_append]
     refine xnil ?_
     refine xin_normal ?_
     refine xin_normal ?_
     replace h := h.symm
     subst h
     exact xret0 (bx' := [rbx i39 79 22 (List.map E_palinode_match_way y38.1), ⟨bx0, 74, ([.sl 10 none (List.map E_palinode_api_Node o3), .v (.int .i64 o4), .sl 1 none (List.map eb o5), .rb i39 y38.1.length, .v (.bool y38.2.1)] ++ ((List.map E_palinode_api_Span y38.2.2.l).flatten ++ [.v (.int .i64 o8)]))⟩]) (tk' := []) hg rfl (SubM.of (.keep rfl rfl (.refl _) (.keep rfl rfl (by first | exact WkL.refl _ | (exact wl_; done)) (.nil _))) (.nil _)) ⟨i39, rfl, rfl, rfl⟩ (by simp)
    ·replace h := h.2 hp36
     refine xcondF' (decide_eq_false hp36) rfl ?_
     refine xskipc ?_
     refine xin_normal ?_
     refine xin_normal ?_
     replace h := h.symm
     subst h
     exact xret0 (bx' := [rbx ia2 79 22 (List.map E_palinode_match_way l1), ⟨bx0, 74, ([.sl 10 none (List.map E_palinode_api_Node o3), .v (.int .i64 o4), .sl 1 none (List.map eb o5), .rb ia2 l1.length, .v (.bool o6)] ++ ((List.map E_palinode_api_Span o7.l).flatten ++ [.v (.int .i64 o8)]))⟩]) (tk' := []) hg rfl (by refine SubM.trans (SubM.mvB 1 rfl) ?_; refine SubM.trans (SubM.mvB 2 rfl) ?_; (simp only [List.eraseIdx]); exact sm_) ⟨ia2, rfl, rfl, rfl⟩ (by simp)
  ·replace h := h.2 hp23
   refine xcondF' (decide_eq_false hp23) rfl ?_
   refine xregionD (m := 7) (by kernel_rfl) rfl ?_
   obtain ⟨y41, h40, h⟩ := h
   refine pl_ 0 rfl (pv_move rfl) ?_
   refine pl_ 2 rfl (pv_move rfl) ?_
   refine pl_ 3 rfl (pv_nilCheckPt (cs' := [.v (.int .i64 y10.1), .v (.int .i64 y10.2.1), .v (.int .i64 y10.2.2.1), .v (.int .i64 y10.2.2.2), .pt (List.isEmpty tl11) (PC_palinode_match_cell tl11)]) (by rw [h12]; rfl) (by rw [h12]; rfl) rfl) ?_
   refine pl_ 4 rfl (qv_fieldAddrE FldC.h rfl) ?_
   refine xpvalE 1 [5] rfl (qv_loadP 0 [] ([.v (.int .i64 x9.1)] ++ ((List.map E_palinode_api_Span x9.2.1.l).flatten ++ [.pt (List.isEmpty tl11) (PC_palinode_match_cell tl11)])) [] sq_ sl_ sl_ (part_all sl_) ShpC.h rfl rfl) rfl rfl (by kernel_rfl) (by kernel_rfl) (by kernel_rfl) (fun _ _ _ _ h => h) ?_
   refine xpvalE 5 [] rfl (qv_load ShpC.h rfl rfl rfl) rfl rfl (by kernel_rfl) (by kernel_rfl) (by kernel_rfl) (fun _ _ _ _ h => h) ?_
   refine xpstep (i := 6) (by kernel_rfl) rfl ?_
   refine wcallF (Fb := [⟨b3, 79, ([.v (.int .i64 x9.1)] ++ ((List.map E_palinode_api_Span x9.2.1.l).flatten ++ [.pt (List.isEmpty tl11) (PC_palinode_match_cell tl11)]))⟩]) (Ft := []) (match_search_node_con o3 o4 o5 o6 o7 o8 l1 (x9.1, x9.2.1, tl11) y10.2.1 bx0 ia2 _ h40) Try.func34 (by kernel_rfl) rfl (.cons rfl (.refl _) (.cons rfl (.refl _) (.cons rfl (.refl _) .nil))) (by refine SubM.trans (SubM.mvB 2 rfl) ?_; refine SubM.trans (SubM.mvB 2 rfl) ?_; (simp only [List.eraseIdx]); exact sm_) rfl rfl ?_
   rintro _ _ _ ⟨i42, rfl, rfl, rfl⟩
   simp only [List.nil_append, List.cons_append]
   refine xpdone (by kernel_rfl) ?_
   refine xin_normal ?_
   replace h := h.symm
   subst h
   exact xret0 (bx' := [rbx i42 79 22 (List.map E_palinode_match_way y41.1), ⟨bx0, 74, ([.sl 10 none (List.map E_palinode_api_Node o3), .v (.int .i64 o4), .sl 1 none (List.map eb o5), .rb i42 y41.1.length, .v (.bool y41.2.1)] ++ ((List.map E_palinode_api_Span y41.2.2.l).flatten ++ [.v (.int .i64 o8)]))⟩]) (tk' := []) hg rfl (SubM.of (.keep rfl rfl (.refl _) (.keep rfl rfl (by first | exact WkL.refl _ | (exact wl_; done)) (.nil _))) (.nil _)) ⟨i42, rfl, rfl, rfl⟩ (by simp)
/-- match.At -/
def match_At_l3 (x1 : (List (Int × Int × Int × Int × Int × Int × (Arr 4 (UInt64)))) × Int) (x2 : List UInt8) (x3 : Int) (ag3 : (Int × Bool × (Arr 10 (Int × Int)) × (List (Int × (Arr 10 (Int × Int)) × (List (Int × Int × Int × Int))))) → Prop) (x207 : Int) (f208 : Bool) (f209 : Arr 10 (Int × Int)) (l210 : List (Int × (Arr 10 (Int × Int)) × (List (Int × Int × Int × Int)))) (r : ((Arr 10 (Int × Int))) × Bool × Int × Int) : Prop :=
 ((0 < ((l210.length : Nat) : Int) → ((x207 = 0 → r = ((Arr.rep 10 (0, 0)), false, 0, 18)) ∧ (¬ (x207 = 0) → InR (x207 - 1) ∧ InR (((l210.length : Nat) : Int) - 1) ∧ 0 ≤ ((((l210.length : Nat) : Int) - 1) : Int) ∧ ∃ y257 : Int × (Arr 10 (Int × Int)) × (List (Int × Int × Int × Int)), l210[((((l210.length : Nat) : Int) - 1) : Int).toNat]? = some y257 ∧ InR (((l210.length : Nat) : Int) - 1) ∧ (0 ≤ ((((l210.length : Nat) : Int) - 1) : Int) ∧ ((((l210.length : Nat) : Int) - 1) : Int) ≤ ((l210.length : Nat) : Int)) ∧ ∃ y266 : (List (Int × (Arr 10 (Int × Int)) × (List (Int × Int × Int × Int)))) × Bool × (Arr 10 (Int × Int)), match_search_do_R x1.1 x1.2 x2 f208 f209 x3 (l210.take ((((l210.length : Nat) : Int) - 1) : Int).toNat) y257 y266 ∧ ag3 ((x207 - 1), y266.2.1, y266.2.2, y266.1)))) ∧ (¬ (0 < ((l210.length : Nat) : Int)) → r = (f209, f208, x207, 0)))
def match_At_l2 (x1 : (List (Int × Int × Int × Int × Int × Int × (Arr 4 (UInt64)))) × Int) (x2 : List UInt8) (x3 : Int) (x4 : Int) (ag2 : (Int × (Arr 10 (Int × Int))) → Prop) (x73 : Int) (f74 : Arr 10 (Int × Int)) (r : ((Arr 10 (Int × Int))) × Bool × Int × Int) : Prop :=
 ((x73 < 10 → (0 ≤ (x73 : Int) ∧ (x73 : Int) < 10) ∧ ∃ y85 : Int × Int, f74.l[(x73 : Int).toNat]? = some y85 ∧ InR (x73 + 1) ∧ ag2 ((x73 + 1), (Arr.set f74 (x73 : Int).toNat (((-1), (-1)))))) ∧ (¬ (x73 < 10) → ∃ y88 : (List (Int × (Arr 10 (Int × Int)) × (List (Int × Int × Int × Int)))) × Bool × (Arr 10 (Int × Int)), match_search_follow_R x1.1 x1.2 x2 false (Arr.rep 10 (0, 0)) x3 ([] : List (Int × (Arr 10 (Int × Int)) × (List (Int × Int × Int × Int)))) (x3, f74, ((0, ((x1.1.length : Int) - 1), 0, 0) :: (([] : List (Int × Int × Int × Int))))) y88 ∧ LoopR (fun ag3 s => match_At_l3 x1 x2 x3 ag3 s.1 s.2.1 s.2.2.1 s.2.2.2 r) (x4, y88.2.1, y88.2.2, y88.1)))
def match_At_j1 (x1 : (List (Int × Int × Int × Int × Int × Int × (Arr 4 (UInt64)))) × Int) (x2 : List UInt8) (x3 : Int) (x4 : Int) (x34 : Bool) (r : ((Arr 10 (Int × Int))) × Bool × Int × Int) : Prop :=
 ((x34 = true → r = ((Arr.rep 10 (0, 0)), false, 0, 1)) ∧ (¬ (x34 = true) → InR ((x1.1.length : Int) - 1) ∧ LoopR (fun ag2 s => match_At_l2 x1 x2 x3 x4 ag2 s.1 s.2 r) (0, (Arr.rep 10 (0, 0)))))
def match_At_R (x1 : (List (Int × Int × Int × Int × Int × Int × (Arr 4 (UInt64)))) × Int) (x2 : List UInt8) (x3 : Int) (x4 : Int) (r : ((Arr 10 (Int × Int))) × Bool × Int × Int) : Prop :=
 ((x3 < 0 → match_At_j1 x1 x2 x3 x4 true r) ∧ (¬ (x3 < 0) → (((x2.length : Int) < x3 → match_At_j1 x1 x2 x3 x4 true r) ∧ (¬ ((x2.length : Int) < x3) → ((x4 < 0 → match_At_j1 x1 x2 x3 x4 true r) ∧ (¬ (x4 < 0) → ∃ y43 : Bool, tree_Right_R x1 y43 ∧ match_At_j1 x1 x2 x3 x4 (!y43) r))))))
def match_At_l3_ev (fuel : Nat) (x1 : (List (Int × Int × Int × Int × Int × Int × (Arr 4 (UInt64)))) × Int) (x2 : List UInt8) (x3 : Int) (ag3e : (Int × Bool × (Arr 10 (Int × Int)) × (List (Int × (Arr 10 (Int × Int)) × (List (Int × Int × Int × Int))))) → Option (((Arr 10 (Int × Int))) × Bool × Int × Int)) (x207 : Int) (f208 : Bool) (f209 : Arr 10 (Int × Int)) (l210 : List (Int × (Arr 10 (Int × Int)) × (List (Int × Int × Int × Int)))) : Option (((Arr 10 (Int × Int))) × Bool × Int × Int) :=
 (if 0 < ((l210.length : Nat) : Int) then (if x207 = 0 then some ((Arr.rep 10 (0, 0)), false, 0, 18) else (if InR (x207 - 1) then (if InR (((l210.length : Nat) : Int) - 1) then (if 0 ≤ ((((l210.length : Nat) : Int) - 1) : Int) then ((l210[((((l210.length : Nat) : Int) - 1) : Int).toNat]?).bind fun y257 => (if InR (((l210.length : Nat) : Int) - 1) then (if (0 ≤ ((((l210.length : Nat) : Int) - 1) : Int) ∧ ((((l210.length : Nat) : Int) - 1) : Int) ≤ ((l210.length : Nat) : Int)) then ((match_search_do_ev fuel x1.1 x1.2 x2 f208 f209 x3 (l210.take ((((l210.length : Nat) : Int) - 1) : Int).toNat) y257).bind fun y266 => ag3e ((x207 - 1), y266.2.1, y266.2.2, y266.1)) else none) else none)) else none) else none) else none)) else some (f209, f208, x207, 0))
theorem match_At_l3_ok {fuel : Nat} {x1 : (List (Int × Int × Int × Int × Int × Int × (Arr 4 (UInt64)))) × Int} {x2 : List UInt8} {x3 : Int} {ag3e : (Int × Bool × (Arr 10 (Int × Int)) × (List (Int × (Arr 10 (Int × Int)) × (List (Int × Int × Int × Int))))) → Option (((Arr 10 (Int × Int))) × Bool × Int × Int)} {ag3 : (Int × Bool × (Arr 10 (Int × Int)) × (List (Int × (Arr 10 (Int × Int)) × (List (Int × Int × Int × Int))))) → Prop} {x207 : Int} {f208 : Bool} {f209 : Arr 10 (Int × Int)} {l210 : List (Int × (Arr 10 (Int × Int)) × (List (Int × Int × Int × Int)))} {r : ((Arr 10 (Int × Int))) × Bool × Int × Int} (hagag3 : ∀ s, ag3e s = some r → ag3 s) (h : match_At_l3_ev fuel x1 x2 x3 ag3e x207 f208 f209 l210 = some r) : match_At_l3 x1 x2 x3 ag3 x207 f208 f209 l210 r := by
 unfold match_At_l3_ev at h
 unfold match_At_l3
 refine ⟨fun g266 => ?_, fun g266 => ?_⟩
 ·rw [if_pos g266] at h
  refine ⟨fun g267 => ?_, fun g267 => ?_⟩
  ·rw [if_pos g267] at h
   exact (Option.some.inj h).symm
  ·rw [if_neg g267] at h
   obtain ⟨g268, h⟩ := if_ok h
   refine ⟨g268, ?_⟩
   obtain ⟨g269, h⟩ := if_ok h
   refine ⟨g269, ?_⟩
   obtain ⟨g270, h⟩ := if_ok h
   refine ⟨g270, ?_⟩
   obtain ⟨q271, g271, h⟩ := bind_ok h
   refine ⟨q271, g271, ?_⟩
   obtain ⟨g272, h⟩ := if_ok h
   refine ⟨g272, ?_⟩
   obtain ⟨g273, h⟩ := if_ok h
   refine ⟨g273, ?_⟩
   obtain ⟨q274, g274, h⟩ := bind_ok h
   refine ⟨q274, match_search_do_ok g274, ?_⟩
   exact hagag3 _ h
 ·rw [if_neg g266] at h
  exact (Option.some.inj h).symm
def match_At_l2_ev (fuel : Nat) (x1 : (List (Int × Int × Int × Int × Int × Int × (Arr 4 (UInt64)))) × Int) (x2 : List UInt8) (x3 : Int) (x4 : Int) (ag2e : (Int × (Arr 10 (Int × Int))) → Option (((Arr 10 (Int × Int))) × Bool × Int × Int)) (x73 : Int) (f74 : Arr 10 (Int × Int)) : Option (((Arr 10 (Int × Int))) × Bool × Int × Int) :=
 (if x73 < 10 then (if (0 ≤ (x73 : Int) ∧ (x73 : Int) < 10) then ((f74.l[(x73 : Int).toNat]?).bind fun y85 => (if InR (x73 + 1) then ag2e ((x73 + 1), (Arr.set f74 (x73 : Int).toNat (((-1), (-1))))) else none)) else none) else ((match_search_follow_ev fuel x1.1 x1.2 x2 false (Arr.rep 10 (0, 0)) x3 ([] : List (Int × (Arr 10 (Int × Int)) × (List (Int × Int × Int × Int)))) (x3, f74, ((0, ((x1.1.length : Int) - 1), 0, 0) :: (([] : List (Int × Int × Int × Int)))))).bind fun y88 => (loopE (fun ag3e s => match_At_l3_ev fuel x1 x2 x3 ag3e s.1 s.2.1 s.2.2.1 s.2.2.2) fuel (x4, y88.2.1, y88.2.2, y88.1))))
theorem match_At_l2_ok {fuel : Nat} {x1 : (List (Int × Int × Int × Int × Int × Int × (Arr 4 (UInt64)))) × Int} {x2 : List UInt8} {x3 : Int} {x4 : Int} {ag2e : (Int × (Arr 10 (Int × Int))) → Option (((Arr 10 (Int × Int))) × Bool × Int × Int)} {ag2 : (Int × (Arr 10 (Int × Int))) → Prop} {x73 : Int} {f74 : Arr 10 (Int × Int)} {r : ((Arr 10 (Int × Int))) × Bool × Int × Int} (hagag2 : ∀ s, ag2e s = some r → ag2 s) (h : match_At_l2_ev fuel x1 x2 x3 x4 ag2e x73 f74 = some r) : match_At_l2 x1 x2 x3 x4 ag2 x73 f74 r := by
 unfold match_At_l2_ev at h
 unfold match_At_l2
 refine ⟨fun g275 => ?_, fun g275 => ?_⟩
 ·rw [if_pos g275] at h
  obtain ⟨g276, h⟩ := if_ok h
  refine ⟨g276, ?_⟩
  obtain ⟨q277, g277, h⟩ := bind_ok h
  refine ⟨q277, g277, ?_⟩
  obtain ⟨g278, h⟩ := if_ok h
  refine ⟨g278, ?_⟩
  exact hagag2 _ h
 ·rw [if_neg g275] at h
  obtain ⟨q279, g279, h⟩ := bind_ok h
  refine ⟨q279, match_search_follow_ok g279, ?_⟩
  refine loopE_ok ?_ h
  intro ae ag s hag h
  exact match_At_l3_ok hag h
def match_At_j1_ev (fuel : Nat) (x1 : (List (Int × Int × Int × Int × Int × Int × (Arr 4 (UInt64)))) × Int) (x2 : List UInt8) (x3 : Int) (x4 : Int) (x34 : Bool) : Option (((Arr 10 (Int × Int))) × Bool × Int × Int) :=
 (if x34 = true then some ((Arr.rep 10 (0, 0)), false, 0, 1) else (if InR ((x1.1.length : Int) - 1) then (loopE (fun ag2e s => match_At_l2_ev fuel x1 x2 x3 x4 ag2e s.1 s.2) fuel (0, (Arr.rep 10 (0, 0)))) else none))
theorem match_At_j1_ok {fuel : Nat} {x1 : (List (Int × Int × Int × Int × Int × Int × (Arr 4 (UInt64)))) × Int} {x2 : List UInt8} {x3 : Int} {x4 : Int} {x34 : Bool} {r : ((Arr 10 (Int × Int))) × Bool × Int × Int} (h : match_At_j1_ev fuel x1 x2 x3 x4 x34 = some r) : match_At_j1 x1 x2 x3 x4 x34 r := by
 unfold match_At_j1_ev at h
 unfold match_At_j1
 refine ⟨fun g280 => ?_, fun g280 => ?_⟩
 ·rw [if_pos g280] at h
  exact (Option.some.inj h).symm
 ·rw [if_neg g280] at h
  obtain ⟨g281, h⟩ := if_ok h
  refine ⟨g281, ?_⟩
  refine loopE_ok ?_ h
  intro ae ag s hag h
  exact match_At_l2_ok hag h
def match_At_ev (fuel : Nat) (x1 : (List (Int × Int × Int × Int × Int × Int × (Arr 4 (UInt64)))) × Int) (x2 : List UInt8) (x3 : Int) (x4 : Int) : Option (((Arr 10 (Int × Int))) × Bool × Int × Int) :=
 (if x3 < 0 then match_At_j1_ev fuel x1 x2 x3 x4 true else (if (x2.length : Int) < x3 then match_At_j1_ev fuel x1 x2 x3 x4 true else (if x4 < 0 then match_At_j1_ev fuel x1 x2 x3 x4 true else ((tree_Right_ev fuel x1).bind fun y43 => match_At_j1_ev fuel x1 x2 x3 x4 (!y43)))))
theorem match_At_ok {fuel : Nat} {x1 : (List (Int × Int × Int × Int × Int × Int × (Arr 4 (UInt64)))) × Int} {x2 : List UInt8} {x3 : Int} {x4 : Int} {r : ((Arr 10 (Int × Int))) × Bool × Int × Int} (h : match_At_ev fuel x1 x2 x3 x4 = some r) : match_At_R x1 x2 x3 x4 r := by
 unfold match_At_ev at h
 unfold match_At_R
 refine ⟨fun g282 => ?_, fun g282 => ?_⟩
 ·rw [if_pos g282] at h
  exact match_At_j1_ok h
 ·rw [if_neg g282] at h
  refine ⟨fun g283 => ?_, fun g283 => ?_⟩
  ·rw [if_pos g283] at h
   exact match_At_j1_ok h
  ·rw [if_neg g283] at h
   refine ⟨fun g284 => ?_, fun g284 => ?_⟩
   ·rw [if_pos g284] at h
    exact match_At_j1_ok h
   ·rw [if_neg g284] at h
    obtain ⟨q285, g285, h⟩ := bind_ok h
    refine ⟨q285, tree_Right_ok g285, ?_⟩
    exact match_At_j1_ok h
set_option maxRecDepth 100000 in
set_option maxHeartbeats 4000000 in
theorem match_At_con (x1 : (List (Int × Int × Int × Int × Int × Int × (Arr 4 (UInt64)))) × Int) (x2 : List UInt8) (x3 : Int) (x4 : Int) (r : ((Arr 10 (Int × Int))) × Bool × Int × Int) (h : match_At_R x1 x2 x3 x4 r) : Con Try.prog 23 [.agg [.sl 10 none (List.map E_palinode_api_Node x1.1), .v (.int .i64 x1.2)], .sl 1 none (List.map eb x2), .v (.int .i64 x3), .v (.int .i64 x4)] [] [] (fun rr bx tk => rr = .tup [.agg ((List.map E_palinode_api_Span r.1.l).flatten), .v (.bool r.2.1), .v (.int .i64 r.2.2.1), .v (.int .i64 r.2.2.2)] ∧ bx = [] ∧ tk = []) := by
 refine xenter Try.func23 rfl rfl fun g hg => ?_
 simp only [Try.ntmps23, slots]
 refine sr_ ?_
 refine xbox rfl rfl rfl rfl fun b4 => ?_
 refine xalloc InfC.h rfl rfl fun b8 => ?_
 refine xreb 0 ((List.map E_palinode_api_Span ((Arr.rep 10 (0, 0))).l).flatten) rfl rfl ?_
 refine as_ ?_
 refine as_ ?_
 refine as_ ?_
 refine nt_ ?_
 refine xseq ?_
 refine xseqM (fun σ => ∃ (x34 : Bool), match_At_j1 x1 x2 x3 x4 x34 r ∧ σ = ⟨[(1, .sl 1 none (List.map eb x2)), (2, .v (.int .i64 x3)), (3, .v (.int .i64 x4)), (4, .v (.pointer (some ⟨b4, 0, none⟩))), (8, .v (.pointer (some ⟨b8, 0, none⟩))), (32, .v (.bool x34))], [⟨b8, 36, ((List.map E_palinode_api_Span ((Arr.rep 10 (0, 0))).l).flatten)⟩, ⟨b4, 24, [.sl 10 none (List.map E_palinode_api_Node x1.1), .v (.int .i64 x1.2)]⟩], []⟩) ?_ ?_
 ·refine xregion ?_
  refine mv_ ?_
  refine vp_ (pv_bin2 rfl rfl rfl) ?_
  refine mv_ ?_
  by_cases hp36 : x3 < 0
  ·replace h := h.1 hp36
   refine xsetB 18 (decide_eq_true hp36) rfl ?_
   refine sk_ ?_
   refine sk_ ?_
   refine sk_ ?_
   refine sk_ ?_
   refine pk_ ?_
   refine mv_ ?_
   refine sk_ ?_
   refine sk_ ?_
   refine pk_ ?_
   refine mv_ ?_
   refine sk_ ?_
   refine sk_ ?_
   refine sk_ ?_
   refine pk_ ?_
   refine xnil ?_
   exact xmeet ⟨true, h, rfl⟩ ⟨lk_, (SubM.of (.keep rfl rfl (.refl _) (.keep rfl rfl (.refl _) (.nil _))) (.nil _))⟩
  ·replace h := h.2 hp36
   refine xsetB 18 (decide_eq_false hp36) rfl ?_
   refine mv_ ?_
   refine mv_ ?_
   refine vp_ (pv_lenM UndC.h rfl) ?_
   refine vp_ (pv_bin2 rfl rfl rfl) ?_
   refine pk_ ?_
   refine mv_ ?_
   by_cases hp39 : (x2.length : Int) < x3
   ·replace h := h.1 hp39
    refine xsetB 24 (decide_eq_true hp39) rfl ?_
    refine sk_ ?_
    refine sk_ ?_
    refine pk_ ?_
    refine mv_ ?_
    refine sk_ ?_
    refine sk_ ?_
    refine sk_ ?_
    refine pk_ ?_
    refine xnil ?_
    exact xmeet ⟨true, h, rfl⟩ ⟨lk_, (SubM.of (.keep rfl rfl (.refl _) (.keep rfl rfl (.refl _) (.nil _))) (.nil _))⟩
   ·replace h := h.2 hp39
    refine xsetB 24 (decide_eq_false hp39) rfl ?_
    refine mv_ ?_
    refine vp_ (pv_bin2 rfl rfl rfl) ?_
    refine pk_ ?_
    refine mv_ ?_
    by_cases hp41 : x4 < 0
    ·replace h := h.1 hp41
     refine xsetB 28 (decide_eq_true hp41) rfl ?_
     refine sk_ ?_
     refine sk_ ?_
     refine sk_ ?_
     refine pk_ ?_
     refine xnil ?_
     exact xmeet ⟨true, h, rfl⟩ ⟨lk_, (SubM.of (.keep rfl rfl (.refl _) (.keep rfl rfl (.refl _) (.nil _))) (.nil _))⟩
    ·replace h := h.2 hp41
     refine xsetB 28 (decide_eq_false hp41) rfl ?_
     refine v_ (qv_loadB 1 ShpC.h rfl rfl rfl rfl) ?_
     obtain ⟨y43, h42, h⟩ := h
     refine xcall0 (tree_Right_con x1 _ h42) Try.func21 (by kernel_rfl) rfl (.cons rfl (.refl _) .nil) rfl rfl ?_
     refine vp_ (pv_not rfl) ?_
     refine pk_ ?_
     refine xnil ?_
     exact xmeet ⟨(!y43), h, rfl⟩ ⟨lk_, (SubM.of (.keep rfl rfl (.refl _) (.keep rfl rfl (.refl _) (.nil _))) (.nil _))⟩
 ·clear h
  rintro _ ⟨x34, h, rfl⟩
  by_cases hp44 : x34 = true
  ·replace h := h.1 hp44
   refine xcondT' hp44 rfl ?_
   refine sr_ ?_
   refine vp_ (pv_buildC (cs := ((List.map E_palinode_api_Span ((Arr.rep 10 (0, 0))).l).flatten)) StrC.h rfl (by exact congrArg some sq_)) ?_
   refine xstoreQ 0 [] ((List.map E_palinode_api_Span ((Arr.rep 10 (0, 0))).l).flatten) [] ((List.map E_palinode_api_Span ((Arr.rep 10 (0, 0))).l).flatten) ShpC.h rfl rfl rfl rfl rfl ?_
   refine as_ ?_
   refine as_ ?_
   refine as_ ?_
   refine nt_ ?_
   refine xretc ?_
   refine xthen_ret ?_
   replace h := h.symm
   subst h
   exact xretL (rs := [.cell 8 36, .tmp 9, .tmp 10, .tmp 11]) (ss := [.agg ((List.map E_palinode_api_Span ((Arr.rep 10 (0, 0))).l).flatten), .v (.bool false), .v (.int .i64 0), .v (.int .i64 1)]) hg rfl (by refine RetL.cell 0 ShpC.h rfl rfl (part_midE (pre := []) (mid := ((List.map E_palinode_api_Span ((Arr.rep 10 (0, 0))).l).flatten)) (post := []) sq_ sl_ sl_ (part_all (seg_lenE (by rfl)))) (len_midE (pre := []) (mid := ((List.map E_palinode_api_Span ((Arr.rep 10 (0, 0))).l).flatten)) (post := []) sq_ sl_ sl_) wk_ ?_; refine RetL.tmp rfl (.refl _) ?_; refine RetL.tmp rfl (.refl _) ?_; refine RetL.tmp rfl (.refl _) ?_; exact RetL.nil) (SubM.of (.nil _) (.nil _)) ⟨rfl, rfl, rfl⟩
  ·replace h := h.2 hp44
   refine xcondF' (b_f hp44) rfl ?_
   refine xskipc ?_
   refine xthen ?_
   refine sr_ ?_
   refine v_ (qv_loadB 1 ShpC.h rfl rfl rfl rfl) ?_
   refine mv_ ?_
   refine mv_ ?_
   refine vp_ (pv_buildC (cs := ([.sl 10 none (List.map E_palinode_api_Node x1.1), .v (.int .i64 x1.2), .sl 1 none (List.map eb x2), .v (.slice none 0 0), .v (.bool false)] ++ ((List.map E_palinode_api_Span ((Arr.rep 10 (0, 0))).l).flatten ++ [.v (.int .i64 x3)]))) StrC.h rfl (by refine fill_step [] [.v (.slice none 0 0), .v (.int .i64 0)] ([.v (.slice none 0 0), .v (.slice none 0 0), .v (.bool false)] ++ ((List.map E_palinode_api_Span ((Arr.rep 10 (0, 0))).l).flatten ++ [.v (.int .i64 0)])) sq_ sl_ sl_ sl_ rfl rfl ?_; refine fill_step [.sl 10 none (List.map E_palinode_api_Node x1.1), .v (.int .i64 x1.2)] [.v (.slice none 0 0)] ([.v (.slice none 0 0), .v (.bool false)] ++ ((List.map E_palinode_api_Span ((Arr.rep 10 (0, 0))).l).flatten ++ [.v (.int .i64 0)])) sq_ sl_ sl_ sl_ rfl rfl ?_; refine fill_step ([.sl 10 none (List.map E_palinode_api_Node x1.1), .v (.int .i64 x1.2), .sl 1 none (List.map eb x2), .v (.slice none 0 0), .v (.bool false)] ++ (List.map E_palinode_api_Span ((Arr.rep 10 (0, 0))).l).flatten) [.v (.int .i64 0)] [] sq_ sl_ sl_ sl_ rfl rfl ?_; exact congrArg some sq_)) ?_
   refine xbox rfl rfl rfl rfl fun b38 => ?_
   refine xaddRb E_palinode_match_way 79 22 ?_
   refine xwkB 1 ([.sl 10 none (List.map E_palinode_api_Node x1.1), .v (.int .i64 x1.2), .sl 1 none (List.map eb x2), .rb none (([] : List (Int × (Arr 10 (Int × Int)) × (List (Int × Int × Int × Int)))).length), .v (.bool false)] ++ ((List.map E_palinode_api_Span ((Arr.rep 10 (0, 0))).l).flatten ++ [.v (.int .i64 x3)])) rfl (WkL.app (.cons (.refl _) (.cons (.refl _) (.cons (.refl _) (.cons Wk.nil_rb (.cons (.refl _) .nil))))) (WkL.app (.refl _) (.cons (.refl _) .nil))) ?_
   refine as_ ?_
   refine nt_ ?_
   refine sr_ ?_
   refine mv_ ?_
   refine vp_ (qv_fieldAddrB FldC.h rfl) ?_
   refine v_ (qv_loadB 3 ShpC.h rfl rfl rfl rfl) ?_
   refine vp_ (pv_lenM UndC.h rfl) ?_
   obtain ⟨h46, h⟩ := h
   refine vp_ (pv_subI h46 rfl rfl) ?_
   refine vp_ (pv_buildC StrC.h rfl rfl) ?_
   refine xbox rfl rfl rfl rfl fun b45 => ?_
   refine xwkB 0 [.v (.int .i64 0), .v (.int .i64 (((x1.1.length : Int) - 1))), .v (.int .i64 0), .v (.int .i64 0), .pt (List.isEmpty ([] : List (Int × Int × Int × Int))) (PC_palinode_match_cell ([] : List (Int × Int × Int × Int)))] rfl (.cons (.refl _) (.cons (.refl _) (.cons (.refl _) (.cons (.refl _) (.cons (Wk.nil_pt _) .nil))))) ?_
   refine xfreezeB 0 45 rfl rfl ?_
   refine vp_ (pv_buildC (cs := ([.v (.int .i64 x3)] ++ ((List.map E_palinode_api_Span ((Arr.rep 10 (0, 0))).l).flatten ++ [.pt (List.isEmpty ((0, ((x1.1.length : Int) - 1), 0, 0) :: (([] : List (Int × Int × Int × Int))))) (PC_palinode_match_cell ((0, ((x1.1.length : Int) - 1), 0, 0) :: (([] : List (Int × Int × Int × Int)))))]))) StrC.h rfl (by refine fill_step [] [.v (.int .i64 0)] (((List.map E_palinode_api_Span ((Arr.rep 10 (0, 0))).l).flatten ++ [.v (.pointer none)])) sq_ sl_ sl_ sl_ rfl rfl ?_; refine fill_step ([.v (.int .i64 x3)] ++ (List.map E_palinode_api_Span ((Arr.rep 10 (0, 0))).l).flatten) [.v (.pointer none)] [] sq_ sl_ sl_ sl_ rfl rfl ?_; exact congrArg some sq_)) ?_
   refine xalloc InfC.h rfl rfl fun b13 => ?_
   refine xreb 0 ([.v (.int .i64 0)] ++ ((List.map E_palinode_api_Span ((Arr.rep 10 (0, 0))).l).flatten ++ [.v (.pointer none)])) rfl rfl ?_
   refine xstoreQ 0 [] ([.v (.int .i64 0)] ++ ((List.map E_palinode_api_Span ((Arr.rep 10 (0, 0))).l).flatten ++ [.v (.pointer none)])) [] ([.v (.int .i64 x3)] ++ ((List.map E_palinode_api_Span ((Arr.rep 10 (0, 0))).l).flatten ++ [.pt (List.isEmpty ((0, ((x1.1.length : Int) - 1), 0, 0) :: (([] : List (Int × Int × Int × Int))))) (PC_palinode_match_cell ((0, ((x1.1.length : Int) - 1), 0, 0) :: (([] : List (Int × Int × Int × Int)))))])) ShpC.h rfl rfl rfl rfl rfl ?_
   refine nt_ ?_
   refine xseq ?_
   refine sr_ ?_
   refine mv_ ?_
   refine nt_ ?_
   refine xblock ?_
   obtain ⟨Inv, ⟨m0, hI⟩, hS⟩ := h
   refine xloop (fun σ m => ∃ (x73 : Int), ∃ (f74 : Arr 10 (Int × Int)), Inv (x73, f74) m ∧ σ = ⟨[(3, .v (.int .i64 x4)), (8, .v (.pointer (some ⟨b8, 0, none⟩))), (12, .v (.pointer (some ⟨b38, 0, none⟩))), (13, .v (.pointer (some ⟨b13, 0, none⟩))), (47, .v (.int .i64 x73))], [⟨b13, 79, ([.v (.int .i64 x3)] ++ ((List.map E_palinode_api_Span f74.l).flatten ++ [.pt (List.isEmpty ((0, ((x1.1.length : Int) - 1), 0, 0) :: (([] : List (Int × Int × Int × Int))))) (PC_palinode_match_cell ((0, ((x1.1.length : Int) - 1), 0, 0) :: (([] : List (Int × Int × Int × Int)))))]))⟩, rbx none 79 22 (List.map E_palinode_match_way (([] : List (Int × (Arr 10 (Int × Int)) × (List (Int × Int × Int × Int)))))), ⟨b38, 74, ([.sl 10 none (List.map E_palinode_api_Node x1.1), .v (.int .i64 x1.2), .sl 1 none (List.map eb x2), .rb none (([] : List (Int × (Arr 10 (Int × Int)) × (List (Int × Int × Int × Int)))).length), .v (.bool false)] ++ ((List.map E_palinode_api_Span ((Arr.rep 10 (0, 0))).l).flatten ++ [.v (.int .i64 x3)]))⟩, ⟨b8, 36, ((List.map E_palinode_api_Span ((Arr.rep 10 (0, 0))).l).flatten)⟩], []⟩) ⟨0, (Arr.rep 10 (0, 0)), hI, rfl⟩ (by exact ⟨lk_, by exact (SubM.of (.keep rfl rfl (.refl _) (.keep rfl rfl (.refl _) (.keep rfl rfl (by first | exact WkL.refl _ | (exact wl_; done)) (.keep rfl rfl (.refl _) (.nil _))))) (.nil _))⟩) ?_
   rintro _ m ⟨x73, f74, hI, rfl⟩
   obtain ⟨ag2, hag2, h⟩ : ∃ ag, (∀ s', ag s' → ∃ m', m' < m ∧ Inv s' m') ∧ match_At_l2 x1 x2 x3 x4 ag x73 f74 r := ⟨_, fun _ h => h, hS (x73, f74) _ hI⟩
   clear hS hI
   refine sr_ ?_
   refine vp_ (pv_bin2 rfl rfl rfl) ?_
   refine nt_ ?_
   refine xseq ?_
   by_cases hp83 : x73 < 10
   ·replace h := h.1 hp83
    refine xcondT' (decide_eq_true hp83) rfl ?_
    refine xskipc ?_
    refine xthen ?_
    refine xseq ?_
    refine xblock ?_
    refine sr_ ?_
    refine mv_ ?_
    refine as_ ?_
    refine nt_ ?_
    refine xregion ?_
    refine mv_ ?_
    refine vp_ (pv_buildC StrC.h rfl rfl) ?_
    refine vp_ (qv_fieldAddrB FldC.h rfl) ?_
    obtain ⟨h84, h⟩ := h
    obtain ⟨y85, h84b, h⟩ := h
    refine vp_ (pv_indexAddrBA h84 UndC.h ShpC.h rfl rfl) ?_
    refine xstoreA (f := E_palinode_api_Span) (a := f74) (k := 2) (off := 0) (i := (x73 : Int).toNat) 0 [.v (.int .i64 x3)] [.pt (List.isEmpty ((0, ((x1.1.length : Int) - 1), 0, 0) :: (([] : List (Int × Int × Int × Int))))) (PC_palinode_match_cell ((0, ((x1.1.length : Int) - 1), 0, 0) :: (([] : List (Int × Int × Int × Int)))))] ((-1), (-1)) h84b sq_ so_ (by decide) ShpC.h rfl rfl rfl rfl sl_ rfl rfl ?_
    refine xreb 0 ([.v (.int .i64 x3)] ++ ((List.map E_palinode_api_Span ((Arr.set f74 (x73 : Int).toNat (((-1), (-1))))).l).flatten ++ [.pt (List.isEmpty ((0, ((x1.1.length : Int) - 1), 0, 0) :: (([] : List (Int × Int × Int × Int))))) (PC_palinode_match_cell ((0, ((x1.1.length : Int) - 1), 0, 0) :: (([] : List (Int × Int × Int × Int)))))])) rfl sq_ ?_
    refine xnil ?_
    refine xin_normal ?_
    refine xthen ?_
    refine xregion ?_
    obtain ⟨h86, h⟩ := h
    refine vp_ (pv_addI h86 rfl rfl) ?_
    refine mv_ ?_
    refine xnil ?_
    obtain ⟨m', hm, hI⟩ := hag2 _ h
    exact xagain ⟨(x73 + 1), (Arr.set f74 (x73 : Int).toNat (((-1), (-1)))), hI, rfl⟩ hm ⟨lk_, by exact (SubM.of (.keep rfl rfl (.refl _) (.keep rfl rfl (.refl _) (.keep rfl rfl (by first | exact WkL.refl _ | (exact wl_; done)) (.keep rfl rfl (.refl _) (.nil _))))) (.nil _))⟩
   ·replace h := h.2 hp83
    refine xcondF' (decide_eq_false hp83) rfl ?_
    refine xexit ?_
    refine xthen_exit ?_
    refine xthen_exit ?_
    refine xin_same rfl ?_
    refine xthen ?_
    refine sr_ ?_
    refine mv_ ?_
    refine v_ (qv_loadP 0 [] ([.v (.int .i64 x3)] ++ ((List.map E_palinode_api_Span f74.l).flatten ++ [.pt (List.isEmpty ((0, ((x1.1.length : Int) - 1), 0, 0) :: (([] : List (Int × Int × Int × Int))))) (PC_palinode_match_cell ((0, ((x1.1.length : Int) - 1), 0, 0) :: (([] : List (Int × Int × Int × Int)))))])) [] sq_ sl_ sl_ (part_all sl_) ShpC.h rfl rfl) ?_
    obtain ⟨y88, h87, h⟩ := h
    refine xcallF (Fb := [⟨b13, 79, ([.v (.int .i64 x3)] ++ ((List.map E_palinode_api_Span f74.l).flatten ++ [.pt (List.isEmpty ((0, ((x1.1.length : Int) - 1), 0, 0) :: (([] : List (Int × Int × Int × Int))))) (PC_palinode_match_cell ((0, ((x1.1.length : Int) - 1), 0, 0) :: (([] : List (Int × Int × Int × Int)))))]))⟩, ⟨b8, 36, ((List.map E_palinode_api_Span ((Arr.rep 10 (0, 0))).l).flatten)⟩]) (Ft := []) (match_search_follow_con x1.1 x1.2 x2 false (Arr.rep 10 (0, 0)) x3 ([] : List (Int × (Arr 10 (Int × Int)) × (List (Int × Int × Int × Int)))) (x3, f74, ((0, ((x1.1.length : Int) - 1), 0, 0) :: (([] : List (Int × Int × Int × Int))))) b38 none _ h87) Try.func26 (by kernel_rfl) rfl (.cons rfl (.refl _) (.cons rfl (.refl _) .nil)) (by refine SubM.trans (SubM.mvB 1 rfl) ?_; refine SubM.trans (SubM.mvB 2 rfl) ?_; (simp only [List.eraseIdx]); exact sm_) rfl rfl ?_
    rintro _ _ _ ⟨i89, rfl, rfl, rfl⟩
    simp only [List.nil_append, List.cons_append]
    refine nt_ ?_
    refine xseq ?_
    refine xblock ?_
    obtain ⟨Inv, ⟨m0, hI⟩, hS⟩ := h
    refine xloop (fun σ m => ∃ (x207 : Int), ∃ (f208 : Bool), ∃ (f209 : Arr 10 (Int × Int)), ∃ (l210 : List (Int × (Arr 10 (Int × Int)) × (List (Int × Int × Int × Int)))), ∃ (i211 : Option (Nat × Nat)), Inv (x207, f208, f209, l210) m ∧ σ = ⟨[(3, .v (.int .i64 x207)), (8, .v (.pointer (some ⟨b8, 0, none⟩))), (12, .v (.pointer (some ⟨b38, 0, none⟩)))], [rbx i211 79 22 (List.map E_palinode_match_way l210), ⟨b38, 74, ([.sl 10 none (List.map E_palinode_api_Node x1.1), .v (.int .i64 x1.2), .sl 1 none (List.map eb x2), .rb i211 l210.length, .v (.bool f208)] ++ ((List.map E_palinode_api_Span f209.l).flatten ++ [.v (.int .i64 x3)]))⟩, ⟨b8, 36, ((List.map E_palinode_api_Span ((Arr.rep 10 (0, 0))).l).flatten)⟩], []⟩) ⟨x4, y88.2.1, y88.2.2, y88.1, i89, hI, rfl⟩ (by exact ⟨lk_, by exact (SubM.of (.keep rfl rfl (.refl _) (.keep rfl rfl (by first | exact WkL.refl _ | (exact wl_; done)) (.drop (.keep rfl rfl (.refl _) (.nil _))))) (.nil _))⟩) ?_
    rintro _ m ⟨x207, f208, f209, l210, i211, hI, rfl⟩
    obtain ⟨ag3, hag3, h⟩ : ∃ ag, (∀ s', ag s' → ∃ m', m' < m ∧ Inv s' m') ∧ match_At_l3 x1 x2 x3 ag x207 f208 f209 l210 r := ⟨_, fun _ h => h, hS (x207, f208, f209, l210) _ hI⟩
    clear hS hI
    refine xseq ?_
    refine sr_ ?_
    refine mv_ ?_
    refine vp_ (pv_nilCheck rfl) ?_
    refine vp_ (qv_fieldAddrB FldC.h rfl) ?_
    refine v_ (qv_loadB 1 ShpC.h rfl rfl rfl rfl) ?_
    refine vp_ (pv_lenRb UndC.h rfl) ?_
    refine vp_ (pv_bin2 rfl rfl rfl) ?_
    refine nt_ ?_
    by_cases hp245 : 0 < ((l210.length : Nat) : Int)
    ·replace h := h.1 hp245
     refine xcondT' (decide_eq_true hp245) rfl ?_
     refine xskipc ?_
     refine xthen ?_
     refine xblock ?_
     refine xseq ?_
     refine sr_ ?_
     refine mv_ ?_
     refine vp_ (pv_bin2 rfl rfl rfl) ?_
     refine nt_ ?_
     by_cases hp249 : x207 = 0
     ·replace h := h.1 hp249
      refine xcondT' (decide_eq_true hp249) rfl ?_
      refine sr_ ?_
      refine vp_ (pv_buildC (cs := ((List.map E_palinode_api_Span ((Arr.rep 10 (0, 0))).l).flatten)) StrC.h rfl (by exact congrArg some sq_)) ?_
      refine xstoreQ 2 [] ((List.map E_palinode_api_Span ((Arr.rep 10 (0, 0))).l).flatten) [] ((List.map E_palinode_api_Span ((Arr.rep 10 (0, 0))).l).flatten) ShpC.h rfl rfl rfl rfl rfl ?_
      refine as_ ?_
      refine as_ ?_
      refine as_ ?_
      refine nt_ ?_
      refine xretc ?_
      refine xthen_ret ?_
      refine xin_ret ?_
      refine xthen_ret ?_
      refine xin_ret ?_
      refine xthen_ret ?_
      replace h := h.symm
      subst h
      exact xretL (rs := [.cell 8 36, .tmp 9, .tmp 10, .tmp 11]) (ss := [.agg ((List.map E_palinode_api_Span ((Arr.rep 10 (0, 0))).l).flatten), .v (.bool false), .v (.int .i64 0), .v (.int .i64 18)]) (bx' := []) (tk' := []) hg rfl (by refine RetL.cell 2 ShpC.h rfl rfl (part_midE (pre := []) (mid := ((List.map E_palinode_api_Span ((Arr.rep 10 (0, 0))).l).flatten)) (post := []) sq_ sl_ sl_ (part_all (seg_lenE (by rfl)))) (len_midE (pre := []) (mid := ((List.map E_palinode_api_Span ((Arr.rep 10 (0, 0))).l).flatten)) (post := []) sq_ sl_ sl_) wk_ ?_; refine RetL.tmp rfl (.refl _) ?_; refine RetL.tmp rfl (.refl _) ?_; refine RetL.tmp rfl (.refl _) ?_; exact RetL.nil) (SubM.of (.nil _) (.nil _)) ⟨rfl, rfl, rfl⟩
     ·replace h := h.2 hp249
      refine xcondF' (decide_eq_false hp249) rfl ?_
      refine xskipc ?_
      refine xthen ?_
      refine sr_ ?_
      refine mv_ ?_
      obtain ⟨h250, h⟩ := h
      refine vp_ (pv_subI h250 rfl rfl) ?_
      refine as_ ?_
      refine nt_ ?_
      refine xseq ?_
      refine xregionD (m := 14) (by kernel_rfl) rfl ?_
      obtain ⟨h256, h⟩ := h
      obtain ⟨h258a, h⟩ := h
      obtain ⟨y257, h258b, h⟩ := h
      refine pl_ 0 rfl (pv_move rfl) ?_
      refine pl_ 1 rfl (pv_nilCheck rfl) ?_
      refine pl_ 2 rfl (qv_fieldAddrB FldC.h rfl) ?_
      refine pl_ 4 rfl (pv_move rfl) ?_
      refine pl_ 5 rfl (pv_nilCheck rfl) ?_
      refine pl_ 6 rfl (qv_fieldAddrB FldC.h rfl) ?_
      refine xpvalE 7 [3, 12] rfl (qv_loadB 1 ShpC.h rfl rfl rfl rfl) rfl rfl (by kernel_rfl) (by kernel_rfl) (by kernel_rfl) (fun _ _ _ _ h => h) ?_
      refine pl_ 8 rfl (pv_lenRb UndC.h rfl) ?_
      refine pl_ 9 rfl (pv_subI h256 rfl rfl) ?_
      refine xpvalE 3 [12] rfl (qv_loadB 1 ShpC.h rfl rfl rfl rfl) rfl rfl (by kernel_rfl) (by kernel_rfl) (by kernel_rfl) (fun _ _ _ _ h => h) ?_
      refine pl_ 10 rfl (pv_indexAddrRbM rfl h258a h258b UndC.h ShpC.h rfl rfl) ?_
      refine xpvalE 11 [12] rfl (qv_loadRb (f := E_palinode_match_way) (k := 22) (off := 0) (i := ((((l210.length : Nat) : Int) - 1) : Int).toNat) 0 h258b rfl (by decide) (part_all sl_) ShpC.h rfl rfl) rfl rfl (by kernel_rfl) (by kernel_rfl) (by kernel_rfl) (fun _ _ _ _ h => h) ?_
      refine xpstep (i := 12) (by kernel_rfl) rfl ?_
      refine walloc InfC.h rfl rfl fun b15 => ?_
      refine preb 0 ([.v (.int .i64 0)] ++ ((List.map E_palinode_api_Span ((Arr.rep 10 (0, 0))).l).flatten ++ [.v (.pointer none)])) rfl rfl ?_
      refine xpstep (i := 13) (by kernel_rfl) rfl ?_
      refine wstoreQ 0 [] ([.v (.int .i64 0)] ++ ((List.map E_palinode_api_Span ((Arr.rep 10 (0, 0))).l).flatten ++ [.v (.pointer none)])) [] ([.v (.int .i64 y257.1)] ++ ((List.map E_palinode_api_Span y257.2.1.l).flatten ++ [.pt (List.isEmpty y257.2.2) (PC_palinode_match_cell y257.2.2)])) ShpC.h rfl rfl rfl rfl rfl ?_
      refine xpdone (by kernel_rfl) ?_
      refine xthen ?_
      refine xseq ?_
      refine xregionD (m := 15) (by kernel_rfl) rfl ?_
      obtain ⟨h263, h⟩ := h
      obtain ⟨h264, h⟩ := h
      refine pl_ 0 rfl (pv_move rfl) ?_
      refine pl_ 1 rfl (pv_move rfl) ?_
      refine pl_ 2 rfl (pv_nilCheck rfl) ?_
      refine pl_ 3 rfl (qv_fieldAddrB FldC.h rfl) ?_
      refine pl_ 5 rfl (pv_move rfl) ?_
      refine pl_ 6 rfl (pv_nilCheck rfl) ?_
      refine pl_ 7 rfl (qv_fieldAddrB FldC.h rfl) ?_
      refine xpvalE 8 [4] rfl (qv_loadB 2 ShpC.h rfl rfl rfl rfl) rfl rfl (by kernel_rfl) (by kernel_rfl) (by kernel_rfl) (fun _ _ _ _ h => h) ?_
      refine pl_ 9 rfl (pv_lenRb UndC.h rfl) ?_
      refine pl_ 10 rfl (pv_subI h263 rfl rfl) ?_
      refine xpvalE 4 [] rfl (qv_loadB 2 ShpC.h rfl rfl rfl rfl) rfl rfl (by kernel_rfl) (by kernel_rfl) (by kernel_rfl) (fun _ _ _ _ h => h) ?_
      refine xpstep (i := 11) (by kernel_rfl) rfl ?_
      refine wvalP (pv_sliceRbHi h264 UndC.h ShpC.h rfl rfl) rfl rfl ?_
      refine ptakeRb (f := E_palinode_match_way) (l := l210) 1 85 92 ((((l210.length : Nat) : Int) - 1) : Int).toNat rfl (by have := h264; first | omega | (simp at this ⊢; done) | (simp at this ⊢; omega)) rfl rfl rfl ?_
      refine pl_ 12 rfl (pv_nilCheck rfl) ?_
      refine pl_ 13 rfl (qv_fieldAddrB FldC.h rfl) ?_
      refine xpstep (i := 14) (by kernel_rfl) rfl ?_
      refine wstore 2 ShpC.h rfl rfl rfl rfl rfl rfl rfl ?_
      refine xpdone (by kernel_rfl) ?_
      refine xthen ?_
      refine xregion ?_
      refine mv_ ?_
      refine v_ (qv_loadP 0 [] ([.v (.int .i64 y257.1)] ++ ((List.map E_palinode_api_Span y257.2.1.l).flatten ++ [.pt (List.isEmpty y257.2.2) (PC_palinode_match_cell y257.2.2)])) [] sq_ sl_ sl_ (part_all sl_) ShpC.h rfl rfl) ?_
      obtain ⟨y266, h265, h⟩ := h
      refine xcallF (Fb := [⟨b15, 79, ([.v (.int .i64 y257.1)] ++ ((List.map E_palinode_api_Span y257.2.1.l).flatten ++ [.pt (List.isEmpty y257.2.2) (PC_palinode_match_cell y257.2.2)]))⟩, ⟨b8, 36, ((List.map E_palinode_api_Span ((Arr.rep 10 (0, 0))).l).flatten)⟩]) (Ft := []) (match_search_do_con x1.1 x1.2 x2 f208 f209 x3 (l210.take ((((l210.length : Nat) : Int) - 1) : Int).toNat) y257 b38 i211 _ h265) Try.func27 (by kernel_rfl) rfl (.cons rfl (.refl _) (.cons rfl (.refl _) .nil)) (by refine SubM.trans (SubM.mvB 1 rfl) ?_; refine SubM.trans (SubM.mvB 2 rfl) ?_; (simp only [List.eraseIdx]); exact sm_) rfl rfl ?_
      rintro _ _ _ ⟨i267, rfl, rfl, rfl⟩
      simp only [List.nil_append, List.cons_append]
      refine xnil ?_
      refine xin_normal ?_
      obtain ⟨m', hm, hI⟩ := hag3 _ h
      exact xagain ⟨(x207 - 1), y266.2.1, y266.2.2, y266.1, i267, hI, rfl⟩ hm ⟨lk_, by exact (SubM.of (.keep rfl rfl (.refl _) (.keep rfl rfl (by first | exact WkL.refl _ | (exact wl_; done)) (.drop (.keep rfl rfl (.refl _) (.nil _))))) (.nil _))⟩
    ·replace h := h.2 hp245
     refine xcondF' (decide_eq_false hp245) rfl ?_
     refine xexit ?_
     refine xthen_exit ?_
     refine xthen_exit ?_
     refine xin_same rfl ?_
     refine xthen ?_
     refine xseq ?_
     refine xregionD (m := 13) (by kernel_rfl) rfl ?_
     refine pl_ 0 rfl (pv_move rfl) ?_
     refine pl_ 1 rfl (pv_nilCheck rfl) ?_
     refine pl_ 2 rfl (qv_fieldAddrB FldC.h rfl) ?_
     refine pl_ 4 rfl (pv_move rfl) ?_
     refine pl_ 5 rfl (pv_nilCheck rfl) ?_
     refine pl_ 6 rfl (qv_fieldAddrB FldC.h rfl) ?_
     refine pl_ 8 rfl (pv_move rfl) ?_
     refine xpvalE 3 [7] rfl (qv_loadP 1 [.sl 10 none (List.map E_palinode_api_Node x1.1), .v (.int .i64 x1.2), .sl 1 none (List.map eb x2), .rb i211 l210.length, .v (.bool f208)] ((List.map E_palinode_api_Span f209.l).flatten) [.v (.int .i64 x3)] sq_ sl_ sl_ (part_all (seg_lenE (by rfl))) ShpC.h rfl rfl) rfl rfl (by kernel_rfl) (by kernel_rfl) (by kernel_rfl) (fun _ _ _ _ h => h) ?_
     refine xfl0 [⟨7, 105, .v (.bool f208)⟩] 4 ?_
     refine xflstep 9 (by kernel_rfl) rfl (.cons rfl rfl rfl (fun _ => rfl) (fun _ => qv_loadB 1 ShpC.h rfl rfl rfl rfl) .nil) fun D l td hR => ?_
     refine wstoreQ 2 [] ((List.map E_palinode_api_Span ((Arr.rep 10 (0, 0))).l).flatten) [] ((List.map E_palinode_api_Span f209.l).flatten) ShpC.h rfl rfl rfl rfl rfl ?_
     refine xflgo0 hR ?_
     refine xflend (l' := #[true, true, true, true, true, true, true, true, true, true, false, false, false]) (by kernel_rfl) (.cons rfl rfl rfl (fun _ => rfl) (fun _ => qv_loadB 1 ShpC.h rfl rfl rfl rfl) .nil) (by kernel_rfl) rfl (by kernel_rfl) (by kernel_rfl) ?_
     simp only [List.nil_append, List.cons_append, List.map_cons, List.map_nil]
     refine pl_ 10 rfl (pv_assign rfl) ?_
     refine pl_ 11 rfl (pv_assign rfl) ?_
     refine pl_ 12 rfl (pv_assign rfl) ?_
     refine xpdone (by kernel_rfl) ?_
     refine xthen ?_
     refine xretc ?_
     replace h := h.symm
     subst h
     exact xretL (rs := [.cell 8 36, .tmp 9, .tmp 10, .tmp 11]) (ss := [.agg ((List.map E_palinode_api_Span f209.l).flatten), .v (.bool f208), .v (.int .i64 x207), .v (.int .i64 0)]) (bx' := []) (tk' := []) hg rfl (by refine RetL.cell 2 ShpC.h rfl rfl (part_midE (pre := []) (mid := ((List.map E_palinode_api_Span f209.l).flatten)) (post := []) sq_ sl_ sl_ (part_all (seg_lenE (by rfl)))) (len_midE (pre := []) (mid := ((List.map E_palinode_api_Span f209.l).flatten)) (post := []) sq_ sl_ sl_) wk_ ?_; refine RetL.tmp rfl (.refl _) ?_; refine RetL.tmp rfl (.refl _) ?_; refine RetL.tmp rfl (.refl _) ?_; exact RetL.nil) (SubM.of (.nil _) (.nil _)) ⟨rfl, rfl, rfl⟩
end Go.Proofs.Ytnjnbegjhklcgaa
