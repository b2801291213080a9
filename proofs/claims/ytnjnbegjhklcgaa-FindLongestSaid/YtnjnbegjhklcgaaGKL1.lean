
/- What functions' texts ask for, and the walks that show it (printed by a program). -/
import Derived.Test.YtnjnbegjhklcgaaGK
namespace Go.Proofs.Ytnjnbegjhklcgaa
/-- palinodelaw12.FindLongest -/
def palinodelaw12_FindLongest_j3 (x2203 : Int) (ag2 : (Int × Int × Int) → Prop) (x3003 : Int) (x3004 : Int) (x3005 : Arr 10 (Int × Int)) (x3006 : Arr 10 (Int × Int)) (x3007 : Arr 10 (Int × Int)) (x3008 : Bool) (r : Bool) : Prop :=
 InR (x2203 + 1) ∧ ag2 (x3003, x3004, (x2203 + 1))
def palinodelaw12_FindLongest_j6 (x3167 : Int) (ag5 : (Int) → Prop) (r : Bool) : Prop :=
 InR (x3167 + 1) ∧ ag5 (x3167 + 1)
def palinodelaw12_FindLongest_l5 (x3018 : Int) (x1 : (List (Int × Int × Int × Int × Int × Int × (Arr 4 (UInt64)))) × Int) (x2 : List UInt8) (x2202 : Int) (x2203 : Int) (y44 : (List ((Arr 10 (Int × Int)))) × Int × Int) (ag2 : (Int × Int × Int) → Prop) (ag5 : (Int) → Prop) (x3167 : Int) (r : Bool) : Prop :=
 ((x3167 < x3018 → ∃ y3223 : ((Arr 10 (Int × Int))) × Bool, palinoderef11_Best_R x1 x2 x3167 y3223 ∧ ((y3223.2 = true → (0 ≤ (0 : Int) ∧ (0 : Int) < 10) ∧ ∃ y3232 : Int × Int, y3223.1.l[(0 : Int).toNat]? = some y3232 ∧ ((x3167 < y3232.2 → r = false) ∧ (¬ (x3167 < y3232.2) → ((¬ (x3167 = x2202) → r = false) ∧ (¬ (¬ (x3167 = x2202)) → palinodelaw12_FindLongest_j6 x3167 ag5 r))))) ∧ (¬ (y3223.2 = true) → palinodelaw12_FindLongest_j6 x3167 ag5 r))) ∧ (¬ (x3167 < x3018) → ((x2203 = (y44.1.length : Int) → ∃ y3245 : Bool, palinodelaw12_awake_R y3245 ∧ r = y3245) ∧ (¬ (x2203 = (y44.1.length : Int)) → ∃ y3247 : ((Arr 10 (Int × Int))) × Bool, palinoderef11_Best_R x1 x2 x3018 y3247 ∧ ((¬ (y3247.2 = true) → r = false) ∧ (¬ (¬ (y3247.2 = true)) → 0 ≤ (x2203 : Int) ∧ ∃ y3262 : (Arr 10 (Int × Int)), y44.1[(x2203 : Int).toNat]? = some y3262 ∧ ((¬ ((y3247.1 : (Arr 10 (Int × Int))) = y3262) → r = false) ∧ (¬ (¬ ((y3247.1 : (Arr 10 (Int × Int))) = y3262)) → (0 ≤ (0 : Int) ∧ (0 : Int) < 10) ∧ ∃ y3267 : Int × Int, y3247.1.l[(0 : Int).toNat]? = some y3267 ∧ ((y3267.2 = x3018 → InR (y3267.2 + 1) ∧ palinodelaw12_FindLongest_j3 x2203 ag2 (y3267.2 + 1) y3267.2 y3247.1 y3262 y3262 (!(decide ((y3247.1 : (Arr 10 (Int × Int))) = y3262))) r) ∧ (¬ (y3267.2 = x3018) → palinodelaw12_FindLongest_j3 x2203 ag2 y3267.2 y3267.2 y3247.1 y3262 y3262 (!(decide ((y3247.1 : (Arr 10 (Int × Int))) = y3262))) r))))))))))
def palinodelaw12_FindLongest_j4 (x1 : (List (Int × Int × Int × Int × Int × Int × (Arr 4 (UInt64)))) × Int) (x2 : List UInt8) (x2202 : Int) (x2203 : Int) (y44 : (List ((Arr 10 (Int × Int)))) × Int × Int) (ag2 : (Int × Int × Int) → Prop) (x2201 : Int) (x3018 : Int) (r : Bool) : Prop :=
 LoopR (fun ag5 s => palinodelaw12_FindLongest_l5 x3018 x1 x2 x2202 x2203 y44 ag2 ag5 s r) x2201
def palinodelaw12_FindLongest_l2 (y44 : (List ((Arr 10 (Int × Int)))) × Int × Int) (x2 : List UInt8) (x1 : (List (Int × Int × Int × Int × Int × Int × (Arr 4 (UInt64)))) × Int) (ag2 : (Int × Int × Int) → Prop) (x2201 : Int) (x2202 : Int) (x2203 : Int) (r : Bool) : Prop :=
 ((x2203 ≤ (y44.1.length : Int) → InR ((x2.length : Int) + 1) ∧ ((x2203 < (y44.1.length : Int) → 0 ≤ (x2203 : Int) ∧ ∃ y3022 : (Arr 10 (Int × Int)), y44.1[(x2203 : Int).toNat]? = some y3022 ∧ (0 ≤ (0 : Int) ∧ (0 : Int) < 10) ∧ ∃ y3025 : Int × Int, y3022.l[(0 : Int).toNat]? = some y3025 ∧ palinodelaw12_FindLongest_j4 x1 x2 x2202 x2203 y44 ag2 x2201 y3025.1 r) ∧ (¬ (x2203 < (y44.1.length : Int)) → palinodelaw12_FindLongest_j4 x1 x2 x2202 x2203 y44 ag2 x2201 ((x2.length : Int) + 1) r))) ∧ (¬ (x2203 ≤ (y44.1.length : Int)) → ∃ y3273 : Bool, palinodelaw12_awake_R y3273 ∧ r = y3273))
def palinodelaw12_FindLongest_j1 (x1 : (List (Int × Int × Int × Int × Int × Int × (Arr 4 (UInt64)))) × Int) (x2 : List UInt8) (x31 : Bool) (r : Bool) : Prop :=
 ((x31 = true → ∃ y42 : Bool, palinodelaw12_awake_R y42 ∧ r = y42) ∧ (¬ (x31 = true) → ∃ y44 : (List ((Arr 10 (Int × Int)))) × Int × Int, find_All_R x1 x2 3000 y44 ∧ ((¬ (y44.2.2 = 0) → ((y44.2.2 = 18 → ∃ y65 : Bool, palinodelaw12_awake_R y65 ∧ r = y65) ∧ (¬ (y44.2.2 = 18) → r = false))) ∧ (¬ (¬ (y44.2.2 = 0)) → LoopR (fun ag2 s => palinodelaw12_FindLongest_l2 y44 x2 x1 ag2 s.1 s.2.1 s.2.2 r) (0, (-1), 0)))))
def palinodelaw12_FindLongest_R (x1 : (List (Int × Int × Int × Int × Int × Int × (Arr 4 (UInt64)))) × Int) (x2 : List UInt8) (r : Bool) : Prop :=
 ((12 < (x1.1.length : Int) → palinodelaw12_FindLongest_j1 x1 x2 true r) ∧ (¬ (12 < (x1.1.length : Int)) → ((5 < (x2.length : Int) → palinodelaw12_FindLongest_j1 x1 x2 true r) ∧ (¬ (5 < (x2.length : Int)) → ∃ y39 : Bool, palinoderef06_Right_R x1 y39 ∧ palinodelaw12_FindLongest_j1 x1 x2 (!y39) r))))
set_option maxRecDepth 100000 in
set_option maxHeartbeats 4000000 in
theorem palinodelaw12_FindLongest_con (x1 : (List (Int × Int × Int × Int × Int × Int × (Arr 4 (UInt64)))) × Int) (x2 : List UInt8) (r : Bool) (h : palinodelaw12_FindLongest_R x1 x2 r) : Con Try.prog 3 [.agg [.sl 10 none (List.map E_palinode_api_Node x1.1), .v (.int .i64 x1.2)], .sl 1 none (List.map eb x2)] [] [] (Ret (.v (.bool r))) := by
 refine xenter Try.func3 rfl rfl fun g hg => ?_
 simp only [Try.ntmps3, slots]
 refine sr_ ?_
 refine xbox rfl rfl rfl rfl fun b2 => ?_
 refine as_ ?_
 refine nt_ ?_
 refine xseq ?_
 refine xseqM (fun σ => ∃ (x31 : Bool), palinodelaw12_FindLongest_j1 x1 x2 x31 r ∧ σ = ⟨[(1, .sl 1 none (List.map eb x2)), (2, .v (.pointer (some ⟨b2, 0, none⟩))), (30, .v (.bool x31))], [⟨b2, 24, [.sl 10 none (List.map E_palinode_api_Node x1.1), .v (.int .i64 x1.2)]⟩], []⟩) ?_ ?_
 ·refine xregion ?_
  refine vp_ (qv_fieldAddrB FldC.h rfl) ?_
  refine v_ (qv_loadB 0 ShpC.h rfl rfl rfl rfl) ?_
  refine vp_ (pv_lenM UndC.h rfl) ?_
  refine vp_ (pv_bin2 rfl rfl rfl) ?_
  refine mv_ ?_
  by_cases hp34 : 12 < (x1.1.length : Int)
  ·replace h := h.1 hp34
   refine xsetB 21 (decide_eq_true hp34) rfl ?_
   refine sk_ ?_
   refine sk_ ?_
   refine sk_ ?_
   refine pk_ ?_
   refine mv_ ?_
   refine sk_ ?_
   refine sk_ ?_
   refine sk_ ?_
   refine pk_ ?_
   refine xnil ?_
   exact xmeet ⟨true, h, rfl⟩ ⟨lk_, (SubM.of (.keep rfl rfl (.refl _) (.nil _)) (.nil _))⟩
  ·replace h := h.2 hp34
   refine xsetB 21 (decide_eq_false hp34) rfl ?_
   refine mv_ ?_
   refine vp_ (pv_lenM UndC.h rfl) ?_
   refine vp_ (pv_bin2 rfl rfl rfl) ?_
   refine pk_ ?_
   refine mv_ ?_
   by_cases hp37 : 5 < (x2.length : Int)
   ·replace h := h.1 hp37
    refine xsetB 26 (decide_eq_true hp37) rfl ?_
    refine sk_ ?_
    refine sk_ ?_
    refine sk_ ?_
    refine pk_ ?_
    refine xnil ?_
    exact xmeet ⟨true, h, rfl⟩ ⟨lk_, (SubM.of (.keep rfl rfl (.refl _) (.nil _)) (.nil _))⟩
   ·replace h := h.2 hp37
    refine xsetB 26 (decide_eq_false hp37) rfl ?_
    refine v_ (qv_loadB 0 ShpC.h rfl rfl rfl rfl) ?_
    obtain ⟨y39, h38, h⟩ := h
    refine xcall0 (palinoderef06_Right_con x1 _ h38) Try.func4 (by kernel_rfl) rfl (.cons rfl (.refl _) .nil) rfl rfl ?_
    refine vp_ (pv_not rfl) ?_
    refine pk_ ?_
    refine xnil ?_
    exact xmeet ⟨(!y39), h, rfl⟩ ⟨lk_, (SubM.of (.keep rfl rfl (.refl _) (.nil _)) (.nil _))⟩
 ·clear h
  rintro _ ⟨x31, h, rfl⟩
  by_cases hp40 : x31 = true
  ·replace h := h.1 hp40
   refine xcondT' hp40 rfl ?_
   refine sr_ ?_
   obtain ⟨y42, h41, h⟩ := h
   refine xcall0 (palinodelaw12_awake_con _ h41) Try.func5 (by kernel_rfl) rfl .nil rfl rfl ?_
   refine as_ ?_
   refine nt_ ?_
   refine xretc ?_
   refine xthen_ret ?_
   replace h := h.symm
   subst h
   exact xret1 hg rfl rfl (.refl _) (SubM.of (.nil _) (.nil _)) ⟨rfl, rfl, rfl⟩
  ·replace h := h.2 hp40
   refine xcondF' (b_f hp40) rfl ?_
   refine xskipc ?_
   refine xthen ?_
   refine sr_ ?_
   refine v_ (qv_loadB 0 ShpC.h rfl rfl rfl rfl) ?_
   refine mv_ ?_
   obtain ⟨y44, h43, h⟩ := h
   refine xcallF (Fb := [⟨b2, 24, [.sl 10 none (List.map E_palinode_api_Node x1.1), .v (.int .i64 x1.2)]⟩]) (Ft := []) (find_All_con x1 x2 3000 _ h43) Try.func6 (by kernel_rfl) rfl (.cons rfl (.refl _) (.cons rfl (.refl _) (.cons rfl (.refl _) .nil))) (by exact sm_) rfl rfl ?_
   rintro _ _ _ ⟨i45, rfl, rfl, rfl⟩
   simp only [List.nil_append, List.cons_append]
   refine mv_ ?_
   refine vp_ (pv_extract rfl rfl) ?_
   refine vp_ (pv_extract rfl rfl) ?_
   refine vp_ (pv_extract rfl rfl) ?_
   refine as_ ?_
   refine as_ ?_
   refine as_ ?_
   refine nt_ ?_
   refine xseq ?_
   refine sr_ ?_
   refine mv_ ?_
   refine vp_ (pv_bin2 rfl rfl rfl) ?_
   refine nt_ ?_
   by_cases hp57 : ¬ (y44.2.2 = 0)
   ·replace h := h.1 hp57
    refine xcondT' (not_t (decide_eq_false hp57)) rfl ?_
    refine sr_ ?_
    refine mv_ ?_
    refine vp_ (pv_bin2 rfl rfl rfl) ?_
    refine mv_ ?_
    by_cases hp63 : y44.2.2 = 18
    ·replace h := h.1 hp63
     refine xsetB 43 (decide_eq_true hp63) rfl ?_
     obtain ⟨y65, h64, h⟩ := h
     refine xcall0 (palinodelaw12_awake_con _ h64) Try.func5 (by kernel_rfl) rfl .nil rfl rfl ?_
     refine pk_ ?_
     refine as_ ?_
     refine nt_ ?_
     refine xretc ?_
     refine xthen_ret ?_
     replace h := h.symm
     subst h
     exact xret1 hg rfl rfl (.refl _) (SubM.of (.nil _) (.nil _)) ⟨rfl, rfl, rfl⟩
    ·replace h := h.2 hp63
     refine xsetB 43 (decide_eq_false hp63) rfl ?_
     refine sk_ ?_
     refine pk_ ?_
     refine as_ ?_
     refine nt_ ?_
     refine xretc ?_
     refine xthen_ret ?_
     replace h := h.symm
     subst h
     exact xret1 hg rfl rfl (.refl _) (SubM.of (.nil _) (.nil _)) ⟨rfl, rfl, rfl⟩
   ·replace h := h.2 hp57
    refine xcondF' (not_f (decide_eq_true (Decidable.of_not_not hp57))) rfl ?_
    refine xskipc ?_
    refine xthen ?_
    refine sr_ ?_
    refine as_ ?_
    refine as_ ?_
    refine nt_ ?_
    refine xseq ?_
    refine sr_ ?_
    refine as_ ?_
    refine nt_ ?_
    refine xblock ?_
    obtain ⟨Inv, ⟨m0, hI⟩, hS⟩ := h
    refine xloop (fun σ m => ∃ (x2201 : Int), ∃ (x2202 : Int), ∃ (x2203 : Int), Inv (x2201, x2202, x2203) m ∧ σ = ⟨[(1, .sl 1 none (List.map eb x2)), (2, .v (.pointer (some ⟨b2, 0, none⟩))), (5, .sl 20 (some i45) (List.map E_palinode_api_Hit y44.1)), (8, .v (.int .i64 x2201)), (9, .v (.int .i64 x2202)), (10, .v (.int .i64 x2203))], [⟨b2, 24, [.sl 10 none (List.map E_palinode_api_Node x1.1), .v (.int .i64 x1.2)]⟩], [⟨i45, 36, 20, y44.1.length⟩]⟩) ⟨0, (-1), 0, hI, rfl⟩ (by exact ⟨lk_, (SubM.of (.keep rfl rfl (.refl _) (.nil _)) (.keep rfl (.nil _)))⟩) ?_
    rintro _ m ⟨x2201, x2202, x2203, hI, rfl⟩
    obtain ⟨ag2, hag2, h⟩ : ∃ ag, (∀ s', ag s' → ∃ m', m' < m ∧ Inv s' m') ∧ palinodelaw12_FindLongest_l2 y44 x2 x1 ag x2201 x2202 x2203 r := ⟨_, fun _ h => h, hS (x2201, x2202, x2203) _ hI⟩
    clear hS hI
    refine xseq ?_
    refine sr_ ?_
    refine mv_ ?_
    refine mv_ ?_
    refine vp_ (pv_lenM UndC.h rfl) ?_
    refine vp_ (pv_bin2 rfl rfl rfl) ?_
    refine nt_ ?_
    by_cases hp2742 : x2203 ≤ (y44.1.length : Int)
    ·replace h := h.1 hp2742
     refine xcondT' (decide_eq_true hp2742) rfl ?_
     refine xskipc ?_
     refine xthen ?_
     refine xseqM (fun σ => ∃ (x3003 : Int), ∃ (x3004 : Int), ∃ (x3005 : Arr 10 (Int × Int)), ∃ (x3006 : Arr 10 (Int × Int)), ∃ (x3007 : Arr 10 (Int × Int)), ∃ (x3008 : Bool), palinodelaw12_FindLongest_j3 x2203 ag2 x3003 x3004 x3005 x3006 x3007 x3008 r ∧ σ = ⟨[(1, .sl 1 none (List.map eb x2)), (2, .v (.pointer (some ⟨b2, 0, none⟩))), (5, .sl 20 (some i45) (List.map E_palinode_api_Hit y44.1)), (8, .v (.int .i64 x3003)), (9, .v (.int .i64 x3004)), (10, .v (.int .i64 x2203)), (107, .agg ((List.map E_palinode_api_Span x3005.l).flatten)), (108, .sl 20 (some i45) (List.map E_palinode_api_Hit y44.1)), (109, .v (.int .i64 x2203)), (110, .el ((List.map E_palinode_api_Span x3006.l).flatten)), (111, .agg ((List.map E_palinode_api_Span x3007.l).flatten)), (112, .v (.bool x3008))], [⟨b2, 24, [.sl 10 none (List.map E_palinode_api_Node x1.1), .v (.int .i64 x1.2)]⟩], [⟨i45, 36, 20, y44.1.length⟩]⟩) ?_ ?_
     ·refine xblock ?_
      refine sr_ ?_
      refine mv_ ?_
      refine vp_ (pv_lenM UndC.h rfl) ?_
      obtain ⟨h3010, h⟩ := h
      refine vp_ (pv_addI h3010 rfl rfl) ?_
      refine as_ ?_
      refine nt_ ?_
      refine xseqM (fun σ => ∃ (x3018 : Int), palinodelaw12_FindLongest_j4 x1 x2 x2202 x2203 y44 ag2 x2201 x3018 r ∧ σ = ⟨[(1, .sl 1 none (List.map eb x2)), (2, .v (.pointer (some ⟨b2, 0, none⟩))), (5, .sl 20 (some i45) (List.map E_palinode_api_Hit y44.1)), (8, .v (.int .i64 x2201)), (9, .v (.int .i64 x2202)), (10, .v (.int .i64 x2203)), (11, .v (.int .i64 x3018))], [⟨b2, 24, [.sl 10 none (List.map E_palinode_api_Node x1.1), .v (.int .i64 x1.2)]⟩], [⟨i45, 36, 20, y44.1.length⟩]⟩) ?_ ?_
      ·refine xseq ?_
       refine xregion ?_
       refine mv_ ?_
       refine mv_ ?_
       refine vp_ (pv_lenM UndC.h rfl) ?_
       refine vp_ (pv_bin2 rfl rfl rfl) ?_
       refine nt_ ?_
       by_cases hp3021 : x2203 < (y44.1.length : Int)
       ·replace h := h.1 hp3021
        refine xcondT' (decide_eq_true hp3021) rfl ?_
        refine xregion ?_
        refine mv_ ?_
        refine mv_ ?_
        obtain ⟨h3023a, h⟩ := h
        obtain ⟨y3022, h3023b, h⟩ := h
        refine vp_ (pv_indexAddrM h3023a h3023b UndC.h ShpC.h rfl rfl) ?_
        refine vp_ (qv_fieldAddrE FldC.h rfl) ?_
        obtain ⟨h3024, h⟩ := h
        obtain ⟨y3025, h3024b, h⟩ := h
        refine vp_ (pv_indexAddrEA (f := E_palinode_api_Span) (a := y3022) [] h3024 h3024b sq_ UndC.h ShpC.h rfl rfl) ?_
        refine vp_ (qv_fieldAddrE FldC.h rfl) ?_
        refine v_ (qv_load ShpC.h rfl rfl rfl) ?_
        refine as_ ?_
        refine xnil ?_
        exact xmeet ⟨y3025.1, h, rfl⟩ ⟨lk_, (SubM.of (.keep rfl rfl (.refl _) (.nil _)) (.keep rfl (.nil _)))⟩
       ·replace h := h.2 hp3021
        refine xcondF' (decide_eq_false hp3021) rfl ?_
        refine xskipc ?_
        exact xmeet ⟨((x2.length : Int) + 1), h, rfl⟩ ⟨lk_, (SubM.of (.keep rfl rfl (.refl _) (.nil _)) (.keep rfl (.nil _)))⟩
      ·clear h
       rintro _ ⟨x3018, h, rfl⟩
       refine xseq ?_
       refine sr_ ?_
       refine mv_ ?_
       refine as_ ?_
       refine nt_ ?_
       refine xblock ?_
       obtain ⟨Inv, ⟨m0, hI⟩, hS⟩ := h
       refine xloop (fun σ m => ∃ (x3167 : Int), Inv x3167 m ∧ σ = ⟨[(1, .sl 1 none (List.map eb x2)), (2, .v (.pointer (some ⟨b2, 0, none⟩))), (5, .sl 20 (some i45) (List.map E_palinode_api_Hit y44.1)), (9, .v (.int .i64 x2202)), (10, .v (.int .i64 x2203)), (11, .v (.int .i64 x3018)), (12, .v (.int .i64 x3167))], [⟨b2, 24, [.sl 10 none (List.map E_palinode_api_Node x1.1), .v (.int .i64 x1.2)]⟩], [⟨i45, 36, 20, y44.1.length⟩]⟩) ⟨x2201, hI, rfl⟩ (by exact ⟨lk_, (SubM.of (.keep rfl rfl (.refl _) (.nil _)) (.keep rfl (.nil _)))⟩) ?_
       rintro _ m ⟨x3167, hI, rfl⟩
       obtain ⟨ag5, hag5, h⟩ : ∃ ag, (∀ s', ag s' → ∃ m', m' < m ∧ Inv s' m') ∧ palinodelaw12_FindLongest_l5 x3018 x1 x2 x2202 x2203 y44 ag2 ag x3167 r := ⟨_, fun _ h => h, hS x3167 _ hI⟩
       clear hS hI
       refine xseq ?_
       refine sr_ ?_
       refine mv_ ?_
       refine mv_ ?_
       refine vp_ (pv_bin2 rfl rfl rfl) ?_
       refine nt_ ?_
       by_cases hp3206 : x3167 < x3018
       ·replace h := h.1 hp3206
        refine xcondT' (decide_eq_true hp3206) rfl ?_
        refine xskipc ?_
        refine xthen ?_
        refine xseqM (fun σ => palinodelaw12_FindLongest_j6 x3167 ag5 r ∧ σ = ⟨[(1, .sl 1 none (List.map eb x2)), (2, .v (.pointer (some ⟨b2, 0, none⟩))), (5, .sl 20 (some i45) (List.map E_palinode_api_Hit y44.1)), (9, .v (.int .i64 x2202)), (10, .v (.int .i64 x2203)), (11, .v (.int .i64 x3018)), (12, .v (.int .i64 x3167))], [⟨b2, 24, [.sl 10 none (List.map E_palinode_api_Node x1.1), .v (.int .i64 x1.2)]⟩], [⟨i45, 36, 20, y44.1.length⟩]⟩) ?_ ?_
        ·refine xblock ?_
         refine sr_ ?_
         refine v_ (qv_loadB 0 ShpC.h rfl rfl rfl rfl) ?_
         refine mv_ ?_
         refine mv_ ?_
         obtain ⟨y3223, h3222, h⟩ := h
         refine xcallF (Fb := [⟨b2, 24, [.sl 10 none (List.map E_palinode_api_Node x1.1), .v (.int .i64 x1.2)]⟩]) (Ft := [⟨i45, 36, 20, y44.1.length⟩]) (palinoderef11_Best_con x1 x2 x3167 _ h3222) Try.func7 (by kernel_rfl) rfl (.cons rfl (.refl _) (.cons rfl (.refl _) (.cons rfl (.refl _) .nil))) (by exact sm_) rfl rfl ?_
         rintro _ _ _ ⟨rfl, rfl, rfl⟩
         simp only [List.nil_append, List.cons_append]
         refine mv_ ?_
         refine vp_ (pv_extract rfl rfl) ?_
         refine vp_ (pv_extract rfl rfl) ?_
         refine xalloc InfC.h rfl rfl fun b13 => ?_
         refine xreb 0 ((List.map E_palinode_api_Span ((Arr.rep 10 (0, 0))).l).flatten) rfl rfl ?_
         refine xstoreQ 0 [] ((List.map E_palinode_api_Span ((Arr.rep 10 (0, 0))).l).flatten) [] ((List.map E_palinode_api_Span y3223.1.l).flatten) ShpC.h rfl rfl rfl rfl rfl ?_
         refine as_ ?_
         refine nt_ ?_
         refine sr_ ?_
         refine mv_ ?_
         refine mv_ ?_
         by_cases hp3230 : y3223.2 = true
         ·replace h := h.1 hp3230
          refine xsetB 80 hp3230 rfl ?_
          refine vp_ (qv_fieldAddrB FldC.h rfl) ?_
          obtain ⟨h3231, h⟩ := h
          obtain ⟨y3232, h3231b, h⟩ := h
          refine vp_ (pv_indexAddrBA h3231 UndC.h ShpC.h rfl rfl) ?_
          refine vp_ (qv_fieldAddrB FldC.h rfl) ?_
          refine v_ (qv_loadA (f := E_palinode_api_Span) (a := y3223.1) (k := 2) (off := 1) (i := (0 : Int).toNat) 0 [] [] h3231b sq_ so_ (by decide) rfl ShpC.h rfl rfl) ?_
          refine mv_ ?_
          refine vp_ (pv_bin2 rfl rfl rfl) ?_
          refine mv_ ?_
          by_cases hp3234 : x3167 < y3232.2
          ·replace h := h.1 hp3234
           refine xsetB 87 (decide_eq_true hp3234) rfl ?_
           refine sk_ ?_
           refine sk_ ?_
           refine sk_ ?_
           refine pk_ ?_
           refine pk_ ?_
           refine nt_ ?_
           refine xcondT rfl ?_
           refine sr_ ?_
           refine as_ ?_
           refine nt_ ?_
           refine xretc ?_
           refine xin_ret ?_
           refine xthen_ret ?_
           refine xthen_ret ?_
           refine xin_ret ?_
           refine xthen_ret ?_
           refine xin_ret ?_
           refine xthen_ret ?_
           refine xthen_ret ?_
           refine xin_ret ?_
           refine xthen_ret ?_
           replace h := h.symm
           subst h
           exact xret1 hg rfl rfl (.refl _) (SubM.of (.nil _) (.nil _)) ⟨rfl, rfl, rfl⟩
          ·replace h := h.2 hp3234
           refine xsetB 87 (decide_eq_false hp3234) rfl ?_
           refine mv_ ?_
           refine mv_ ?_
           refine vp_ (pv_bin2 rfl rfl rfl) ?_
           refine pk_ ?_
           refine pk_ ?_
           refine nt_ ?_
           by_cases hp3236 : ¬ (x3167 = x2202)
           ·replace h := h.1 hp3236
            refine xcondT' (not_t (decide_eq_false hp3236)) rfl ?_
            refine sr_ ?_
            refine as_ ?_
            refine nt_ ?_
            refine xretc ?_
            refine xin_ret ?_
            refine xthen_ret ?_
            refine xthen_ret ?_
            refine xin_ret ?_
            refine xthen_ret ?_
            refine xin_ret ?_
            refine xthen_ret ?_
            refine xthen_ret ?_
            refine xin_ret ?_
            refine xthen_ret ?_
            replace h := h.symm
            subst h
            exact xret1 hg rfl rfl (.refl _) (SubM.of (.nil _) (.nil _)) ⟨rfl, rfl, rfl⟩
           ·replace h := h.2 hp3236
            refine xcondF' (not_f (decide_eq_true (Decidable.of_not_not hp3236))) rfl ?_
            refine xskipc ?_
            refine xin_normal ?_
            exact xmeet ⟨h, rfl⟩ ⟨lk_, (SubM.of (.drop (.keep rfl rfl (.refl _) (.nil _))) (.keep rfl (.nil _)))⟩
         ·replace h := h.2 hp3230
          refine xsetB 80 (b_f hp3230) rfl ?_
          refine sk_ ?_
          refine sk_ ?_
          refine sk_ ?_
          refine sk_ ?_
          refine sk_ ?_
          refine sk_ ?_
          refine sk_ ?_
          refine sk_ ?_
          refine sk_ ?_
          refine sk_ ?_
          refine sk_ ?_
          refine pk_ ?_
          refine nt_ ?_
          refine xcondF rfl ?_
          refine xskipc ?_
          refine xin_normal ?_
          exact xmeet ⟨h, rfl⟩ ⟨lk_, (SubM.of (.drop (.keep rfl rfl (.refl _) (.nil _))) (.keep rfl (.nil _)))⟩
        ·clear h
         rintro _ ⟨h, rfl⟩
         refine xregion ?_
         refine mv_ ?_
         obtain ⟨h3237, h⟩ := h
         refine vp_ (pv_addI h3237 rfl rfl) ?_
         refine as_ ?_
         refine xnil ?_
         obtain ⟨m', hm, hI⟩ := hag5 _ h
         exact xagain ⟨(x3167 + 1), hI, rfl⟩ hm ⟨lk_, (SubM.of (.keep rfl rfl (.refl _) (.nil _)) (.keep rfl (.nil _)))⟩
       ·replace h := h.2 hp3206
        refine xcondF' (decide_eq_false hp3206) rfl ?_
        refine xexit ?_
        refine xthen_exit ?_
        refine xthen_exit ?_
        refine xin_same rfl ?_
        refine xthen ?_
        refine xseq ?_
        refine sr_ ?_
        refine mv_ ?_
        refine mv_ ?_
        refine vp_ (pv_lenM UndC.h rfl) ?_
        refine vp_ (pv_bin2 rfl rfl rfl) ?_
        refine nt_ ?_
        by_cases hp3243 : x2203 = (y44.1.length : Int)
        ·replace h := h.1 hp3243
         refine xcondT' (decide_eq_true hp3243) rfl ?_
         refine xexit ?_
         refine xthen_exit ?_
         refine xin_other rfl ?_
         refine xthen_exit ?_
         refine xthen_exit ?_
         refine xin_same rfl ?_
         refine xthen ?_
         refine sr_ ?_
         obtain ⟨y3245, h3244, h⟩ := h
         refine xcall0 (palinodelaw12_awake_con _ h3244) Try.func5 (by kernel_rfl) rfl .nil rfl rfl ?_
         refine as_ ?_
         refine nt_ ?_
         refine xretc ?_
         replace h := h.symm
         subst h
         exact xret1 hg rfl rfl (.refl _) (SubM.of (.nil _) (.nil _)) ⟨rfl, rfl, rfl⟩
        ·replace h := h.2 hp3243
         refine xcondF' (decide_eq_false hp3243) rfl ?_
         refine xskipc ?_
         refine xthen ?_
         refine sr_ ?_
         refine v_ (qv_loadB 0 ShpC.h rfl rfl rfl rfl) ?_
         refine mv_ ?_
         refine mv_ ?_
         obtain ⟨y3247, h3246, h⟩ := h
         refine xcallF (Fb := [⟨b2, 24, [.sl 10 none (List.map E_palinode_api_Node x1.1), .v (.int .i64 x1.2)]⟩]) (Ft := [⟨i45, 36, 20, y44.1.length⟩]) (palinoderef11_Best_con x1 x2 x3018 _ h3246) Try.func7 (by kernel_rfl) rfl (.cons rfl (.refl _) (.cons rfl (.refl _) (.cons rfl (.refl _) .nil))) (by exact sm_) rfl rfl ?_
         rintro _ _ _ ⟨rfl, rfl, rfl⟩
         simp only [List.nil_append, List.cons_append]
         refine mv_ ?_
         refine vp_ (pv_extract rfl rfl) ?_
         refine vp_ (pv_extract rfl rfl) ?_
         refine xalloc InfC.h rfl rfl fun b15 => ?_
         refine xreb 0 ((List.map E_palinode_api_Span ((Arr.rep 10 (0, 0))).l).flatten) rfl rfl ?_
         refine xstoreQ 0 [] ((List.map E_palinode_api_Span ((Arr.rep 10 (0, 0))).l).flatten) [] ((List.map E_palinode_api_Span y3247.1.l).flatten) ShpC.h rfl rfl rfl rfl rfl ?_
         refine as_ ?_
         refine nt_ ?_
         refine xseq ?_
         refine xseq ?_
         refine xregionD (m := 10) (by kernel_rfl) rfl ?_
         refine pl_ 0 rfl (pv_move rfl) ?_
         refine pl_ 1 rfl (pv_not rfl) ?_
         refine pl_ 2 rfl (pv_move rfl) ?_
         by_cases hp3261 : ¬ (y3247.2 = true)
         ·replace h := h.1 hp3261
          refine psetB 106 (not_t (b_f hp3261)) rfl ?_
          refine xpskip 3 rfl rfl rfl (by kernel_rfl) (by kernel_rfl) (by kernel_rfl) (fun _ _ _ _ h => h) ?_
          refine xpskip 4 rfl rfl rfl (by kernel_rfl) (by kernel_rfl) (by kernel_rfl) (fun _ _ _ _ h => h) ?_
          refine xpskip 5 rfl rfl rfl (by kernel_rfl) (by kernel_rfl) (by kernel_rfl) (fun _ _ _ _ h => h) ?_
          refine xpskip 6 rfl rfl rfl (by kernel_rfl) (by kernel_rfl) (by kernel_rfl) (fun _ _ _ _ h => h) ?_
          refine xpskip 7 rfl rfl rfl (by kernel_rfl) (by kernel_rfl) (by kernel_rfl) (fun _ _ _ _ h => h) ?_
          refine xpskip 8 rfl rfl rfl (by kernel_rfl) (by kernel_rfl) (by kernel_rfl) (fun _ _ _ _ h => h) ?_
          refine pl_ 9 rfl (pv_pick rfl rfl) ?_
          refine xpdone (by kernel_rfl) ?_
          refine xthen ?_
          refine xcondT rfl ?_
          refine sr_ ?_
          refine as_ ?_
          refine nt_ ?_
          refine xretc ?_
          refine xthen_ret ?_
          refine xin_ret ?_
          refine xthen_ret ?_
          refine xthen_ret ?_
          refine xin_ret ?_
          refine xthen_ret ?_
          replace h := h.symm
          subst h
          exact xret1 hg rfl rfl (.refl _) (SubM.of (.nil _) (.nil _)) ⟨rfl, rfl, rfl⟩
         ·replace h := h.2 hp3261
          refine psetB 106 (not_f (Decidable.of_not_not hp3261)) rfl ?_
          obtain ⟨h3263a, h⟩ := h
          obtain ⟨y3262, h3263b, h⟩ := h
          refine pl_ 4 rfl (pv_move rfl) ?_
          refine pl_ 5 rfl (pv_move rfl) ?_
          refine pl_ 6 rfl (pv_indexAddrM h3263a h3263b UndC.h ShpC.h rfl rfl) ?_
          refine xpvalE 3 [7] rfl (qv_loadP 0 [] ((List.map E_palinode_api_Span y3247.1.l).flatten) [] sq_ sl_ sl_ (part_all (seg_lenE (by rfl))) ShpC.h rfl rfl) rfl rfl (by kernel_rfl) (by kernel_rfl) (by kernel_rfl) (fun _ _ _ _ h => h) ?_
          refine xpvalE 7 [] rfl (qv_loadEP ((List.map E_palinode_api_Span y3262.l).flatten) [] sq_ sl_ (part_all (seg_lenE (by rfl))) ShpC.h rfl) rfl rfl (by kernel_rfl) (by kernel_rfl) (by kernel_rfl) (fun _ _ _ _ h => h) ?_
          refine pl_ 8 rfl (pv_neAgg (f := E_palinode_api_Hit) (a := y3247.1) (b := y3262) eqc_36 (by decide) (by kernel_rfl) ev_ ev_) ?_
          refine pl_ 9 rfl (pv_pick rfl rfl) ?_
          refine xpdone (by kernel_rfl) ?_
          refine xthen ?_
          by_cases hp3265 : ¬ ((y3247.1 : (Arr 10 (Int × Int))) = y3262)
          ·replace h := h.1 hp3265
           refine xcondT' (not_t (decide_eq_false hp3265)) rfl ?_
           refine sr_ ?_
           refine as_ ?_
           refine nt_ ?_
           refine xretc ?_
           refine xthen_ret ?_
           refine xin_ret ?_
           refine xthen_ret ?_
           refine xthen_ret ?_
           refine xin_ret ?_
           refine xthen_ret ?_
           replace h := h.symm
           subst h
           exact xret1 hg rfl rfl (.refl _) (SubM.of (.nil _) (.nil _)) ⟨rfl, rfl, rfl⟩
          ·replace h := h.2 hp3265
           refine xcondF' (not_f (decide_eq_true (Decidable.of_not_not hp3265))) rfl ?_
           refine xskipc ?_
           refine xthen ?_
           refine sr_ ?_
           refine vp_ (qv_fieldAddrB FldC.h rfl) ?_
           obtain ⟨h3266, h⟩ := h
           obtain ⟨y3267, h3266b, h⟩ := h
           refine vp_ (pv_indexAddrBA h3266 UndC.h ShpC.h rfl rfl) ?_
           refine vp_ (qv_fieldAddrB FldC.h rfl) ?_
           refine v_ (qv_loadA (f := E_palinode_api_Span) (a := y3247.1) (k := 2) (off := 1) (i := (0 : Int).toNat) 0 [] [] h3266b sq_ so_ (by decide) rfl ShpC.h rfl rfl) ?_
           refine as_ ?_
           refine nt_ ?_
           refine sr_ ?_
           refine mv_ ?_
           refine as_ ?_
           refine nt_ ?_
           refine sr_ ?_
           refine mv_ ?_
           refine mv_ ?_
           refine vp_ (pv_bin2 rfl rfl rfl) ?_
           refine nt_ ?_
           by_cases hp3269 : y3267.2 = x3018
           ·replace h := h.1 hp3269
            refine xcondT' (decide_eq_true hp3269) rfl ?_
            refine xregion ?_
            refine mv_ ?_
            obtain ⟨h3270, h⟩ := h
            refine vp_ (pv_addI h3270 rfl rfl) ?_
            refine as_ ?_
            refine xnil ?_
            refine xin_normal ?_
            exact xmeet ⟨(y3267.2 + 1), y3267.2, y3247.1, y3262, y3262, (!(decide ((y3247.1 : (Arr 10 (Int × Int))) = y3262))), h, rfl⟩ ⟨lk_, (SubM.of (.drop (.keep rfl rfl (.refl _) (.nil _))) (.keep rfl (.nil _)))⟩
           ·replace h := h.2 hp3269
            refine xcondF' (decide_eq_false hp3269) rfl ?_
            refine xskipc ?_
            refine xin_normal ?_
            exact xmeet ⟨y3267.2, y3267.2, y3247.1, y3262, y3262, (!(decide ((y3247.1 : (Arr 10 (Int × Int))) = y3262))), h, rfl⟩ ⟨lk_, (SubM.of (.drop (.keep rfl rfl (.refl _) (.nil _))) (.keep rfl (.nil _)))⟩
     ·clear h
      rintro _ ⟨x3003, x3004, x3005, x3006, x3007, x3008, h, rfl⟩
      refine xregion ?_
      refine mv_ ?_
      obtain ⟨h3271, h⟩ := h
      refine vp_ (pv_addI h3271 rfl rfl) ?_
      refine as_ ?_
      refine xnil ?_
      obtain ⟨m', hm, hI⟩ := hag2 _ h
      exact xagain ⟨x3003, x3004, (x2203 + 1), hI, rfl⟩ hm ⟨lk_, (SubM.of (.keep rfl rfl (.refl _) (.nil _)) (.keep rfl (.nil _)))⟩
    ·replace h := h.2 hp2742
     refine xcondF' (decide_eq_false hp2742) rfl ?_
     refine xexit ?_
     refine xthen_exit ?_
     refine xthen_exit ?_
     refine xin_same rfl ?_
     refine xthen ?_
     refine sr_ ?_
     obtain ⟨y3273, h3272, h⟩ := h
     refine xcall0 (palinodelaw12_awake_con _ h3272) Try.func5 (by kernel_rfl) rfl .nil rfl rfl ?_
     refine as_ ?_
     refine nt_ ?_
     refine xretc ?_
     replace h := h.symm
     subst h
     exact xret1 hg rfl rfl (.refl _) (SubM.of (.nil _) (.nil _)) ⟨rfl, rfl, rfl⟩
end Go.Proofs.Ytnjnbegjhklcgaa
