
/- What functions' texts ask for, and the walks that show it (printed by a program). -/
import Derived.Test.YtnjnbegjhklcgaaGKp8
namespace Go.Proofs.Ytnjnbegjhklcgaa
/-- find.First -/
def find_First_j2 (x215 : Int) (f216 : Arr 10 (Int × Int)) (r : ((Arr 10 (Int × Int))) × Bool × Int × Int) : Prop :=
 r = ((Arr.rep 10 (0, 0)), false, x215, 0)
def find_First_j4 (y371 : ((Arr 10 (Int × Int))) × Bool × Int × Int) (x273 : Int) (ag3 : (Int × Int × (Arr 10 (Int × Int))) → Prop) (x380 : Bool) (r : ((Arr 10 (Int × Int))) × Bool × Int × Int) : Prop :=
 ((x380 = true → r = (y371.1, y371.2.1, y371.2.2.1, y371.2.2.2)) ∧ (¬ (x380 = true) → InR (x273 + 1) ∧ ag3 (y371.2.2.1, (x273 + 1), y371.1)))
def find_First_l3 (x2 : List UInt8) (y46 : Int) (x1 : (List (Int × Int × Int × Int × Int × Int × (Arr 4 (UInt64)))) × Int) (ag3 : (Int × Int × (Arr 10 (Int × Int))) → Prop) (x272 : Int) (x273 : Int) (f274 : Arr 10 (Int × Int)) (r : ((Arr 10 (Int × Int))) × Bool × Int × Int) : Prop :=
 ((x273 ≤ (x2.length : Int) → InR ((x2.length : Int) - x273) ∧ ((y46 ≤ ((x2.length : Int) - x273) → ∃ y371 : ((Arr 10 (Int × Int))) × Bool × Int × Int, match_At_R x1 x2 x273 x272 y371 ∧ find_First_j4 y371 x273 ag3 (y371.2.1 || (!(decide (y371.2.2.2 = 0)))) r) ∧ (¬ (y46 ≤ ((x2.length : Int) - x273)) → find_First_j2 x272 f274 r))) ∧ (¬ (x273 ≤ (x2.length : Int)) → find_First_j2 x272 f274 r))
def find_First_j1 (x1 : (List (Int × Int × Int × Int × Int × Int × (Arr 4 (UInt64)))) × Int) (x2 : List UInt8) (x4 : Int) (x3 : Int) (x34 : Bool) (r : ((Arr 10 (Int × Int))) × Bool × Int × Int) : Prop :=
 ((x34 = true → r = ((Arr.rep 10 (0, 0)), false, 0, 1)) ∧ (¬ (x34 = true) → ∃ y46 : Int, tree_Least_R x1 y46 ∧ LoopR (fun ag3 s => find_First_l3 x2 y46 x1 ag3 s.1 s.2.1 s.2.2 r) (x4, x3, (Arr.rep 10 (0, 0)))))
def find_First_R (x1 : (List (Int × Int × Int × Int × Int × Int × (Arr 4 (UInt64)))) × Int) (x2 : List UInt8) (x3 : Int) (x4 : Int) (r : ((Arr 10 (Int × Int))) × Bool × Int × Int) : Prop :=
 ((x3 < 0 → find_First_j1 x1 x2 x4 x3 true r) ∧ (¬ (x3 < 0) → (((x2.length : Int) < x3 → find_First_j1 x1 x2 x4 x3 true r) ∧ (¬ ((x2.length : Int) < x3) → ((x4 < 0 → find_First_j1 x1 x2 x4 x3 true r) ∧ (¬ (x4 < 0) → ∃ y43 : Bool, tree_Right_R x1 y43 ∧ find_First_j1 x1 x2 x4 x3 (!y43) r))))))
def find_First_j2_ev (fuel : Nat) (x215 : Int) (f216 : Arr 10 (Int × Int)) : Option (((Arr 10 (Int × Int))) × Bool × Int × Int) :=
 some ((Arr.rep 10 (0, 0)), false, x215, 0)
theorem find_First_j2_ok {fuel : Nat} {x215 : Int} {f216 : Arr 10 (Int × Int)} {r : ((Arr 10 (Int × Int))) × Bool × Int × Int} (h : find_First_j2_ev fuel x215 f216 = some r) : find_First_j2 x215 f216 r := by
 unfold find_First_j2_ev at h
 unfold find_First_j2
 exact (Option.some.inj h).symm
def find_First_j4_ev (fuel : Nat) (y371 : ((Arr 10 (Int × Int))) × Bool × Int × Int) (x273 : Int) (ag3e : (Int × Int × (Arr 10 (Int × Int))) → Option (((Arr 10 (Int × Int))) × Bool × Int × Int)) (x380 : Bool) : Option (((Arr 10 (Int × Int))) × Bool × Int × Int) :=
 (if x380 = true then some (y371.1, y371.2.1, y371.2.2.1, y371.2.2.2) else (if InR (x273 + 1) then ag3e (y371.2.2.1, (x273 + 1), y371.1) else none))
theorem find_First_j4_ok {fuel : Nat} {y371 : ((Arr 10 (Int × Int))) × Bool × Int × Int} {x273 : Int} {ag3 : (Int × Int × (Arr 10 (Int × Int))) → Prop} {ag3e : (Int × Int × (Arr 10 (Int × Int))) → Option (((Arr 10 (Int × Int))) × Bool × Int × Int)} {x380 : Bool} {r : ((Arr 10 (Int × Int))) × Bool × Int × Int} (hagag3 : ∀ s, ag3e s = some r → ag3 s) (h : find_First_j4_ev fuel y371 x273 ag3e x380 = some r) : find_First_j4 y371 x273 ag3 x380 r := by
 unfold find_First_j4_ev at h
 unfold find_First_j4
 refine ⟨fun g286 => ?_, fun g286 => ?_⟩
 ·rw [if_pos g286] at h
  exact (Option.some.inj h).symm
 ·rw [if_neg g286] at h
  obtain ⟨g287, h⟩ := if_ok h
  refine ⟨g287, ?_⟩
  exact hagag3 _ h
def find_First_l3_ev (fuel : Nat) (x2 : List UInt8) (y46 : Int) (x1 : (List (Int × Int × Int × Int × Int × Int × (Arr 4 (UInt64)))) × Int) (ag3e : (Int × Int × (Arr 10 (Int × Int))) → Option (((Arr 10 (Int × Int))) × Bool × Int × Int)) (x272 : Int) (x273 : Int) (f274 : Arr 10 (Int × Int)) : Option (((Arr 10 (Int × Int))) × Bool × Int × Int) :=
 (if x273 ≤ (x2.length : Int) then (if InR ((x2.length : Int) - x273) then (if y46 ≤ ((x2.length : Int) - x273) then ((match_At_ev fuel x1 x2 x273 x272).bind fun y371 => find_First_j4_ev fuel y371 x273 ag3e (y371.2.1 || (!(decide (y371.2.2.2 = 0))))) else find_First_j2_ev fuel x272 f274) else none) else find_First_j2_ev fuel x272 f274)
theorem find_First_l3_ok {fuel : Nat} {x2 : List UInt8} {y46 : Int} {x1 : (List (Int × Int × Int × Int × Int × Int × (Arr 4 (UInt64)))) × Int} {ag3e : (Int × Int × (Arr 10 (Int × Int))) → Option (((Arr 10 (Int × Int))) × Bool × Int × Int)} {ag3 : (Int × Int × (Arr 10 (Int × Int))) → Prop} {x272 : Int} {x273 : Int} {f274 : Arr 10 (Int × Int)} {r : ((Arr 10 (Int × Int))) × Bool × Int × Int} (hagag3 : ∀ s, ag3e s = some r → ag3 s) (h : find_First_l3_ev fuel x2 y46 x1 ag3e x272 x273 f274 = some r) : find_First_l3 x2 y46 x1 ag3 x272 x273 f274 r := by
 unfold find_First_l3_ev at h
 unfold find_First_l3
 refine ⟨fun g288 => ?_, fun g288 => ?_⟩
 ·rw [if_pos g288] at h
  obtain ⟨g289, h⟩ := if_ok h
  refine ⟨g289, ?_⟩
  refine ⟨fun g290 => ?_, fun g290 => ?_⟩
  ·rw [if_pos g290] at h
   obtain ⟨q291, g291, h⟩ := bind_ok h
   refine ⟨q291, match_At_ok g291, ?_⟩
   exact find_First_j4_ok hagag3 h
  ·rw [if_neg g290] at h
   exact find_First_j2_ok h
 ·rw [if_neg g288] at h
  exact find_First_j2_ok h
def find_First_j1_ev (fuel : Nat) (x1 : (List (Int × Int × Int × Int × Int × Int × (Arr 4 (UInt64)))) × Int) (x2 : List UInt8) (x4 : Int) (x3 : Int) (x34 : Bool) : Option (((Arr 10 (Int × Int))) × Bool × Int × Int) :=
 (if x34 = true then some ((Arr.rep 10 (0, 0)), false, 0, 1) else ((tree_Least_ev fuel x1).bind fun y46 => (loopE (fun ag3e s => find_First_l3_ev fuel x2 y46 x1 ag3e s.1 s.2.1 s.2.2) fuel (x4, x3, (Arr.rep 10 (0, 0))))))
theorem find_First_j1_ok {fuel : Nat} {x1 : (List (Int × Int × Int × Int × Int × Int × (Arr 4 (UInt64)))) × Int} {x2 : List UInt8} {x4 : Int} {x3 : Int} {x34 : Bool} {r : ((Arr 10 (Int × Int))) × Bool × Int × Int} (h : find_First_j1_ev fuel x1 x2 x4 x3 x34 = some r) : find_First_j1 x1 x2 x4 x3 x34 r := by
 unfold find_First_j1_ev at h
 unfold find_First_j1
 refine ⟨fun g292 => ?_, fun g292 => ?_⟩
 ·rw [if_pos g292] at h
  exact (Option.some.inj h).symm
 ·rw [if_neg g292] at h
  obtain ⟨q293, g293, h⟩ := bind_ok h
  refine ⟨q293, tree_Least_ok g293, ?_⟩
  refine loopE_ok ?_ h
  intro ae ag s hag h
  exact find_First_l3_ok hag h
def find_First_ev (fuel : Nat) (x1 : (List (Int × Int × Int × Int × Int × Int × (Arr 4 (UInt64)))) × Int) (x2 : List UInt8) (x3 : Int) (x4 : Int) : Option (((Arr 10 (Int × Int))) × Bool × Int × Int) :=
 (if x3 < 0 then find_First_j1_ev fuel x1 x2 x4 x3 true else (if (x2.length : Int) < x3 then find_First_j1_ev fuel x1 x2 x4 x3 true else (if x4 < 0 then find_First_j1_ev fuel x1 x2 x4 x3 true else ((tree_Right_ev fuel x1).bind fun y43 => find_First_j1_ev fuel x1 x2 x4 x3 (!y43)))))
theorem find_First_ok {fuel : Nat} {x1 : (List (Int × Int × Int × Int × Int × Int × (Arr 4 (UInt64)))) × Int} {x2 : List UInt8} {x3 : Int} {x4 : Int} {r : ((Arr 10 (Int × Int))) × Bool × Int × Int} (h : find_First_ev fuel x1 x2 x3 x4 = some r) : find_First_R x1 x2 x3 x4 r := by
 unfold find_First_ev at h
 unfold find_First_R
 refine ⟨fun g294 => ?_, fun g294 => ?_⟩
 ·rw [if_pos g294] at h
  exact find_First_j1_ok h
 ·rw [if_neg g294] at h
  refine ⟨fun g295 => ?_, fun g295 => ?_⟩
  ·rw [if_pos g295] at h
   exact find_First_j1_ok h
  ·rw [if_neg g295] at h
   refine ⟨fun g296 => ?_, fun g296 => ?_⟩
   ·rw [if_pos g296] at h
    exact find_First_j1_ok h
   ·rw [if_neg g296] at h
    obtain ⟨q297, g297, h⟩ := bind_ok h
    refine ⟨q297, tree_Right_ok g297, ?_⟩
    exact find_First_j1_ok h
set_option maxRecDepth 100000 in
set_option maxHeartbeats 4000000 in
theorem find_First_con (x1 : (List (Int × Int × Int × Int × Int × Int × (Arr 4 (UInt64)))) × Int) (x2 : List UInt8) (x3 : Int) (x4 : Int) (r : ((Arr 10 (Int × Int))) × Bool × Int × Int) (h : find_First_R x1 x2 x3 x4 r) : Con Try.prog 20 [.agg [.sl 10 none (List.map E_palinode_api_Node x1.1), .v (.int .i64 x1.2)], .sl 1 none (List.map eb x2), .v (.int .i64 x3), .v (.int .i64 x4)] [] [] (fun rr bx tk => rr = .tup [.agg ((List.map E_palinode_api_Span r.1.l).flatten), .v (.bool r.2.1), .v (.int .i64 r.2.2.1), .v (.int .i64 r.2.2.2)] ∧ bx = [] ∧ tk = []) := by
 refine xenter Try.func20 rfl rfl fun g hg => ?_
 simp only [Try.ntmps20, slots]
 refine sr_ ?_
 refine xbox rfl rfl rfl rfl fun b4 => ?_
 refine xalloc InfC.h rfl rfl fun b8 => ?_
 refine xreb 0 ((List.map E_palinode_api_Span ((Arr.rep 10 (0, 0))).l).flatten) rfl rfl ?_
 refine as_ ?_
 refine as_ ?_
 refine as_ ?_
 refine nt_ ?_
 refine xseq ?_
 refine xseqM (fun σ => ∃ (x34 : Bool), find_First_j1 x1 x2 x4 x3 x34 r ∧ σ = ⟨[(1, .sl 1 none (List.map eb x2)), (2, .v (.int .i64 x3)), (3, .v (.int .i64 x4)), (4, .v (.pointer (some ⟨b4, 0, none⟩))), (8, .v (.pointer (some ⟨b8, 0, none⟩))), (30, .v (.bool x34))], [⟨b8, 36, ((List.map E_palinode_api_Span ((Arr.rep 10 (0, 0))).l).flatten)⟩, ⟨b4, 24, [.sl 10 none (List.map E_palinode_api_Node x1.1), .v (.int .i64 x1.2)]⟩], []⟩) ?_ ?_
 ·refine xregion ?_
  refine mv_ ?_
  refine vp_ (pv_bin2 rfl rfl rfl) ?_
  refine mv_ ?_
  by_cases hp36 : x3 < 0
  ·replace h := h.1 hp36
   refine xsetB 16 (decide_eq_true hp36) rfl ?_
   refine sk_ ?_
   refine sk_ ?_
   refine sk_ ?_
   refine sk_ ?_
   refine pk_ ?_
   refine mv_ ?_
   refine sk_ ?_
   refine sk_ ?_
   refine pk_ ?_
   refine mv_ ?_
   refine sk_ ?_
   refine sk_ ?_
   refine sk_ ?_
   refine pk_ ?_
   refine xnil ?_
   exact xmeet ⟨true, h, rfl⟩ ⟨lk_, (SubM.of (.keep rfl rfl (.refl _) (.keep rfl rfl (.refl _) (.nil _))) (.nil _))⟩
  ·replace h := h.2 hp36
   refine xsetB 16 (decide_eq_false hp36) rfl ?_
   refine mv_ ?_
   refine mv_ ?_
   refine vp_ (pv_lenM UndC.h rfl) ?_
   refine vp_ (pv_bin2 rfl rfl rfl) ?_
   refine pk_ ?_
   refine mv_ ?_
   by_cases hp39 : (x2.length : Int) < x3
   ·replace h := h.1 hp39
    refine xsetB 22 (decide_eq_true hp39) rfl ?_
    refine sk_ ?_
    refine sk_ ?_
    refine pk_ ?_
    refine mv_ ?_
    refine sk_ ?_
    refine sk_ ?_
    refine sk_ ?_
    refine pk_ ?_
    refine xnil ?_
    exact xmeet ⟨true, h, rfl⟩ ⟨lk_, (SubM.of (.keep rfl rfl (.refl _) (.keep rfl rfl (.refl _) (.nil _))) (.nil _))⟩
   ·replace h := h.2 hp39
    refine xsetB 22 (decide_eq_false hp39) rfl ?_
    refine mv_ ?_
    refine vp_ (pv_bin2 rfl rfl rfl) ?_
    refine pk_ ?_
    refine mv_ ?_
    by_cases hp41 : x4 < 0
    ·replace h := h.1 hp41
     refine xsetB 26 (decide_eq_true hp41) rfl ?_
     refine sk_ ?_
     refine sk_ ?_
     refine sk_ ?_
     refine pk_ ?_
     refine xnil ?_
     exact xmeet ⟨true, h, rfl⟩ ⟨lk_, (SubM.of (.keep rfl rfl (.refl _) (.keep rfl rfl (.refl _) (.nil _))) (.nil _))⟩
    ·replace h := h.2 hp41
     refine xsetB 26 (decide_eq_false hp41) rfl ?_
     refine v_ (qv_loadB 1 ShpC.h rfl rfl rfl rfl) ?_
     obtain ⟨y43, h42, h⟩ := h
     refine xcall0 (tree_Right_con x1 _ h42) Try.func21 (by kernel_rfl) rfl (.cons rfl (.refl _) .nil) rfl rfl ?_
     refine vp_ (pv_not rfl) ?_
     refine pk_ ?_
     refine xnil ?_
     exact xmeet ⟨(!y43), h, rfl⟩ ⟨lk_, (SubM.of (.keep rfl rfl (.refl _) (.keep rfl rfl (.refl _) (.nil _))) (.nil _))⟩
 ·clear h
  rintro _ ⟨x34, h, rfl⟩
  by_cases hp44 : x34 = true
  ·replace h := h.1 hp44
   refine xcondT' hp44 rfl ?_
   refine sr_ ?_
   refine vp_ (pv_buildC (cs := ((List.map E_palinode_api_Span ((Arr.rep 10 (0, 0))).l).flatten)) StrC.h rfl (by exact congrArg some sq_)) ?_
   refine xstoreQ 0 [] ((List.map E_palinode_api_Span ((Arr.rep 10 (0, 0))).l).flatten) [] ((List.map E_palinode_api_Span ((Arr.rep 10 (0, 0))).l).flatten) ShpC.h rfl rfl rfl rfl rfl ?_
   refine as_ ?_
   refine as_ ?_
   refine as_ ?_
   refine nt_ ?_
   refine xretc ?_
   refine xthen_ret ?_
   replace h := h.symm
   subst h
   exact xretL (rs := [.cell 8 36, .tmp 9, .tmp 10, .tmp 11]) (ss := [.agg ((List.map E_palinode_api_Span ((Arr.rep 10 (0, 0))).l).flatten), .v (.bool false), .v (.int .i64 0), .v (.int .i64 1)]) hg rfl (by refine RetL.cell 0 ShpC.h rfl rfl (part_midE (pre := []) (mid := ((List.map E_palinode_api_Span ((Arr.rep 10 (0, 0))).l).flatten)) (post := []) sq_ sl_ sl_ (part_all (seg_lenE (by rfl)))) (len_midE (pre := []) (mid := ((List.map E_palinode_api_Span ((Arr.rep 10 (0, 0))).l).flatten)) (post := []) sq_ sl_ sl_) wk_ ?_; refine RetL.tmp rfl (.refl _) ?_; refine RetL.tmp rfl (.refl _) ?_; refine RetL.tmp rfl (.refl _) ?_; exact RetL.nil) (SubM.of (.nil _) (.nil _)) ⟨rfl, rfl, rfl⟩
  ·replace h := h.2 hp44
   refine xcondF' (b_f hp44) rfl ?_
   refine xskipc ?_
   refine xthen ?_
   refine sr_ ?_
   refine v_ (qv_loadB 1 ShpC.h rfl rfl rfl rfl) ?_
   obtain ⟨y46, h45, h⟩ := h
   refine xcall0 (tree_Least_con x1 _ h45) Try.func22 (by kernel_rfl) rfl (.cons rfl (.refl _) .nil) rfl rfl ?_
   refine as_ ?_
   refine nt_ ?_
   refine xseqM (fun σ => ∃ (x215 : Int), ∃ (f216 : Arr 10 (Int × Int)), find_First_j2 x215 f216 r ∧ σ = ⟨[(3, .v (.int .i64 x215)), (8, .v (.pointer (some ⟨b8, 0, none⟩)))], [⟨b8, 36, ((List.map E_palinode_api_Span f216.l).flatten)⟩], []⟩) ?_ ?_
   ·refine xseq ?_
    refine xregion ?_
    refine mv_ ?_
    refine as_ ?_
    refine nt_ ?_
    refine xblock ?_
    obtain ⟨Inv, ⟨m0, hI⟩, hS⟩ := h
    refine xloop (fun σ m => ∃ (x272 : Int), ∃ (x273 : Int), ∃ (f274 : Arr 10 (Int × Int)), Inv (x272, x273, f274) m ∧ σ = ⟨[(1, .sl 1 none (List.map eb x2)), (3, .v (.int .i64 x272)), (4, .v (.pointer (some ⟨b4, 0, none⟩))), (8, .v (.pointer (some ⟨b8, 0, none⟩))), (12, .v (.int .i64 y46)), (13, .v (.int .i64 x273))], [⟨b8, 36, ((List.map E_palinode_api_Span f274.l).flatten)⟩, ⟨b4, 24, [.sl 10 none (List.map E_palinode_api_Node x1.1), .v (.int .i64 x1.2)]⟩], []⟩) ⟨x4, x3, (Arr.rep 10 (0, 0)), hI, rfl⟩ (by exact ⟨lk_, (SubM.of (.keep rfl rfl (.refl _) (.keep rfl rfl (.refl _) (.nil _))) (.nil _))⟩) ?_
    rintro _ m ⟨x272, x273, f274, hI, rfl⟩
    obtain ⟨ag3, hag3, h⟩ : ∃ ag, (∀ s', ag s' → ∃ m', m' < m ∧ Inv s' m') ∧ find_First_l3 x2 y46 x1 ag x272 x273 f274 r := ⟨_, fun _ h => h, hS (x272, x273, f274) _ hI⟩
    clear hS hI
    refine xseq ?_
    refine sr_ ?_
    refine mv_ ?_
    refine mv_ ?_
    refine vp_ (pv_lenM UndC.h rfl) ?_
    refine vp_ (pv_bin2 rfl rfl rfl) ?_
    refine mv_ ?_
    by_cases hp351 : x273 ≤ (x2.length : Int)
    ·replace h := h.1 hp351
     refine xsetB 39 (decide_eq_true hp351) rfl ?_
     refine mv_ ?_
     refine vp_ (pv_lenM UndC.h rfl) ?_
     refine mv_ ?_
     obtain ⟨h353, h⟩ := h
     refine vp_ (pv_subI h353 rfl rfl) ?_
     refine mv_ ?_
     refine vp_ (pv_bin2 rfl rfl rfl) ?_
     refine pk_ ?_
     refine nt_ ?_
     by_cases hp355 : y46 ≤ ((x2.length : Int) - x273)
     ·replace h := h.1 hp355
      refine xcondT' (decide_eq_true hp355) rfl ?_
      refine xskipc ?_
      refine xthen ?_
      refine xseq ?_
      refine xblock ?_
      refine sr_ ?_
      refine v_ (qv_loadB 1 ShpC.h rfl rfl rfl rfl) ?_
      refine mv_ ?_
      refine mv_ ?_
      refine mv_ ?_
      obtain ⟨y371, h370, h⟩ := h
      refine xcallF (Fb := [⟨b8, 36, ((List.map E_palinode_api_Span f274.l).flatten)⟩, ⟨b4, 24, [.sl 10 none (List.map E_palinode_api_Node x1.1), .v (.int .i64 x1.2)]⟩]) (Ft := []) (match_At_con x1 x2 x273 x272 _ h370) Try.func23 (by kernel_rfl) rfl (.cons rfl (.refl _) (.cons rfl (.refl _) (.cons rfl (.refl _) (.cons rfl (.refl _) .nil)))) (by exact sm_) rfl rfl ?_
      rintro _ _ _ ⟨rfl, rfl, rfl⟩
      simp only [List.nil_append, List.cons_append]
      refine mv_ ?_
      refine vp_ (pv_extract rfl rfl) ?_
      refine vp_ (pv_extract rfl rfl) ?_
      refine vp_ (pv_extract rfl rfl) ?_
      refine vp_ (pv_extract rfl rfl) ?_
      refine xstoreQ 0 [] ((List.map E_palinode_api_Span f274.l).flatten) [] ((List.map E_palinode_api_Span y371.1.l).flatten) ShpC.h rfl rfl rfl rfl rfl ?_
      refine as_ ?_
      refine as_ ?_
      refine as_ ?_
      refine nt_ ?_
      refine xseq ?_
      refine xseqM (fun σ => ∃ (x380 : Bool), find_First_j4 y371 x273 ag3 x380 r ∧ σ = ⟨[(1, .sl 1 none (List.map eb x2)), (4, .v (.pointer (some ⟨b4, 0, none⟩))), (8, .v (.pointer (some ⟨b8, 0, none⟩))), (9, .v (.bool y371.2.1)), (10, .v (.int .i64 y371.2.2.1)), (11, .v (.int .i64 y371.2.2.2)), (12, .v (.int .i64 y46)), (13, .v (.int .i64 x273)), (40, .sl 1 none (List.map eb x2)), (41, .v (.int .i64 ((x2.length : Int)))), (42, .v (.int .i64 x273)), (43, .v (.int .i64 (((x2.length : Int) - x273)))), (44, .v (.int .i64 y46)), (45, .v (.bool (decide (y46 ≤ ((x2.length : Int) - x273))))), (63, .v (.bool x380))], [⟨b8, 36, ((List.map E_palinode_api_Span y371.1.l).flatten)⟩, ⟨b4, 24, [.sl 10 none (List.map E_palinode_api_Node x1.1), .v (.int .i64 x1.2)]⟩], []⟩) ?_ ?_
      ·refine xregion ?_
       refine mv_ ?_
       refine mv_ ?_
       by_cases hp381 : y371.2.1 = true
       ·rw [or_tt (show y371.2.1 = true from hp381)] at h
        refine xsetB 60 hp381 rfl ?_
        refine sk_ ?_
        refine sk_ ?_
        refine pk_ ?_
        refine xnil ?_
        exact xmeet ⟨true, h, rfl⟩ ⟨lk_, (SubM.of (.keep rfl rfl (.refl _) (.keep rfl rfl (.refl _) (.nil _))) (.nil _))⟩
       ·rw [or_ff (show y371.2.1 = false from (b_f hp381))] at h
        refine xsetB 60 (b_f hp381) rfl ?_
        refine mv_ ?_
        refine vp_ (pv_bin2 rfl rfl rfl) ?_
        refine pk_ ?_
        refine xnil ?_
        exact xmeet ⟨(!(decide (y371.2.2.2 = 0))), h, rfl⟩ ⟨lk_, (SubM.of (.keep rfl rfl (.refl _) (.keep rfl rfl (.refl _) (.nil _))) (.nil _))⟩
      ·clear h
       rintro _ ⟨x380, h, rfl⟩
       by_cases hp383 : x380 = true
       ·replace h := h.1 hp383
        refine xcondT' hp383 rfl ?_
        refine sr_ ?_
        refine v_ (qv_loadP 0 [] ((List.map E_palinode_api_Span y371.1.l).flatten) [] sq_ sl_ sl_ (part_all (seg_lenE (by rfl))) ShpC.h rfl rfl) ?_
        refine mv_ ?_
        refine mv_ ?_
        refine mv_ ?_
        refine xstoreQ 0 [] ((List.map E_palinode_api_Span y371.1.l).flatten) [] ((List.map E_palinode_api_Span y371.1.l).flatten) ShpC.h rfl rfl rfl rfl rfl ?_
        refine as_ ?_
        refine as_ ?_
        refine as_ ?_
        refine nt_ ?_
        refine xretc ?_
        refine xthen_ret ?_
        refine xin_ret ?_
        refine xthen_ret ?_
        refine xthen_ret ?_
        refine xin_ret ?_
        refine xthen_ret ?_
        replace h := h.symm
        subst h
        exact xretL (rs := [.cell 8 36, .tmp 9, .tmp 10, .tmp 11]) (ss := [.agg ((List.map E_palinode_api_Span y371.1.l).flatten), .v (.bool y371.2.1), .v (.int .i64 y371.2.2.1), .v (.int .i64 y371.2.2.2)]) hg rfl (by refine RetL.cell 0 ShpC.h rfl rfl (part_midE (pre := []) (mid := ((List.map E_palinode_api_Span y371.1.l).flatten)) (post := []) sq_ sl_ sl_ (part_all (seg_lenE (by rfl)))) (len_midE (pre := []) (mid := ((List.map E_palinode_api_Span y371.1.l).flatten)) (post := []) sq_ sl_ sl_) wk_ ?_; refine RetL.tmp rfl (.refl _) ?_; refine RetL.tmp rfl (.refl _) ?_; refine RetL.tmp rfl (.refl _) ?_; exact RetL.nil) (SubM.of (.nil _) (.nil _)) ⟨rfl, rfl, rfl⟩
       ·replace h := h.2 hp383
        refine xcondF' (b_f hp383) rfl ?_
        refine xskipc ?_
        refine xthen ?_
        refine xregion ?_
        refine mv_ ?_
        refine as_ ?_
        refine xnil ?_
        refine xin_normal ?_
        refine xthen ?_
        refine xregion ?_
        refine mv_ ?_
        obtain ⟨h384, h⟩ := h
        refine vp_ (pv_addI h384 rfl rfl) ?_
        refine as_ ?_
        refine xnil ?_
        obtain ⟨m', hm, hI⟩ := hag3 _ h
        exact xagain ⟨y371.2.2.1, (x273 + 1), y371.1, hI, rfl⟩ hm ⟨lk_, (SubM.of (.keep rfl rfl (.refl _) (.keep rfl rfl (.refl _) (.nil _))) (.nil _))⟩
     ·replace h := h.2 hp355
      refine xcondF' (decide_eq_false hp355) rfl ?_
      refine xexit ?_
      refine xthen_exit ?_
      refine xthen_exit ?_
      refine xin_same rfl ?_
      exact xmeet ⟨x272, f274, h, rfl⟩ ⟨lk_, (SubM.of (.keep rfl rfl (.refl _) (.nil _)) (.nil _))⟩
    ·replace h := h.2 hp351
     refine xsetB 39 (decide_eq_false hp351) rfl ?_
     refine sk_ ?_
     refine sk_ ?_
     refine sk_ ?_
     refine sk_ ?_
     refine sk_ ?_
     refine sk_ ?_
     refine pk_ ?_
     refine nt_ ?_
     refine xcondF rfl ?_
     refine xexit ?_
     refine xthen_exit ?_
     refine xthen_exit ?_
     refine xin_same rfl ?_
     exact xmeet ⟨x272, f274, h, rfl⟩ ⟨lk_, (SubM.of (.keep rfl rfl (.refl _) (.nil _)) (.nil _))⟩
   ·clear h
    rintro _ ⟨x215, f216, h, rfl⟩
    refine sr_ ?_
    refine vp_ (pv_buildC (cs := ((List.map E_palinode_api_Span ((Arr.rep 10 (0, 0))).l).flatten)) StrC.h rfl (by exact congrArg some sq_)) ?_
    refine mv_ ?_
    refine xstoreQ 0 [] ((List.map E_palinode_api_Span f216.l).flatten) [] ((List.map E_palinode_api_Span ((Arr.rep 10 (0, 0))).l).flatten) ShpC.h rfl rfl rfl rfl rfl ?_
    refine as_ ?_
    refine as_ ?_
    refine as_ ?_
    refine nt_ ?_
    refine xretc ?_
    replace h := h.symm
    subst h
    exact xretL (rs := [.cell 8 36, .tmp 9, .tmp 10, .tmp 11]) (ss := [.agg ((List.map E_palinode_api_Span ((Arr.rep 10 (0, 0))).l).flatten), .v (.bool false), .v (.int .i64 x215), .v (.int .i64 0)]) hg rfl (by refine RetL.cell 0 ShpC.h rfl rfl (part_midE (pre := []) (mid := ((List.map E_palinode_api_Span ((Arr.rep 10 (0, 0))).l).flatten)) (post := []) sq_ sl_ sl_ (part_all (seg_lenE (by rfl)))) (len_midE (pre := []) (mid := ((List.map E_palinode_api_Span ((Arr.rep 10 (0, 0))).l).flatten)) (post := []) sq_ sl_ sl_) wk_ ?_; refine RetL.tmp rfl (.refl _) ?_; refine RetL.tmp rfl (.refl _) ?_; refine RetL.tmp rfl (.refl _) ?_; exact RetL.nil) (SubM.of (.nil _) (.nil _)) ⟨rfl, rfl, rfl⟩
/-- (*find.walk).first -/
def find_walk_first_j1 (o1 : ((List (Int × Int × Int × Int × Int × Int × (Arr 4 (UInt64)))) × Int) × (List UInt8) × Int × Int) (fromv2 : Int) (x17 : Bool) (r : ((Arr 10 (Int × Int))) × Bool × (((List (Int × Int × Int × Int × Int × Int × (Arr 4 (UInt64)))) × Int) × (List UInt8) × Int × Int)) : Prop :=
 ((x17 = true → r = ((Arr.rep 10 (0, 0)), false, o1)) ∧ (¬ (x17 = true) → ∃ y27 : ((Arr 10 (Int × Int))) × Bool × Int × Int, find_First_R o1.1 o1.2.1 fromv2 o1.2.2.1 y27 ∧ r = (y27.1, y27.2.1, (o1.1, o1.2.1, y27.2.2.1, y27.2.2.2))))
def find_walk_first_R (o1 : ((List (Int × Int × Int × Int × Int × Int × (Arr 4 (UInt64)))) × Int) × (List UInt8) × Int × Int) (fromv2 : Int) (r : ((Arr 10 (Int × Int))) × Bool × (((List (Int × Int × Int × Int × Int × Int × (Arr 4 (UInt64)))) × Int) × (List UInt8) × Int × Int)) : Prop :=
 find_walk_first_j1 o1 fromv2 ((decide ((o1.2.1.length : Int) < fromv2)) || (!(decide (o1.2.2.2 = 0)))) r
def find_walk_first_j1_ev (fuel : Nat) (o1 : ((List (Int × Int × Int × Int × Int × Int × (Arr 4 (UInt64)))) × Int) × (List UInt8) × Int × Int) (fromv2 : Int) (x17 : Bool) : Option (((Arr 10 (Int × Int))) × Bool × (((List (Int × Int × Int × Int × Int × Int × (Arr 4 (UInt64)))) × Int) × (List UInt8) × Int × Int)) :=
 (if x17 = true then some ((Arr.rep 10 (0, 0)), false, o1) else ((find_First_ev fuel o1.1 o1.2.1 fromv2 o1.2.2.1).bind fun y27 => some (y27.1, y27.2.1, (o1.1, o1.2.1, y27.2.2.1, y27.2.2.2))))
theorem find_walk_first_j1_ok {fuel : Nat} {o1 : ((List (Int × Int × Int × Int × Int × Int × (Arr 4 (UInt64)))) × Int) × (List UInt8) × Int × Int} {fromv2 : Int} {x17 : Bool} {r : ((Arr 10 (Int × Int))) × Bool × (((List (Int × Int × Int × Int × Int × Int × (Arr 4 (UInt64)))) × Int) × (List UInt8) × Int × Int)} (h : find_walk_first_j1_ev fuel o1 fromv2 x17 = some r) : find_walk_first_j1 o1 fromv2 x17 r := by
 unfold find_walk_first_j1_ev at h
 unfold find_walk_first_j1
 refine ⟨fun g298 => ?_, fun g298 => ?_⟩
 ·rw [if_pos g298] at h
  exact (Option.some.inj h).symm
 ·rw [if_neg g298] at h
  obtain ⟨q299, g299, h⟩ := bind_ok h
  refine ⟨q299, find_First_ok g299, ?_⟩
  exact (Option.some.inj h).symm
def find_walk_first_ev (fuel : Nat) (o1 : ((List (Int × Int × Int × Int × Int × Int × (Arr 4 (UInt64)))) × Int) × (List UInt8) × Int × Int) (fromv2 : Int) : Option (((Arr 10 (Int × Int))) × Bool × (((List (Int × Int × Int × Int × Int × Int × (Arr 4 (UInt64)))) × Int) × (List UInt8) × Int × Int)) :=
 find_walk_first_j1_ev fuel o1 fromv2 ((decide ((o1.2.1.length : Int) < fromv2)) || (!(decide (o1.2.2.2 = 0))))
theorem find_walk_first_ok {fuel : Nat} {o1 : ((List (Int × Int × Int × Int × Int × Int × (Arr 4 (UInt64)))) × Int) × (List UInt8) × Int × Int} {fromv2 : Int} {r : ((Arr 10 (Int × Int))) × Bool × (((List (Int × Int × Int × Int × Int × Int × (Arr 4 (UInt64)))) × Int) × (List UInt8) × Int × Int)} (h : find_walk_first_ev fuel o1 fromv2 = some r) : find_walk_first_R o1 fromv2 r := by
 unfold find_walk_first_ev at h
 unfold find_walk_first_R
 exact find_walk_first_j1_ok h
set_option maxRecDepth 100000 in
set_option maxHeartbeats 4000000 in
theorem find_walk_first_con (o1 : ((List (Int × Int × Int × Int × Int × Int × (Arr 4 (UInt64)))) × Int) × (List UInt8) × Int × Int) (fromv2 : Int) (bx0 : Nat) (r : ((Arr 10 (Int × Int))) × Bool × (((List (Int × Int × Int × Int × Int × Int × (Arr 4 (UInt64)))) × Int) × (List UInt8) × Int × Int)) (h : find_walk_first_R o1 fromv2 r) : Con Try.prog 15 [.v (.pointer (some ⟨bx0, 0, none⟩)), .v (.int .i64 fromv2)] [⟨bx0, 50, [.sl 10 none (List.map E_palinode_api_Node o1.1.1), .v (.int .i64 o1.1.2), .sl 1 none (List.map eb o1.2.1), .v (.int .i64 o1.2.2.1), .v (.int .i64 o1.2.2.2)]⟩] [] (fun rr bx tk => rr = .tup [.agg ((List.map E_palinode_api_Span r.1.l).flatten), .v (.bool r.2.1)] ∧ bx = [⟨bx0, 50, [.sl 10 none (List.map E_palinode_api_Node r.2.2.1.1), .v (.int .i64 r.2.2.1.2), .sl 1 none (List.map eb r.2.2.2.1), .v (.int .i64 r.2.2.2.2.1), .v (.int .i64 r.2.2.2.2.2)]⟩] ∧ tk = []) := by
 refine xenter Try.func15 rfl rfl fun g hg => ?_
 simp only [Try.ntmps15, slots]
 unfold find_walk_first_R at h
 refine sr_ ?_
 refine xalloc InfC.h rfl rfl fun b4 => ?_
 refine xreb 0 ((List.map E_palinode_api_Span ((Arr.rep 10 (0, 0))).l).flatten) rfl rfl ?_
 refine as_ ?_
 refine nt_ ?_
 refine xseq ?_
 refine xseqM (fun σ => ∃ (x17 : Bool), find_walk_first_j1 o1 fromv2 x17 r ∧ σ = ⟨[(0, .v (.pointer (some ⟨bx0, 0, none⟩))), (1, .v (.int .i64 fromv2)), (4, .v (.pointer (some ⟨b4, 0, none⟩))), (23, .v (.bool x17))], [⟨b4, 36, ((List.map E_palinode_api_Span ((Arr.rep 10 (0, 0))).l).flatten)⟩, ⟨bx0, 50, [.sl 10 none (List.map E_palinode_api_Node o1.1.1), .v (.int .i64 o1.1.2), .sl 1 none (List.map eb o1.2.1), .v (.int .i64 o1.2.2.1), .v (.int .i64 o1.2.2.2)]⟩], []⟩) ?_ ?_
 ·refine xregion ?_
  refine mv_ ?_
  refine mv_ ?_
  refine vp_ (pv_nilCheck rfl) ?_
  refine vp_ (qv_fieldAddrB FldC.h rfl) ?_
  refine v_ (qv_loadB 1 ShpC.h rfl rfl rfl rfl) ?_
  refine vp_ (pv_lenM UndC.h rfl) ?_
  refine vp_ (pv_bin2 rfl rfl rfl) ?_
  refine mv_ ?_
  by_cases hp20 : (o1.2.1.length : Int) < fromv2
  ·rw [or_tt (show (decide ((o1.2.1.length : Int) < fromv2)) = true from (decide_eq_true hp20))] at h
   refine xsetB 17 (decide_eq_true hp20) rfl ?_
   refine sk_ ?_
   refine sk_ ?_
   refine sk_ ?_
   refine sk_ ?_
   refine sk_ ?_
   refine pk_ ?_
   refine xnil ?_
   exact xmeet ⟨true, h, rfl⟩ ⟨lk_, (SubM.of (.keep rfl rfl (.refl _) (.keep rfl rfl (.refl _) (.nil _))) (.nil _))⟩
  ·rw [or_ff (show (decide ((o1.2.1.length : Int) < fromv2)) = false from (decide_eq_false hp20))] at h
   refine xsetB 17 (decide_eq_false hp20) rfl ?_
   refine mv_ ?_
   refine vp_ (pv_nilCheck rfl) ?_
   refine vp_ (qv_fieldAddrB FldC.h rfl) ?_
   refine v_ (qv_loadB 1 ShpC.h rfl rfl rfl rfl) ?_
   refine vp_ (pv_bin2 rfl rfl rfl) ?_
   refine pk_ ?_
   refine xnil ?_
   exact xmeet ⟨(!(decide (o1.2.2.2 = 0))), h, rfl⟩ ⟨lk_, (SubM.of (.keep rfl rfl (.refl _) (.keep rfl rfl (.refl _) (.nil _))) (.nil _))⟩
 ·clear h
  rintro _ ⟨x17, h, rfl⟩
  by_cases hp22 : x17 = true
  ·replace h := h.1 hp22
   refine xcondT' hp22 rfl ?_
   refine sr_ ?_
   refine vp_ (pv_buildC (cs := ((List.map E_palinode_api_Span ((Arr.rep 10 (0, 0))).l).flatten)) StrC.h rfl (by exact congrArg some sq_)) ?_
   refine xstoreQ 0 [] ((List.map E_palinode_api_Span ((Arr.rep 10 (0, 0))).l).flatten) [] ((List.map E_palinode_api_Span ((Arr.rep 10 (0, 0))).l).flatten) ShpC.h rfl rfl rfl rfl rfl ?_
   refine as_ ?_
   refine nt_ ?_
   refine xretc ?_
   refine xthen_ret ?_
   replace h := h.symm
   subst h
   exact xretL (rs := [.cell 4 36, .tmp 5]) (ss := [.agg ((List.map E_palinode_api_Span ((Arr.rep 10 (0, 0))).l).flatten), .v (.bool false)]) hg rfl (by refine RetL.cell 0 ShpC.h rfl rfl (part_midE (pre := []) (mid := ((List.map E_palinode_api_Span ((Arr.rep 10 (0, 0))).l).flatten)) (post := []) sq_ sl_ sl_ (part_all (seg_lenE (by rfl)))) (len_midE (pre := []) (mid := ((List.map E_palinode_api_Span ((Arr.rep 10 (0, 0))).l).flatten)) (post := []) sq_ sl_ sl_) wk_ ?_; refine RetL.tmp rfl (.refl _) ?_; exact RetL.nil) (SubM.of (.drop (.keep rfl rfl (.refl _) (.nil _))) (.nil _)) ⟨rfl, rfl, rfl⟩
  ·replace h := h.2 hp22
   refine xcondF' (b_f hp22) rfl ?_
   refine xskipc ?_
   refine xthen ?_
   refine xseq ?_
   refine xregionD (m := 24) (by kernel_rfl) rfl ?_
   obtain ⟨y27, h26, h⟩ := h
   refine xpcut 4 #[true, true, true, true, true, true, true, true, true, true, true, true, true, true, true, true, true, true, true, true, false, false, false, false] (fun σ => ∃ (b6 : Nat), σ = ⟨[(0, .v (.pointer (some ⟨bx0, 0, none⟩))), (4, .v (.pointer (some ⟨b4, 0, none⟩))), (6, .v (.pointer (some ⟨b6, 0, none⟩))), (40, .agg ((List.map E_palinode_api_Span y27.1.l).flatten)), (41, .v (.bool y27.2.1)), (42, .v (.int .i64 y27.2.2.1)), (43, .v (.int .i64 y27.2.2.2))], [⟨b6, 36, ((List.map E_palinode_api_Span ((Arr.rep 10 (0, 0))).l).flatten)⟩, ⟨b4, 36, ((List.map E_palinode_api_Span ((Arr.rep 10 (0, 0))).l).flatten)⟩, ⟨bx0, 50, [.sl 10 none (List.map E_palinode_api_Node o1.1.1), .v (.int .i64 o1.1.2), .sl 1 none (List.map eb o1.2.1), .v (.int .i64 o1.2.2.1), .v (.int .i64 o1.2.2.2)]⟩], []⟩) ?_ (fun key28 => ?_)
   ·rintro _ ⟨b6, rfl⟩
    refine xpstep (i := 20) (by kernel_rfl) rfl ?_
    refine wstoreQ 0 [] ((List.map E_palinode_api_Span ((Arr.rep 10 (0, 0))).l).flatten) [] ((List.map E_palinode_api_Span y27.1.l).flatten) ShpC.h rfl rfl rfl rfl rfl ?_
    refine pl_ 21 rfl (pv_assign rfl) ?_
    refine pl_ 22 rfl (pv_assign rfl) ?_
    refine pl_ 23 rfl (pv_assign rfl) ?_
    refine xpdone (by kernel_rfl) ?_
    refine xthen ?_
    refine sr_ ?_
    refine mv_ ?_
    refine mv_ ?_
    refine mv_ ?_
    refine mv_ ?_
    refine vp_ (pv_nilCheck rfl) ?_
    refine vp_ (qv_fieldAddrB FldC.h rfl) ?_
    refine xstore 2 ShpC.h rfl rfl rfl rfl rfl rfl rfl ?_
    refine vp_ (pv_nilCheck rfl) ?_
    refine vp_ (qv_fieldAddrB FldC.h rfl) ?_
    refine xstore 2 ShpC.h rfl rfl rfl rfl rfl rfl rfl ?_
    refine nt_ ?_
    refine sr_ ?_
    refine v_ (qv_loadP 0 [] ((List.map E_palinode_api_Span y27.1.l).flatten) [] sq_ sl_ sl_ (part_all (seg_lenE (by rfl))) ShpC.h rfl rfl) ?_
    refine mv_ ?_
    refine xstoreQ 1 [] ((List.map E_palinode_api_Span ((Arr.rep 10 (0, 0))).l).flatten) [] ((List.map E_palinode_api_Span y27.1.l).flatten) ShpC.h rfl rfl rfl rfl rfl ?_
    refine as_ ?_
    refine nt_ ?_
    refine xretc ?_
    replace h := h.symm
    subst h
    exact xretL (rs := [.cell 4 36, .tmp 5]) (ss := [.agg ((List.map E_palinode_api_Span y27.1.l).flatten), .v (.bool y27.2.1)]) hg rfl (by refine RetL.cell 1 ShpC.h rfl rfl (part_midE (pre := []) (mid := ((List.map E_palinode_api_Span y27.1.l).flatten)) (post := []) sq_ sl_ sl_ (part_all (seg_lenE (by rfl)))) (len_midE (pre := []) (mid := ((List.map E_palinode_api_Span y27.1.l).flatten)) (post := []) sq_ sl_ sl_) wk_ ?_; refine RetL.tmp rfl (.refl _) ?_; exact RetL.nil) (SubM.of (.drop (.drop (.keep rfl rfl (.refl _) (.nil _)))) (.nil _)) ⟨rfl, rfl, rfl⟩
   refine pl_ 0 rfl (pv_move rfl) ?_
   refine pl_ 1 rfl (pv_nilCheck rfl) ?_
   refine pl_ 2 rfl (qv_fieldAddrB FldC.h rfl) ?_
   refine pl_ 4 rfl (pv_move rfl) ?_
   refine pl_ 5 rfl (pv_nilCheck rfl) ?_
   refine pl_ 6 rfl (qv_fieldAddrB FldC.h rfl) ?_
   refine pl_ 8 rfl (pv_move rfl) ?_
   refine pl_ 9 rfl (pv_move rfl) ?_
   refine pl_ 10 rfl (pv_nilCheck rfl) ?_
   refine pl_ 11 rfl (qv_fieldAddrB FldC.h rfl) ?_
   refine xpvalE 3 [7, 12, 19] rfl (qv_loadB 1 ShpC.h rfl rfl rfl rfl) rfl rfl (by kernel_rfl) (by kernel_rfl) (by kernel_rfl) (fun _ _ _ _ h => h) ?_
   refine xpvalE 7 [12, 19] rfl (qv_loadB 1 ShpC.h rfl rfl rfl rfl) rfl rfl (by kernel_rfl) (by kernel_rfl) (by kernel_rfl) (fun _ _ _ _ h => h) ?_
   refine xpvalE 12 [19] rfl (qv_loadB 1 ShpC.h rfl rfl rfl rfl) rfl rfl (by kernel_rfl) (by kernel_rfl) (by kernel_rfl) (fun _ _ _ _ h => h) ?_
   refine xpstepN (is := [13, 19]) (by kernel_rfl) (by simp) ?_
   intro i hi; simp only [List.mem_cons, List.not_mem_nil, or_false] at hi; rcases hi with rfl | rfl
   ·refine ⟨_, rfl, ?_⟩
    refine wcallF (Fb := [⟨b4, 36, ((List.map E_palinode_api_Span ((Arr.rep 10 (0, 0))).l).flatten)⟩, ⟨bx0, 50, [.sl 10 none (List.map E_palinode_api_Node o1.1.1), .v (.int .i64 o1.1.2), .sl 1 none (List.map eb o1.2.1), .v (.int .i64 o1.2.2.1), .v (.int .i64 o1.2.2.2)]⟩]) (Ft := []) (find_First_con o1.1 o1.2.1 fromv2 o1.2.2.1 _ h26) Try.func20 (by kernel_rfl) rfl (.cons rfl (.refl _) (.cons rfl (.refl _) (.cons rfl (.refl _) (.cons rfl (.refl _) .nil)))) (by exact sm_) rfl rfl ?_
    rintro _ _ _ ⟨rfl, rfl, rfl⟩
    simp only [List.nil_append, List.cons_append]
    refine pl_ 14 rfl (pv_move rfl) ?_
    refine pl_ 15 rfl (pv_extract rfl rfl) ?_
    refine pl_ 16 rfl (pv_extract rfl rfl) ?_
    refine pl_ 17 rfl (pv_extract rfl rfl) ?_
    refine pl_ 18 rfl (pv_extract rfl rfl) ?_
    refine xpstep (i := 19) (by kernel_rfl) rfl ?_
    refine walloc InfC.h rfl rfl fun b6 => ?_
    refine preb 0 ((List.map E_palinode_api_Span ((Arr.rep 10 (0, 0))).l).flatten) rfl rfl ?_
    exact xpuse key28 ⟨b6, rfl⟩ ⟨lk_, (SubM.of (.keep rfl rfl (.refl _) (.keep rfl rfl (.refl _) (.keep rfl rfl (.refl _) (.nil _)))) (.nil _))⟩ rfl (by kernel_rfl)
   ·refine ⟨_, rfl, ?_⟩
    refine walloc InfC.h rfl rfl fun b6 => ?_
    refine preb 0 ((List.map E_palinode_api_Span ((Arr.rep 10 (0, 0))).l).flatten) rfl rfl ?_
    refine xpstep (i := 13) (by kernel_rfl) rfl ?_
    refine wcallF (Fb := [⟨b6, 36, ((List.map E_palinode_api_Span ((Arr.rep 10 (0, 0))).l).flatten)⟩, ⟨b4, 36, ((List.map E_palinode_api_Span ((Arr.rep 10 (0, 0))).l).flatten)⟩, ⟨bx0, 50, [.sl 10 none (List.map E_palinode_api_Node o1.1.1), .v (.int .i64 o1.1.2), .sl 1 none (List.map eb o1.2.1), .v (.int .i64 o1.2.2.1), .v (.int .i64 o1.2.2.2)]⟩]) (Ft := []) (find_First_con o1.1 o1.2.1 fromv2 o1.2.2.1 _ h26) Try.func20 (by kernel_rfl) rfl (.cons rfl (.refl _) (.cons rfl (.refl _) (.cons rfl (.refl _) (.cons rfl (.refl _) .nil)))) (by exact sm_) rfl rfl ?_
    rintro _ _ _ ⟨rfl, rfl, rfl⟩
    simp only [List.nil_append, List.cons_append]
    refine pl_ 14 rfl (pv_move rfl) ?_
    refine pl_ 15 rfl (pv_extract rfl rfl) ?_
    refine pl_ 16 rfl (pv_extract rfl rfl) ?_
    refine pl_ 17 rfl (pv_extract rfl rfl) ?_
    refine pl_ 18 rfl (pv_extract rfl rfl) ?_
    exact xpuse key28 ⟨b6, rfl⟩ ⟨lk_, (SubM.of (.keep rfl rfl (.refl _) (.keep rfl rfl (.refl _) (.keep rfl rfl (.refl _) (.nil _)))) (.nil _))⟩ rfl (by kernel_rfl)
/-- (*find.walk).all$1 -/
def find_walk_all_c1_j3 (f31 : List ((Arr 10 (Int × Int)))) (y64 : ((Arr 10 (Int × Int))) × Bool × (((List (Int × Int × Int × Int × Int × Int × (Arr 4 (UInt64)))) × Int) × (List UInt8) × Int × Int)) (ag1 : (Int × Int × (List ((Arr 10 (Int × Int)))) × (List (Int × Int × Int × Int × Int × Int × (Arr 4 (UInt64)))) × Int × (List UInt8) × Int × Int) → Prop) (fromv72 : Int) (y68 : Int × Int) (r : (List ((Arr 10 (Int × Int)))) × (((List (Int × Int × Int × Int × Int × Int × (Arr 4 (UInt64)))) × Int) × (List UInt8) × Int × Int)) : Prop :=
 ∃ y86 : (List ((Arr 10 (Int × Int)))), find_All_y1_R f31 y64.1 y86 ∧ ag1 (fromv72, y68.2, y86, y64.2.2.1.1, y64.2.2.1.2, y64.2.2.2.1, y64.2.2.2.2.1, y64.2.2.2.2.2)
def find_walk_all_c1_j2 (y68 : Int × Int) (last30 : Int) (ag1 : (Int × Int × (List ((Arr 10 (Int × Int)))) × (List (Int × Int × Int × Int × Int × Int × (Arr 4 (UInt64)))) × Int × (List UInt8) × Int × Int) → Prop) (f31 : List ((Arr 10 (Int × Int)))) (y64 : ((Arr 10 (Int × Int))) × Bool × (((List (Int × Int × Int × Int × Int × Int × (Arr 4 (UInt64)))) × Int) × (List UInt8) × Int × Int)) (fromv72 : Int) (r : (List ((Arr 10 (Int × Int)))) × (((List (Int × Int × Int × Int × Int × Int × (Arr 4 (UInt64)))) × Int) × (List UInt8) × Int × Int)) : Prop :=
 ((y68.1 = y68.2 → ((y68.1 = last30 → ag1 (fromv72, last30, f31, y64.2.2.1.1, y64.2.2.1.2, y64.2.2.2.1, y64.2.2.2.2.1, y64.2.2.2.2.2)) ∧ (¬ (y68.1 = last30) → find_walk_all_c1_j3 f31 y64 ag1 fromv72 y68 r))) ∧ (¬ (y68.1 = y68.2) → find_walk_all_c1_j3 f31 y64 ag1 fromv72 y68 r))
def find_walk_all_c1_l1 (ag1 : (Int × Int × (List ((Arr 10 (Int × Int)))) × (List (Int × Int × Int × Int × Int × Int × (Arr 4 (UInt64)))) × Int × (List UInt8) × Int × Int) → Prop) (fromv29 : Int) (last30 : Int) (f31 : List ((Arr 10 (Int × Int)))) (f33 : List (Int × Int × Int × Int × Int × Int × (Arr 4 (UInt64)))) (f34 : Int) (f35 : List UInt8) (f36 : Int) (f37 : Int) (r : (List ((Arr 10 (Int × Int)))) × (((List (Int × Int × Int × Int × Int × Int × (Arr 4 (UInt64)))) × Int) × (List UInt8) × Int × Int)) : Prop :=
 ∃ y64 : ((Arr 10 (Int × Int))) × Bool × (((List (Int × Int × Int × Int × Int × Int × (Arr 4 (UInt64)))) × Int) × (List UInt8) × Int × Int), find_walk_first_R ((f33, f34), f35, f36, f37) fromv29 y64 ∧ ((¬ (y64.2.1 = true) → r = (f31, y64.2.2)) ∧ (¬ (¬ (y64.2.1 = true)) → (0 ≤ (0 : Int) ∧ (0 : Int) < 10) ∧ ∃ y68 : Int × Int, y64.1.l[(0 : Int).toNat]? = some y68 ∧ ((y68.1 = y68.2 → InR (y68.2 + 1) ∧ find_walk_all_c1_j2 y68 last30 ag1 f31 y64 (y68.2 + 1) r) ∧ (¬ (y68.1 = y68.2) → find_walk_all_c1_j2 y68 last30 ag1 f31 y64 y68.2 r))))
def find_walk_all_c1_R (o1 : List ((Arr 10 (Int × Int)))) (o3 : ((List (Int × Int × Int × Int × Int × Int × (Arr 4 (UInt64)))) × Int) × (List UInt8) × Int × Int) (r : (List ((Arr 10 (Int × Int)))) × (((List (Int × Int × Int × Int × Int × Int × (Arr 4 (UInt64)))) × Int) × (List UInt8) × Int × Int)) : Prop :=
 LoopR (fun ag1 s => find_walk_all_c1_l1 ag1 s.1 s.2.1 s.2.2.1 s.2.2.2.1 s.2.2.2.2.1 s.2.2.2.2.2.1 s.2.2.2.2.2.2.1 s.2.2.2.2.2.2.2 r) (0, (-1), o1, o3.1.1, o3.1.2, o3.2.1, o3.2.2.1, o3.2.2.2)
def find_walk_all_c1_j3_ev (fuel : Nat) (f31 : List ((Arr 10 (Int × Int)))) (y64 : ((Arr 10 (Int × Int))) × Bool × (((List (Int × Int × Int × Int × Int × Int × (Arr 4 (UInt64)))) × Int) × (List UInt8) × Int × Int)) (ag1e : (Int × Int × (List ((Arr 10 (Int × Int)))) × (List (Int × Int × Int × Int × Int × Int × (Arr 4 (UInt64)))) × Int × (List UInt8) × Int × Int) → Option ((List ((Arr 10 (Int × Int)))) × (((List (Int × Int × Int × Int × Int × Int × (Arr 4 (UInt64)))) × Int) × (List UInt8) × Int × Int))) (fromv72 : Int) (y68 : Int × Int) : Option ((List ((Arr 10 (Int × Int)))) × (((List (Int × Int × Int × Int × Int × Int × (Arr 4 (UInt64)))) × Int) × (List UInt8) × Int × Int)) :=
 ((find_All_y1_ev fuel f31 y64.1).bind fun y86 => ag1e (fromv72, y68.2, y86, y64.2.2.1.1, y64.2.2.1.2, y64.2.2.2.1, y64.2.2.2.2.1, y64.2.2.2.2.2))
theorem find_walk_all_c1_j3_ok {fuel : Nat} {f31 : List ((Arr 10 (Int × Int)))} {y64 : ((Arr 10 (Int × Int))) × Bool × (((List (Int × Int × Int × Int × Int × Int × (Arr 4 (UInt64)))) × Int) × (List UInt8) × Int × Int)} {ag1 : (Int × Int × (List ((Arr 10 (Int × Int)))) × (List (Int × Int × Int × Int × Int × Int × (Arr 4 (UInt64)))) × Int × (List UInt8) × Int × Int) → Prop} {ag1e : (Int × Int × (List ((Arr 10 (Int × Int)))) × (List (Int × Int × Int × Int × Int × Int × (Arr 4 (UInt64)))) × Int × (List UInt8) × Int × Int) → Option ((List ((Arr 10 (Int × Int)))) × (((List (Int × Int × Int × Int × Int × Int × (Arr 4 (UInt64)))) × Int) × (List UInt8) × Int × Int))} {fromv72 : Int} {y68 : Int × Int} {r : (List ((Arr 10 (Int × Int)))) × (((List (Int × Int × Int × Int × Int × Int × (Arr 4 (UInt64)))) × Int) × (List UInt8) × Int × Int)} (hagag1 : ∀ s, ag1e s = some r → ag1 s) (h : find_walk_all_c1_j3_ev fuel f31 y64 ag1e fromv72 y68 = some r) : find_walk_all_c1_j3 f31 y64 ag1 fromv72 y68 r := by
 unfold find_walk_all_c1_j3_ev at h
 unfold find_walk_all_c1_j3
 obtain ⟨q300, g300, h⟩ := bind_ok h
 refine ⟨q300, find_All_y1_ok g300, ?_⟩
 exact hagag1 _ h
def find_walk_all_c1_j2_ev (fuel : Nat) (y68 : Int × Int) (last30 : Int) (ag1e : (Int × Int × (List ((Arr 10 (Int × Int)))) × (List (Int × Int × Int × Int × Int × Int × (Arr 4 (UInt64)))) × Int × (List UInt8) × Int × Int) → Option ((List ((Arr 10 (Int × Int)))) × (((List (Int × Int × Int × Int × Int × Int × (Arr 4 (UInt64)))) × Int) × (List UInt8) × Int × Int))) (f31 : List ((Arr 10 (Int × Int)))) (y64 : ((Arr 10 (Int × Int))) × Bool × (((List (Int × Int × Int × Int × Int × Int × (Arr 4 (UInt64)))) × Int) × (List UInt8) × Int × Int)) (fromv72 : Int) : Option ((List ((Arr 10 (Int × Int)))) × (((List (Int × Int × Int × Int × Int × Int × (Arr 4 (UInt64)))) × Int) × (List UInt8) × Int × Int)) :=
 (if y68.1 = y68.2 then (if y68.1 = last30 then ag1e (fromv72, last30, f31, y64.2.2.1.1, y64.2.2.1.2, y64.2.2.2.1, y64.2.2.2.2.1, y64.2.2.2.2.2) else find_walk_all_c1_j3_ev fuel f31 y64 ag1e fromv72 y68) else find_walk_all_c1_j3_ev fuel f31 y64 ag1e fromv72 y68)
theorem find_walk_all_c1_j2_ok {fuel : Nat} {y68 : Int × Int} {last30 : Int} {ag1 : (Int × Int × (List ((Arr 10 (Int × Int)))) × (List (Int × Int × Int × Int × Int × Int × (Arr 4 (UInt64)))) × Int × (List UInt8) × Int × Int) → Prop} {ag1e : (Int × Int × (List ((Arr 10 (Int × Int)))) × (List (Int × Int × Int × Int × Int × Int × (Arr 4 (UInt64)))) × Int × (List UInt8) × Int × Int) → Option ((List ((Arr 10 (Int × Int)))) × (((List (Int × Int × Int × Int × Int × Int × (Arr 4 (UInt64)))) × Int) × (List UInt8) × Int × Int))} {f31 : List ((Arr 10 (Int × Int)))} {y64 : ((Arr 10 (Int × Int))) × Bool × (((List (Int × Int × Int × Int × Int × Int × (Arr 4 (UInt64)))) × Int) × (List UInt8) × Int × Int)} {fromv72 : Int} {r : (List ((Arr 10 (Int × Int)))) × (((List (Int × Int × Int × Int × Int × Int × (Arr 4 (UInt64)))) × Int) × (List UInt8) × Int × Int)} (hagag1 : ∀ s, ag1e s = some r → ag1 s) (h : find_walk_all_c1_j2_ev fuel y68 last30 ag1e f31 y64 fromv72 = some r) : find_walk_all_c1_j2 y68 last30 ag1 f31 y64 fromv72 r := by
 unfold find_walk_all_c1_j2_ev at h
 unfold find_walk_all_c1_j2
 refine ⟨fun g301 => ?_, fun g301 => ?_⟩
 ·rw [if_pos g301] at h
  refine ⟨fun g302 => ?_, fun g302 => ?_⟩
  ·rw [if_pos g302] at h
   exact hagag1 _ h
  ·rw [if_neg g302] at h
   exact find_walk_all_c1_j3_ok hagag1 h
 ·rw [if_neg g301] at h
  exact find_walk_all_c1_j3_ok hagag1 h
def find_walk_all_c1_l1_ev (fuel : Nat) (ag1e : (Int × Int × (List ((Arr 10 (Int × Int)))) × (List (Int × Int × Int × Int × Int × Int × (Arr 4 (UInt64)))) × Int × (List UInt8) × Int × Int) → Option ((List ((Arr 10 (Int × Int)))) × (((List (Int × Int × Int × Int × Int × Int × (Arr 4 (UInt64)))) × Int) × (List UInt8) × Int × Int))) (fromv29 : Int) (last30 : Int) (f31 : List ((Arr 10 (Int × Int)))) (f33 : List (Int × Int × Int × Int × Int × Int × (Arr 4 (UInt64)))) (f34 : Int) (f35 : List UInt8) (f36 : Int) (f37 : Int) : Option ((List ((Arr 10 (Int × Int)))) × (((List (Int × Int × Int × Int × Int × Int × (Arr 4 (UInt64)))) × Int) × (List UInt8) × Int × Int)) :=
 ((find_walk_first_ev fuel ((f33, f34), f35, f36, f37) fromv29).bind fun y64 => (if ¬ (y64.2.1 = true) then some (f31, y64.2.2) else (if (0 ≤ (0 : Int) ∧ (0 : Int) < 10) then ((y64.1.l[(0 : Int).toNat]?).bind fun y68 => (if y68.1 = y68.2 then (if InR (y68.2 + 1) then find_walk_all_c1_j2_ev fuel y68 last30 ag1e f31 y64 (y68.2 + 1) else none) else find_walk_all_c1_j2_ev fuel y68 last30 ag1e f31 y64 y68.2)) else none)))
theorem find_walk_all_c1_l1_ok {fuel : Nat} {ag1e : (Int × Int × (List ((Arr 10 (Int × Int)))) × (List (Int × Int × Int × Int × Int × Int × (Arr 4 (UInt64)))) × Int × (List UInt8) × Int × Int) → Option ((List ((Arr 10 (Int × Int)))) × (((List (Int × Int × Int × Int × Int × Int × (Arr 4 (UInt64)))) × Int) × (List UInt8) × Int × Int))} {ag1 : (Int × Int × (List ((Arr 10 (Int × Int)))) × (List (Int × Int × Int × Int × Int × Int × (Arr 4 (UInt64)))) × Int × (List UInt8) × Int × Int) → Prop} {fromv29 : Int} {last30 : Int} {f31 : List ((Arr 10 (Int × Int)))} {f33 : List (Int × Int × Int × Int × Int × Int × (Arr 4 (UInt64)))} {f34 : Int} {f35 : List UInt8} {f36 : Int} {f37 : Int} {r : (List ((Arr 10 (Int × Int)))) × (((List (Int × Int × Int × Int × Int × Int × (Arr 4 (UInt64)))) × Int) × (List UInt8) × Int × Int)} (hagag1 : ∀ s, ag1e s = some r → ag1 s) (h : find_walk_all_c1_l1_ev fuel ag1e fromv29 last30 f31 f33 f34 f35 f36 f37 = some r) : find_walk_all_c1_l1 ag1 fromv29 last30 f31 f33 f34 f35 f36 f37 r := by
 unfold find_walk_all_c1_l1_ev at h
 unfold find_walk_all_c1_l1
 obtain ⟨q303, g303, h⟩ := bind_ok h
 refine ⟨q303, find_walk_first_ok g303, ?_⟩
 refine ⟨fun g304 => ?_, fun g304 => ?_⟩
 ·rw [if_pos g304] at h
  exact (Option.some.inj h).symm
 ·rw [if_neg g304] at h
  obtain ⟨g305, h⟩ := if_ok h
  refine ⟨g305, ?_⟩
  obtain ⟨q306, g306, h⟩ := bind_ok h
  refine ⟨q306, g306, ?_⟩
  refine ⟨fun g307 => ?_, fun g307 => ?_⟩
  ·rw [if_pos g307] at h
   obtain ⟨g308, h⟩ := if_ok h
   refine ⟨g308, ?_⟩
   exact find_walk_all_c1_j2_ok hagag1 h
  ·rw [if_neg g307] at h
   exact find_walk_all_c1_j2_ok hagag1 h
def find_walk_all_c1_ev (fuel : Nat) (o1 : List ((Arr 10 (Int × Int)))) (o3 : ((List (Int × Int × Int × Int × Int × Int × (Arr 4 (UInt64)))) × Int) × (List UInt8) × Int × Int) : Option ((List ((Arr 10 (Int × Int)))) × (((List (Int × Int × Int × Int × Int × Int × (Arr 4 (UInt64)))) × Int) × (List UInt8) × Int × Int)) :=
 (loopE (fun ag1e s => find_walk_all_c1_l1_ev fuel ag1e s.1 s.2.1 s.2.2.1 s.2.2.2.1 s.2.2.2.2.1 s.2.2.2.2.2.1 s.2.2.2.2.2.2.1 s.2.2.2.2.2.2.2) fuel (0, (-1), o1, o3.1.1, o3.1.2, o3.2.1, o3.2.2.1, o3.2.2.2))
theorem find_walk_all_c1_ok {fuel : Nat} {o1 : List ((Arr 10 (Int × Int)))} {o3 : ((List (Int × Int × Int × Int × Int × Int × (Arr 4 (UInt64)))) × Int) × (List UInt8) × Int × Int} {r : (List ((Arr 10 (Int × Int)))) × (((List (Int × Int × Int × Int × Int × Int × (Arr 4 (UInt64)))) × Int) × (List UInt8) × Int × Int)} (h : find_walk_all_c1_ev fuel o1 o3 = some r) : find_walk_all_c1_R o1 o3 r := by
 unfold find_walk_all_c1_ev at h
 unfold find_walk_all_c1_R
 refine loopE_ok ?_ h
 intro ae ag s hag h
 exact find_walk_all_c1_l1_ok hag h
set_option maxRecDepth 100000 in
set_option maxHeartbeats 4000000 in
theorem find_walk_all_c1_con (o1 : List ((Arr 10 (Int × Int)))) (o3 : ((List (Int × Int × Int × Int × Int × Int × (Arr 4 (UInt64)))) × Int) × (List UInt8) × Int × Int) (bx0 : Nat) (bx1 : Nat) (bx2 : Nat) (ia2 : Option (Nat × Nat)) {L : Lp} (hY : find_All_y1_Y bx0 L) (r : (List ((Arr 10 (Int × Int)))) × (((List (Int × Int × Int × Int × Int × Int × (Arr 4 (UInt64)))) × Int) × (List UInt8) × Int × Int)) (h : find_walk_all_c1_R o1 o3 r) : ConL Try.prog 14 [.v (.func (.yield L.l) #[] #[]), .v (.pointer (some ⟨bx1, 0, none⟩))] [⟨bx0, 28, [.sl 20 (some ia2) (List.map E_palinode_api_Hit o1)]⟩, ⟨bx1, 48, [.v (.pointer (some ⟨bx2, 0, none⟩))]⟩, ⟨bx2, 50, [.sl 10 none (List.map E_palinode_api_Node o3.1.1), .v (.int .i64 o3.1.2), .sl 1 none (List.map eb o3.2.1), .v (.int .i64 o3.2.2.1), .v (.int .i64 o3.2.2.2)]⟩] [⟨ia2, 36, 20, o1.length⟩] L (fun j bx tk => ∃ j1 : Option (Nat × Nat), j = jmp .ret true ∧ bx = [⟨bx0, 28, [.sl 20 (some j1) (List.map E_palinode_api_Hit r.1)]⟩, ⟨bx1, 48, [.v (.pointer (some ⟨bx2, 0, none⟩))]⟩, ⟨bx2, 50, [.sl 10 none (List.map E_palinode_api_Node r.2.1.1), .v (.int .i64 r.2.1.2), .sl 1 none (List.map eb r.2.2.1), .v (.int .i64 r.2.2.2.1), .v (.int .i64 r.2.2.2.2)]⟩] ∧ tk = [⟨j1, 36, 20, r.1.length⟩]) := by
 refine xenterL Try.func14 rfl rfl fun g r0 hg hL => ?_
 simp only [Try.ntmps14, slots]
 refine sr_ ?_
 refine as_ ?_
 refine as_ ?_
 refine nt_ ?_
 refine xblock ?_
 obtain ⟨Inv, ⟨m0, hI⟩, hS⟩ := h
 refine xloop (fun σ m => ∃ (fromv29 : Int), ∃ (last30 : Int), ∃ (f31 : List ((Arr 10 (Int × Int)))), ∃ (f33 : List (Int × Int × Int × Int × Int × Int × (Arr 4 (UInt64)))), ∃ (f34 : Int), ∃ (f35 : List UInt8), ∃ (f36 : Int), ∃ (f37 : Int), ∃ (i32 : Option (Nat × Nat)), Inv (fromv29, last30, f31, f33, f34, f35, f36, f37) m ∧ σ = ⟨[(0, .v (.func (.yield L.l) #[] #[])), (1, .v (.pointer (some ⟨bx1, 0, none⟩))), (3, .v (.int .i64 fromv29)), (4, .v (.int .i64 last30))], [⟨bx0, 28, [.sl 20 (some i32) (List.map E_palinode_api_Hit f31)]⟩, ⟨bx1, 48, [.v (.pointer (some ⟨bx2, 0, none⟩))]⟩, ⟨bx2, 50, [.sl 10 none (List.map E_palinode_api_Node f33), .v (.int .i64 f34), .sl 1 none (List.map eb f35), .v (.int .i64 f36), .v (.int .i64 f37)]⟩], [⟨i32, 36, 20, f31.length⟩]⟩) ⟨0, (-1), o1, o3.1.1, o3.1.2, o3.2.1, o3.2.2.1, o3.2.2.2, ia2, hI, rfl⟩ (by exact ⟨lk_, (SubM.of (.keep rfl rfl (.refl _) (.keep rfl rfl (.refl _) (.keep rfl rfl (.refl _) (.nil _)))) (.keep rfl (.nil _)))⟩) ?_
 rintro _ m ⟨fromv29, last30, f31, f33, f34, f35, f36, f37, i32, hI, rfl⟩
 obtain ⟨ag1, hag1, h⟩ : ∃ ag, (∀ s', ag s' → ∃ m', m' < m ∧ Inv s' m') ∧ find_walk_all_c1_l1 ag fromv29 last30 f31 f33 f34 f35 f36 f37 r := ⟨_, fun _ h => h, hS (fromv29, last30, f31, f33, f34, f35, f36, f37) _ hI⟩
 clear hS hI
 refine xblock ?_
 refine sr_ ?_
 refine v_ (qv_loadB 1 ShpC.h rfl rfl rfl rfl) ?_
 refine mv_ ?_
 obtain ⟨y64, h63, h⟩ := h
 refine xcallF (Fb := [⟨bx0, 28, [.sl 20 (some i32) (List.map E_palinode_api_Hit f31)]⟩, ⟨bx1, 48, [.v (.pointer (some ⟨bx2, 0, none⟩))]⟩]) (Ft := [⟨i32, 36, 20, f31.length⟩]) (find_walk_first_con ((f33, f34), f35, f36, f37) fromv29 bx2 _ h63) Try.func15 (by kernel_rfl) rfl (.cons rfl (.refl _) (.cons rfl (.refl _) .nil)) (by refine SubM.trans (SubM.mvB 2 rfl) ?_; (simp only [List.eraseIdx]); exact sm_) rfl rfl ?_
 rintro _ _ _ ⟨rfl, rfl, rfl⟩
 simp only [List.nil_append, List.cons_append]
 refine mv_ ?_
 refine vp_ (pv_extract rfl rfl) ?_
 refine vp_ (pv_extract rfl rfl) ?_
 refine xalloc InfC.h rfl rfl fun b5 => ?_
 refine xreb 0 ((List.map E_palinode_api_Span ((Arr.rep 10 (0, 0))).l).flatten) rfl rfl ?_
 refine xstoreQ 0 [] ((List.map E_palinode_api_Span ((Arr.rep 10 (0, 0))).l).flatten) [] ((List.map E_palinode_api_Span y64.1.l).flatten) ShpC.h rfl rfl rfl rfl rfl ?_
 refine as_ ?_
 refine nt_ ?_
 refine xseq ?_
 refine sr_ ?_
 refine mv_ ?_
 refine vp_ (pv_not rfl) ?_
 refine nt_ ?_
 by_cases hp66 : ¬ (y64.2.1 = true)
 ·replace h := h.1 hp66
  refine xcondT' (not_t (b_f hp66)) rfl ?_
  refine xretc ?_
  refine xthen_ret ?_
  refine xin_ret ?_
  refine xthen_ret ?_
  refine xin_ret ?_
  replace h := h.symm
  subst h
  exact xretLn (.inl rfl) (xret0 hg rfl (by refine SubM.trans (SubM.mvB 1 rfl) ?_; refine SubM.trans (SubM.mvB 3 rfl) ?_; refine SubM.trans (SubM.mvB 3 rfl) ?_; (simp only [List.eraseIdx]); exact sm_) ⟨i32, rfl, rfl, rfl⟩ (.inl rfl))
 ·replace h := h.2 hp66
  refine xcondF' (not_f (Decidable.of_not_not hp66)) rfl ?_
  refine xskipc ?_
  refine xthen ?_
  refine sr_ ?_
  refine vp_ (qv_fieldAddrB FldC.h rfl) ?_
  obtain ⟨h67, h⟩ := h
  obtain ⟨y68, h67b, h⟩ := h
  refine vp_ (pv_indexAddrBA h67 UndC.h ShpC.h rfl rfl) ?_
  refine v_ (qv_loadA (f := E_palinode_api_Span) (a := y64.1) (k := 2) (off := 0) (i := (0 : Int).toNat) 0 [] [] h67b sq_ so_ (by decide) (by first | rfl | exact part_all sl_) ShpC.h rfl rfl) ?_
  refine xalloc InfC.h rfl rfl fun b7 => ?_
  refine xstore 0 ShpC.h rfl rfl rfl rfl rfl rfl rfl ?_
  refine nt_ ?_
  refine sr_ ?_
  refine vp_ (qv_fieldAddrB FldC.h rfl) ?_
  refine v_ (qv_loadB 0 ShpC.h rfl rfl rfl rfl) ?_
  refine vp_ (qv_fieldAddrB FldC.h rfl) ?_
  refine v_ (qv_loadB 0 ShpC.h rfl rfl rfl rfl) ?_
  refine vp_ (pv_bin2 rfl rfl rfl) ?_
  refine as_ ?_
  refine nt_ ?_
  refine sr_ ?_
  refine vp_ (qv_fieldAddrB FldC.h rfl) ?_
  refine v_ (qv_loadB 0 ShpC.h rfl rfl rfl rfl) ?_
  refine as_ ?_
  refine nt_ ?_
  refine xseqM (fun σ => ∃ (fromv72 : Int), find_walk_all_c1_j2 y68 last30 ag1 f31 y64 fromv72 r ∧ σ = ⟨[(0, .v (.func (.yield L.l) #[] #[])), (1, .v (.pointer (some ⟨bx1, 0, none⟩))), (3, .v (.int .i64 fromv72)), (4, .v (.int .i64 last30)), (5, .v (.pointer (some ⟨b5, 0, none⟩))), (7, .v (.pointer (some ⟨b7, 0, none⟩))), (8, .v (.bool (decide (y68.1 = y68.2))))], [⟨b7, 33, [.v (.int .i64 y68.1), .v (.int .i64 y68.2)]⟩, ⟨b5, 36, ((List.map E_palinode_api_Span y64.1.l).flatten)⟩, ⟨bx2, 50, [.sl 10 none (List.map E_palinode_api_Node y64.2.2.1.1), .v (.int .i64 y64.2.2.1.2), .sl 1 none (List.map eb y64.2.2.2.1), .v (.int .i64 y64.2.2.2.2.1), .v (.int .i64 y64.2.2.2.2.2)]⟩, ⟨bx0, 28, [.sl 20 (some i32) (List.map E_palinode_api_Hit f31)]⟩, ⟨bx1, 48, [.v (.pointer (some ⟨bx2, 0, none⟩))]⟩], [⟨i32, 36, 20, f31.length⟩]⟩) ?_ ?_
  ·refine xseq ?_
   refine xregion ?_
   refine mv_ ?_
   refine nt_ ?_
   by_cases hp73 : y68.1 = y68.2
   ·replace h := h.1 hp73
    refine xcondT' (decide_eq_true hp73) rfl ?_
    refine xregion ?_
    refine mv_ ?_
    obtain ⟨h74, h⟩ := h
    refine vp_ (pv_addI h74 rfl rfl) ?_
    refine as_ ?_
    refine xnil ?_
    exact xmeet ⟨(y68.2 + 1), h, rfl⟩ ⟨lk_, (SubM.of (.keep rfl rfl (.refl _) (.keep rfl rfl (.refl _) (.keep rfl rfl (.refl _) (.keep rfl rfl (.refl _) (.keep rfl rfl (.refl _) (.nil _)))))) (.keep rfl (.nil _)))⟩
   ·replace h := h.2 hp73
    refine xcondF' (decide_eq_false hp73) rfl ?_
    refine xskipc ?_
    exact xmeet ⟨y68.2, h, rfl⟩ ⟨lk_, (SubM.of (.keep rfl rfl (.refl _) (.keep rfl rfl (.refl _) (.keep rfl rfl (.refl _) (.keep rfl rfl (.refl _) (.keep rfl rfl (.refl _) (.nil _)))))) (.keep rfl (.nil _)))⟩
  ·clear h
   rintro _ ⟨fromv72, h, rfl⟩
   refine xseqM (fun σ => find_walk_all_c1_j3 f31 y64 ag1 fromv72 y68 r ∧ σ = ⟨[(0, .v (.func (.yield L.l) #[] #[])), (1, .v (.pointer (some ⟨bx1, 0, none⟩))), (3, .v (.int .i64 fromv72)), (5, .v (.pointer (some ⟨b5, 0, none⟩))), (7, .v (.pointer (some ⟨b7, 0, none⟩)))], [⟨b7, 33, [.v (.int .i64 y68.1), .v (.int .i64 y68.2)]⟩, ⟨b5, 36, ((List.map E_palinode_api_Span y64.1.l).flatten)⟩, ⟨bx2, 50, [.sl 10 none (List.map E_palinode_api_Node y64.2.2.1.1), .v (.int .i64 y64.2.2.1.2), .sl 1 none (List.map eb y64.2.2.2.1), .v (.int .i64 y64.2.2.2.2.1), .v (.int .i64 y64.2.2.2.2.2)]⟩, ⟨bx0, 28, [.sl 20 (some i32) (List.map E_palinode_api_Hit f31)]⟩, ⟨bx1, 48, [.v (.pointer (some ⟨bx2, 0, none⟩))]⟩], [⟨i32, 36, 20, f31.length⟩]⟩) ?_ ?_
   ·refine xseq ?_
    refine xregion ?_
    refine mv_ ?_
    refine mv_ ?_
    by_cases hp82 : y68.1 = y68.2
    ·replace h := h.1 hp82
     refine xsetB 31 (decide_eq_true hp82) rfl ?_
     refine vp_ (qv_fieldAddrB FldC.h rfl) ?_
     refine v_ (qv_loadB 0 ShpC.h rfl rfl rfl rfl) ?_
     refine mv_ ?_
     refine vp_ (pv_bin2 rfl rfl rfl) ?_
     refine pk_ ?_
     refine nt_ ?_
     by_cases hp84 : y68.1 = last30
     ·replace h := h.1 hp84
      refine xcondT' (decide_eq_true hp84) rfl ?_
      refine xexit ?_
      refine xthen_exit ?_
      refine xin_same rfl ?_
      obtain ⟨m', hm, hI⟩ := hag1 _ h
      exact xagain ⟨fromv72, last30, f31, y64.2.2.1.1, y64.2.2.1.2, y64.2.2.2.1, y64.2.2.2.2.1, y64.2.2.2.2.2, i32, hI, rfl⟩ hm ⟨lk_, by refine SubM.trans (SubM.mvB 2 rfl) ?_; refine SubM.trans (SubM.mvB 4 rfl) ?_; refine SubM.trans (SubM.mvB 4 rfl) ?_; (simp only [List.eraseIdx]); exact sm_⟩
     ·replace h := h.2 hp84
      refine xcondF' (decide_eq_false hp84) rfl ?_
      refine xskipc ?_
      exact xmeet ⟨h, rfl⟩ ⟨lk_, (SubM.of (.keep rfl rfl (.refl _) (.keep rfl rfl (.refl _) (.keep rfl rfl (.refl _) (.keep rfl rfl (.refl _) (.keep rfl rfl (.refl _) (.nil _)))))) (.keep rfl (.nil _)))⟩
    ·replace h := h.2 hp82
     refine xsetB 31 (decide_eq_false hp82) rfl ?_
     refine sk_ ?_
     refine sk_ ?_
     refine sk_ ?_
     refine sk_ ?_
     refine pk_ ?_
     refine nt_ ?_
     refine xcondF rfl ?_
     refine xskipc ?_
     exact xmeet ⟨h, rfl⟩ ⟨lk_, (SubM.of (.keep rfl rfl (.refl _) (.keep rfl rfl (.refl _) (.keep rfl rfl (.refl _) (.keep rfl rfl (.refl _) (.keep rfl rfl (.refl _) (.nil _)))))) (.keep rfl (.nil _)))⟩
   ·clear h
    rintro _ ⟨h, rfl⟩
    refine sr_ ?_
    refine vp_ (qv_fieldAddrB FldC.h rfl) ?_
    refine v_ (qv_loadB 0 ShpC.h rfl rfl rfl rfl) ?_
    refine as_ ?_
    refine nt_ ?_
    refine sr_ ?_
    refine mv_ ?_
    refine v_ (qv_loadP 1 [] ((List.map E_palinode_api_Span y64.1.l).flatten) [] sq_ sl_ sl_ (part_all (seg_lenE (by rfl))) ShpC.h rfl rfl) ?_
    obtain ⟨y86, h85, h⟩ := h
    refine xyield (Fb := [⟨b7, 33, [.v (.int .i64 y68.1), .v (.int .i64 y68.2)]⟩, ⟨b5, 36, ((List.map E_palinode_api_Span y64.1.l).flatten)⟩, ⟨bx2, 50, [.sl 10 none (List.map E_palinode_api_Node y64.2.2.1.1), .v (.int .i64 y64.2.2.1.2), .sl 1 none (List.map eb y64.2.2.2.1), .v (.int .i64 y64.2.2.2.2.1), .v (.int .i64 y64.2.2.2.2.2)]⟩, ⟨bx1, 48, [.v (.pointer (some ⟨bx2, 0, none⟩))]⟩]) (Ft := []) (hY f31 y64.1 i32 _ h85) hL rfl (.cons rfl (.refl _) .nil) (by refine SubM.trans (SubM.mvB 3 rfl) ?_; (simp only [List.eraseIdx]); exact sm_) rfl rfl ?_
    rintro j _ _ ⟨i87, hj, rfl, rfl⟩
    simp only [List.nil_append, List.cons_append]
    refine ⟨fun _ => ?_, fun c hc => (by rw [hj] at hc; cases hc)⟩
    refine vp_ (pv_not rfl) ?_
    refine nt_ ?_
    refine xcondF rfl ?_
    refine xskipc ?_
    refine xin_normal ?_
    obtain ⟨m', hm, hI⟩ := hag1 _ h
    exact xagain ⟨fromv72, y68.2, y86, y64.2.2.1.1, y64.2.2.1.2, y64.2.2.2.1, y64.2.2.2.2.1, y64.2.2.2.2.2, i87, hI, rfl⟩ hm ⟨lk_, by refine SubM.trans (SubM.mvB 3 rfl) ?_; refine SubM.trans (SubM.mvB 4 rfl) ?_; refine SubM.trans (SubM.mvB 2 rfl) ?_; (simp only [List.eraseIdx]); exact sm_⟩
/-- find.All -/
def find_All_R (re1 : (List (Int × Int × Int × Int × Int × Int × (Arr 4 (UInt64)))) × Int) (text2 : List UInt8) (fuel3 : Int) (r : (List ((Arr 10 (Int × Int)))) × Int × Int) : Prop :=
 ∃ y13 : Unit, find_walk_all_R (re1, text2, fuel3, 0) y13 ∧ ∃ y18 : (List ((Arr 10 (Int × Int)))) × (((List (Int × Int × Int × Int × Int × Int × (Arr 4 (UInt64)))) × Int) × (List UInt8) × Int × Int), find_walk_all_c1_R ([] : List ((Arr 10 (Int × Int)))) (re1, text2, fuel3, 0) y18 ∧ ((¬ (y18.2.2.2.2 = 0) → r = (([] : List ((Arr 10 (Int × Int)))), 0, y18.2.2.2.2)) ∧ (¬ (¬ (y18.2.2.2.2 = 0)) → r = (y18.1, y18.2.2.2.1, 0)))
def find_All_ev (fuel : Nat) (re1 : (List (Int × Int × Int × Int × Int × Int × (Arr 4 (UInt64)))) × Int) (text2 : List UInt8) (fuel3 : Int) : Option ((List ((Arr 10 (Int × Int)))) × Int × Int) :=
 ((find_walk_all_ev fuel (re1, text2, fuel3, 0)).bind fun y13 => ((find_walk_all_c1_ev fuel ([] : List ((Arr 10 (Int × Int)))) (re1, text2, fuel3, 0)).bind fun y18 => (if ¬ (y18.2.2.2.2 = 0) then some (([] : List ((Arr 10 (Int × Int)))), 0, y18.2.2.2.2) else some (y18.1, y18.2.2.2.1, 0))))
theorem find_All_ok {fuel : Nat} {re1 : (List (Int × Int × Int × Int × Int × Int × (Arr 4 (UInt64)))) × Int} {text2 : List UInt8} {fuel3 : Int} {r : (List ((Arr 10 (Int × Int)))) × Int × Int} (h : find_All_ev fuel re1 text2 fuel3 = some r) : find_All_R re1 text2 fuel3 r := by
 unfold find_All_ev at h
 unfold find_All_R
 obtain ⟨q309, g309, h⟩ := bind_ok h
 refine ⟨q309, find_walk_all_ok g309, ?_⟩
 obtain ⟨q310, g310, h⟩ := bind_ok h
 refine ⟨q310, find_walk_all_c1_ok g310, ?_⟩
 refine ⟨fun g311 => ?_, fun g311 => ?_⟩
 ·rw [if_pos g311] at h
  exact (Option.some.inj h).symm
 ·rw [if_neg g311] at h
  exact (Option.some.inj h).symm
set_option maxRecDepth 100000 in
set_option maxHeartbeats 4000000 in
theorem find_All_con (re1 : (List (Int × Int × Int × Int × Int × Int × (Arr 4 (UInt64)))) × Int) (text2 : List UInt8) (fuel3 : Int) (r : (List ((Arr 10 (Int × Int)))) × Int × Int) (h : find_All_R re1 text2 fuel3 r) : Con Try.prog 6 [.agg [.sl 10 none (List.map E_palinode_api_Node re1.1), .v (.int .i64 re1.2)], .sl 1 none (List.map eb text2), .v (.int .i64 fuel3)] [] [] (fun rr bx tk => ∃ j1, rr = .tup [.sl 20 (some j1) (List.map E_palinode_api_Hit r.1), .v (.int .i64 r.2.1), .v (.int .i64 r.2.2)] ∧ bx = [] ∧ tk = [⟨j1, 36, 20, r.1.length⟩]) := by
 refine xenterM Try.func6 rfl rfl fun g hg => ?_
 simp only [Try.ntmps6, slots]
 refine sr_ ?_
 refine xbox rfl rfl rfl rfl fun b3 => ?_
 refine xalloc InfC.h rfl rfl fun b6 => ?_
 refine as_ ?_
 refine as_ ?_
 refine nt_ ?_
 refine sr_ ?_
 refine v_ (qv_loadB 1 ShpC.h rfl rfl rfl rfl) ?_
 refine mv_ ?_
 refine mv_ ?_
 refine vp_ (pv_buildC StrC.h rfl rfl) ?_
 refine xbox rfl rfl rfl rfl fun b15 => ?_
 refine as_ ?_
 refine nt_ ?_
 refine xseq ?_
 refine sr_ ?_
 refine mv_ ?_
 obtain ⟨y13, h12, h⟩ := h
 refine xcallF (Fb := [⟨b6, 28, [.v (.slice none 0 0)]⟩, ⟨b3, 24, [.sl 10 none (List.map E_palinode_api_Node re1.1), .v (.int .i64 re1.2)]⟩]) (Ft := []) (find_walk_all_con (re1, text2, fuel3, 0) b15 _ h12) Try.func10 (by kernel_rfl) rfl (.cons rfl (.refl _) .nil) (by exact sm_) rfl rfl ?_
 rintro _ _ _ ⟨bn14, rfl, rfl, rfl⟩
 simp only [List.nil_append, List.cons_append]
 refine nt_ ?_
 refine xblock ?_
 obtain ⟨y18, h17, h⟩ := h
 refine xrange (Fb := [⟨b3, 24, [.sl 10 none (List.map E_palinode_api_Node re1.1), .v (.int .i64 re1.2)]⟩]) (Ft := []) (find_All_y1_Y b6) hg.rd hg.ds (fun L hY => find_walk_all_c1_con ([] : List ((Arr 10 (Int × Int)))) (re1, text2, fuel3, 0) b6 bn14 b15 none hY _ h17) Try.func14 (by kernel_rfl) rfl rfl (by refine SubM.trans (SubM.mvB 1 rfl) ?_; refine SubM.trans (SubM.mvB 1 rfl) ?_; refine SubM.trans (SubM.mvB 2 rfl) ?_; (simp only [List.eraseIdx]); exact sm_) (fun l => ?_) ?_
 ·intro o10001 x10003 ia10002 r h
  refine xround (psl := [18]) rfl rfl fun g r0 hg => ?_
  refine ximp (σ' := ⟨[(18, .agg ((List.map E_palinode_api_Span x10003.l).flatten)), (6, .v (.pointer (some ⟨b6, 0, none⟩)))], [⟨b6, 28, [.sl 20 (some ia10002) (List.map E_palinode_api_Hit o10001)]⟩], [⟨ia10002, 36, 20, o10001.length⟩]⟩) ⟨lk_, SubM.refl _ _⟩ ?_
  refine xregion ?_
  refine xalloc InfC.h rfl rfl fun b10 => ?_
  refine xreb 0 ((List.map E_palinode_api_Span ((Arr.rep 10 (0, 0))).l).flatten) rfl rfl ?_
  refine xstoreQ 0 [] ((List.map E_palinode_api_Span ((Arr.rep 10 (0, 0))).l).flatten) [] ((List.map E_palinode_api_Span x10003.l).flatten) ShpC.h rfl rfl rfl rfl rfl ?_
  refine xnil ?_
  refine xbegin hg ?_
  refine xblock ?_
  refine xregion ?_
  refine v_ (qv_loadB 1 ShpC.h rfl rfl rfl rfl) ?_
  refine v_ (qv_loadP 0 [] ((List.map E_palinode_api_Span x10003.l).flatten) [] sq_ sl_ sl_ (part_all (seg_lenE (by rfl))) ShpC.h rfl rfl) ?_
  refine xbuildSliceME (f := E_palinode_api_Hit) [x10003] UndC.h InfC.h rfl (.cons rfl (beq_of (seg_lenE (by rfl))) rfl rfl .nil) wr_ rfl rfl rfl rfl fun s21 => ?_
  obtain ⟨h10004, h⟩ := h
  refine xappendM (l := o10001) (l2 := [x10003]) 1 h10004 UndC.h InfC.h rfl rfl rfl (.refl _) rfl rfl rfl fun i10005 => ?_
  refine xstore 1 ShpC.h rfl rfl rfl rfl rfl rfl rfl ?_
  refine xnil ?_
  refine xin_normal ?_
  replace h := h.symm
  subst h
  exact xyret hg rfl (SubM.of (.drop (.keep rfl rfl (.refl _) (.nil _))) (.drop (.keep rfl (.nil _)))) ⟨i10005, rfl, rfl, rfl⟩
 ·rintro j _ _ w1 R1 D1 gl1 ds1 D1k ⟨i19, hj, rfl, rfl⟩ hM
  simp only [List.nil_append, List.cons_append]
  refine ⟨fun _ => ?_, fun c hc => (by rw [hj] at hc; cases hc)⟩
  refine xin_normal ?_
  refine xthenR rfl ?_
  refine xseq ?_
  refine sr_ ?_
  refine mv_ ?_
  refine vp_ (pv_nilCheck rfl) ?_
  refine vp_ (qv_fieldAddrB FldC.h rfl) ?_
  refine v_ (qv_loadB 2 ShpC.h rfl rfl rfl rfl) ?_
  refine vp_ (pv_bin2 rfl rfl rfl) ?_
  refine xnil ?_
  refine xthenR rfl ?_
  by_cases hp23 : ¬ (y18.2.2.2.2 = 0)
  ·replace h := h.1 hp23
   refine xcondT' (not_t (decide_eq_false hp23)) rfl ?_
   refine xseq ?_
   refine xregionD (m := 7) (by kernel_rfl) rfl ?_
   refine pl_ 0 rfl (pv_move rfl) ?_
   refine pl_ 1 rfl (pv_nilCheck rfl) ?_
   refine pl_ 2 rfl (qv_fieldAddrB FldC.h rfl) ?_
   refine xfl0 [⟨3, 31, .v (.int .i64 y18.2.2.2.2)⟩] 3 ?_
   refine xflstep 4 (by kernel_rfl) rfl (.cons rfl rfl rfl (fun _ => rfl) (fun _ => qv_loadB 2 ShpC.h rfl rfl rfl rfl) .nil) fun D l td hR => ?_
   refine wstore 0 ShpC.h rfl rfl rfl rfl rfl rfl rfl ?_
   refine xflgo0 hR ?_
   refine xflval 5 (by kernel_rfl) rfl (fun _ => pv_assign rfl) (fun _ => rfl) rfl (by kernel_rfl) (fun _ _ _ _ h => h) ?_
   refine xflend (l' := #[true, true, true, true, true, true, false]) (by kernel_rfl) (.cons rfl rfl rfl (fun _ => rfl) (fun _ => qv_loadB 2 ShpC.h rfl rfl rfl rfl) .nil) (by kernel_rfl) rfl (by kernel_rfl) (by kernel_rfl) ?_
   simp only [List.nil_append, List.cons_append, List.map_cons, List.map_nil]
   refine pl_ 6 rfl (pv_assign rfl) ?_
   refine xpdone (by kernel_rfl) ?_
   refine xthenR rfl ?_
   refine xretc ?_
   refine xthen_ret ?_
   refine xretMk hg hM ?_
   replace h := h.symm
   subst h
   exact xretL (rs := [.cell 6 28, .tmp 7, .tmp 8]) (ss := [.sl 20 (some none) (List.map E_palinode_api_Hit (([] : List ((Arr 10 (Int × Int)))))), .v (.int .i64 0), .v (.int .i64 y18.2.2.2.2)]) hg rfl (by refine RetL.cell 0 ShpC.h rfl rfl rfl (Nat.le_of_ble_eq_true rfl) (.nil_own _) ?_; refine RetL.tmp rfl (.refl _) ?_; refine RetL.tmp rfl (.refl _) ?_; exact RetL.nil) sm_ ⟨none, rfl, rfl, rfl⟩
  ·replace h := h.2 hp23
   refine xcondF' (not_f (decide_eq_true (Decidable.of_not_not hp23))) rfl ?_
   refine xskipc ?_
   refine xthenR rfl ?_
   refine xseq ?_
   refine xregionD (m := 8) (by kernel_rfl) rfl ?_
   refine pl_ 1 rfl (pv_move rfl) ?_
   refine pl_ 2 rfl (pv_nilCheck rfl) ?_
   refine pl_ 3 rfl (qv_fieldAddrB FldC.h rfl) ?_
   refine xpvalE 0 [4] rfl (qv_loadB 0 ShpC.h rfl rfl rfl rfl) rfl rfl (by kernel_rfl) (by kernel_rfl) (by kernel_rfl) (fun _ _ _ _ h => h) ?_
   refine xfl0 [⟨4, 36, .v (.int .i64 y18.2.2.2.1)⟩] 3 ?_
   refine xflstep 5 (by kernel_rfl) rfl (.cons rfl rfl rfl (fun _ => rfl) (fun _ => qv_loadB 2 ShpC.h rfl rfl rfl rfl) .nil) fun D l td hR => ?_
   refine wstore 0 ShpC.h rfl rfl rfl rfl rfl rfl rfl ?_
   refine xflgo0 hR ?_
   refine xflend (l' := #[true, true, true, true, true, true, false, false]) (by kernel_rfl) (.cons rfl rfl rfl (fun _ => rfl) (fun _ => qv_loadB 2 ShpC.h rfl rfl rfl rfl) .nil) (by kernel_rfl) rfl (by kernel_rfl) (by kernel_rfl) ?_
   simp only [List.nil_append, List.cons_append, List.map_cons, List.map_nil]
   refine pl_ 6 rfl (pv_assign rfl) ?_
   refine pl_ 7 rfl (pv_assign rfl) ?_
   refine xpdone (by kernel_rfl) ?_
   refine xthenR rfl ?_
   refine xretc ?_
   refine xretMk hg hM ?_
   replace h := h.symm
   subst h
   exact xretL (rs := [.cell 6 28, .tmp 7, .tmp 8]) (ss := [.sl 20 (some i19) (List.map E_palinode_api_Hit y18.1), .v (.int .i64 y18.2.2.2.1), .v (.int .i64 0)]) hg rfl (by refine RetL.cell 0 ShpC.h rfl rfl rfl (Nat.le_of_ble_eq_true rfl) (.refl _) ?_; refine RetL.tmp rfl (.refl _) ?_; refine RetL.tmp rfl (.refl _) ?_; exact RetL.nil) (SubM.of (.nil _) (.keep rfl (.nil _))) ⟨i19, rfl, rfl, rfl⟩
end Go.Proofs.Ytnjnbegjhklcgaa
