
/- What functions' texts ask for, and the walks that show it (printed by a program). -/
import Derived.Test.YtnjnbegjhklcgaaGKp1
namespace Go.Proofs.Ytnjnbegjhklcgaa
/-- palinoderef06.Right -/
def palinoderef06_Right_j4 (x754 : Int) (ag3 : (Int × (List Int) × (List Int)) → Prop) (l972 : List Int) (l973 : List Int) (r : Bool) : Prop :=
 InR (x754 + 1) ∧ ag3 ((x754 + 1), l972, l973)
def palinoderef06_Right_j7 (y974 : Int × Int × Int × Int × Int × Int × (Arr 4 (UInt64))) (l756 : List Int) (x754 : Int) (ag3 : (Int × (List Int) × (List Int)) → Prop) (l1019 : List Int) (r : Bool) : Prop :=
 ((y974.1 = 5 → 0 ≤ (y974.2.2.2.2.2.1 : Int) ∧ ∃ y1036 : Int, l756[(y974.2.2.2.2.2.1 : Int).toNat]? = some y1036 ∧ InR (y1036 + 1) ∧ 0 ≤ (y974.2.2.2.2.2.1 : Int) ∧ ∃ y1039 : Int, l756[(y974.2.2.2.2.2.1 : Int).toNat]? = some y1039 ∧ palinoderef06_Right_j4 x754 ag3 l1019 (l756.set (y974.2.2.2.2.2.1 : Int).toNat (y1036 + 1)) r) ∧ (¬ (y974.1 = 5) → palinoderef06_Right_j4 x754 ag3 l1019 l756 r))
def palinoderef06_Right_j8 (y974 : Int × Int × Int × Int × Int × Int × (Arr 4 (UInt64))) (l990 : List Int) (l756 : List Int) (x754 : Int) (ag3 : (Int × (List Int) × (List Int)) → Prop) (x1023 : Bool) (r : Bool) : Prop :=
 ((x1023 = true → 0 ≤ (y974.2.2.1 : Int) ∧ ∃ y1028 : Int, l990[(y974.2.2.1 : Int).toNat]? = some y1028 ∧ InR (y1028 + 1) ∧ 0 ≤ (y974.2.2.1 : Int) ∧ ∃ y1031 : Int, l990[(y974.2.2.1 : Int).toNat]? = some y1031 ∧ palinoderef06_Right_j7 y974 l756 x754 ag3 (l990.set (y974.2.2.1 : Int).toNat (y1028 + 1)) r) ∧ (¬ (x1023 = true) → palinoderef06_Right_j7 y974 l756 x754 ag3 l990 r))
def palinoderef06_Right_j5 (y974 : Int × Int × Int × Int × Int × Int × (Arr 4 (UInt64))) (l756 : List Int) (x754 : Int) (ag3 : (Int × (List Int) × (List Int)) → Prop) (l990 : List Int) (r : Bool) : Prop :=
 palinoderef06_Right_j8 y974 l990 l756 x754 ag3 ((decide (y974.1 = 2)) || (decide (y974.1 = 3))) r
def palinoderef06_Right_j6 (y974 : Int × Int × Int × Int × Int × Int × (Arr 4 (UInt64))) (l755 : List Int) (l756 : List Int) (x754 : Int) (ag3 : (Int × (List Int) × (List Int)) → Prop) (x994 : Bool) (r : Bool) : Prop :=
 ((x994 = true → 0 ≤ (y974.2.1 : Int) ∧ ∃ y999 : Int, l755[(y974.2.1 : Int).toNat]? = some y999 ∧ InR (y999 + 1) ∧ 0 ≤ (y974.2.1 : Int) ∧ ∃ y1002 : Int, l755[(y974.2.1 : Int).toNat]? = some y1002 ∧ palinoderef06_Right_j5 y974 l756 x754 ag3 (l755.set (y974.2.1 : Int).toNat (y999 + 1)) r) ∧ (¬ (x994 = true) → palinoderef06_Right_j5 y974 l756 x754 ag3 l755 r))
def palinoderef06_Right_l10 (x1 : (List (Int × Int × Int × Int × Int × Int × (Arr 4 (UInt64)))) × Int) (l756 : List Int) (ag10 : (Int) → Prop) (x1188 : Int) (r : Bool) : Prop :=
 ((x1188 ≤ x1.2 → 0 ≤ (x1188 : Int) ∧ ∃ y1210 : Int, l756[(x1188 : Int).toNat]? = some y1210 ∧ ((¬ (y1210 = 1) → r = false) ∧ (¬ (¬ (y1210 = 1)) → InR (x1188 + 1) ∧ ag10 (x1188 + 1)))) ∧ (¬ (x1188 ≤ x1.2) → r = true))
def palinoderef06_Right_l9 (x1 : (List (Int × Int × Int × Int × Int × Int × (Arr 4 (UInt64)))) × Int) (l755 : List Int) (l756 : List Int) (ag9 : (Int) → Prop) (x1104 : Int) (r : Bool) : Prop :=
 InR ((x1.1.length : Int) - 1) ∧ ((x1104 < ((x1.1.length : Int) - 1) → 0 ≤ (x1104 : Int) ∧ ∃ y1130 : Int, l755[(x1104 : Int).toNat]? = some y1130 ∧ ((¬ (y1130 = 1) → r = false) ∧ (¬ (¬ (y1130 = 1)) → InR (x1104 + 1) ∧ ag9 (x1104 + 1)))) ∧ (¬ (x1104 < ((x1.1.length : Int) - 1)) → LoopR (fun ag10 s => palinoderef06_Right_l10 x1 l756 ag10 s r) 1))
def palinoderef06_Right_l3 (x1 : (List (Int × Int × Int × Int × Int × Int × (Arr 4 (UInt64)))) × Int) (ag3 : (Int × (List Int) × (List Int)) → Prop) (x754 : Int) (l755 : List Int) (l756 : List Int) (r : Bool) : Prop :=
 ((x754 < (x1.1.length : Int) → 0 ≤ (x754 : Int) ∧ ∃ y974 : Int × Int × Int × Int × Int × Int × (Arr 4 (UInt64)), x1.1[(x754 : Int).toNat]? = some y974 ∧ palinoderef06_Right_j6 y974 l755 l756 x754 ag3 ((decide (2 ≤ y974.1)) && (decide (y974.1 ≤ 5))) r) ∧ (¬ (x754 < (x1.1.length : Int)) → LoopR (fun ag9 s => palinoderef06_Right_l9 x1 l755 l756 ag9 s r) 0))
def palinoderef06_Right_l2 (x1 : (List (Int × Int × Int × Int × Int × Int × (Arr 4 (UInt64)))) × Int) (ag2 : (Int) → Prop) (x128 : Int) (r : Bool) : Prop :=
 ((x128 < (x1.1.length : Int) → 0 ≤ (x128 : Int) ∧ ∃ y169 : Int × Int × Int × Int × Int × Int × (Arr 4 (UInt64)), x1.1[(x128 : Int).toNat]? = some y169 ∧ ∃ y172 : Bool, palinoderef06_may_R y169 x128 x1.2 y172 ∧ ((¬ (y172 = true) → r = false) ∧ (¬ (¬ (y172 = true)) → InR (x128 + 1) ∧ ag2 (x128 + 1)))) ∧ (¬ (x128 < (x1.1.length : Int)) → MakeOk ((x1.1.length : Int)) ((x1.1.length : Int)) 8 ∧ MakeOk 10 10 8 ∧ LoopR (fun ag3 s => palinoderef06_Right_l3 x1 ag3 s.1 s.2.1 s.2.2 r) (0, (List.replicate ((x1.1.length : Int) : Int).toNat 0), (List.replicate (10 : Int).toNat 0))))
def palinoderef06_Right_j1 (x1 : (List (Int × Int × Int × Int × Int × Int × (Arr 4 (UInt64)))) × Int) (x26 : Bool) (r : Bool) : Prop :=
 ((x26 = true → r = false) ∧ (¬ (x26 = true) → LoopR (fun ag2 s => palinoderef06_Right_l2 x1 ag2 s r) 0))
def palinoderef06_Right_R (x1 : (List (Int × Int × Int × Int × Int × Int × (Arr 4 (UInt64)))) × Int) (r : Bool) : Prop :=
 palinoderef06_Right_j1 x1 ((decide ((x1.1.length : Int) < 1)) || ((decide (1000 < (x1.1.length : Int))) || ((decide (x1.2 < 0)) || (decide (9 < x1.2))))) r
set_option maxHeartbeats 4000000 in
theorem palinoderef06_Right_con (x1 : (List (Int × Int × Int × Int × Int × Int × (Arr 4 (UInt64)))) × Int) (r : Bool) (h : palinoderef06_Right_R x1 r) : Con Try.prog 4 [.agg [.sl 10 none (List.map E_palinode_api_Node x1.1), .v (.int .i64 x1.2)]] [] [] (Ret (.v (.bool r))) := by
 refine xenter Try.func4 rfl rfl fun g hg => ?_
 simp only [Try.ntmps4, slots]
 unfold palinoderef06_Right_R at h
 refine sr_ ?_
 refine xbox rfl rfl rfl rfl fun b1 => ?_
 refine as_ ?_
 refine nt_ ?_
 refine sr_ ?_
 refine vp_ (qv_fieldAddrB FldC.h rfl) ?_
 refine v_ (qv_loadB 0 ShpC.h rfl rfl rfl rfl) ?_
 refine vp_ (pv_lenM UndC.h rfl) ?_
 refine as_ ?_
 refine nt_ ?_
 refine xseq ?_
 refine xseqM (fun σ => ∃ (x26 : Bool), palinoderef06_Right_j1 x1 x26 r ∧ σ = ⟨[(1, .v (.pointer (some ⟨b1, 0, none⟩))), (3, .v (.int .i64 ((x1.1.length : Int)))), (29, .v (.bool x26))], [⟨b1, 24, [.sl 10 none (List.map E_palinode_api_Node x1.1), .v (.int .i64 x1.2)]⟩], []⟩) ?_ ?_
 ·refine xregion ?_
  refine mv_ ?_
  refine vp_ (pv_bin2 rfl rfl rfl) ?_
  refine mv_ ?_
  by_cases hp28 : (x1.1.length : Int) < 1
  ·rw [or_tt (show (decide ((x1.1.length : Int) < 1)) = true from (decide_eq_true hp28))] at h
   refine xsetB 16 (decide_eq_true hp28) rfl ?_
   refine sk_ ?_
   refine sk_ ?_
   refine pk_ ?_
   refine mv_ ?_
   refine sk_ ?_
   refine sk_ ?_
   refine sk_ ?_
   refine pk_ ?_
   refine mv_ ?_
   refine sk_ ?_
   refine sk_ ?_
   refine sk_ ?_
   refine pk_ ?_
   refine xnil ?_
   exact xmeet ⟨true, h, rfl⟩ ⟨lk_, (SubM.of (.keep rfl rfl (.refl _) (.nil _)) (.nil _))⟩
  ·rw [or_ff (show (decide ((x1.1.length : Int) < 1)) = false from (decide_eq_false hp28))] at h
   refine xsetB 16 (decide_eq_false hp28) rfl ?_
   refine mv_ ?_
   refine vp_ (pv_bin2 rfl rfl rfl) ?_
   refine pk_ ?_
   refine mv_ ?_
   by_cases hp30 : 1000 < (x1.1.length : Int)
   ·rw [or_tt (show (decide (1000 < (x1.1.length : Int))) = true from (decide_eq_true hp30))] at h
    refine xsetB 20 (decide_eq_true hp30) rfl ?_
    refine sk_ ?_
    refine sk_ ?_
    refine sk_ ?_
    refine pk_ ?_
    refine mv_ ?_
    refine sk_ ?_
    refine sk_ ?_
    refine sk_ ?_
    refine pk_ ?_
    refine xnil ?_
    exact xmeet ⟨true, h, rfl⟩ ⟨lk_, (SubM.of (.keep rfl rfl (.refl _) (.nil _)) (.nil _))⟩
   ·rw [or_ff (show (decide (1000 < (x1.1.length : Int))) = false from (decide_eq_false hp30))] at h
    refine xsetB 20 (decide_eq_false hp30) rfl ?_
    refine vp_ (qv_fieldAddrB FldC.h rfl) ?_
    refine v_ (qv_loadB 0 ShpC.h rfl rfl rfl rfl) ?_
    refine vp_ (pv_bin2 rfl rfl rfl) ?_
    refine pk_ ?_
    refine mv_ ?_
    by_cases hp32 : x1.2 < 0
    ·rw [or_tt (show (decide (x1.2 < 0)) = true from (decide_eq_true hp32))] at h
     refine xsetB 25 (decide_eq_true hp32) rfl ?_
     refine sk_ ?_
     refine sk_ ?_
     refine sk_ ?_
     refine pk_ ?_
     refine xnil ?_
     exact xmeet ⟨true, h, rfl⟩ ⟨lk_, (SubM.of (.keep rfl rfl (.refl _) (.nil _)) (.nil _))⟩
    ·rw [or_ff (show (decide (x1.2 < 0)) = false from (decide_eq_false hp32))] at h
     refine xsetB 25 (decide_eq_false hp32) rfl ?_
     refine vp_ (qv_fieldAddrB FldC.h rfl) ?_
     refine v_ (qv_loadB 0 ShpC.h rfl rfl rfl rfl) ?_
     refine vp_ (pv_bin2 rfl rfl rfl) ?_
     refine pk_ ?_
     refine xnil ?_
     exact xmeet ⟨(decide (9 < x1.2)), h, rfl⟩ ⟨lk_, (SubM.of (.keep rfl rfl (.refl _) (.nil _)) (.nil _))⟩
 ·clear h
  rintro _ ⟨x26, h, rfl⟩
  by_cases hp34 : x26 = true
  ·replace h := h.1 hp34
   refine xcondT' hp34 rfl ?_
   refine sr_ ?_
   refine as_ ?_
   refine nt_ ?_
   refine xretc ?_
   refine xthen_ret ?_
   replace h := h.symm
   subst h
   exact xret1 hg rfl rfl (.refl _) (SubM.of (.nil _) (.nil _)) ⟨rfl, rfl, rfl⟩
  ·replace h := h.2 hp34
   refine xcondF' (b_f hp34) rfl ?_
   refine xskipc ?_
   refine xthen ?_
   refine xseq ?_
   refine sr_ ?_
   refine as_ ?_
   refine nt_ ?_
   refine xblock ?_
   obtain ⟨Inv, ⟨m0, hI⟩, hS⟩ := h
   refine xloop (fun σ m => ∃ (x128 : Int), Inv x128 m ∧ σ = ⟨[(1, .v (.pointer (some ⟨b1, 0, none⟩))), (3, .v (.int .i64 ((x1.1.length : Int)))), (4, .v (.int .i64 x128))], [⟨b1, 24, [.sl 10 none (List.map E_palinode_api_Node x1.1), .v (.int .i64 x1.2)]⟩], []⟩) ⟨0, hI, rfl⟩ (by exact ⟨lk_, (SubM.of (.keep rfl rfl (.refl _) (.nil _)) (.nil _))⟩) ?_
   rintro _ m ⟨x128, hI, rfl⟩
   obtain ⟨ag2, hag2, h⟩ : ∃ ag, (∀ s', ag s' → ∃ m', m' < m ∧ Inv s' m') ∧ palinoderef06_Right_l2 x1 ag x128 r := ⟨_, fun _ h => h, hS x128 _ hI⟩
   clear hS hI
   refine xseq ?_
   refine sr_ ?_
   refine mv_ ?_
   refine mv_ ?_
   refine vp_ (pv_bin2 rfl rfl rfl) ?_
   refine nt_ ?_
   by_cases hp155 : x128 < (x1.1.length : Int)
   ·replace h := h.1 hp155
    refine xcondT' (decide_eq_true hp155) rfl ?_
    refine xskipc ?_
    refine xthen ?_
    refine xseq ?_
    refine xblock ?_
    refine xseq ?_
    refine xregionD (m := 10) (by kernel_rfl) rfl ?_
    obtain ⟨h170a, h⟩ := h
    obtain ⟨y169, h170b, h⟩ := h
    obtain ⟨y172, h171, h⟩ := h
    refine pl_ 0 rfl (qv_fieldAddrB FldC.h rfl) ?_
    refine pl_ 2 rfl (pv_move rfl) ?_
    refine pl_ 5 rfl (pv_move rfl) ?_
    refine pl_ 6 rfl (qv_fieldAddrB FldC.h rfl) ?_
    refine xpvalE 1 [7] rfl (qv_loadB 0 ShpC.h rfl rfl rfl rfl) rfl rfl (by kernel_rfl) (by kernel_rfl) (by kernel_rfl) (fun _ _ _ _ h => h) ?_
    refine pl_ 3 rfl (pv_indexAddrM h170a h170b UndC.h ShpC.h rfl rfl) ?_
    refine xpvalE 4 [7] rfl (qv_loadEP ([.v (.int .i64 y169.1), .v (.int .i64 y169.2.1), .v (.int .i64 y169.2.2.1), .v (.int .i64 y169.2.2.2.1), .v (.int .i64 y169.2.2.2.2.1), .v (.int .i64 y169.2.2.2.2.2.1)] ++ (List.map ew y169.2.2.2.2.2.2.l).flatten) [] sq_ sl_ (part_all sl_) ShpC.h rfl) rfl rfl (by kernel_rfl) (by kernel_rfl) (by kernel_rfl) (fun _ _ _ _ h => h) ?_
    refine xpvalE 7 [] rfl (qv_loadB 0 ShpC.h rfl rfl rfl rfl) rfl rfl (by kernel_rfl) (by kernel_rfl) (by kernel_rfl) (fun _ _ _ _ h => h) ?_
    refine xpstep (i := 8) (by kernel_rfl) rfl ?_
    refine wcall0 (palinoderef06_may_con y169 x128 x1.2 _ h171) Try.func8 (by kernel_rfl) rfl (.cons rfl (.refl _) (.cons rfl (.refl _) (.cons rfl (.refl _) .nil))) rfl rfl ?_
    refine pl_ 9 rfl (pv_not rfl) ?_
    refine xpdone (by kernel_rfl) ?_
    refine xthen ?_
    by_cases hp173 : ¬ (y172 = true)
    ·replace h := h.1 hp173
     refine xcondT' (not_t (b_f hp173)) rfl ?_
     refine sr_ ?_
     refine as_ ?_
     refine nt_ ?_
     refine xretc ?_
     refine xin_ret ?_
     refine xthen_ret ?_
     refine xthen_ret ?_
     refine xin_ret ?_
     refine xthen_ret ?_
     replace h := h.symm
     subst h
     exact xret1 hg rfl rfl (.refl _) (SubM.of (.nil _) (.nil _)) ⟨rfl, rfl, rfl⟩
    ·replace h := h.2 hp173
     refine xcondF' (not_f (Decidable.of_not_not hp173)) rfl ?_
     refine xskipc ?_
     refine xin_normal ?_
     refine xthen ?_
     refine xregion ?_
     refine mv_ ?_
     obtain ⟨h174, h⟩ := h
     refine vp_ (pv_addI h174 rfl rfl) ?_
     refine as_ ?_
     refine xnil ?_
     obtain ⟨m', hm, hI⟩ := hag2 _ h
     exact xagain ⟨(x128 + 1), hI, rfl⟩ hm ⟨lk_, (SubM.of (.keep rfl rfl (.refl _) (.nil _)) (.nil _))⟩
   ·replace h := h.2 hp155
    refine xcondF' (decide_eq_false hp155) rfl ?_
    refine xexit ?_
    refine xthen_exit ?_
    refine xthen_exit ?_
    refine xin_same rfl ?_
    refine xthen ?_
    refine sr_ ?_
    refine mv_ ?_
    obtain ⟨h175, h⟩ := h
    refine xmakeRb (f := ei) 0 h175 UndC.h InfC.h (.refl _) rfl rfl rfl rfl fun i176 => ?_
    refine as_ ?_
    refine nt_ ?_
    refine sr_ ?_
    obtain ⟨h177, h⟩ := h
    refine xmakeRb (f := ei) 0 h177 UndC.h InfC.h (.refl _) rfl rfl rfl rfl fun i178 => ?_
    refine as_ ?_
    refine nt_ ?_
    refine xseq ?_
    refine sr_ ?_
    refine as_ ?_
    refine nt_ ?_
    refine xblock ?_
    obtain ⟨Inv, ⟨m0, hI⟩, hS⟩ := h
    refine xloop (fun σ m => ∃ (x754 : Int), ∃ (l755 : List Int), ∃ (l756 : List Int), Inv (x754, l755, l756) m ∧ σ = ⟨[(1, .v (.pointer (some ⟨b1, 0, none⟩))), (3, .v (.int .i64 ((x1.1.length : Int)))), (5, .rb i176 l755.length), (6, .rb i178 l756.length), (7, .v (.int .i64 x754))], [rbx i178 3 1 (List.map ei l756), rbx i176 3 1 (List.map ei l755), ⟨b1, 24, [.sl 10 none (List.map E_palinode_api_Node x1.1), .v (.int .i64 x1.2)]⟩], []⟩) ⟨0, (List.replicate ((x1.1.length : Int) : Int).toNat 0), (List.replicate (10 : Int).toNat 0), hI, rfl⟩ (by exact ⟨(.cons rfl (.refl _) (.cons rfl (.refl _) (.cons rfl (.eq (by first | rfl | simp)) (.cons rfl (.eq (by first | rfl | simp)) (.cons rfl (.refl _) (.nil _)))))), by exact (SubM.of (.keep rfl rfl (.refl _) (.keep rfl rfl (.refl _) (.keep rfl rfl (.refl _) (.nil _)))) (.nil _))⟩) ?_
    rintro _ m ⟨x754, l755, l756, hI, rfl⟩
    obtain ⟨ag3, hag3, h⟩ : ∃ ag, (∀ s', ag s' → ∃ m', m' < m ∧ Inv s' m') ∧ palinoderef06_Right_l3 x1 ag x754 l755 l756 r := ⟨_, fun _ h => h, hS (x754, l755, l756) _ hI⟩
    clear hS hI
    refine xseq ?_
    refine sr_ ?_
    refine mv_ ?_
    refine mv_ ?_
    refine vp_ (pv_bin2 rfl rfl rfl) ?_
    refine nt_ ?_
    by_cases hp903 : x754 < (x1.1.length : Int)
    ·replace h := h.1 hp903
     refine xcondT' (decide_eq_true hp903) rfl ?_
     refine xskipc ?_
     refine xthen ?_
     refine xseqM (fun σ => ∃ (l972 : List Int), ∃ (l973 : List Int), palinoderef06_Right_j4 x754 ag3 l972 l973 r ∧ σ = ⟨[(1, .v (.pointer (some ⟨b1, 0, none⟩))), (3, .v (.int .i64 ((x1.1.length : Int)))), (5, .rb i176 l972.length), (6, .rb i178 l973.length), (7, .v (.int .i64 x754))], [rbx i178 3 1 (List.map ei l973), rbx i176 3 1 (List.map ei l972), ⟨b1, 24, [.sl 10 none (List.map E_palinode_api_Node x1.1), .v (.int .i64 x1.2)]⟩], []⟩) ?_ ?_
     ·refine xblock ?_
      refine sr_ ?_
      refine vp_ (qv_fieldAddrB FldC.h rfl) ?_
      refine v_ (qv_loadB 2 ShpC.h rfl rfl rfl rfl) ?_
      refine mv_ ?_
      obtain ⟨h975a, h⟩ := h
      obtain ⟨y974, h975b, h⟩ := h
      refine vp_ (pv_indexAddrM h975a h975b UndC.h ShpC.h rfl rfl) ?_
      refine v_ (qv_loadEP ([.v (.int .i64 y974.1), .v (.int .i64 y974.2.1), .v (.int .i64 y974.2.2.1), .v (.int .i64 y974.2.2.2.1), .v (.int .i64 y974.2.2.2.2.1), .v (.int .i64 y974.2.2.2.2.2.1)] ++ (List.map ew y974.2.2.2.2.2.2.l).flatten) [] sq_ sl_ (part_all sl_) ShpC.h rfl) ?_
      refine xalloc InfC.h rfl rfl fun b8 => ?_
      refine xreb 0 ([.v (.int .i64 0), .v (.int .i64 0), .v (.int .i64 0), .v (.int .i64 0), .v (.int .i64 0), .v (.int .i64 0)] ++ (List.map ew ((Arr.rep 4 (0 : UInt64))).l).flatten) rfl rfl ?_
      refine xstoreQ 0 [] ([.v (.int .i64 0), .v (.int .i64 0), .v (.int .i64 0), .v (.int .i64 0), .v (.int .i64 0), .v (.int .i64 0)] ++ (List.map ew ((Arr.rep 4 (0 : UInt64))).l).flatten) [] ([.v (.int .i64 y974.1), .v (.int .i64 y974.2.1), .v (.int .i64 y974.2.2.1), .v (.int .i64 y974.2.2.2.1), .v (.int .i64 y974.2.2.2.2.1), .v (.int .i64 y974.2.2.2.2.2.1)] ++ (List.map ew y974.2.2.2.2.2.2.l).flatten) ShpC.h rfl rfl rfl rfl rfl ?_
      refine nt_ ?_
      refine xseqM (fun σ => ∃ (l990 : List Int), palinoderef06_Right_j5 y974 l756 x754 ag3 l990 r ∧ σ = ⟨[(1, .v (.pointer (some ⟨b1, 0, none⟩))), (3, .v (.int .i64 ((x1.1.length : Int)))), (5, .rb i176 l990.length), (6, .rb i178 l756.length), (7, .v (.int .i64 x754)), (8, .v (.pointer (some ⟨b8, 0, none⟩)))], [⟨b8, 45, ([.v (.int .i64 y974.1), .v (.int .i64 y974.2.1), .v (.int .i64 y974.2.2.1), .v (.int .i64 y974.2.2.2.1), .v (.int .i64 y974.2.2.2.2.1), .v (.int .i64 y974.2.2.2.2.2.1)] ++ (List.map ew y974.2.2.2.2.2.2.l).flatten)⟩, rbx i178 3 1 (List.map ei l756), rbx i176 3 1 (List.map ei l990), ⟨b1, 24, [.sl 10 none (List.map E_palinode_api_Node x1.1), .v (.int .i64 x1.2)]⟩], []⟩) ?_ ?_
      ·refine xseqM (fun σ => ∃ (x994 : Bool), palinoderef06_Right_j6 y974 l755 l756 x754 ag3 x994 r ∧ σ = ⟨[(1, .v (.pointer (some ⟨b1, 0, none⟩))), (3, .v (.int .i64 ((x1.1.length : Int)))), (5, .rb i176 l755.length), (6, .rb i178 l756.length), (7, .v (.int .i64 x754)), (8, .v (.pointer (some ⟨b8, 0, none⟩))), (65, .v (.bool x994))], [⟨b8, 45, ([.v (.int .i64 y974.1), .v (.int .i64 y974.2.1), .v (.int .i64 y974.2.2.1), .v (.int .i64 y974.2.2.2.1), .v (.int .i64 y974.2.2.2.2.1), .v (.int .i64 y974.2.2.2.2.2.1)] ++ (List.map ew y974.2.2.2.2.2.2.l).flatten)⟩, rbx i178 3 1 (List.map ei l756), rbx i176 3 1 (List.map ei l755), ⟨b1, 24, [.sl 10 none (List.map E_palinode_api_Node x1.1), .v (.int .i64 x1.2)]⟩], []⟩) ?_ ?_
       ·refine xregion ?_
        refine vp_ (qv_fieldAddrB FldC.h rfl) ?_
        refine v_ (qv_loadB 0 ShpC.h rfl rfl rfl rfl) ?_
        refine vp_ (pv_bin2 rfl rfl rfl) ?_
        refine mv_ ?_
        by_cases hp996 : 2 ≤ y974.1
        ·rw [and_tt (show (decide (2 ≤ y974.1)) = true from (decide_eq_true hp996))] at h
         refine xsetB 61 (decide_eq_true hp996) rfl ?_
         refine vp_ (qv_fieldAddrB FldC.h rfl) ?_
         refine v_ (qv_loadB 0 ShpC.h rfl rfl rfl rfl) ?_
         refine vp_ (pv_bin2 rfl rfl rfl) ?_
         refine pk_ ?_
         refine xnil ?_
         exact xmeet ⟨(decide (y974.1 ≤ 5)), h, rfl⟩ ⟨(.cons rfl (.refl _) (.cons rfl (.refl _) (.cons rfl (.eq (by first | rfl | simp)) (.cons rfl (.eq (by first | rfl | simp)) lk_)))), by exact (SubM.of (.keep rfl rfl (.refl _) (.keep rfl rfl (.refl _) (.keep rfl rfl (.refl _) (.keep rfl rfl (.refl _) (.nil _))))) (.nil _))⟩
        ·rw [and_ff (show (decide (2 ≤ y974.1)) = false from (decide_eq_false hp996))] at h
         refine xsetB 61 (decide_eq_false hp996) rfl ?_
         refine sk_ ?_
         refine sk_ ?_
         refine sk_ ?_
         refine pk_ ?_
         refine xnil ?_
         exact xmeet ⟨false, h, rfl⟩ ⟨(.cons rfl (.refl _) (.cons rfl (.refl _) (.cons rfl (.eq (by first | rfl | simp)) (.cons rfl (.eq (by first | rfl | simp)) lk_)))), by exact (SubM.of (.keep rfl rfl (.refl _) (.keep rfl rfl (.refl _) (.keep rfl rfl (.refl _) (.keep rfl rfl (.refl _) (.nil _))))) (.nil _))⟩
       ·clear h
        rintro _ ⟨x994, h, rfl⟩
        by_cases hp998 : x994 = true
        ·replace h := h.1 hp998
         refine xcondT' hp998 rfl ?_
         refine xregionD (m := 11) (by kernel_rfl) rfl ?_
         obtain ⟨h1000a, h⟩ := h
         obtain ⟨y999, h1000b, h⟩ := h
         obtain ⟨h1001, h⟩ := h
         obtain ⟨h1003a, h⟩ := h
         obtain ⟨y1002, h1003b, h⟩ := h
         refine pl_ 0 rfl (pv_move rfl) ?_
         refine pl_ 1 rfl (qv_fieldAddrB FldC.h rfl) ?_
         refine pl_ 3 rfl (pv_move rfl) ?_
         refine pl_ 4 rfl (qv_fieldAddrB FldC.h rfl) ?_
         refine xpvalE 5 [2] rfl (qv_loadB 0 ShpC.h rfl rfl rfl rfl) rfl rfl (by kernel_rfl) (by kernel_rfl) (by kernel_rfl) (fun _ _ _ _ h => h) ?_
         refine pl_ 6 rfl (pv_indexAddrRbM rfl h1000a h1000b UndC.h ShpC.h rfl rfl) ?_
         refine xpvalE 7 [2] rfl (qv_loadRb (f := ei) (k := 1) (off := 0) (i := (y974.2.1 : Int).toNat) 2 h1000b rfl (by decide) rfl ShpC.h rfl rfl) rfl rfl (by kernel_rfl) (by kernel_rfl) (by kernel_rfl) (fun _ _ _ _ h => h) ?_
         refine pl_ 8 rfl (pv_addI h1001 rfl rfl) ?_
         refine xpvalE 2 [] rfl (qv_loadB 0 ShpC.h rfl rfl rfl rfl) rfl rfl (by kernel_rfl) (by kernel_rfl) (by kernel_rfl) (fun _ _ _ _ h => h) ?_
         refine pl_ 9 rfl (pv_indexAddrRbM rfl h1003a h1003b UndC.h ShpC.h rfl rfl) ?_
         refine xpstep (i := 10) (by kernel_rfl) rfl ?_
         refine wstoreRb (f := ei) (k := 1) (off := 0) (i := (y974.2.1 : Int).toNat) 2 (y999 + 1) h1003b rfl (by decide) ShpC.h rfl rfl rfl rfl sl_ (.refl _) rfl ?_
         refine xpdone (by kernel_rfl) ?_
         exact xmeet ⟨(l755.set (y974.2.1 : Int).toNat (y999 + 1)), h, rfl⟩ ⟨(.cons rfl (.refl _) (.cons rfl (.refl _) (.cons rfl (.eq (by first | rfl | simp)) (.cons rfl (.eq (by first | rfl | simp)) lk_)))), by exact (SubM.of (.keep rfl rfl (.refl _) (.keep rfl rfl (.refl _) (.keep rfl rfl (.refl _) (.keep rfl rfl (.refl _) (.nil _))))) (.nil _))⟩
        ·replace h := h.2 hp998
         refine xcondF' (b_f hp998) rfl ?_
         refine xskipc ?_
         exact xmeet ⟨l755, h, rfl⟩ ⟨(.cons rfl (.refl _) (.cons rfl (.refl _) (.cons rfl (.eq (by first | rfl | simp)) (.cons rfl (.eq (by first | rfl | simp)) lk_)))), by exact (SubM.of (.keep rfl rfl (.refl _) (.keep rfl rfl (.refl _) (.keep rfl rfl (.refl _) (.keep rfl rfl (.refl _) (.nil _))))) (.nil _))⟩
      ·clear h
       rintro _ ⟨l990, h, rfl⟩
       unfold palinoderef06_Right_j5 at h
       refine xseqM (fun σ => ∃ (l1019 : List Int), palinoderef06_Right_j7 y974 l756 x754 ag3 l1019 r ∧ σ = ⟨[(1, .v (.pointer (some ⟨b1, 0, none⟩))), (3, .v (.int .i64 ((x1.1.length : Int)))), (5, .rb i176 l1019.length), (6, .rb i178 l756.length), (7, .v (.int .i64 x754)), (8, .v (.pointer (some ⟨b8, 0, none⟩)))], [⟨b8, 45, ([.v (.int .i64 y974.1), .v (.int .i64 y974.2.1), .v (.int .i64 y974.2.2.1), .v (.int .i64 y974.2.2.2.1), .v (.int .i64 y974.2.2.2.2.1), .v (.int .i64 y974.2.2.2.2.2.1)] ++ (List.map ew y974.2.2.2.2.2.2.l).flatten)⟩, rbx i178 3 1 (List.map ei l756), rbx i176 3 1 (List.map ei l1019), ⟨b1, 24, [.sl 10 none (List.map E_palinode_api_Node x1.1), .v (.int .i64 x1.2)]⟩], []⟩) ?_ ?_
       ·refine xseqM (fun σ => ∃ (x1023 : Bool), palinoderef06_Right_j8 y974 l990 l756 x754 ag3 x1023 r ∧ σ = ⟨[(1, .v (.pointer (some ⟨b1, 0, none⟩))), (3, .v (.int .i64 ((x1.1.length : Int)))), (5, .rb i176 l990.length), (6, .rb i178 l756.length), (7, .v (.int .i64 x754)), (8, .v (.pointer (some ⟨b8, 0, none⟩))), (83, .v (.bool x1023))], [⟨b8, 45, ([.v (.int .i64 y974.1), .v (.int .i64 y974.2.1), .v (.int .i64 y974.2.2.1), .v (.int .i64 y974.2.2.2.1), .v (.int .i64 y974.2.2.2.2.1), .v (.int .i64 y974.2.2.2.2.2.1)] ++ (List.map ew y974.2.2.2.2.2.2.l).flatten)⟩, rbx i178 3 1 (List.map ei l756), rbx i176 3 1 (List.map ei l990), ⟨b1, 24, [.sl 10 none (List.map E_palinode_api_Node x1.1), .v (.int .i64 x1.2)]⟩], []⟩) ?_ ?_
        ·refine xregion ?_
         refine vp_ (qv_fieldAddrB FldC.h rfl) ?_
         refine v_ (qv_loadB 0 ShpC.h rfl rfl rfl rfl) ?_
         refine vp_ (pv_bin2 rfl rfl rfl) ?_
         refine mv_ ?_
         by_cases hp1025 : y974.1 = 2
         ·rw [or_tt (show (decide (y974.1 = 2)) = true from (decide_eq_true hp1025))] at h
          refine xsetB 79 (decide_eq_true hp1025) rfl ?_
          refine sk_ ?_
          refine sk_ ?_
          refine sk_ ?_
          refine pk_ ?_
          refine xnil ?_
          exact xmeet ⟨true, h, rfl⟩ ⟨(.cons rfl (.refl _) (.cons rfl (.refl _) (.cons rfl (.eq (by first | rfl | simp)) (.cons rfl (.eq (by first | rfl | simp)) lk_)))), by exact (SubM.of (.keep rfl rfl (.refl _) (.keep rfl rfl (.refl _) (.keep rfl rfl (.refl _) (.keep rfl rfl (.refl _) (.nil _))))) (.nil _))⟩
         ·rw [or_ff (show (decide (y974.1 = 2)) = false from (decide_eq_false hp1025))] at h
          refine xsetB 79 (decide_eq_false hp1025) rfl ?_
          refine vp_ (qv_fieldAddrB FldC.h rfl) ?_
          refine v_ (qv_loadB 0 ShpC.h rfl rfl rfl rfl) ?_
          refine vp_ (pv_bin2 rfl rfl rfl) ?_
          refine pk_ ?_
          refine xnil ?_
          exact xmeet ⟨(decide (y974.1 = 3)), h, rfl⟩ ⟨(.cons rfl (.refl _) (.cons rfl (.refl _) (.cons rfl (.eq (by first | rfl | simp)) (.cons rfl (.eq (by first | rfl | simp)) lk_)))), by exact (SubM.of (.keep rfl rfl (.refl _) (.keep rfl rfl (.refl _) (.keep rfl rfl (.refl _) (.keep rfl rfl (.refl _) (.nil _))))) (.nil _))⟩
        ·clear h
         rintro _ ⟨x1023, h, rfl⟩
         by_cases hp1027 : x1023 = true
         ·replace h := h.1 hp1027
          refine xcondT' hp1027 rfl ?_
          refine xregionD (m := 11) (by kernel_rfl) rfl ?_
          obtain ⟨h1029a, h⟩ := h
          obtain ⟨y1028, h1029b, h⟩ := h
          obtain ⟨h1030, h⟩ := h
          obtain ⟨h1032a, h⟩ := h
          obtain ⟨y1031, h1032b, h⟩ := h
          refine pl_ 0 rfl (pv_move rfl) ?_
          refine pl_ 1 rfl (qv_fieldAddrB FldC.h rfl) ?_
          refine pl_ 3 rfl (pv_move rfl) ?_
          refine pl_ 4 rfl (qv_fieldAddrB FldC.h rfl) ?_
          refine xpvalE 5 [2] rfl (qv_loadB 0 ShpC.h rfl rfl rfl rfl) rfl rfl (by kernel_rfl) (by kernel_rfl) (by kernel_rfl) (fun _ _ _ _ h => h) ?_
          refine pl_ 6 rfl (pv_indexAddrRbM rfl h1029a h1029b UndC.h ShpC.h rfl rfl) ?_
          refine xpvalE 7 [2] rfl (qv_loadRb (f := ei) (k := 1) (off := 0) (i := (y974.2.2.1 : Int).toNat) 2 h1029b rfl (by decide) rfl ShpC.h rfl rfl) rfl rfl (by kernel_rfl) (by kernel_rfl) (by kernel_rfl) (fun _ _ _ _ h => h) ?_
          refine pl_ 8 rfl (pv_addI h1030 rfl rfl) ?_
          refine xpvalE 2 [] rfl (qv_loadB 0 ShpC.h rfl rfl rfl rfl) rfl rfl (by kernel_rfl) (by kernel_rfl) (by kernel_rfl) (fun _ _ _ _ h => h) ?_
          refine pl_ 9 rfl (pv_indexAddrRbM rfl h1032a h1032b UndC.h ShpC.h rfl rfl) ?_
          refine xpstep (i := 10) (by kernel_rfl) rfl ?_
          refine wstoreRb (f := ei) (k := 1) (off := 0) (i := (y974.2.2.1 : Int).toNat) 2 (y1028 + 1) h1032b rfl (by decide) ShpC.h rfl rfl rfl rfl sl_ (.refl _) rfl ?_
          refine xpdone (by kernel_rfl) ?_
          exact xmeet ⟨(l990.set (y974.2.2.1 : Int).toNat (y1028 + 1)), h, rfl⟩ ⟨(.cons rfl (.refl _) (.cons rfl (.refl _) (.cons rfl (.eq (by first | rfl | simp)) (.cons rfl (.eq (by first | rfl | simp)) lk_)))), by exact (SubM.of (.keep rfl rfl (.refl _) (.keep rfl rfl (.refl _) (.keep rfl rfl (.refl _) (.keep rfl rfl (.refl _) (.nil _))))) (.nil _))⟩
         ·replace h := h.2 hp1027
          refine xcondF' (b_f hp1027) rfl ?_
          refine xskipc ?_
          exact xmeet ⟨l990, h, rfl⟩ ⟨(.cons rfl (.refl _) (.cons rfl (.refl _) (.cons rfl (.eq (by first | rfl | simp)) (.cons rfl (.eq (by first | rfl | simp)) lk_)))), by exact (SubM.of (.keep rfl rfl (.refl _) (.keep rfl rfl (.refl _) (.keep rfl rfl (.refl _) (.keep rfl rfl (.refl _) (.nil _))))) (.nil _))⟩
       ·clear h
        rintro _ ⟨l1019, h, rfl⟩
        refine sr_ ?_
        refine vp_ (qv_fieldAddrB FldC.h rfl) ?_
        refine v_ (qv_loadB 0 ShpC.h rfl rfl rfl rfl) ?_
        refine vp_ (pv_bin2 rfl rfl rfl) ?_
        refine nt_ ?_
        by_cases hp1035 : y974.1 = 5
        ·replace h := h.1 hp1035
         refine xcondT' (decide_eq_true hp1035) rfl ?_
         refine xregionD (m := 11) (by kernel_rfl) rfl ?_
         obtain ⟨h1037a, h⟩ := h
         obtain ⟨y1036, h1037b, h⟩ := h
         obtain ⟨h1038, h⟩ := h
         obtain ⟨h1040a, h⟩ := h
         obtain ⟨y1039, h1040b, h⟩ := h
         refine pl_ 0 rfl (pv_move rfl) ?_
         refine pl_ 1 rfl (qv_fieldAddrB FldC.h rfl) ?_
         refine pl_ 3 rfl (pv_move rfl) ?_
         refine pl_ 4 rfl (qv_fieldAddrB FldC.h rfl) ?_
         refine xpvalE 5 [2] rfl (qv_loadB 0 ShpC.h rfl rfl rfl rfl) rfl rfl (by kernel_rfl) (by kernel_rfl) (by kernel_rfl) (fun _ _ _ _ h => h) ?_
         refine pl_ 6 rfl (pv_indexAddrRbM rfl h1037a h1037b UndC.h ShpC.h rfl rfl) ?_
         refine xpvalE 7 [2] rfl (qv_loadRb (f := ei) (k := 1) (off := 0) (i := (y974.2.2.2.2.2.1 : Int).toNat) 1 h1037b rfl (by decide) rfl ShpC.h rfl rfl) rfl rfl (by kernel_rfl) (by kernel_rfl) (by kernel_rfl) (fun _ _ _ _ h => h) ?_
         refine pl_ 8 rfl (pv_addI h1038 rfl rfl) ?_
         refine xpvalE 2 [] rfl (qv_loadB 0 ShpC.h rfl rfl rfl rfl) rfl rfl (by kernel_rfl) (by kernel_rfl) (by kernel_rfl) (fun _ _ _ _ h => h) ?_
         refine pl_ 9 rfl (pv_indexAddrRbM rfl h1040a h1040b UndC.h ShpC.h rfl rfl) ?_
         refine xpstep (i := 10) (by kernel_rfl) rfl ?_
         refine wstoreRb (f := ei) (k := 1) (off := 0) (i := (y974.2.2.2.2.2.1 : Int).toNat) 1 (y1036 + 1) h1040b rfl (by decide) ShpC.h rfl rfl rfl rfl sl_ (.refl _) rfl ?_
         refine xpdone (by kernel_rfl) ?_
         refine xin_normal ?_
         exact xmeet ⟨l1019, (l756.set (y974.2.2.2.2.2.1 : Int).toNat (y1036 + 1)), h, rfl⟩ ⟨(.cons rfl (.refl _) (.cons rfl (.refl _) (.cons rfl (.eq (by first | rfl | simp)) (.cons rfl (.eq (by first | rfl | simp)) (.cons rfl (.refl _) (.nil _)))))), by exact (SubM.of (.drop (.keep rfl rfl (.refl _) (.keep rfl rfl (.refl _) (.keep rfl rfl (.refl _) (.nil _))))) (.nil _))⟩
        ·replace h := h.2 hp1035
         refine xcondF' (decide_eq_false hp1035) rfl ?_
         refine xskipc ?_
         refine xin_normal ?_
         exact xmeet ⟨l1019, l756, h, rfl⟩ ⟨(.cons rfl (.refl _) (.cons rfl (.refl _) (.cons rfl (.eq (by first | rfl | simp)) (.cons rfl (.eq (by first | rfl | simp)) (.cons rfl (.refl _) (.nil _)))))), by exact (SubM.of (.drop (.keep rfl rfl (.refl _) (.keep rfl rfl (.refl _) (.keep rfl rfl (.refl _) (.nil _))))) (.nil _))⟩
     ·clear h
      rintro _ ⟨l972, l973, h, rfl⟩
      refine xregion ?_
      refine mv_ ?_
      obtain ⟨h1042, h⟩ := h
      refine vp_ (pv_addI h1042 rfl rfl) ?_
      refine as_ ?_
      refine xnil ?_
      obtain ⟨m', hm, hI⟩ := hag3 _ h
      exact xagain ⟨(x754 + 1), l972, l973, hI, rfl⟩ hm ⟨(.cons rfl (.refl _) (.cons rfl (.refl _) (.cons rfl (.eq (by first | rfl | simp)) (.cons rfl (.eq (by first | rfl | simp)) (.cons rfl (.refl _) (.nil _)))))), by exact (SubM.of (.keep rfl rfl (.refl _) (.keep rfl rfl (.refl _) (.keep rfl rfl (.refl _) (.nil _)))) (.nil _))⟩
    ·replace h := h.2 hp903
     refine xcondF' (decide_eq_false hp903) rfl ?_
     refine xexit ?_
     refine xthen_exit ?_
     refine xthen_exit ?_
     refine xin_same rfl ?_
     refine xthen ?_
     refine xseq ?_
     refine sr_ ?_
     refine as_ ?_
     refine nt_ ?_
     refine xblock ?_
     obtain ⟨Inv, ⟨m0, hI⟩, hS⟩ := h
     refine xloop (fun σ m => ∃ (x1104 : Int), Inv x1104 m ∧ σ = ⟨[(1, .v (.pointer (some ⟨b1, 0, none⟩))), (3, .v (.int .i64 ((x1.1.length : Int)))), (5, .rb i176 l755.length), (6, .rb i178 l756.length), (9, .v (.int .i64 x1104))], [rbx i178 3 1 (List.map ei l756), rbx i176 3 1 (List.map ei l755), ⟨b1, 24, [.sl 10 none (List.map E_palinode_api_Node x1.1), .v (.int .i64 x1.2)]⟩], []⟩) ⟨0, hI, rfl⟩ (by exact ⟨(.cons rfl (.refl _) (.cons rfl (.refl _) (.cons rfl (.eq (by first | rfl | simp)) (.cons rfl (.eq (by first | rfl | simp)) (.cons rfl (.refl _) (.nil _)))))), by exact (SubM.of (.keep rfl rfl (.refl _) (.keep rfl rfl (.refl _) (.keep rfl rfl (.refl _) (.nil _)))) (.nil _))⟩) ?_
     rintro _ m ⟨x1104, hI, rfl⟩
     obtain ⟨ag9, hag9, h⟩ : ∃ ag, (∀ s', ag s' → ∃ m', m' < m ∧ Inv s' m') ∧ palinoderef06_Right_l9 x1 l755 l756 ag x1104 r := ⟨_, fun _ h => h, hS x1104 _ hI⟩
     clear hS hI
     refine xseq ?_
     refine sr_ ?_
     refine mv_ ?_
     refine mv_ ?_
     obtain ⟨h1123, h⟩ := h
     refine vp_ (pv_subI h1123 rfl rfl) ?_
     refine vp_ (pv_bin2 rfl rfl rfl) ?_
     refine nt_ ?_
     by_cases hp1125 : x1104 < ((x1.1.length : Int) - 1)
     ·replace h := h.1 hp1125
      refine xcondT' (decide_eq_true hp1125) rfl ?_
      refine xskipc ?_
      refine xthen ?_
      refine xseq ?_
      refine xblock ?_
      refine sr_ ?_
      refine mv_ ?_
      refine mv_ ?_
      obtain ⟨h1131a, h⟩ := h
      obtain ⟨y1130, h1131b, h⟩ := h
      refine vp_ (pv_indexAddrRbM rfl h1131a h1131b UndC.h ShpC.h rfl rfl) ?_
      refine v_ (qv_loadRb (f := ei) (k := 1) (off := 0) (i := (x1104 : Int).toNat) 1 h1131b rfl (by decide) rfl ShpC.h rfl rfl) ?_
      refine vp_ (pv_bin2 rfl rfl rfl) ?_
      refine nt_ ?_
      by_cases hp1133 : ¬ (y1130 = 1)
      ·replace h := h.1 hp1133
       refine xcondT' (not_t (decide_eq_false hp1133)) rfl ?_
       refine sr_ ?_
       refine as_ ?_
       refine nt_ ?_
       refine xretc ?_
       refine xin_ret ?_
       refine xthen_ret ?_
       refine xthen_ret ?_
       refine xin_ret ?_
       refine xthen_ret ?_
       replace h := h.symm
       subst h
       exact xret1 (bx' := []) (tk' := []) hg rfl rfl (.refl _) (SubM.of (.nil _) (.nil _)) ⟨rfl, rfl, rfl⟩
      ·replace h := h.2 hp1133
       refine xcondF' (not_f (decide_eq_true (Decidable.of_not_not hp1133))) rfl ?_
       refine xskipc ?_
       refine xin_normal ?_
       refine xthen ?_
       refine xregion ?_
       refine mv_ ?_
       obtain ⟨h1134, h⟩ := h
       refine vp_ (pv_addI h1134 rfl rfl) ?_
       refine as_ ?_
       refine xnil ?_
       obtain ⟨m', hm, hI⟩ := hag9 _ h
       exact xagain ⟨(x1104 + 1), hI, rfl⟩ hm ⟨(.cons rfl (.refl _) (.cons rfl (.refl _) (.cons rfl (.eq (by first | rfl | simp)) (.cons rfl (.eq (by first | rfl | simp)) (.cons rfl (.refl _) (.nil _)))))), by exact (SubM.of (.keep rfl rfl (.refl _) (.keep rfl rfl (.refl _) (.keep rfl rfl (.refl _) (.nil _)))) (.nil _))⟩
     ·replace h := h.2 hp1125
      refine xcondF' (decide_eq_false hp1125) rfl ?_
      refine xexit ?_
      refine xthen_exit ?_
      refine xthen_exit ?_
      refine xin_same rfl ?_
      refine xthen ?_
      refine xseq ?_
      refine sr_ ?_
      refine as_ ?_
      refine nt_ ?_
      refine xblock ?_
      obtain ⟨Inv, ⟨m0, hI⟩, hS⟩ := h
      refine xloop (fun σ m => ∃ (x1188 : Int), Inv x1188 m ∧ σ = ⟨[(1, .v (.pointer (some ⟨b1, 0, none⟩))), (6, .rb i178 l756.length), (10, .v (.int .i64 x1188))], [rbx i178 3 1 (List.map ei l756), ⟨b1, 24, [.sl 10 none (List.map E_palinode_api_Node x1.1), .v (.int .i64 x1.2)]⟩], []⟩) ⟨1, hI, rfl⟩ (by exact ⟨(.cons rfl (.refl _) (.cons rfl (.eq (by first | rfl | simp)) (.cons rfl (.refl _) (.nil _)))), by exact (SubM.of (.keep rfl rfl (.refl _) (.drop (.keep rfl rfl (.refl _) (.nil _)))) (.nil _))⟩) ?_
      rintro _ m ⟨x1188, hI, rfl⟩
      obtain ⟨ag10, hag10, h⟩ : ∃ ag, (∀ s', ag s' → ∃ m', m' < m ∧ Inv s' m') ∧ palinoderef06_Right_l10 x1 l756 ag x1188 r := ⟨_, fun _ h => h, hS x1188 _ hI⟩
      clear hS hI
      refine xseq ?_
      refine sr_ ?_
      refine mv_ ?_
      refine vp_ (qv_fieldAddrB FldC.h rfl) ?_
      refine v_ (qv_loadB 1 ShpC.h rfl rfl rfl rfl) ?_
      refine vp_ (pv_bin2 rfl rfl rfl) ?_
      refine nt_ ?_
      by_cases hp1205 : x1188 ≤ x1.2
      ·replace h := h.1 hp1205
       refine xcondT' (decide_eq_true hp1205) rfl ?_
       refine xskipc ?_
       refine xthen ?_
       refine xseq ?_
       refine xblock ?_
       refine sr_ ?_
       refine mv_ ?_
       refine mv_ ?_
       obtain ⟨h1211a, h⟩ := h
       obtain ⟨y1210, h1211b, h⟩ := h
       refine vp_ (pv_indexAddrRbM rfl h1211a h1211b UndC.h ShpC.h rfl rfl) ?_
       refine v_ (qv_loadRb (f := ei) (k := 1) (off := 0) (i := (x1188 : Int).toNat) 0 h1211b rfl (by decide) rfl ShpC.h rfl rfl) ?_
       refine vp_ (pv_bin2 rfl rfl rfl) ?_
       refine nt_ ?_
       by_cases hp1213 : ¬ (y1210 = 1)
       ·replace h := h.1 hp1213
        refine xcondT' (not_t (decide_eq_false hp1213)) rfl ?_
        refine sr_ ?_
        refine as_ ?_
        refine nt_ ?_
        refine xretc ?_
        refine xin_ret ?_
        refine xthen_ret ?_
        refine xthen_ret ?_
        refine xin_ret ?_
        refine xthen_ret ?_
        replace h := h.symm
        subst h
        exact xret1 (bx' := []) (tk' := []) hg rfl rfl (.refl _) (SubM.of (.nil _) (.nil _)) ⟨rfl, rfl, rfl⟩
       ·replace h := h.2 hp1213
        refine xcondF' (not_f (decide_eq_true (Decidable.of_not_not hp1213))) rfl ?_
        refine xskipc ?_
        refine xin_normal ?_
        refine xthen ?_
        refine xregion ?_
        refine mv_ ?_
        obtain ⟨h1214, h⟩ := h
        refine vp_ (pv_addI h1214 rfl rfl) ?_
        refine as_ ?_
        refine xnil ?_
        obtain ⟨m', hm, hI⟩ := hag10 _ h
        exact xagain ⟨(x1188 + 1), hI, rfl⟩ hm ⟨(.cons rfl (.refl _) (.cons rfl (.eq (by first | rfl | simp)) (.cons rfl (.refl _) (.nil _)))), by exact (SubM.of (.keep rfl rfl (.refl _) (.keep rfl rfl (.refl _) (.nil _))) (.nil _))⟩
      ·replace h := h.2 hp1205
       refine xcondF' (decide_eq_false hp1205) rfl ?_
       refine xexit ?_
       refine xthen_exit ?_
       refine xthen_exit ?_
       refine xin_same rfl ?_
       refine xthen ?_
       refine sr_ ?_
       refine as_ ?_
       refine nt_ ?_
       refine xretc ?_
       replace h := h.symm
       subst h
       exact xret1 (bx' := []) (tk' := []) hg rfl rfl (.refl _) (SubM.of (.nil _) (.nil _)) ⟨rfl, rfl, rfl⟩
/-- palinoderef08.One -/
def palinoderef08_One_R (c1 : UInt8) (r : (Arr 4 (UInt64))) : Prop :=
 (64 : Int) ≠ 0 ∧ ∃ c3 : UInt8, (c3.toNat : Int) = IntKind.u8.wrap (((c1.toNat : Int)).tdiv 64) ∧ (64 : Int) ≠ 0 ∧ ∃ c5 : UInt8, (c5.toNat : Int) = (((c1.toNat : Int)).tmod 64) ∧ (0 : Int) ≤ (c5.toNat : Int) ∧ ∃ c7 : UInt64, (c7.toNat : Int) = IntKind.u64.wrap ((1 : Int) * 2 ^ (min ((c5.toNat : Int) : Int).toNat IntKind.u64.bits)) ∧ (0 ≤ ((c3.toNat : Int) : Int) ∧ ((c3.toNat : Int) : Int) < 4) ∧ ∃ y9 : UInt64, ((Arr.rep 4 (0 : UInt64))).l[((c3.toNat : Int) : Int).toNat]? = some y9 ∧ r = (Arr.set ((Arr.rep 4 (0 : UInt64))) ((c3.toNat : Int) : Int).toNat c7)
def palinoderef08_One_ev (fuel : Nat) (c1 : UInt8) : Option ((Arr 4 (UInt64))) :=
 (if (64 : Int) ≠ 0 then (exB (IntKind.u8.wrap (((c1.toNat : Int)).tdiv 64)) fun c3 => (if (64 : Int) ≠ 0 then (exB ((((c1.toNat : Int)).tmod 64)) fun c5 => (if (0 : Int) ≤ (c5.toNat : Int) then (exL (IntKind.u64.wrap ((1 : Int) * 2 ^ (min ((c5.toNat : Int) : Int).toNat IntKind.u64.bits))) fun c7 => (if (0 ≤ ((c3.toNat : Int) : Int) ∧ ((c3.toNat : Int) : Int) < 4) then ((((Arr.rep 4 (0 : UInt64))).l[((c3.toNat : Int) : Int).toNat]?).bind fun y9 => some (Arr.set ((Arr.rep 4 (0 : UInt64))) ((c3.toNat : Int) : Int).toNat c7)) else none)) else none)) else none)) else none)
theorem palinoderef08_One_ok {fuel : Nat} {c1 : UInt8} {r : (Arr 4 (UInt64))} (h : palinoderef08_One_ev fuel c1 = some r) : palinoderef08_One_R c1 r := by
 unfold palinoderef08_One_ev at h
 unfold palinoderef08_One_R
 obtain ⟨g47, h⟩ := if_ok h
 refine ⟨g47, ?_⟩
 obtain ⟨q48, g48, h⟩ := exB_ok h
 refine ⟨q48, g48, ?_⟩
 obtain ⟨g49, h⟩ := if_ok h
 refine ⟨g49, ?_⟩
 obtain ⟨q50, g50, h⟩ := exB_ok h
 refine ⟨q50, g50, ?_⟩
 obtain ⟨g51, h⟩ := if_ok h
 refine ⟨g51, ?_⟩
 obtain ⟨q52, g52, h⟩ := exL_ok h
 refine ⟨q52, g52, ?_⟩
 obtain ⟨g53, h⟩ := if_ok h
 refine ⟨g53, ?_⟩
 obtain ⟨q54, g54, h⟩ := bind_ok h
 refine ⟨q54, g54, ?_⟩
 exact (Option.some.inj h).symm
set_option maxHeartbeats 4000000 in
theorem palinoderef08_One_con (c1 : UInt8) (r : (Arr 4 (UInt64))) (h : palinoderef08_One_R c1 r) : Con Try.prog 9 [.v (.int .u8 ((c1.toNat : Int)))] [] [] (Ret (.agg ((List.map ew r.l).flatten))) := by
 refine xenter Try.func9 rfl rfl fun g hg => ?_
 simp only [Try.ntmps9, slots]
 refine sr_ ?_
 refine xalloc InfC.h rfl rfl fun b2 => ?_
 refine xreb 0 ((List.map ew ((Arr.rep 4 (0 : UInt64))).l).flatten) rfl rfl ?_
 refine nt_ ?_
 refine sr_ ?_
 refine xalloc InfC.h rfl rfl fun b3 => ?_
 refine xreb 0 ((List.map ew ((Arr.rep 4 (0 : UInt64))).l).flatten) rfl rfl ?_
 refine nt_ ?_
 refine sr_ ?_
 refine mv_ ?_
 obtain ⟨h2, h⟩ := h
 obtain ⟨c3, h2r, h⟩ := h
 refine vp_ (pv_quoW h2 h2r rfl rfl rfl) ?_
 refine mv_ ?_
 obtain ⟨h4, h⟩ := h
 obtain ⟨c5, h4r, h⟩ := h
 refine vp_ (pv_remW h4 h4r rfl rfl rfl) ?_
 obtain ⟨h6, h⟩ := h
 obtain ⟨c7, h6r, h⟩ := h
 refine vp_ (pv_shlW h6 h6r rfl rfl) ?_
 obtain ⟨h8, h⟩ := h
 obtain ⟨y9, h8b, h⟩ := h
 refine vp_ (pv_indexAddrBA h8 UndC.h ShpC.h rfl rfl) ?_
 refine xstoreA (f := ew) (a := (Arr.rep 4 (0 : UInt64))) (k := 1) (off := 0) (i := ((c3.toNat : Int) : Int).toNat) 0 [] [] c7 h8b sq_ so_ (by decide) ShpC.h rfl rfl rfl rfl sl_ rfl rfl ?_
 refine xreb 0 ((List.map ew ((Arr.set ((Arr.rep 4 (0 : UInt64))) ((c3.toNat : Int) : Int).toNat c7)).l).flatten) rfl sq_ ?_
 refine nt_ ?_
 refine sr_ ?_
 refine v_ (qv_loadP 0 [] ((List.map ew ((Arr.set ((Arr.rep 4 (0 : UInt64))) ((c3.toNat : Int) : Int).toNat c7)).l).flatten) [] sq_ sl_ sl_ (part_all (seg_lenE (by rfl))) ShpC.h rfl rfl) ?_
 refine xstoreQ 1 [] ((List.map ew ((Arr.rep 4 (0 : UInt64))).l).flatten) [] ((List.map ew ((Arr.set ((Arr.rep 4 (0 : UInt64))) ((c3.toNat : Int) : Int).toNat c7)).l).flatten) ShpC.h rfl rfl rfl rfl rfl ?_
 refine nt_ ?_
 refine xretc ?_
 replace h := h.symm
 subst h
 exact xretL (rs := [.cell 2 43]) (ss := [.agg ((List.map ew ((Arr.set ((Arr.rep 4 (0 : UInt64))) ((c3.toNat : Int) : Int).toNat c7)).l).flatten)]) hg rfl (by refine RetL.cell 1 ShpC.h rfl rfl (part_midE (pre := []) (mid := ((List.map ew ((Arr.set ((Arr.rep 4 (0 : UInt64))) ((c3.toNat : Int) : Int).toNat c7)).l).flatten)) (post := []) sq_ sl_ sl_ (part_all (seg_lenE (by rfl)))) (len_midE (pre := []) (mid := ((List.map ew ((Arr.set ((Arr.rep 4 (0 : UInt64))) ((c3.toNat : Int) : Int).toNat c7)).l).flatten)) (post := []) sq_ sl_ sl_) wk_ ?_; exact RetL.nil) (SubM.of (.nil _) (.nil _)) ⟨rfl, rfl, rfl⟩
/-- (*find.walk).all -/
def find_walk_all_R (o1 : ((List (Int × Int × Int × Int × Int × Int × (Arr 4 (UInt64)))) × Int) × (List UInt8) × Int × Int) (r : Unit) : Prop :=
 r = ()
def find_walk_all_ev (fuel : Nat) (o1 : ((List (Int × Int × Int × Int × Int × Int × (Arr 4 (UInt64)))) × Int) × (List UInt8) × Int × Int) : Option (Unit) :=
 some ()
theorem find_walk_all_ok {fuel : Nat} {o1 : ((List (Int × Int × Int × Int × Int × Int × (Arr 4 (UInt64)))) × Int) × (List UInt8) × Int × Int} {r : Unit} (h : find_walk_all_ev fuel o1 = some r) : find_walk_all_R o1 r := by
 unfold find_walk_all_ev at h
 unfold find_walk_all_R
 exact (Option.some.inj h).symm
set_option maxHeartbeats 4000000 in
theorem find_walk_all_con (o1 : ((List (Int × Int × Int × Int × Int × Int × (Arr 4 (UInt64)))) × Int) × (List UInt8) × Int × Int) (bx0 : Nat) (r : Unit) (h : find_walk_all_R o1 r) : Con Try.prog 10 [.v (.pointer (some ⟨bx0, 0, none⟩))] [⟨bx0, 50, [.sl 10 none (List.map E_palinode_api_Node o1.1.1), .v (.int .i64 o1.1.2), .sl 1 none (List.map eb o1.2.1), .v (.int .i64 o1.2.2.1), .v (.int .i64 o1.2.2.2)]⟩] [] (fun rr bx tk => ∃ b1 : Nat, rr = .v (.func (.func 14) #[] #[.pointer (some ⟨b1, 0, none⟩)]) ∧ bx = [⟨b1, 48, [.v (.pointer (some ⟨bx0, 0, none⟩))]⟩, ⟨bx0, 50, [.sl 10 none (List.map E_palinode_api_Node o1.1.1), .v (.int .i64 o1.1.2), .sl 1 none (List.map eb o1.2.1), .v (.int .i64 o1.2.2.1), .v (.int .i64 o1.2.2.2)]⟩] ∧ tk = []) := by
 refine xenter Try.func10 rfl rfl fun g hg => ?_
 simp only [Try.ntmps10, slots]
 refine sr_ ?_
 refine xbox rfl rfl rfl rfl fun b1 => ?_
 refine as_ ?_
 refine nt_ ?_
 refine sr_ ?_
 refine vp_ (pv_makeFuncC rfl) ?_
 refine as_ ?_
 refine nt_ ?_
 refine xretc ?_
 replace h := h.symm
 subst h
 exact xret1 hg rfl rfl (.refl _) (SubM.of (.keep rfl rfl (.refl _) (.keep rfl rfl (.refl _) (.nil _))) (.nil _)) ⟨b1, rfl, rfl, rfl⟩
/-- find.All -/
def find_All_y1_R (o10001 : List ((Arr 10 (Int × Int)))) (x10003 : (Arr 10 (Int × Int))) (r : (List ((Arr 10 (Int × Int))))) : Prop :=
 Room (o10001.length + ([x10003]).length) 160 ∧ r = (o10001 ++ [x10003])
def find_All_y1_Y (yx0 : Nat) (L : Lp) : Prop := ∀ (o10001 : List ((Arr 10 (Int × Int)))) (x10003 : (Arr 10 (Int × Int))) (ia10002 : Option (Nat × Nat)) (r : (List ((Arr 10 (Int × Int))))), find_All_y1_R o10001 x10003 r → YCon Try.prog L [.agg ((List.map E_palinode_api_Span x10003.l).flatten)] [⟨yx0, 28, [.sl 20 (some ia10002) (List.map E_palinode_api_Hit o10001)]⟩] [⟨ia10002, 36, 20, o10001.length⟩] (fun j bx tk => ∃ j1 : Option (Nat × Nat), j = jmp .ret true ∧ bx = [⟨yx0, 28, [.sl 20 (some j1) (List.map E_palinode_api_Hit r)]⟩] ∧ tk = [⟨j1, 36, 20, r.length⟩])
def find_All_y1_ev (fuel : Nat) (o10001 : List ((Arr 10 (Int × Int)))) (x10003 : (Arr 10 (Int × Int))) : Option ((List ((Arr 10 (Int × Int))))) :=
 (if Room (o10001.length + ([x10003]).length) 160 then some (o10001 ++ [x10003]) else none)
theorem find_All_y1_ok {fuel : Nat} {o10001 : List ((Arr 10 (Int × Int)))} {x10003 : (Arr 10 (Int × Int))} {r : (List ((Arr 10 (Int × Int))))} (h : find_All_y1_ev fuel o10001 x10003 = some r) : find_All_y1_R o10001 x10003 r := by
 unfold find_All_y1_ev at h
 unfold find_All_y1_R
 obtain ⟨g55, h⟩ := if_ok h
 refine ⟨g55, ?_⟩
 exact (Option.some.inj h).symm
end Go.Proofs.Ytnjnbegjhklcgaa
