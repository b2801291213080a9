/- What functions' texts ask for, and the walks that show it (printed by a program). -/
import Derived.Test.YtljlaggehilpfaaGKp1
namespace Go.Proofs.Ytljlaggehilpfaa
/-- palinodelaw03.all -/
def palinodelaw03_all_l1 (l2 : List (List UInt8)) (ag1 : ((List UInt8) × Int) → Prop) (out53 : List UInt8) (iv55 : Int) (r : (List UInt8)) : Prop :=
  ((iv55 < (l2.length : Int) → 0 ≤ (iv55 : Int) ∧ ∃ y73 : List UInt8, l2[(iv55 : Int).toNat]? = some y73 ∧ Room (out53.length + y73.length) 1 ∧ InR (iv55 + 1) ∧ ag1 ((out53 ++ y73), (iv55 + 1))) ∧ (¬ (iv55 < (l2.length : Int)) → r = out53))
def palinodelaw03_all_R (front1 : List UInt8) (l2 : List (List UInt8)) (r : (List UInt8)) : Prop :=
  ∃ y4 : (List UInt8), palinoderef01_Copy_R front1 y4 ∧ LoopR (fun ag1 s => palinodelaw03_all_l1 l2 ag1 s.1 s.2 r) (y4, 0)
def palinodelaw03_all_l1_ev (fuel : Nat) (l2 : List (List UInt8)) (ag1e : ((List UInt8) × Int) → Option ((List UInt8))) (out53 : List UInt8) (iv55 : Int) : Option ((List UInt8)) :=
  (if iv55 < (l2.length : Int) then (if 0 ≤ (iv55 : Int) then ((l2[(iv55 : Int).toNat]?).bind fun y73 => (if Room (out53.length + y73.length) 1 then (if InR (iv55 + 1) then ag1e ((out53 ++ y73), (iv55 + 1)) else none) else none)) else none) else some out53)
theorem palinodelaw03_all_l1_ok {fuel : Nat} {l2 : List (List UInt8)} {ag1e : ((List UInt8) × Int) → Option ((List UInt8))} {ag1 : ((List UInt8) × Int) → Prop} {out53 : List UInt8} {iv55 : Int} {r : (List UInt8)} (hagag1 : ∀ s, ag1e s = some r → ag1 s) (h : palinodelaw03_all_l1_ev fuel l2 ag1e out53 iv55 = some r) : palinodelaw03_all_l1 l2 ag1 out53 iv55 r := by
  unfold palinodelaw03_all_l1_ev at h
  unfold palinodelaw03_all_l1
  refine ⟨fun g206 => ?_, fun g206 => ?_⟩
  · rw [if_pos g206] at h
    obtain ⟨g207, h⟩ := if_ok h
    refine ⟨g207, ?_⟩
    obtain ⟨q208, g208, h⟩ := bind_ok h
    refine ⟨q208, g208, ?_⟩
    obtain ⟨g209, h⟩ := if_ok h
    refine ⟨g209, ?_⟩
    obtain ⟨g210, h⟩ := if_ok h
    refine ⟨g210, ?_⟩
    exact hagag1 _ h
  · rw [if_neg g206] at h
    exact (Option.some.inj h).symm
def palinodelaw03_all_ev (fuel : Nat) (front1 : List UInt8) (l2 : List (List UInt8)) : Option ((List UInt8)) :=
  ((palinoderef01_Copy_ev fuel front1).bind fun y4 => (loopE (fun ag1e s => palinodelaw03_all_l1_ev fuel l2 ag1e s.1 s.2) fuel (y4, 0)))
theorem palinodelaw03_all_ok {fuel : Nat} {front1 : List UInt8} {l2 : List (List UInt8)} {r : (List UInt8)} (h : palinodelaw03_all_ev fuel front1 l2 = some r) : palinodelaw03_all_R front1 l2 r := by
  unfold palinodelaw03_all_ev at h
  unfold palinodelaw03_all_R
  obtain ⟨q211, g211, h⟩ := bind_ok h
  refine ⟨q211, palinoderef01_Copy_ok g211, ?_⟩
  refine loopE_ok ?_ h
  intro ae ag s hag h
  exact palinodelaw03_all_l1_ok hag h
set_option maxHeartbeats 4000000 in
theorem palinodelaw03_all_con (front1 : List UInt8) (l2 : List (List UInt8)) (r : (List UInt8)) (h : palinodelaw03_all_R front1 l2 r) : Con Try.prog 17 [.sl 1 none (List.map eb front1), .sl 1 none (List.map E_uint8 l2)] [] [] (RetM 1 5 eb r) := by
  refine xenter Try.func17 rfl rfl fun g hg => ?_
  simp only [Try.ntmps17, slots]
  refine xseq ?_
  refine xregion ?_
  refine xvalP (pv_assign rfl) rfl rfl ?_
  refine xnil ?_
  refine xthen ?_
  refine xseq ?_
  refine xregion ?_
  refine xvalP (pv_move rfl) rfl rfl ?_
  obtain ⟨y4, h3, h⟩ := h
  refine xcallM (palinoderef01_Copy_con front1 _ h3) Try.func31 (by kernel_rfl) rfl (.cons rfl (.refl _) .nil) rfl rfl fun i5 => ?_
  refine xvalP (pv_assign rfl) rfl rfl ?_
  refine xnil ?_
  refine xthen ?_
  refine xseq ?_
  refine xseq ?_
  refine xregion ?_
  refine xvalP (pv_assign rfl) rfl rfl ?_
  refine xnil ?_
  refine xthen ?_
  refine xblock ?_
  obtain ⟨Inv, ⟨m0, hI⟩, hS⟩ := h
  refine xloop (fun σ m => ∃ (out53 : List UInt8), ∃ (iv55 : Int), ∃ (i54 : Option (Nat × Nat)), Inv (out53, iv55) m ∧ σ = ⟨[(1, .sl 1 none (List.map E_uint8 l2)), (5, .sl 1 (some i54) (List.map eb out53)), (6, .v (.int .i64 iv55))], [], [⟨i54, 5, 1, out53.length⟩]⟩) ⟨y4, 0, i5, hI, rfl⟩ ⟨(.cons rfl (.refl _) (.cons rfl (.refl _) (.cons rfl (.refl _) (.nil _)))), (SubM.of (.nil _) (.keep rfl (.nil _)))⟩ ?_
  rintro _ m ⟨out53, iv55, i54, hI, rfl⟩
  obtain ⟨ag1, hag1, h⟩ : ∃ ag, (∀ s', ag s' → ∃ m', m' < m ∧ Inv s' m') ∧ palinodelaw03_all_l1 l2 ag out53 iv55 r := ⟨_, fun _ h => h, hS (out53, iv55) _ hI⟩
  clear hS hI
  refine xseq ?_
  refine xseq ?_
  refine xregion ?_
  refine xvalP (pv_move rfl) rfl rfl ?_
  refine xvalP (pv_move rfl) rfl rfl ?_
  refine xvalP (pv_lenM UndC.h rfl) rfl rfl ?_
  refine xvalP (pv_bin2 rfl rfl rfl) rfl rfl ?_
  refine xnil ?_
  refine xthen ?_
  by_cases hp72 : iv55 < (l2.length : Int)
  · replace h := h.1 hp72
    refine xcondT' (decide_eq_true hp72) rfl ?_
    refine xskipc ?_
    refine xthen ?_
    refine xseq ?_
    refine xblock ?_
    refine xregion ?_
    refine xvalP (pv_move rfl) rfl rfl ?_
    refine xvalP (pv_move rfl) rfl rfl ?_
    refine xvalP (pv_move rfl) rfl rfl ?_
    obtain ⟨h74a, h⟩ := h
    obtain ⟨y73, h74b, h⟩ := h
    refine xvalP (pv_indexAddrM h74a h74b UndC.h ShpC.h rfl rfl) rfl rfl ?_
    refine xval (qv_load ShpC.h rfl rfl rfl) rfl rfl ?_
    obtain ⟨h75, h⟩ := h
    refine xappendM (l := out53) (l2 := y73) 0 h75 UndC.h InfC.h rfl rfl rfl (.refl _) rfl rfl rfl fun i76 => ?_
    refine xvalP (pv_assign rfl) rfl rfl ?_
    refine xnil ?_
    refine xin_normal ?_
    refine xthen ?_
    refine xregion ?_
    refine xvalP (pv_move rfl) rfl rfl ?_
    obtain ⟨h77, h⟩ := h
    refine xvalP (pv_addI h77 rfl rfl) rfl rfl ?_
    refine xvalP (pv_assign rfl) rfl rfl ?_
    refine xnil ?_
    obtain ⟨m', hm, hI⟩ := hag1 _ h
    exact xagain ⟨(out53 ++ y73), (iv55 + 1), i76, hI, rfl⟩ hm ⟨(.cons rfl (.refl _) (.cons rfl (.refl _) (.cons rfl (.refl _) (.nil _)))), (SubM.of (.nil _) (.keep rfl (.nil _)))⟩
  · replace h := h.2 hp72
    refine xcondF' (decide_eq_false hp72) rfl ?_
    refine xexit ?_
    refine xthen_exit ?_
    refine xthen_exit ?_
    refine xin_same rfl ?_
    refine xthen ?_
    refine xseq ?_
    refine xregion ?_
    refine xvalP (pv_move rfl) rfl rfl ?_
    refine xvalP (pv_assign rfl) rfl rfl ?_
    refine xnil ?_
    refine xthen ?_
    refine xretc ?_
    replace h := h.symm
    subst h
    exact xret1 hg rfl rfl (.refl _) (SubM.of (.nil _) (.keep rfl (.nil _))) ⟨i54, rfl, rfl, rfl⟩
/-- (*files.Table).Cut -/
def files_Table_Cut_R (l1 : List (ByteArray × (List UInt8))) (name3 : ByteArray) (nv4 : Int) (r : Int × (List (ByteArray × (List UInt8)))) : Prop :=
  ∃ y6 : Int, files_Table_at_R l1 name3 y6 ∧ ((y6 < 0 → r = (6, l1)) ∧ (¬ (y6 < 0) → ((nv4 < 0 → r = (3, l1)) ∧ (¬ (nv4 < 0) → 0 ≤ (y6 : Int) ∧ ∃ y32 : ByteArray × (List UInt8), l1[(y6 : Int).toNat]? = some y32 ∧ (((y32.2.length : Int) < nv4 → r = (3, l1)) ∧ (¬ ((y32.2.length : Int) < nv4) → 0 ≤ (y6 : Int) ∧ ∃ y48 : ByteArray × (List UInt8), l1[(y6 : Int).toNat]? = some y48 ∧ (0 ≤ (nv4 : Int) ∧ (nv4 : Int) ≤ (y48.2.length : Int)) ∧ ∃ y52 : (List UInt8), slices_Clone_R (y48.2.take (nv4 : Int).toNat) y52 ∧ 0 ≤ (y6 : Int) ∧ ∃ y54 : ByteArray × (List UInt8), l1[(y6 : Int).toNat]? = some y54 ∧ r = (0, (l1.set (y6 : Int).toNat (y54.1, y52)))))))))
def files_Table_Cut_ev (fuel : Nat) (l1 : List (ByteArray × (List UInt8))) (name3 : ByteArray) (nv4 : Int) : Option (Int × (List (ByteArray × (List UInt8)))) :=
  ((files_Table_at_ev fuel l1 name3).bind fun y6 => (if y6 < 0 then some (6, l1) else (if nv4 < 0 then some (3, l1) else (if 0 ≤ (y6 : Int) then ((l1[(y6 : Int).toNat]?).bind fun y32 => (if (y32.2.length : Int) < nv4 then some (3, l1) else (if 0 ≤ (y6 : Int) then ((l1[(y6 : Int).toNat]?).bind fun y48 => (if (0 ≤ (nv4 : Int) ∧ (nv4 : Int) ≤ (y48.2.length : Int)) then ((slices_Clone_ev fuel (y48.2.take (nv4 : Int).toNat)).bind fun y52 => (if 0 ≤ (y6 : Int) then ((l1[(y6 : Int).toNat]?).bind fun y54 => some (0, (l1.set (y6 : Int).toNat (y54.1, y52)))) else none)) else none)) else none))) else none))))
theorem files_Table_Cut_ok {fuel : Nat} {l1 : List (ByteArray × (List UInt8))} {name3 : ByteArray} {nv4 : Int} {r : Int × (List (ByteArray × (List UInt8)))} (h : files_Table_Cut_ev fuel l1 name3 nv4 = some r) : files_Table_Cut_R l1 name3 nv4 r := by
  unfold files_Table_Cut_ev at h
  unfold files_Table_Cut_R
  obtain ⟨q212, g212, h⟩ := bind_ok h
  refine ⟨q212, files_Table_at_ok g212, ?_⟩
  refine ⟨fun g213 => ?_, fun g213 => ?_⟩
  · rw [if_pos g213] at h
    exact (Option.some.inj h).symm
  · rw [if_neg g213] at h
    refine ⟨fun g214 => ?_, fun g214 => ?_⟩
    · rw [if_pos g214] at h
      exact (Option.some.inj h).symm
    · rw [if_neg g214] at h
      obtain ⟨g215, h⟩ := if_ok h
      refine ⟨g215, ?_⟩
      obtain ⟨q216, g216, h⟩ := bind_ok h
      refine ⟨q216, g216, ?_⟩
      refine ⟨fun g217 => ?_, fun g217 => ?_⟩
      · rw [if_pos g217] at h
        exact (Option.some.inj h).symm
      · rw [if_neg g217] at h
        obtain ⟨g218, h⟩ := if_ok h
        refine ⟨g218, ?_⟩
        obtain ⟨q219, g219, h⟩ := bind_ok h
        refine ⟨q219, g219, ?_⟩
        obtain ⟨g220, h⟩ := if_ok h
        refine ⟨g220, ?_⟩
        obtain ⟨q221, g221, h⟩ := bind_ok h
        refine ⟨q221, slices_Clone_ok g221, ?_⟩
        obtain ⟨g222, h⟩ := if_ok h
        refine ⟨g222, ?_⟩
        obtain ⟨q223, g223, h⟩ := bind_ok h
        refine ⟨q223, g223, ?_⟩
        exact (Option.some.inj h).symm
set_option maxHeartbeats 4000000 in
theorem files_Table_Cut_con (l1 : List (ByteArray × (List UInt8))) (name3 : ByteArray) (nv4 : Int) (bx0 : Nat) (ia2 : Option (Nat × Nat)) (r : Int × (List (ByteArray × (List UInt8)))) (h : files_Table_Cut_R l1 name3 nv4 r) : Con Try.prog 18 [.v (.pointer (some ⟨bx0, 0, none⟩)), .v (.string name3), .v (.int .i64 nv4)] [⟨bx0, 60, [.rb ia2 l1.length]⟩, rbx ia2 30 2 (List.map E_palinode_api_File l1)] [] (fun rr bx tk => ∃ j1, rr = .v (.int .i64 r.1) ∧ bx = [rbx j1 30 2 (List.map E_palinode_api_File r.2), ⟨bx0, 60, [.rb j1 r.2.length]⟩] ∧ tk = []) := by
  refine xenter Try.func18 rfl rfl fun g hg => ?_
  simp only [Try.ntmps18, slots]
  refine xseq ?_
  refine xregion ?_
  refine xvalP (pv_assign rfl) rfl rfl ?_
  refine xnil ?_
  refine xthen ?_
  refine xseq ?_
  refine xregion ?_
  refine xvalP (pv_move rfl) rfl rfl ?_
  refine xvalP (pv_move rfl) rfl rfl ?_
  obtain ⟨y6, h5, h⟩ := h
  refine xcallF (Fb := []) (Ft := []) (files_Table_at_con l1 name3 bx0 ia2 _ h5) Try.func29 (by kernel_rfl) rfl (.cons rfl (.refl _) (.cons rfl (.refl _) .nil)) (by exact (SubM.of (by repeat (first | with_reducible exact SubB.refl _ | exact SubB.nil _ | refine SubB.keep rfl rfl (by first | with_reducible exact WkL.refl _ | ((repeat (first | exact WkL.nil | refine WkL.cons (by first | with_reducible exact Wk.refl _ | exact Wk.nil_own _ | exact Wk.nil_pl _ | with_reducible exact Wk.tok _ _ _ | exact Wk.tok _ _ _ | exact Wk.eq (by first | rfl | (simp []; done) | (simp []; omega))) ?_)); done) | exact WkL.refl _) ?_ | refine SubB.drop ?_)) (by repeat (first | exact SubT.nil _ | refine SubT.add ?_ | (refine SubT.keep ?_ ?_; focus (first | with_reducible rfl | (simp []; done))) | refine SubT.drop ?_)))) rfl rfl ?_
  rintro _ _ _ ⟨rfl, rfl, rfl⟩
  simp only [List.nil_append, List.cons_append]
  refine xvalP (pv_assign rfl) rfl rfl ?_
  refine xnil ?_
  refine xthen ?_
  refine xseq ?_
  refine xblock ?_
  refine xseq ?_
  refine xregion ?_
  refine xvalP (pv_move rfl) rfl rfl ?_
  refine xvalP (pv_bin2 rfl rfl rfl) rfl rfl ?_
  refine xvalP (pv_assign rfl) rfl rfl ?_
  refine xnil ?_
  refine xthen ?_
  by_cases hp23 : y6 < 0
  · replace h := h.1 hp23
    refine xcondT' (decide_eq_true hp23) rfl ?_
    refine xseq ?_
    refine xregion ?_
    refine xvalP (pv_assign rfl) rfl rfl ?_
    refine xnil ?_
    refine xthen ?_
    refine xretc ?_
    refine xin_ret ?_
    refine xthen_ret ?_
    replace h := h.symm
    subst h
    exact xret1 (bx' := [rbx ia2 30 2 (List.map E_palinode_api_File l1), ⟨bx0, 60, [.rb ia2 l1.length]⟩]) (tk' := []) hg rfl rfl (.refl _) (SubM.of (.keep rfl rfl (.refl _) (.keep rfl rfl (.cons (.eq (by first | rfl | simp)) .nil) (.nil _))) (.nil _)) ⟨ia2, rfl, rfl, rfl⟩
  · replace h := h.2 hp23
    refine xcondF' (decide_eq_false hp23) rfl ?_
    refine xseq ?_
    refine xregion ?_
    refine xvalP (pv_move rfl) rfl rfl ?_
    refine xvalP (pv_bin2 rfl rfl rfl) rfl rfl ?_
    refine xvalP (pv_move rfl) rfl rfl ?_
    by_cases hp31 : nv4 < 0
    · replace h := h.1 hp31
      refine xsetB 17 (decide_eq_true hp31) rfl ?_
      refine xskip rfl rfl ?_
      refine xskip rfl rfl ?_
      refine xskip rfl rfl ?_
      refine xskip rfl rfl ?_
      refine xskip rfl rfl ?_
      refine xskip rfl rfl ?_
      refine xskip rfl rfl ?_
      refine xskip rfl rfl ?_
      refine xskip rfl rfl ?_
      refine xskip rfl rfl ?_
      refine xskip rfl rfl ?_
      refine xvalP (pv_pick rfl rfl) rfl rfl ?_
      refine xvalP (pv_assign rfl) rfl rfl ?_
      refine xnil ?_
      refine xthen ?_
      refine xcondT rfl ?_
      refine xseq ?_
      refine xregion ?_
      refine xvalP (pv_assign rfl) rfl rfl ?_
      refine xnil ?_
      refine xthen ?_
      refine xretc ?_
      refine xin_ret ?_
      refine xthen_ret ?_
      replace h := h.symm
      subst h
      exact xret1 (bx' := [rbx ia2 30 2 (List.map E_palinode_api_File l1), ⟨bx0, 60, [.rb ia2 l1.length]⟩]) (tk' := []) hg rfl rfl (.refl _) (SubM.of (.keep rfl rfl (.refl _) (.keep rfl rfl (.cons (.eq (by first | rfl | simp)) .nil) (.nil _))) (.nil _)) ⟨ia2, rfl, rfl, rfl⟩
    · replace h := h.2 hp31
      refine xsetB 17 (decide_eq_false hp31) rfl ?_
      refine xvalP (pv_move rfl) rfl rfl ?_
      refine xvalP (pv_move rfl) rfl rfl ?_
      refine xvalP (pv_nilCheck rfl) rfl rfl ?_
      refine xvalP (qv_fieldAddrB FldC.h rfl) rfl rfl ?_
      refine xval (qv_loadB 1 ShpC.h rfl rfl rfl rfl) rfl rfl ?_
      refine xvalP (pv_move rfl) rfl rfl ?_
      obtain ⟨h33a, h⟩ := h
      obtain ⟨y32, h33b, h⟩ := h
      refine xvalP (pv_indexAddrRbM rfl h33a h33b UndC.h ShpC.h rfl rfl) rfl rfl ?_
      refine xvalP (qv_fieldAddrB FldC.h rfl) rfl rfl ?_
      refine xval (qv_loadRb (f := E_palinode_api_File) (k := 2) (off := 1) (i := (y6 : Int).toNat) 0 h33b rfl (by decide) rfl ShpC.h rfl rfl) rfl rfl ?_
      refine xvalP (pv_lenM UndC.h rfl) rfl rfl ?_
      refine xvalP (pv_bin2 rfl rfl rfl) rfl rfl ?_
      refine xvalP (pv_pick rfl rfl) rfl rfl ?_
      refine xvalP (pv_assign rfl) rfl rfl ?_
      refine xnil ?_
      refine xthen ?_
      by_cases hp36 : (y32.2.length : Int) < nv4
      · replace h := h.1 hp36
        refine xcondT' (decide_eq_true hp36) rfl ?_
        refine xseq ?_
        refine xregion ?_
        refine xvalP (pv_assign rfl) rfl rfl ?_
        refine xnil ?_
        refine xthen ?_
        refine xretc ?_
        refine xin_ret ?_
        refine xthen_ret ?_
        replace h := h.symm
        subst h
        exact xret1 (bx' := [rbx ia2 30 2 (List.map E_palinode_api_File l1), ⟨bx0, 60, [.rb ia2 l1.length]⟩]) (tk' := []) hg rfl rfl (.refl _) (SubM.of (.keep rfl rfl (.refl _) (.keep rfl rfl (.cons (.eq (by first | rfl | simp)) .nil) (.nil _))) (.nil _)) ⟨ia2, rfl, rfl, rfl⟩
      · replace h := h.2 hp36
        refine xcondF' (decide_eq_false hp36) rfl ?_
        refine xskipc ?_
        refine xin_normal ?_
        refine xthen ?_
        refine xseq ?_
        refine xregionD (m := 19) (by kernel_rfl) rfl ?_
        obtain ⟨h49a, h⟩ := h
        obtain ⟨y48, h49b, h⟩ := h
        obtain ⟨h50, h⟩ := h
        obtain ⟨y52, h51, h⟩ := h
        obtain ⟨h55a, h⟩ := h
        obtain ⟨y54, h55b, h⟩ := h
        refine xpcut 1 #[true, true, true, true, true, true, true, true, true, true, true, true, true, true, true, true, true, true, false] (fun σ => ∃ (i57 : Option (Nat × Nat)), σ = ⟨[(45, .sl 1 (some i57) (List.map eb y52)), (47, .v (.pointer (some ⟨idb ia2, (y6 : Int).toNat * 2 + 1, none⟩)))], [rbx ia2 30 2 (List.map E_palinode_api_File l1), ⟨bx0, 60, [.rb ia2 l1.length]⟩], [⟨i57, 5, 1, y52.length⟩]⟩) ?_ (fun key58 => ?_)
        · rintro _ ⟨i57, rfl⟩
          refine xpstep (i := 18) (by kernel_rfl) rfl ?_
          refine wstoreRb (f := E_palinode_api_File) (k := 2) (off := 1) (i := (y6 : Int).toNat) 0 (y54.1, y52) h55b rfl (by decide) ShpC.h rfl rfl rfl rfl (by first | rfl | exact seg_lenE (by rfl) | exact len_app rfl (seg_lenE (by rfl)) (by rfl) | exact len_app (seg_lenE (by rfl)) rfl (by rfl) | exact len_app rfl (len_app (seg_lenE (by rfl)) rfl (by rfl)) (by rfl) | (simp only [seg_len, cellsS, List.length_append, List.length_cons, List.length_nil]; done) | (simp only [seg_len, cellsS, List.length_append, List.length_cons, List.length_nil]; rfl)) (.cons (.refl _) (.cons (.tok _ _ _) .nil)) rfl ?_
          refine xpdone (by kernel_rfl) ?_
          refine xthen ?_
          refine xseq ?_
          refine xregion ?_
          refine xvalP (pv_assign rfl) rfl rfl ?_
          refine xnil ?_
          refine xthen ?_
          refine xretc ?_
          replace h := h.symm
          subst h
          exact xret1 (bx' := [rbx ia2 30 2 (List.map E_palinode_api_File ((l1.set (y6 : Int).toNat (y54.1, y52)))), ⟨bx0, 60, [.rb ia2 (((l1.set (y6 : Int).toNat (y54.1, y52))).length)]⟩]) (tk' := []) hg rfl rfl (.refl _) (SubM.of (.keep rfl rfl (.refl _) (.keep rfl rfl (.cons (.eq (by first | rfl | simp)) .nil) (.nil _))) (.nil _)) ⟨ia2, rfl, rfl, rfl⟩
        refine xpval 0 rfl (pv_move rfl) rfl rfl (by kernel_rfl) (by kernel_rfl) (by kernel_rfl) (fun _ _ _ _ h => h) ?_
        refine xpval 1 rfl (pv_nilCheck rfl) rfl rfl (by kernel_rfl) (by kernel_rfl) (by kernel_rfl) (fun _ _ _ _ h => h) ?_
        refine xpval 2 rfl (qv_fieldAddrB FldC.h rfl) rfl rfl (by kernel_rfl) (by kernel_rfl) (by kernel_rfl) (fun _ _ _ _ h => h) ?_
        refine xpval 4 rfl (pv_move rfl) rfl rfl (by kernel_rfl) (by kernel_rfl) (by kernel_rfl) (fun _ _ _ _ h => h) ?_
        refine xpval 5 rfl (pv_move rfl) rfl rfl (by kernel_rfl) (by kernel_rfl) (by kernel_rfl) (fun _ _ _ _ h => h) ?_
        refine xpval 6 rfl (pv_nilCheck rfl) rfl rfl (by kernel_rfl) (by kernel_rfl) (by kernel_rfl) (fun _ _ _ _ h => h) ?_
        refine xpval 7 rfl (qv_fieldAddrB FldC.h rfl) rfl rfl (by kernel_rfl) (by kernel_rfl) (by kernel_rfl) (fun _ _ _ _ h => h) ?_
        refine xpval 9 rfl (pv_move rfl) rfl rfl (by kernel_rfl) (by kernel_rfl) (by kernel_rfl) (fun _ _ _ _ h => h) ?_
        refine xpval 13 rfl (pv_move rfl) rfl rfl (by kernel_rfl) (by kernel_rfl) (by kernel_rfl) (fun _ _ _ _ h => h) ?_
        refine xpvalE 8 [3] rfl (qv_loadB 1 ShpC.h rfl rfl rfl rfl) rfl rfl (by kernel_rfl) (by kernel_rfl) (by kernel_rfl) (fun _ _ _ _ h => h) ?_
        refine xpval 10 rfl (pv_indexAddrRbM rfl h49a h49b UndC.h ShpC.h rfl rfl) rfl rfl (by kernel_rfl) (by kernel_rfl) (by kernel_rfl) (fun _ _ _ _ h => h) ?_
        refine xpval 11 rfl (qv_fieldAddrB FldC.h rfl) rfl rfl (by kernel_rfl) (by kernel_rfl) (by kernel_rfl) (fun _ _ _ _ h => h) ?_
        refine xpvalE 12 [3] rfl (qv_loadRb (f := E_palinode_api_File) (k := 2) (off := 1) (i := (y6 : Int).toNat) 0 h49b rfl (by decide) rfl ShpC.h rfl rfl) rfl rfl (by kernel_rfl) (by kernel_rfl) (by kernel_rfl) (fun _ _ _ _ h => h) ?_
        refine xpval 14 rfl (pv_sliceHi h50 UndC.h ShpC.h rfl rfl) rfl rfl (by kernel_rfl) (by kernel_rfl) (by kernel_rfl) (fun _ _ _ _ h => h) ?_
        refine xpstepN (is := [3, 15]) (by kernel_rfl) (by simp) ?_
        intro i hi; simp only [List.mem_cons, List.not_mem_nil, or_false] at hi; rcases hi with rfl | rfl
        · refine ⟨_, rfl, ?_⟩
          refine wval (qv_loadB 1 ShpC.h rfl rfl rfl rfl) rfl rfl ?_
          refine xpstep (i := 15) (by kernel_rfl) rfl ?_
          refine wcallM (slices_Clone_con (y48.2.take (nv4 : Int).toNat) _ h51) Try.func30 (by kernel_rfl) rfl (.cons rfl (.refl _) .nil) rfl rfl fun i53 => ?_
          refine xpval 16 rfl (pv_indexAddrRbM rfl h55a h55b UndC.h ShpC.h rfl rfl) rfl rfl (by kernel_rfl) (by kernel_rfl) (by kernel_rfl) (fun _ _ _ _ h => h) ?_
          refine xpval 17 rfl (qv_fieldAddrB FldC.h rfl) rfl rfl (by kernel_rfl) (by kernel_rfl) (by kernel_rfl) (fun _ _ _ _ h => h) ?_
          exact xpuse key58 ⟨i53, rfl⟩ ⟨(.cons rfl (.refl _) (.cons rfl (.refl _) (.nil _))), by exact (SubM.of (.keep rfl rfl (.refl _) (.keep rfl rfl (.cons (.eq (by first | rfl | simp)) .nil) (.nil _))) (.keep rfl (.nil _)))⟩ rfl (by kernel_rfl)
        · refine ⟨_, rfl, ?_⟩
          refine wcallM (slices_Clone_con (y48.2.take (nv4 : Int).toNat) _ h51) Try.func30 (by kernel_rfl) rfl (.cons rfl (.refl _) .nil) rfl rfl fun i53 => ?_
          refine xpvalE 3 [] rfl (qv_loadB 1 ShpC.h rfl rfl rfl rfl) rfl rfl (by kernel_rfl) (by kernel_rfl) (by kernel_rfl) (fun _ _ _ _ h => h) ?_
          refine xpval 16 rfl (pv_indexAddrRbM rfl h55a h55b UndC.h ShpC.h rfl rfl) rfl rfl (by kernel_rfl) (by kernel_rfl) (by kernel_rfl) (fun _ _ _ _ h => h) ?_
          refine xpval 17 rfl (qv_fieldAddrB FldC.h rfl) rfl rfl (by kernel_rfl) (by kernel_rfl) (by kernel_rfl) (fun _ _ _ _ h => h) ?_
          exact xpuse key58 ⟨i53, rfl⟩ ⟨(.cons rfl (.refl _) (.cons rfl (.refl _) (.nil _))), by exact (SubM.of (.keep rfl rfl (.refl _) (.keep rfl rfl (.cons (.eq (by first | rfl | simp)) .nil) (.nil _))) (.keep rfl (.nil _)))⟩ rfl (by kernel_rfl)
/-- palinoderef01.Same -/
def palinoderef01_Same_l1 (a1 : List UInt8) (bv2 : List UInt8) (ag1 : (Int) → Prop) (iv128 : Int) (r : Bool) : Prop :=
  ((iv128 < (a1.length : Int) → 0 ≤ (iv128 : Int) ∧ ∃ y180 : UInt8, a1[(iv128 : Int).toNat]? = some y180 ∧ 0 ≤ (iv128 : Int) ∧ ∃ y182 : UInt8, bv2[(iv128 : Int).toNat]? = some y182 ∧ ((¬ ((y180.toNat : Int) = (y182.toNat : Int)) → r = false) ∧ (¬ (¬ ((y180.toNat : Int) = (y182.toNat : Int))) → InR (iv128 + 1) ∧ ag1 (iv128 + 1)))) ∧ (¬ (iv128 < (a1.length : Int)) → r = true))
def palinoderef01_Same_R (a1 : List UInt8) (bv2 : List UInt8) (r : Bool) : Prop :=
  ((¬ ((a1.length : Int) = (bv2.length : Int)) → r = false) ∧ (¬ (¬ ((a1.length : Int) = (bv2.length : Int))) → LoopR (fun ag1 s => palinoderef01_Same_l1 a1 bv2 ag1 s r) 0))
def palinoderef01_Same_l1_ev (fuel : Nat) (a1 : List UInt8) (bv2 : List UInt8) (ag1e : (Int) → Option (Bool)) (iv128 : Int) : Option (Bool) :=
  (if iv128 < (a1.length : Int) then (if 0 ≤ (iv128 : Int) then ((a1[(iv128 : Int).toNat]?).bind fun y180 => (if 0 ≤ (iv128 : Int) then ((bv2[(iv128 : Int).toNat]?).bind fun y182 => (if ¬ ((y180.toNat : Int) = (y182.toNat : Int)) then some false else (if InR (iv128 + 1) then ag1e (iv128 + 1) else none))) else none)) else none) else some true)
theorem palinoderef01_Same_l1_ok {fuel : Nat} {a1 : List UInt8} {bv2 : List UInt8} {ag1e : (Int) → Option (Bool)} {ag1 : (Int) → Prop} {iv128 : Int} {r : Bool} (hagag1 : ∀ s, ag1e s = some r → ag1 s) (h : palinoderef01_Same_l1_ev fuel a1 bv2 ag1e iv128 = some r) : palinoderef01_Same_l1 a1 bv2 ag1 iv128 r := by
  unfold palinoderef01_Same_l1_ev at h
  unfold palinoderef01_Same_l1
  refine ⟨fun g224 => ?_, fun g224 => ?_⟩
  · rw [if_pos g224] at h
    obtain ⟨g225, h⟩ := if_ok h
    refine ⟨g225, ?_⟩
    obtain ⟨q226, g226, h⟩ := bind_ok h
    refine ⟨q226, g226, ?_⟩
    obtain ⟨g227, h⟩ := if_ok h
    refine ⟨g227, ?_⟩
    obtain ⟨q228, g228, h⟩ := bind_ok h
    refine ⟨q228, g228, ?_⟩
    refine ⟨fun g229 => ?_, fun g229 => ?_⟩
    · rw [if_pos g229] at h
      exact (Option.some.inj h).symm
    · rw [if_neg g229] at h
      obtain ⟨g230, h⟩ := if_ok h
      refine ⟨g230, ?_⟩
      exact hagag1 _ h
  · rw [if_neg g224] at h
    exact (Option.some.inj h).symm
def palinoderef01_Same_ev (fuel : Nat) (a1 : List UInt8) (bv2 : List UInt8) : Option (Bool) :=
  (if ¬ ((a1.length : Int) = (bv2.length : Int)) then some false else (loopE (fun ag1e s => palinoderef01_Same_l1_ev fuel a1 bv2 ag1e s) fuel 0))
theorem palinoderef01_Same_ok {fuel : Nat} {a1 : List UInt8} {bv2 : List UInt8} {r : Bool} (h : palinoderef01_Same_ev fuel a1 bv2 = some r) : palinoderef01_Same_R a1 bv2 r := by
  unfold palinoderef01_Same_ev at h
  unfold palinoderef01_Same_R
  refine ⟨fun g231 => ?_, fun g231 => ?_⟩
  · rw [if_pos g231] at h
    exact (Option.some.inj h).symm
  · rw [if_neg g231] at h
    refine loopE_ok ?_ h
    intro ae ag s hag h
    exact palinoderef01_Same_l1_ok hag h
set_option maxHeartbeats 4000000 in
theorem palinoderef01_Same_con (a1 : List UInt8) (bv2 : List UInt8) (r : Bool) (h : palinoderef01_Same_R a1 bv2 r) : Con Try.prog 27 [.sl 1 none (List.map eb a1), .sl 1 none (List.map eb bv2)] [] [] (Ret (.v (.bool r))) := by
  refine xenter Try.func27 rfl rfl fun g hg => ?_
  simp only [Try.ntmps27, slots]
  refine xseq ?_
  refine xregion ?_
  refine xvalP (pv_assign rfl) rfl rfl ?_
  refine xnil ?_
  refine xthen ?_
  refine xseq ?_
  refine xseq ?_
  refine xregion ?_
  refine xvalP (pv_move rfl) rfl rfl ?_
  refine xvalP (pv_lenM UndC.h rfl) rfl rfl ?_
  refine xvalP (pv_move rfl) rfl rfl ?_
  refine xvalP (pv_lenM UndC.h rfl) rfl rfl ?_
  refine xvalP (pv_bin2 rfl rfl rfl) rfl rfl ?_
  refine xnil ?_
  refine xthen ?_
  by_cases hp10 : ¬ ((a1.length : Int) = (bv2.length : Int))
  · replace h := h.1 hp10
    refine xcondT' (not_t (decide_eq_false hp10)) rfl ?_
    refine xseq ?_
    refine xregion ?_
    refine xvalP (pv_assign rfl) rfl rfl ?_
    refine xnil ?_
    refine xthen ?_
    refine xretc ?_
    refine xthen_ret ?_
    replace h := h.symm
    subst h
    exact xret1 hg rfl rfl (.refl _) (SubM.of (.nil _) (.nil _)) ⟨rfl, rfl, rfl⟩
  · replace h := h.2 hp10
    refine xcondF' (not_f (decide_eq_true (Decidable.of_not_not hp10))) rfl ?_
    refine xskipc ?_
    refine xthen ?_
    refine xseq ?_
    refine xseq ?_
    refine xregion ?_
    refine xvalP (pv_assign rfl) rfl rfl ?_
    refine xnil ?_
    refine xthen ?_
    refine xblock ?_
    obtain ⟨Inv, ⟨m0, hI⟩, hS⟩ := h
    refine xloop (fun σ m => ∃ (iv128 : Int), Inv iv128 m ∧ σ = ⟨[(0, .sl 1 none (List.map eb a1)), (1, .sl 1 none (List.map eb bv2)), (5, .v (.int .i64 iv128))], [], []⟩) ⟨0, hI, rfl⟩ ⟨(.cons rfl (.refl _) (.cons rfl (.refl _) (.cons rfl (.refl _) (.nil _)))), (SubM.of (.nil _) (.nil _))⟩ ?_
    rintro _ m ⟨iv128, hI, rfl⟩
    obtain ⟨ag1, hag1, h⟩ : ∃ ag, (∀ s', ag s' → ∃ m', m' < m ∧ Inv s' m') ∧ palinoderef01_Same_l1 a1 bv2 ag iv128 r := ⟨_, fun _ h => h, hS iv128 _ hI⟩
    clear hS hI
    refine xseq ?_
    refine xseq ?_
    refine xregion ?_
    refine xvalP (pv_move rfl) rfl rfl ?_
    refine xvalP (pv_move rfl) rfl rfl ?_
    refine xvalP (pv_lenM UndC.h rfl) rfl rfl ?_
    refine xvalP (pv_bin2 rfl rfl rfl) rfl rfl ?_
    refine xnil ?_
    refine xthen ?_
    by_cases hp163 : iv128 < (a1.length : Int)
    · replace h := h.1 hp163
      refine xcondT' (decide_eq_true hp163) rfl ?_
      refine xskipc ?_
      refine xthen ?_
      refine xseq ?_
      refine xblock ?_
      refine xseq ?_
      refine xregionD (m := 9) (by kernel_rfl) rfl ?_
      obtain ⟨h181a, h⟩ := h
      obtain ⟨y180, h181b, h⟩ := h
      obtain ⟨h183a, h⟩ := h
      obtain ⟨y182, h183b, h⟩ := h
      refine xpval 0 rfl (pv_move rfl) rfl rfl (by kernel_rfl) (by kernel_rfl) (by kernel_rfl) (fun _ _ _ _ h => h) ?_
      refine xpval 1 rfl (pv_move rfl) rfl rfl (by kernel_rfl) (by kernel_rfl) (by kernel_rfl) (fun _ _ _ _ h => h) ?_
      refine xpval 2 rfl (pv_indexAddrM h181a h181b UndC.h ShpC.h rfl rfl) rfl rfl (by kernel_rfl) (by kernel_rfl) (by kernel_rfl) (fun _ _ _ _ h => h) ?_
      refine xpval 4 rfl (pv_move rfl) rfl rfl (by kernel_rfl) (by kernel_rfl) (by kernel_rfl) (fun _ _ _ _ h => h) ?_
      refine xpval 5 rfl (pv_move rfl) rfl rfl (by kernel_rfl) (by kernel_rfl) (by kernel_rfl) (fun _ _ _ _ h => h) ?_
      refine xpval 6 rfl (pv_indexAddrM h183a h183b UndC.h ShpC.h rfl rfl) rfl rfl (by kernel_rfl) (by kernel_rfl) (by kernel_rfl) (fun _ _ _ _ h => h) ?_
      refine xpvalE 3 [7] rfl (qv_load ShpC.h rfl rfl rfl) rfl rfl (by kernel_rfl) (by kernel_rfl) (by kernel_rfl) (fun _ _ _ _ h => h) ?_
      refine xpvalE 7 [] rfl (qv_load ShpC.h rfl rfl rfl) rfl rfl (by kernel_rfl) (by kernel_rfl) (by kernel_rfl) (fun _ _ _ _ h => h) ?_
      refine xpval 8 rfl (pv_bin2 rfl rfl rfl) rfl rfl (by kernel_rfl) (by kernel_rfl) (by kernel_rfl) (fun _ _ _ _ h => h) ?_
      refine xpdone (by kernel_rfl) ?_
      refine xthen ?_
      by_cases hp185 : ¬ ((y180.toNat : Int) = (y182.toNat : Int))
      · replace h := h.1 hp185
        refine xcondT' (not_t (decide_eq_false hp185)) rfl ?_
        refine xseq ?_
        refine xregion ?_
        refine xvalP (pv_assign rfl) rfl rfl ?_
        refine xnil ?_
        refine xthen ?_
        refine xretc ?_
        refine xin_ret ?_
        refine xthen_ret ?_
        refine xthen_ret ?_
        refine xin_ret ?_
        refine xthen_ret ?_
        replace h := h.symm
        subst h
        exact xret1 hg rfl rfl (.refl _) (SubM.of (.nil _) (.nil _)) ⟨rfl, rfl, rfl⟩
      · replace h := h.2 hp185
        refine xcondF' (not_f (decide_eq_true (Decidable.of_not_not hp185))) rfl ?_
        refine xskipc ?_
        refine xin_normal ?_
        refine xthen ?_
        refine xregion ?_
        refine xvalP (pv_move rfl) rfl rfl ?_
        obtain ⟨h186, h⟩ := h
        refine xvalP (pv_addI h186 rfl rfl) rfl rfl ?_
        refine xvalP (pv_assign rfl) rfl rfl ?_
        refine xnil ?_
        obtain ⟨m', hm, hI⟩ := hag1 _ h
        exact xagain ⟨(iv128 + 1), hI, rfl⟩ hm ⟨(.cons rfl (.refl _) (.cons rfl (.refl _) (.cons rfl (.refl _) (.nil _)))), (SubM.of (.nil _) (.nil _))⟩
    · replace h := h.2 hp163
      refine xcondF' (decide_eq_false hp163) rfl ?_
      refine xexit ?_
      refine xthen_exit ?_
      refine xthen_exit ?_
      refine xin_same rfl ?_
      refine xthen ?_
      refine xseq ?_
      refine xregion ?_
      refine xvalP (pv_assign rfl) rfl rfl ?_
      refine xnil ?_
      refine xthen ?_
      refine xretc ?_
      replace h := h.symm
      subst h
      exact xret1 hg rfl rfl (.refl _) (SubM.of (.nil _) (.nil _)) ⟨rfl, rfl, rfl⟩
/-- palinoderef03.Same -/
def palinoderef03_Same_l1 (a1 : List (ByteArray × (List UInt8))) (bv2 : List (ByteArray × (List UInt8))) (ag1 : (Int) → Prop) (iv240 : Int) (r : Bool) : Prop :=
  ((iv240 < (a1.length : Int) → 0 ≤ (iv240 : Int) ∧ ∃ y341 : ByteArray × (List UInt8), a1[(iv240 : Int).toNat]? = some y341 ∧ 0 ≤ (iv240 : Int) ∧ ∃ y343 : ByteArray × (List UInt8), bv2[(iv240 : Int).toNat]? = some y343 ∧ ((¬ ((y341.1.toList == y343.1.toList) = true) → r = false) ∧ (¬ (¬ ((y341.1.toList == y343.1.toList) = true)) → 0 ≤ (iv240 : Int) ∧ ∃ y347 : ByteArray × (List UInt8), a1[(iv240 : Int).toNat]? = some y347 ∧ 0 ≤ (iv240 : Int) ∧ ∃ y349 : ByteArray × (List UInt8), bv2[(iv240 : Int).toNat]? = some y349 ∧ ∃ y352 : Bool, palinoderef01_Same_R y347.2 y349.2 y352 ∧ ((¬ (y352 = true) → r = false) ∧ (¬ (¬ (y352 = true)) → InR (iv240 + 1) ∧ ag1 (iv240 + 1)))))) ∧ (¬ (iv240 < (a1.length : Int)) → r = true))
def palinoderef03_Same_R (a1 : List (ByteArray × (List UInt8))) (bv2 : List (ByteArray × (List UInt8))) (r : Bool) : Prop :=
  ((¬ ((a1.length : Int) = (bv2.length : Int)) → r = false) ∧ (¬ (¬ ((a1.length : Int) = (bv2.length : Int))) → LoopR (fun ag1 s => palinoderef03_Same_l1 a1 bv2 ag1 s r) 0))
def palinoderef03_Same_l1_ev (fuel : Nat) (a1 : List (ByteArray × (List UInt8))) (bv2 : List (ByteArray × (List UInt8))) (ag1e : (Int) → Option (Bool)) (iv240 : Int) : Option (Bool) :=
  (if iv240 < (a1.length : Int) then (if 0 ≤ (iv240 : Int) then ((a1[(iv240 : Int).toNat]?).bind fun y341 => (if 0 ≤ (iv240 : Int) then ((bv2[(iv240 : Int).toNat]?).bind fun y343 => (if ¬ ((y341.1.toList == y343.1.toList) = true) then some false else (if 0 ≤ (iv240 : Int) then ((a1[(iv240 : Int).toNat]?).bind fun y347 => (if 0 ≤ (iv240 : Int) then ((bv2[(iv240 : Int).toNat]?).bind fun y349 => ((palinoderef01_Same_ev fuel y347.2 y349.2).bind fun y352 => (if ¬ (y352 = true) then some false else (if InR (iv240 + 1) then ag1e (iv240 + 1) else none)))) else none)) else none))) else none)) else none) else some true)
theorem palinoderef03_Same_l1_ok {fuel : Nat} {a1 : List (ByteArray × (List UInt8))} {bv2 : List (ByteArray × (List UInt8))} {ag1e : (Int) → Option (Bool)} {ag1 : (Int) → Prop} {iv240 : Int} {r : Bool} (hagag1 : ∀ s, ag1e s = some r → ag1 s) (h : palinoderef03_Same_l1_ev fuel a1 bv2 ag1e iv240 = some r) : palinoderef03_Same_l1 a1 bv2 ag1 iv240 r := by
  unfold palinoderef03_Same_l1_ev at h
  unfold palinoderef03_Same_l1
  refine ⟨fun g232 => ?_, fun g232 => ?_⟩
  · rw [if_pos g232] at h
    obtain ⟨g233, h⟩ := if_ok h
    refine ⟨g233, ?_⟩
    obtain ⟨q234, g234, h⟩ := bind_ok h
    refine ⟨q234, g234, ?_⟩
    obtain ⟨g235, h⟩ := if_ok h
    refine ⟨g235, ?_⟩
    obtain ⟨q236, g236, h⟩ := bind_ok h
    refine ⟨q236, g236, ?_⟩
    refine ⟨fun g237 => ?_, fun g237 => ?_⟩
    · rw [if_pos g237] at h
      exact (Option.some.inj h).symm
    · rw [if_neg g237] at h
      obtain ⟨g238, h⟩ := if_ok h
      refine ⟨g238, ?_⟩
      obtain ⟨q239, g239, h⟩ := bind_ok h
      refine ⟨q239, g239, ?_⟩
      obtain ⟨g240, h⟩ := if_ok h
      refine ⟨g240, ?_⟩
      obtain ⟨q241, g241, h⟩ := bind_ok h
      refine ⟨q241, g241, ?_⟩
      obtain ⟨q242, g242, h⟩ := bind_ok h
      refine ⟨q242, palinoderef01_Same_ok g242, ?_⟩
      refine ⟨fun g243 => ?_, fun g243 => ?_⟩
      · rw [if_pos g243] at h
        exact (Option.some.inj h).symm
      · rw [if_neg g243] at h
        obtain ⟨g244, h⟩ := if_ok h
        refine ⟨g244, ?_⟩
        exact hagag1 _ h
  · rw [if_neg g232] at h
    exact (Option.some.inj h).symm
def palinoderef03_Same_ev (fuel : Nat) (a1 : List (ByteArray × (List UInt8))) (bv2 : List (ByteArray × (List UInt8))) : Option (Bool) :=
  (if ¬ ((a1.length : Int) = (bv2.length : Int)) then some false else (loopE (fun ag1e s => palinoderef03_Same_l1_ev fuel a1 bv2 ag1e s) fuel 0))
theorem palinoderef03_Same_ok {fuel : Nat} {a1 : List (ByteArray × (List UInt8))} {bv2 : List (ByteArray × (List UInt8))} {r : Bool} (h : palinoderef03_Same_ev fuel a1 bv2 = some r) : palinoderef03_Same_R a1 bv2 r := by
  unfold palinoderef03_Same_ev at h
  unfold palinoderef03_Same_R
  refine ⟨fun g245 => ?_, fun g245 => ?_⟩
  · rw [if_pos g245] at h
    exact (Option.some.inj h).symm
  · rw [if_neg g245] at h
    refine loopE_ok ?_ h
    intro ae ag s hag h
    exact palinoderef03_Same_l1_ok hag h
set_option maxHeartbeats 4000000 in
theorem palinoderef03_Same_con (a1 : List (ByteArray × (List UInt8))) (bv2 : List (ByteArray × (List UInt8))) (r : Bool) (h : palinoderef03_Same_R a1 bv2 r) : Con Try.prog 19 [.sl 2 none (List.map E_palinode_api_File a1), .sl 2 none (List.map E_palinode_api_File bv2)] [] [] (Ret (.v (.bool r))) := by
  refine xenter Try.func19 rfl rfl fun g hg => ?_
  simp only [Try.ntmps19, slots]
  refine xseq ?_
  refine xregion ?_
  refine xvalP (pv_assign rfl) rfl rfl ?_
  refine xnil ?_
  refine xthen ?_
  refine xseq ?_
  refine xseq ?_
  refine xregion ?_
  refine xvalP (pv_move rfl) rfl rfl ?_
  refine xvalP (pv_lenM UndC.h rfl) rfl rfl ?_
  refine xvalP (pv_move rfl) rfl rfl ?_
  refine xvalP (pv_lenM UndC.h rfl) rfl rfl ?_
  refine xvalP (pv_bin2 rfl rfl rfl) rfl rfl ?_
  refine xnil ?_
  refine xthen ?_
  by_cases hp10 : ¬ ((a1.length : Int) = (bv2.length : Int))
  · replace h := h.1 hp10
    refine xcondT' (not_t (decide_eq_false hp10)) rfl ?_
    refine xseq ?_
    refine xregion ?_
    refine xvalP (pv_assign rfl) rfl rfl ?_
    refine xnil ?_
    refine xthen ?_
    refine xretc ?_
    refine xthen_ret ?_
    replace h := h.symm
    subst h
    exact xret1 hg rfl rfl (.refl _) (SubM.of (.nil _) (.nil _)) ⟨rfl, rfl, rfl⟩
  · replace h := h.2 hp10
    refine xcondF' (not_f (decide_eq_true (Decidable.of_not_not hp10))) rfl ?_
    refine xskipc ?_
    refine xthen ?_
    refine xseq ?_
    refine xseq ?_
    refine xregion ?_
    refine xvalP (pv_assign rfl) rfl rfl ?_
    refine xnil ?_
    refine xthen ?_
    refine xblock ?_
    obtain ⟨Inv, ⟨m0, hI⟩, hS⟩ := h
    refine xloop (fun σ m => ∃ (iv240 : Int), Inv iv240 m ∧ σ = ⟨[(0, .sl 2 none (List.map E_palinode_api_File a1)), (1, .sl 2 none (List.map E_palinode_api_File bv2)), (5, .v (.int .i64 iv240))], [], []⟩) ⟨0, hI, rfl⟩ ⟨(.cons rfl (.refl _) (.cons rfl (.refl _) (.cons rfl (.refl _) (.nil _)))), (SubM.of (.nil _) (.nil _))⟩ ?_
    rintro _ m ⟨iv240, hI, rfl⟩
    obtain ⟨ag1, hag1, h⟩ : ∃ ag, (∀ s', ag s' → ∃ m', m' < m ∧ Inv s' m') ∧ palinoderef03_Same_l1 a1 bv2 ag iv240 r := ⟨_, fun _ h => h, hS iv240 _ hI⟩
    clear hS hI
    refine xseq ?_
    refine xseq ?_
    refine xregion ?_
    refine xvalP (pv_move rfl) rfl rfl ?_
    refine xvalP (pv_move rfl) rfl rfl ?_
    refine xvalP (pv_lenM UndC.h rfl) rfl rfl ?_
    refine xvalP (pv_bin2 rfl rfl rfl) rfl rfl ?_
    refine xnil ?_
    refine xthen ?_
    by_cases hp303 : iv240 < (a1.length : Int)
    · replace h := h.1 hp303
      refine xcondT' (decide_eq_true hp303) rfl ?_
      refine xskipc ?_
      refine xthen ?_
      refine xseq ?_
      refine xblock ?_
      refine xseq ?_
      refine xregionD (m := 25) (by kernel_rfl) rfl ?_
      obtain ⟨h342a, h⟩ := h
      obtain ⟨y341, h342b, h⟩ := h
      obtain ⟨h344a, h⟩ := h
      obtain ⟨y343, h344b, h⟩ := h
      refine xpval 0 rfl (pv_move rfl) rfl rfl (by kernel_rfl) (by kernel_rfl) (by kernel_rfl) (fun _ _ _ _ h => h) ?_
      refine xpval 1 rfl (pv_move rfl) rfl rfl (by kernel_rfl) (by kernel_rfl) (by kernel_rfl) (fun _ _ _ _ h => h) ?_
      refine xpval 2 rfl (pv_indexAddrM h342a h342b UndC.h ShpC.h rfl rfl) rfl rfl (by kernel_rfl) (by kernel_rfl) (by kernel_rfl) (fun _ _ _ _ h => h) ?_
      refine xpval 3 rfl (qv_fieldAddrE FldC.h rfl) rfl rfl (by kernel_rfl) (by kernel_rfl) (by kernel_rfl) (fun _ _ _ _ h => h) ?_
      refine xpval 5 rfl (pv_move rfl) rfl rfl (by kernel_rfl) (by kernel_rfl) (by kernel_rfl) (fun _ _ _ _ h => h) ?_
      refine xpval 6 rfl (pv_move rfl) rfl rfl (by kernel_rfl) (by kernel_rfl) (by kernel_rfl) (fun _ _ _ _ h => h) ?_
      refine xpval 7 rfl (pv_indexAddrM h344a h344b UndC.h ShpC.h rfl rfl) rfl rfl (by kernel_rfl) (by kernel_rfl) (by kernel_rfl) (fun _ _ _ _ h => h) ?_
      refine xpval 8 rfl (qv_fieldAddrE FldC.h rfl) rfl rfl (by kernel_rfl) (by kernel_rfl) (by kernel_rfl) (fun _ _ _ _ h => h) ?_
      refine xpvalE 4 [9] rfl (qv_load ShpC.h rfl rfl rfl) rfl rfl (by kernel_rfl) (by kernel_rfl) (by kernel_rfl) (fun _ _ _ _ h => h) ?_
      refine xpvalE 9 [] rfl (qv_load ShpC.h rfl rfl rfl) rfl rfl (by kernel_rfl) (by kernel_rfl) (by kernel_rfl) (fun _ _ _ _ h => h) ?_
      refine xpval 10 rfl (pv_bin2 rfl rfl rfl) rfl rfl (by kernel_rfl) (by kernel_rfl) (by kernel_rfl) (fun _ _ _ _ h => h) ?_
      refine xpval 11 rfl (pv_move rfl) rfl rfl (by kernel_rfl) (by kernel_rfl) (by kernel_rfl) (fun _ _ _ _ h => h) ?_
      by_cases hp346 : ¬ ((y341.1.toList == y343.1.toList) = true)
      · replace h := h.1 hp346
        refine psetB 28 (not_t (b_f hp346)) rfl ?_
        refine xpskip 12 rfl rfl rfl (by kernel_rfl) (by kernel_rfl) (by kernel_rfl) (fun _ _ _ _ h => h) ?_
        refine xpskip 13 rfl rfl rfl (by kernel_rfl) (by kernel_rfl) (by kernel_rfl) (fun _ _ _ _ h => h) ?_
        refine xpskip 14 rfl rfl rfl (by kernel_rfl) (by kernel_rfl) (by kernel_rfl) (fun _ _ _ _ h => h) ?_
        refine xpskip 15 rfl rfl rfl (by kernel_rfl) (by kernel_rfl) (by kernel_rfl) (fun _ _ _ _ h => h) ?_
        refine xpskip 16 rfl rfl rfl (by kernel_rfl) (by kernel_rfl) (by kernel_rfl) (fun _ _ _ _ h => h) ?_
        refine xpskip 17 rfl rfl rfl (by kernel_rfl) (by kernel_rfl) (by kernel_rfl) (fun _ _ _ _ h => h) ?_
        refine xpskip 18 rfl rfl rfl (by kernel_rfl) (by kernel_rfl) (by kernel_rfl) (fun _ _ _ _ h => h) ?_
        refine xpskip 19 rfl rfl rfl (by kernel_rfl) (by kernel_rfl) (by kernel_rfl) (fun _ _ _ _ h => h) ?_
        refine xpskip 20 rfl rfl rfl (by kernel_rfl) (by kernel_rfl) (by kernel_rfl) (fun _ _ _ _ h => h) ?_
        refine xpskip 21 rfl rfl rfl (by kernel_rfl) (by kernel_rfl) (by kernel_rfl) (fun _ _ _ _ h => h) ?_
        refine xpskip 22 rfl rfl rfl (by kernel_rfl) (by kernel_rfl) (by kernel_rfl) (fun _ _ _ _ h => h) ?_
        refine xpskip 23 rfl rfl rfl (by kernel_rfl) (by kernel_rfl) (by kernel_rfl) (fun _ _ _ _ h => h) ?_
        refine xpval 24 rfl (pv_pick rfl rfl) rfl rfl (by kernel_rfl) (by kernel_rfl) (by kernel_rfl) (fun _ _ _ _ h => h) ?_
        refine xpdone (by kernel_rfl) ?_
        refine xthen ?_
        refine xcondT rfl ?_
        refine xseq ?_
        refine xregion ?_
        refine xvalP (pv_assign rfl) rfl rfl ?_
        refine xnil ?_
        refine xthen ?_
        refine xretc ?_
        refine xin_ret ?_
        refine xthen_ret ?_
        refine xthen_ret ?_
        refine xin_ret ?_
        refine xthen_ret ?_
        replace h := h.symm
        subst h
        exact xret1 hg rfl rfl (.refl _) (SubM.of (.nil _) (.nil _)) ⟨rfl, rfl, rfl⟩
      · replace h := h.2 hp346
        refine psetB 28 (not_f (Decidable.of_not_not hp346)) rfl ?_
        obtain ⟨h348a, h⟩ := h
        obtain ⟨y347, h348b, h⟩ := h
        obtain ⟨h350a, h⟩ := h
        obtain ⟨y349, h350b, h⟩ := h
        obtain ⟨y352, h351, h⟩ := h
        refine xpval 12 rfl (pv_move rfl) rfl rfl (by kernel_rfl) (by kernel_rfl) (by kernel_rfl) (fun _ _ _ _ h => h) ?_
        refine xpval 13 rfl (pv_move rfl) rfl rfl (by kernel_rfl) (by kernel_rfl) (by kernel_rfl) (fun _ _ _ _ h => h) ?_
        refine xpval 14 rfl (pv_indexAddrM h348a h348b UndC.h ShpC.h rfl rfl) rfl rfl (by kernel_rfl) (by kernel_rfl) (by kernel_rfl) (fun _ _ _ _ h => h) ?_
        refine xpval 15 rfl (qv_fieldAddrE FldC.h rfl) rfl rfl (by kernel_rfl) (by kernel_rfl) (by kernel_rfl) (fun _ _ _ _ h => h) ?_
        refine xpval 17 rfl (pv_move rfl) rfl rfl (by kernel_rfl) (by kernel_rfl) (by kernel_rfl) (fun _ _ _ _ h => h) ?_
        refine xpval 18 rfl (pv_move rfl) rfl rfl (by kernel_rfl) (by kernel_rfl) (by kernel_rfl) (fun _ _ _ _ h => h) ?_
        refine xpval 19 rfl (pv_indexAddrM h350a h350b UndC.h ShpC.h rfl rfl) rfl rfl (by kernel_rfl) (by kernel_rfl) (by kernel_rfl) (fun _ _ _ _ h => h) ?_
        refine xpval 20 rfl (qv_fieldAddrE FldC.h rfl) rfl rfl (by kernel_rfl) (by kernel_rfl) (by kernel_rfl) (fun _ _ _ _ h => h) ?_
        refine xpvalE 16 [21] rfl (qv_load ShpC.h rfl rfl rfl) rfl rfl (by kernel_rfl) (by kernel_rfl) (by kernel_rfl) (fun _ _ _ _ h => h) ?_
        refine xpvalE 21 [] rfl (qv_load ShpC.h rfl rfl rfl) rfl rfl (by kernel_rfl) (by kernel_rfl) (by kernel_rfl) (fun _ _ _ _ h => h) ?_
        refine xpstep (i := 22) (by kernel_rfl) rfl ?_
        refine wcall0 (palinoderef01_Same_con y347.2 y349.2 _ h351) Try.func27 (by kernel_rfl) rfl (.cons rfl (.refl _) (.cons rfl (.refl _) .nil)) rfl rfl ?_
        refine xpval 23 rfl (pv_not rfl) rfl rfl (by kernel_rfl) (by kernel_rfl) (by kernel_rfl) (fun _ _ _ _ h => h) ?_
        refine xpval 24 rfl (pv_pick rfl rfl) rfl rfl (by kernel_rfl) (by kernel_rfl) (by kernel_rfl) (fun _ _ _ _ h => h) ?_
        refine xpdone (by kernel_rfl) ?_
        refine xthen ?_
        by_cases hp353 : ¬ (y352 = true)
        · replace h := h.1 hp353
          refine xcondT' (not_t (b_f hp353)) rfl ?_
          refine xseq ?_
          refine xregion ?_
          refine xvalP (pv_assign rfl) rfl rfl ?_
          refine xnil ?_
          refine xthen ?_
          refine xretc ?_
          refine xin_ret ?_
          refine xthen_ret ?_
          refine xthen_ret ?_
          refine xin_ret ?_
          refine xthen_ret ?_
          replace h := h.symm
          subst h
          exact xret1 hg rfl rfl (.refl _) (SubM.of (.nil _) (.nil _)) ⟨rfl, rfl, rfl⟩
        · replace h := h.2 hp353
          refine xcondF' (not_f (Decidable.of_not_not hp353)) rfl ?_
          refine xskipc ?_
          refine xin_normal ?_
          refine xthen ?_
          refine xregion ?_
          refine xvalP (pv_move rfl) rfl rfl ?_
          obtain ⟨h354, h⟩ := h
          refine xvalP (pv_addI h354 rfl rfl) rfl rfl ?_
          refine xvalP (pv_assign rfl) rfl rfl ?_
          refine xnil ?_
          obtain ⟨m', hm, hI⟩ := hag1 _ h
          exact xagain ⟨(iv240 + 1), hI, rfl⟩ hm ⟨(.cons rfl (.refl _) (.cons rfl (.refl _) (.cons rfl (.refl _) (.nil _)))), (SubM.of (.nil _) (.nil _))⟩
    · replace h := h.2 hp303
      refine xcondF' (decide_eq_false hp303) rfl ?_
      refine xexit ?_
      refine xthen_exit ?_
      refine xthen_exit ?_
      refine xin_same rfl ?_
      refine xthen ?_
      refine xseq ?_
      refine xregion ?_
      refine xvalP (pv_assign rfl) rfl rfl ?_
      refine xnil ?_
      refine xthen ?_
      refine xretc ?_
      replace h := h.symm
      subst h
      exact xret1 hg rfl rfl (.refl _) (SubM.of (.nil _) (.nil _)) ⟨rfl, rfl, rfl⟩
/-- palinoderef03.At -/
def palinoderef03_At_l1 (l1 : List (ByteArray × (List UInt8))) (name2 : ByteArray) (ag1 : (Int) → Prop) (iv64 : Int) (r : Int) : Prop :=
  ((iv64 < (l1.length : Int) → 0 ≤ (iv64 : Int) ∧ ∃ y90 : ByteArray × (List UInt8), l1[(iv64 : Int).toNat]? = some y90 ∧ (((y90.1.toList == name2.toList) = true → r = iv64) ∧ (¬ ((y90.1.toList == name2.toList) = true) → InR (iv64 + 1) ∧ ag1 (iv64 + 1)))) ∧ (¬ (iv64 < (l1.length : Int)) → r = (-1)))
def palinoderef03_At_R (l1 : List (ByteArray × (List UInt8))) (name2 : ByteArray) (r : Int) : Prop :=
  LoopR (fun ag1 s => palinoderef03_At_l1 l1 name2 ag1 s r) 0
def palinoderef03_At_l1_ev (fuel : Nat) (l1 : List (ByteArray × (List UInt8))) (name2 : ByteArray) (ag1e : (Int) → Option (Int)) (iv64 : Int) : Option (Int) :=
  (if iv64 < (l1.length : Int) then (if 0 ≤ (iv64 : Int) then ((l1[(iv64 : Int).toNat]?).bind fun y90 => (if (y90.1.toList == name2.toList) = true then some iv64 else (if InR (iv64 + 1) then ag1e (iv64 + 1) else none))) else none) else some (-1))
theorem palinoderef03_At_l1_ok {fuel : Nat} {l1 : List (ByteArray × (List UInt8))} {name2 : ByteArray} {ag1e : (Int) → Option (Int)} {ag1 : (Int) → Prop} {iv64 : Int} {r : Int} (hagag1 : ∀ s, ag1e s = some r → ag1 s) (h : palinoderef03_At_l1_ev fuel l1 name2 ag1e iv64 = some r) : palinoderef03_At_l1 l1 name2 ag1 iv64 r := by
  unfold palinoderef03_At_l1_ev at h
  unfold palinoderef03_At_l1
  refine ⟨fun g275 => ?_, fun g275 => ?_⟩
  · rw [if_pos g275] at h
    obtain ⟨g276, h⟩ := if_ok h
    refine ⟨g276, ?_⟩
    obtain ⟨q277, g277, h⟩ := bind_ok h
    refine ⟨q277, g277, ?_⟩
    refine ⟨fun g278 => ?_, fun g278 => ?_⟩
    · rw [if_pos g278] at h
      exact (Option.some.inj h).symm
    · rw [if_neg g278] at h
      obtain ⟨g279, h⟩ := if_ok h
      refine ⟨g279, ?_⟩
      exact hagag1 _ h
  · rw [if_neg g275] at h
    exact (Option.some.inj h).symm
def palinoderef03_At_ev (fuel : Nat) (l1 : List (ByteArray × (List UInt8))) (name2 : ByteArray) : Option (Int) :=
  (loopE (fun ag1e s => palinoderef03_At_l1_ev fuel l1 name2 ag1e s) fuel 0)
theorem palinoderef03_At_ok {fuel : Nat} {l1 : List (ByteArray × (List UInt8))} {name2 : ByteArray} {r : Int} (h : palinoderef03_At_ev fuel l1 name2 = some r) : palinoderef03_At_R l1 name2 r := by
  unfold palinoderef03_At_ev at h
  unfold palinoderef03_At_R
  refine loopE_ok ?_ h
  intro ae ag s hag h
  exact palinoderef03_At_l1_ok hag h
set_option maxHeartbeats 4000000 in
theorem palinoderef03_At_con (l1 : List (ByteArray × (List UInt8))) (name2 : ByteArray) (r : Int) (h : palinoderef03_At_R l1 name2 r) : Con Try.prog 26 [.sl 2 none (List.map E_palinode_api_File l1), .v (.string name2)] [] [] (Ret (.v (.int .i64 r))) := by
  refine xenter Try.func26 rfl rfl fun g hg => ?_
  simp only [Try.ntmps26, slots]
  refine xseq ?_
  refine xregion ?_
  refine xvalP (pv_assign rfl) rfl rfl ?_
  refine xnil ?_
  refine xthen ?_
  refine xseq ?_
  refine xseq ?_
  refine xregion ?_
  refine xvalP (pv_assign rfl) rfl rfl ?_
  refine xnil ?_
  refine xthen ?_
  refine xblock ?_
  obtain ⟨Inv, ⟨m0, hI⟩, hS⟩ := h
  refine xloop (fun σ m => ∃ (iv64 : Int), Inv iv64 m ∧ σ = ⟨[(0, .sl 2 none (List.map E_palinode_api_File l1)), (1, .v (.string name2)), (5, .v (.int .i64 iv64))], [], []⟩) ⟨0, hI, rfl⟩ ⟨(.cons rfl (.refl _) (.cons rfl (.refl _) (.cons rfl (.refl _) (.nil _)))), (SubM.of (.nil _) (.nil _))⟩ ?_
  rintro _ m ⟨iv64, hI, rfl⟩
  obtain ⟨ag1, hag1, h⟩ : ∃ ag, (∀ s', ag s' → ∃ m', m' < m ∧ Inv s' m') ∧ palinoderef03_At_l1 l1 name2 ag iv64 r := ⟨_, fun _ h => h, hS iv64 _ hI⟩
  clear hS hI
  refine xseq ?_
  refine xseq ?_
  refine xregion ?_
  refine xvalP (pv_move rfl) rfl rfl ?_
  refine xvalP (pv_move rfl) rfl rfl ?_
  refine xvalP (pv_lenM UndC.h rfl) rfl rfl ?_
  refine xvalP (pv_bin2 rfl rfl rfl) rfl rfl ?_
  refine xnil ?_
  refine xthen ?_
  by_cases hp85 : iv64 < (l1.length : Int)
  · replace h := h.1 hp85
    refine xcondT' (decide_eq_true hp85) rfl ?_
    refine xskipc ?_
    refine xthen ?_
    refine xseq ?_
    refine xblock ?_
    refine xseq ?_
    refine xregion ?_
    refine xvalP (pv_move rfl) rfl rfl ?_
    refine xvalP (pv_move rfl) rfl rfl ?_
    obtain ⟨h91a, h⟩ := h
    obtain ⟨y90, h91b, h⟩ := h
    refine xvalP (pv_indexAddrM h91a h91b UndC.h ShpC.h rfl rfl) rfl rfl ?_
    refine xvalP (qv_fieldAddrE FldC.h rfl) rfl rfl ?_
    refine xval (qv_load ShpC.h rfl rfl rfl) rfl rfl ?_
    refine xvalP (pv_move rfl) rfl rfl ?_
    refine xvalP (pv_bin2 rfl rfl rfl) rfl rfl ?_
    refine xnil ?_
    refine xthen ?_
    by_cases hp93 : (y90.1.toList == name2.toList) = true
    · replace h := h.1 hp93
      refine xcondT' hp93 rfl ?_
      refine xseq ?_
      refine xregion ?_
      refine xvalP (pv_move rfl) rfl rfl ?_
      refine xvalP (pv_assign rfl) rfl rfl ?_
      refine xnil ?_
      refine xthen ?_
      refine xretc ?_
      refine xin_ret ?_
      refine xthen_ret ?_
      refine xthen_ret ?_
      refine xin_ret ?_
      refine xthen_ret ?_
      replace h := h.symm
      subst h
      exact xret1 hg rfl rfl (.refl _) (SubM.of (.nil _) (.nil _)) ⟨rfl, rfl, rfl⟩
    · replace h := h.2 hp93
      refine xcondF' (b_f hp93) rfl ?_
      refine xskipc ?_
      refine xin_normal ?_
      refine xthen ?_
      refine xregion ?_
      refine xvalP (pv_move rfl) rfl rfl ?_
      obtain ⟨h94, h⟩ := h
      refine xvalP (pv_addI h94 rfl rfl) rfl rfl ?_
      refine xvalP (pv_assign rfl) rfl rfl ?_
      refine xnil ?_
      obtain ⟨m', hm, hI⟩ := hag1 _ h
      exact xagain ⟨(iv64 + 1), hI, rfl⟩ hm ⟨(.cons rfl (.refl _) (.cons rfl (.refl _) (.cons rfl (.refl _) (.nil _)))), (SubM.of (.nil _) (.nil _))⟩
  · replace h := h.2 hp85
    refine xcondF' (decide_eq_false hp85) rfl ?_
    refine xexit ?_
    refine xthen_exit ?_
    refine xthen_exit ?_
    refine xin_same rfl ?_
    refine xthen ?_
    refine xseq ?_
    refine xregion ?_
    refine xvalP (pv_assign rfl) rfl rfl ?_
    refine xnil ?_
    refine xthen ?_
    refine xretc ?_
    replace h := h.symm
    subst h
    exact xret1 hg rfl rfl (.refl _) (SubM.of (.nil _) (.nil _)) ⟨rfl, rfl, rfl⟩
/-- palinoderef03.Put -/
def palinoderef03_Put_j1 (l1 : List (ByteArray × (List UInt8))) (bv3 : List UInt8) (y17 : Int) (name2 : ByteArray) (x32 : Bool) (r : (List (ByteArray × (List UInt8))) × Int) : Prop :=
  ((x32 = true → r = (l1, 7)) ∧ (¬ (x32 = true) → Room ((([] : List (ByteArray × (List UInt8)))).length + l1.length) 40 ∧ ∃ y41 : (List UInt8), palinoderef01_Copy_R bv3 y41 ∧ ((y17 < 0 → Room (((([] : List (ByteArray × (List UInt8))) ++ l1)).length + ([(name2, y41)]).length) 40 ∧ r = (((([] : List (ByteArray × (List UInt8))) ++ l1) ++ [(name2, y41)]), 0)) ∧ (¬ (y17 < 0) → 0 ≤ (y17 : Int) ∧ ∃ y51 : ByteArray × (List UInt8), ((([] : List (ByteArray × (List UInt8))) ++ l1))[(y17 : Int).toNat]? = some y51 ∧ r = ((((([] : List (ByteArray × (List UInt8))) ++ l1)).set (y17 : Int).toNat (name2, y41)), 0)))))
def palinoderef03_Put_R (l1 : List (ByteArray × (List UInt8))) (name2 : ByteArray) (bv3 : List UInt8) (r : (List (ByteArray × (List UInt8))) × Int) : Prop :=
  ∃ y8 : Bool, palinoderef03_IsName_R name2 y8 ∧ ((¬ (y8 = true) → r = (l1, 4)) ∧ (¬ (¬ (y8 = true)) → ((65536 < (bv3.length : Int) → r = (l1, 8)) ∧ (¬ (65536 < (bv3.length : Int)) → ∃ y17 : Int, palinoderef03_At_R l1 name2 y17 ∧ palinoderef03_Put_j1 l1 bv3 y17 name2 ((decide (y17 < 0)) && (decide (16 ≤ (l1.length : Int)))) r))))
def palinoderef03_Put_j1_ev (fuel : Nat) (l1 : List (ByteArray × (List UInt8))) (bv3 : List UInt8) (y17 : Int) (name2 : ByteArray) (x32 : Bool) : Option ((List (ByteArray × (List UInt8))) × Int) :=
  (if x32 = true then some (l1, 7) else (if Room ((([] : List (ByteArray × (List UInt8)))).length + l1.length) 40 then ((palinoderef01_Copy_ev fuel bv3).bind fun y41 => (if y17 < 0 then (if Room (((([] : List (ByteArray × (List UInt8))) ++ l1)).length + ([(name2, y41)]).length) 40 then some (((([] : List (ByteArray × (List UInt8))) ++ l1) ++ [(name2, y41)]), 0) else none) else (if 0 ≤ (y17 : Int) then ((((([] : List (ByteArray × (List UInt8))) ++ l1))[(y17 : Int).toNat]?).bind fun y51 => some ((((([] : List (ByteArray × (List UInt8))) ++ l1)).set (y17 : Int).toNat (name2, y41)), 0)) else none))) else none))
theorem palinoderef03_Put_j1_ok {fuel : Nat} {l1 : List (ByteArray × (List UInt8))} {bv3 : List UInt8} {y17 : Int} {name2 : ByteArray} {x32 : Bool} {r : (List (ByteArray × (List UInt8))) × Int} (h : palinoderef03_Put_j1_ev fuel l1 bv3 y17 name2 x32 = some r) : palinoderef03_Put_j1 l1 bv3 y17 name2 x32 r := by
  unfold palinoderef03_Put_j1_ev at h
  unfold palinoderef03_Put_j1
  refine ⟨fun g280 => ?_, fun g280 => ?_⟩
  · rw [if_pos g280] at h
    exact (Option.some.inj h).symm
  · rw [if_neg g280] at h
    obtain ⟨g281, h⟩ := if_ok h
    refine ⟨g281, ?_⟩
    obtain ⟨q282, g282, h⟩ := bind_ok h
    refine ⟨q282, palinoderef01_Copy_ok g282, ?_⟩
    refine ⟨fun g283 => ?_, fun g283 => ?_⟩
    · rw [if_pos g283] at h
      obtain ⟨g284, h⟩ := if_ok h
      refine ⟨g284, ?_⟩
      exact (Option.some.inj h).symm
    · rw [if_neg g283] at h
      obtain ⟨g285, h⟩ := if_ok h
      refine ⟨g285, ?_⟩
      obtain ⟨q286, g286, h⟩ := bind_ok h
      refine ⟨q286, g286, ?_⟩
      exact (Option.some.inj h).symm
def palinoderef03_Put_ev (fuel : Nat) (l1 : List (ByteArray × (List UInt8))) (name2 : ByteArray) (bv3 : List UInt8) : Option ((List (ByteArray × (List UInt8))) × Int) :=
  ((palinoderef03_IsName_ev fuel name2).bind fun y8 => (if ¬ (y8 = true) then some (l1, 4) else (if 65536 < (bv3.length : Int) then some (l1, 8) else ((palinoderef03_At_ev fuel l1 name2).bind fun y17 => palinoderef03_Put_j1_ev fuel l1 bv3 y17 name2 ((decide (y17 < 0)) && (decide (16 ≤ (l1.length : Int))))))))
theorem palinoderef03_Put_ok {fuel : Nat} {l1 : List (ByteArray × (List UInt8))} {name2 : ByteArray} {bv3 : List UInt8} {r : (List (ByteArray × (List UInt8))) × Int} (h : palinoderef03_Put_ev fuel l1 name2 bv3 = some r) : palinoderef03_Put_R l1 name2 bv3 r := by
  unfold palinoderef03_Put_ev at h
  unfold palinoderef03_Put_R
  obtain ⟨q287, g287, h⟩ := bind_ok h
  refine ⟨q287, palinoderef03_IsName_ok g287, ?_⟩
  refine ⟨fun g288 => ?_, fun g288 => ?_⟩
  · rw [if_pos g288] at h
    exact (Option.some.inj h).symm
  · rw [if_neg g288] at h
    refine ⟨fun g289 => ?_, fun g289 => ?_⟩
    · rw [if_pos g289] at h
      exact (Option.some.inj h).symm
    · rw [if_neg g289] at h
      obtain ⟨q290, g290, h⟩ := bind_ok h
      refine ⟨q290, palinoderef03_At_ok g290, ?_⟩
      exact palinoderef03_Put_j1_ok h
set_option maxHeartbeats 4000000 in
theorem palinoderef03_Put_con (l1 : List (ByteArray × (List UInt8))) (name2 : ByteArray) (bv3 : List UInt8) (r : (List (ByteArray × (List UInt8))) × Int) (h : palinoderef03_Put_R l1 name2 bv3 r) : Con Try.prog 21 [.sl 2 none (List.map E_palinode_api_File l1), .v (.string name2), .sl 1 none (List.map eb bv3)] [] [] (fun rr bx tk => rr = .tup [.sl 2 none (List.map E_palinode_api_File r.1), .v (.int .i64 r.2)] ∧ bx = [] ∧ tk = []) := by
  refine xenter Try.func21 rfl rfl fun g hg => ?_
  simp only [Try.ntmps21, slots]
  refine xseq ?_
  refine xregion ?_
  refine xvalP (pv_assign rfl) rfl rfl ?_
  refine xvalP (pv_assign rfl) rfl rfl ?_
  refine xnil ?_
  refine xthen ?_
  refine xseq ?_
  refine xseq ?_
  refine xregion ?_
  refine xvalP (pv_move rfl) rfl rfl ?_
  obtain ⟨y8, h7, h⟩ := h
  refine xcall0 (palinoderef03_IsName_con name2 _ h7) Try.func9 (by kernel_rfl) rfl (.cons rfl (.refl _) .nil) rfl rfl ?_
  refine xvalP (pv_not rfl) rfl rfl ?_
  refine xnil ?_
  refine xthen ?_
  by_cases hp9 : ¬ (y8 = true)
  · replace h := h.1 hp9
    refine xcondT' (not_t (b_f hp9)) rfl ?_
    refine xseq ?_
    refine xregion ?_
    refine xvalP (pv_move rfl) rfl rfl ?_
    refine xvalP (pv_assign rfl) rfl rfl ?_
    refine xvalP (pv_assign rfl) rfl rfl ?_
    refine xnil ?_
    refine xthen ?_
    refine xretc ?_
    refine xthen_ret ?_
    replace h := h.symm
    subst h
    exact xret2 hg rfl rfl (.refl _) rfl (.refl _) (SubM.of (.nil _) (.nil _)) ⟨rfl, rfl, rfl⟩
  · replace h := h.2 hp9
    refine xcondF' (not_f (Decidable.of_not_not hp9)) rfl ?_
    refine xskipc ?_
    refine xthen ?_
    refine xseq ?_
    refine xseq ?_
    refine xregion ?_
    refine xvalP (pv_move rfl) rfl rfl ?_
    refine xvalP (pv_lenM UndC.h rfl) rfl rfl ?_
    refine xvalP (pv_bin2 rfl rfl rfl) rfl rfl ?_
    refine xnil ?_
    refine xthen ?_
    by_cases hp15 : 65536 < (bv3.length : Int)
    · replace h := h.1 hp15
      refine xcondT' (decide_eq_true hp15) rfl ?_
      refine xseq ?_
      refine xregion ?_
      refine xvalP (pv_move rfl) rfl rfl ?_
      refine xvalP (pv_assign rfl) rfl rfl ?_
      refine xvalP (pv_assign rfl) rfl rfl ?_
      refine xnil ?_
      refine xthen ?_
      refine xretc ?_
      refine xthen_ret ?_
      replace h := h.symm
      subst h
      exact xret2 hg rfl rfl (.refl _) rfl (.refl _) (SubM.of (.nil _) (.nil _)) ⟨rfl, rfl, rfl⟩
    · replace h := h.2 hp15
      refine xcondF' (decide_eq_false hp15) rfl ?_
      refine xskipc ?_
      refine xthen ?_
      refine xseq ?_
      refine xregion ?_
      refine xvalP (pv_move rfl) rfl rfl ?_
      refine xvalP (pv_move rfl) rfl rfl ?_
      obtain ⟨y17, h16, h⟩ := h
      refine xcall0 (palinoderef03_At_con l1 name2 _ h16) Try.func26 (by kernel_rfl) rfl (.cons rfl (.refl _) (.cons rfl (.refl _) .nil)) rfl rfl ?_
      refine xvalP (pv_assign rfl) rfl rfl ?_
      refine xnil ?_
      refine xthen ?_
      refine xseq ?_
      refine xseqM (fun σ => ∃ (x32 : Bool), palinoderef03_Put_j1 l1 bv3 y17 name2 x32 r ∧ σ = ⟨[(0, .sl 2 none (List.map E_palinode_api_File l1)), (1, .v (.string name2)), (2, .sl 1 none (List.map eb bv3)), (8, .v (.int .i64 y17)), (28, .v (.bool x32))], [], []⟩) ?_ ?_
      · refine xregion ?_
        refine xvalP (pv_move rfl) rfl rfl ?_
        refine xvalP (pv_bin2 rfl rfl rfl) rfl rfl ?_
        refine xvalP (pv_move rfl) rfl rfl ?_
        by_cases hp34 : y17 < 0
        · rw [show (decide (y17 < 0)) = true from (decide_eq_true hp34), Bool.true_and] at h
          refine xsetB 24 (decide_eq_true hp34) rfl ?_
          refine xvalP (pv_move rfl) rfl rfl ?_
          refine xvalP (pv_lenM UndC.h rfl) rfl rfl ?_
          refine xvalP (pv_bin2 rfl rfl rfl) rfl rfl ?_
          refine xvalP (pv_pick rfl rfl) rfl rfl ?_
          refine xnil ?_
          exact xmeet ⟨(decide (16 ≤ (l1.length : Int))), h, rfl⟩ ⟨(.cons rfl (.refl _) (.cons rfl (.refl _) (.cons rfl (.refl _) (.cons rfl (.refl _) (.cons rfl (.refl _) (.nil _)))))), (SubM.of (.nil _) (.nil _))⟩
        · rw [show (decide (y17 < 0)) = false from (decide_eq_false hp34), Bool.false_and] at h
          refine xsetB 24 (decide_eq_false hp34) rfl ?_
          refine xskip rfl rfl ?_
          refine xskip rfl rfl ?_
          refine xskip rfl rfl ?_
          refine xvalP (pv_pick rfl rfl) rfl rfl ?_
          refine xnil ?_
          exact xmeet ⟨false, h, rfl⟩ ⟨(.cons rfl (.refl _) (.cons rfl (.refl _) (.cons rfl (.refl _) (.cons rfl (.refl _) (.cons rfl (.refl _) (.nil _)))))), (SubM.of (.nil _) (.nil _))⟩
      · clear h
        rintro _ ⟨x32, h, rfl⟩
        by_cases hp37 : x32 = true
        · replace h := h.1 hp37
          refine xcondT' hp37 rfl ?_
          refine xseq ?_
          refine xregion ?_
          refine xvalP (pv_move rfl) rfl rfl ?_
          refine xvalP (pv_assign rfl) rfl rfl ?_
          refine xvalP (pv_assign rfl) rfl rfl ?_
          refine xnil ?_
          refine xthen ?_
          refine xretc ?_
          refine xthen_ret ?_
          replace h := h.symm
          subst h
          exact xret2 hg rfl rfl (.refl _) rfl (.refl _) (SubM.of (.nil _) (.nil _)) ⟨rfl, rfl, rfl⟩
        · replace h := h.2 hp37
          refine xcondF' (b_f hp37) rfl ?_
          refine xskipc ?_
          refine xthen ?_
          refine xseq ?_
          refine xregion ?_
          refine xbuildSliceM (f := E_palinode_api_File) ([] : List (ByteArray × (List UInt8))) UndC.h InfC.h rfl rfl (by first | exact wkR_of rfl | (repeat (first | exact WkR.nil | refine WkR.cons (by (repeat (first | exact WkL.nil | refine WkL.cons (by first | with_reducible exact Wk.refl _ | exact Wk.nil_own _ | exact Wk.nil_pl _ | with_reducible exact Wk.tok _ _ _ | exact Wk.tok _ _ _ | exact Wk.eq (by first | rfl | (simp []; done) | (simp []; omega))) ?_))) ?_))) rfl rfl rfl rfl fun s30 => ?_
          refine xvalP (pv_move rfl) rfl rfl ?_
          refine xthaw 0 30 rfl rfl rfl ?_
          obtain ⟨h38, h⟩ := h
          refine xappendRb (f := E_palinode_api_File) (l := ([] : List (ByteArray × (List UInt8)))) (l2 := l1) 0 (by simp) h38 UndC.h InfC.h rfl rfl (.refl _) (.sl rfl (.refl _)) rfl rfl rfl fun i39 => ?_
          refine xvalP (pv_assign rfl) rfl rfl ?_
          refine xnil ?_
          refine xthen ?_
          refine xseq ?_
          refine xregion ?_
          refine xvalP (pv_move rfl) rfl rfl ?_
          refine xvalP (pv_move rfl) rfl rfl ?_
          obtain ⟨y41, h40, h⟩ := h
          refine xcallM (palinoderef01_Copy_con bv3 _ h40) Try.func31 (by kernel_rfl) rfl (.cons rfl (.refl _) .nil) rfl rfl fun i42 => ?_
          refine xvalP (pv_buildC StrC.h rfl rfl) rfl rfl ?_
          refine xalloc InfC.h rfl rfl fun b10 => ?_
          refine xstore 0 ShpC.h rfl rfl rfl rfl rfl rfl rfl ?_
          refine xnil ?_
          refine xthen ?_
          refine xseq ?_
          refine xseq ?_
          refine xregion ?_
          refine xvalP (pv_move rfl) rfl rfl ?_
          refine xvalP (pv_bin2 rfl rfl rfl) rfl rfl ?_
          refine xnil ?_
          refine xthen ?_
          by_cases hp48 : y17 < 0
          · replace h := h.1 hp48
            refine xcondT' (decide_eq_true hp48) rfl ?_
            refine xseq ?_
            refine xregion ?_
            refine xvalP (pv_move rfl) rfl rfl ?_
            refine xval (qv_loadB 0 ShpC.h rfl rfl rfl rfl) rfl rfl ?_
            refine xbuildSliceM (f := E_palinode_api_File) [(name2, y41)] UndC.h InfC.h rfl rfl (by first | exact wkR_of rfl | (repeat (first | exact WkR.nil | refine WkR.cons (by (repeat (first | exact WkL.nil | refine WkL.cons (by first | with_reducible exact Wk.refl _ | exact Wk.nil_own _ | exact Wk.nil_pl _ | with_reducible exact Wk.tok _ _ _ | exact Wk.tok _ _ _ | exact Wk.eq (by first | rfl | (simp []; done) | (simp []; omega))) ?_))) ?_))) rfl rfl rfl rfl fun s41 => ?_
            obtain ⟨h49, h⟩ := h
            refine xappendRb (f := E_palinode_api_File) (l := (([] : List (ByteArray × (List UInt8))) ++ l1)) (l2 := [(name2, y41)]) 1 (by simp) h49 UndC.h InfC.h rfl rfl (.refl _) (.sl rfl (.refl _)) rfl rfl rfl fun i50 => ?_
            refine xvalP (pv_assign rfl) rfl rfl ?_
            refine xvalP (pv_assign rfl) rfl rfl ?_
            refine xnil ?_
            refine xthen ?_
            refine xretc ?_
            refine xthen_ret ?_
            refine xfreezeE (f := E_palinode_api_File) 1 6 (by simp) rfl rfl rfl ?_
            replace h := h.symm
            subst h
            exact xret2 hg rfl rfl (.refl _) rfl (.refl _) (SubM.of (.nil _) (.nil _)) ⟨rfl, rfl, rfl⟩
          · replace h := h.2 hp48
            refine xcondF' (decide_eq_false hp48) rfl ?_
            refine xskipc ?_
            refine xthen ?_
            refine xseq ?_
            refine xregion ?_
            refine xvalP (pv_move rfl) rfl rfl ?_
            refine xvalP (pv_move rfl) rfl rfl ?_
            refine xval (qv_loadB 0 ShpC.h rfl rfl rfl rfl) rfl rfl ?_
            obtain ⟨h52a, h⟩ := h
            obtain ⟨y51, h52b, h⟩ := h
            refine xvalP (pv_indexAddrRbM (by simp) h52a h52b UndC.h ShpC.h rfl rfl) rfl rfl ?_
            refine xstoreRb (f := E_palinode_api_File) (k := 2) (off := 0) (i := (y17 : Int).toNat) 1 (name2, y41) h52b rfl (by decide) ShpC.h rfl rfl rfl rfl (by first | rfl | exact seg_lenE (by rfl) | exact len_app rfl (seg_lenE (by rfl)) (by rfl) | exact len_app (seg_lenE (by rfl)) rfl (by rfl) | exact len_app rfl (len_app (seg_lenE (by rfl)) rfl (by rfl)) (by rfl) | (simp only [seg_len, cellsS, List.length_append, List.length_cons, List.length_nil]; done) | (simp only [seg_len, cellsS, List.length_append, List.length_cons, List.length_nil]; rfl)) (.cons (.refl _) (.cons (.tok _ _ _) .nil)) rfl ?_
            refine xnil ?_
            refine xthen ?_
            refine xseq ?_
            refine xregion ?_
            refine xvalP (pv_move rfl) rfl rfl ?_
            refine xvalP (pv_assign rfl) rfl rfl ?_
            refine xvalP (pv_assign rfl) rfl rfl ?_
            refine xnil ?_
            refine xthen ?_
            refine xretc ?_
            refine xfreezeE (f := E_palinode_api_File) 1 6 (by simp) rfl rfl rfl ?_
            replace h := h.symm
            subst h
            exact xret2 hg rfl rfl (.refl _) rfl (.refl _) (SubM.of (.nil _) (.nil _)) ⟨rfl, rfl, rfl⟩
/-- palinoderef03.New -/
def palinoderef03_New_j2 (iv519 : Int) (l1 : List (ByteArray × (List UInt8))) (out518 : List (ByteArray × (List UInt8))) (ag1 : ((List (ByteArray × (List UInt8))) × Int) → Prop) (x745 : Bool) (r : (List (ByteArray × (List UInt8))) × Int) : Prop :=
  ((x745 = true → r = (([] : List (ByteArray × (List UInt8))), 5)) ∧ (¬ (x745 = true) → 0 ≤ (iv519 : Int) ∧ ∃ y763 : ByteArray × (List UInt8), l1[(iv519 : Int).toNat]? = some y763 ∧ 0 ≤ (iv519 : Int) ∧ ∃ y765 : ByteArray × (List UInt8), l1[(iv519 : Int).toNat]? = some y765 ∧ ∃ y768 : (List (ByteArray × (List UInt8))) × Int, palinoderef03_Put_R out518 y763.1 y765.2 y768 ∧ ((¬ (y768.2 = 0) → r = (([] : List (ByteArray × (List UInt8))), y768.2)) ∧ (¬ (¬ (y768.2 = 0)) → InR (iv519 + 1) ∧ ag1 (y768.1, (iv519 + 1))))))
def palinoderef03_New_l1 (l1 : List (ByteArray × (List UInt8))) (ag1 : ((List (ByteArray × (List UInt8))) × Int) → Prop) (out518 : List (ByteArray × (List UInt8))) (iv519 : Int) (r : (List (ByteArray × (List UInt8))) × Int) : Prop :=
  ((iv519 < (l1.length : Int) → 0 ≤ (iv519 : Int) ∧ ∃ y746 : ByteArray × (List UInt8), l1[(iv519 : Int).toNat]? = some y746 ∧ ∃ y749 : Bool, palinoderef03_IsName_R y746.1 y749 ∧ ((y749 = true → 0 ≤ (iv519 : Int) ∧ ∃ y751 : ByteArray × (List UInt8), l1[(iv519 : Int).toNat]? = some y751 ∧ ∃ y754 : Int, palinoderef03_At_R out518 y751.1 y754 ∧ palinoderef03_New_j2 iv519 l1 out518 ag1 (decide (0 ≤ y754)) r) ∧ (¬ (y749 = true) → palinoderef03_New_j2 iv519 l1 out518 ag1 false r))) ∧ (¬ (iv519 < (l1.length : Int)) → r = (out518, 0)))
def palinoderef03_New_R (l1 : List (ByteArray × (List UInt8))) (r : (List (ByteArray × (List UInt8))) × Int) : Prop :=
  ((16 < (l1.length : Int) → r = (([] : List (ByteArray × (List UInt8))), 7)) ∧ (¬ (16 < (l1.length : Int)) → LoopR (fun ag1 s => palinoderef03_New_l1 l1 ag1 s.1 s.2 r) (([] : List (ByteArray × (List UInt8))), 0)))
def palinoderef03_New_j2_ev (fuel : Nat) (iv519 : Int) (l1 : List (ByteArray × (List UInt8))) (out518 : List (ByteArray × (List UInt8))) (ag1e : ((List (ByteArray × (List UInt8))) × Int) → Option ((List (ByteArray × (List UInt8))) × Int)) (x745 : Bool) : Option ((List (ByteArray × (List UInt8))) × Int) :=
  (if x745 = true then some (([] : List (ByteArray × (List UInt8))), 5) else (if 0 ≤ (iv519 : Int) then ((l1[(iv519 : Int).toNat]?).bind fun y763 => (if 0 ≤ (iv519 : Int) then ((l1[(iv519 : Int).toNat]?).bind fun y765 => ((palinoderef03_Put_ev fuel out518 y763.1 y765.2).bind fun y768 => (if ¬ (y768.2 = 0) then some (([] : List (ByteArray × (List UInt8))), y768.2) else (if InR (iv519 + 1) then ag1e (y768.1, (iv519 + 1)) else none)))) else none)) else none))
theorem palinoderef03_New_j2_ok {fuel : Nat} {iv519 : Int} {l1 : List (ByteArray × (List UInt8))} {out518 : List (ByteArray × (List UInt8))} {ag1 : ((List (ByteArray × (List UInt8))) × Int) → Prop} {ag1e : ((List (ByteArray × (List UInt8))) × Int) → Option ((List (ByteArray × (List UInt8))) × Int)} {x745 : Bool} {r : (List (ByteArray × (List UInt8))) × Int} (hagag1 : ∀ s, ag1e s = some r → ag1 s) (h : palinoderef03_New_j2_ev fuel iv519 l1 out518 ag1e x745 = some r) : palinoderef03_New_j2 iv519 l1 out518 ag1 x745 r := by
  unfold palinoderef03_New_j2_ev at h
  unfold palinoderef03_New_j2
  refine ⟨fun g291 => ?_, fun g291 => ?_⟩
  · rw [if_pos g291] at h
    exact (Option.some.inj h).symm
  · rw [if_neg g291] at h
    obtain ⟨g292, h⟩ := if_ok h
    refine ⟨g292, ?_⟩
    obtain ⟨q293, g293, h⟩ := bind_ok h
    refine ⟨q293, g293, ?_⟩
    obtain ⟨g294, h⟩ := if_ok h
    refine ⟨g294, ?_⟩
    obtain ⟨q295, g295, h⟩ := bind_ok h
    refine ⟨q295, g295, ?_⟩
    obtain ⟨q296, g296, h⟩ := bind_ok h
    refine ⟨q296, palinoderef03_Put_ok g296, ?_⟩
    refine ⟨fun g297 => ?_, fun g297 => ?_⟩
    · rw [if_pos g297] at h
      exact (Option.some.inj h).symm
    · rw [if_neg g297] at h
      obtain ⟨g298, h⟩ := if_ok h
      refine ⟨g298, ?_⟩
      exact hagag1 _ h
def palinoderef03_New_l1_ev (fuel : Nat) (l1 : List (ByteArray × (List UInt8))) (ag1e : ((List (ByteArray × (List UInt8))) × Int) → Option ((List (ByteArray × (List UInt8))) × Int)) (out518 : List (ByteArray × (List UInt8))) (iv519 : Int) : Option ((List (ByteArray × (List UInt8))) × Int) :=
  (if iv519 < (l1.length : Int) then (if 0 ≤ (iv519 : Int) then ((l1[(iv519 : Int).toNat]?).bind fun y746 => ((palinoderef03_IsName_ev fuel y746.1).bind fun y749 => (if y749 = true then (if 0 ≤ (iv519 : Int) then ((l1[(iv519 : Int).toNat]?).bind fun y751 => ((palinoderef03_At_ev fuel out518 y751.1).bind fun y754 => palinoderef03_New_j2_ev fuel iv519 l1 out518 ag1e (decide (0 ≤ y754)))) else none) else palinoderef03_New_j2_ev fuel iv519 l1 out518 ag1e false))) else none) else some (out518, 0))
theorem palinoderef03_New_l1_ok {fuel : Nat} {l1 : List (ByteArray × (List UInt8))} {ag1e : ((List (ByteArray × (List UInt8))) × Int) → Option ((List (ByteArray × (List UInt8))) × Int)} {ag1 : ((List (ByteArray × (List UInt8))) × Int) → Prop} {out518 : List (ByteArray × (List UInt8))} {iv519 : Int} {r : (List (ByteArray × (List UInt8))) × Int} (hagag1 : ∀ s, ag1e s = some r → ag1 s) (h : palinoderef03_New_l1_ev fuel l1 ag1e out518 iv519 = some r) : palinoderef03_New_l1 l1 ag1 out518 iv519 r := by
  unfold palinoderef03_New_l1_ev at h
  unfold palinoderef03_New_l1
  refine ⟨fun g299 => ?_, fun g299 => ?_⟩
  · rw [if_pos g299] at h
    obtain ⟨g300, h⟩ := if_ok h
    refine ⟨g300, ?_⟩
    obtain ⟨q301, g301, h⟩ := bind_ok h
    refine ⟨q301, g301, ?_⟩
    obtain ⟨q302, g302, h⟩ := bind_ok h
    refine ⟨q302, palinoderef03_IsName_ok g302, ?_⟩
    refine ⟨fun g303 => ?_, fun g303 => ?_⟩
    · rw [if_pos g303] at h
      obtain ⟨g304, h⟩ := if_ok h
      refine ⟨g304, ?_⟩
      obtain ⟨q305, g305, h⟩ := bind_ok h
      refine ⟨q305, g305, ?_⟩
      obtain ⟨q306, g306, h⟩ := bind_ok h
      refine ⟨q306, palinoderef03_At_ok g306, ?_⟩
      exact palinoderef03_New_j2_ok hagag1 h
    · rw [if_neg g303] at h
      exact palinoderef03_New_j2_ok hagag1 h
  · rw [if_neg g299] at h
    exact (Option.some.inj h).symm
def palinoderef03_New_ev (fuel : Nat) (l1 : List (ByteArray × (List UInt8))) : Option ((List (ByteArray × (List UInt8))) × Int) :=
  (if 16 < (l1.length : Int) then some (([] : List (ByteArray × (List UInt8))), 7) else (loopE (fun ag1e s => palinoderef03_New_l1_ev fuel l1 ag1e s.1 s.2) fuel (([] : List (ByteArray × (List UInt8))), 0)))
theorem palinoderef03_New_ok {fuel : Nat} {l1 : List (ByteArray × (List UInt8))} {r : (List (ByteArray × (List UInt8))) × Int} (h : palinoderef03_New_ev fuel l1 = some r) : palinoderef03_New_R l1 r := by
  unfold palinoderef03_New_ev at h
  unfold palinoderef03_New_R
  refine ⟨fun g307 => ?_, fun g307 => ?_⟩
  · rw [if_pos g307] at h
    exact (Option.some.inj h).symm
  · rw [if_neg g307] at h
    refine loopE_ok ?_ h
    intro ae ag s hag h
    exact palinoderef03_New_l1_ok hag h
set_option maxHeartbeats 4000000 in
theorem palinoderef03_New_con (l1 : List (ByteArray × (List UInt8))) (r : (List (ByteArray × (List UInt8))) × Int) (h : palinoderef03_New_R l1 r) : Con Try.prog 20 [.sl 2 none (List.map E_palinode_api_File l1)] [] [] (fun rr bx tk => rr = .tup [.sl 2 none (List.map E_palinode_api_File r.1), .v (.int .i64 r.2)] ∧ bx = [] ∧ tk = []) := by
  refine xenter Try.func20 rfl rfl fun g hg => ?_
  simp only [Try.ntmps20, slots]
  refine xseq ?_
  refine xregion ?_
  refine xvalP (pv_assign rfl) rfl rfl ?_
  refine xvalP (pv_assign rfl) rfl rfl ?_
  refine xnil ?_
  refine xthen ?_
  refine xseq ?_
  refine xseq ?_
  refine xregion ?_
  refine xvalP (pv_move rfl) rfl rfl ?_
  refine xvalP (pv_lenM UndC.h rfl) rfl rfl ?_
  refine xvalP (pv_bin2 rfl rfl rfl) rfl rfl ?_
  refine xnil ?_
  refine xthen ?_
  by_cases hp7 : 16 < (l1.length : Int)
  · replace h := h.1 hp7
    refine xcondT' (decide_eq_true hp7) rfl ?_
    refine xseq ?_
    refine xregion ?_
    refine xvalP (pv_assign rfl) rfl rfl ?_
    refine xvalP (pv_assign rfl) rfl rfl ?_
    refine xnil ?_
    refine xthen ?_
    refine xretc ?_
    refine xthen_ret ?_
    replace h := h.symm
    subst h
    exact xret2 hg rfl rfl (.nil_pl _) rfl (.refl _) (SubM.of (.nil _) (.nil _)) ⟨rfl, rfl, rfl⟩
  · replace h := h.2 hp7
    refine xcondF' (decide_eq_false hp7) rfl ?_
    refine xskipc ?_
    refine xthen ?_
    refine xseq ?_
    refine xregion ?_
    refine xvalP (pv_assign rfl) rfl rfl ?_
    refine xnil ?_
    refine xthen ?_
    refine xseq ?_
    refine xseq ?_
    refine xregion ?_
    refine xvalP (pv_assign rfl) rfl rfl ?_
    refine xnil ?_
    refine xthen ?_
    refine xblock ?_
    obtain ⟨Inv, ⟨m0, hI⟩, hS⟩ := h
    refine xloop (fun σ m => ∃ (out518 : List (ByteArray × (List UInt8))), ∃ (iv519 : Int), Inv (out518, iv519) m ∧ σ = ⟨[(0, .sl 2 none (List.map E_palinode_api_File l1)), (4, .sl 2 none (List.map E_palinode_api_File out518)), (5, .v (.int .i64 iv519))], [], []⟩) ⟨([] : List (ByteArray × (List UInt8))), 0, hI, rfl⟩ ⟨(.cons rfl (.refl _) (.cons rfl (.nil_pl _) (.cons rfl (.refl _) (.nil _)))), (SubM.of (.nil _) (.nil _))⟩ ?_
    rintro _ m ⟨out518, iv519, hI, rfl⟩
    obtain ⟨ag1, hag1, h⟩ : ∃ ag, (∀ s', ag s' → ∃ m', m' < m ∧ Inv s' m') ∧ palinoderef03_New_l1 l1 ag out518 iv519 r := ⟨_, fun _ h => h, hS (out518, iv519) _ hI⟩
    clear hS hI
    refine xseq ?_
    refine xseq ?_
    refine xregion ?_
    refine xvalP (pv_move rfl) rfl rfl ?_
    refine xvalP (pv_move rfl) rfl rfl ?_
    refine xvalP (pv_lenM UndC.h rfl) rfl rfl ?_
    refine xvalP (pv_bin2 rfl rfl rfl) rfl rfl ?_
    refine xnil ?_
    refine xthen ?_
    by_cases hp652 : iv519 < (l1.length : Int)
    · replace h := h.1 hp652
      refine xcondT' (decide_eq_true hp652) rfl ?_
      refine xskipc ?_
      refine xthen ?_
      refine xseq ?_
      refine xblock ?_
      refine xseq ?_
      refine xseqM (fun σ => ∃ (x745 : Bool), palinoderef03_New_j2 iv519 l1 out518 ag1 x745 r ∧ σ = ⟨[(0, .sl 2 none (List.map E_palinode_api_File l1)), (4, .sl 2 none (List.map E_palinode_api_File out518)), (5, .v (.int .i64 iv519)), (32, .v (.bool x745))], [], []⟩) ?_ ?_
      · refine xregion ?_
        refine xvalP (pv_move rfl) rfl rfl ?_
        refine xvalP (pv_move rfl) rfl rfl ?_
        obtain ⟨h747a, h⟩ := h
        obtain ⟨y746, h747b, h⟩ := h
        refine xvalP (pv_indexAddrM h747a h747b UndC.h ShpC.h rfl rfl) rfl rfl ?_
        refine xvalP (qv_fieldAddrE FldC.h rfl) rfl rfl ?_
        refine xval (qv_load ShpC.h rfl rfl rfl) rfl rfl ?_
        obtain ⟨y749, h748, h⟩ := h
        refine xcall0 (palinoderef03_IsName_con y746.1 _ h748) Try.func9 (by kernel_rfl) rfl (.cons rfl (.refl _) .nil) rfl rfl ?_
        refine xvalP (pv_move rfl) rfl rfl ?_
        by_cases hp750 : y749 = true
        · replace h := h.1 hp750
          refine xsetB 23 hp750 rfl ?_
          refine xvalP (pv_move rfl) rfl rfl ?_
          refine xvalP (pv_move rfl) rfl rfl ?_
          refine xvalP (pv_move rfl) rfl rfl ?_
          obtain ⟨h752a, h⟩ := h
          obtain ⟨y751, h752b, h⟩ := h
          refine xvalP (pv_indexAddrM h752a h752b UndC.h ShpC.h rfl rfl) rfl rfl ?_
          refine xvalP (qv_fieldAddrE FldC.h rfl) rfl rfl ?_
          refine xval (qv_load ShpC.h rfl rfl rfl) rfl rfl ?_
          obtain ⟨y754, h753, h⟩ := h
          refine xcall0 (palinoderef03_At_con out518 y751.1 _ h753) Try.func26 (by kernel_rfl) rfl (.cons rfl (.refl _) (.cons rfl (.refl _) .nil)) rfl rfl ?_
          refine xvalP (pv_bin2 rfl rfl rfl) rfl rfl ?_
          refine xvalP (pv_pick rfl rfl) rfl rfl ?_
          refine xnil ?_
          exact xmeet ⟨(decide (0 ≤ y754)), h, rfl⟩ ⟨(.cons rfl (.refl _) (.cons rfl (.refl _) (.cons rfl (.refl _) (.cons rfl (.refl _) (.nil _))))), (SubM.of (.nil _) (.nil _))⟩
        · replace h := h.2 hp750
          refine xsetB 23 (b_f hp750) rfl ?_
          refine xskip rfl rfl ?_
          refine xskip rfl rfl ?_
          refine xskip rfl rfl ?_
          refine xskip rfl rfl ?_
          refine xskip rfl rfl ?_
          refine xskip rfl rfl ?_
          refine xskip rfl rfl ?_
          refine xskip rfl rfl ?_
          refine xvalP (pv_pick rfl rfl) rfl rfl ?_
          refine xnil ?_
          exact xmeet ⟨false, h, rfl⟩ ⟨(.cons rfl (.refl _) (.cons rfl (.refl _) (.cons rfl (.refl _) (.cons rfl (.refl _) (.nil _))))), (SubM.of (.nil _) (.nil _))⟩
      · clear h
        rintro _ ⟨x745, h, rfl⟩
        by_cases hp756 : x745 = true
        · replace h := h.1 hp756
          refine xcondT' hp756 rfl ?_
          refine xseq ?_
          refine xregion ?_
          refine xvalP (pv_assign rfl) rfl rfl ?_
          refine xvalP (pv_assign rfl) rfl rfl ?_
          refine xnil ?_
          refine xthen ?_
          refine xretc ?_
          refine xthen_ret ?_
          refine xin_ret ?_
          refine xthen_ret ?_
          refine xthen_ret ?_
          refine xin_ret ?_
          refine xthen_ret ?_
          replace h := h.symm
          subst h
          exact xret2 hg rfl rfl (.nil_pl _) rfl (.refl _) (SubM.of (.nil _) (.nil _)) ⟨rfl, rfl, rfl⟩
        · replace h := h.2 hp756
          refine xcondF' (b_f hp756) rfl ?_
          refine xskipc ?_
          refine xthen ?_
          refine xseq ?_
          refine xregionD (m := 17) (by kernel_rfl) rfl ?_
          obtain ⟨h764a, h⟩ := h
          obtain ⟨y763, h764b, h⟩ := h
          obtain ⟨h766a, h⟩ := h
          obtain ⟨y765, h766b, h⟩ := h
          obtain ⟨y768, h767, h⟩ := h
          refine xpval 0 rfl (pv_move rfl) rfl rfl (by kernel_rfl) (by kernel_rfl) (by kernel_rfl) (fun _ _ _ _ h => h) ?_
          refine xpval 1 rfl (pv_move rfl) rfl rfl (by kernel_rfl) (by kernel_rfl) (by kernel_rfl) (fun _ _ _ _ h => h) ?_
          refine xpval 2 rfl (pv_move rfl) rfl rfl (by kernel_rfl) (by kernel_rfl) (by kernel_rfl) (fun _ _ _ _ h => h) ?_
          refine xpval 3 rfl (pv_indexAddrM h764a h764b UndC.h ShpC.h rfl rfl) rfl rfl (by kernel_rfl) (by kernel_rfl) (by kernel_rfl) (fun _ _ _ _ h => h) ?_
          refine xpval 4 rfl (qv_fieldAddrE FldC.h rfl) rfl rfl (by kernel_rfl) (by kernel_rfl) (by kernel_rfl) (fun _ _ _ _ h => h) ?_
          refine xpval 6 rfl (pv_move rfl) rfl rfl (by kernel_rfl) (by kernel_rfl) (by kernel_rfl) (fun _ _ _ _ h => h) ?_
          refine xpval 7 rfl (pv_move rfl) rfl rfl (by kernel_rfl) (by kernel_rfl) (by kernel_rfl) (fun _ _ _ _ h => h) ?_
          refine xpval 8 rfl (pv_indexAddrM h766a h766b UndC.h ShpC.h rfl rfl) rfl rfl (by kernel_rfl) (by kernel_rfl) (by kernel_rfl) (fun _ _ _ _ h => h) ?_
          refine xpval 9 rfl (qv_fieldAddrE FldC.h rfl) rfl rfl (by kernel_rfl) (by kernel_rfl) (by kernel_rfl) (fun _ _ _ _ h => h) ?_
          refine xpvalE 5 [10] rfl (qv_load ShpC.h rfl rfl rfl) rfl rfl (by kernel_rfl) (by kernel_rfl) (by kernel_rfl) (fun _ _ _ _ h => h) ?_
          refine xpvalE 10 [] rfl (qv_load ShpC.h rfl rfl rfl) rfl rfl (by kernel_rfl) (by kernel_rfl) (by kernel_rfl) (fun _ _ _ _ h => h) ?_
          refine xpstep (i := 11) (by kernel_rfl) rfl ?_
          refine wcallF (Fb := []) (Ft := []) (palinoderef03_Put_con out518 y763.1 y765.2 _ h767) Try.func21 (by kernel_rfl) rfl (.cons rfl (.refl _) (.cons rfl (.refl _) (.cons rfl (.refl _) .nil))) (by exact (SubM.of (by repeat (first | with_reducible exact SubB.refl _ | exact SubB.nil _ | refine SubB.keep rfl rfl (by first | with_reducible exact WkL.refl _ | ((repeat (first | exact WkL.nil | refine WkL.cons (by first | with_reducible exact Wk.refl _ | exact Wk.nil_own _ | exact Wk.nil_pl _ | with_reducible exact Wk.tok _ _ _ | exact Wk.tok _ _ _ | exact Wk.eq (by first | rfl | (simp []; done) | (simp []; omega))) ?_)); done) | exact WkL.refl _) ?_ | refine SubB.drop ?_)) (by repeat (first | exact SubT.nil _ | refine SubT.add ?_ | (refine SubT.keep ?_ ?_; focus (first | with_reducible rfl | (simp []; done))) | refine SubT.drop ?_)))) rfl rfl ?_
          rintro _ _ _ ⟨rfl, rfl, rfl⟩
          simp only [List.nil_append, List.cons_append]
          refine xpval 12 rfl (pv_move rfl) rfl rfl (by kernel_rfl) (by kernel_rfl) (by kernel_rfl) (fun _ _ _ _ h => h) ?_
          refine xpval 13 rfl (pv_extract rfl rfl) rfl rfl (by kernel_rfl) (by kernel_rfl) (by kernel_rfl) (fun _ _ _ _ h => h) ?_
          refine xpval 14 rfl (pv_extract rfl rfl) rfl rfl (by kernel_rfl) (by kernel_rfl) (by kernel_rfl) (fun _ _ _ _ h => h) ?_
          refine xpval 15 rfl (pv_assign rfl) rfl rfl (by kernel_rfl) (by kernel_rfl) (by kernel_rfl) (fun _ _ _ _ h => h) ?_
          refine xpval 16 rfl (pv_assign rfl) rfl rfl (by kernel_rfl) (by kernel_rfl) (by kernel_rfl) (fun _ _ _ _ h => h) ?_
          refine xpdone (by kernel_rfl) ?_
          refine xthen ?_
          refine xseq ?_
          refine xseq ?_
          refine xregion ?_
          refine xvalP (pv_move rfl) rfl rfl ?_
          refine xvalP (pv_bin2 rfl rfl rfl) rfl rfl ?_
          refine xnil ?_
          refine xthen ?_
          by_cases hp772 : ¬ (y768.2 = 0)
          · replace h := h.1 hp772
            refine xcondT' (not_t (decide_eq_false hp772)) rfl ?_
            refine xseq ?_
            refine xregion ?_
            refine xvalP (pv_move rfl) rfl rfl ?_
            refine xvalP (pv_assign rfl) rfl rfl ?_
            refine xvalP (pv_assign rfl) rfl rfl ?_
            refine xnil ?_
            refine xthen ?_
            refine xretc ?_
            refine xthen_ret ?_
            refine xin_ret ?_
            refine xthen_ret ?_
            refine xthen_ret ?_
            refine xin_ret ?_
            refine xthen_ret ?_
            replace h := h.symm
            subst h
            exact xret2 hg rfl rfl (.nil_pl _) rfl (.refl _) (SubM.of (.nil _) (.nil _)) ⟨rfl, rfl, rfl⟩
          · replace h := h.2 hp772
            refine xcondF' (not_f (decide_eq_true (Decidable.of_not_not hp772))) rfl ?_
            refine xskipc ?_
            refine xthen ?_
            refine xregion ?_
            refine xvalP (pv_move rfl) rfl rfl ?_
            refine xvalP (pv_assign rfl) rfl rfl ?_
            refine xnil ?_
            refine xin_normal ?_
            refine xthen ?_
            refine xregion ?_
            refine xvalP (pv_move rfl) rfl rfl ?_
            obtain ⟨h773, h⟩ := h
            refine xvalP (pv_addI h773 rfl rfl) rfl rfl ?_
            refine xvalP (pv_assign rfl) rfl rfl ?_
            refine xnil ?_
            obtain ⟨m', hm, hI⟩ := hag1 _ h
            exact xagain ⟨y768.1, (iv519 + 1), hI, rfl⟩ hm ⟨(.cons rfl (.refl _) (.cons rfl (.refl _) (.cons rfl (.refl _) (.nil _)))), (SubM.of (.nil _) (.nil _))⟩
    · replace h := h.2 hp652
      refine xcondF' (decide_eq_false hp652) rfl ?_
      refine xexit ?_
      refine xthen_exit ?_
      refine xthen_exit ?_
      refine xin_same rfl ?_
      refine xthen ?_
      refine xseq ?_
      refine xregion ?_
      refine xvalP (pv_move rfl) rfl rfl ?_
      refine xvalP (pv_assign rfl) rfl rfl ?_
      refine xvalP (pv_assign rfl) rfl rfl ?_
      refine xnil ?_
      refine xthen ?_
      refine xretc ?_
      replace h := h.symm
      subst h
      exact xret2 hg rfl rfl (.refl _) rfl (.refl _) (SubM.of (.nil _) (.nil _)) ⟨rfl, rfl, rfl⟩
/-- palinoderef03.Get -/
def palinoderef03_Get_R (l1 : List (ByteArray × (List UInt8))) (name2 : ByteArray) (r : (List UInt8)) : Prop :=
  ∃ y4 : Int, palinoderef03_At_R l1 name2 y4 ∧ ((y4 < 0 → r = ([] : List UInt8)) ∧ (¬ (y4 < 0) → 0 ≤ (y4 : Int) ∧ ∃ y9 : ByteArray × (List UInt8), l1[(y4 : Int).toNat]? = some y9 ∧ r = y9.2))
def palinoderef03_Get_ev (fuel : Nat) (l1 : List (ByteArray × (List UInt8))) (name2 : ByteArray) : Option ((List UInt8)) :=
  ((palinoderef03_At_ev fuel l1 name2).bind fun y4 => (if y4 < 0 then some ([] : List UInt8) else (if 0 ≤ (y4 : Int) then ((l1[(y4 : Int).toNat]?).bind fun y9 => some y9.2) else none)))
theorem palinoderef03_Get_ok {fuel : Nat} {l1 : List (ByteArray × (List UInt8))} {name2 : ByteArray} {r : (List UInt8)} (h : palinoderef03_Get_ev fuel l1 name2 = some r) : palinoderef03_Get_R l1 name2 r := by
  unfold palinoderef03_Get_ev at h
  unfold palinoderef03_Get_R
  obtain ⟨q308, g308, h⟩ := bind_ok h
  refine ⟨q308, palinoderef03_At_ok g308, ?_⟩
  refine ⟨fun g309 => ?_, fun g309 => ?_⟩
  · rw [if_pos g309] at h
    exact (Option.some.inj h).symm
  · rw [if_neg g309] at h
    obtain ⟨g310, h⟩ := if_ok h
    refine ⟨g310, ?_⟩
    obtain ⟨q311, g311, h⟩ := bind_ok h
    refine ⟨q311, g311, ?_⟩
    exact (Option.some.inj h).symm
set_option maxHeartbeats 4000000 in
theorem palinoderef03_Get_con (l1 : List (ByteArray × (List UInt8))) (name2 : ByteArray) (r : (List UInt8)) (h : palinoderef03_Get_R l1 name2 r) : Con Try.prog 22 [.sl 2 none (List.map E_palinode_api_File l1), .v (.string name2)] [] [] (Ret (.sl 1 none (List.map eb r))) := by
  refine xenter Try.func22 rfl rfl fun g hg => ?_
  simp only [Try.ntmps22, slots]
  refine xseq ?_
  refine xregion ?_
  refine xvalP (pv_assign rfl) rfl rfl ?_
  refine xnil ?_
  refine xthen ?_
  refine xseq ?_
  refine xregion ?_
  refine xvalP (pv_move rfl) rfl rfl ?_
  refine xvalP (pv_move rfl) rfl rfl ?_
  obtain ⟨y4, h3, h⟩ := h
  refine xcall0 (palinoderef03_At_con l1 name2 _ h3) Try.func26 (by kernel_rfl) rfl (.cons rfl (.refl _) (.cons rfl (.refl _) .nil)) rfl rfl ?_
  refine xvalP (pv_assign rfl) rfl rfl ?_
  refine xnil ?_
  refine xthen ?_
  refine xseq ?_
  refine xseq ?_
  refine xregion ?_
  refine xvalP (pv_move rfl) rfl rfl ?_
  refine xvalP (pv_bin2 rfl rfl rfl) rfl rfl ?_
  refine xnil ?_
  refine xthen ?_
  by_cases hp8 : y4 < 0
  · replace h := h.1 hp8
    refine xcondT' (decide_eq_true hp8) rfl ?_
    refine xseq ?_
    refine xregion ?_
    refine xvalP (pv_assign rfl) rfl rfl ?_
    refine xnil ?_
    refine xthen ?_
    refine xretc ?_
    refine xthen_ret ?_
    replace h := h.symm
    subst h
    exact xret1 hg rfl rfl (.nil_pl _) (SubM.of (.nil _) (.nil _)) ⟨rfl, rfl, rfl⟩
  · replace h := h.2 hp8
    refine xcondF' (decide_eq_false hp8) rfl ?_
    refine xskipc ?_
    refine xthen ?_
    refine xseq ?_
    refine xregion ?_
    refine xvalP (pv_move rfl) rfl rfl ?_
    refine xvalP (pv_move rfl) rfl rfl ?_
    obtain ⟨h10a, h⟩ := h
    obtain ⟨y9, h10b, h⟩ := h
    refine xvalP (pv_indexAddrM h10a h10b UndC.h ShpC.h rfl rfl) rfl rfl ?_
    refine xvalP (qv_fieldAddrE FldC.h rfl) rfl rfl ?_
    refine xval (qv_load ShpC.h rfl rfl rfl) rfl rfl ?_
    refine xvalP (pv_assign rfl) rfl rfl ?_
    refine xnil ?_
    refine xthen ?_
    refine xretc ?_
    replace h := h.symm
    subst h
    exact xret1 hg rfl rfl (.refl _) (SubM.of (.nil _) (.nil _)) ⟨rfl, rfl, rfl⟩
/-- palinoderef03.Cut -/
def palinoderef03_Cut_j1 (l1 : List (ByteArray × (List UInt8))) (y5 : Int) (nv3 : Int) (name2 : ByteArray) (x30 : Bool) (r : (List (ByteArray × (List UInt8))) × Int) : Prop :=
  ((x30 = true → r = (l1, 3)) ∧ (¬ (x30 = true) → 0 ≤ (y5 : Int) ∧ ∃ y38 : ByteArray × (List UInt8), l1[(y5 : Int).toNat]? = some y38 ∧ (0 ≤ (nv3 : Int) ∧ (nv3 : Int) ≤ (y38.2.length : Int)) ∧ ∃ y42 : (List (ByteArray × (List UInt8))) × Int, palinoderef03_Put_R l1 name2 (y38.2.take (nv3 : Int).toNat) y42 ∧ r = (y42.1, y42.2)))
def palinoderef03_Cut_R (l1 : List (ByteArray × (List UInt8))) (name2 : ByteArray) (nv3 : Int) (r : (List (ByteArray × (List UInt8))) × Int) : Prop :=
  ∃ y5 : Int, palinoderef03_At_R l1 name2 y5 ∧ ((y5 < 0 → r = (l1, 6)) ∧ (¬ (y5 < 0) → ((nv3 < 0 → palinoderef03_Cut_j1 l1 y5 nv3 name2 true r) ∧ (¬ (nv3 < 0) → 0 ≤ (y5 : Int) ∧ ∃ y33 : ByteArray × (List UInt8), l1[(y5 : Int).toNat]? = some y33 ∧ palinoderef03_Cut_j1 l1 y5 nv3 name2 (decide ((y33.2.length : Int) < nv3)) r))))
def palinoderef03_Cut_j1_ev (fuel : Nat) (l1 : List (ByteArray × (List UInt8))) (y5 : Int) (nv3 : Int) (name2 : ByteArray) (x30 : Bool) : Option ((List (ByteArray × (List UInt8))) × Int) :=
  (if x30 = true then some (l1, 3) else (if 0 ≤ (y5 : Int) then ((l1[(y5 : Int).toNat]?).bind fun y38 => (if (0 ≤ (nv3 : Int) ∧ (nv3 : Int) ≤ (y38.2.length : Int)) then ((palinoderef03_Put_ev fuel l1 name2 (y38.2.take (nv3 : Int).toNat)).bind fun y42 => some (y42.1, y42.2)) else none)) else none))
theorem palinoderef03_Cut_j1_ok {fuel : Nat} {l1 : List (ByteArray × (List UInt8))} {y5 : Int} {nv3 : Int} {name2 : ByteArray} {x30 : Bool} {r : (List (ByteArray × (List UInt8))) × Int} (h : palinoderef03_Cut_j1_ev fuel l1 y5 nv3 name2 x30 = some r) : palinoderef03_Cut_j1 l1 y5 nv3 name2 x30 r := by
  unfold palinoderef03_Cut_j1_ev at h
  unfold palinoderef03_Cut_j1
  refine ⟨fun g312 => ?_, fun g312 => ?_⟩
  · rw [if_pos g312] at h
    exact (Option.some.inj h).symm
  · rw [if_neg g312] at h
    obtain ⟨g313, h⟩ := if_ok h
    refine ⟨g313, ?_⟩
    obtain ⟨q314, g314, h⟩ := bind_ok h
    refine ⟨q314, g314, ?_⟩
    obtain ⟨g315, h⟩ := if_ok h
    refine ⟨g315, ?_⟩
    obtain ⟨q316, g316, h⟩ := bind_ok h
    refine ⟨q316, palinoderef03_Put_ok g316, ?_⟩
    exact (Option.some.inj h).symm
def palinoderef03_Cut_ev (fuel : Nat) (l1 : List (ByteArray × (List UInt8))) (name2 : ByteArray) (nv3 : Int) : Option ((List (ByteArray × (List UInt8))) × Int) :=
  ((palinoderef03_At_ev fuel l1 name2).bind fun y5 => (if y5 < 0 then some (l1, 6) else (if nv3 < 0 then palinoderef03_Cut_j1_ev fuel l1 y5 nv3 name2 true else (if 0 ≤ (y5 : Int) then ((l1[(y5 : Int).toNat]?).bind fun y33 => palinoderef03_Cut_j1_ev fuel l1 y5 nv3 name2 (decide ((y33.2.length : Int) < nv3))) else none))))
theorem palinoderef03_Cut_ok {fuel : Nat} {l1 : List (ByteArray × (List UInt8))} {name2 : ByteArray} {nv3 : Int} {r : (List (ByteArray × (List UInt8))) × Int} (h : palinoderef03_Cut_ev fuel l1 name2 nv3 = some r) : palinoderef03_Cut_R l1 name2 nv3 r := by
  unfold palinoderef03_Cut_ev at h
  unfold palinoderef03_Cut_R
  obtain ⟨q317, g317, h⟩ := bind_ok h
  refine ⟨q317, palinoderef03_At_ok g317, ?_⟩
  refine ⟨fun g318 => ?_, fun g318 => ?_⟩
  · rw [if_pos g318] at h
    exact (Option.some.inj h).symm
  · rw [if_neg g318] at h
    refine ⟨fun g319 => ?_, fun g319 => ?_⟩
    · rw [if_pos g319] at h
      exact palinoderef03_Cut_j1_ok h
    · rw [if_neg g319] at h
      obtain ⟨g320, h⟩ := if_ok h
      refine ⟨g320, ?_⟩
      obtain ⟨q321, g321, h⟩ := bind_ok h
      refine ⟨q321, g321, ?_⟩
      exact palinoderef03_Cut_j1_ok h
set_option maxHeartbeats 4000000 in
theorem palinoderef03_Cut_con (l1 : List (ByteArray × (List UInt8))) (name2 : ByteArray) (nv3 : Int) (r : (List (ByteArray × (List UInt8))) × Int) (h : palinoderef03_Cut_R l1 name2 nv3 r) : Con Try.prog 23 [.sl 2 none (List.map E_palinode_api_File l1), .v (.string name2), .v (.int .i64 nv3)] [] [] (fun rr bx tk => rr = .tup [.sl 2 none (List.map E_palinode_api_File r.1), .v (.int .i64 r.2)] ∧ bx = [] ∧ tk = []) := by
  refine xenter Try.func23 rfl rfl fun g hg => ?_
  simp only [Try.ntmps23, slots]
  refine xseq ?_
  refine xregion ?_
  refine xvalP (pv_assign rfl) rfl rfl ?_
  refine xvalP (pv_assign rfl) rfl rfl ?_
  refine xnil ?_
  refine xthen ?_
  refine xseq ?_
  refine xregion ?_
  refine xvalP (pv_move rfl) rfl rfl ?_
  refine xvalP (pv_move rfl) rfl rfl ?_
  obtain ⟨y5, h4, h⟩ := h
  refine xcall0 (palinoderef03_At_con l1 name2 _ h4) Try.func26 (by kernel_rfl) rfl (.cons rfl (.refl _) (.cons rfl (.refl _) .nil)) rfl rfl ?_
  refine xvalP (pv_assign rfl) rfl rfl ?_
  refine xnil ?_
  refine xthen ?_
  refine xseq ?_
  refine xseq ?_
  refine xregion ?_
  refine xvalP (pv_move rfl) rfl rfl ?_
  refine xvalP (pv_bin2 rfl rfl rfl) rfl rfl ?_
  refine xnil ?_
  refine xthen ?_
  by_cases hp9 : y5 < 0
  · replace h := h.1 hp9
    refine xcondT' (decide_eq_true hp9) rfl ?_
    refine xseq ?_
    refine xregion ?_
    refine xvalP (pv_move rfl) rfl rfl ?_
    refine xvalP (pv_assign rfl) rfl rfl ?_
    refine xvalP (pv_assign rfl) rfl rfl ?_
    refine xnil ?_
    refine xthen ?_
    refine xretc ?_
    refine xthen_ret ?_
    replace h := h.symm
    subst h
    exact xret2 hg rfl rfl (.refl _) rfl (.refl _) (SubM.of (.nil _) (.nil _)) ⟨rfl, rfl, rfl⟩
  · replace h := h.2 hp9
    refine xcondF' (decide_eq_false hp9) rfl ?_
    refine xskipc ?_
    refine xthen ?_
    refine xseq ?_
    refine xseqM (fun σ => ∃ (x30 : Bool), palinoderef03_Cut_j1 l1 y5 nv3 name2 x30 r ∧ σ = ⟨[(0, .sl 2 none (List.map E_palinode_api_File l1)), (1, .v (.string name2)), (2, .v (.int .i64 nv3)), (8, .v (.int .i64 y5)), (26, .v (.bool x30))], [], []⟩) ?_ ?_
    · refine xregion ?_
      refine xvalP (pv_move rfl) rfl rfl ?_
      refine xvalP (pv_bin2 rfl rfl rfl) rfl rfl ?_
      refine xvalP (pv_move rfl) rfl rfl ?_
      by_cases hp32 : nv3 < 0
      · replace h := h.1 hp32
        refine xsetB 17 (decide_eq_true hp32) rfl ?_
        refine xskip rfl rfl ?_
        refine xskip rfl rfl ?_
        refine xskip rfl rfl ?_
        refine xskip rfl rfl ?_
        refine xskip rfl rfl ?_
        refine xskip rfl rfl ?_
        refine xskip rfl rfl ?_
        refine xskip rfl rfl ?_
        refine xvalP (pv_pick rfl rfl) rfl rfl ?_
        refine xnil ?_
        exact xmeet ⟨true, h, rfl⟩ ⟨(.cons rfl (.refl _) (.cons rfl (.refl _) (.cons rfl (.refl _) (.cons rfl (.refl _) (.cons rfl (.refl _) (.nil _)))))), (SubM.of (.nil _) (.nil _))⟩
      · replace h := h.2 hp32
        refine xsetB 17 (decide_eq_false hp32) rfl ?_
        refine xvalP (pv_move rfl) rfl rfl ?_
        refine xvalP (pv_move rfl) rfl rfl ?_
        refine xvalP (pv_move rfl) rfl rfl ?_
        obtain ⟨h34a, h⟩ := h
        obtain ⟨y33, h34b, h⟩ := h
        refine xvalP (pv_indexAddrM h34a h34b UndC.h ShpC.h rfl rfl) rfl rfl ?_
        refine xvalP (qv_fieldAddrE FldC.h rfl) rfl rfl ?_
        refine xval (qv_load ShpC.h rfl rfl rfl) rfl rfl ?_
        refine xvalP (pv_lenM UndC.h rfl) rfl rfl ?_
        refine xvalP (pv_bin2 rfl rfl rfl) rfl rfl ?_
        refine xvalP (pv_pick rfl rfl) rfl rfl ?_
        refine xnil ?_
        exact xmeet ⟨(decide ((y33.2.length : Int) < nv3)), h, rfl⟩ ⟨(.cons rfl (.refl _) (.cons rfl (.refl _) (.cons rfl (.refl _) (.cons rfl (.refl _) (.cons rfl (.refl _) (.nil _)))))), (SubM.of (.nil _) (.nil _))⟩
    · clear h
      rintro _ ⟨x30, h, rfl⟩
      by_cases hp37 : x30 = true
      · replace h := h.1 hp37
        refine xcondT' hp37 rfl ?_
        refine xseq ?_
        refine xregion ?_
        refine xvalP (pv_move rfl) rfl rfl ?_
        refine xvalP (pv_assign rfl) rfl rfl ?_
        refine xvalP (pv_assign rfl) rfl rfl ?_
        refine xnil ?_
        refine xthen ?_
        refine xretc ?_
        refine xthen_ret ?_
        replace h := h.symm
        subst h
        exact xret2 hg rfl rfl (.refl _) rfl (.refl _) (SubM.of (.nil _) (.nil _)) ⟨rfl, rfl, rfl⟩
      · replace h := h.2 hp37
        refine xcondF' (b_f hp37) rfl ?_
        refine xskipc ?_
        refine xthen ?_
        refine xseq ?_
        refine xregion ?_
        refine xvalP (pv_move rfl) rfl rfl ?_
        refine xvalP (pv_move rfl) rfl rfl ?_
        refine xvalP (pv_move rfl) rfl rfl ?_
        refine xvalP (pv_move rfl) rfl rfl ?_
        obtain ⟨h39a, h⟩ := h
        obtain ⟨y38, h39b, h⟩ := h
        refine xvalP (pv_indexAddrM h39a h39b UndC.h ShpC.h rfl rfl) rfl rfl ?_
        refine xvalP (qv_fieldAddrE FldC.h rfl) rfl rfl ?_
        refine xval (qv_load ShpC.h rfl rfl rfl) rfl rfl ?_
        refine xvalP (pv_move rfl) rfl rfl ?_
        obtain ⟨h40, h⟩ := h
        refine xvalP (pv_sliceHi h40 UndC.h ShpC.h rfl rfl) rfl rfl ?_
        obtain ⟨y42, h41, h⟩ := h
        refine xcallF (Fb := []) (Ft := []) (palinoderef03_Put_con l1 name2 (y38.2.take (nv3 : Int).toNat) _ h41) Try.func21 (by kernel_rfl) rfl (.cons rfl (.refl _) (.cons rfl (.refl _) (.cons rfl (.refl _) .nil))) (by exact (SubM.of (by repeat (first | with_reducible exact SubB.refl _ | exact SubB.nil _ | refine SubB.keep rfl rfl (by first | with_reducible exact WkL.refl _ | ((repeat (first | exact WkL.nil | refine WkL.cons (by first | with_reducible exact Wk.refl _ | exact Wk.nil_own _ | exact Wk.nil_pl _ | with_reducible exact Wk.tok _ _ _ | exact Wk.tok _ _ _ | exact Wk.eq (by first | rfl | (simp []; done) | (simp []; omega))) ?_)); done) | exact WkL.refl _) ?_ | refine SubB.drop ?_)) (by repeat (first | exact SubT.nil _ | refine SubT.add ?_ | (refine SubT.keep ?_ ?_; focus (first | with_reducible rfl | (simp []; done))) | refine SubT.drop ?_)))) rfl rfl ?_
        rintro _ _ _ ⟨rfl, rfl, rfl⟩
        simp only [List.nil_append, List.cons_append]
        refine xvalP (pv_extract rfl rfl) rfl rfl ?_
        refine xvalP (pv_extract rfl rfl) rfl rfl ?_
        refine xvalP (pv_assign rfl) rfl rfl ?_
        refine xvalP (pv_assign rfl) rfl rfl ?_
        refine xnil ?_
        refine xthen ?_
        refine xretc ?_
        replace h := h.symm
        subst h
        exact xret2 hg rfl rfl (.refl _) rfl (.refl _) (SubM.of (.nil _) (.nil _)) ⟨rfl, rfl, rfl⟩
/-- slices.Clone [ []api.File,api.File] -/
def slices_Clone_v3_R (l1 : List (ByteArray × (List UInt8))) (r : (List (ByteArray × (List UInt8)))) : Prop :=
  ∀ bv7 : Bool, (0 < l1.length → bv7 = false) → ((bv7 = true → r = ([] : List (ByteArray × (List UInt8)))) ∧ (¬ (bv7 = true) → Room ((([] : List (ByteArray × (List UInt8)))).length + l1.length) 40 ∧ r = (([] : List (ByteArray × (List UInt8))) ++ l1)))
def slices_Clone_v3_ev (fuel : Nat) (l1 : List (ByteArray × (List UInt8))) : Option ((List (ByteArray × (List UInt8)))) :=
  (bothE (decide (0 < l1.length)) fun bv7 => (if bv7 = true then some ([] : List (ByteArray × (List UInt8))) else (if Room ((([] : List (ByteArray × (List UInt8)))).length + l1.length) 40 then some (([] : List (ByteArray × (List UInt8))) ++ l1) else none)))
theorem slices_Clone_v3_ok {fuel : Nat} {l1 : List (ByteArray × (List UInt8))} {r : (List (ByteArray × (List UInt8)))} (h : slices_Clone_v3_ev fuel l1 = some r) : slices_Clone_v3_R l1 r := by
  unfold slices_Clone_v3_ev at h
  unfold slices_Clone_v3_R
  intro q322 g322
  replace h := bothE_ok h q322 (fun e => g322 (of_decide_eq_true e))
  refine ⟨fun g323 => ?_, fun g323 => ?_⟩
  · rw [if_pos g323] at h
    exact (Option.some.inj h).symm
  · rw [if_neg g323] at h
    obtain ⟨g324, h⟩ := if_ok h
    refine ⟨g324, ?_⟩
    exact (Option.some.inj h).symm
set_option maxHeartbeats 4000000 in
theorem slices_Clone_v3_con (l1 : List (ByteArray × (List UInt8))) (ia2 : Option (Nat × Nat)) (r : (List (ByteArray × (List UInt8)))) (h : slices_Clone_v3_R l1 r) : Con Try.prog 32 [.rb ia2 l1.length] [rbx ia2 30 2 (List.map E_palinode_api_File l1)] [] (fun rr bx tk => ∃ j1, rr = .rb j1 r.length ∧ bx = [rbx j1 30 2 (List.map E_palinode_api_File r), rbx ia2 30 2 (List.map E_palinode_api_File l1)] ∧ tk = []) := by
  refine xenter Try.func32 rfl rfl fun g hg => ?_
  simp only [Try.ntmps32, slots]
  refine xseq ?_
  refine xregion ?_
  refine xvalP (pv_assign rfl) rfl rfl ?_
  refine xaddRb E_palinode_api_File 30 2 ?_
  refine xre 2 rfl Wk.nil_rb ?_
  refine xnil ?_
  refine xthen ?_
  refine xseq ?_
  refine xseq ?_
  refine xregion ?_
  refine xvalP (pv_move rfl) rfl rfl ?_
  refine xrbok 3 rfl fun hA6 => ?_
  refine xvalP (pv_eqNilRb UndC.h rfl rfl) rfl rfl ?_
  obtain ⟨bv7, hb6⟩ : ∃ b : Bool, (Option.isNone ia2) = b := ⟨_, rfl⟩
  replace h := h bv7 (fun q => hb6 ▸ hA6 q)
  refine xsetB 4 (b' := bv7) (by rw [hb6]) rfl ?_
  refine xnil ?_
  refine xthen ?_
  by_cases hp8 : bv7 = true
  · replace h := h.1 hp8
    refine xcondT' hp8 rfl ?_
    refine xseq ?_
    refine xregion ?_
    refine xvalP (pv_assign rfl) rfl rfl ?_
    refine xaddRb E_palinode_api_File 30 2 ?_
    refine xre 2 rfl Wk.nil_rb ?_
    refine xnil ?_
    refine xthen ?_
    refine xretc ?_
    refine xthen_ret ?_
    replace h := h.symm
    subst h
    exact xret1 (bx' := [rbx none 30 2 (List.map E_palinode_api_File (([] : List (ByteArray × (List UInt8))))), rbx ia2 30 2 (List.map E_palinode_api_File l1)]) (tk' := []) hg rfl rfl (.refl _) (SubM.of (by repeat (first | with_reducible exact SubB.refl _ | exact SubB.nil _ | refine SubB.keep rfl rfl (by first | with_reducible exact WkL.refl _ | ((repeat (first | exact WkL.nil | refine WkL.cons (by first | with_reducible exact Wk.refl _ | exact Wk.nil_own _ | exact Wk.nil_pl _ | with_reducible exact Wk.tok _ _ _ | exact Wk.tok _ _ _ | exact Wk.eq (by first | rfl | (simp []; done) | (simp []; omega))) ?_)); done) | exact WkL.refl _) ?_ | refine SubB.drop ?_)) (by repeat (first | exact SubT.nil _ | refine SubT.add ?_ | (refine SubT.keep ?_ ?_; focus (first | with_reducible rfl | (simp []; done))) | refine SubT.drop ?_))) ⟨none, rfl, rfl, rfl⟩
  · replace h := h.2 hp8
    refine xcondF' (b_f hp8) rfl ?_
    refine xskipc ?_
    refine xthen ?_
    refine xseq ?_
    refine xregion ?_
    refine xbuildSliceM (f := E_palinode_api_File) ([] : List (ByteArray × (List UInt8))) UndC.h InfC.h rfl rfl (by first | exact wkR_of rfl | (repeat (first | exact WkR.nil | refine WkR.cons (by (repeat (first | exact WkL.nil | refine WkL.cons (by first | with_reducible exact Wk.refl _ | exact Wk.nil_own _ | exact Wk.nil_pl _ | with_reducible exact Wk.tok _ _ _ | exact Wk.tok _ _ _ | exact Wk.eq (by first | rfl | (simp []; done) | (simp []; omega))) ?_))) ?_))) rfl rfl rfl rfl fun s5 => ?_
    refine xvalP (pv_move rfl) rfl rfl ?_
    refine xthaw 0 5 rfl rfl rfl ?_
    obtain ⟨h9, h⟩ := h
    refine xappendRb (f := E_palinode_api_File) (l := ([] : List (ByteArray × (List UInt8)))) (l2 := l1) 0 (by simp) h9 UndC.h InfC.h rfl rfl (.refl _) (.rb 2 rfl rfl rfl) rfl rfl rfl fun i10 => ?_
    refine xvalP (pv_assign rfl) rfl rfl ?_
    refine xnil ?_
    refine xthen ?_
    refine xretc ?_
    replace h := h.symm
    subst h
    exact xret1 (bx' := [rbx i10 30 2 (List.map E_palinode_api_File ((([] : List (ByteArray × (List UInt8))) ++ l1))), rbx ia2 30 2 (List.map E_palinode_api_File l1)]) (tk' := []) hg rfl rfl (.refl _) (SubM.of (.keep rfl rfl (.refl _) (.drop (.keep rfl rfl (.refl _) (.nil _)))) (.nil _)) ⟨i10, rfl, rfl, rfl⟩
/-- (*files.Table).Copy -/
def files_Table_Copy_R (l1 : List (ByteArray × (List UInt8))) (r : (List (ByteArray × (List UInt8)))) : Prop :=
  ∃ y4 : (List (ByteArray × (List UInt8))), slices_Clone_v3_R l1 y4 ∧ r = y4
def files_Table_Copy_ev (fuel : Nat) (l1 : List (ByteArray × (List UInt8))) : Option ((List (ByteArray × (List UInt8)))) :=
  ((slices_Clone_v3_ev fuel l1).bind fun y4 => some y4)
theorem files_Table_Copy_ok {fuel : Nat} {l1 : List (ByteArray × (List UInt8))} {r : (List (ByteArray × (List UInt8)))} (h : files_Table_Copy_ev fuel l1 = some r) : files_Table_Copy_R l1 r := by
  unfold files_Table_Copy_ev at h
  unfold files_Table_Copy_R
  obtain ⟨q325, g325, h⟩ := bind_ok h
  refine ⟨q325, slices_Clone_v3_ok g325, ?_⟩
  exact (Option.some.inj h).symm
set_option maxHeartbeats 4000000 in
theorem files_Table_Copy_con (l1 : List (ByteArray × (List UInt8))) (bx0 : Nat) (ia2 : Option (Nat × Nat)) (r : (List (ByteArray × (List UInt8)))) (h : files_Table_Copy_R l1 r) : Con Try.prog 24 [.v (.pointer (some ⟨bx0, 0, none⟩))] [⟨bx0, 60, [.rb ia2 l1.length]⟩, rbx ia2 30 2 (List.map E_palinode_api_File l1)] [] (fun rr bx tk => ∃ b9 : Nat, ∃ j1, rr = .v (.pointer (some ⟨b9, 0, none⟩)) ∧ bx = [rbx j1 30 2 (List.map E_palinode_api_File r), ⟨b9, 60, [.rb j1 r.length]⟩, rbx ia2 30 2 (List.map E_palinode_api_File l1), ⟨bx0, 60, [.rb ia2 l1.length]⟩] ∧ tk = []) := by
  refine xenter Try.func24 rfl rfl fun g hg => ?_
  simp only [Try.ntmps24, slots]
  refine xseq ?_
  refine xregion ?_
  refine xvalP (pv_assign rfl) rfl rfl ?_
  refine xnil ?_
  refine xthen ?_
  refine xseq ?_
  refine xregion ?_
  refine xvalP (pv_move rfl) rfl rfl ?_
  refine xvalP (pv_nilCheck rfl) rfl rfl ?_
  refine xvalP (qv_fieldAddrB FldC.h rfl) rfl rfl ?_
  refine xval (qv_loadB 0 ShpC.h rfl rfl rfl rfl) rfl rfl ?_
  obtain ⟨y4, h3, h⟩ := h
  refine xcallF (Fb := [⟨bx0, 60, [.rb ia2 l1.length]⟩]) (Ft := []) (slices_Clone_v3_con l1 ia2 _ h3) Try.func32 (by kernel_rfl) rfl (.cons rfl (.eq (by first | rfl | simp)) .nil) (by refine SubM.trans (SubM.mvB 1 rfl) ?_; (simp only [List.eraseIdx]); exact (SubM.of (by repeat (first | with_reducible exact SubB.refl _ | exact SubB.nil _ | refine SubB.keep rfl rfl (by first | with_reducible exact WkL.refl _ | ((repeat (first | exact WkL.nil | refine WkL.cons (by first | with_reducible exact Wk.refl _ | exact Wk.nil_own _ | exact Wk.nil_pl _ | with_reducible exact Wk.tok _ _ _ | exact Wk.tok _ _ _ | exact Wk.eq (by first | rfl | (simp []; done) | (simp []; omega))) ?_)); done) | exact WkL.refl _) ?_ | refine SubB.drop ?_)) (by repeat (first | exact SubT.nil _ | refine SubT.add ?_ | (refine SubT.keep ?_ ?_; focus (first | with_reducible rfl | (simp []; done))) | refine SubT.drop ?_)))) rfl rfl ?_
  rintro _ _ _ ⟨i5, rfl, rfl, rfl⟩
  simp only [List.nil_append, List.cons_append]
  refine xvalP (pv_buildC StrC.h rfl rfl) rfl rfl ?_
  refine xbox rfl rfl rfl rfl fun b9 => ?_
  refine xvalP (pv_assign rfl) rfl rfl ?_
  refine xnil ?_
  refine xthen ?_
  refine xretc ?_
  replace h := h.symm
  subst h
  exact xret1 (bx' := [rbx i5 30 2 (List.map E_palinode_api_File y4), ⟨b9, 60, [.rb i5 y4.length]⟩, rbx ia2 30 2 (List.map E_palinode_api_File l1), ⟨bx0, 60, [.rb ia2 l1.length]⟩]) (tk' := []) hg rfl rfl (.refl _) (by refine SubM.trans (SubM.mvB 3 rfl) ?_; refine SubM.trans (SubM.mvB 3 rfl) ?_; refine SubM.trans (SubM.mvB 2 rfl) ?_; refine SubM.trans (SubM.mvB 3 rfl) ?_; (simp only [List.eraseIdx]); exact (SubM.of (by repeat (first | with_reducible exact SubB.refl _ | exact SubB.nil _ | refine SubB.keep rfl rfl (by first | with_reducible exact WkL.refl _ | ((repeat (first | exact WkL.nil | refine WkL.cons (by first | with_reducible exact Wk.refl _ | exact Wk.nil_own _ | exact Wk.nil_pl _ | with_reducible exact Wk.tok _ _ _ | exact Wk.tok _ _ _ | exact Wk.eq (by first | rfl | (simp []; done) | (simp []; omega))) ?_)); done) | exact WkL.refl _) ?_ | refine SubB.drop ?_)) (by repeat (first | exact SubT.nil _ | refine SubT.add ?_ | (refine SubT.keep ?_ ?_; focus (first | with_reducible rfl | (simp []; done))) | refine SubT.drop ?_)))) ⟨b9, i5, rfl, rfl, rfl⟩
/-- palinodelaw03.length -/
def palinodelaw03_length_R (l1 : List (ByteArray × (List UInt8))) (name2 : ByteArray) (r : Int) : Prop :=
  ∃ y4 : Int, palinoderef03_At_R l1 name2 y4 ∧ ((y4 < 0 → r = (-1)) ∧ (¬ (y4 < 0) → 0 ≤ (y4 : Int) ∧ ∃ y9 : ByteArray × (List UInt8), l1[(y4 : Int).toNat]? = some y9 ∧ r = (y9.2.length : Int)))
def palinodelaw03_length_ev (fuel : Nat) (l1 : List (ByteArray × (List UInt8))) (name2 : ByteArray) : Option (Int) :=
  ((palinoderef03_At_ev fuel l1 name2).bind fun y4 => (if y4 < 0 then some (-1) else (if 0 ≤ (y4 : Int) then ((l1[(y4 : Int).toNat]?).bind fun y9 => some (y9.2.length : Int)) else none)))
theorem palinodelaw03_length_ok {fuel : Nat} {l1 : List (ByteArray × (List UInt8))} {name2 : ByteArray} {r : Int} (h : palinodelaw03_length_ev fuel l1 name2 = some r) : palinodelaw03_length_R l1 name2 r := by
  unfold palinodelaw03_length_ev at h
  unfold palinodelaw03_length_R
  obtain ⟨q326, g326, h⟩ := bind_ok h
  refine ⟨q326, palinoderef03_At_ok g326, ?_⟩
  refine ⟨fun g327 => ?_, fun g327 => ?_⟩
  · rw [if_pos g327] at h
    exact (Option.some.inj h).symm
  · rw [if_neg g327] at h
    obtain ⟨g328, h⟩ := if_ok h
    refine ⟨g328, ?_⟩
    obtain ⟨q329, g329, h⟩ := bind_ok h
    refine ⟨q329, g329, ?_⟩
    exact (Option.some.inj h).symm
set_option maxHeartbeats 4000000 in
theorem palinodelaw03_length_con (l1 : List (ByteArray × (List UInt8))) (name2 : ByteArray) (r : Int) (h : palinodelaw03_length_R l1 name2 r) : Con Try.prog 28 [.sl 2 none (List.map E_palinode_api_File l1), .v (.string name2)] [] [] (Ret (.v (.int .i64 r))) := by
  refine xenter Try.func28 rfl rfl fun g hg => ?_
  simp only [Try.ntmps28, slots]
  refine xseq ?_
  refine xregion ?_
  refine xvalP (pv_assign rfl) rfl rfl ?_
  refine xnil ?_
  refine xthen ?_
  refine xseq ?_
  refine xregion ?_
  refine xvalP (pv_move rfl) rfl rfl ?_
  refine xvalP (pv_move rfl) rfl rfl ?_
  obtain ⟨y4, h3, h⟩ := h
  refine xcall0 (palinoderef03_At_con l1 name2 _ h3) Try.func26 (by kernel_rfl) rfl (.cons rfl (.refl _) (.cons rfl (.refl _) .nil)) rfl rfl ?_
  refine xvalP (pv_assign rfl) rfl rfl ?_
  refine xnil ?_
  refine xthen ?_
  refine xseq ?_
  refine xseq ?_
  refine xregion ?_
  refine xvalP (pv_move rfl) rfl rfl ?_
  refine xvalP (pv_bin2 rfl rfl rfl) rfl rfl ?_
  refine xnil ?_
  refine xthen ?_
  by_cases hp8 : y4 < 0
  · replace h := h.1 hp8
    refine xcondT' (decide_eq_true hp8) rfl ?_
    refine xseq ?_
    refine xregion ?_
    refine xvalP (pv_assign rfl) rfl rfl ?_
    refine xnil ?_
    refine xthen ?_
    refine xretc ?_
    refine xthen_ret ?_
    replace h := h.symm
    subst h
    exact xret1 hg rfl rfl (.refl _) (SubM.of (.nil _) (.nil _)) ⟨rfl, rfl, rfl⟩
  · replace h := h.2 hp8
    refine xcondF' (decide_eq_false hp8) rfl ?_
    refine xskipc ?_
    refine xthen ?_
    refine xseq ?_
    refine xregion ?_
    refine xvalP (pv_move rfl) rfl rfl ?_
    refine xvalP (pv_move rfl) rfl rfl ?_
    obtain ⟨h10a, h⟩ := h
    obtain ⟨y9, h10b, h⟩ := h
    refine xvalP (pv_indexAddrM h10a h10b UndC.h ShpC.h rfl rfl) rfl rfl ?_
    refine xvalP (qv_fieldAddrE FldC.h rfl) rfl rfl ?_
    refine xval (qv_load ShpC.h rfl rfl rfl) rfl rfl ?_
    refine xvalP (pv_lenM UndC.h rfl) rfl rfl ?_
    refine xvalP (pv_assign rfl) rfl rfl ?_
    refine xnil ?_
    refine xthen ?_
    refine xretc ?_
    replace h := h.symm
    subst h
    exact xret1 hg rfl rfl (.refl _) (SubM.of (.nil _) (.nil _)) ⟨rfl, rfl, rfl⟩
end Go.Proofs.Ytljlaggehilpfaa
