/- What functions' texts ask for, and the walks that show it (printed by a program). -/
import Derived.Test.YthffeojphpajpaaDef
namespace Go.Proofs.Ythffeojphpajpaa
abbrev E_palinode_api_Line (x : (List UInt8) × Bool) : List Sd := [.sl 1 none (List.map eb x.1), .v (.bool x.2)]
instance : EncLen E_palinode_api_Line 2 := ⟨fun _ => (by first | rfl | exact seg_lenE (by rfl) | exact len_app rfl (seg_lenE (by rfl)) (by rfl) | exact len_app (seg_lenE (by rfl)) rfl (by rfl) | exact len_app rfl (len_app (seg_lenE (by rfl)) rfl (by rfl)) (by rfl) | (simp only [seg_len, cellsS, List.length_append, List.length_cons, List.length_nil]; done) | (simp only [seg_len, cellsS, List.length_append, List.length_cons, List.length_nil]; rfl))⟩
/-- (*sinks.Sink).write$1 -/
def sinks_Sink_write_c1_R (o3 : Int) (o4 : Bool) (o5 : Int) (o6 : Bool) (o7 : Int) (l1 : List UInt8) (r : (List UInt8) × Int × Bool) : Prop :=
  ((o7 < ((l1.length : Nat) : Int) → (0 ≤ (o3 : Int) ∧ (o3 : Int) ≤ ((l1.length : Nat) : Int)) ∧ r = ((l1.take (o3 : Int).toNat), 7, o4)) ∧ (¬ (o7 < ((l1.length : Nat) : Int)) → r = (l1, o5, o6)))
def sinks_Sink_write_c1_ev (fuel : Nat) (o3 : Int) (o4 : Bool) (o5 : Int) (o6 : Bool) (o7 : Int) (l1 : List UInt8) : Option ((List UInt8) × Int × Bool) :=
  (if o7 < ((l1.length : Nat) : Int) then (if (0 ≤ (o3 : Int) ∧ (o3 : Int) ≤ ((l1.length : Nat) : Int)) then some ((l1.take (o3 : Int).toNat), 7, o4) else none) else some (l1, o5, o6))
theorem sinks_Sink_write_c1_ok {fuel : Nat} {o3 : Int} {o4 : Bool} {o5 : Int} {o6 : Bool} {o7 : Int} {l1 : List UInt8} {r : (List UInt8) × Int × Bool} (h : sinks_Sink_write_c1_ev fuel o3 o4 o5 o6 o7 l1 = some r) : sinks_Sink_write_c1_R o3 o4 o5 o6 o7 l1 r := by
  unfold sinks_Sink_write_c1_ev at h
  unfold sinks_Sink_write_c1_R
  refine ⟨fun g1 => ?_, fun g1 => ?_⟩
  · rw [if_pos g1] at h
    obtain ⟨g2, h⟩ := if_ok h
    refine ⟨g2, ?_⟩
    exact (Option.some.inj h).symm
  · rw [if_neg g1] at h
    exact (Option.some.inj h).symm
set_option maxHeartbeats 4000000 in
theorem sinks_Sink_write_c1_con (o3 : Int) (o4 : Bool) (o5 : Int) (o6 : Bool) (o7 : Int) (l1 : List UInt8) (bx0 : Nat) (bx1 : Nat) (bx2 : Nat) (bx3 : Nat) (bx4 : Nat) (ia2 : Option (Nat × Nat)) (r : (List UInt8) × Int × Bool) (h : sinks_Sink_write_c1_R o3 o4 o5 o6 o7 l1 r) : ConD Try.prog 11 [.v (.pointer (some ⟨bx0, 0, none⟩)), .v (.pointer (some ⟨bx1, 0, none⟩)), .v (.pointer (some ⟨bx2, 0, none⟩)), .v (.pointer (some ⟨bx3, 0, none⟩))] [⟨bx0, 27, [.v (.pointer (some ⟨bx4, 0, none⟩))]⟩, ⟨bx1, 3, [.v (.int .i64 o3)]⟩, ⟨bx2, 4, [.v (.bool o4)]⟩, ⟨bx3, 30, [.v (.int .i64 o5)]⟩, ⟨bx4, 29, [.rb ia2 l1.length, .v (.bool o6), .v (.int .i64 o7)]⟩, rbx ia2 5 1 (List.map eb l1)] [] (fun rr bx tk => ∃ j1, rr = .tup [] ∧ bx = [rbx j1 5 1 (List.map eb r.1), ⟨bx0, 27, [.v (.pointer (some ⟨bx4, 0, none⟩))]⟩, ⟨bx1, 3, [.v (.int .i64 o3)]⟩, ⟨bx2, 4, [.v (.bool o4)]⟩, ⟨bx3, 30, [.v (.int .i64 r.2.1)]⟩, ⟨bx4, 29, [.rb j1 r.1.length, .v (.bool r.2.2), .v (.int .i64 o7)]⟩] ∧ tk = []) := by
  refine xenterC Try.func11 rfl rfl fun g hg => ?_
  simp only [Try.ntmps11, slots]
  refine xseq ?_
  refine xregionD (m := 10) (by kernel_rfl) rfl ?_
  refine xpvalE 0 [5, 6, 7, 8] rfl (qv_loadB 0 ShpC.h rfl rfl rfl rfl) rfl rfl (by kernel_rfl) (by kernel_rfl) (by kernel_rfl) (fun _ _ _ _ h => h) ?_
  refine xpval 1 rfl (pv_nilCheck rfl) rfl rfl (by kernel_rfl) (by kernel_rfl) (by kernel_rfl) (fun _ _ _ _ h => h) ?_
  refine xpval 2 rfl (qv_fieldAddrB FldC.h rfl) rfl rfl (by kernel_rfl) (by kernel_rfl) (by kernel_rfl) (fun _ _ _ _ h => h) ?_
  refine xpvalE 3 [5, 6, 7, 8] rfl (qv_loadB 4 ShpC.h rfl rfl rfl rfl) rfl rfl (by kernel_rfl) (by kernel_rfl) (by kernel_rfl) (fun _ _ _ _ h => h) ?_
  refine xpval 4 rfl (pv_lenRb UndC.h rfl) rfl rfl (by kernel_rfl) (by kernel_rfl) (by kernel_rfl) (fun _ _ _ _ h => h) ?_
  refine xpvalE 5 [] rfl (qv_loadB 0 ShpC.h rfl rfl rfl rfl) rfl rfl (by kernel_rfl) (by kernel_rfl) (by kernel_rfl) (fun _ _ _ _ h => h) ?_
  refine xpval 6 rfl (pv_nilCheck rfl) rfl rfl (by kernel_rfl) (by kernel_rfl) (by kernel_rfl) (fun _ _ _ _ h => h) ?_
  refine xpval 7 rfl (qv_fieldAddrB FldC.h rfl) rfl rfl (by kernel_rfl) (by kernel_rfl) (by kernel_rfl) (fun _ _ _ _ h => h) ?_
  refine xpvalE 8 [] rfl (qv_loadB 4 ShpC.h rfl rfl rfl rfl) rfl rfl (by kernel_rfl) (by kernel_rfl) (by kernel_rfl) (fun _ _ _ _ h => h) ?_
  refine xpval 9 rfl (pv_bin2 rfl rfl rfl) rfl rfl (by kernel_rfl) (by kernel_rfl) (by kernel_rfl) (fun _ _ _ _ h => h) ?_
  refine xpdone (by kernel_rfl) ?_
  refine xthen ?_
  by_cases hp12 : o7 < ((l1.length : Nat) : Int)
  · replace h := h.1 hp12
    refine xcondT' (decide_eq_true hp12) rfl ?_
    refine xregionD (m := 16) (by kernel_rfl) rfl ?_
    obtain ⟨h13, h⟩ := h
    refine xpvalE 0 [1, 2, 3, 4, 5, 6, 7, 8] rfl (qv_loadB 0 ShpC.h rfl rfl rfl rfl) rfl rfl (by kernel_rfl) (by kernel_rfl) (by kernel_rfl) (fun _ _ _ _ h => h) ?_
    refine xpvalE 1 [2, 3, 4, 5, 6, 7, 8] rfl (qv_loadB 0 ShpC.h rfl rfl rfl rfl) rfl rfl (by kernel_rfl) (by kernel_rfl) (by kernel_rfl) (fun _ _ _ _ h => h) ?_
    refine xpvalE 2 [6, 8] rfl (qv_loadB 0 ShpC.h rfl rfl rfl rfl) rfl rfl (by kernel_rfl) (by kernel_rfl) (by kernel_rfl) (fun _ _ _ _ h => h) ?_
    refine xpval 3 rfl (pv_nilCheck rfl) rfl rfl (by kernel_rfl) (by kernel_rfl) (by kernel_rfl) (fun _ _ _ _ h => h) ?_
    refine xpval 4 rfl (qv_fieldAddrB FldC.h rfl) rfl rfl (by kernel_rfl) (by kernel_rfl) (by kernel_rfl) (fun _ _ _ _ h => h) ?_
    refine xpvalE 5 [6, 8] rfl (qv_loadB 4 ShpC.h rfl rfl rfl rfl) rfl rfl (by kernel_rfl) (by kernel_rfl) (by kernel_rfl) (fun _ _ _ _ h => h) ?_
    refine xpvalE 6 [8] rfl (qv_loadB 1 ShpC.h rfl rfl rfl rfl) rfl rfl (by kernel_rfl) (by kernel_rfl) (by kernel_rfl) (fun _ _ _ _ h => h) ?_
    refine xpvalE 8 [7] rfl (qv_loadB 2 ShpC.h rfl rfl rfl rfl) rfl rfl (by kernel_rfl) (by kernel_rfl) (by kernel_rfl) (fun _ _ _ _ h => h) ?_
    refine xpstep (i := 7) (by kernel_rfl) rfl ?_
    refine wvalP (pv_sliceRbHi h13 UndC.h ShpC.h rfl rfl) rfl rfl ?_
    refine ptakeRb (f := eb) (l := l1) 5 19 21 (o3 : Int).toNat rfl (by have := h13; first | omega | (simp at this ⊢; done) | (simp at this ⊢; omega)) rfl rfl rfl ?_
    refine xpval 9 rfl (pv_nilCheck rfl) rfl rfl (by kernel_rfl) (by kernel_rfl) (by kernel_rfl) (fun _ _ _ _ h => h) ?_
    refine xpval 10 rfl (qv_fieldAddrB FldC.h rfl) rfl rfl (by kernel_rfl) (by kernel_rfl) (by kernel_rfl) (fun _ _ _ _ h => h) ?_
    refine xpstep (i := 11) (by kernel_rfl) rfl ?_
    refine wstore 4 ShpC.h rfl rfl rfl rfl rfl rfl rfl ?_
    refine xpval 12 rfl (pv_nilCheck rfl) rfl rfl (by kernel_rfl) (by kernel_rfl) (by kernel_rfl) (fun _ _ _ _ h => h) ?_
    refine xpval 13 rfl (qv_fieldAddrB FldC.h rfl) rfl rfl (by kernel_rfl) (by kernel_rfl) (by kernel_rfl) (fun _ _ _ _ h => h) ?_
    refine xpstep (i := 14) (by kernel_rfl) rfl ?_
    refine wstore 4 ShpC.h rfl rfl rfl rfl rfl rfl rfl ?_
    refine xpstep (i := 15) (by kernel_rfl) rfl ?_
    refine wstore 3 ShpC.h rfl rfl rfl rfl rfl rfl rfl ?_
    refine xpdone (by kernel_rfl) ?_
    replace h := h.symm
    subst h
    exact xret0 (bx' := [rbx ia2 5 1 (List.map eb ((l1.take (o3 : Int).toNat))), ⟨bx0, 27, [.v (.pointer (some ⟨bx4, 0, none⟩))]⟩, ⟨bx1, 3, [.v (.int .i64 o3)]⟩, ⟨bx2, 4, [.v (.bool o4)]⟩, ⟨bx3, 30, [.v (.int .i64 7)]⟩, ⟨bx4, 29, [.rb ia2 (((l1.take (o3 : Int).toNat)).length), .v (.bool o4), .v (.int .i64 o7)]⟩]) (tk' := []) hg rfl (by refine SubM.trans (SubM.mvB 4 rfl) ?_; refine SubM.trans (SubM.mvB 4 rfl) ?_; refine SubM.trans (SubM.mvB 4 rfl) ?_; refine SubM.trans (SubM.mvB 4 rfl) ?_; refine SubM.trans (SubM.mvB 4 rfl) ?_; refine SubM.trans (SubM.mvB 5 rfl) ?_; (simp only [List.eraseIdx]); exact (SubM.of (by repeat (first | with_reducible exact SubB.refl _ | exact SubB.nil _ | refine SubB.keep rfl rfl (by first | with_reducible exact WkL.refl _ | ((repeat (first | exact WkL.nil | refine WkL.cons (by first | with_reducible exact Wk.refl _ | exact Wk.nil_own _ | exact Wk.nil_pl _ | with_reducible exact Wk.tok _ _ _ | exact Wk.tok _ _ _ | exact Wk.eq (by first | rfl | (simp []; done) | (simp []; omega))) ?_)); done) | exact WkL.refl _) ?_ | refine SubB.drop ?_)) (by repeat (first | exact SubT.nil _ | refine SubT.add ?_ | (refine SubT.keep ?_ ?_; focus (first | with_reducible rfl | (simp []; done))) | refine SubT.drop ?_)))) ⟨ia2, rfl, rfl, rfl⟩ (by simp)
  · replace h := h.2 hp12
    refine xcondF' (decide_eq_false hp12) rfl ?_
    refine xskipc ?_
    replace h := h.symm
    subst h
    exact xret0 (bx' := [rbx ia2 5 1 (List.map eb l1), ⟨bx0, 27, [.v (.pointer (some ⟨bx4, 0, none⟩))]⟩, ⟨bx1, 3, [.v (.int .i64 o3)]⟩, ⟨bx2, 4, [.v (.bool o4)]⟩, ⟨bx3, 30, [.v (.int .i64 o5)]⟩, ⟨bx4, 29, [.rb ia2 l1.length, .v (.bool o6), .v (.int .i64 o7)]⟩]) (tk' := []) hg rfl (by refine SubM.trans (SubM.mvB 4 rfl) ?_; refine SubM.trans (SubM.mvB 4 rfl) ?_; refine SubM.trans (SubM.mvB 4 rfl) ?_; refine SubM.trans (SubM.mvB 4 rfl) ?_; refine SubM.trans (SubM.mvB 4 rfl) ?_; refine SubM.trans (SubM.mvB 5 rfl) ?_; (simp only [List.eraseIdx]); exact (SubM.of (by repeat (first | with_reducible exact SubB.refl _ | exact SubB.nil _ | refine SubB.keep rfl rfl (by first | with_reducible exact WkL.refl _ | ((repeat (first | exact WkL.nil | refine WkL.cons (by first | with_reducible exact Wk.refl _ | exact Wk.nil_own _ | exact Wk.nil_pl _ | with_reducible exact Wk.tok _ _ _ | exact Wk.tok _ _ _ | exact Wk.eq (by first | rfl | (simp []; done) | (simp []; omega))) ?_)); done) | exact WkL.refl _) ?_ | refine SubB.drop ?_)) (by repeat (first | exact SubT.nil _ | refine SubT.add ?_ | (refine SubT.keep ?_ ?_; focus (first | with_reducible rfl | (simp []; done))) | refine SubT.drop ?_)))) ⟨ia2, rfl, rfl, rfl⟩ (by simp)
/-- (*sinks.Sink).write -/
def sinks_Sink_write_j1 (bv5 : List UInt8) (l1 : List UInt8) (o3 : Bool) (short6 : Bool) (o4 : Int) (l26 : List UInt8) (r : Int × (List UInt8) × Bool) : Prop :=
  Room (l26.length + bv5.length) 1 ∧ ∃ y45 : (List UInt8) × Int × Bool, sinks_Sink_write_c1_R ((l1.length : Nat) : Int) o3 0 short6 o4 (l26 ++ bv5) y45 ∧ r = (y45.2.1, y45.1, y45.2.2)
def sinks_Sink_write_R (o3 : Bool) (o4 : Int) (l1 : List UInt8) (bv5 : List UInt8) (short6 : Bool) (r : Int × (List UInt8) × Bool) : Prop :=
  ((o3 = true → Room (l1.length + ([(10 : UInt8)]).length) 1 ∧ sinks_Sink_write_j1 bv5 l1 o3 short6 o4 (l1 ++ [(10 : UInt8)]) r) ∧ (¬ (o3 = true) → sinks_Sink_write_j1 bv5 l1 o3 short6 o4 l1 r))
def sinks_Sink_write_j1_ev (fuel : Nat) (bv5 : List UInt8) (l1 : List UInt8) (o3 : Bool) (short6 : Bool) (o4 : Int) (l26 : List UInt8) : Option (Int × (List UInt8) × Bool) :=
  (if Room (l26.length + bv5.length) 1 then ((sinks_Sink_write_c1_ev fuel ((l1.length : Nat) : Int) o3 0 short6 o4 (l26 ++ bv5)).bind fun y45 => some (y45.2.1, y45.1, y45.2.2)) else none)
theorem sinks_Sink_write_j1_ok {fuel : Nat} {bv5 : List UInt8} {l1 : List UInt8} {o3 : Bool} {short6 : Bool} {o4 : Int} {l26 : List UInt8} {r : Int × (List UInt8) × Bool} (h : sinks_Sink_write_j1_ev fuel bv5 l1 o3 short6 o4 l26 = some r) : sinks_Sink_write_j1 bv5 l1 o3 short6 o4 l26 r := by
  unfold sinks_Sink_write_j1_ev at h
  unfold sinks_Sink_write_j1
  obtain ⟨g3, h⟩ := if_ok h
  refine ⟨g3, ?_⟩
  obtain ⟨q4, g4, h⟩ := bind_ok h
  refine ⟨q4, sinks_Sink_write_c1_ok g4, ?_⟩
  exact (Option.some.inj h).symm
def sinks_Sink_write_ev (fuel : Nat) (o3 : Bool) (o4 : Int) (l1 : List UInt8) (bv5 : List UInt8) (short6 : Bool) : Option (Int × (List UInt8) × Bool) :=
  (if o3 = true then (if Room (l1.length + ([(10 : UInt8)]).length) 1 then sinks_Sink_write_j1_ev fuel bv5 l1 o3 short6 o4 (l1 ++ [(10 : UInt8)]) else none) else sinks_Sink_write_j1_ev fuel bv5 l1 o3 short6 o4 l1)
theorem sinks_Sink_write_ok {fuel : Nat} {o3 : Bool} {o4 : Int} {l1 : List UInt8} {bv5 : List UInt8} {short6 : Bool} {r : Int × (List UInt8) × Bool} (h : sinks_Sink_write_ev fuel o3 o4 l1 bv5 short6 = some r) : sinks_Sink_write_R o3 o4 l1 bv5 short6 r := by
  unfold sinks_Sink_write_ev at h
  unfold sinks_Sink_write_R
  refine ⟨fun g5 => ?_, fun g5 => ?_⟩
  · rw [if_pos g5] at h
    obtain ⟨g6, h⟩ := if_ok h
    refine ⟨g6, ?_⟩
    exact sinks_Sink_write_j1_ok h
  · rw [if_neg g5] at h
    exact sinks_Sink_write_j1_ok h
set_option maxHeartbeats 4000000 in
theorem sinks_Sink_write_con (o3 : Bool) (o4 : Int) (l1 : List UInt8) (bv5 : List UInt8) (short6 : Bool) (bx0 : Nat) (ia2 : Option (Nat × Nat)) (r : Int × (List UInt8) × Bool) (h : sinks_Sink_write_R o3 o4 l1 bv5 short6 r) : Con Try.prog 9 [.v (.pointer (some ⟨bx0, 0, none⟩)), .sl 1 none (List.map eb bv5), .v (.bool short6)] [⟨bx0, 29, [.rb ia2 l1.length, .v (.bool o3), .v (.int .i64 o4)]⟩, rbx ia2 5 1 (List.map eb l1)] [] (fun rr bx tk => ∃ j1, rr = .v (.int .i64 r.1) ∧ bx = [rbx j1 5 1 (List.map eb r.2.1), ⟨bx0, 29, [.rb j1 r.2.1.length, .v (.bool r.2.2), .v (.int .i64 o4)]⟩] ∧ tk = []) := by
  refine xenterF Try.func9 rfl rfl fun g hg => ?_
  simp only [Try.ntmps9, slots]
  refine xseq ?_
  refine xregion ?_
  refine xbox rfl rfl rfl rfl fun b3 => ?_
  refine xalloc InfC.h rfl rfl fun b6 => ?_
  refine xnil ?_
  refine xthen ?_
  refine xseq ?_
  refine xseq ?_
  refine xregion ?_
  refine xval (qv_loadB 1 ShpC.h rfl rfl rfl rfl) rfl rfl ?_
  refine xvalP (pv_eqNil UndC.h rfl rfl) rfl rfl ?_
  refine xnil ?_
  refine xthen ?_
  refine xcondF rfl ?_
  refine xskipc ?_
  refine xthen ?_
  refine xseq ?_
  refine xregionD (m := 13) (by kernel_rfl) rfl ?_
  refine xpcut 1 #[true, true, true, true, true, true, true, true, true, true, true, true, false] (fun σ => ∃ (b8 : Nat), ∃ (b7 : Nat), σ = ⟨[(1, .sl 1 none (List.map eb bv5)), (2, .v (.bool short6)), (3, .v (.pointer (some ⟨b3, 0, none⟩))), (6, .v (.pointer (some ⟨b6, 0, none⟩))), (7, .v (.pointer (some ⟨b7, 0, none⟩))), (8, .v (.pointer (some ⟨b8, 0, none⟩))), (19, .v (.int .i64 (((l1.length : Nat) : Int))))], [⟨b8, 3, [.v (.int .i64 0)]⟩, ⟨b7, 4, [.v (.bool o3)]⟩, ⟨b6, 30, [.v (.int .i64 0)]⟩, ⟨b3, 27, [.v (.pointer (some ⟨bx0, 0, none⟩))]⟩, ⟨bx0, 29, [.rb ia2 l1.length, .v (.bool o3), .v (.int .i64 o4)]⟩, rbx ia2 5 1 (List.map eb l1)], []⟩) ?_ (fun key19 => ?_)
  · rintro _ ⟨b8, b7, rfl⟩
    refine xpstep (i := 12) (by kernel_rfl) rfl ?_
    refine wstore 0 ShpC.h rfl rfl rfl rfl rfl rfl rfl ?_
    refine xpdone (by kernel_rfl) ?_
    refine xthen ?_
    refine xseq ?_
    refine xregion ?_
    refine xvalP (pv_makeFuncC rfl) rfl rfl ?_
    refine xdefer rfl rfl ?_
    refine xnil ?_
    refine xthen ?_
    refine xseqM (fun σ => ∃ (l26 : List UInt8), ∃ (i27 : Option (Nat × Nat)), sinks_Sink_write_j1 bv5 l1 o3 short6 o4 l26 r ∧ σ = ⟨[(1, .sl 1 none (List.map eb bv5)), (2, .v (.bool short6)), (3, .v (.pointer (some ⟨b3, 0, none⟩))), (6, .v (.pointer (some ⟨b6, 0, none⟩)))], [⟨b8, 3, [.v (.int .i64 (((l1.length : Nat) : Int)))]⟩, ⟨b7, 4, [.v (.bool o3)]⟩, ⟨b6, 30, [.v (.int .i64 0)]⟩, ⟨b3, 27, [.v (.pointer (some ⟨bx0, 0, none⟩))]⟩, ⟨bx0, 29, [.rb i27 l26.length, .v (.bool o3), .v (.int .i64 o4)]⟩, rbx i27 5 1 (List.map eb l26)], []⟩) ?_ ?_
    · refine xseq ?_
      refine xregion ?_
      refine xval (qv_loadB 3 ShpC.h rfl rfl rfl rfl) rfl rfl ?_
      refine xvalP (pv_nilCheck rfl) rfl rfl ?_
      refine xvalP (qv_fieldAddrB FldC.h rfl) rfl rfl ?_
      refine xval (qv_loadB 4 ShpC.h rfl rfl rfl rfl) rfl rfl ?_
      refine xnil ?_
      refine xthen ?_
      by_cases hp28 : o3 = true
      · replace h := h.1 hp28
        refine xcondT' hp28 rfl ?_
        refine xregionD (m := 10) (by kernel_rfl) rfl ?_
        obtain ⟨h29, h⟩ := h
        refine xpcut 1 #[true, true, true, true, true, true, true, true, true, false] (fun σ => ∃ (i30 : Option (Nat × Nat)), σ = ⟨[(1, .sl 1 none (List.map eb bv5)), (2, .v (.bool short6)), (3, .v (.pointer (some ⟨b3, 0, none⟩))), (6, .v (.pointer (some ⟨b6, 0, none⟩))), (31, .rb i30 ((l1 ++ [(10 : UInt8)]).length)), (33, .v (.pointer (some ⟨bx0, 0, none⟩)))], [⟨b8, 3, [.v (.int .i64 (((l1.length : Nat) : Int)))]⟩, ⟨b7, 4, [.v (.bool o3)]⟩, ⟨b6, 30, [.v (.int .i64 0)]⟩, ⟨b3, 27, [.v (.pointer (some ⟨bx0, 0, none⟩))]⟩, ⟨bx0, 29, [.rb ia2 l1.length, .v (.bool o3), .v (.int .i64 o4)]⟩, rbx i30 5 1 (List.map eb ((l1 ++ [(10 : UInt8)])))], []⟩) ?_ (fun key31 => ?_)
        · rintro _ ⟨i30, rfl⟩
          refine xpstep (i := 9) (by kernel_rfl) rfl ?_
          refine wstore 4 ShpC.h rfl rfl rfl rfl rfl rfl rfl ?_
          refine xpdone (by kernel_rfl) ?_
          exact xmeet ⟨(l1 ++ [(10 : UInt8)]), i30, h, rfl⟩ ⟨(.cons rfl (.refl _) (.cons rfl (.refl _) (.cons rfl (.refl _) (.cons rfl (.refl _) (.nil _))))), by exact (SubM.of (.keep rfl rfl (.refl _) (.keep rfl rfl (.refl _) (.keep rfl rfl (.refl _) (.keep rfl rfl (.refl _) (.keep rfl rfl (.cons (.eq (by first | rfl | simp)) (.cons (.refl _) (.cons (.refl _) .nil))) (.keep rfl rfl (.refl _) (.nil _))))))) (.nil _))⟩
        refine xpcut 4 #[true, true, true, true, true, true, false, false, false, false] (fun σ => ∃ (i32 : Option (Nat × Nat)), σ = ⟨[(1, .sl 1 none (List.map eb bv5)), (2, .v (.bool short6)), (3, .v (.pointer (some ⟨b3, 0, none⟩))), (6, .v (.pointer (some ⟨b6, 0, none⟩))), (25, .v (.pointer (some ⟨bx0, 0, none⟩))), (29, .rb ia2 l1.length), (30, .sl 1 (some i32) (List.map eb ([(10 : UInt8)])))], [⟨b8, 3, [.v (.int .i64 (((l1.length : Nat) : Int)))]⟩, ⟨b7, 4, [.v (.bool o3)]⟩, ⟨b6, 30, [.v (.int .i64 0)]⟩, ⟨b3, 27, [.v (.pointer (some ⟨bx0, 0, none⟩))]⟩, ⟨bx0, 29, [.rb ia2 l1.length, .v (.bool o3), .v (.int .i64 o4)]⟩, rbx ia2 5 1 (List.map eb l1)], [⟨i32, 5, 1, ([(10 : UInt8)]).length⟩]⟩) ?_ (fun key33 => ?_)
        · rintro _ ⟨i32, rfl⟩
          refine xpstep (i := 6) (by kernel_rfl) rfl ?_
          refine wappendRb (f := eb) (l := l1) (l2 := [(10 : UInt8)]) 5 rfl h29 UndC.h InfC.h rfl rfl (.refl _) (.sl rfl (.refl _)) rfl rfl rfl fun i30 => ?_
          refine xpval 7 rfl (pv_nilCheck rfl) rfl rfl (by kernel_rfl) (by kernel_rfl) (by kernel_rfl) (fun _ _ _ _ h => h) ?_
          refine xpval 8 rfl (qv_fieldAddrB FldC.h rfl) rfl rfl (by kernel_rfl) (by kernel_rfl) (by kernel_rfl) (fun _ _ _ _ h => h) ?_
          exact xpuse key31 ⟨i30, rfl⟩ ⟨(.cons rfl (.refl _) (.cons rfl (.refl _) (.cons rfl (.refl _) (.cons rfl (.refl _) (.cons rfl (.eq (by first | rfl | simp)) (.cons rfl (.refl _) (.nil _))))))), by exact (SubM.of (.keep rfl rfl (.refl _) (.keep rfl rfl (.refl _) (.keep rfl rfl (.refl _) (.keep rfl rfl (.refl _) (.keep rfl rfl (.cons (.eq (by first | rfl | simp)) (.cons (.refl _) (.cons (.refl _) .nil))) (.keep rfl rfl (.refl _) (.nil _))))))) (.nil _))⟩ rfl (by kernel_rfl)
        refine xpvalE 1 [0, 5] rfl (qv_loadB 3 ShpC.h rfl rfl rfl rfl) rfl rfl (by kernel_rfl) (by kernel_rfl) (by kernel_rfl) (fun _ _ _ _ h => h) ?_
        refine xpval 2 rfl (pv_nilCheck rfl) rfl rfl (by kernel_rfl) (by kernel_rfl) (by kernel_rfl) (fun _ _ _ _ h => h) ?_
        refine xpval 3 rfl (qv_fieldAddrB FldC.h rfl) rfl rfl (by kernel_rfl) (by kernel_rfl) (by kernel_rfl) (fun _ _ _ _ h => h) ?_
        refine xpvalE 4 [0, 5] rfl (qv_loadB 4 ShpC.h rfl rfl rfl rfl) rfl rfl (by kernel_rfl) (by kernel_rfl) (by kernel_rfl) (fun _ _ _ _ h => h) ?_
        refine xpstepN (is := [0, 5]) (by kernel_rfl) (by simp) ?_
        intro i hi; simp only [List.mem_cons, List.not_mem_nil, or_false] at hi; rcases hi with rfl | rfl
        · refine ⟨_, rfl, ?_⟩
          refine wval (qv_loadB 3 ShpC.h rfl rfl rfl rfl) rfl rfl ?_
          refine xpstep (i := 5) (by kernel_rfl) rfl ?_
          refine wbuildSliceM (f := eb) [(10 : UInt8)] UndC.h InfC.h rfl rfl (by first | exact wkR_of rfl | (repeat (first | exact WkR.nil | refine WkR.cons (by (repeat (first | exact WkL.nil | refine WkL.cons (by first | with_reducible exact Wk.refl _ | exact Wk.nil_own _ | exact Wk.nil_pl _ | with_reducible exact Wk.tok _ _ _ | exact Wk.tok _ _ _ | exact Wk.eq (by first | rfl | (simp []; done) | (simp []; omega))) ?_))) ?_))) rfl rfl rfl rfl fun s30 => ?_
          exact xpuse key33 ⟨(some (s30, 1)), rfl⟩ ⟨(.cons rfl (.refl _) (.cons rfl (.refl _) (.cons rfl (.refl _) (.cons rfl (.refl _) (.cons rfl (.refl _) (.cons rfl (.eq (by first | rfl | simp)) (.cons rfl (.refl _) (.nil _)))))))), by exact (SubM.of (.keep rfl rfl (.refl _) (.keep rfl rfl (.refl _) (.keep rfl rfl (.refl _) (.keep rfl rfl (.refl _) (.keep rfl rfl (.cons (.eq (by first | rfl | simp)) (.cons (.refl _) (.cons (.refl _) .nil))) (.keep rfl rfl (.refl _) (.nil _))))))) (.keep rfl (.nil _)))⟩ rfl (by kernel_rfl)
        · refine ⟨_, rfl, ?_⟩
          refine wbuildSliceM (f := eb) [(10 : UInt8)] UndC.h InfC.h rfl rfl (by first | exact wkR_of rfl | (repeat (first | exact WkR.nil | refine WkR.cons (by (repeat (first | exact WkL.nil | refine WkL.cons (by first | with_reducible exact Wk.refl _ | exact Wk.nil_own _ | exact Wk.nil_pl _ | with_reducible exact Wk.tok _ _ _ | exact Wk.tok _ _ _ | exact Wk.eq (by first | rfl | (simp []; done) | (simp []; omega))) ?_))) ?_))) rfl rfl rfl rfl fun s30 => ?_
          refine xpstepN (is := [0, 6]) (by kernel_rfl) (by simp) ?_
          intro i hi; simp only [List.mem_cons, List.not_mem_nil, or_false] at hi; rcases hi with rfl | rfl
          · refine ⟨_, rfl, ?_⟩
            refine wval (qv_loadB 3 ShpC.h rfl rfl rfl rfl) rfl rfl ?_
            exact xpuse key33 ⟨(some (s30, 1)), rfl⟩ ⟨(.cons rfl (.refl _) (.cons rfl (.refl _) (.cons rfl (.refl _) (.cons rfl (.refl _) (.cons rfl (.refl _) (.cons rfl (.eq (by first | rfl | simp)) (.cons rfl (.refl _) (.nil _)))))))), by exact (SubM.of (.keep rfl rfl (.refl _) (.keep rfl rfl (.refl _) (.keep rfl rfl (.refl _) (.keep rfl rfl (.refl _) (.keep rfl rfl (.cons (.eq (by first | rfl | simp)) (.cons (.refl _) (.cons (.refl _) .nil))) (.keep rfl rfl (.refl _) (.nil _))))))) (.keep rfl (.nil _)))⟩ rfl (by kernel_rfl)
          · refine ⟨_, rfl, ?_⟩
            refine wappendRb (f := eb) (l := l1) (l2 := [(10 : UInt8)]) 5 rfl h29 UndC.h InfC.h rfl rfl (.refl _) (.sl rfl (.refl _)) rfl rfl rfl fun i30 => ?_
            refine xpvalE 0 [] rfl (qv_loadB 3 ShpC.h rfl rfl rfl rfl) rfl rfl (by kernel_rfl) (by kernel_rfl) (by kernel_rfl) (fun _ _ _ _ h => h) ?_
            refine xpval 7 rfl (pv_nilCheck rfl) rfl rfl (by kernel_rfl) (by kernel_rfl) (by kernel_rfl) (fun _ _ _ _ h => h) ?_
            refine xpval 8 rfl (qv_fieldAddrB FldC.h rfl) rfl rfl (by kernel_rfl) (by kernel_rfl) (by kernel_rfl) (fun _ _ _ _ h => h) ?_
            exact xpuse key31 ⟨i30, rfl⟩ ⟨(.cons rfl (.refl _) (.cons rfl (.refl _) (.cons rfl (.refl _) (.cons rfl (.refl _) (.cons rfl (.eq (by first | rfl | simp)) (.cons rfl (.refl _) (.nil _))))))), by exact (SubM.of (.keep rfl rfl (.refl _) (.keep rfl rfl (.refl _) (.keep rfl rfl (.refl _) (.keep rfl rfl (.refl _) (.keep rfl rfl (.cons (.eq (by first | rfl | simp)) (.cons (.refl _) (.cons (.refl _) .nil))) (.keep rfl rfl (.refl _) (.nil _))))))) (.nil _))⟩ rfl (by kernel_rfl)
      · replace h := h.2 hp28
        refine xcondF' (b_f hp28) rfl ?_
        refine xskipc ?_
        exact xmeet ⟨l1, ia2, h, rfl⟩ ⟨(.cons rfl (.refl _) (.cons rfl (.refl _) (.cons rfl (.refl _) (.cons rfl (.refl _) (.nil _))))), by exact (SubM.of (.keep rfl rfl (.refl _) (.keep rfl rfl (.refl _) (.keep rfl rfl (.refl _) (.keep rfl rfl (.refl _) (.keep rfl rfl (.cons (.eq (by first | rfl | simp)) (.cons (.refl _) (.cons (.refl _) .nil))) (.keep rfl rfl (.refl _) (.nil _))))))) (.nil _))⟩
    · clear h
      rintro _ ⟨l26, i27, h, rfl⟩
      refine xseq ?_
      refine xregionD (m := 15) (by kernel_rfl) rfl ?_
      obtain ⟨h40, h⟩ := h
      refine xpcut 1 #[true, true, true, true, true, true, true, true, true, true, true, true, true, true, false] (fun σ => ∃ (i41 : Option (Nat × Nat)), σ = ⟨[(6, .v (.pointer (some ⟨b6, 0, none⟩))), (42, .v (.bool short6)), (46, .v (.pointer (some ⟨bx0, 1, none⟩)))], [⟨b8, 3, [.v (.int .i64 (((l1.length : Nat) : Int)))]⟩, ⟨b7, 4, [.v (.bool o3)]⟩, ⟨b6, 30, [.v (.int .i64 0)]⟩, ⟨b3, 27, [.v (.pointer (some ⟨bx0, 0, none⟩))]⟩, ⟨bx0, 29, [.rb i41 ((l26 ++ bv5).length), .v (.bool o3), .v (.int .i64 o4)]⟩, rbx i41 5 1 (List.map eb ((l26 ++ bv5)))], []⟩) ?_ (fun key42 => ?_)
      · rintro _ ⟨i41, rfl⟩
        refine xpstep (i := 14) (by kernel_rfl) rfl ?_
        refine wstore 4 ShpC.h rfl rfl rfl rfl rfl rfl rfl ?_
        refine xpdone (by kernel_rfl) ?_
        refine xthen ?_
        refine xseq ?_
        refine xregion ?_
        refine xstore 2 ShpC.h rfl rfl rfl rfl rfl rfl rfl ?_
        refine xnil ?_
        refine xthen ?_
        refine xretc ?_
        obtain ⟨y45, h44, h⟩ := h
        refine xretD (Fb := []) (Ft := []) hg (sinks_Sink_write_c1_con ((l1.length : Nat) : Int) o3 0 short6 o4 (l26 ++ bv5) b3 b8 b7 b6 bx0 i41 _ h44) Try.func11 (by kernel_rfl) rfl rfl (by refine SubM.trans (SubM.mvB 5 rfl) ?_; refine SubM.trans (SubM.mvB 5 rfl) ?_; refine SubM.trans (SubM.mvB 4 rfl) ?_; refine SubM.trans (SubM.mvB 4 rfl) ?_; refine SubM.trans (SubM.mvB 4 rfl) ?_; refine SubM.trans (SubM.mvB 5 rfl) ?_; (simp only [List.eraseIdx]); exact (SubM.of (by repeat (first | with_reducible exact SubB.refl _ | exact SubB.nil _ | refine SubB.keep rfl rfl (by first | with_reducible exact WkL.refl _ | ((repeat (first | exact WkL.nil | refine WkL.cons (by first | with_reducible exact Wk.refl _ | exact Wk.nil_own _ | exact Wk.nil_pl _ | with_reducible exact Wk.tok _ _ _ | exact Wk.tok _ _ _ | exact Wk.eq (by first | rfl | (simp []; done) | (simp []; omega))) ?_)); done) | exact WkL.refl _) ?_ | refine SubB.drop ?_)) (by repeat (first | exact SubT.nil _ | refine SubT.add ?_ | (refine SubT.keep ?_ ?_; focus (first | with_reducible rfl | (simp []; done))) | refine SubT.drop ?_)))) ?_
        rintro _ _ _ ⟨i46, rfl, rfl, rfl⟩
        simp only [List.nil_append, List.cons_append]
        replace h := h.symm
        subst h
        exact xretL (rs := [.cell 6 30]) (ss := [.v (.int .i64 y45.2.1)]) (bx' := [rbx i46 5 1 (List.map eb y45.1), ⟨bx0, 29, [.rb i46 y45.1.length, .v (.bool y45.2.2), .v (.int .i64 o4)]⟩]) (tk' := []) (GOk.clr hg) rfl (by refine RetL.cell 4 ShpC.h rfl rfl rfl (Nat.le_of_ble_eq_true rfl) (.refl _) ?_; exact RetL.nil) (SubM.of (.keep rfl rfl (.refl _) (.drop (.drop (.drop (.drop (.keep rfl rfl (.cons (.eq (by first | rfl | simp)) (.cons (.refl _) (.cons (.refl _) .nil))) (.nil _))))))) (.nil _)) ⟨i46, rfl, rfl, rfl⟩
      refine xpcut 4 #[true, true, true, true, true, true, true, true, true, true, true, false, false, false, false] (fun σ => ∃ (i41 : Option (Nat × Nat)), σ = ⟨[(6, .v (.pointer (some ⟨b6, 0, none⟩))), (35, .v (.pointer (some ⟨bx0, 0, none⟩))), (41, .rb i41 ((l26 ++ bv5).length)), (42, .v (.bool short6)), (44, .v (.pointer (some ⟨bx0, 0, none⟩)))], [⟨b8, 3, [.v (.int .i64 (((l1.length : Nat) : Int)))]⟩, ⟨b7, 4, [.v (.bool o3)]⟩, ⟨b6, 30, [.v (.int .i64 0)]⟩, ⟨b3, 27, [.v (.pointer (some ⟨bx0, 0, none⟩))]⟩, ⟨bx0, 29, [.rb i27 l26.length, .v (.bool o3), .v (.int .i64 o4)]⟩, rbx i41 5 1 (List.map eb ((l26 ++ bv5)))], []⟩) ?_ (fun key47 => ?_)
      · rintro _ ⟨i41, rfl⟩
        refine xpstep (i := 11) (by kernel_rfl) rfl ?_
        refine wstore 4 ShpC.h rfl rfl rfl rfl rfl rfl rfl ?_
        refine xpval 12 rfl (pv_nilCheck rfl) rfl rfl (by kernel_rfl) (by kernel_rfl) (by kernel_rfl) (fun _ _ _ _ h => h) ?_
        refine xpval 13 rfl (qv_fieldAddrB FldC.h rfl) rfl rfl (by kernel_rfl) (by kernel_rfl) (by kernel_rfl) (fun _ _ _ _ h => h) ?_
        exact xpuse key42 ⟨i41, rfl⟩ ⟨(.cons rfl (.refl _) (.cons rfl (.refl _) (.cons rfl (.refl _) (.nil _)))), by exact (SubM.of (.keep rfl rfl (.refl _) (.keep rfl rfl (.refl _) (.keep rfl rfl (.refl _) (.keep rfl rfl (.refl _) (.keep rfl rfl (.cons (.eq (by first | rfl | simp)) (.cons (.refl _) (.cons (.refl _) .nil))) (.keep rfl rfl (.refl _) (.nil _))))))) (.nil _))⟩ rfl (by kernel_rfl)
      refine xpcut 5 #[true, false, true, true, true, true, true, true, true, true, true, false, false, false, false] (fun σ => ∃ (i41 : Option (Nat × Nat)), σ = ⟨[(3, .v (.pointer (some ⟨b3, 0, none⟩))), (6, .v (.pointer (some ⟨b6, 0, none⟩))), (41, .rb i41 ((l26 ++ bv5).length)), (42, .v (.bool short6)), (44, .v (.pointer (some ⟨bx0, 0, none⟩)))], [⟨b8, 3, [.v (.int .i64 (((l1.length : Nat) : Int)))]⟩, ⟨b7, 4, [.v (.bool o3)]⟩, ⟨b6, 30, [.v (.int .i64 0)]⟩, ⟨b3, 27, [.v (.pointer (some ⟨bx0, 0, none⟩))]⟩, ⟨bx0, 29, [.rb i27 l26.length, .v (.bool o3), .v (.int .i64 o4)]⟩, rbx i41 5 1 (List.map eb ((l26 ++ bv5)))], []⟩) ?_ (fun key48 => ?_)
      · rintro _ ⟨i41, rfl⟩
        refine xpstepN (is := [1, 11]) (by kernel_rfl) (by simp) ?_
        intro i hi; simp only [List.mem_cons, List.not_mem_nil, or_false] at hi; rcases hi with rfl | rfl
        · refine ⟨_, rfl, ?_⟩
          refine wval (qv_loadB 3 ShpC.h rfl rfl rfl rfl) rfl rfl ?_
          exact xpuse key47 ⟨i41, rfl⟩ ⟨(.cons rfl (.refl _) (.cons rfl (.refl _) (.cons rfl (.eq (by first | rfl | simp)) (.cons rfl (.refl _) (.cons rfl (.refl _) (.nil _)))))), by exact (SubM.of (.keep rfl rfl (.refl _) (.keep rfl rfl (.refl _) (.keep rfl rfl (.refl _) (.keep rfl rfl (.refl _) (.keep rfl rfl (.cons (.eq (by first | rfl | simp)) (.cons (.refl _) (.cons (.refl _) .nil))) (.keep rfl rfl (.refl _) (.nil _))))))) (.nil _))⟩ rfl (by kernel_rfl)
        · refine ⟨_, rfl, ?_⟩
          refine wstore 4 ShpC.h rfl rfl rfl rfl rfl rfl rfl ?_
          refine xpvalE 1 [] rfl (qv_loadB 3 ShpC.h rfl rfl rfl rfl) rfl rfl (by kernel_rfl) (by kernel_rfl) (by kernel_rfl) (fun _ _ _ _ h => h) ?_
          refine xpval 12 rfl (pv_nilCheck rfl) rfl rfl (by kernel_rfl) (by kernel_rfl) (by kernel_rfl) (fun _ _ _ _ h => h) ?_
          refine xpval 13 rfl (qv_fieldAddrB FldC.h rfl) rfl rfl (by kernel_rfl) (by kernel_rfl) (by kernel_rfl) (fun _ _ _ _ h => h) ?_
          exact xpuse key42 ⟨i41, rfl⟩ ⟨(.cons rfl (.refl _) (.cons rfl (.refl _) (.cons rfl (.refl _) (.nil _)))), by exact (SubM.of (.keep rfl rfl (.refl _) (.keep rfl rfl (.refl _) (.keep rfl rfl (.refl _) (.keep rfl rfl (.refl _) (.keep rfl rfl (.cons (.eq (by first | rfl | simp)) (.cons (.refl _) (.cons (.refl _) .nil))) (.keep rfl rfl (.refl _) (.nil _))))))) (.nil _))⟩ rfl (by kernel_rfl)
      refine xpcut 7 #[true, true, true, true, true, true, true, false, true, false, false, false, false, false, false] (fun σ => σ = ⟨[(6, .v (.pointer (some ⟨b6, 0, none⟩))), (34, .v (.pointer (some ⟨bx0, 0, none⟩))), (35, .v (.pointer (some ⟨bx0, 0, none⟩))), (39, .rb i27 l26.length), (40, .sl 1 none (List.map eb bv5)), (42, .v (.bool short6))], [⟨b8, 3, [.v (.int .i64 (((l1.length : Nat) : Int)))]⟩, ⟨b7, 4, [.v (.bool o3)]⟩, ⟨b6, 30, [.v (.int .i64 0)]⟩, ⟨b3, 27, [.v (.pointer (some ⟨bx0, 0, none⟩))]⟩, ⟨bx0, 29, [.rb i27 l26.length, .v (.bool o3), .v (.int .i64 o4)]⟩, rbx i27 5 1 (List.map eb l26)], []⟩) ?_ (fun key49 => ?_)
      · rintro _ rfl
        refine xpstep (i := 7) (by kernel_rfl) rfl ?_
        refine wappendRb (f := eb) (l := l26) (l2 := bv5) 5 rfl h40 UndC.h InfC.h rfl rfl (.refl _) (.sl rfl (.refl _)) rfl rfl rfl fun i41 => ?_
        refine xpval 9 rfl (pv_nilCheck rfl) rfl rfl (by kernel_rfl) (by kernel_rfl) (by kernel_rfl) (fun _ _ _ _ h => h) ?_
        refine xpval 10 rfl (qv_fieldAddrB FldC.h rfl) rfl rfl (by kernel_rfl) (by kernel_rfl) (by kernel_rfl) (fun _ _ _ _ h => h) ?_
        exact xpuse key47 ⟨i41, rfl⟩ ⟨(.cons rfl (.refl _) (.cons rfl (.refl _) (.cons rfl (.eq (by first | rfl | simp)) (.cons rfl (.refl _) (.cons rfl (.refl _) (.nil _)))))), by exact (SubM.of (.keep rfl rfl (.refl _) (.keep rfl rfl (.refl _) (.keep rfl rfl (.refl _) (.keep rfl rfl (.refl _) (.keep rfl rfl (.cons (.eq (by first | rfl | simp)) (.cons (.refl _) (.cons (.refl _) .nil))) (.keep rfl rfl (.refl _) (.nil _))))))) (.nil _))⟩ rfl (by kernel_rfl)
      refine xpval 6 rfl (pv_move rfl) rfl rfl (by kernel_rfl) (by kernel_rfl) (by kernel_rfl) (fun _ _ _ _ h => h) ?_
      refine xpval 8 rfl (pv_move rfl) rfl rfl (by kernel_rfl) (by kernel_rfl) (by kernel_rfl) (fun _ _ _ _ h => h) ?_
      refine xpvalE 2 [0, 1] rfl (qv_loadB 3 ShpC.h rfl rfl rfl rfl) rfl rfl (by kernel_rfl) (by kernel_rfl) (by kernel_rfl) (fun _ _ _ _ h => h) ?_
      refine xpval 3 rfl (pv_nilCheck rfl) rfl rfl (by kernel_rfl) (by kernel_rfl) (by kernel_rfl) (fun _ _ _ _ h => h) ?_
      refine xpval 4 rfl (qv_fieldAddrB FldC.h rfl) rfl rfl (by kernel_rfl) (by kernel_rfl) (by kernel_rfl) (fun _ _ _ _ h => h) ?_
      refine xpvalE 5 [0, 1] rfl (qv_loadB 4 ShpC.h rfl rfl rfl rfl) rfl rfl (by kernel_rfl) (by kernel_rfl) (by kernel_rfl) (fun _ _ _ _ h => h) ?_
      refine xpstepN (is := [0, 1, 7]) (by kernel_rfl) (by simp) ?_
      intro i hi; simp only [List.mem_cons, List.not_mem_nil, or_false] at hi; rcases hi with rfl | rfl | rfl
      · refine ⟨_, rfl, ?_⟩
        refine wval (qv_loadB 3 ShpC.h rfl rfl rfl rfl) rfl rfl ?_
        refine xpstepN (is := [1, 7]) (by kernel_rfl) (by simp) ?_
        intro i hi; simp only [List.mem_cons, List.not_mem_nil, or_false] at hi; rcases hi with rfl | rfl
        · refine ⟨_, rfl, ?_⟩
          refine wval (qv_loadB 3 ShpC.h rfl rfl rfl rfl) rfl rfl ?_
          exact xpuse key49 rfl ⟨(.cons rfl (.refl _) (.cons rfl (.refl _) (.cons rfl (.refl _) (.cons rfl (.eq (by first | rfl | simp)) (.cons rfl (.refl _) (.cons rfl (.refl _) (.nil _))))))), by exact (SubM.of (.keep rfl rfl (.refl _) (.keep rfl rfl (.refl _) (.keep rfl rfl (.refl _) (.keep rfl rfl (.refl _) (.keep rfl rfl (.cons (.eq (by first | rfl | simp)) (.cons (.refl _) (.cons (.refl _) .nil))) (.keep rfl rfl (.refl _) (.nil _))))))) (.nil _))⟩ rfl (by kernel_rfl)
        · refine ⟨_, rfl, ?_⟩
          refine wappendRb (f := eb) (l := l26) (l2 := bv5) 5 rfl h40 UndC.h InfC.h rfl rfl (.refl _) (.sl rfl (.refl _)) rfl rfl rfl fun i41 => ?_
          refine xpval 9 rfl (pv_nilCheck rfl) rfl rfl (by kernel_rfl) (by kernel_rfl) (by kernel_rfl) (fun _ _ _ _ h => h) ?_
          refine xpval 10 rfl (qv_fieldAddrB FldC.h rfl) rfl rfl (by kernel_rfl) (by kernel_rfl) (by kernel_rfl) (fun _ _ _ _ h => h) ?_
          exact xpuse key48 ⟨i41, rfl⟩ ⟨(.cons rfl (.refl _) (.cons rfl (.refl _) (.cons rfl (.eq (by first | rfl | simp)) (.cons rfl (.refl _) (.cons rfl (.refl _) (.nil _)))))), by exact (SubM.of (.keep rfl rfl (.refl _) (.keep rfl rfl (.refl _) (.keep rfl rfl (.refl _) (.keep rfl rfl (.refl _) (.keep rfl rfl (.cons (.eq (by first | rfl | simp)) (.cons (.refl _) (.cons (.refl _) .nil))) (.keep rfl rfl (.refl _) (.nil _))))))) (.nil _))⟩ rfl (by kernel_rfl)
      · refine ⟨_, rfl, ?_⟩
        refine wval (qv_loadB 3 ShpC.h rfl rfl rfl rfl) rfl rfl ?_
        refine xpstepN (is := [0, 7]) (by kernel_rfl) (by simp) ?_
        intro i hi; simp only [List.mem_cons, List.not_mem_nil, or_false] at hi; rcases hi with rfl | rfl
        · refine ⟨_, rfl, ?_⟩
          refine wval (qv_loadB 3 ShpC.h rfl rfl rfl rfl) rfl rfl ?_
          exact xpuse key49 rfl ⟨(.cons rfl (.refl _) (.cons rfl (.refl _) (.cons rfl (.refl _) (.cons rfl (.eq (by first | rfl | simp)) (.cons rfl (.refl _) (.cons rfl (.refl _) (.nil _))))))), by exact (SubM.of (.keep rfl rfl (.refl _) (.keep rfl rfl (.refl _) (.keep rfl rfl (.refl _) (.keep rfl rfl (.refl _) (.keep rfl rfl (.cons (.eq (by first | rfl | simp)) (.cons (.refl _) (.cons (.refl _) .nil))) (.keep rfl rfl (.refl _) (.nil _))))))) (.nil _))⟩ rfl (by kernel_rfl)
        · refine ⟨_, rfl, ?_⟩
          refine wappendRb (f := eb) (l := l26) (l2 := bv5) 5 rfl h40 UndC.h InfC.h rfl rfl (.refl _) (.sl rfl (.refl _)) rfl rfl rfl fun i41 => ?_
          refine xpvalE 0 [] rfl (qv_loadB 3 ShpC.h rfl rfl rfl rfl) rfl rfl (by kernel_rfl) (by kernel_rfl) (by kernel_rfl) (fun _ _ _ _ h => h) ?_
          refine xpval 9 rfl (pv_nilCheck rfl) rfl rfl (by kernel_rfl) (by kernel_rfl) (by kernel_rfl) (fun _ _ _ _ h => h) ?_
          refine xpval 10 rfl (qv_fieldAddrB FldC.h rfl) rfl rfl (by kernel_rfl) (by kernel_rfl) (by kernel_rfl) (fun _ _ _ _ h => h) ?_
          exact xpuse key47 ⟨i41, rfl⟩ ⟨(.cons rfl (.refl _) (.cons rfl (.refl _) (.cons rfl (.eq (by first | rfl | simp)) (.cons rfl (.refl _) (.cons rfl (.refl _) (.nil _)))))), by exact (SubM.of (.keep rfl rfl (.refl _) (.keep rfl rfl (.refl _) (.keep rfl rfl (.refl _) (.keep rfl rfl (.refl _) (.keep rfl rfl (.cons (.eq (by first | rfl | simp)) (.cons (.refl _) (.cons (.refl _) .nil))) (.keep rfl rfl (.refl _) (.nil _))))))) (.nil _))⟩ rfl (by kernel_rfl)
      · refine ⟨_, rfl, ?_⟩
        refine wappendRb (f := eb) (l := l26) (l2 := bv5) 5 rfl h40 UndC.h InfC.h rfl rfl (.refl _) (.sl rfl (.refl _)) rfl rfl rfl fun i41 => ?_
        refine xpvalE 0 [1] rfl (qv_loadB 3 ShpC.h rfl rfl rfl rfl) rfl rfl (by kernel_rfl) (by kernel_rfl) (by kernel_rfl) (fun _ _ _ _ h => h) ?_
        refine xpval 9 rfl (pv_nilCheck rfl) rfl rfl (by kernel_rfl) (by kernel_rfl) (by kernel_rfl) (fun _ _ _ _ h => h) ?_
        refine xpval 10 rfl (qv_fieldAddrB FldC.h rfl) rfl rfl (by kernel_rfl) (by kernel_rfl) (by kernel_rfl) (fun _ _ _ _ h => h) ?_
        exact xpuse key48 ⟨i41, rfl⟩ ⟨(.cons rfl (.refl _) (.cons rfl (.refl _) (.cons rfl (.eq (by first | rfl | simp)) (.cons rfl (.refl _) (.cons rfl (.refl _) (.nil _)))))), by exact (SubM.of (.keep rfl rfl (.refl _) (.keep rfl rfl (.refl _) (.keep rfl rfl (.refl _) (.keep rfl rfl (.refl _) (.keep rfl rfl (.cons (.eq (by first | rfl | simp)) (.cons (.refl _) (.cons (.refl _) .nil))) (.keep rfl rfl (.refl _) (.nil _))))))) (.nil _))⟩ rfl (by kernel_rfl)
  refine xpcut 2 #[true, true, true, true, true, true, true, true, true, true, true, false, false] (fun σ => ∃ (b8 : Nat), ∃ (b7 : Nat), σ = ⟨[(1, .sl 1 none (List.map eb bv5)), (2, .v (.bool short6)), (3, .v (.pointer (some ⟨b3, 0, none⟩))), (6, .v (.pointer (some ⟨b6, 0, none⟩))), (7, .v (.pointer (some ⟨b7, 0, none⟩))), (8, .v (.pointer (some ⟨b8, 0, none⟩))), (14, .v (.bool o3)), (19, .v (.int .i64 (((l1.length : Nat) : Int))))], [⟨b8, 3, [.v (.int .i64 0)]⟩, ⟨b7, 4, [.v (.bool false)]⟩, ⟨b6, 30, [.v (.int .i64 0)]⟩, ⟨b3, 27, [.v (.pointer (some ⟨bx0, 0, none⟩))]⟩, ⟨bx0, 29, [.rb ia2 l1.length, .v (.bool o3), .v (.int .i64 o4)]⟩, rbx ia2 5 1 (List.map eb l1)], []⟩) ?_ (fun key50 => ?_)
  · rintro _ ⟨b8, b7, rfl⟩
    refine xpstep (i := 11) (by kernel_rfl) rfl ?_
    refine wstore 1 ShpC.h rfl rfl rfl rfl rfl rfl rfl ?_
    exact xpuse key19 ⟨b8, b7, rfl⟩ ⟨(.cons rfl (.refl _) (.cons rfl (.refl _) (.cons rfl (.refl _) (.cons rfl (.refl _) (.cons rfl (.refl _) (.cons rfl (.refl _) (.cons rfl (.refl _) (.nil _)))))))), by exact (SubM.of (.keep rfl rfl (.refl _) (.keep rfl rfl (.refl _) (.keep rfl rfl (.refl _) (.keep rfl rfl (.refl _) (.keep rfl rfl (.cons (.eq (by first | rfl | simp)) (.cons (.refl _) (.cons (.refl _) .nil))) (.keep rfl rfl (.refl _) (.nil _))))))) (.nil _))⟩ rfl (by kernel_rfl)
  refine xpcut 3 #[true, true, true, true, true, true, true, true, true, true, false, false, false] (fun σ => ∃ (b7 : Nat), σ = ⟨[(1, .sl 1 none (List.map eb bv5)), (2, .v (.bool short6)), (3, .v (.pointer (some ⟨b3, 0, none⟩))), (6, .v (.pointer (some ⟨b6, 0, none⟩))), (7, .v (.pointer (some ⟨b7, 0, none⟩))), (14, .v (.bool o3)), (19, .v (.int .i64 (((l1.length : Nat) : Int))))], [⟨b7, 4, [.v (.bool false)]⟩, ⟨b6, 30, [.v (.int .i64 0)]⟩, ⟨b3, 27, [.v (.pointer (some ⟨bx0, 0, none⟩))]⟩, ⟨bx0, 29, [.rb ia2 l1.length, .v (.bool o3), .v (.int .i64 o4)]⟩, rbx ia2 5 1 (List.map eb l1)], []⟩) ?_ (fun key51 => ?_)
  · rintro _ ⟨b7, rfl⟩
    refine xpstep (i := 10) (by kernel_rfl) rfl ?_
    refine walloc InfC.h rfl rfl fun b8 => ?_
    exact xpuse key50 ⟨b8, b7, rfl⟩ ⟨(.cons rfl (.refl _) (.cons rfl (.refl _) (.cons rfl (.refl _) (.cons rfl (.refl _) (.cons rfl (.refl _) (.cons rfl (.refl _) (.cons rfl (.refl _) (.cons rfl (.refl _) (.nil _))))))))), by exact (SubM.of (.keep rfl rfl (.refl _) (.keep rfl rfl (.refl _) (.keep rfl rfl (.refl _) (.keep rfl rfl (.refl _) (.keep rfl rfl (.cons (.eq (by first | rfl | simp)) (.cons (.refl _) (.cons (.refl _) .nil))) (.keep rfl rfl (.refl _) (.nil _))))))) (.nil _))⟩ rfl (by kernel_rfl)
  refine xpcut 3 #[true, true, true, true, true, true, true, true, true, false, true, false, false] (fun σ => ∃ (b8 : Nat), σ = ⟨[(1, .sl 1 none (List.map eb bv5)), (2, .v (.bool short6)), (3, .v (.pointer (some ⟨b3, 0, none⟩))), (6, .v (.pointer (some ⟨b6, 0, none⟩))), (8, .v (.pointer (some ⟨b8, 0, none⟩))), (14, .v (.bool o3)), (19, .v (.int .i64 (((l1.length : Nat) : Int))))], [⟨b8, 3, [.v (.int .i64 0)]⟩, ⟨b6, 30, [.v (.int .i64 0)]⟩, ⟨b3, 27, [.v (.pointer (some ⟨bx0, 0, none⟩))]⟩, ⟨bx0, 29, [.rb ia2 l1.length, .v (.bool o3), .v (.int .i64 o4)]⟩, rbx ia2 5 1 (List.map eb l1)], []⟩) ?_ (fun key52 => ?_)
  · rintro _ ⟨b8, rfl⟩
    refine xpstep (i := 9) (by kernel_rfl) rfl ?_
    refine walloc InfC.h rfl rfl fun b7 => ?_
    exact xpuse key50 ⟨b8, b7, rfl⟩ ⟨(.cons rfl (.refl _) (.cons rfl (.refl _) (.cons rfl (.refl _) (.cons rfl (.refl _) (.cons rfl (.refl _) (.cons rfl (.refl _) (.cons rfl (.refl _) (.cons rfl (.refl _) (.nil _))))))))), by refine SubM.trans (SubM.mvB 5 rfl) ?_; refine SubM.trans (SubM.mvB 5 rfl) ?_; refine SubM.trans (SubM.mvB 5 rfl) ?_; refine SubM.trans (SubM.mvB 5 rfl) ?_; refine SubM.trans (SubM.mvB 4 rfl) ?_; refine SubM.trans (SubM.mvB 5 rfl) ?_; (simp only [List.eraseIdx]); exact (SubM.of (by repeat (first | with_reducible exact SubB.refl _ | exact SubB.nil _ | refine SubB.keep rfl rfl (by first | with_reducible exact WkL.refl _ | ((repeat (first | exact WkL.nil | refine WkL.cons (by first | with_reducible exact Wk.refl _ | exact Wk.nil_own _ | exact Wk.nil_pl _ | with_reducible exact Wk.tok _ _ _ | exact Wk.tok _ _ _ | exact Wk.eq (by first | rfl | (simp []; done) | (simp []; omega))) ?_)); done) | exact WkL.refl _) ?_ | refine SubB.drop ?_)) (by repeat (first | exact SubT.nil _ | refine SubT.add ?_ | (refine SubT.keep ?_ ?_; focus (first | with_reducible rfl | (simp []; done))) | refine SubT.drop ?_)))⟩ rfl (by kernel_rfl)
  refine xpcut 4 #[true, true, true, true, true, true, true, false, false, true, true, false, false] (fun σ => ∃ (b8 : Nat), ∃ (b7 : Nat), σ = ⟨[(1, .sl 1 none (List.map eb bv5)), (2, .v (.bool short6)), (3, .v (.pointer (some ⟨b3, 0, none⟩))), (6, .v (.pointer (some ⟨b6, 0, none⟩))), (7, .v (.pointer (some ⟨b7, 0, none⟩))), (8, .v (.pointer (some ⟨b8, 0, none⟩))), (14, .v (.bool o3)), (17, .v (.pointer (some ⟨bx0, 0, none⟩)))], [⟨b8, 3, [.v (.int .i64 0)]⟩, ⟨b7, 4, [.v (.bool false)]⟩, ⟨b6, 30, [.v (.int .i64 0)]⟩, ⟨b3, 27, [.v (.pointer (some ⟨bx0, 0, none⟩))]⟩, ⟨bx0, 29, [.rb ia2 l1.length, .v (.bool o3), .v (.int .i64 o4)]⟩, rbx ia2 5 1 (List.map eb l1)], []⟩) ?_ (fun key53 => ?_)
  · rintro _ ⟨b8, b7, rfl⟩
    refine xpstepN (is := [7, 11]) (by kernel_rfl) (by simp) ?_
    intro i hi; simp only [List.mem_cons, List.not_mem_nil, or_false] at hi; rcases hi with rfl | rfl
    · refine ⟨_, rfl, ?_⟩
      refine wval (qv_loadB 4 ShpC.h rfl rfl rfl rfl) rfl rfl ?_
      refine xpval 8 rfl (pv_lenRb UndC.h rfl) rfl rfl (by kernel_rfl) (by kernel_rfl) (by kernel_rfl) (fun _ _ _ _ h => h) ?_
      exact xpuse key50 ⟨b8, b7, rfl⟩ ⟨(.cons rfl (.refl _) (.cons rfl (.refl _) (.cons rfl (.refl _) (.cons rfl (.refl _) (.cons rfl (.refl _) (.cons rfl (.refl _) (.cons rfl (.refl _) (.cons rfl (.refl _) (.nil _))))))))), by exact (SubM.of (.keep rfl rfl (.refl _) (.keep rfl rfl (.refl _) (.keep rfl rfl (.refl _) (.keep rfl rfl (.refl _) (.keep rfl rfl (.cons (.eq (by first | rfl | simp)) (.cons (.refl _) (.cons (.refl _) .nil))) (.keep rfl rfl (.refl _) (.nil _))))))) (.nil _))⟩ rfl (by kernel_rfl)
    · refine ⟨_, rfl, ?_⟩
      refine wstore 1 ShpC.h rfl rfl rfl rfl rfl rfl rfl ?_
      refine xpvalE 7 [] rfl (qv_loadB 4 ShpC.h rfl rfl rfl rfl) rfl rfl (by kernel_rfl) (by kernel_rfl) (by kernel_rfl) (fun _ _ _ _ h => h) ?_
      refine xpval 8 rfl (pv_lenRb UndC.h rfl) rfl rfl (by kernel_rfl) (by kernel_rfl) (by kernel_rfl) (fun _ _ _ _ h => h) ?_
      exact xpuse key19 ⟨b8, b7, rfl⟩ ⟨(.cons rfl (.refl _) (.cons rfl (.refl _) (.cons rfl (.refl _) (.cons rfl (.refl _) (.cons rfl (.refl _) (.cons rfl (.refl _) (.cons rfl (.refl _) (.nil _)))))))), by exact (SubM.of (.keep rfl rfl (.refl _) (.keep rfl rfl (.refl _) (.keep rfl rfl (.refl _) (.keep rfl rfl (.refl _) (.keep rfl rfl (.cons (.eq (by first | rfl | simp)) (.cons (.refl _) (.cons (.refl _) .nil))) (.keep rfl rfl (.refl _) (.nil _))))))) (.nil _))⟩ rfl (by kernel_rfl)
  refine xpcut 5 #[true, true, true, true, true, true, true, false, false, true, false, false, false] (fun σ => ∃ (b7 : Nat), σ = ⟨[(1, .sl 1 none (List.map eb bv5)), (2, .v (.bool short6)), (3, .v (.pointer (some ⟨b3, 0, none⟩))), (6, .v (.pointer (some ⟨b6, 0, none⟩))), (7, .v (.pointer (some ⟨b7, 0, none⟩))), (14, .v (.bool o3)), (17, .v (.pointer (some ⟨bx0, 0, none⟩)))], [⟨b7, 4, [.v (.bool false)]⟩, ⟨b6, 30, [.v (.int .i64 0)]⟩, ⟨b3, 27, [.v (.pointer (some ⟨bx0, 0, none⟩))]⟩, ⟨bx0, 29, [.rb ia2 l1.length, .v (.bool o3), .v (.int .i64 o4)]⟩, rbx ia2 5 1 (List.map eb l1)], []⟩) ?_ (fun key54 => ?_)
  · rintro _ ⟨b7, rfl⟩
    refine xpstepN (is := [7, 10]) (by kernel_rfl) (by simp) ?_
    intro i hi; simp only [List.mem_cons, List.not_mem_nil, or_false] at hi; rcases hi with rfl | rfl
    · refine ⟨_, rfl, ?_⟩
      refine wval (qv_loadB 3 ShpC.h rfl rfl rfl rfl) rfl rfl ?_
      refine xpval 8 rfl (pv_lenRb UndC.h rfl) rfl rfl (by kernel_rfl) (by kernel_rfl) (by kernel_rfl) (fun _ _ _ _ h => h) ?_
      exact xpuse key51 ⟨b7, rfl⟩ ⟨(.cons rfl (.refl _) (.cons rfl (.refl _) (.cons rfl (.refl _) (.cons rfl (.refl _) (.cons rfl (.refl _) (.cons rfl (.refl _) (.cons rfl (.refl _) (.nil _)))))))), by exact (SubM.of (.keep rfl rfl (.refl _) (.keep rfl rfl (.refl _) (.keep rfl rfl (.refl _) (.keep rfl rfl (.cons (.eq (by first | rfl | simp)) (.cons (.refl _) (.cons (.refl _) .nil))) (.keep rfl rfl (.refl _) (.nil _)))))) (.nil _))⟩ rfl (by kernel_rfl)
    · refine ⟨_, rfl, ?_⟩
      refine walloc InfC.h rfl rfl fun b8 => ?_
      exact xpuse key53 ⟨b8, b7, rfl⟩ ⟨(.cons rfl (.refl _) (.cons rfl (.refl _) (.cons rfl (.refl _) (.cons rfl (.refl _) (.cons rfl (.refl _) (.cons rfl (.refl _) (.cons rfl (.refl _) (.cons rfl (.refl _) (.nil _))))))))), by exact (SubM.of (.keep rfl rfl (.refl _) (.keep rfl rfl (.refl _) (.keep rfl rfl (.refl _) (.keep rfl rfl (.refl _) (.keep rfl rfl (.cons (.eq (by first | rfl | simp)) (.cons (.refl _) (.cons (.refl _) .nil))) (.keep rfl rfl (.refl _) (.nil _))))))) (.nil _))⟩ rfl (by kernel_rfl)
  refine xpcut 5 #[true, true, true, true, true, true, true, false, false, false, true, false, false] (fun σ => ∃ (b8 : Nat), σ = ⟨[(1, .sl 1 none (List.map eb bv5)), (2, .v (.bool short6)), (3, .v (.pointer (some ⟨b3, 0, none⟩))), (6, .v (.pointer (some ⟨b6, 0, none⟩))), (8, .v (.pointer (some ⟨b8, 0, none⟩))), (14, .v (.bool o3)), (17, .v (.pointer (some ⟨bx0, 0, none⟩)))], [⟨b8, 3, [.v (.int .i64 0)]⟩, ⟨b6, 30, [.v (.int .i64 0)]⟩, ⟨b3, 27, [.v (.pointer (some ⟨bx0, 0, none⟩))]⟩, ⟨bx0, 29, [.rb ia2 l1.length, .v (.bool o3), .v (.int .i64 o4)]⟩, rbx ia2 5 1 (List.map eb l1)], []⟩) ?_ (fun key55 => ?_)
  · rintro _ ⟨b8, rfl⟩
    refine xpstepN (is := [7, 9]) (by kernel_rfl) (by simp) ?_
    intro i hi; simp only [List.mem_cons, List.not_mem_nil, or_false] at hi; rcases hi with rfl | rfl
    · refine ⟨_, rfl, ?_⟩
      refine wval (qv_loadB 3 ShpC.h rfl rfl rfl rfl) rfl rfl ?_
      refine xpval 8 rfl (pv_lenRb UndC.h rfl) rfl rfl (by kernel_rfl) (by kernel_rfl) (by kernel_rfl) (fun _ _ _ _ h => h) ?_
      exact xpuse key52 ⟨b8, rfl⟩ ⟨(.cons rfl (.refl _) (.cons rfl (.refl _) (.cons rfl (.refl _) (.cons rfl (.refl _) (.cons rfl (.refl _) (.cons rfl (.refl _) (.cons rfl (.refl _) (.nil _)))))))), by exact (SubM.of (.keep rfl rfl (.refl _) (.keep rfl rfl (.refl _) (.keep rfl rfl (.refl _) (.keep rfl rfl (.cons (.eq (by first | rfl | simp)) (.cons (.refl _) (.cons (.refl _) .nil))) (.keep rfl rfl (.refl _) (.nil _)))))) (.nil _))⟩ rfl (by kernel_rfl)
    · refine ⟨_, rfl, ?_⟩
      refine walloc InfC.h rfl rfl fun b7 => ?_
      exact xpuse key53 ⟨b8, b7, rfl⟩ ⟨(.cons rfl (.refl _) (.cons rfl (.refl _) (.cons rfl (.refl _) (.cons rfl (.refl _) (.cons rfl (.refl _) (.cons rfl (.refl _) (.cons rfl (.refl _) (.cons rfl (.refl _) (.nil _))))))))), by refine SubM.trans (SubM.mvB 5 rfl) ?_; refine SubM.trans (SubM.mvB 5 rfl) ?_; refine SubM.trans (SubM.mvB 5 rfl) ?_; refine SubM.trans (SubM.mvB 5 rfl) ?_; refine SubM.trans (SubM.mvB 4 rfl) ?_; refine SubM.trans (SubM.mvB 5 rfl) ?_; (simp only [List.eraseIdx]); exact (SubM.of (by repeat (first | with_reducible exact SubB.refl _ | exact SubB.nil _ | refine SubB.keep rfl rfl (by first | with_reducible exact WkL.refl _ | ((repeat (first | exact WkL.nil | refine WkL.cons (by first | with_reducible exact Wk.refl _ | exact Wk.nil_own _ | exact Wk.nil_pl _ | with_reducible exact Wk.tok _ _ _ | exact Wk.tok _ _ _ | exact Wk.eq (by first | rfl | (simp []; done) | (simp []; omega))) ?_)); done) | exact WkL.refl _) ?_ | refine SubB.drop ?_)) (by repeat (first | exact SubT.nil _ | refine SubT.add ?_ | (refine SubT.keep ?_ ?_; focus (first | with_reducible rfl | (simp []; done))) | refine SubT.drop ?_)))⟩ rfl (by kernel_rfl)
  refine xpcut 7 #[true, true, true, true, false, false, false, false, false, true, true, false, false] (fun σ => ∃ (b8 : Nat), ∃ (b7 : Nat), σ = ⟨[(1, .sl 1 none (List.map eb bv5)), (2, .v (.bool short6)), (3, .v (.pointer (some ⟨b3, 0, none⟩))), (6, .v (.pointer (some ⟨b6, 0, none⟩))), (7, .v (.pointer (some ⟨b7, 0, none⟩))), (8, .v (.pointer (some ⟨b8, 0, none⟩))), (14, .v (.bool o3))], [⟨b8, 3, [.v (.int .i64 0)]⟩, ⟨b7, 4, [.v (.bool false)]⟩, ⟨b6, 30, [.v (.int .i64 0)]⟩, ⟨b3, 27, [.v (.pointer (some ⟨bx0, 0, none⟩))]⟩, ⟨bx0, 29, [.rb ia2 l1.length, .v (.bool o3), .v (.int .i64 o4)]⟩, rbx ia2 5 1 (List.map eb l1)], []⟩) ?_ (fun key56 => ?_)
  · rintro _ ⟨b8, b7, rfl⟩
    refine xpstepN (is := [4, 11]) (by kernel_rfl) (by simp) ?_
    intro i hi; simp only [List.mem_cons, List.not_mem_nil, or_false] at hi; rcases hi with rfl | rfl
    · refine ⟨_, rfl, ?_⟩
      refine wval (qv_loadB 3 ShpC.h rfl rfl rfl rfl) rfl rfl ?_
      refine xpval 5 rfl (pv_nilCheck rfl) rfl rfl (by kernel_rfl) (by kernel_rfl) (by kernel_rfl) (fun _ _ _ _ h => h) ?_
      refine xpval 6 rfl (qv_fieldAddrB FldC.h rfl) rfl rfl (by kernel_rfl) (by kernel_rfl) (by kernel_rfl) (fun _ _ _ _ h => h) ?_
      exact xpuse key53 ⟨b8, b7, rfl⟩ ⟨(.cons rfl (.refl _) (.cons rfl (.refl _) (.cons rfl (.refl _) (.cons rfl (.refl _) (.cons rfl (.refl _) (.cons rfl (.refl _) (.cons rfl (.refl _) (.cons rfl (.refl _) (.nil _))))))))), by exact (SubM.of (.keep rfl rfl (.refl _) (.keep rfl rfl (.refl _) (.keep rfl rfl (.refl _) (.keep rfl rfl (.refl _) (.keep rfl rfl (.cons (.eq (by first | rfl | simp)) (.cons (.refl _) (.cons (.refl _) .nil))) (.keep rfl rfl (.refl _) (.nil _))))))) (.nil _))⟩ rfl (by kernel_rfl)
    · refine ⟨_, rfl, ?_⟩
      refine wstore 1 ShpC.h rfl rfl rfl rfl rfl rfl rfl ?_
      refine xpvalE 4 [] rfl (qv_loadB 3 ShpC.h rfl rfl rfl rfl) rfl rfl (by kernel_rfl) (by kernel_rfl) (by kernel_rfl) (fun _ _ _ _ h => h) ?_
      refine xpval 5 rfl (pv_nilCheck rfl) rfl rfl (by kernel_rfl) (by kernel_rfl) (by kernel_rfl) (fun _ _ _ _ h => h) ?_
      refine xpval 6 rfl (qv_fieldAddrB FldC.h rfl) rfl rfl (by kernel_rfl) (by kernel_rfl) (by kernel_rfl) (fun _ _ _ _ h => h) ?_
      refine xpvalE 7 [] rfl (qv_loadB 4 ShpC.h rfl rfl rfl rfl) rfl rfl (by kernel_rfl) (by kernel_rfl) (by kernel_rfl) (fun _ _ _ _ h => h) ?_
      refine xpval 8 rfl (pv_lenRb UndC.h rfl) rfl rfl (by kernel_rfl) (by kernel_rfl) (by kernel_rfl) (fun _ _ _ _ h => h) ?_
      exact xpuse key19 ⟨b8, b7, rfl⟩ ⟨(.cons rfl (.refl _) (.cons rfl (.refl _) (.cons rfl (.refl _) (.cons rfl (.refl _) (.cons rfl (.refl _) (.cons rfl (.refl _) (.cons rfl (.refl _) (.nil _)))))))), by exact (SubM.of (.keep rfl rfl (.refl _) (.keep rfl rfl (.refl _) (.keep rfl rfl (.refl _) (.keep rfl rfl (.refl _) (.keep rfl rfl (.cons (.eq (by first | rfl | simp)) (.cons (.refl _) (.cons (.refl _) .nil))) (.keep rfl rfl (.refl _) (.nil _))))))) (.nil _))⟩ rfl (by kernel_rfl)
  refine xpvalE 0 [4, 5, 6, 7, 8, 9, 10] rfl (qv_loadB 1 ShpC.h rfl rfl rfl rfl) rfl rfl (by kernel_rfl) (by kernel_rfl) (by kernel_rfl) (fun _ _ _ _ h => h) ?_
  refine xpval 1 rfl (pv_nilCheck rfl) rfl rfl (by kernel_rfl) (by kernel_rfl) (by kernel_rfl) (fun _ _ _ _ h => h) ?_
  refine xpval 2 rfl (qv_fieldAddrB FldC.h rfl) rfl rfl (by kernel_rfl) (by kernel_rfl) (by kernel_rfl) (fun _ _ _ _ h => h) ?_
  refine xpvalE 3 [4, 5, 6, 7, 8, 9, 10] rfl (qv_loadB 2 ShpC.h rfl rfl rfl rfl) rfl rfl (by kernel_rfl) (by kernel_rfl) (by kernel_rfl) (fun _ _ _ _ h => h) ?_
  refine xpstepN (is := [4, 9, 10]) (by kernel_rfl) (by simp) ?_
  intro i hi; simp only [List.mem_cons, List.not_mem_nil, or_false] at hi; rcases hi with rfl | rfl | rfl
  · refine ⟨_, rfl, ?_⟩
    refine wval (qv_loadB 1 ShpC.h rfl rfl rfl rfl) rfl rfl ?_
    refine xpval 5 rfl (pv_nilCheck rfl) rfl rfl (by kernel_rfl) (by kernel_rfl) (by kernel_rfl) (fun _ _ _ _ h => h) ?_
    refine xpval 6 rfl (qv_fieldAddrB FldC.h rfl) rfl rfl (by kernel_rfl) (by kernel_rfl) (by kernel_rfl) (fun _ _ _ _ h => h) ?_
    refine xpstepN (is := [7, 9, 10]) (by kernel_rfl) (by simp) ?_
    intro i hi; simp only [List.mem_cons, List.not_mem_nil, or_false] at hi; rcases hi with rfl | rfl | rfl
    · refine ⟨_, rfl, ?_⟩
      refine wval (qv_loadB 2 ShpC.h rfl rfl rfl rfl) rfl rfl ?_
      refine xpval 8 rfl (pv_lenRb UndC.h rfl) rfl rfl (by kernel_rfl) (by kernel_rfl) (by kernel_rfl) (fun _ _ _ _ h => h) ?_
      refine xpstepN (is := [9, 10]) (by kernel_rfl) (by simp) ?_
      intro i hi; simp only [List.mem_cons, List.not_mem_nil, or_false] at hi; rcases hi with rfl | rfl
      · refine ⟨_, rfl, ?_⟩
        refine walloc InfC.h rfl rfl fun b7 => ?_
        exact xpuse key51 ⟨b7, rfl⟩ ⟨(.cons rfl (.refl _) (.cons rfl (.refl _) (.cons rfl (.refl _) (.cons rfl (.refl _) (.cons rfl (.refl _) (.cons rfl (.refl _) (.cons rfl (.refl _) (.nil _)))))))), by exact (SubM.of (.keep rfl rfl (.refl _) (.keep rfl rfl (.refl _) (.keep rfl rfl (.refl _) (.keep rfl rfl (.cons (.eq (by first | rfl | simp)) (.cons (.refl _) (.cons (.refl _) .nil))) (.keep rfl rfl (.refl _) (.nil _)))))) (.nil _))⟩ rfl (by kernel_rfl)
      · refine ⟨_, rfl, ?_⟩
        refine walloc InfC.h rfl rfl fun b8 => ?_
        exact xpuse key52 ⟨b8, rfl⟩ ⟨(.cons rfl (.refl _) (.cons rfl (.refl _) (.cons rfl (.refl _) (.cons rfl (.refl _) (.cons rfl (.refl _) (.cons rfl (.refl _) (.cons rfl (.refl _) (.nil _)))))))), by exact (SubM.of (.keep rfl rfl (.refl _) (.keep rfl rfl (.refl _) (.keep rfl rfl (.refl _) (.keep rfl rfl (.cons (.eq (by first | rfl | simp)) (.cons (.refl _) (.cons (.refl _) .nil))) (.keep rfl rfl (.refl _) (.nil _)))))) (.nil _))⟩ rfl (by kernel_rfl)
    · refine ⟨_, rfl, ?_⟩
      refine walloc InfC.h rfl rfl fun b7 => ?_
      exact xpuse key54 ⟨b7, rfl⟩ ⟨(.cons rfl (.refl _) (.cons rfl (.refl _) (.cons rfl (.refl _) (.cons rfl (.refl _) (.cons rfl (.refl _) (.cons rfl (.refl _) (.cons rfl (.refl _) (.nil _)))))))), by exact (SubM.of (.keep rfl rfl (.refl _) (.keep rfl rfl (.refl _) (.keep rfl rfl (.refl _) (.keep rfl rfl (.cons (.eq (by first | rfl | simp)) (.cons (.refl _) (.cons (.refl _) .nil))) (.keep rfl rfl (.refl _) (.nil _)))))) (.nil _))⟩ rfl (by kernel_rfl)
    · refine ⟨_, rfl, ?_⟩
      refine walloc InfC.h rfl rfl fun b8 => ?_
      exact xpuse key55 ⟨b8, rfl⟩ ⟨(.cons rfl (.refl _) (.cons rfl (.refl _) (.cons rfl (.refl _) (.cons rfl (.refl _) (.cons rfl (.refl _) (.cons rfl (.refl _) (.cons rfl (.refl _) (.nil _)))))))), by exact (SubM.of (.keep rfl rfl (.refl _) (.keep rfl rfl (.refl _) (.keep rfl rfl (.refl _) (.keep rfl rfl (.cons (.eq (by first | rfl | simp)) (.cons (.refl _) (.cons (.refl _) .nil))) (.keep rfl rfl (.refl _) (.nil _)))))) (.nil _))⟩ rfl (by kernel_rfl)
  · refine ⟨_, rfl, ?_⟩
    refine walloc InfC.h rfl rfl fun b7 => ?_
    refine xpstepN (is := [4, 10]) (by kernel_rfl) (by simp) ?_
    intro i hi; simp only [List.mem_cons, List.not_mem_nil, or_false] at hi; rcases hi with rfl | rfl
    · refine ⟨_, rfl, ?_⟩
      refine wval (qv_loadB 2 ShpC.h rfl rfl rfl rfl) rfl rfl ?_
      refine xpval 5 rfl (pv_nilCheck rfl) rfl rfl (by kernel_rfl) (by kernel_rfl) (by kernel_rfl) (fun _ _ _ _ h => h) ?_
      refine xpval 6 rfl (qv_fieldAddrB FldC.h rfl) rfl rfl (by kernel_rfl) (by kernel_rfl) (by kernel_rfl) (fun _ _ _ _ h => h) ?_
      exact xpuse key54 ⟨b7, rfl⟩ ⟨(.cons rfl (.refl _) (.cons rfl (.refl _) (.cons rfl (.refl _) (.cons rfl (.refl _) (.cons rfl (.refl _) (.cons rfl (.refl _) (.cons rfl (.refl _) (.nil _)))))))), by exact (SubM.of (.keep rfl rfl (.refl _) (.keep rfl rfl (.refl _) (.keep rfl rfl (.refl _) (.keep rfl rfl (.cons (.eq (by first | rfl | simp)) (.cons (.refl _) (.cons (.refl _) .nil))) (.keep rfl rfl (.refl _) (.nil _)))))) (.nil _))⟩ rfl (by kernel_rfl)
    · refine ⟨_, rfl, ?_⟩
      refine walloc InfC.h rfl rfl fun b8 => ?_
      exact xpuse key56 ⟨b8, b7, rfl⟩ ⟨(.cons rfl (.refl _) (.cons rfl (.refl _) (.cons rfl (.refl _) (.cons rfl (.refl _) (.cons rfl (.refl _) (.cons rfl (.refl _) (.cons rfl (.refl _) (.nil _)))))))), by exact (SubM.of (.keep rfl rfl (.refl _) (.keep rfl rfl (.refl _) (.keep rfl rfl (.refl _) (.keep rfl rfl (.refl _) (.keep rfl rfl (.cons (.eq (by first | rfl | simp)) (.cons (.refl _) (.cons (.refl _) .nil))) (.keep rfl rfl (.refl _) (.nil _))))))) (.nil _))⟩ rfl (by kernel_rfl)
  · refine ⟨_, rfl, ?_⟩
    refine walloc InfC.h rfl rfl fun b8 => ?_
    refine xpstepN (is := [4, 9]) (by kernel_rfl) (by simp) ?_
    intro i hi; simp only [List.mem_cons, List.not_mem_nil, or_false] at hi; rcases hi with rfl | rfl
    · refine ⟨_, rfl, ?_⟩
      refine wval (qv_loadB 2 ShpC.h rfl rfl rfl rfl) rfl rfl ?_
      refine xpval 5 rfl (pv_nilCheck rfl) rfl rfl (by kernel_rfl) (by kernel_rfl) (by kernel_rfl) (fun _ _ _ _ h => h) ?_
      refine xpval 6 rfl (qv_fieldAddrB FldC.h rfl) rfl rfl (by kernel_rfl) (by kernel_rfl) (by kernel_rfl) (fun _ _ _ _ h => h) ?_
      exact xpuse key55 ⟨b8, rfl⟩ ⟨(.cons rfl (.refl _) (.cons rfl (.refl _) (.cons rfl (.refl _) (.cons rfl (.refl _) (.cons rfl (.refl _) (.cons rfl (.refl _) (.cons rfl (.refl _) (.nil _)))))))), by exact (SubM.of (.keep rfl rfl (.refl _) (.keep rfl rfl (.refl _) (.keep rfl rfl (.refl _) (.keep rfl rfl (.cons (.eq (by first | rfl | simp)) (.cons (.refl _) (.cons (.refl _) .nil))) (.keep rfl rfl (.refl _) (.nil _)))))) (.nil _))⟩ rfl (by kernel_rfl)
    · refine ⟨_, rfl, ?_⟩
      refine walloc InfC.h rfl rfl fun b7 => ?_
      exact xpuse key56 ⟨b8, b7, rfl⟩ ⟨(.cons rfl (.refl _) (.cons rfl (.refl _) (.cons rfl (.refl _) (.cons rfl (.refl _) (.cons rfl (.refl _) (.cons rfl (.refl _) (.cons rfl (.refl _) (.nil _)))))))), by refine SubM.trans (SubM.mvB 5 rfl) ?_; refine SubM.trans (SubM.mvB 5 rfl) ?_; refine SubM.trans (SubM.mvB 5 rfl) ?_; refine SubM.trans (SubM.mvB 5 rfl) ?_; refine SubM.trans (SubM.mvB 4 rfl) ?_; refine SubM.trans (SubM.mvB 5 rfl) ?_; (simp only [List.eraseIdx]); exact (SubM.of (by repeat (first | with_reducible exact SubB.refl _ | exact SubB.nil _ | refine SubB.keep rfl rfl (by first | with_reducible exact WkL.refl _ | ((repeat (first | exact WkL.nil | refine WkL.cons (by first | with_reducible exact Wk.refl _ | exact Wk.nil_own _ | exact Wk.nil_pl _ | with_reducible exact Wk.tok _ _ _ | exact Wk.tok _ _ _ | exact Wk.eq (by first | rfl | (simp []; done) | (simp []; omega))) ?_)); done) | exact WkL.refl _) ?_ | refine SubB.drop ?_)) (by repeat (first | exact SubT.nil _ | refine SubT.add ?_ | (refine SubT.keep ?_ ?_; focus (first | with_reducible rfl | (simp []; done))) | refine SubT.drop ?_)))⟩ rfl (by kernel_rfl)
/-- slices.Clone [ []byte,byte] -/
def slices_Clone_R (sv1 : List UInt8) (r : (List UInt8)) : Prop :=
  ∀ bv6 : Bool, (sv1 ≠ [] → bv6 = false) → ((bv6 = true → r = ([] : List UInt8)) ∧ (¬ (bv6 = true) → Room ((([] : List UInt8)).length + sv1.length) 1 ∧ r = (([] : List UInt8) ++ sv1)))
def slices_Clone_ev (fuel : Nat) (sv1 : List UInt8) : Option ((List UInt8)) :=
  (bothE (decide (sv1 ≠ [])) fun bv6 => (if bv6 = true then some ([] : List UInt8) else (if Room ((([] : List UInt8)).length + sv1.length) 1 then some (([] : List UInt8) ++ sv1) else none)))
theorem slices_Clone_ok {fuel : Nat} {sv1 : List UInt8} {r : (List UInt8)} (h : slices_Clone_ev fuel sv1 = some r) : slices_Clone_R sv1 r := by
  unfold slices_Clone_ev at h
  unfold slices_Clone_R
  intro q7 g7
  replace h := bothE_ok h q7 (fun e => g7 (of_decide_eq_true e))
  refine ⟨fun g8 => ?_, fun g8 => ?_⟩
  · rw [if_pos g8] at h
    exact (Option.some.inj h).symm
  · rw [if_neg g8] at h
    obtain ⟨g9, h⟩ := if_ok h
    refine ⟨g9, ?_⟩
    exact (Option.some.inj h).symm
set_option maxHeartbeats 4000000 in
theorem slices_Clone_con (sv1 : List UInt8) (r : (List UInt8)) (h : slices_Clone_R sv1 r) : Con Try.prog 10 [.sl 1 none (List.map eb sv1)] [] [] (RetM 1 5 eb r) := by
  refine xenter Try.func10 rfl rfl fun g hg => ?_
  simp only [Try.ntmps10, slots]
  refine xseq ?_
  refine xregion ?_
  refine xvalP (pv_assign rfl) rfl rfl ?_
  refine xnil ?_
  refine xthen ?_
  refine xseq ?_
  refine xseq ?_
  refine xregion ?_
  refine xvalP (pv_move rfl) rfl rfl ?_
  refine xexact 3 rfl fun A5 c5 hA5 => ?_
  refine xvalP (pv_eqNilV UndC.h rfl rfl) rfl rfl ?_
  obtain ⟨bv6, hb5⟩ : ∃ b : Bool, A5.isNone = b := ⟨_, rfl⟩
  replace h := h bv6 (fun q => hb5 ▸ hA5 q)
  refine xsetB 4 (b' := bv6) (by rw [hb5]) rfl ?_
  refine xnil ?_
  refine xthen ?_
  by_cases hp7 : bv6 = true
  · replace h := h.1 hp7
    refine xcondT' hp7 rfl ?_
    refine xseq ?_
    refine xregion ?_
    refine xvalP (pv_assign rfl) rfl rfl ?_
    refine xnil ?_
    refine xthen ?_
    refine xretc ?_
    refine xthen_ret ?_
    replace h := h.symm
    subst h
    exact xret1 hg rfl rfl (.nil_own _) (SubM.of (by repeat (first | with_reducible exact SubB.refl _ | exact SubB.nil _ | refine SubB.keep rfl rfl (by first | with_reducible exact WkL.refl _ | ((repeat (first | exact WkL.nil | refine WkL.cons (by first | with_reducible exact Wk.refl _ | exact Wk.nil_own _ | exact Wk.nil_pl _ | with_reducible exact Wk.tok _ _ _ | exact Wk.tok _ _ _ | exact Wk.eq (by first | rfl | (simp []; done) | (simp []; omega))) ?_)); done) | exact WkL.refl _) ?_ | refine SubB.drop ?_)) (by repeat (first | exact SubT.nil _ | refine SubT.add ?_ | (refine SubT.keep ?_ ?_; focus (first | with_reducible rfl | (simp []; done))) | refine SubT.drop ?_))) ⟨none, rfl, rfl, rfl⟩
  · replace h := h.2 hp7
    refine xcondF' (b_f hp7) rfl ?_
    refine xskipc ?_
    refine xthen ?_
    refine xseq ?_
    refine xregion ?_
    refine xbuildSliceM (f := eb) ([] : List UInt8) UndC.h InfC.h rfl rfl (by first | exact wkR_of rfl | (repeat (first | exact WkR.nil | refine WkR.cons (by (repeat (first | exact WkL.nil | refine WkL.cons (by first | with_reducible exact Wk.refl _ | exact Wk.nil_own _ | exact Wk.nil_pl _ | with_reducible exact Wk.tok _ _ _ | exact Wk.tok _ _ _ | exact Wk.eq (by first | rfl | (simp []; done) | (simp []; omega))) ?_))) ?_))) rfl rfl rfl rfl fun s5 => ?_
    refine xvalP (pv_move rfl) rfl rfl ?_
    obtain ⟨h8, h⟩ := h
    refine xappendM (l := ([] : List UInt8)) (l2 := sv1) 0 h8 UndC.h InfC.h rfl rfl rfl (.refl _) rfl rfl rfl fun i9 => ?_
    refine xvalP (pv_assign rfl) rfl rfl ?_
    refine xnil ?_
    refine xthen ?_
    refine xretc ?_
    replace h := h.symm
    subst h
    exact xret1 hg rfl rfl (.refl _) (SubM.of (.nil _) (.keep rfl (.nil _))) ⟨i9, rfl, rfl, rfl⟩
/-- (*sinks.Sink).Line -/
def sinks_Sink_Line_R (o3 : Bool) (o4 : Int) (l1 : List UInt8) (l5 : (List UInt8) × Bool) (r : Int × (List UInt8) × Bool) : Prop :=
  ((¬ (l5.2 = true) → ∃ y12 : Int × (List UInt8) × Bool, sinks_Sink_write_R o3 o4 l1 l5.1 true y12 ∧ r = (y12.1, y12.2.1, y12.2.2)) ∧ (¬ (¬ (l5.2 = true)) → ∃ y15 : (List UInt8), slices_Clone_R l5.1 y15 ∧ Room (y15.length + ([(10 : UInt8)]).length) 1 ∧ ∃ y20 : Int × (List UInt8) × Bool, sinks_Sink_write_R o3 o4 l1 (y15 ++ [(10 : UInt8)]) false y20 ∧ r = (y20.1, y20.2.1, y20.2.2)))
def sinks_Sink_Line_ev (fuel : Nat) (o3 : Bool) (o4 : Int) (l1 : List UInt8) (l5 : (List UInt8) × Bool) : Option (Int × (List UInt8) × Bool) :=
  (if ¬ (l5.2 = true) then ((sinks_Sink_write_ev fuel o3 o4 l1 l5.1 true).bind fun y12 => some (y12.1, y12.2.1, y12.2.2)) else ((slices_Clone_ev fuel l5.1).bind fun y15 => (if Room (y15.length + ([(10 : UInt8)]).length) 1 then ((sinks_Sink_write_ev fuel o3 o4 l1 (y15 ++ [(10 : UInt8)]) false).bind fun y20 => some (y20.1, y20.2.1, y20.2.2)) else none)))
theorem sinks_Sink_Line_ok {fuel : Nat} {o3 : Bool} {o4 : Int} {l1 : List UInt8} {l5 : (List UInt8) × Bool} {r : Int × (List UInt8) × Bool} (h : sinks_Sink_Line_ev fuel o3 o4 l1 l5 = some r) : sinks_Sink_Line_R o3 o4 l1 l5 r := by
  unfold sinks_Sink_Line_ev at h
  unfold sinks_Sink_Line_R
  refine ⟨fun g10 => ?_, fun g10 => ?_⟩
  · rw [if_pos g10] at h
    obtain ⟨q11, g11, h⟩ := bind_ok h
    refine ⟨q11, sinks_Sink_write_ok g11, ?_⟩
    exact (Option.some.inj h).symm
  · rw [if_neg g10] at h
    obtain ⟨q12, g12, h⟩ := bind_ok h
    refine ⟨q12, slices_Clone_ok g12, ?_⟩
    obtain ⟨g13, h⟩ := if_ok h
    refine ⟨g13, ?_⟩
    obtain ⟨q14, g14, h⟩ := bind_ok h
    refine ⟨q14, sinks_Sink_write_ok g14, ?_⟩
    exact (Option.some.inj h).symm
set_option maxHeartbeats 4000000 in
theorem sinks_Sink_Line_con (o3 : Bool) (o4 : Int) (l1 : List UInt8) (l5 : (List UInt8) × Bool) (bx0 : Nat) (ia2 : Option (Nat × Nat)) (r : Int × (List UInt8) × Bool) (h : sinks_Sink_Line_R o3 o4 l1 l5 r) : Con Try.prog 7 [.v (.pointer (some ⟨bx0, 0, none⟩)), .agg [.sl 1 none (List.map eb l5.1), .v (.bool l5.2)]] [⟨bx0, 29, [.rb ia2 l1.length, .v (.bool o3), .v (.int .i64 o4)]⟩, rbx ia2 5 1 (List.map eb l1)] [] (fun rr bx tk => ∃ j1, rr = .v (.int .i64 r.1) ∧ bx = [rbx j1 5 1 (List.map eb r.2.1), ⟨bx0, 29, [.rb j1 r.2.1.length, .v (.bool r.2.2), .v (.int .i64 o4)]⟩] ∧ tk = []) := by
  refine xenter Try.func7 rfl rfl fun g hg => ?_
  simp only [Try.ntmps7, slots]
  refine xseq ?_
  refine xregion ?_
  refine xbox rfl rfl rfl rfl fun b3 => ?_
  refine xvalP (pv_assign rfl) rfl rfl ?_
  refine xnil ?_
  refine xthen ?_
  refine xseq ?_
  refine xseq ?_
  refine xregion ?_
  refine xvalP (qv_fieldAddrB FldC.h rfl) rfl rfl ?_
  refine xval (qv_loadB 0 ShpC.h rfl rfl rfl rfl) rfl rfl ?_
  refine xvalP (pv_not rfl) rfl rfl ?_
  refine xnil ?_
  refine xthen ?_
  by_cases hp10 : ¬ (l5.2 = true)
  · replace h := h.1 hp10
    refine xcondT' (not_t (b_f hp10)) rfl ?_
    refine xseq ?_
    refine xregion ?_
    refine xvalP (pv_move rfl) rfl rfl ?_
    refine xvalP (qv_fieldAddrB FldC.h rfl) rfl rfl ?_
    refine xval (qv_loadB 0 ShpC.h rfl rfl rfl rfl) rfl rfl ?_
    obtain ⟨y12, h11, h⟩ := h
    refine xcallF (Fb := [⟨b3, 26, [.sl 1 none (List.map eb l5.1), .v (.bool l5.2)]⟩]) (Ft := []) (sinks_Sink_write_con o3 o4 l1 l5.1 true bx0 ia2 _ h11) Try.func9 (by kernel_rfl) rfl (.cons rfl (.refl _) (.cons rfl (.refl _) (.cons rfl (.refl _) .nil))) (by refine SubM.trans (SubM.mvB 2 rfl) ?_; refine SubM.trans (SubM.mvB 2 rfl) ?_; (simp only [List.eraseIdx]); exact (SubM.of (by repeat (first | with_reducible exact SubB.refl _ | exact SubB.nil _ | refine SubB.keep rfl rfl (by first | with_reducible exact WkL.refl _ | ((repeat (first | exact WkL.nil | refine WkL.cons (by first | with_reducible exact Wk.refl _ | exact Wk.nil_own _ | exact Wk.nil_pl _ | with_reducible exact Wk.tok _ _ _ | exact Wk.tok _ _ _ | exact Wk.eq (by first | rfl | (simp []; done) | (simp []; omega))) ?_)); done) | exact WkL.refl _) ?_ | refine SubB.drop ?_)) (by repeat (first | exact SubT.nil _ | refine SubT.add ?_ | (refine SubT.keep ?_ ?_; focus (first | with_reducible rfl | (simp []; done))) | refine SubT.drop ?_)))) rfl rfl ?_
    rintro _ _ _ ⟨i13, rfl, rfl, rfl⟩
    simp only [List.nil_append, List.cons_append]
    refine xvalP (pv_assign rfl) rfl rfl ?_
    refine xnil ?_
    refine xthen ?_
    refine xretc ?_
    refine xthen_ret ?_
    replace h := h.symm
    subst h
    exact xret1 (bx' := [rbx i13 5 1 (List.map eb y12.2.1), ⟨bx0, 29, [.rb i13 y12.2.1.length, .v (.bool y12.2.2), .v (.int .i64 o4)]⟩]) (tk' := []) hg rfl rfl (.refl _) (SubM.of (.keep rfl rfl (.refl _) (.keep rfl rfl (.cons (.eq (by first | rfl | simp)) (.cons (.refl _) (.cons (.refl _) .nil))) (.nil _))) (.nil _)) ⟨i13, rfl, rfl, rfl⟩
  · replace h := h.2 hp10
    refine xcondF' (not_f (Decidable.of_not_not hp10)) rfl ?_
    refine xskipc ?_
    refine xthen ?_
    refine xseq ?_
    refine xregion ?_
    refine xvalP (pv_move rfl) rfl rfl ?_
    refine xvalP (qv_fieldAddrB FldC.h rfl) rfl rfl ?_
    refine xval (qv_loadB 0 ShpC.h rfl rfl rfl rfl) rfl rfl ?_
    obtain ⟨y15, h14, h⟩ := h
    refine xcallM (slices_Clone_con l5.1 _ h14) Try.func10 (by kernel_rfl) rfl (.cons rfl (.refl _) .nil) rfl rfl fun i16 => ?_
    refine xbuildSliceM (f := eb) [(10 : UInt8)] UndC.h InfC.h rfl rfl (by first | exact wkR_of rfl | (repeat (first | exact WkR.nil | refine WkR.cons (by (repeat (first | exact WkL.nil | refine WkL.cons (by first | with_reducible exact Wk.refl _ | exact Wk.nil_own _ | exact Wk.nil_pl _ | with_reducible exact Wk.tok _ _ _ | exact Wk.tok _ _ _ | exact Wk.eq (by first | rfl | (simp []; done) | (simp []; omega))) ?_))) ?_))) rfl rfl rfl rfl fun s16 => ?_
    obtain ⟨h17, h⟩ := h
    refine xappendM (l := y15) (l2 := [(10 : UInt8)]) 1 h17 UndC.h InfC.h rfl rfl rfl (.refl _) rfl rfl rfl fun i18 => ?_
    obtain ⟨y20, h19, h⟩ := h
    refine xcallF (Fb := [⟨b3, 26, [.sl 1 none (List.map eb l5.1), .v (.bool l5.2)]⟩]) (Ft := [⟨(some (s16, 1)), 5, 1, ([(10 : UInt8)]).length⟩, ⟨i18, 5, 1, ((y15 ++ [(10 : UInt8)])).length⟩]) (sinks_Sink_write_con o3 o4 l1 (y15 ++ [(10 : UInt8)]) false bx0 ia2 _ h19) Try.func9 (by kernel_rfl) rfl (.cons rfl (.refl _) (.cons rfl (.tok _ _ _) (.cons rfl (.refl _) .nil))) (by refine SubM.trans (SubM.mvB 2 rfl) ?_; refine SubM.trans (SubM.mvB 2 rfl) ?_; (simp only [List.eraseIdx]); exact (SubM.of (by repeat (first | with_reducible exact SubB.refl _ | exact SubB.nil _ | refine SubB.keep rfl rfl (by first | with_reducible exact WkL.refl _ | ((repeat (first | exact WkL.nil | refine WkL.cons (by first | with_reducible exact Wk.refl _ | exact Wk.nil_own _ | exact Wk.nil_pl _ | with_reducible exact Wk.tok _ _ _ | exact Wk.tok _ _ _ | exact Wk.eq (by first | rfl | (simp []; done) | (simp []; omega))) ?_)); done) | exact WkL.refl _) ?_ | refine SubB.drop ?_)) (by repeat (first | exact SubT.nil _ | refine SubT.add ?_ | (refine SubT.keep ?_ ?_; focus (first | with_reducible rfl | (simp []; done))) | refine SubT.drop ?_)))) rfl rfl ?_
    rintro _ _ _ ⟨i21, rfl, rfl, rfl⟩
    simp only [List.nil_append, List.cons_append]
    refine xvalP (pv_assign rfl) rfl rfl ?_
    refine xnil ?_
    refine xthen ?_
    refine xretc ?_
    replace h := h.symm
    subst h
    exact xret1 (bx' := [rbx i21 5 1 (List.map eb y20.2.1), ⟨bx0, 29, [.rb i21 y20.2.1.length, .v (.bool y20.2.2), .v (.int .i64 o4)]⟩]) (tk' := []) hg rfl rfl (.refl _) (SubM.of (.keep rfl rfl (.refl _) (.keep rfl rfl (.cons (.eq (by first | rfl | simp)) (.cons (.refl _) (.cons (.refl _) .nil))) (.nil _))) (.nil _)) ⟨i21, rfl, rfl, rfl⟩
/-- palinodelaw19.awake -/
def palinodelaw19_awake_j1 (x16 : Bool) (r : Bool) : Prop :=
  r = x16
def palinodelaw19_awake_R (r : Bool) : Prop :=
  ∃ y3 : Int × (List UInt8) × Bool, sinks_Sink_Line_R false 9 ([] : List UInt8) ([(97 : UInt8)], false) y3 ∧ ∃ y7 : Int × (List UInt8) × Bool, sinks_Sink_Line_R y3.2.2 9 y3.2.1 ([(98 : UInt8)], true) y7 ∧ palinodelaw19_awake_j1 ((decide (y3.1 = 0)) && ((decide (y7.1 = 0)) && ((((⟨y7.2.1.toArray⟩ : ByteArray)).toList == ((⟨#[97, 10, 98, 10]⟩ : ByteArray)).toList) && (!y7.2.2)))) r
def palinodelaw19_awake_j1_ev (fuel : Nat) (x16 : Bool) : Option (Bool) :=
  some x16
theorem palinodelaw19_awake_j1_ok {fuel : Nat} {x16 : Bool} {r : Bool} (h : palinodelaw19_awake_j1_ev fuel x16 = some r) : palinodelaw19_awake_j1 x16 r := by
  unfold palinodelaw19_awake_j1_ev at h
  unfold palinodelaw19_awake_j1
  exact (Option.some.inj h).symm
def palinodelaw19_awake_ev (fuel : Nat) : Option (Bool) :=
  ((sinks_Sink_Line_ev fuel false 9 ([] : List UInt8) ([(97 : UInt8)], false)).bind fun y3 => ((sinks_Sink_Line_ev fuel y3.2.2 9 y3.2.1 ([(98 : UInt8)], true)).bind fun y7 => palinodelaw19_awake_j1_ev fuel ((decide (y3.1 = 0)) && ((decide (y7.1 = 0)) && ((((⟨y7.2.1.toArray⟩ : ByteArray)).toList == ((⟨#[97, 10, 98, 10]⟩ : ByteArray)).toList) && (!y7.2.2))))))
theorem palinodelaw19_awake_ok {fuel : Nat} {r : Bool} (h : palinodelaw19_awake_ev fuel = some r) : palinodelaw19_awake_R r := by
  unfold palinodelaw19_awake_ev at h
  unfold palinodelaw19_awake_R
  obtain ⟨q15, g15, h⟩ := bind_ok h
  refine ⟨q15, sinks_Sink_Line_ok g15, ?_⟩
  obtain ⟨q16, g16, h⟩ := bind_ok h
  refine ⟨q16, sinks_Sink_Line_ok g16, ?_⟩
  exact palinodelaw19_awake_j1_ok h
set_option maxHeartbeats 4000000 in
theorem palinodelaw19_awake_con (r : Bool) (h : palinodelaw19_awake_R r) : Con Try.prog 5 [] [] [] (Ret (.v (.bool r))) := by
  refine xenter Try.func5 rfl rfl fun g hg => ?_
  simp only [Try.ntmps5, slots]
  refine xseq ?_
  refine xregion ?_
  refine xvalP (pv_assign rfl) rfl rfl ?_
  refine xnil ?_
  refine xthen ?_
  refine xseq ?_
  refine xregion ?_
  refine xvalP (pv_buildC StrC.h rfl rfl) rfl rfl ?_
  refine xbox rfl rfl rfl rfl fun b5 => ?_
  refine xaddRb eb 5 1 ?_
  refine xwkB 1 [.rb none (([] : List UInt8).length), .v (.bool false), .v (.int .i64 9)] rfl (.cons Wk.nil_rb (.cons (.refl _) (.cons (.refl _) .nil))) ?_
  refine xvalP (pv_assign rfl) rfl rfl ?_
  refine xnil ?_
  refine xthen ?_
  refine xseq ?_
  refine xregion ?_
  refine xvalP (pv_move rfl) rfl rfl ?_
  refine xbuildSliceM (f := eb) [(97 : UInt8)] UndC.h InfC.h rfl rfl (by first | exact wkR_of rfl | (repeat (first | exact WkR.nil | refine WkR.cons (by (repeat (first | exact WkL.nil | refine WkL.cons (by first | with_reducible exact Wk.refl _ | exact Wk.nil_own _ | exact Wk.nil_pl _ | with_reducible exact Wk.tok _ _ _ | exact Wk.tok _ _ _ | exact Wk.eq (by first | rfl | (simp []; done) | (simp []; omega))) ?_))) ?_))) rfl rfl rfl rfl fun s7 => ?_
  refine xmark 0 UndC.h UndC.h rfl rfl rfl rfl ?_
  refine xvalP (pv_buildC StrC.h rfl rfl) rfl rfl ?_
  obtain ⟨y3, h2, h⟩ := h
  refine xcallF (Fb := []) (Ft := []) (sinks_Sink_Line_con false 9 ([] : List UInt8) ([(97 : UInt8)], false) b5 none _ h2) Try.func7 (by kernel_rfl) rfl (.cons rfl (.refl _) (.cons rfl (.refl _) .nil)) (by refine SubM.trans (SubM.mvB 0 rfl) ?_; refine SubM.trans (SubM.mvB 1 rfl) ?_; (simp only [List.eraseIdx]); exact (SubM.of (by repeat (first | with_reducible exact SubB.refl _ | exact SubB.nil _ | refine SubB.keep rfl rfl (by first | with_reducible exact WkL.refl _ | ((repeat (first | exact WkL.nil | refine WkL.cons (by first | with_reducible exact Wk.refl _ | exact Wk.nil_own _ | exact Wk.nil_pl _ | with_reducible exact Wk.tok _ _ _ | exact Wk.tok _ _ _ | exact Wk.eq (by first | rfl | (simp []; done) | (simp []; omega))) ?_)); done) | exact WkL.refl _) ?_ | refine SubB.drop ?_)) (by repeat (first | exact SubT.nil _ | refine SubT.add ?_ | (refine SubT.keep ?_ ?_; focus (first | with_reducible rfl | (simp []; done))) | refine SubT.drop ?_)))) rfl rfl ?_
  rintro _ _ _ ⟨i4, rfl, rfl, rfl⟩
  simp only [List.nil_append, List.cons_append]
  refine xvalP (pv_assign rfl) rfl rfl ?_
  refine xnil ?_
  refine xthen ?_
  refine xseq ?_
  refine xregion ?_
  refine xvalP (pv_move rfl) rfl rfl ?_
  refine xbuildSliceM (f := eb) [(98 : UInt8)] UndC.h InfC.h rfl rfl (by first | exact wkR_of rfl | (repeat (first | exact WkR.nil | refine WkR.cons (by (repeat (first | exact WkL.nil | refine WkL.cons (by first | with_reducible exact Wk.refl _ | exact Wk.nil_own _ | exact Wk.nil_pl _ | with_reducible exact Wk.tok _ _ _ | exact Wk.tok _ _ _ | exact Wk.eq (by first | rfl | (simp []; done) | (simp []; omega))) ?_))) ?_))) rfl rfl rfl rfl fun s12 => ?_
  refine xmark 0 UndC.h UndC.h rfl rfl rfl rfl ?_
  refine xvalP (pv_buildC StrC.h rfl rfl) rfl rfl ?_
  obtain ⟨y7, h6, h⟩ := h
  refine xcallF (Fb := []) (Ft := []) (sinks_Sink_Line_con y3.2.2 9 y3.2.1 ([(98 : UInt8)], true) b5 i4 _ h6) Try.func7 (by kernel_rfl) rfl (.cons rfl (.refl _) (.cons rfl (.refl _) .nil)) (by refine SubM.trans (SubM.mvB 0 rfl) ?_; refine SubM.trans (SubM.mvB 1 rfl) ?_; (simp only [List.eraseIdx]); exact (SubM.of (by repeat (first | with_reducible exact SubB.refl _ | exact SubB.nil _ | refine SubB.keep rfl rfl (by first | with_reducible exact WkL.refl _ | ((repeat (first | exact WkL.nil | refine WkL.cons (by first | with_reducible exact Wk.refl _ | exact Wk.nil_own _ | exact Wk.nil_pl _ | with_reducible exact Wk.tok _ _ _ | exact Wk.tok _ _ _ | exact Wk.eq (by first | rfl | (simp []; done) | (simp []; omega))) ?_)); done) | exact WkL.refl _) ?_ | refine SubB.drop ?_)) (by repeat (first | exact SubT.nil _ | refine SubT.add ?_ | (refine SubT.keep ?_ ?_; focus (first | with_reducible rfl | (simp []; done))) | refine SubT.drop ?_)))) rfl rfl ?_
  rintro _ _ _ ⟨i8, rfl, rfl, rfl⟩
  simp only [List.nil_append, List.cons_append]
  refine xvalP (pv_assign rfl) rfl rfl ?_
  refine xnil ?_
  refine xthen ?_
  refine xseqM (fun σ => ∃ (x16 : Bool), palinodelaw19_awake_j1 x16 r ∧ σ = ⟨[(0, .v (.bool x16))], [], []⟩) ?_ ?_
  · refine xregion ?_
    refine xvalP (pv_move rfl) rfl rfl ?_
    refine xvalP (pv_bin2 rfl rfl rfl) rfl rfl ?_
    refine xvalP (pv_move rfl) rfl rfl ?_
    by_cases hp18 : y3.1 = 0
    · rw [show (decide (y3.1 = 0)) = true from (decide_eq_true hp18), Bool.true_and] at h
      refine xsetB 18 (decide_eq_true hp18) rfl ?_
      refine xvalP (pv_move rfl) rfl rfl ?_
      refine xvalP (pv_bin2 rfl rfl rfl) rfl rfl ?_
      refine xvalP (pv_pick rfl rfl) rfl rfl ?_
      refine xvalP (pv_move rfl) rfl rfl ?_
      by_cases hp20 : y7.1 = 0
      · rw [show (decide (y7.1 = 0)) = true from (decide_eq_true hp20), Bool.true_and] at h
        refine xsetB 22 (decide_eq_true hp20) rfl ?_
        refine xvalP (pv_move rfl) rfl rfl ?_
        refine xvalP (pv_nilCheck rfl) rfl rfl ?_
        refine xvalP (qv_fieldAddrB FldC.h rfl) rfl rfl ?_
        refine xval (qv_loadB 1 ShpC.h rfl rfl rfl rfl) rfl rfl ?_
        refine xval (pv_strSrc (bs := y7.2.1) UndC.h UndC.h UndC.h (SrcOf.rb (f := eb) 0 rfl rfl rfl)) rfl rfl ?_
        refine xvalP (pv_bin2 rfl rfl rfl) rfl rfl ?_
        refine xvalP (pv_pick rfl rfl) rfl rfl ?_
        refine xvalP (pv_move rfl) rfl rfl ?_
        by_cases hp23 : (((⟨y7.2.1.toArray⟩ : ByteArray)).toList == ((⟨#[97, 10, 98, 10]⟩ : ByteArray)).toList) = true
        · rw [show (((⟨y7.2.1.toArray⟩ : ByteArray)).toList == ((⟨#[97, 10, 98, 10]⟩ : ByteArray)).toList) = true from hp23, Bool.true_and] at h
          refine xsetB 30 hp23 rfl ?_
          refine xvalP (pv_move rfl) rfl rfl ?_
          refine xvalP (pv_nilCheck rfl) rfl rfl ?_
          refine xvalP (qv_fieldAddrB FldC.h rfl) rfl rfl ?_
          refine xval (qv_loadB 1 ShpC.h rfl rfl rfl rfl) rfl rfl ?_
          refine xvalP (pv_not rfl) rfl rfl ?_
          refine xvalP (pv_pick rfl rfl) rfl rfl ?_
          refine xvalP (pv_assign rfl) rfl rfl ?_
          refine xnil ?_
          exact xmeet ⟨(!y7.2.2), h, rfl⟩ ⟨(.cons rfl (.refl _) (.nil _)), (SubM.of (.nil _) (.nil _))⟩
        · rw [show (((⟨y7.2.1.toArray⟩ : ByteArray)).toList == ((⟨#[97, 10, 98, 10]⟩ : ByteArray)).toList) = false from (b_f hp23), Bool.false_and] at h
          refine xsetB 30 (b_f hp23) rfl ?_
          refine xskip rfl rfl ?_
          refine xskip rfl rfl ?_
          refine xskip rfl rfl ?_
          refine xskip rfl rfl ?_
          refine xskip rfl rfl ?_
          refine xvalP (pv_pick rfl rfl) rfl rfl ?_
          refine xvalP (pv_assign rfl) rfl rfl ?_
          refine xnil ?_
          exact xmeet ⟨false, h, rfl⟩ ⟨(.cons rfl (.refl _) (.nil _)), (SubM.of (.nil _) (.nil _))⟩
      · rw [show (decide (y7.1 = 0)) = false from (decide_eq_false hp20), Bool.false_and] at h
        refine xsetB 22 (decide_eq_false hp20) rfl ?_
        refine xskip rfl rfl ?_
        refine xskip rfl rfl ?_
        refine xskip rfl rfl ?_
        refine xskip rfl rfl ?_
        refine xskip rfl rfl ?_
        refine xskip rfl rfl ?_
        refine xvalP (pv_pick rfl rfl) rfl rfl ?_
        refine xvalP (pv_move rfl) rfl rfl ?_
        refine xskip rfl rfl ?_
        refine xskip rfl rfl ?_
        refine xskip rfl rfl ?_
        refine xskip rfl rfl ?_
        refine xskip rfl rfl ?_
        refine xvalP (pv_pick rfl rfl) rfl rfl ?_
        refine xvalP (pv_assign rfl) rfl rfl ?_
        refine xnil ?_
        exact xmeet ⟨false, h, rfl⟩ ⟨(.cons rfl (.refl _) (.nil _)), (SubM.of (.nil _) (.nil _))⟩
    · rw [show (decide (y3.1 = 0)) = false from (decide_eq_false hp18), Bool.false_and] at h
      refine xsetB 18 (decide_eq_false hp18) rfl ?_
      refine xskip rfl rfl ?_
      refine xskip rfl rfl ?_
      refine xvalP (pv_pick rfl rfl) rfl rfl ?_
      refine xvalP (pv_move rfl) rfl rfl ?_
      refine xskip rfl rfl ?_
      refine xskip rfl rfl ?_
      refine xskip rfl rfl ?_
      refine xskip rfl rfl ?_
      refine xskip rfl rfl ?_
      refine xskip rfl rfl ?_
      refine xvalP (pv_pick rfl rfl) rfl rfl ?_
      refine xvalP (pv_move rfl) rfl rfl ?_
      refine xskip rfl rfl ?_
      refine xskip rfl rfl ?_
      refine xskip rfl rfl ?_
      refine xskip rfl rfl ?_
      refine xskip rfl rfl ?_
      refine xvalP (pv_pick rfl rfl) rfl rfl ?_
      refine xvalP (pv_assign rfl) rfl rfl ?_
      refine xnil ?_
      exact xmeet ⟨false, h, rfl⟩ ⟨(.cons rfl (.refl _) (.nil _)), (SubM.of (.nil _) (.nil _))⟩
  · clear h
    rintro _ ⟨x16, h, rfl⟩
    refine xretc ?_
    replace h := h.symm
    subst h
    exact xret1 hg rfl rfl (.refl _) (SubM.of (.nil _) (.nil _)) ⟨rfl, rfl, rfl⟩
/-- (*sinks.Sink).Lines -/
def sinks_Sink_Lines_l1 (l5 : List ((List UInt8) × Bool)) (o4 : Int) (ag1 : (Int × Bool × (List UInt8)) → Prop) (x86 : Int) (f87 : Bool) (l88 : List UInt8) (r : Int × (List UInt8) × Bool) : Prop :=
  ((x86 < (l5.length : Int) → 0 ≤ (x86 : Int) ∧ ∃ y118 : (List UInt8) × Bool, l5[(x86 : Int).toNat]? = some y118 ∧ ∃ y121 : Int × (List UInt8) × Bool, sinks_Sink_Line_R f87 o4 l88 y118 y121 ∧ ((¬ (y121.1 = 0) → r = (y121.1, y121.2.1, y121.2.2)) ∧ (¬ (¬ (y121.1 = 0)) → InR (x86 + 1) ∧ ag1 ((x86 + 1), y121.2.2, y121.2.1)))) ∧ (¬ (x86 < (l5.length : Int)) → r = (0, l88, f87)))
def sinks_Sink_Lines_R (o3 : Bool) (o4 : Int) (l1 : List UInt8) (l5 : List ((List UInt8) × Bool)) (r : Int × (List UInt8) × Bool) : Prop :=
  LoopR (fun ag1 s => sinks_Sink_Lines_l1 l5 o4 ag1 s.1 s.2.1 s.2.2 r) (0, o3, l1)
set_option maxHeartbeats 4000000 in
theorem sinks_Sink_Lines_con (o3 : Bool) (o4 : Int) (l1 : List UInt8) (l5 : List ((List UInt8) × Bool)) (bx0 : Nat) (ia2 : Option (Nat × Nat)) (r : Int × (List UInt8) × Bool) (h : sinks_Sink_Lines_R o3 o4 l1 l5 r) : Con Try.prog 6 [.v (.pointer (some ⟨bx0, 0, none⟩)), .sl 2 none (List.map E_palinode_api_Line l5)] [⟨bx0, 29, [.rb ia2 l1.length, .v (.bool o3), .v (.int .i64 o4)]⟩, rbx ia2 5 1 (List.map eb l1)] [] (fun rr bx tk => ∃ j1, rr = .v (.int .i64 r.1) ∧ bx = [rbx j1 5 1 (List.map eb r.2.1), ⟨bx0, 29, [.rb j1 r.2.1.length, .v (.bool r.2.2), .v (.int .i64 o4)]⟩] ∧ tk = []) := by
  refine xenter Try.func6 rfl rfl fun g hg => ?_
  simp only [Try.ntmps6, slots]
  refine xseq ?_
  refine xregion ?_
  refine xvalP (pv_assign rfl) rfl rfl ?_
  refine xnil ?_
  refine xthen ?_
  refine xseq ?_
  refine xseq ?_
  refine xregion ?_
  refine xvalP (pv_move rfl) rfl rfl ?_
  refine xvalP (pv_eqNil UndC.h rfl rfl) rfl rfl ?_
  refine xnil ?_
  refine xthen ?_
  refine xcondF rfl ?_
  refine xskipc ?_
  refine xthen ?_
  refine xseq ?_
  refine xseq ?_
  refine xregion ?_
  refine xvalP (pv_move rfl) rfl rfl ?_
  refine xvalP (pv_lenM UndC.h rfl) rfl rfl ?_
  refine xvalP (pv_move rfl) rfl rfl ?_
  refine xnil ?_
  refine xthen ?_
  refine xblock ?_
  obtain ⟨Inv, ⟨m0, hI⟩, hS⟩ := h
  refine xloop (fun σ m => ∃ (x86 : Int), ∃ (f87 : Bool), ∃ (l88 : List UInt8), ∃ (i89 : Option (Nat × Nat)), Inv (x86, f87, l88) m ∧ σ = ⟨[(0, .v (.pointer (some ⟨bx0, 0, none⟩))), (10, .sl 2 none (List.map E_palinode_api_Line l5)), (11, .v (.int .i64 ((l5.length : Int)))), (12, .v (.int .i64 x86))], [⟨bx0, 29, [.rb i89 l88.length, .v (.bool f87), .v (.int .i64 o4)]⟩, rbx i89 5 1 (List.map eb l88)], []⟩) ⟨0, o3, l1, ia2, hI, rfl⟩ ⟨(.cons rfl (.refl _) (.cons rfl (.refl _) (.cons rfl (.refl _) (.cons rfl (.refl _) (.nil _))))), by exact (SubM.of (.keep rfl rfl (.cons (.eq (by first | rfl | simp)) (.cons (.refl _) (.cons (.refl _) .nil))) (.keep rfl rfl (.refl _) (.nil _))) (.nil _))⟩ ?_
  rintro _ m ⟨x86, f87, l88, i89, hI, rfl⟩
  obtain ⟨ag1, hag1, h⟩ : ∃ ag, (∀ s', ag s' → ∃ m', m' < m ∧ Inv s' m') ∧ sinks_Sink_Lines_l1 l5 o4 ag x86 f87 l88 r := ⟨_, fun _ h => h, hS (x86, f87, l88) _ hI⟩
  clear hS hI
  refine xseq ?_
  refine xregion ?_
  refine xvalP (pv_bin2 rfl rfl rfl) rfl rfl ?_
  refine xnil ?_
  refine xthen ?_
  refine xseq ?_
  by_cases hp110 : x86 < (l5.length : Int)
  · replace h := h.1 hp110
    refine xcondT' (decide_eq_true hp110) rfl ?_
    refine xskipc ?_
    refine xthen ?_
    refine xseq ?_
    refine xblock ?_
    refine xseq ?_
    refine xregion ?_
    obtain ⟨h119a, h⟩ := h
    obtain ⟨y118, h119b, h⟩ := h
    refine xvalP (pv_indexAddrM h119a h119b UndC.h ShpC.h rfl rfl) rfl rfl ?_
    refine xval (qv_load ShpC.h rfl rfl rfl) rfl rfl ?_
    refine xalloc InfC.h rfl rfl fun b6 => ?_
    refine xstore 0 ShpC.h rfl rfl rfl rfl rfl rfl rfl ?_
    refine xnil ?_
    refine xthen ?_
    refine xseq ?_
    refine xregion ?_
    refine xvalP (pv_move rfl) rfl rfl ?_
    refine xval (qv_loadB 0 ShpC.h rfl rfl rfl rfl) rfl rfl ?_
    obtain ⟨y121, h120, h⟩ := h
    refine xcallF (Fb := [⟨b6, 26, [.sl 1 none (List.map eb y118.1), .v (.bool y118.2)]⟩]) (Ft := []) (sinks_Sink_Line_con f87 o4 l88 y118 bx0 i89 _ h120) Try.func7 (by kernel_rfl) rfl (.cons rfl (.refl _) (.cons rfl (.refl _) .nil)) (by refine SubM.trans (SubM.mvB 2 rfl) ?_; refine SubM.trans (SubM.mvB 2 rfl) ?_; (simp only [List.eraseIdx]); exact (SubM.of (by repeat (first | with_reducible exact SubB.refl _ | exact SubB.nil _ | refine SubB.keep rfl rfl (by first | with_reducible exact WkL.refl _ | ((repeat (first | exact WkL.nil | refine WkL.cons (by first | with_reducible exact Wk.refl _ | exact Wk.nil_own _ | exact Wk.nil_pl _ | with_reducible exact Wk.tok _ _ _ | exact Wk.tok _ _ _ | exact Wk.eq (by first | rfl | (simp []; done) | (simp []; omega))) ?_)); done) | exact WkL.refl _) ?_ | refine SubB.drop ?_)) (by repeat (first | exact SubT.nil _ | refine SubT.add ?_ | (refine SubT.keep ?_ ?_; focus (first | with_reducible rfl | (simp []; done))) | refine SubT.drop ?_)))) rfl rfl ?_
    rintro _ _ _ ⟨i122, rfl, rfl, rfl⟩
    simp only [List.nil_append, List.cons_append]
    refine xvalP (pv_assign rfl) rfl rfl ?_
    refine xnil ?_
    refine xthen ?_
    refine xseq ?_
    refine xregion ?_
    refine xvalP (pv_move rfl) rfl rfl ?_
    refine xvalP (pv_bin2 rfl rfl rfl) rfl rfl ?_
    refine xnil ?_
    refine xthen ?_
    by_cases hp124 : ¬ (y121.1 = 0)
    · replace h := h.1 hp124
      refine xcondT' (not_t (decide_eq_false hp124)) rfl ?_
      refine xseq ?_
      refine xregion ?_
      refine xvalP (pv_move rfl) rfl rfl ?_
      refine xvalP (pv_assign rfl) rfl rfl ?_
      refine xnil ?_
      refine xthen ?_
      refine xretc ?_
      refine xin_ret ?_
      refine xthen_ret ?_
      refine xthen_ret ?_
      refine xin_ret ?_
      refine xthen_ret ?_
      replace h := h.symm
      subst h
      exact xret1 (bx' := [rbx i122 5 1 (List.map eb y121.2.1), ⟨bx0, 29, [.rb i122 y121.2.1.length, .v (.bool y121.2.2), .v (.int .i64 o4)]⟩]) (tk' := []) hg rfl rfl (.refl _) (SubM.of (.keep rfl rfl (.refl _) (.keep rfl rfl (.cons (.eq (by first | rfl | simp)) (.cons (.refl _) (.cons (.refl _) .nil))) (.nil _))) (.nil _)) ⟨i122, rfl, rfl, rfl⟩
    · replace h := h.2 hp124
      refine xcondF' (not_f (decide_eq_true (Decidable.of_not_not hp124))) rfl ?_
      refine xskipc ?_
      refine xin_normal ?_
      refine xthen ?_
      refine xregion ?_
      obtain ⟨h125, h⟩ := h
      refine xvalP (pv_addI h125 rfl rfl) rfl rfl ?_
      refine xvalP (pv_move rfl) rfl rfl ?_
      refine xnil ?_
      obtain ⟨m', hm, hI⟩ := hag1 _ h
      exact xagain ⟨(x86 + 1), y121.2.2, y121.2.1, i122, hI, rfl⟩ hm ⟨(.cons rfl (.refl _) (.cons rfl (.refl _) (.cons rfl (.refl _) (.cons rfl (.refl _) (.nil _))))), by refine SubM.trans (SubM.mvB 0 rfl) ?_; refine SubM.trans (SubM.mvB 1 rfl) ?_; (simp only [List.eraseIdx]); exact (SubM.of (by repeat (first | with_reducible exact SubB.refl _ | exact SubB.nil _ | refine SubB.keep rfl rfl (by first | with_reducible exact WkL.refl _ | ((repeat (first | exact WkL.nil | refine WkL.cons (by first | with_reducible exact Wk.refl _ | exact Wk.nil_own _ | exact Wk.nil_pl _ | with_reducible exact Wk.tok _ _ _ | exact Wk.tok _ _ _ | exact Wk.eq (by first | rfl | (simp []; done) | (simp []; omega))) ?_)); done) | exact WkL.refl _) ?_ | refine SubB.drop ?_)) (by repeat (first | exact SubT.nil _ | refine SubT.add ?_ | (refine SubT.keep ?_ ?_; focus (first | with_reducible rfl | (simp []; done))) | refine SubT.drop ?_)))⟩
  · replace h := h.2 hp110
    refine xcondF' (decide_eq_false hp110) rfl ?_
    refine xexit ?_
    refine xthen_exit ?_
    refine xthen_exit ?_
    refine xin_same rfl ?_
    refine xthen ?_
    refine xseq ?_
    refine xregion ?_
    refine xvalP (pv_assign rfl) rfl rfl ?_
    refine xnil ?_
    refine xthen ?_
    refine xretc ?_
    replace h := h.symm
    subst h
    exact xret1 (bx' := [rbx i89 5 1 (List.map eb l88), ⟨bx0, 29, [.rb i89 l88.length, .v (.bool f87), .v (.int .i64 o4)]⟩]) (tk' := []) hg rfl rfl (.refl _) (by refine SubM.trans (SubM.mvB 0 rfl) ?_; refine SubM.trans (SubM.mvB 1 rfl) ?_; (simp only [List.eraseIdx]); exact (SubM.of (by repeat (first | with_reducible exact SubB.refl _ | exact SubB.nil _ | refine SubB.keep rfl rfl (by first | with_reducible exact WkL.refl _ | ((repeat (first | exact WkL.nil | refine WkL.cons (by first | with_reducible exact Wk.refl _ | exact Wk.nil_own _ | exact Wk.nil_pl _ | with_reducible exact Wk.tok _ _ _ | exact Wk.tok _ _ _ | exact Wk.eq (by first | rfl | (simp []; done) | (simp []; omega))) ?_)); done) | exact WkL.refl _) ?_ | refine SubB.drop ?_)) (by repeat (first | exact SubT.nil _ | refine SubT.add ?_ | (refine SubT.keep ?_ ?_; focus (first | with_reducible rfl | (simp []; done))) | refine SubT.drop ?_)))) ⟨i89, rfl, rfl, rfl⟩
/-- palinoderef01.Same -/
def palinoderef01_Same_l1 (l1 : List UInt8) (bv3 : List UInt8) (ag1 : (Int) → Prop) (iv129 : Int) (r : Bool) : Prop :=
  ((iv129 < ((l1.length : Nat) : Int) → 0 ≤ (iv129 : Int) ∧ ∃ y181 : UInt8, l1[(iv129 : Int).toNat]? = some y181 ∧ 0 ≤ (iv129 : Int) ∧ ∃ y183 : UInt8, bv3[(iv129 : Int).toNat]? = some y183 ∧ ((¬ ((y181.toNat : Int) = (y183.toNat : Int)) → r = false) ∧ (¬ (¬ ((y181.toNat : Int) = (y183.toNat : Int))) → InR (iv129 + 1) ∧ ag1 (iv129 + 1)))) ∧ (¬ (iv129 < ((l1.length : Nat) : Int)) → r = true))
def palinoderef01_Same_R (l1 : List UInt8) (bv3 : List UInt8) (r : Bool) : Prop :=
  ((¬ (((l1.length : Nat) : Int) = (bv3.length : Int)) → r = false) ∧ (¬ (¬ (((l1.length : Nat) : Int) = (bv3.length : Int))) → LoopR (fun ag1 s => palinoderef01_Same_l1 l1 bv3 ag1 s r) 0))
set_option maxHeartbeats 4000000 in
theorem palinoderef01_Same_con (l1 : List UInt8) (bv3 : List UInt8) (ia2 : Option (Nat × Nat)) (r : Bool) (h : palinoderef01_Same_R l1 bv3 r) : Con Try.prog 8 [.rb ia2 l1.length, .sl 1 none (List.map eb bv3)] [rbx ia2 5 1 (List.map eb l1)] [] (fun rr bx tk => rr = .v (.bool r) ∧ bx = [rbx ia2 5 1 (List.map eb l1)] ∧ tk = []) := by
  refine xenter Try.func8 rfl rfl fun g hg => ?_
  simp only [Try.ntmps8, slots]
  refine xseq ?_
  refine xregion ?_
  refine xvalP (pv_assign rfl) rfl rfl ?_
  refine xnil ?_
  refine xthen ?_
  refine xseq ?_
  refine xseq ?_
  refine xregion ?_
  refine xvalP (pv_move rfl) rfl rfl ?_
  refine xvalP (pv_lenRb UndC.h rfl) rfl rfl ?_
  refine xvalP (pv_move rfl) rfl rfl ?_
  refine xvalP (pv_lenM UndC.h rfl) rfl rfl ?_
  refine xvalP (pv_bin2 rfl rfl rfl) rfl rfl ?_
  refine xnil ?_
  refine xthen ?_
  by_cases hp11 : ¬ (((l1.length : Nat) : Int) = (bv3.length : Int))
  · replace h := h.1 hp11
    refine xcondT' (not_t (decide_eq_false hp11)) rfl ?_
    refine xseq ?_
    refine xregion ?_
    refine xvalP (pv_assign rfl) rfl rfl ?_
    refine xnil ?_
    refine xthen ?_
    refine xretc ?_
    refine xthen_ret ?_
    replace h := h.symm
    subst h
    exact xret1 (bx' := [rbx ia2 5 1 (List.map eb l1)]) (tk' := []) hg rfl rfl (.refl _) (SubM.of (.keep rfl rfl (.refl _) (.nil _)) (.nil _)) ⟨rfl, rfl, rfl⟩
  · replace h := h.2 hp11
    refine xcondF' (not_f (decide_eq_true (Decidable.of_not_not hp11))) rfl ?_
    refine xskipc ?_
    refine xthen ?_
    refine xseq ?_
    refine xseq ?_
    refine xregion ?_
    refine xvalP (pv_assign rfl) rfl rfl ?_
    refine xnil ?_
    refine xthen ?_
    refine xblock ?_
    obtain ⟨Inv, ⟨m0, hI⟩, hS⟩ := h
    refine xloop (fun σ m => ∃ (iv129 : Int), Inv iv129 m ∧ σ = ⟨[(0, .rb ia2 l1.length), (1, .sl 1 none (List.map eb bv3)), (5, .v (.int .i64 iv129))], [rbx ia2 5 1 (List.map eb l1)], []⟩) ⟨0, hI, rfl⟩ ⟨(.cons rfl (.eq (by first | rfl | simp)) (.cons rfl (.refl _) (.cons rfl (.refl _) (.nil _)))), by exact (SubM.of (.keep rfl rfl (.refl _) (.nil _)) (.nil _))⟩ ?_
    rintro _ m ⟨iv129, hI, rfl⟩
    obtain ⟨ag1, hag1, h⟩ : ∃ ag, (∀ s', ag s' → ∃ m', m' < m ∧ Inv s' m') ∧ palinoderef01_Same_l1 l1 bv3 ag iv129 r := ⟨_, fun _ h => h, hS iv129 _ hI⟩
    clear hS hI
    refine xseq ?_
    refine xseq ?_
    refine xregion ?_
    refine xvalP (pv_move rfl) rfl rfl ?_
    refine xvalP (pv_move rfl) rfl rfl ?_
    refine xvalP (pv_lenRb UndC.h rfl) rfl rfl ?_
    refine xvalP (pv_bin2 rfl rfl rfl) rfl rfl ?_
    refine xnil ?_
    refine xthen ?_
    by_cases hp164 : iv129 < ((l1.length : Nat) : Int)
    · replace h := h.1 hp164
      refine xcondT' (decide_eq_true hp164) rfl ?_
      refine xskipc ?_
      refine xthen ?_
      refine xseq ?_
      refine xblock ?_
      refine xseq ?_
      refine xregionD (m := 9) (by kernel_rfl) rfl ?_
      obtain ⟨h182a, h⟩ := h
      obtain ⟨y181, h182b, h⟩ := h
      obtain ⟨h184a, h⟩ := h
      obtain ⟨y183, h184b, h⟩ := h
      refine xpval 0 rfl (pv_move rfl) rfl rfl (by kernel_rfl) (by kernel_rfl) (by kernel_rfl) (fun _ _ _ _ h => h) ?_
      refine xpval 1 rfl (pv_move rfl) rfl rfl (by kernel_rfl) (by kernel_rfl) (by kernel_rfl) (fun _ _ _ _ h => h) ?_
      refine xpval 2 rfl (pv_indexAddrRbM rfl h182a h182b UndC.h ShpC.h rfl rfl) rfl rfl (by kernel_rfl) (by kernel_rfl) (by kernel_rfl) (fun _ _ _ _ h => h) ?_
      refine xpval 4 rfl (pv_move rfl) rfl rfl (by kernel_rfl) (by kernel_rfl) (by kernel_rfl) (fun _ _ _ _ h => h) ?_
      refine xpval 5 rfl (pv_move rfl) rfl rfl (by kernel_rfl) (by kernel_rfl) (by kernel_rfl) (fun _ _ _ _ h => h) ?_
      refine xpval 6 rfl (pv_indexAddrM h184a h184b UndC.h ShpC.h rfl rfl) rfl rfl (by kernel_rfl) (by kernel_rfl) (by kernel_rfl) (fun _ _ _ _ h => h) ?_
      refine xpvalE 3 [7] rfl (qv_loadRb (f := eb) (k := 1) (off := 0) (i := (iv129 : Int).toNat) 0 h182b rfl (by decide) rfl ShpC.h rfl rfl) rfl rfl (by kernel_rfl) (by kernel_rfl) (by kernel_rfl) (fun _ _ _ _ h => h) ?_
      refine xpvalE 7 [] rfl (qv_load ShpC.h rfl rfl rfl) rfl rfl (by kernel_rfl) (by kernel_rfl) (by kernel_rfl) (fun _ _ _ _ h => h) ?_
      refine xpval 8 rfl (pv_bin2 rfl rfl rfl) rfl rfl (by kernel_rfl) (by kernel_rfl) (by kernel_rfl) (fun _ _ _ _ h => h) ?_
      refine xpdone (by kernel_rfl) ?_
      refine xthen ?_
      by_cases hp186 : ¬ ((y181.toNat : Int) = (y183.toNat : Int))
      · replace h := h.1 hp186
        refine xcondT' (not_t (decide_eq_false hp186)) rfl ?_
        refine xseq ?_
        refine xregion ?_
        refine xvalP (pv_assign rfl) rfl rfl ?_
        refine xnil ?_
        refine xthen ?_
        refine xretc ?_
        refine xin_ret ?_
        refine xthen_ret ?_
        refine xthen_ret ?_
        refine xin_ret ?_
        refine xthen_ret ?_
        replace h := h.symm
        subst h
        exact xret1 (bx' := [rbx ia2 5 1 (List.map eb l1)]) (tk' := []) hg rfl rfl (.refl _) (SubM.of (.keep rfl rfl (.refl _) (.nil _)) (.nil _)) ⟨rfl, rfl, rfl⟩
      · replace h := h.2 hp186
        refine xcondF' (not_f (decide_eq_true (Decidable.of_not_not hp186))) rfl ?_
        refine xskipc ?_
        refine xin_normal ?_
        refine xthen ?_
        refine xregion ?_
        refine xvalP (pv_move rfl) rfl rfl ?_
        obtain ⟨h187, h⟩ := h
        refine xvalP (pv_addI h187 rfl rfl) rfl rfl ?_
        refine xvalP (pv_assign rfl) rfl rfl ?_
        refine xnil ?_
        obtain ⟨m', hm, hI⟩ := hag1 _ h
        exact xagain ⟨(iv129 + 1), hI, rfl⟩ hm ⟨(.cons rfl (.eq (by first | rfl | simp)) (.cons rfl (.refl _) (.cons rfl (.refl _) (.nil _)))), by exact (SubM.of (.keep rfl rfl (.refl _) (.nil _)) (.nil _))⟩
    · replace h := h.2 hp164
      refine xcondF' (decide_eq_false hp164) rfl ?_
      refine xexit ?_
      refine xthen_exit ?_
      refine xthen_exit ?_
      refine xin_same rfl ?_
      refine xthen ?_
      refine xseq ?_
      refine xregion ?_
      refine xvalP (pv_assign rfl) rfl rfl ?_
      refine xnil ?_
      refine xthen ?_
      refine xretc ?_
      replace h := h.symm
      subst h
      exact xret1 (bx' := [rbx ia2 5 1 (List.map eb l1)]) (tk' := []) hg rfl rfl (.refl _) (SubM.of (.keep rfl rfl (.refl _) (.nil _)) (.nil _)) ⟨rfl, rfl, rfl⟩
end Go.Proofs.Ythffeojphpajpaa
