/- What functions' texts ask for, and the walks that show it (printed by a program). -/
import Derived.Test.YthffeojphpajpaaDoorCv
import Derived.Test.YthffeojphpajpaaDoorDef
import Derived.Test.YthffeojphpajpaaDoorIto
namespace Go.Proofs.YthffeojphpajpaaDoor
abbrev E_palinode_api_Line (x : (List UInt8) × Bool) : List Sd := [.sl 1 none (List.map eb x.1), .v (.bool x.2)]
instance : EncLen E_palinode_api_Line 2 := ⟨fun _ => sl_⟩
/-- (*sinks.Sink).write$1 -/
def sinks_Sink_write_c1_R (o3 : Int) (o4 : Bool) (o5 : Int) (o6 : Bool) (o7 : Int) (l1 : List UInt8) (r : (List UInt8) × Int × Bool) : Prop :=
  ((o7 < ((l1.length : Nat) : Int) → (0 ≤ (o3 : Int) ∧ (o3 : Int) ≤ ((l1.length : Nat) : Int)) ∧ r = ((l1.take (o3 : Int).toNat), 7, o4)) ∧ (¬ (o7 < ((l1.length : Nat) : Int)) → r = (l1, o5, o6)))
def sinks_Sink_write_c1_ev (fuel : Nat) (o3 : Int) (o4 : Bool) (o5 : Int) (o6 : Bool) (o7 : Int) (l1 : List UInt8) : Option ((List UInt8) × Int × Bool) :=
  (if o7 < ((l1.length : Nat) : Int) then (if (0 ≤ (o3 : Int) ∧ (o3 : Int) ≤ ((l1.length : Nat) : Int)) then some ((l1.take (o3 : Int).toNat), 7, o4) else none) else some (l1, o5, o6))
theorem sinks_Sink_write_c1_ok {fuel : Nat} {o3 : Int} {o4 : Bool} {o5 : Int} {o6 : Bool} {o7 : Int} {l1 : List UInt8} {r : (List UInt8) × Int × Bool} (h : sinks_Sink_write_c1_ev fuel o3 o4 o5 o6 o7 l1 = some r) : sinks_Sink_write_c1_R o3 o4 o5 o6 o7 l1 r := by
  unfold sinks_Sink_write_c1_ev at h
  unfold sinks_Sink_write_c1_R
  refine ⟨fun g1 => ?_, fun g1 => ?_⟩
  · rw [if_pos g1] at h
    obtain ⟨g2, h⟩ := if_ok h
    refine ⟨g2, ?_⟩
    exact (Option.some.inj h).symm
  · rw [if_neg g1] at h
    exact (Option.some.inj h).symm
set_option maxHeartbeats 4000000 in
theorem sinks_Sink_write_c1_con (o3 : Int) (o4 : Bool) (o5 : Int) (o6 : Bool) (o7 : Int) (l1 : List UInt8) (bx0 : Nat) (bx1 : Nat) (bx2 : Nat) (bx3 : Nat) (bx4 : Nat) (ia2 : Option (Nat × Nat)) (r : (List UInt8) × Int × Bool) (h : sinks_Sink_write_c1_R o3 o4 o5 o6 o7 l1 r) : ConD Tryd.prog 15 [.v (.pointer (some ⟨bx0, 0, none⟩)), .v (.pointer (some ⟨bx1, 0, none⟩)), .v (.pointer (some ⟨bx2, 0, none⟩)), .v (.pointer (some ⟨bx3, 0, none⟩))] [⟨bx0, 24, [.v (.pointer (some ⟨bx4, 0, none⟩))]⟩, ⟨bx1, 3, [.v (.int .i64 o3)]⟩, ⟨bx2, 4, [.v (.bool o4)]⟩, ⟨bx3, 25, [.v (.int .i64 o5)]⟩, ⟨bx4, 35, [.rb ia2 l1.length, .v (.bool o6), .v (.int .i64 o7)]⟩, rbx ia2 5 1 (List.map eb l1)] [] (fun rr bx tk => ∃ j1, rr = .tup [] ∧ bx = [rbx j1 5 1 (List.map eb r.1), ⟨bx0, 24, [.v (.pointer (some ⟨bx4, 0, none⟩))]⟩, ⟨bx1, 3, [.v (.int .i64 o3)]⟩, ⟨bx2, 4, [.v (.bool o4)]⟩, ⟨bx3, 25, [.v (.int .i64 r.2.1)]⟩, ⟨bx4, 35, [.rb j1 r.1.length, .v (.bool r.2.2), .v (.int .i64 o7)]⟩] ∧ tk = []) := by
  refine xenterC Tryd.func15 rfl rfl fun g hg => ?_
  simp only [Tryd.ntmps15, slots]
  refine xseq ?_
  refine xregionD (m := 10) (by kernel_rfl) rfl ?_
  refine xpvalE 0 [5, 6, 7, 8] rfl (qv_loadB 0 ShpC.h rfl rfl rfl rfl) rfl rfl (by kernel_rfl) (by kernel_rfl) (by kernel_rfl) (fun _ _ _ _ h => h) ?_
  refine xpval 1 rfl (pv_nilCheck rfl) rfl rfl (by kernel_rfl) (by kernel_rfl) (by kernel_rfl) (fun _ _ _ _ h => h) ?_
  refine xpval 2 rfl (qv_fieldAddrB FldC.h rfl) rfl rfl (by kernel_rfl) (by kernel_rfl) (by kernel_rfl) (fun _ _ _ _ h => h) ?_
  refine xpvalE 3 [5, 6, 7, 8] rfl (qv_loadB 4 ShpC.h rfl rfl rfl rfl) rfl rfl (by kernel_rfl) (by kernel_rfl) (by kernel_rfl) (fun _ _ _ _ h => h) ?_
  refine xpval 4 rfl (pv_lenRb UndC.h rfl) rfl rfl (by kernel_rfl) (by kernel_rfl) (by kernel_rfl) (fun _ _ _ _ h => h) ?_
  refine xpvalE 5 [] rfl (qv_loadB 0 ShpC.h rfl rfl rfl rfl) rfl rfl (by kernel_rfl) (by kernel_rfl) (by kernel_rfl) (fun _ _ _ _ h => h) ?_
  refine xpval 6 rfl (pv_nilCheck rfl) rfl rfl (by kernel_rfl) (by kernel_rfl) (by kernel_rfl) (fun _ _ _ _ h => h) ?_
  refine xpval 7 rfl (qv_fieldAddrB FldC.h rfl) rfl rfl (by kernel_rfl) (by kernel_rfl) (by kernel_rfl) (fun _ _ _ _ h => h) ?_
  refine xpvalE 8 [] rfl (qv_loadB 4 ShpC.h rfl rfl rfl rfl) rfl rfl (by kernel_rfl) (by kernel_rfl) (by kernel_rfl) (fun _ _ _ _ h => h) ?_
  refine xpval 9 rfl (pv_bin2 rfl rfl rfl) rfl rfl (by kernel_rfl) (by kernel_rfl) (by kernel_rfl) (fun _ _ _ _ h => h) ?_
  refine xpdone (by kernel_rfl) ?_
  refine xthen ?_
  by_cases hp12 : o7 < ((l1.length : Nat) : Int)
  · replace h := h.1 hp12
    refine xcondT' (decide_eq_true hp12) rfl ?_
    refine xregionD (m := 16) (by kernel_rfl) rfl ?_
    obtain ⟨h13, h⟩ := h
    refine xpvalE 0 [1, 2, 3, 4, 5, 6, 7, 8] rfl (qv_loadB 0 ShpC.h rfl rfl rfl rfl) rfl rfl (by kernel_rfl) (by kernel_rfl) (by kernel_rfl) (fun _ _ _ _ h => h) ?_
    refine xpvalE 1 [2, 3, 4, 5, 6, 7, 8] rfl (qv_loadB 0 ShpC.h rfl rfl rfl rfl) rfl rfl (by kernel_rfl) (by kernel_rfl) (by kernel_rfl) (fun _ _ _ _ h => h) ?_
    refine xpvalE 2 [6, 8] rfl (qv_loadB 0 ShpC.h rfl rfl rfl rfl) rfl rfl (by kernel_rfl) (by kernel_rfl) (by kernel_rfl) (fun _ _ _ _ h => h) ?_
    refine xpval 3 rfl (pv_nilCheck rfl) rfl rfl (by kernel_rfl) (by kernel_rfl) (by kernel_rfl) (fun _ _ _ _ h => h) ?_
    refine xpval 4 rfl (qv_fieldAddrB FldC.h rfl) rfl rfl (by kernel_rfl) (by kernel_rfl) (by kernel_rfl) (fun _ _ _ _ h => h) ?_
    refine xpvalE 5 [6, 8] rfl (qv_loadB 4 ShpC.h rfl rfl rfl rfl) rfl rfl (by kernel_rfl) (by kernel_rfl) (by kernel_rfl) (fun _ _ _ _ h => h) ?_
    refine xpvalE 6 [8] rfl (qv_loadB 1 ShpC.h rfl rfl rfl rfl) rfl rfl (by kernel_rfl) (by kernel_rfl) (by kernel_rfl) (fun _ _ _ _ h => h) ?_
    refine xpvalE 8 [7] rfl (qv_loadB 2 ShpC.h rfl rfl rfl rfl) rfl rfl (by kernel_rfl) (by kernel_rfl) (by kernel_rfl) (fun _ _ _ _ h => h) ?_
    refine xpstep (i := 7) (by kernel_rfl) rfl ?_
    refine wvalP (pv_sliceRbHi h13 UndC.h ShpC.h rfl rfl) rfl rfl ?_
    refine ptakeRb (f := eb) (l := l1) 5 19 21 (o3 : Int).toNat rfl (by have := h13; first | omega | (simp at this ⊢; done) | (simp at this ⊢; omega)) rfl rfl rfl ?_
    refine xpval 9 rfl (pv_nilCheck rfl) rfl rfl (by kernel_rfl) (by kernel_rfl) (by kernel_rfl) (fun _ _ _ _ h => h) ?_
    refine xpval 10 rfl (qv_fieldAddrB FldC.h rfl) rfl rfl (by kernel_rfl) (by kernel_rfl) (by kernel_rfl) (fun _ _ _ _ h => h) ?_
    refine xpstep (i := 11) (by kernel_rfl) rfl ?_
    refine wstore 4 ShpC.h rfl rfl rfl rfl rfl rfl rfl ?_
    refine xpval 12 rfl (pv_nilCheck rfl) rfl rfl (by kernel_rfl) (by kernel_rfl) (by kernel_rfl) (fun _ _ _ _ h => h) ?_
    refine xpval 13 rfl (qv_fieldAddrB FldC.h rfl) rfl rfl (by kernel_rfl) (by kernel_rfl) (by kernel_rfl) (fun _ _ _ _ h => h) ?_
    refine xpstep (i := 14) (by kernel_rfl) rfl ?_
    refine wstore 4 ShpC.h rfl rfl rfl rfl rfl rfl rfl ?_
    refine xpstep (i := 15) (by kernel_rfl) rfl ?_
    refine wstore 3 ShpC.h rfl rfl rfl rfl rfl rfl rfl ?_
    refine xpdone (by kernel_rfl) ?_
    replace h := h.symm
    subst h
    exact xret0 (bx' := [rbx ia2 5 1 (List.map eb ((l1.take (o3 : Int).toNat))), ⟨bx0, 24, [.v (.pointer (some ⟨bx4, 0, none⟩))]⟩, ⟨bx1, 3, [.v (.int .i64 o3)]⟩, ⟨bx2, 4, [.v (.bool o4)]⟩, ⟨bx3, 25, [.v (.int .i64 7)]⟩, ⟨bx4, 35, [.rb ia2 (((l1.take (o3 : Int).toNat)).length), .v (.bool o4), .v (.int .i64 o7)]⟩]) (tk' := []) hg rfl (by refine SubM.trans (SubM.mvB 4 rfl) ?_; refine SubM.trans (SubM.mvB 4 rfl) ?_; refine SubM.trans (SubM.mvB 4 rfl) ?_; refine SubM.trans (SubM.mvB 4 rfl) ?_; refine SubM.trans (SubM.mvB 4 rfl) ?_; refine SubM.trans (SubM.mvB 5 rfl) ?_; (simp only [List.eraseIdx]); exact sm_) ⟨ia2, rfl, rfl, rfl⟩ (by simp)
  · replace h := h.2 hp12
    refine xcondF' (decide_eq_false hp12) rfl ?_
    refine xskipc ?_
    replace h := h.symm
    subst h
    exact xret0 (bx' := [rbx ia2 5 1 (List.map eb l1), ⟨bx0, 24, [.v (.pointer (some ⟨bx4, 0, none⟩))]⟩, ⟨bx1, 3, [.v (.int .i64 o3)]⟩, ⟨bx2, 4, [.v (.bool o4)]⟩, ⟨bx3, 25, [.v (.int .i64 o5)]⟩, ⟨bx4, 35, [.rb ia2 l1.length, .v (.bool o6), .v (.int .i64 o7)]⟩]) (tk' := []) hg rfl (by refine SubM.trans (SubM.mvB 4 rfl) ?_; refine SubM.trans (SubM.mvB 4 rfl) ?_; refine SubM.trans (SubM.mvB 4 rfl) ?_; refine SubM.trans (SubM.mvB 4 rfl) ?_; refine SubM.trans (SubM.mvB 4 rfl) ?_; refine SubM.trans (SubM.mvB 5 rfl) ?_; (simp only [List.eraseIdx]); exact sm_) ⟨ia2, rfl, rfl, rfl⟩ (by simp)
/-- (*sinks.Sink).write -/
def sinks_Sink_write_j1 (bv5 : List UInt8) (l1 : List UInt8) (o3 : Bool) (short6 : Bool) (o4 : Int) (l23 : List UInt8) (r : Int × (List UInt8) × Bool) : Prop :=
  Room (l23.length + bv5.length) 1 ∧ ∃ y36 : (List UInt8) × Int × Bool, sinks_Sink_write_c1_R ((l1.length : Nat) : Int) o3 0 short6 o4 (l23 ++ bv5) y36 ∧ r = (y36.2.1, y36.1, y36.2.2)
def sinks_Sink_write_R (o3 : Bool) (o4 : Int) (l1 : List UInt8) (bv5 : List UInt8) (short6 : Bool) (r : Int × (List UInt8) × Bool) : Prop :=
  ((o3 = true → Room (l1.length + ([(10 : UInt8)]).length) 1 ∧ sinks_Sink_write_j1 bv5 l1 o3 short6 o4 (l1 ++ [(10 : UInt8)]) r) ∧ (¬ (o3 = true) → sinks_Sink_write_j1 bv5 l1 o3 short6 o4 l1 r))
def sinks_Sink_write_j1_ev (fuel : Nat) (bv5 : List UInt8) (l1 : List UInt8) (o3 : Bool) (short6 : Bool) (o4 : Int) (l23 : List UInt8) : Option (Int × (List UInt8) × Bool) :=
  (if Room (l23.length + bv5.length) 1 then ((sinks_Sink_write_c1_ev fuel ((l1.length : Nat) : Int) o3 0 short6 o4 (l23 ++ bv5)).bind fun y36 => some (y36.2.1, y36.1, y36.2.2)) else none)
theorem sinks_Sink_write_j1_ok {fuel : Nat} {bv5 : List UInt8} {l1 : List UInt8} {o3 : Bool} {short6 : Bool} {o4 : Int} {l23 : List UInt8} {r : Int × (List UInt8) × Bool} (h : sinks_Sink_write_j1_ev fuel bv5 l1 o3 short6 o4 l23 = some r) : sinks_Sink_write_j1 bv5 l1 o3 short6 o4 l23 r := by
  unfold sinks_Sink_write_j1_ev at h
  unfold sinks_Sink_write_j1
  obtain ⟨g3, h⟩ := if_ok h
  refine ⟨g3, ?_⟩
  obtain ⟨q4, g4, h⟩ := bind_ok h
  refine ⟨q4, sinks_Sink_write_c1_ok g4, ?_⟩
  exact (Option.some.inj h).symm
def sinks_Sink_write_ev (fuel : Nat) (o3 : Bool) (o4 : Int) (l1 : List UInt8) (bv5 : List UInt8) (short6 : Bool) : Option (Int × (List UInt8) × Bool) :=
  (if o3 = true then (if Room (l1.length + ([(10 : UInt8)]).length) 1 then sinks_Sink_write_j1_ev fuel bv5 l1 o3 short6 o4 (l1 ++ [(10 : UInt8)]) else none) else sinks_Sink_write_j1_ev fuel bv5 l1 o3 short6 o4 l1)
theorem sinks_Sink_write_ok {fuel : Nat} {o3 : Bool} {o4 : Int} {l1 : List UInt8} {bv5 : List UInt8} {short6 : Bool} {r : Int × (List UInt8) × Bool} (h : sinks_Sink_write_ev fuel o3 o4 l1 bv5 short6 = some r) : sinks_Sink_write_R o3 o4 l1 bv5 short6 r := by
  unfold sinks_Sink_write_ev at h
  unfold sinks_Sink_write_R
  refine ⟨fun g5 => ?_, fun g5 => ?_⟩
  · rw [if_pos g5] at h
    obtain ⟨g6, h⟩ := if_ok h
    refine ⟨g6, ?_⟩
    exact sinks_Sink_write_j1_ok h
  · rw [if_neg g5] at h
    exact sinks_Sink_write_j1_ok h
set_option maxHeartbeats 4000000 in
theorem sinks_Sink_write_con (o3 : Bool) (o4 : Int) (l1 : List UInt8) (bv5 : List UInt8) (short6 : Bool) (bx0 : Nat) (ia2 : Option (Nat × Nat)) (r : Int × (List UInt8) × Bool) (h : sinks_Sink_write_R o3 o4 l1 bv5 short6 r) : Con Tryd.prog 12 [.v (.pointer (some ⟨bx0, 0, none⟩)), .sl 1 none (List.map eb bv5), .v (.bool short6)] [⟨bx0, 35, [.rb ia2 l1.length, .v (.bool o3), .v (.int .i64 o4)]⟩, rbx ia2 5 1 (List.map eb l1)] [] (fun rr bx tk => ∃ j1, rr = .v (.int .i64 r.1) ∧ bx = [rbx j1 5 1 (List.map eb r.2.1), ⟨bx0, 35, [.rb j1 r.2.1.length, .v (.bool r.2.2), .v (.int .i64 o4)]⟩] ∧ tk = []) := by
  refine xenterF Tryd.func12 rfl rfl fun g hg => ?_
  simp only [Tryd.ntmps12, slots]
  refine xseq ?_
  refine xregion ?_
  refine xbox rfl rfl rfl rfl fun b3 => ?_
  refine xalloc InfC.h rfl rfl fun b6 => ?_
  refine xnil ?_
  refine xthen ?_
  refine xseq ?_
  refine xseq ?_
  refine xregion ?_
  refine xval (qv_loadB 1 ShpC.h rfl rfl rfl rfl) rfl rfl ?_
  refine xvalP (pv_eqNil UndC.h rfl rfl) rfl rfl ?_
  refine xnil ?_
  refine xthen ?_
  refine xcondF rfl ?_
  refine xskipc ?_
  refine xthen ?_
  refine xseq ?_
  refine xregionD (m := 13) (by kernel_rfl) rfl ?_
  refine xpcut 1 #[true, true, true, true, true, true, true, true, true, true, true, true, false] (fun σ => ∃ (b8 : Nat), ∃ (b7 : Nat), σ = ⟨[(1, .sl 1 none (List.map eb bv5)), (2, .v (.bool short6)), (3, .v (.pointer (some ⟨b3, 0, none⟩))), (6, .v (.pointer (some ⟨b6, 0, none⟩))), (7, .v (.pointer (some ⟨b7, 0, none⟩))), (8, .v (.pointer (some ⟨b8, 0, none⟩))), (19, .v (.int .i64 (((l1.length : Nat) : Int))))], [⟨b8, 3, [.v (.int .i64 0)]⟩, ⟨b7, 4, [.v (.bool o3)]⟩, ⟨b6, 25, [.v (.int .i64 0)]⟩, ⟨b3, 24, [.v (.pointer (some ⟨bx0, 0, none⟩))]⟩, ⟨bx0, 35, [.rb ia2 l1.length, .v (.bool o3), .v (.int .i64 o4)]⟩, rbx ia2 5 1 (List.map eb l1)], []⟩) ?_ (fun key19 => ?_)
  · rintro _ ⟨b8, b7, rfl⟩
    refine xpstep (i := 12) (by kernel_rfl) rfl ?_
    refine wstore 0 ShpC.h rfl rfl rfl rfl rfl rfl rfl ?_
    refine xpdone (by kernel_rfl) ?_
    refine xthen ?_
    refine xseq ?_
    refine xregion ?_
    refine xvalP (pv_makeFuncC rfl) rfl rfl ?_
    refine xdefer hg.rd rfl rfl ?_
    refine xnil ?_
    refine xthenR rfl ?_
    refine xseqM (fun σ => ∃ (l23 : List UInt8), ∃ (i24 : Option (Nat × Nat)), sinks_Sink_write_j1 bv5 l1 o3 short6 o4 l23 r ∧ σ = ⟨[(1, .sl 1 none (List.map eb bv5)), (2, .v (.bool short6)), (3, .v (.pointer (some ⟨b3, 0, none⟩))), (6, .v (.pointer (some ⟨b6, 0, none⟩)))], [⟨b8, 3, [.v (.int .i64 (((l1.length : Nat) : Int)))]⟩, ⟨b7, 4, [.v (.bool o3)]⟩, ⟨b6, 25, [.v (.int .i64 0)]⟩, ⟨b3, 24, [.v (.pointer (some ⟨bx0, 0, none⟩))]⟩, ⟨bx0, 35, [.rb i24 l23.length, .v (.bool o3), .v (.int .i64 o4)]⟩, rbx i24 5 1 (List.map eb l23)], []⟩) ?_ ?_
    · refine xseq ?_
      refine xregion ?_
      refine xval (qv_loadB 3 ShpC.h rfl rfl rfl rfl) rfl rfl ?_
      refine xvalP (pv_nilCheck rfl) rfl rfl ?_
      refine xvalP (qv_fieldAddrB FldC.h rfl) rfl rfl ?_
      refine xval (qv_loadB 4 ShpC.h rfl rfl rfl rfl) rfl rfl ?_
      refine xnil ?_
      refine xthenR rfl ?_
      by_cases hp25 : o3 = true
      · replace h := h.1 hp25
        refine xcondT' hp25 rfl ?_
        refine xregionD (m := 10) (by kernel_rfl) rfl ?_
        obtain ⟨h26, h⟩ := h
        refine xpvalE 1 [0, 5] rfl (qv_loadB 3 ShpC.h rfl rfl rfl rfl) rfl rfl (by kernel_rfl) (by kernel_rfl) (by kernel_rfl) (fun _ _ _ _ h => h) ?_
        refine xpval 2 rfl (pv_nilCheck rfl) rfl rfl (by kernel_rfl) (by kernel_rfl) (by kernel_rfl) (fun _ _ _ _ h => h) ?_
        refine xpval 3 rfl (qv_fieldAddrB FldC.h rfl) rfl rfl (by kernel_rfl) (by kernel_rfl) (by kernel_rfl) (fun _ _ _ _ h => h) ?_
        refine xpvalE 4 [0, 5] rfl (qv_loadB 4 ShpC.h rfl rfl rfl rfl) rfl rfl (by kernel_rfl) (by kernel_rfl) (by kernel_rfl) (fun _ _ _ _ h => h) ?_
        refine xfl0 [⟨0, 25, .v (.pointer (some ⟨bx0, 0, none⟩))⟩] 5 ?_
        refine xflstep 5 (by kernel_rfl) rfl (.cons rfl rfl rfl (fun _ => rfl) (fun _ => qv_loadB 3 ShpC.h rfl rfl rfl rfl) .nil) fun D l td hR => ?_
        refine wbuildSliceM (f := eb) [(10 : UInt8)] UndC.h InfC.h rfl rfl wr_ rfl rfl rfl rfl fun s30 => ?_
        refine xflgo1 hR ?_
        refine xflstep 6 (by kernel_rfl) rfl (.cons rfl rfl rfl (fun _ => rfl) (fun _ => qv_loadB 3 ShpC.h rfl rfl rfl rfl) .nil) fun D l td hR => ?_
        refine wappendRb (f := eb) (l := l1) (l2 := [(10 : UInt8)]) 5 rfl h26 UndC.h InfC.h rfl rfl (.refl _) (.sl rfl (.refl _)) rfl rfl rfl fun i27 => ?_
        refine xflgo1 hR ?_
        refine xflend (l' := #[true, true, true, true, true, true, true, false, false, false]) (by kernel_rfl) (.cons rfl rfl rfl (fun _ => rfl) (fun _ => qv_loadB 3 ShpC.h rfl rfl rfl rfl) .nil) (by kernel_rfl) rfl (by kernel_rfl) (by kernel_rfl) ?_
        simp only [List.nil_append, List.cons_append, List.map_cons, List.map_nil]
        refine xpval 7 rfl (pv_nilCheck rfl) rfl rfl (by kernel_rfl) (by kernel_rfl) (by kernel_rfl) (fun _ _ _ _ h => h) ?_
        refine xpval 8 rfl (qv_fieldAddrB FldC.h rfl) rfl rfl (by kernel_rfl) (by kernel_rfl) (by kernel_rfl) (fun _ _ _ _ h => h) ?_
        refine xpstep (i := 9) (by kernel_rfl) rfl ?_
        refine wstore 4 ShpC.h rfl rfl rfl rfl rfl rfl rfl ?_
        refine xpdone (by kernel_rfl) ?_
        exact xmeet ⟨(l1 ++ [(10 : UInt8)]), i27, h, rfl⟩ ⟨(.cons rfl (.refl _) (.cons rfl (.refl _) (.cons rfl (.refl _) (.cons rfl (.refl _) (.nil _))))), by exact (SubM.of (.keep rfl rfl (.refl _) (.keep rfl rfl (.refl _) (.keep rfl rfl (.refl _) (.keep rfl rfl (.refl _) (.keep rfl rfl (.cons (.eq (by first | rfl | simp)) (.cons (.refl _) (.cons (.refl _) .nil))) (.keep rfl rfl (.refl _) (.nil _))))))) (.nil _))⟩
      · replace h := h.2 hp25
        refine xcondF' (b_f hp25) rfl ?_
        refine xskipc ?_
        exact xmeet ⟨l1, ia2, h, rfl⟩ ⟨(.cons rfl (.refl _) (.cons rfl (.refl _) (.cons rfl (.refl _) (.cons rfl (.refl _) (.nil _))))), by exact (SubM.of (.keep rfl rfl (.refl _) (.keep rfl rfl (.refl _) (.keep rfl rfl (.refl _) (.keep rfl rfl (.refl _) (.keep rfl rfl (.cons (.eq (by first | rfl | simp)) (.cons (.refl _) (.cons (.refl _) .nil))) (.keep rfl rfl (.refl _) (.nil _))))))) (.nil _))⟩
    · clear h
      rintro _ ⟨l23, i24, h, rfl⟩
      refine xseq ?_
      refine xregionD (m := 15) (by kernel_rfl) rfl ?_
      obtain ⟨h31, h⟩ := h
      refine xpcut 1 #[true, true, true, true, true, true, true, true, true, true, true, true, true, true, false] (fun σ => ∃ (i32 : Option (Nat × Nat)), σ = ⟨[(6, .v (.pointer (some ⟨b6, 0, none⟩))), (42, .v (.bool short6)), (46, .v (.pointer (some ⟨bx0, 1, none⟩)))], [⟨b8, 3, [.v (.int .i64 (((l1.length : Nat) : Int)))]⟩, ⟨b7, 4, [.v (.bool o3)]⟩, ⟨b6, 25, [.v (.int .i64 0)]⟩, ⟨b3, 24, [.v (.pointer (some ⟨bx0, 0, none⟩))]⟩, ⟨bx0, 35, [.rb i32 ((l23 ++ bv5).length), .v (.bool o3), .v (.int .i64 o4)]⟩, rbx i32 5 1 (List.map eb ((l23 ++ bv5)))], []⟩) ?_ (fun key33 => ?_)
      · rintro _ ⟨i32, rfl⟩
        refine xpstep (i := 14) (by kernel_rfl) rfl ?_
        refine wstore 4 ShpC.h rfl rfl rfl rfl rfl rfl rfl ?_
        refine xpdone (by kernel_rfl) ?_
        refine xthenR rfl ?_
        refine xseq ?_
        refine xregion ?_
        refine xstore 2 ShpC.h rfl rfl rfl rfl rfl rfl rfl ?_
        refine xnil ?_
        refine xthenR rfl ?_
        refine xretc ?_
        obtain ⟨y36, h35, h⟩ := h
        refine xretD (Fb := []) (Ft := []) hg (sinks_Sink_write_c1_con ((l1.length : Nat) : Int) o3 0 short6 o4 (l23 ++ bv5) b3 b8 b7 b6 bx0 i32 _ h35) Tryd.func15 (by kernel_rfl) rfl rfl (by refine SubM.trans (SubM.mvB 5 rfl) ?_; refine SubM.trans (SubM.mvB 5 rfl) ?_; refine SubM.trans (SubM.mvB 4 rfl) ?_; refine SubM.trans (SubM.mvB 4 rfl) ?_; refine SubM.trans (SubM.mvB 4 rfl) ?_; refine SubM.trans (SubM.mvB 5 rfl) ?_; (simp only [List.eraseIdx]); exact sm_) ?_
        rintro _ _ _ ⟨i37, rfl, rfl, rfl⟩
        simp only [List.nil_append, List.cons_append]
        replace h := h.symm
        subst h
        exact xretL (rs := [.cell 6 25]) (ss := [.v (.int .i64 y36.2.1)]) (bx' := [rbx i37 5 1 (List.map eb y36.1), ⟨bx0, 35, [.rb i37 y36.1.length, .v (.bool y36.2.2), .v (.int .i64 o4)]⟩]) (tk' := []) (GOk.clr hg) rfl (by refine RetL.cell 4 ShpC.h rfl rfl rfl (Nat.le_of_ble_eq_true rfl) (.refl _) ?_; exact RetL.nil) (SubM.of (.keep rfl rfl (.refl _) (.drop (.drop (.drop (.drop (.keep rfl rfl (.cons (.eq (by first | rfl | simp)) (.cons (.refl _) (.cons (.refl _) .nil))) (.nil _))))))) (.nil _)) ⟨i37, rfl, rfl, rfl⟩
      refine xpval 6 rfl (pv_move rfl) rfl rfl (by kernel_rfl) (by kernel_rfl) (by kernel_rfl) (fun _ _ _ _ h => h) ?_
      refine xpval 8 rfl (pv_move rfl) rfl rfl (by kernel_rfl) (by kernel_rfl) (by kernel_rfl) (fun _ _ _ _ h => h) ?_
      refine xpvalE 2 [0, 1] rfl (qv_loadB 3 ShpC.h rfl rfl rfl rfl) rfl rfl (by kernel_rfl) (by kernel_rfl) (by kernel_rfl) (fun _ _ _ _ h => h) ?_
      refine xpval 3 rfl (pv_nilCheck rfl) rfl rfl (by kernel_rfl) (by kernel_rfl) (by kernel_rfl) (fun _ _ _ _ h => h) ?_
      refine xpval 4 rfl (qv_fieldAddrB FldC.h rfl) rfl rfl (by kernel_rfl) (by kernel_rfl) (by kernel_rfl) (fun _ _ _ _ h => h) ?_
      refine xpvalE 5 [0, 1] rfl (qv_loadB 4 ShpC.h rfl rfl rfl rfl) rfl rfl (by kernel_rfl) (by kernel_rfl) (by kernel_rfl) (fun _ _ _ _ h => h) ?_
      refine xpstepN (is := [0, 1, 7]) (by kernel_rfl) (by simp) ?_
      intro i hi; simp only [List.mem_cons, List.not_mem_nil, or_false] at hi; rcases hi with rfl | rfl | rfl
      · refine ⟨_, rfl, ?_⟩
        refine wval (qv_loadB 3 ShpC.h rfl rfl rfl rfl) rfl rfl ?_
        refine xfl0 [⟨1, 35, .v (.pointer (some ⟨bx0, 0, none⟩))⟩] 7 ?_
        refine xflstep 7 (by kernel_rfl) rfl (.cons rfl rfl rfl (fun _ => rfl) (fun _ => qv_loadB 3 ShpC.h rfl rfl rfl rfl) .nil) fun D l td hR => ?_
        refine wappendRb (f := eb) (l := l23) (l2 := bv5) 5 rfl h31 UndC.h InfC.h rfl rfl (.refl _) (.sl rfl (.refl _)) rfl rfl rfl fun i32 => ?_
        refine xflgo1 hR ?_
        refine xflval 9 (by kernel_rfl) rfl (fun _ => pv_nilCheck rfl) (fun _ => rfl) rfl (by kernel_rfl) (fun _ _ _ _ h => h) ?_
        refine xflval 10 (by kernel_rfl) rfl (fun _ => qv_fieldAddrB FldC.h rfl) (fun _ => rfl) rfl (by kernel_rfl) (fun _ _ _ _ h => h) ?_
        refine xflstep 11 (by kernel_rfl) rfl (.cons rfl rfl rfl (fun _ => rfl) (fun _ => qv_loadB 3 ShpC.h rfl rfl rfl rfl) .nil) fun D l td hR => ?_
        refine wstore 4 ShpC.h rfl rfl rfl rfl rfl rfl rfl ?_
        refine xflgo0 hR ?_
        refine xflend (l' := #[true, true, true, true, true, true, true, true, true, true, true, true, false, false, false]) (by kernel_rfl) (.cons rfl rfl rfl (fun _ => rfl) (fun _ => qv_loadB 3 ShpC.h rfl rfl rfl rfl) .nil) (by kernel_rfl) rfl (by kernel_rfl) (by kernel_rfl) ?_
        simp only [List.nil_append, List.cons_append, List.map_cons, List.map_nil]
        refine xpval 12 rfl (pv_nilCheck rfl) rfl rfl (by kernel_rfl) (by kernel_rfl) (by kernel_rfl) (fun _ _ _ _ h => h) ?_
        refine xpval 13 rfl (qv_fieldAddrB FldC.h rfl) rfl rfl (by kernel_rfl) (by kernel_rfl) (by kernel_rfl) (fun _ _ _ _ h => h) ?_
        exact xpuse key33 ⟨i32, rfl⟩ ⟨(.cons rfl (.refl _) (.cons rfl (.refl _) (.cons rfl (.refl _) (.nil _)))), by exact (SubM.of (.keep rfl rfl (.refl _) (.keep rfl rfl (.refl _) (.keep rfl rfl (.refl _) (.keep rfl rfl (.refl _) (.keep rfl rfl (.cons (.eq (by first | rfl | simp)) (.cons (.refl _) (.cons (.refl _) .nil))) (.keep rfl rfl (.refl _) (.nil _))))))) (.nil _))⟩ rfl (by kernel_rfl)
      · refine ⟨_, rfl, ?_⟩
        refine wval (qv_loadB 3 ShpC.h rfl rfl rfl rfl) rfl rfl ?_
        refine xfl0 [⟨0, 34, .v (.pointer (some ⟨bx0, 0, none⟩))⟩] 7 ?_
        refine xflstep 7 (by kernel_rfl) rfl (.cons rfl rfl rfl (fun _ => rfl) (fun _ => qv_loadB 3 ShpC.h rfl rfl rfl rfl) .nil) fun D l td hR => ?_
        refine wappendRb (f := eb) (l := l23) (l2 := bv5) 5 rfl h31 UndC.h InfC.h rfl rfl (.refl _) (.sl rfl (.refl _)) rfl rfl rfl fun i32 => ?_
        refine xflgo1 hR ?_
        refine xflend (l' := #[true, true, true, true, true, true, true, true, true, false, false, false, false, false, false]) (by kernel_rfl) (.cons rfl rfl rfl (fun _ => rfl) (fun _ => qv_loadB 3 ShpC.h rfl rfl rfl rfl) .nil) (by kernel_rfl) rfl (by kernel_rfl) (by kernel_rfl) ?_
        simp only [List.nil_append, List.cons_append, List.map_cons, List.map_nil]
        refine xpval 9 rfl (pv_nilCheck rfl) rfl rfl (by kernel_rfl) (by kernel_rfl) (by kernel_rfl) (fun _ _ _ _ h => h) ?_
        refine xpval 10 rfl (qv_fieldAddrB FldC.h rfl) rfl rfl (by kernel_rfl) (by kernel_rfl) (by kernel_rfl) (fun _ _ _ _ h => h) ?_
        refine xpstep (i := 11) (by kernel_rfl) rfl ?_
        refine wstore 4 ShpC.h rfl rfl rfl rfl rfl rfl rfl ?_
        refine xpval 12 rfl (pv_nilCheck rfl) rfl rfl (by kernel_rfl) (by kernel_rfl) (by kernel_rfl) (fun _ _ _ _ h => h) ?_
        refine xpval 13 rfl (qv_fieldAddrB FldC.h rfl) rfl rfl (by kernel_rfl) (by kernel_rfl) (by kernel_rfl) (fun _ _ _ _ h => h) ?_
        exact xpuse key33 ⟨i32, rfl⟩ ⟨(.cons rfl (.refl _) (.cons rfl (.refl _) (.cons rfl (.refl _) (.nil _)))), by exact (SubM.of (.keep rfl rfl (.refl _) (.keep rfl rfl (.refl _) (.keep rfl rfl (.refl _) (.keep rfl rfl (.refl _) (.keep rfl rfl (.cons (.eq (by first | rfl | simp)) (.cons (.refl _) (.cons (.refl _) .nil))) (.keep rfl rfl (.refl _) (.nil _))))))) (.nil _))⟩ rfl (by kernel_rfl)
      · refine ⟨_, rfl, ?_⟩
        refine wappendRb (f := eb) (l := l23) (l2 := bv5) 5 rfl h31 UndC.h InfC.h rfl rfl (.refl _) (.sl rfl (.refl _)) rfl rfl rfl fun i32 => ?_
        refine xpvalE 0 [1] rfl (qv_loadB 3 ShpC.h rfl rfl rfl rfl) rfl rfl (by kernel_rfl) (by kernel_rfl) (by kernel_rfl) (fun _ _ _ _ h => h) ?_
        refine xpval 9 rfl (pv_nilCheck rfl) rfl rfl (by kernel_rfl) (by kernel_rfl) (by kernel_rfl) (fun _ _ _ _ h => h) ?_
        refine xpval 10 rfl (qv_fieldAddrB FldC.h rfl) rfl rfl (by kernel_rfl) (by kernel_rfl) (by kernel_rfl) (fun _ _ _ _ h => h) ?_
        refine xfl0 [⟨1, 35, .v (.pointer (some ⟨bx0, 0, none⟩))⟩] 4 ?_
        refine xflstep 11 (by kernel_rfl) rfl (.cons rfl rfl rfl (fun _ => rfl) (fun _ => qv_loadB 3 ShpC.h rfl rfl rfl rfl) .nil) fun D l td hR => ?_
        refine wstore 4 ShpC.h rfl rfl rfl rfl rfl rfl rfl ?_
        refine xflgo0 hR ?_
        refine xflend (l' := #[true, true, true, true, true, true, true, true, true, true, true, true, false, false, false]) (by kernel_rfl) (.cons rfl rfl rfl (fun _ => rfl) (fun _ => qv_loadB 3 ShpC.h rfl rfl rfl rfl) .nil) (by kernel_rfl) rfl (by kernel_rfl) (by kernel_rfl) ?_
        simp only [List.nil_append, List.cons_append, List.map_cons, List.map_nil]
        refine xpval 12 rfl (pv_nilCheck rfl) rfl rfl (by kernel_rfl) (by kernel_rfl) (by kernel_rfl) (fun _ _ _ _ h => h) ?_
        refine xpval 13 rfl (qv_fieldAddrB FldC.h rfl) rfl rfl (by kernel_rfl) (by kernel_rfl) (by kernel_rfl) (fun _ _ _ _ h => h) ?_
        exact xpuse key33 ⟨i32, rfl⟩ ⟨(.cons rfl (.refl _) (.cons rfl (.refl _) (.cons rfl (.refl _) (.nil _)))), by exact (SubM.of (.keep rfl rfl (.refl _) (.keep rfl rfl (.refl _) (.keep rfl rfl (.refl _) (.keep rfl rfl (.refl _) (.keep rfl rfl (.cons (.eq (by first | rfl | simp)) (.cons (.refl _) (.cons (.refl _) .nil))) (.keep rfl rfl (.refl _) (.nil _))))))) (.nil _))⟩ rfl (by kernel_rfl)
  refine xpcut 2 #[true, true, true, true, true, true, true, true, true, true, true, false, false] (fun σ => ∃ (b8 : Nat), ∃ (b7 : Nat), σ = ⟨[(1, .sl 1 none (List.map eb bv5)), (2, .v (.bool short6)), (3, .v (.pointer (some ⟨b3, 0, none⟩))), (6, .v (.pointer (some ⟨b6, 0, none⟩))), (7, .v (.pointer (some ⟨b7, 0, none⟩))), (8, .v (.pointer (some ⟨b8, 0, none⟩))), (14, .v (.bool o3)), (19, .v (.int .i64 (((l1.length : Nat) : Int))))], [⟨b8, 3, [.v (.int .i64 0)]⟩, ⟨b7, 4, [.v (.bool false)]⟩, ⟨b6, 25, [.v (.int .i64 0)]⟩, ⟨b3, 24, [.v (.pointer (some ⟨bx0, 0, none⟩))]⟩, ⟨bx0, 35, [.rb ia2 l1.length, .v (.bool o3), .v (.int .i64 o4)]⟩, rbx ia2 5 1 (List.map eb l1)], []⟩) ?_ (fun key38 => ?_)
  · rintro _ ⟨b8, b7, rfl⟩
    refine xpstep (i := 11) (by kernel_rfl) rfl ?_
    refine wstore 1 ShpC.h rfl rfl rfl rfl rfl rfl rfl ?_
    exact xpuse key19 ⟨b8, b7, rfl⟩ ⟨(.cons rfl (.refl _) (.cons rfl (.refl _) (.cons rfl (.refl _) (.cons rfl (.refl _) (.cons rfl (.refl _) (.cons rfl (.refl _) (.cons rfl (.refl _) (.nil _)))))))), by exact (SubM.of (.keep rfl rfl (.refl _) (.keep rfl rfl (.refl _) (.keep rfl rfl (.refl _) (.keep rfl rfl (.refl _) (.keep rfl rfl (.cons (.eq (by first | rfl | simp)) (.cons (.refl _) (.cons (.refl _) .nil))) (.keep rfl rfl (.refl _) (.nil _))))))) (.nil _))⟩ rfl (by kernel_rfl)
  refine xpcut 3 #[true, true, true, true, true, true, true, true, true, true, false, false, false] (fun σ => ∃ (b7 : Nat), σ = ⟨[(1, .sl 1 none (List.map eb bv5)), (2, .v (.bool short6)), (3, .v (.pointer (some ⟨b3, 0, none⟩))), (6, .v (.pointer (some ⟨b6, 0, none⟩))), (7, .v (.pointer (some ⟨b7, 0, none⟩))), (14, .v (.bool o3)), (19, .v (.int .i64 (((l1.length : Nat) : Int))))], [⟨b7, 4, [.v (.bool false)]⟩, ⟨b6, 25, [.v (.int .i64 0)]⟩, ⟨b3, 24, [.v (.pointer (some ⟨bx0, 0, none⟩))]⟩, ⟨bx0, 35, [.rb ia2 l1.length, .v (.bool o3), .v (.int .i64 o4)]⟩, rbx ia2 5 1 (List.map eb l1)], []⟩) ?_ (fun key39 => ?_)
  · rintro _ ⟨b7, rfl⟩
    refine xpstep (i := 10) (by kernel_rfl) rfl ?_
    refine walloc InfC.h rfl rfl fun b8 => ?_
    exact xpuse key38 ⟨b8, b7, rfl⟩ ⟨(.cons rfl (.refl _) (.cons rfl (.refl _) (.cons rfl (.refl _) (.cons rfl (.refl _) (.cons rfl (.refl _) (.cons rfl (.refl _) (.cons rfl (.refl _) (.cons rfl (.refl _) (.nil _))))))))), by exact (SubM.of (.keep rfl rfl (.refl _) (.keep rfl rfl (.refl _) (.keep rfl rfl (.refl _) (.keep rfl rfl (.refl _) (.keep rfl rfl (.cons (.eq (by first | rfl | simp)) (.cons (.refl _) (.cons (.refl _) .nil))) (.keep rfl rfl (.refl _) (.nil _))))))) (.nil _))⟩ rfl (by kernel_rfl)
  refine xpcut 3 #[true, true, true, true, true, true, true, true, true, false, true, false, false] (fun σ => ∃ (b8 : Nat), σ = ⟨[(1, .sl 1 none (List.map eb bv5)), (2, .v (.bool short6)), (3, .v (.pointer (some ⟨b3, 0, none⟩))), (6, .v (.pointer (some ⟨b6, 0, none⟩))), (8, .v (.pointer (some ⟨b8, 0, none⟩))), (14, .v (.bool o3)), (19, .v (.int .i64 (((l1.length : Nat) : Int))))], [⟨b8, 3, [.v (.int .i64 0)]⟩, ⟨b6, 25, [.v (.int .i64 0)]⟩, ⟨b3, 24, [.v (.pointer (some ⟨bx0, 0, none⟩))]⟩, ⟨bx0, 35, [.rb ia2 l1.length, .v (.bool o3), .v (.int .i64 o4)]⟩, rbx ia2 5 1 (List.map eb l1)], []⟩) ?_ (fun key40 => ?_)
  · rintro _ ⟨b8, rfl⟩
    refine xpstep (i := 9) (by kernel_rfl) rfl ?_
    refine walloc InfC.h rfl rfl fun b7 => ?_
    exact xpuse key38 ⟨b8, b7, rfl⟩ ⟨(.cons rfl (.refl _) (.cons rfl (.refl _) (.cons rfl (.refl _) (.cons rfl (.refl _) (.cons rfl (.refl _) (.cons rfl (.refl _) (.cons rfl (.refl _) (.cons rfl (.refl _) (.nil _))))))))), by refine SubM.trans (SubM.mvB 5 rfl) ?_; refine SubM.trans (SubM.mvB 5 rfl) ?_; refine SubM.trans (SubM.mvB 5 rfl) ?_; refine SubM.trans (SubM.mvB 5 rfl) ?_; refine SubM.trans (SubM.mvB 4 rfl) ?_; refine SubM.trans (SubM.mvB 5 rfl) ?_; (simp only [List.eraseIdx]); exact sm_⟩ rfl (by kernel_rfl)
  refine xpcut 4 #[true, true, true, true, true, true, true, false, false, true, true, false, false] (fun σ => ∃ (b8 : Nat), ∃ (b7 : Nat), σ = ⟨[(1, .sl 1 none (List.map eb bv5)), (2, .v (.bool short6)), (3, .v (.pointer (some ⟨b3, 0, none⟩))), (6, .v (.pointer (some ⟨b6, 0, none⟩))), (7, .v (.pointer (some ⟨b7, 0, none⟩))), (8, .v (.pointer (some ⟨b8, 0, none⟩))), (14, .v (.bool o3)), (17, .v (.pointer (some ⟨bx0, 0, none⟩)))], [⟨b8, 3, [.v (.int .i64 0)]⟩, ⟨b7, 4, [.v (.bool false)]⟩, ⟨b6, 25, [.v (.int .i64 0)]⟩, ⟨b3, 24, [.v (.pointer (some ⟨bx0, 0, none⟩))]⟩, ⟨bx0, 35, [.rb ia2 l1.length, .v (.bool o3), .v (.int .i64 o4)]⟩, rbx ia2 5 1 (List.map eb l1)], []⟩) ?_ (fun key41 => ?_)
  · rintro _ ⟨b8, b7, rfl⟩
    refine xpstepN (is := [7, 11]) (by kernel_rfl) (by simp) ?_
    intro i hi; simp only [List.mem_cons, List.not_mem_nil, or_false] at hi; rcases hi with rfl | rfl
    · refine ⟨_, rfl, ?_⟩
      refine wval (qv_loadB 4 ShpC.h rfl rfl rfl rfl) rfl rfl ?_
      refine xpval 8 rfl (pv_lenRb UndC.h rfl) rfl rfl (by kernel_rfl) (by kernel_rfl) (by kernel_rfl) (fun _ _ _ _ h => h) ?_
      exact xpuse key38 ⟨b8, b7, rfl⟩ ⟨(.cons rfl (.refl _) (.cons rfl (.refl _) (.cons rfl (.refl _) (.cons rfl (.refl _) (.cons rfl (.refl _) (.cons rfl (.refl _) (.cons rfl (.refl _) (.cons rfl (.refl _) (.nil _))))))))), by exact (SubM.of (.keep rfl rfl (.refl _) (.keep rfl rfl (.refl _) (.keep rfl rfl (.refl _) (.keep rfl rfl (.refl _) (.keep rfl rfl (.cons (.eq (by first | rfl | simp)) (.cons (.refl _) (.cons (.refl _) .nil))) (.keep rfl rfl (.refl _) (.nil _))))))) (.nil _))⟩ rfl (by kernel_rfl)
    · refine ⟨_, rfl, ?_⟩
      refine wstore 1 ShpC.h rfl rfl rfl rfl rfl rfl rfl ?_
      refine xpvalE 7 [] rfl (qv_loadB 4 ShpC.h rfl rfl rfl rfl) rfl rfl (by kernel_rfl) (by kernel_rfl) (by kernel_rfl) (fun _ _ _ _ h => h) ?_
      refine xpval 8 rfl (pv_lenRb UndC.h rfl) rfl rfl (by kernel_rfl) (by kernel_rfl) (by kernel_rfl) (fun _ _ _ _ h => h) ?_
      exact xpuse key19 ⟨b8, b7, rfl⟩ ⟨(.cons rfl (.refl _) (.cons rfl (.refl _) (.cons rfl (.refl _) (.cons rfl (.refl _) (.cons rfl (.refl _) (.cons rfl (.refl _) (.cons rfl (.refl _) (.nil _)))))))), by exact (SubM.of (.keep rfl rfl (.refl _) (.keep rfl rfl (.refl _) (.keep rfl rfl (.refl _) (.keep rfl rfl (.refl _) (.keep rfl rfl (.cons (.eq (by first | rfl | simp)) (.cons (.refl _) (.cons (.refl _) .nil))) (.keep rfl rfl (.refl _) (.nil _))))))) (.nil _))⟩ rfl (by kernel_rfl)
  refine xpcut 5 #[true, true, true, true, true, true, true, false, false, true, false, false, false] (fun σ => ∃ (b7 : Nat), σ = ⟨[(1, .sl 1 none (List.map eb bv5)), (2, .v (.bool short6)), (3, .v (.pointer (some ⟨b3, 0, none⟩))), (6, .v (.pointer (some ⟨b6, 0, none⟩))), (7, .v (.pointer (some ⟨b7, 0, none⟩))), (14, .v (.bool o3)), (17, .v (.pointer (some ⟨bx0, 0, none⟩)))], [⟨b7, 4, [.v (.bool false)]⟩, ⟨b6, 25, [.v (.int .i64 0)]⟩, ⟨b3, 24, [.v (.pointer (some ⟨bx0, 0, none⟩))]⟩, ⟨bx0, 35, [.rb ia2 l1.length, .v (.bool o3), .v (.int .i64 o4)]⟩, rbx ia2 5 1 (List.map eb l1)], []⟩) ?_ (fun key42 => ?_)
  · rintro _ ⟨b7, rfl⟩
    refine xpstepN (is := [7, 10]) (by kernel_rfl) (by simp) ?_
    intro i hi; simp only [List.mem_cons, List.not_mem_nil, or_false] at hi; rcases hi with rfl | rfl
    · refine ⟨_, rfl, ?_⟩
      refine wval (qv_loadB 3 ShpC.h rfl rfl rfl rfl) rfl rfl ?_
      refine xpval 8 rfl (pv_lenRb UndC.h rfl) rfl rfl (by kernel_rfl) (by kernel_rfl) (by kernel_rfl) (fun _ _ _ _ h => h) ?_
      exact xpuse key39 ⟨b7, rfl⟩ ⟨(.cons rfl (.refl _) (.cons rfl (.refl _) (.cons rfl (.refl _) (.cons rfl (.refl _) (.cons rfl (.refl _) (.cons rfl (.refl _) (.cons rfl (.refl _) (.nil _)))))))), by exact (SubM.of (.keep rfl rfl (.refl _) (.keep rfl rfl (.refl _) (.keep rfl rfl (.refl _) (.keep rfl rfl (.cons (.eq (by first | rfl | simp)) (.cons (.refl _) (.cons (.refl _) .nil))) (.keep rfl rfl (.refl _) (.nil _)))))) (.nil _))⟩ rfl (by kernel_rfl)
    · refine ⟨_, rfl, ?_⟩
      refine walloc InfC.h rfl rfl fun b8 => ?_
      exact xpuse key41 ⟨b8, b7, rfl⟩ ⟨(.cons rfl (.refl _) (.cons rfl (.refl _) (.cons rfl (.refl _) (.cons rfl (.refl _) (.cons rfl (.refl _) (.cons rfl (.refl _) (.cons rfl (.refl _) (.cons rfl (.refl _) (.nil _))))))))), by exact (SubM.of (.keep rfl rfl (.refl _) (.keep rfl rfl (.refl _) (.keep rfl rfl (.refl _) (.keep rfl rfl (.refl _) (.keep rfl rfl (.cons (.eq (by first | rfl | simp)) (.cons (.refl _) (.cons (.refl _) .nil))) (.keep rfl rfl (.refl _) (.nil _))))))) (.nil _))⟩ rfl (by kernel_rfl)
  refine xpcut 5 #[true, true, true, true, true, true, true, false, false, false, true, false, false] (fun σ => ∃ (b8 : Nat), σ = ⟨[(1, .sl 1 none (List.map eb bv5)), (2, .v (.bool short6)), (3, .v (.pointer (some ⟨b3, 0, none⟩))), (6, .v (.pointer (some ⟨b6, 0, none⟩))), (8, .v (.pointer (some ⟨b8, 0, none⟩))), (14, .v (.bool o3)), (17, .v (.pointer (some ⟨bx0, 0, none⟩)))], [⟨b8, 3, [.v (.int .i64 0)]⟩, ⟨b6, 25, [.v (.int .i64 0)]⟩, ⟨b3, 24, [.v (.pointer (some ⟨bx0, 0, none⟩))]⟩, ⟨bx0, 35, [.rb ia2 l1.length, .v (.bool o3), .v (.int .i64 o4)]⟩, rbx ia2 5 1 (List.map eb l1)], []⟩) ?_ (fun key43 => ?_)
  · rintro _ ⟨b8, rfl⟩
    refine xpstepN (is := [7, 9]) (by kernel_rfl) (by simp) ?_
    intro i hi; simp only [List.mem_cons, List.not_mem_nil, or_false] at hi; rcases hi with rfl | rfl
    · refine ⟨_, rfl, ?_⟩
      refine wval (qv_loadB 3 ShpC.h rfl rfl rfl rfl) rfl rfl ?_
      refine xpval 8 rfl (pv_lenRb UndC.h rfl) rfl rfl (by kernel_rfl) (by kernel_rfl) (by kernel_rfl) (fun _ _ _ _ h => h) ?_
      exact xpuse key40 ⟨b8, rfl⟩ ⟨(.cons rfl (.refl _) (.cons rfl (.refl _) (.cons rfl (.refl _) (.cons rfl (.refl _) (.cons rfl (.refl _) (.cons rfl (.refl _) (.cons rfl (.refl _) (.nil _)))))))), by exact (SubM.of (.keep rfl rfl (.refl _) (.keep rfl rfl (.refl _) (.keep rfl rfl (.refl _) (.keep rfl rfl (.cons (.eq (by first | rfl | simp)) (.cons (.refl _) (.cons (.refl _) .nil))) (.keep rfl rfl (.refl _) (.nil _)))))) (.nil _))⟩ rfl (by kernel_rfl)
    · refine ⟨_, rfl, ?_⟩
      refine walloc InfC.h rfl rfl fun b7 => ?_
      exact xpuse key41 ⟨b8, b7, rfl⟩ ⟨(.cons rfl (.refl _) (.cons rfl (.refl _) (.cons rfl (.refl _) (.cons rfl (.refl _) (.cons rfl (.refl _) (.cons rfl (.refl _) (.cons rfl (.refl _) (.cons rfl (.refl _) (.nil _))))))))), by refine SubM.trans (SubM.mvB 5 rfl) ?_; refine SubM.trans (SubM.mvB 5 rfl) ?_; refine SubM.trans (SubM.mvB 5 rfl) ?_; refine SubM.trans (SubM.mvB 5 rfl) ?_; refine SubM.trans (SubM.mvB 4 rfl) ?_; refine SubM.trans (SubM.mvB 5 rfl) ?_; (simp only [List.eraseIdx]); exact sm_⟩ rfl (by kernel_rfl)
  refine xpcut 7 #[true, true, true, true, false, false, false, false, false, true, true, false, false] (fun σ => ∃ (b8 : Nat), ∃ (b7 : Nat), σ = ⟨[(1, .sl 1 none (List.map eb bv5)), (2, .v (.bool short6)), (3, .v (.pointer (some ⟨b3, 0, none⟩))), (6, .v (.pointer (some ⟨b6, 0, none⟩))), (7, .v (.pointer (some ⟨b7, 0, none⟩))), (8, .v (.pointer (some ⟨b8, 0, none⟩))), (14, .v (.bool o3))], [⟨b8, 3, [.v (.int .i64 0)]⟩, ⟨b7, 4, [.v (.bool false)]⟩, ⟨b6, 25, [.v (.int .i64 0)]⟩, ⟨b3, 24, [.v (.pointer (some ⟨bx0, 0, none⟩))]⟩, ⟨bx0, 35, [.rb ia2 l1.length, .v (.bool o3), .v (.int .i64 o4)]⟩, rbx ia2 5 1 (List.map eb l1)], []⟩) ?_ (fun key44 => ?_)
  · rintro _ ⟨b8, b7, rfl⟩
    refine xpstepN (is := [4, 11]) (by kernel_rfl) (by simp) ?_
    intro i hi; simp only [List.mem_cons, List.not_mem_nil, or_false] at hi; rcases hi with rfl | rfl
    · refine ⟨_, rfl, ?_⟩
      refine wval (qv_loadB 3 ShpC.h rfl rfl rfl rfl) rfl rfl ?_
      refine xpval 5 rfl (pv_nilCheck rfl) rfl rfl (by kernel_rfl) (by kernel_rfl) (by kernel_rfl) (fun _ _ _ _ h => h) ?_
      refine xpval 6 rfl (qv_fieldAddrB FldC.h rfl) rfl rfl (by kernel_rfl) (by kernel_rfl) (by kernel_rfl) (fun _ _ _ _ h => h) ?_
      exact xpuse key41 ⟨b8, b7, rfl⟩ ⟨(.cons rfl (.refl _) (.cons rfl (.refl _) (.cons rfl (.refl _) (.cons rfl (.refl _) (.cons rfl (.refl _) (.cons rfl (.refl _) (.cons rfl (.refl _) (.cons rfl (.refl _) (.nil _))))))))), by exact (SubM.of (.keep rfl rfl (.refl _) (.keep rfl rfl (.refl _) (.keep rfl rfl (.refl _) (.keep rfl rfl (.refl _) (.keep rfl rfl (.cons (.eq (by first | rfl | simp)) (.cons (.refl _) (.cons (.refl _) .nil))) (.keep rfl rfl (.refl _) (.nil _))))))) (.nil _))⟩ rfl (by kernel_rfl)
    · refine ⟨_, rfl, ?_⟩
      refine wstore 1 ShpC.h rfl rfl rfl rfl rfl rfl rfl ?_
      refine xpvalE 4 [] rfl (qv_loadB 3 ShpC.h rfl rfl rfl rfl) rfl rfl (by kernel_rfl) (by kernel_rfl) (by kernel_rfl) (fun _ _ _ _ h => h) ?_
      refine xpval 5 rfl (pv_nilCheck rfl) rfl rfl (by kernel_rfl) (by kernel_rfl) (by kernel_rfl) (fun _ _ _ _ h => h) ?_
      refine xpval 6 rfl (qv_fieldAddrB FldC.h rfl) rfl rfl (by kernel_rfl) (by kernel_rfl) (by kernel_rfl) (fun _ _ _ _ h => h) ?_
      refine xpvalE 7 [] rfl (qv_loadB 4 ShpC.h rfl rfl rfl rfl) rfl rfl (by kernel_rfl) (by kernel_rfl) (by kernel_rfl) (fun _ _ _ _ h => h) ?_
      refine xpval 8 rfl (pv_lenRb UndC.h rfl) rfl rfl (by kernel_rfl) (by kernel_rfl) (by kernel_rfl) (fun _ _ _ _ h => h) ?_
      exact xpuse key19 ⟨b8, b7, rfl⟩ ⟨(.cons rfl (.refl _) (.cons rfl (.refl _) (.cons rfl (.refl _) (.cons rfl (.refl _) (.cons rfl (.refl _) (.cons rfl (.refl _) (.cons rfl (.refl _) (.nil _)))))))), by exact (SubM.of (.keep rfl rfl (.refl _) (.keep rfl rfl (.refl _) (.keep rfl rfl (.refl _) (.keep rfl rfl (.refl _) (.keep rfl rfl (.cons (.eq (by first | rfl | simp)) (.cons (.refl _) (.cons (.refl _) .nil))) (.keep rfl rfl (.refl _) (.nil _))))))) (.nil _))⟩ rfl (by kernel_rfl)
  refine xpvalE 0 [4, 5, 6, 7, 8, 9, 10] rfl (qv_loadB 1 ShpC.h rfl rfl rfl rfl) rfl rfl (by kernel_rfl) (by kernel_rfl) (by kernel_rfl) (fun _ _ _ _ h => h) ?_
  refine xpval 1 rfl (pv_nilCheck rfl) rfl rfl (by kernel_rfl) (by kernel_rfl) (by kernel_rfl) (fun _ _ _ _ h => h) ?_
  refine xpval 2 rfl (qv_fieldAddrB FldC.h rfl) rfl rfl (by kernel_rfl) (by kernel_rfl) (by kernel_rfl) (fun _ _ _ _ h => h) ?_
  refine xpvalE 3 [4, 5, 6, 7, 8, 9, 10] rfl (qv_loadB 2 ShpC.h rfl rfl rfl rfl) rfl rfl (by kernel_rfl) (by kernel_rfl) (by kernel_rfl) (fun _ _ _ _ h => h) ?_
  refine xpstepN (is := [4, 9, 10]) (by kernel_rfl) (by simp) ?_
  intro i hi; simp only [List.mem_cons, List.not_mem_nil, or_false] at hi; rcases hi with rfl | rfl | rfl
  · refine ⟨_, rfl, ?_⟩
    refine wval (qv_loadB 1 ShpC.h rfl rfl rfl rfl) rfl rfl ?_
    refine xpval 5 rfl (pv_nilCheck rfl) rfl rfl (by kernel_rfl) (by kernel_rfl) (by kernel_rfl) (fun _ _ _ _ h => h) ?_
    refine xpval 6 rfl (qv_fieldAddrB FldC.h rfl) rfl rfl (by kernel_rfl) (by kernel_rfl) (by kernel_rfl) (fun _ _ _ _ h => h) ?_
    refine xpstepN (is := [7, 9, 10]) (by kernel_rfl) (by simp) ?_
    intro i hi; simp only [List.mem_cons, List.not_mem_nil, or_false] at hi; rcases hi with rfl | rfl | rfl
    · refine ⟨_, rfl, ?_⟩
      refine wval (qv_loadB 2 ShpC.h rfl rfl rfl rfl) rfl rfl ?_
      refine xpval 8 rfl (pv_lenRb UndC.h rfl) rfl rfl (by kernel_rfl) (by kernel_rfl) (by kernel_rfl) (fun _ _ _ _ h => h) ?_
      refine xpstepN (is := [9, 10]) (by kernel_rfl) (by simp) ?_
      intro i hi; simp only [List.mem_cons, List.not_mem_nil, or_false] at hi; rcases hi with rfl | rfl
      · refine ⟨_, rfl, ?_⟩
        refine walloc InfC.h rfl rfl fun b7 => ?_
        exact xpuse key39 ⟨b7, rfl⟩ ⟨(.cons rfl (.refl _) (.cons rfl (.refl _) (.cons rfl (.refl _) (.cons rfl (.refl _) (.cons rfl (.refl _) (.cons rfl (.refl _) (.cons rfl (.refl _) (.nil _)))))))), by exact (SubM.of (.keep rfl rfl (.refl _) (.keep rfl rfl (.refl _) (.keep rfl rfl (.refl _) (.keep rfl rfl (.cons (.eq (by first | rfl | simp)) (.cons (.refl _) (.cons (.refl _) .nil))) (.keep rfl rfl (.refl _) (.nil _)))))) (.nil _))⟩ rfl (by kernel_rfl)
      · refine ⟨_, rfl, ?_⟩
        refine walloc InfC.h rfl rfl fun b8 => ?_
        exact xpuse key40 ⟨b8, rfl⟩ ⟨(.cons rfl (.refl _) (.cons rfl (.refl _) (.cons rfl (.refl _) (.cons rfl (.refl _) (.cons rfl (.refl _) (.cons rfl (.refl _) (.cons rfl (.refl _) (.nil _)))))))), by exact (SubM.of (.keep rfl rfl (.refl _) (.keep rfl rfl (.refl _) (.keep rfl rfl (.refl _) (.keep rfl rfl (.cons (.eq (by first | rfl | simp)) (.cons (.refl _) (.cons (.refl _) .nil))) (.keep rfl rfl (.refl _) (.nil _)))))) (.nil _))⟩ rfl (by kernel_rfl)
    · refine ⟨_, rfl, ?_⟩
      refine walloc InfC.h rfl rfl fun b7 => ?_
      exact xpuse key42 ⟨b7, rfl⟩ ⟨(.cons rfl (.refl _) (.cons rfl (.refl _) (.cons rfl (.refl _) (.cons rfl (.refl _) (.cons rfl (.refl _) (.cons rfl (.refl _) (.cons rfl (.refl _) (.nil _)))))))), by exact (SubM.of (.keep rfl rfl (.refl _) (.keep rfl rfl (.refl _) (.keep rfl rfl (.refl _) (.keep rfl rfl (.cons (.eq (by first | rfl | simp)) (.cons (.refl _) (.cons (.refl _) .nil))) (.keep rfl rfl (.refl _) (.nil _)))))) (.nil _))⟩ rfl (by kernel_rfl)
    · refine ⟨_, rfl, ?_⟩
      refine walloc InfC.h rfl rfl fun b8 => ?_
      exact xpuse key43 ⟨b8, rfl⟩ ⟨(.cons rfl (.refl _) (.cons rfl (.refl _) (.cons rfl (.refl _) (.cons rfl (.refl _) (.cons rfl (.refl _) (.cons rfl (.refl _) (.cons rfl (.refl _) (.nil _)))))))), by exact (SubM.of (.keep rfl rfl (.refl _) (.keep rfl rfl (.refl _) (.keep rfl rfl (.refl _) (.keep rfl rfl (.cons (.eq (by first | rfl | simp)) (.cons (.refl _) (.cons (.refl _) .nil))) (.keep rfl rfl (.refl _) (.nil _)))))) (.nil _))⟩ rfl (by kernel_rfl)
  · refine ⟨_, rfl, ?_⟩
    refine walloc InfC.h rfl rfl fun b7 => ?_
    refine xpstepN (is := [4, 10]) (by kernel_rfl) (by simp) ?_
    intro i hi; simp only [List.mem_cons, List.not_mem_nil, or_false] at hi; rcases hi with rfl | rfl
    · refine ⟨_, rfl, ?_⟩
      refine wval (qv_loadB 2 ShpC.h rfl rfl rfl rfl) rfl rfl ?_
      refine xpval 5 rfl (pv_nilCheck rfl) rfl rfl (by kernel_rfl) (by kernel_rfl) (by kernel_rfl) (fun _ _ _ _ h => h) ?_
      refine xpval 6 rfl (qv_fieldAddrB FldC.h rfl) rfl rfl (by kernel_rfl) (by kernel_rfl) (by kernel_rfl) (fun _ _ _ _ h => h) ?_
      exact xpuse key42 ⟨b7, rfl⟩ ⟨(.cons rfl (.refl _) (.cons rfl (.refl _) (.cons rfl (.refl _) (.cons rfl (.refl _) (.cons rfl (.refl _) (.cons rfl (.refl _) (.cons rfl (.refl _) (.nil _)))))))), by exact (SubM.of (.keep rfl rfl (.refl _) (.keep rfl rfl (.refl _) (.keep rfl rfl (.refl _) (.keep rfl rfl (.cons (.eq (by first | rfl | simp)) (.cons (.refl _) (.cons (.refl _) .nil))) (.keep rfl rfl (.refl _) (.nil _)))))) (.nil _))⟩ rfl (by kernel_rfl)
    · refine ⟨_, rfl, ?_⟩
      refine walloc InfC.h rfl rfl fun b8 => ?_
      exact xpuse key44 ⟨b8, b7, rfl⟩ ⟨(.cons rfl (.refl _) (.cons rfl (.refl _) (.cons rfl (.refl _) (.cons rfl (.refl _) (.cons rfl (.refl _) (.cons rfl (.refl _) (.cons rfl (.refl _) (.nil _)))))))), by exact (SubM.of (.keep rfl rfl (.refl _) (.keep rfl rfl (.refl _) (.keep rfl rfl (.refl _) (.keep rfl rfl (.refl _) (.keep rfl rfl (.cons (.eq (by first | rfl | simp)) (.cons (.refl _) (.cons (.refl _) .nil))) (.keep rfl rfl (.refl _) (.nil _))))))) (.nil _))⟩ rfl (by kernel_rfl)
  · refine ⟨_, rfl, ?_⟩
    refine walloc InfC.h rfl rfl fun b8 => ?_
    refine xpstepN (is := [4, 9]) (by kernel_rfl) (by simp) ?_
    intro i hi; simp only [List.mem_cons, List.not_mem_nil, or_false] at hi; rcases hi with rfl | rfl
    · refine ⟨_, rfl, ?_⟩
      refine wval (qv_loadB 2 ShpC.h rfl rfl rfl rfl) rfl rfl ?_
      refine xpval 5 rfl (pv_nilCheck rfl) rfl rfl (by kernel_rfl) (by kernel_rfl) (by kernel_rfl) (fun _ _ _ _ h => h) ?_
      refine xpval 6 rfl (qv_fieldAddrB FldC.h rfl) rfl rfl (by kernel_rfl) (by kernel_rfl) (by kernel_rfl) (fun _ _ _ _ h => h) ?_
      exact xpuse key43 ⟨b8, rfl⟩ ⟨(.cons rfl (.refl _) (.cons rfl (.refl _) (.cons rfl (.refl _) (.cons rfl (.refl _) (.cons rfl (.refl _) (.cons rfl (.refl _) (.cons rfl (.refl _) (.nil _)))))))), by exact (SubM.of (.keep rfl rfl (.refl _) (.keep rfl rfl (.refl _) (.keep rfl rfl (.refl _) (.keep rfl rfl (.cons (.eq (by first | rfl | simp)) (.cons (.refl _) (.cons (.refl _) .nil))) (.keep rfl rfl (.refl _) (.nil _)))))) (.nil _))⟩ rfl (by kernel_rfl)
    · refine ⟨_, rfl, ?_⟩
      refine walloc InfC.h rfl rfl fun b7 => ?_
      exact xpuse key44 ⟨b8, b7, rfl⟩ ⟨(.cons rfl (.refl _) (.cons rfl (.refl _) (.cons rfl (.refl _) (.cons rfl (.refl _) (.cons rfl (.refl _) (.cons rfl (.refl _) (.cons rfl (.refl _) (.nil _)))))))), by refine SubM.trans (SubM.mvB 5 rfl) ?_; refine SubM.trans (SubM.mvB 5 rfl) ?_; refine SubM.trans (SubM.mvB 5 rfl) ?_; refine SubM.trans (SubM.mvB 5 rfl) ?_; refine SubM.trans (SubM.mvB 4 rfl) ?_; refine SubM.trans (SubM.mvB 5 rfl) ?_; (simp only [List.eraseIdx]); exact sm_⟩ rfl (by kernel_rfl)
/-- slices.Clone [ []byte,byte] -/
def slices_Clone_R (sv1 : List UInt8) (r : (List UInt8)) : Prop :=
  ∀ bv6 : Bool, (sv1 ≠ [] → bv6 = false) → ((bv6 = true → r = ([] : List UInt8)) ∧ (¬ (bv6 = true) → Room ((([] : List UInt8)).length + sv1.length) 1 ∧ r = (([] : List UInt8) ++ sv1)))
def slices_Clone_ev (fuel : Nat) (sv1 : List UInt8) : Option ((List UInt8)) :=
  (bothE (decide (sv1 ≠ [])) fun bv6 => (if bv6 = true then some ([] : List UInt8) else (if Room ((([] : List UInt8)).length + sv1.length) 1 then some (([] : List UInt8) ++ sv1) else none)))
theorem slices_Clone_ok {fuel : Nat} {sv1 : List UInt8} {r : (List UInt8)} (h : slices_Clone_ev fuel sv1 = some r) : slices_Clone_R sv1 r := by
  unfold slices_Clone_ev at h
  unfold slices_Clone_R
  intro q7 g7
  replace h := bothE_ok h q7 (fun e => g7 (of_decide_eq_true e))
  refine ⟨fun g8 => ?_, fun g8 => ?_⟩
  · rw [if_pos g8] at h
    exact (Option.some.inj h).symm
  · rw [if_neg g8] at h
    obtain ⟨g9, h⟩ := if_ok h
    refine ⟨g9, ?_⟩
    exact (Option.some.inj h).symm
set_option maxHeartbeats 4000000 in
theorem slices_Clone_con (sv1 : List UInt8) (r : (List UInt8)) (h : slices_Clone_R sv1 r) : Con Tryd.prog 13 [.sl 1 none (List.map eb sv1)] [] [] (RetM 1 5 eb r) := by
  refine xenter Tryd.func13 rfl rfl fun g hg => ?_
  simp only [Tryd.ntmps13, slots]
  refine xseq ?_
  refine xregion ?_
  refine xvalP (pv_assign rfl) rfl rfl ?_
  refine xnil ?_
  refine xthen ?_
  refine xseq ?_
  refine xseq ?_
  refine xregion ?_
  refine xvalP (pv_move rfl) rfl rfl ?_
  refine xexact 3 rfl fun A5 c5 hA5 => ?_
  refine xvalP (pv_eqNilV UndC.h rfl rfl) rfl rfl ?_
  obtain ⟨bv6, hb5⟩ : ∃ b : Bool, A5.isNone = b := ⟨_, rfl⟩
  replace h := h bv6 (fun q => hb5 ▸ hA5 q)
  refine xsetB 4 (b' := bv6) (by rw [hb5]) rfl ?_
  refine xnil ?_
  refine xthen ?_
  by_cases hp7 : bv6 = true
  · replace h := h.1 hp7
    refine xcondT' hp7 rfl ?_
    refine xseq ?_
    refine xregion ?_
    refine xvalP (pv_assign rfl) rfl rfl ?_
    refine xnil ?_
    refine xthen ?_
    refine xretc ?_
    refine xthen_ret ?_
    replace h := h.symm
    subst h
    exact xret1 hg rfl rfl (.nil_own _) sm_ ⟨none, rfl, rfl, rfl⟩
  · replace h := h.2 hp7
    refine xcondF' (b_f hp7) rfl ?_
    refine xskipc ?_
    refine xthen ?_
    refine xseq ?_
    refine xregion ?_
    refine xbuildSliceM (f := eb) ([] : List UInt8) UndC.h InfC.h rfl rfl wr_ rfl rfl rfl rfl fun s5 => ?_
    refine xvalP (pv_move rfl) rfl rfl ?_
    obtain ⟨h8, h⟩ := h
    refine xappendM (l := ([] : List UInt8)) (l2 := sv1) 0 h8 UndC.h InfC.h rfl rfl rfl (.refl _) rfl rfl rfl fun i9 => ?_
    refine xvalP (pv_assign rfl) rfl rfl ?_
    refine xnil ?_
    refine xthen ?_
    refine xretc ?_
    replace h := h.symm
    subst h
    exact xret1 hg rfl rfl (.refl _) (SubM.of (.nil _) (.keep rfl (.nil _))) ⟨i9, rfl, rfl, rfl⟩
/-- (*sinks.Sink).Line -/
def sinks_Sink_Line_R (o3 : Bool) (o4 : Int) (l1 : List UInt8) (l5 : (List UInt8) × Bool) (r : Int × (List UInt8) × Bool) : Prop :=
  ((¬ (l5.2 = true) → ∃ y12 : Int × (List UInt8) × Bool, sinks_Sink_write_R o3 o4 l1 l5.1 true y12 ∧ r = (y12.1, y12.2.1, y12.2.2)) ∧ (¬ (¬ (l5.2 = true)) → ∃ y15 : (List UInt8), slices_Clone_R l5.1 y15 ∧ Room (y15.length + ([(10 : UInt8)]).length) 1 ∧ ∃ y20 : Int × (List UInt8) × Bool, sinks_Sink_write_R o3 o4 l1 (y15 ++ [(10 : UInt8)]) false y20 ∧ r = (y20.1, y20.2.1, y20.2.2)))
def sinks_Sink_Line_ev (fuel : Nat) (o3 : Bool) (o4 : Int) (l1 : List UInt8) (l5 : (List UInt8) × Bool) : Option (Int × (List UInt8) × Bool) :=
  (if ¬ (l5.2 = true) then ((sinks_Sink_write_ev fuel o3 o4 l1 l5.1 true).bind fun y12 => some (y12.1, y12.2.1, y12.2.2)) else ((slices_Clone_ev fuel l5.1).bind fun y15 => (if Room (y15.length + ([(10 : UInt8)]).length) 1 then ((sinks_Sink_write_ev fuel o3 o4 l1 (y15 ++ [(10 : UInt8)]) false).bind fun y20 => some (y20.1, y20.2.1, y20.2.2)) else none)))
theorem sinks_Sink_Line_ok {fuel : Nat} {o3 : Bool} {o4 : Int} {l1 : List UInt8} {l5 : (List UInt8) × Bool} {r : Int × (List UInt8) × Bool} (h : sinks_Sink_Line_ev fuel o3 o4 l1 l5 = some r) : sinks_Sink_Line_R o3 o4 l1 l5 r := by
  unfold sinks_Sink_Line_ev at h
  unfold sinks_Sink_Line_R
  refine ⟨fun g10 => ?_, fun g10 => ?_⟩
  · rw [if_pos g10] at h
    obtain ⟨q11, g11, h⟩ := bind_ok h
    refine ⟨q11, sinks_Sink_write_ok g11, ?_⟩
    exact (Option.some.inj h).symm
  · rw [if_neg g10] at h
    obtain ⟨q12, g12, h⟩ := bind_ok h
    refine ⟨q12, slices_Clone_ok g12, ?_⟩
    obtain ⟨g13, h⟩ := if_ok h
    refine ⟨g13, ?_⟩
    obtain ⟨q14, g14, h⟩ := bind_ok h
    refine ⟨q14, sinks_Sink_write_ok g14, ?_⟩
    exact (Option.some.inj h).symm
set_option maxHeartbeats 4000000 in
theorem sinks_Sink_Line_con (o3 : Bool) (o4 : Int) (l1 : List UInt8) (l5 : (List UInt8) × Bool) (bx0 : Nat) (ia2 : Option (Nat × Nat)) (r : Int × (List UInt8) × Bool) (h : sinks_Sink_Line_R o3 o4 l1 l5 r) : Con Tryd.prog 5 [.v (.pointer (some ⟨bx0, 0, none⟩)), .agg [.sl 1 none (List.map eb l5.1), .v (.bool l5.2)]] [⟨bx0, 35, [.rb ia2 l1.length, .v (.bool o3), .v (.int .i64 o4)]⟩, rbx ia2 5 1 (List.map eb l1)] [] (fun rr bx tk => ∃ j1, rr = .v (.int .i64 r.1) ∧ bx = [rbx j1 5 1 (List.map eb r.2.1), ⟨bx0, 35, [.rb j1 r.2.1.length, .v (.bool r.2.2), .v (.int .i64 o4)]⟩] ∧ tk = []) := by
  refine xenter Tryd.func5 rfl rfl fun g hg => ?_
  simp only [Tryd.ntmps5, slots]
  refine xseq ?_
  refine xregion ?_
  refine xbox rfl rfl rfl rfl fun b3 => ?_
  refine xvalP (pv_assign rfl) rfl rfl ?_
  refine xnil ?_
  refine xthen ?_
  refine xseq ?_
  refine xseq ?_
  refine xregion ?_
  refine xvalP (qv_fieldAddrB FldC.h rfl) rfl rfl ?_
  refine xval (qv_loadB 0 ShpC.h rfl rfl rfl rfl) rfl rfl ?_
  refine xvalP (pv_not rfl) rfl rfl ?_
  refine xnil ?_
  refine xthen ?_
  by_cases hp10 : ¬ (l5.2 = true)
  · replace h := h.1 hp10
    refine xcondT' (not_t (b_f hp10)) rfl ?_
    refine xseq ?_
    refine xregion ?_
    refine xvalP (pv_move rfl) rfl rfl ?_
    refine xvalP (qv_fieldAddrB FldC.h rfl) rfl rfl ?_
    refine xval (qv_loadB 0 ShpC.h rfl rfl rfl rfl) rfl rfl ?_
    obtain ⟨y12, h11, h⟩ := h
    refine xcallF (Fb := [⟨b3, 28, [.sl 1 none (List.map eb l5.1), .v (.bool l5.2)]⟩]) (Ft := []) (sinks_Sink_write_con o3 o4 l1 l5.1 true bx0 ia2 _ h11) Tryd.func12 (by kernel_rfl) rfl (.cons rfl (.refl _) (.cons rfl (.refl _) (.cons rfl (.refl _) .nil))) (by refine SubM.trans (SubM.mvB 2 rfl) ?_; refine SubM.trans (SubM.mvB 2 rfl) ?_; (simp only [List.eraseIdx]); exact sm_) rfl rfl ?_
    rintro _ _ _ ⟨i13, rfl, rfl, rfl⟩
    simp only [List.nil_append, List.cons_append]
    refine xvalP (pv_assign rfl) rfl rfl ?_
    refine xnil ?_
    refine xthen ?_
    refine xretc ?_
    refine xthen_ret ?_
    replace h := h.symm
    subst h
    exact xret1 (bx' := [rbx i13 5 1 (List.map eb y12.2.1), ⟨bx0, 35, [.rb i13 y12.2.1.length, .v (.bool y12.2.2), .v (.int .i64 o4)]⟩]) (tk' := []) hg rfl rfl (.refl _) (SubM.of (.keep rfl rfl (.refl _) (.keep rfl rfl (.cons (.eq (by first | rfl | simp)) (.cons (.refl _) (.cons (.refl _) .nil))) (.nil _))) (.nil _)) ⟨i13, rfl, rfl, rfl⟩
  · replace h := h.2 hp10
    refine xcondF' (not_f (Decidable.of_not_not hp10)) rfl ?_
    refine xskipc ?_
    refine xthen ?_
    refine xseq ?_
    refine xregion ?_
    refine xvalP (pv_move rfl) rfl rfl ?_
    refine xvalP (qv_fieldAddrB FldC.h rfl) rfl rfl ?_
    refine xval (qv_loadB 0 ShpC.h rfl rfl rfl rfl) rfl rfl ?_
    obtain ⟨y15, h14, h⟩ := h
    refine xcallM (slices_Clone_con l5.1 _ h14) Tryd.func13 (by kernel_rfl) rfl (.cons rfl (.refl _) .nil) rfl rfl fun i16 => ?_
    refine xbuildSliceM (f := eb) [(10 : UInt8)] UndC.h InfC.h rfl rfl wr_ rfl rfl rfl rfl fun s16 => ?_
    obtain ⟨h17, h⟩ := h
    refine xappendM (l := y15) (l2 := [(10 : UInt8)]) 1 h17 UndC.h InfC.h rfl rfl rfl (.refl _) rfl rfl rfl fun i18 => ?_
    obtain ⟨y20, h19, h⟩ := h
    refine xcallF (Fb := [⟨b3, 28, [.sl 1 none (List.map eb l5.1), .v (.bool l5.2)]⟩]) (Ft := [⟨(some (s16, 1)), 5, 1, ([(10 : UInt8)]).length⟩, ⟨i18, 5, 1, ((y15 ++ [(10 : UInt8)])).length⟩]) (sinks_Sink_write_con o3 o4 l1 (y15 ++ [(10 : UInt8)]) false bx0 ia2 _ h19) Tryd.func12 (by kernel_rfl) rfl (.cons rfl (.refl _) (.cons rfl (.tok _ _ _) (.cons rfl (.refl _) .nil))) (by refine SubM.trans (SubM.mvB 2 rfl) ?_; refine SubM.trans (SubM.mvB 2 rfl) ?_; (simp only [List.eraseIdx]); exact sm_) rfl rfl ?_
    rintro _ _ _ ⟨i21, rfl, rfl, rfl⟩
    simp only [List.nil_append, List.cons_append]
    refine xvalP (pv_assign rfl) rfl rfl ?_
    refine xnil ?_
    refine xthen ?_
    refine xretc ?_
    replace h := h.symm
    subst h
    exact xret1 (bx' := [rbx i21 5 1 (List.map eb y20.2.1), ⟨bx0, 35, [.rb i21 y20.2.1.length, .v (.bool y20.2.2), .v (.int .i64 o4)]⟩]) (tk' := []) hg rfl rfl (.refl _) (SubM.of (.keep rfl rfl (.refl _) (.keep rfl rfl (.cons (.eq (by first | rfl | simp)) (.cons (.refl _) (.cons (.refl _) .nil))) (.nil _))) (.nil _)) ⟨i21, rfl, rfl, rfl⟩
/-- palinodelaw19.awake -/
def palinodelaw19_awake_j1 (x16 : Bool) (r : Bool) : Prop :=
  r = x16
def palinodelaw19_awake_R (r : Bool) : Prop :=
  ∃ y3 : Int × (List UInt8) × Bool, sinks_Sink_Line_R false 9 ([] : List UInt8) ([(97 : UInt8)], false) y3 ∧ ∃ y7 : Int × (List UInt8) × Bool, sinks_Sink_Line_R y3.2.2 9 y3.2.1 ([(98 : UInt8)], true) y7 ∧ palinodelaw19_awake_j1 ((decide (y3.1 = 0)) && ((decide (y7.1 = 0)) && ((((⟨y7.2.1.toArray⟩ : ByteArray)).toList == ((⟨#[97, 10, 98, 10]⟩ : ByteArray)).toList) && (!y7.2.2)))) r
def palinodelaw19_awake_j1_ev (fuel : Nat) (x16 : Bool) : Option (Bool) :=
  some x16
theorem palinodelaw19_awake_j1_ok {fuel : Nat} {x16 : Bool} {r : Bool} (h : palinodelaw19_awake_j1_ev fuel x16 = some r) : palinodelaw19_awake_j1 x16 r := by
  unfold palinodelaw19_awake_j1_ev at h
  unfold palinodelaw19_awake_j1
  exact (Option.some.inj h).symm
def palinodelaw19_awake_ev (fuel : Nat) : Option (Bool) :=
  ((sinks_Sink_Line_ev fuel false 9 ([] : List UInt8) ([(97 : UInt8)], false)).bind fun y3 => ((sinks_Sink_Line_ev fuel y3.2.2 9 y3.2.1 ([(98 : UInt8)], true)).bind fun y7 => palinodelaw19_awake_j1_ev fuel ((decide (y3.1 = 0)) && ((decide (y7.1 = 0)) && ((((⟨y7.2.1.toArray⟩ : ByteArray)).toList == ((⟨#[97, 10, 98, 10]⟩ : ByteArray)).toList) && (!y7.2.2))))))
theorem palinodelaw19_awake_ok {fuel : Nat} {r : Bool} (h : palinodelaw19_awake_ev fuel = some r) : palinodelaw19_awake_R r := by
  unfold palinodelaw19_awake_ev at h
  unfold palinodelaw19_awake_R
  obtain ⟨q15, g15, h⟩ := bind_ok h
  refine ⟨q15, sinks_Sink_Line_ok g15, ?_⟩
  obtain ⟨q16, g16, h⟩ := bind_ok h
  refine ⟨q16, sinks_Sink_Line_ok g16, ?_⟩
  exact palinodelaw19_awake_j1_ok h
set_option maxHeartbeats 4000000 in
theorem palinodelaw19_awake_con (r : Bool) (h : palinodelaw19_awake_R r) : Con Tryd.prog 4 [] [] [] (Ret (.v (.bool r))) := by
  refine xenter Tryd.func4 rfl rfl fun g hg => ?_
  simp only [Tryd.ntmps4, slots]
  refine xseq ?_
  refine xregion ?_
  refine xvalP (pv_assign rfl) rfl rfl ?_
  refine xnil ?_
  refine xthen ?_
  refine xseq ?_
  refine xregion ?_
  refine xvalP (pv_buildC StrC.h rfl rfl) rfl rfl ?_
  refine xbox rfl rfl rfl rfl fun b5 => ?_
  refine xaddRb eb 5 1 ?_
  refine xwkB 1 [.rb none (([] : List UInt8).length), .v (.bool false), .v (.int .i64 9)] rfl (.cons Wk.nil_rb (.cons (.refl _) (.cons (.refl _) .nil))) ?_
  refine xvalP (pv_assign rfl) rfl rfl ?_
  refine xnil ?_
  refine xthen ?_
  refine xseq ?_
  refine xregion ?_
  refine xvalP (pv_move rfl) rfl rfl ?_
  refine xbuildSliceM (f := eb) [(97 : UInt8)] UndC.h InfC.h rfl rfl wr_ rfl rfl rfl rfl fun s7 => ?_
  refine xmark 0 UndC.h UndC.h rfl rfl rfl rfl ?_
  refine xvalP (pv_buildC StrC.h rfl rfl) rfl rfl ?_
  obtain ⟨y3, h2, h⟩ := h
  refine xcallF (Fb := []) (Ft := []) (sinks_Sink_Line_con false 9 ([] : List UInt8) ([(97 : UInt8)], false) b5 none _ h2) Tryd.func5 (by kernel_rfl) rfl (.cons rfl (.refl _) (.cons rfl (.refl _) .nil)) (by refine SubM.trans (SubM.mvB 0 rfl) ?_; refine SubM.trans (SubM.mvB 1 rfl) ?_; (simp only [List.eraseIdx]); exact sm_) rfl rfl ?_
  rintro _ _ _ ⟨i4, rfl, rfl, rfl⟩
  simp only [List.nil_append, List.cons_append]
  refine xvalP (pv_assign rfl) rfl rfl ?_
  refine xnil ?_
  refine xthen ?_
  refine xseq ?_
  refine xregion ?_
  refine xvalP (pv_move rfl) rfl rfl ?_
  refine xbuildSliceM (f := eb) [(98 : UInt8)] UndC.h InfC.h rfl rfl wr_ rfl rfl rfl rfl fun s12 => ?_
  refine xmark 0 UndC.h UndC.h rfl rfl rfl rfl ?_
  refine xvalP (pv_buildC StrC.h rfl rfl) rfl rfl ?_
  obtain ⟨y7, h6, h⟩ := h
  refine xcallF (Fb := []) (Ft := []) (sinks_Sink_Line_con y3.2.2 9 y3.2.1 ([(98 : UInt8)], true) b5 i4 _ h6) Tryd.func5 (by kernel_rfl) rfl (.cons rfl (.refl _) (.cons rfl (.refl _) .nil)) (by refine SubM.trans (SubM.mvB 0 rfl) ?_; refine SubM.trans (SubM.mvB 1 rfl) ?_; (simp only [List.eraseIdx]); exact sm_) rfl rfl ?_
  rintro _ _ _ ⟨i8, rfl, rfl, rfl⟩
  simp only [List.nil_append, List.cons_append]
  refine xvalP (pv_assign rfl) rfl rfl ?_
  refine xnil ?_
  refine xthen ?_
  refine xseqM (fun σ => ∃ (x16 : Bool), palinodelaw19_awake_j1 x16 r ∧ σ = ⟨[(0, .v (.bool x16))], [], []⟩) ?_ ?_
  · refine xregion ?_
    refine xvalP (pv_move rfl) rfl rfl ?_
    refine xvalP (pv_bin2 rfl rfl rfl) rfl rfl ?_
    refine xvalP (pv_move rfl) rfl rfl ?_
    by_cases hp18 : y3.1 = 0
    · rw [and_tt (show (decide (y3.1 = 0)) = true from (decide_eq_true hp18))] at h
      refine xsetB 18 (decide_eq_true hp18) rfl ?_
      refine xvalP (pv_move rfl) rfl rfl ?_
      refine xvalP (pv_bin2 rfl rfl rfl) rfl rfl ?_
      refine xvalP (pv_pick rfl rfl) rfl rfl ?_
      refine xvalP (pv_move rfl) rfl rfl ?_
      by_cases hp20 : y7.1 = 0
      · rw [and_tt (show (decide (y7.1 = 0)) = true from (decide_eq_true hp20))] at h
        refine xsetB 22 (decide_eq_true hp20) rfl ?_
        refine xvalP (pv_move rfl) rfl rfl ?_
        refine xvalP (pv_nilCheck rfl) rfl rfl ?_
        refine xvalP (qv_fieldAddrB FldC.h rfl) rfl rfl ?_
        refine xval (qv_loadB 1 ShpC.h rfl rfl rfl rfl) rfl rfl ?_
        refine xval (pv_strSrc (bs := y7.2.1) UndC.h UndC.h UndC.h (SrcOf.rb (f := eb) 0 rfl rfl rfl)) rfl rfl ?_
        refine xvalP (pv_bin2 rfl rfl rfl) rfl rfl ?_
        refine xvalP (pv_pick rfl rfl) rfl rfl ?_
        refine xvalP (pv_move rfl) rfl rfl ?_
        by_cases hp23 : (((⟨y7.2.1.toArray⟩ : ByteArray)).toList == ((⟨#[97, 10, 98, 10]⟩ : ByteArray)).toList) = true
        · rw [and_tt (show (((⟨y7.2.1.toArray⟩ : ByteArray)).toList == ((⟨#[97, 10, 98, 10]⟩ : ByteArray)).toList) = true from hp23)] at h
          refine xsetB 30 hp23 rfl ?_
          refine xvalP (pv_move rfl) rfl rfl ?_
          refine xvalP (pv_nilCheck rfl) rfl rfl ?_
          refine xvalP (qv_fieldAddrB FldC.h rfl) rfl rfl ?_
          refine xval (qv_loadB 1 ShpC.h rfl rfl rfl rfl) rfl rfl ?_
          refine xvalP (pv_not rfl) rfl rfl ?_
          refine xvalP (pv_pick rfl rfl) rfl rfl ?_
          refine xvalP (pv_assign rfl) rfl rfl ?_
          refine xnil ?_
          exact xmeet ⟨(!y7.2.2), h, rfl⟩ ⟨(.cons rfl (.refl _) (.nil _)), (SubM.of (.nil _) (.nil _))⟩
        · rw [and_ff (show (((⟨y7.2.1.toArray⟩ : ByteArray)).toList == ((⟨#[97, 10, 98, 10]⟩ : ByteArray)).toList) = false from (b_f hp23))] at h
          refine xsetB 30 (b_f hp23) rfl ?_
          refine xskip rfl rfl ?_
          refine xskip rfl rfl ?_
          refine xskip rfl rfl ?_
          refine xskip rfl rfl ?_
          refine xskip rfl rfl ?_
          refine xvalP (pv_pick rfl rfl) rfl rfl ?_
          refine xvalP (pv_assign rfl) rfl rfl ?_
          refine xnil ?_
          exact xmeet ⟨false, h, rfl⟩ ⟨(.cons rfl (.refl _) (.nil _)), (SubM.of (.nil _) (.nil _))⟩
      · rw [and_ff (show (decide (y7.1 = 0)) = false from (decide_eq_false hp20))] at h
        refine xsetB 22 (decide_eq_false hp20) rfl ?_
        refine xskip rfl rfl ?_
        refine xskip rfl rfl ?_
        refine xskip rfl rfl ?_
        refine xskip rfl rfl ?_
        refine xskip rfl rfl ?_
        refine xskip rfl rfl ?_
        refine xvalP (pv_pick rfl rfl) rfl rfl ?_
        refine xvalP (pv_move rfl) rfl rfl ?_
        refine xskip rfl rfl ?_
        refine xskip rfl rfl ?_
        refine xskip rfl rfl ?_
        refine xskip rfl rfl ?_
        refine xskip rfl rfl ?_
        refine xvalP (pv_pick rfl rfl) rfl rfl ?_
        refine xvalP (pv_assign rfl) rfl rfl ?_
        refine xnil ?_
        exact xmeet ⟨false, h, rfl⟩ ⟨(.cons rfl (.refl _) (.nil _)), (SubM.of (.nil _) (.nil _))⟩
    · rw [and_ff (show (decide (y3.1 = 0)) = false from (decide_eq_false hp18))] at h
      refine xsetB 18 (decide_eq_false hp18) rfl ?_
      refine xskip rfl rfl ?_
      refine xskip rfl rfl ?_
      refine xvalP (pv_pick rfl rfl) rfl rfl ?_
      refine xvalP (pv_move rfl) rfl rfl ?_
      refine xskip rfl rfl ?_
      refine xskip rfl rfl ?_
      refine xskip rfl rfl ?_
      refine xskip rfl rfl ?_
      refine xskip rfl rfl ?_
      refine xskip rfl rfl ?_
      refine xvalP (pv_pick rfl rfl) rfl rfl ?_
      refine xvalP (pv_move rfl) rfl rfl ?_
      refine xskip rfl rfl ?_
      refine xskip rfl rfl ?_
      refine xskip rfl rfl ?_
      refine xskip rfl rfl ?_
      refine xskip rfl rfl ?_
      refine xvalP (pv_pick rfl rfl) rfl rfl ?_
      refine xvalP (pv_assign rfl) rfl rfl ?_
      refine xnil ?_
      exact xmeet ⟨false, h, rfl⟩ ⟨(.cons rfl (.refl _) (.nil _)), (SubM.of (.nil _) (.nil _))⟩
  · clear h
    rintro _ ⟨x16, h, rfl⟩
    refine xretc ?_
    replace h := h.symm
    subst h
    exact xret1 hg rfl rfl (.refl _) (SubM.of (.nil _) (.nil _)) ⟨rfl, rfl, rfl⟩
/-- (*sinks.Sink).write -/
def sinks_Sink_write_v2_R (bv1 : List UInt8) (short2 : Bool) (r : Int) : Prop :=
  r = 1
def sinks_Sink_write_v2_ev (fuel : Nat) (bv1 : List UInt8) (short2 : Bool) : Option (Int) :=
  some 1
theorem sinks_Sink_write_v2_ok {fuel : Nat} {bv1 : List UInt8} {short2 : Bool} {r : Int} (h : sinks_Sink_write_v2_ev fuel bv1 short2 = some r) : sinks_Sink_write_v2_R bv1 short2 r := by
  unfold sinks_Sink_write_v2_ev at h
  unfold sinks_Sink_write_v2_R
  exact (Option.some.inj h).symm
set_option maxHeartbeats 4000000 in
theorem sinks_Sink_write_v2_con (bv1 : List UInt8) (short2 : Bool) (r : Int) (h : sinks_Sink_write_v2_R bv1 short2 r) : Con Tryd.prog 12 [.v (.pointer none), .sl 1 none (List.map eb bv1), .v (.bool short2)] [] [] (Ret (.v (.int .i64 r))) := by
  refine xenterF Tryd.func12 rfl rfl fun g hg => ?_
  simp only [Tryd.ntmps12, slots]
  refine xseq ?_
  refine xregion ?_
  refine xbox rfl rfl rfl rfl fun b3 => ?_
  refine xalloc InfC.h rfl rfl fun b6 => ?_
  refine xnil ?_
  refine xthen ?_
  refine xseq ?_
  refine xseq ?_
  refine xregion ?_
  refine xval (qv_loadB 1 ShpC.h rfl rfl rfl rfl) rfl rfl ?_
  refine xvalP (pv_eqNilN UndC.h rfl rfl) rfl rfl ?_
  refine xnil ?_
  refine xthen ?_
  refine xcondT rfl ?_
  refine xseq ?_
  refine xregion ?_
  refine xstore 0 ShpC.h rfl rfl rfl rfl rfl rfl rfl ?_
  refine xnil ?_
  refine xthen ?_
  refine xretc ?_
  refine xthen_ret ?_
  refine xretD0 hg ?_
  replace h := h.symm
  subst h
  exact xretL (rs := [.cell 6 25]) (ss := [.v (.int .i64 1)]) hg rfl (by refine RetL.cell 0 ShpC.h rfl rfl rfl (Nat.le_of_ble_eq_true rfl) (.refl _) ?_; exact RetL.nil) (SubM.of (.nil _) (.nil _)) ⟨rfl, rfl, rfl⟩
/-- (*sinks.Sink).Line -/
def sinks_Sink_Line_v2_R (l1 : (List UInt8) × Bool) (r : Int) : Prop :=
  ((¬ (l1.2 = true) → ∃ y7 : Int, sinks_Sink_write_v2_R l1.1 true y7 ∧ r = y7) ∧ (¬ (¬ (l1.2 = true)) → ∃ y9 : (List UInt8), slices_Clone_R l1.1 y9 ∧ Room (y9.length + ([(10 : UInt8)]).length) 1 ∧ ∃ y14 : Int, sinks_Sink_write_v2_R (y9 ++ [(10 : UInt8)]) false y14 ∧ r = y14))
def sinks_Sink_Line_v2_ev (fuel : Nat) (l1 : (List UInt8) × Bool) : Option (Int) :=
  (if ¬ (l1.2 = true) then ((sinks_Sink_write_v2_ev fuel l1.1 true).bind fun y7 => some y7) else ((slices_Clone_ev fuel l1.1).bind fun y9 => (if Room (y9.length + ([(10 : UInt8)]).length) 1 then ((sinks_Sink_write_v2_ev fuel (y9 ++ [(10 : UInt8)]) false).bind fun y14 => some y14) else none)))
theorem sinks_Sink_Line_v2_ok {fuel : Nat} {l1 : (List UInt8) × Bool} {r : Int} (h : sinks_Sink_Line_v2_ev fuel l1 = some r) : sinks_Sink_Line_v2_R l1 r := by
  unfold sinks_Sink_Line_v2_ev at h
  unfold sinks_Sink_Line_v2_R
  refine ⟨fun g17 => ?_, fun g17 => ?_⟩
  · rw [if_pos g17] at h
    obtain ⟨q18, g18, h⟩ := bind_ok h
    refine ⟨q18, sinks_Sink_write_v2_ok g18, ?_⟩
    exact (Option.some.inj h).symm
  · rw [if_neg g17] at h
    obtain ⟨q19, g19, h⟩ := bind_ok h
    refine ⟨q19, slices_Clone_ok g19, ?_⟩
    obtain ⟨g20, h⟩ := if_ok h
    refine ⟨g20, ?_⟩
    obtain ⟨q21, g21, h⟩ := bind_ok h
    refine ⟨q21, sinks_Sink_write_v2_ok g21, ?_⟩
    exact (Option.some.inj h).symm
set_option maxHeartbeats 4000000 in
theorem sinks_Sink_Line_v2_con (l1 : (List UInt8) × Bool) (r : Int) (h : sinks_Sink_Line_v2_R l1 r) : Con Tryd.prog 5 [.v (.pointer none), .agg [.sl 1 none (List.map eb l1.1), .v (.bool l1.2)]] [] [] (Ret (.v (.int .i64 r))) := by
  refine xenter Tryd.func5 rfl rfl fun g hg => ?_
  simp only [Tryd.ntmps5, slots]
  refine xseq ?_
  refine xregion ?_
  refine xbox rfl rfl rfl rfl fun b3 => ?_
  refine xvalP (pv_assign rfl) rfl rfl ?_
  refine xnil ?_
  refine xthen ?_
  refine xseq ?_
  refine xseq ?_
  refine xregion ?_
  refine xvalP (qv_fieldAddrB FldC.h rfl) rfl rfl ?_
  refine xval (qv_loadB 0 ShpC.h rfl rfl rfl rfl) rfl rfl ?_
  refine xvalP (pv_not rfl) rfl rfl ?_
  refine xnil ?_
  refine xthen ?_
  by_cases hp5 : ¬ (l1.2 = true)
  · replace h := h.1 hp5
    refine xcondT' (not_t (b_f hp5)) rfl ?_
    refine xseq ?_
    refine xregion ?_
    refine xvalP (pv_move rfl) rfl rfl ?_
    refine xvalP (qv_fieldAddrB FldC.h rfl) rfl rfl ?_
    refine xval (qv_loadB 0 ShpC.h rfl rfl rfl rfl) rfl rfl ?_
    obtain ⟨y7, h6, h⟩ := h
    refine xcall0 (sinks_Sink_write_v2_con l1.1 true _ h6) Tryd.func12 (by kernel_rfl) rfl (.cons rfl (.refl _) (.cons rfl (.refl _) (.cons rfl (.refl _) .nil))) rfl rfl ?_
    refine xvalP (pv_assign rfl) rfl rfl ?_
    refine xnil ?_
    refine xthen ?_
    refine xretc ?_
    refine xthen_ret ?_
    replace h := h.symm
    subst h
    exact xret1 hg rfl rfl (.refl _) (SubM.of (.nil _) (.nil _)) ⟨rfl, rfl, rfl⟩
  · replace h := h.2 hp5
    refine xcondF' (not_f (Decidable.of_not_not hp5)) rfl ?_
    refine xskipc ?_
    refine xthen ?_
    refine xseq ?_
    refine xregion ?_
    refine xvalP (pv_move rfl) rfl rfl ?_
    refine xvalP (qv_fieldAddrB FldC.h rfl) rfl rfl ?_
    refine xval (qv_loadB 0 ShpC.h rfl rfl rfl rfl) rfl rfl ?_
    obtain ⟨y9, h8, h⟩ := h
    refine xcallM (slices_Clone_con l1.1 _ h8) Tryd.func13 (by kernel_rfl) rfl (.cons rfl (.refl _) .nil) rfl rfl fun i10 => ?_
    refine xbuildSliceM (f := eb) [(10 : UInt8)] UndC.h InfC.h rfl rfl wr_ rfl rfl rfl rfl fun s16 => ?_
    obtain ⟨h11, h⟩ := h
    refine xappendM (l := y9) (l2 := [(10 : UInt8)]) 1 h11 UndC.h InfC.h rfl rfl rfl (.refl _) rfl rfl rfl fun i12 => ?_
    obtain ⟨y14, h13, h⟩ := h
    refine xcall0 (sinks_Sink_write_v2_con (y9 ++ [(10 : UInt8)]) false _ h13) Tryd.func12 (by kernel_rfl) rfl (.cons rfl (.refl _) (.cons rfl (.tok _ _ _) (.cons rfl (.refl _) .nil))) rfl rfl ?_
    refine xvalP (pv_assign rfl) rfl rfl ?_
    refine xnil ?_
    refine xthen ?_
    refine xretc ?_
    replace h := h.symm
    subst h
    exact xret1 hg rfl rfl (.refl _) (SubM.of (.nil _) (.nil _)) ⟨rfl, rfl, rfl⟩
/-- (*sinks.Sink).Lines -/
def sinks_Sink_Lines_R (l1 : List ((List UInt8) × Bool)) (r : Int) : Prop :=
  r = 1
def sinks_Sink_Lines_ev (fuel : Nat) (l1 : List ((List UInt8) × Bool)) : Option (Int) :=
  some 1
theorem sinks_Sink_Lines_ok {fuel : Nat} {l1 : List ((List UInt8) × Bool)} {r : Int} (h : sinks_Sink_Lines_ev fuel l1 = some r) : sinks_Sink_Lines_R l1 r := by
  unfold sinks_Sink_Lines_ev at h
  unfold sinks_Sink_Lines_R
  exact (Option.some.inj h).symm
set_option maxHeartbeats 4000000 in
theorem sinks_Sink_Lines_con (l1 : List ((List UInt8) × Bool)) (r : Int) (h : sinks_Sink_Lines_R l1 r) : Con Tryd.prog 6 [.v (.pointer none), .sl 2 none (List.map E_palinode_api_Line l1)] [] [] (Ret (.v (.int .i64 r))) := by
  refine xenter Tryd.func6 rfl rfl fun g hg => ?_
  simp only [Tryd.ntmps6, slots]
  refine xseq ?_
  refine xregion ?_
  refine xvalP (pv_assign rfl) rfl rfl ?_
  refine xnil ?_
  refine xthen ?_
  refine xseq ?_
  refine xseq ?_
  refine xregion ?_
  refine xvalP (pv_move rfl) rfl rfl ?_
  refine xvalP (pv_eqNilN UndC.h rfl rfl) rfl rfl ?_
  refine xnil ?_
  refine xthen ?_
  refine xcondT rfl ?_
  refine xseq ?_
  refine xregion ?_
  refine xvalP (pv_assign rfl) rfl rfl ?_
  refine xnil ?_
  refine xthen ?_
  refine xretc ?_
  refine xthen_ret ?_
  replace h := h.symm
  subst h
  exact xret1 hg rfl rfl (.refl _) (SubM.of (.nil _) (.nil _)) ⟨rfl, rfl, rfl⟩
/-- (*sinks.Sink).Text -/
def sinks_Sink_Text_R (bv1 : List UInt8) (r : Int) : Prop :=
  ((0 < (bv1.length : Int) → InR ((bv1.length : Int) - 1) ∧ 0 ≤ (((bv1.length : Int) - 1) : Int) ∧ ∃ y23 : UInt8, bv1[(((bv1.length : Int) - 1) : Int).toNat]? = some y23 ∧ ∃ y27 : Int, sinks_Sink_write_v2_R bv1 (!(decide ((y23.toNat : Int) = 10))) y27 ∧ r = y27) ∧ (¬ (0 < (bv1.length : Int)) → ∃ y29 : Int, sinks_Sink_write_v2_R bv1 false y29 ∧ r = y29))
def sinks_Sink_Text_ev (fuel : Nat) (bv1 : List UInt8) : Option (Int) :=
  (if 0 < (bv1.length : Int) then (if InR ((bv1.length : Int) - 1) then (if 0 ≤ (((bv1.length : Int) - 1) : Int) then ((bv1[(((bv1.length : Int) - 1) : Int).toNat]?).bind fun y23 => ((sinks_Sink_write_v2_ev fuel bv1 (!(decide ((y23.toNat : Int) = 10)))).bind fun y27 => some y27)) else none) else none) else ((sinks_Sink_write_v2_ev fuel bv1 false).bind fun y29 => some y29))
theorem sinks_Sink_Text_ok {fuel : Nat} {bv1 : List UInt8} {r : Int} (h : sinks_Sink_Text_ev fuel bv1 = some r) : sinks_Sink_Text_R bv1 r := by
  unfold sinks_Sink_Text_ev at h
  unfold sinks_Sink_Text_R
  refine ⟨fun g22 => ?_, fun g22 => ?_⟩
  · rw [if_pos g22] at h
    obtain ⟨g23, h⟩ := if_ok h
    refine ⟨g23, ?_⟩
    obtain ⟨g24, h⟩ := if_ok h
    refine ⟨g24, ?_⟩
    obtain ⟨q25, g25, h⟩ := bind_ok h
    refine ⟨q25, g25, ?_⟩
    obtain ⟨q26, g26, h⟩ := bind_ok h
    refine ⟨q26, sinks_Sink_write_v2_ok g26, ?_⟩
    exact (Option.some.inj h).symm
  · rw [if_neg g22] at h
    obtain ⟨q27, g27, h⟩ := bind_ok h
    refine ⟨q27, sinks_Sink_write_v2_ok g27, ?_⟩
    exact (Option.some.inj h).symm
set_option maxHeartbeats 4000000 in
theorem sinks_Sink_Text_con (bv1 : List UInt8) (r : Int) (h : sinks_Sink_Text_R bv1 r) : Con Tryd.prog 7 [.v (.pointer none), .sl 1 none (List.map eb bv1)] [] [] (Ret (.v (.int .i64 r))) := by
  refine xenter Tryd.func7 rfl rfl fun g hg => ?_
  simp only [Tryd.ntmps7, slots]
  refine xseq ?_
  refine xregion ?_
  refine xvalP (pv_assign rfl) rfl rfl ?_
  refine xnil ?_
  refine xthen ?_
  refine xseq ?_
  refine xseq ?_
  refine xregion ?_
  refine xvalP (pv_move rfl) rfl rfl ?_
  refine xvalP (pv_neNilN UndC.h rfl rfl) rfl rfl ?_
  refine xvalP (pv_move rfl) rfl rfl ?_
  refine xskip rfl rfl ?_
  refine xskip rfl rfl ?_
  refine xskip rfl rfl ?_
  refine xvalP (pv_pick rfl rfl) rfl rfl ?_
  refine xnil ?_
  refine xthen ?_
  refine xcondF rfl ?_
  refine xskipc ?_
  refine xthen ?_
  refine xseq ?_
  refine xregion ?_
  refine xvalP (pv_move rfl) rfl rfl ?_
  refine xvalP (pv_move rfl) rfl rfl ?_
  refine xvalP (pv_move rfl) rfl rfl ?_
  refine xvalP (pv_lenM UndC.h rfl) rfl rfl ?_
  refine xvalP (pv_bin2 rfl rfl rfl) rfl rfl ?_
  refine xvalP (pv_move rfl) rfl rfl ?_
  by_cases hp20 : 0 < (bv1.length : Int)
  · replace h := h.1 hp20
    refine xsetB 17 (decide_eq_true hp20) rfl ?_
    refine xvalP (pv_move rfl) rfl rfl ?_
    refine xvalP (pv_move rfl) rfl rfl ?_
    refine xvalP (pv_lenM UndC.h rfl) rfl rfl ?_
    obtain ⟨h22, h⟩ := h
    refine xvalP (pv_subI h22 rfl rfl) rfl rfl ?_
    obtain ⟨h24a, h⟩ := h
    obtain ⟨y23, h24b, h⟩ := h
    refine xvalP (pv_indexAddrM h24a h24b UndC.h ShpC.h rfl rfl) rfl rfl ?_
    refine xval (qv_load ShpC.h rfl rfl rfl) rfl rfl ?_
    refine xvalP (pv_bin2 rfl rfl rfl) rfl rfl ?_
    refine xvalP (pv_pick rfl rfl) rfl rfl ?_
    obtain ⟨y27, h26, h⟩ := h
    refine xcall0 (sinks_Sink_write_v2_con bv1 (!(decide ((y23.toNat : Int) = 10))) _ h26) Tryd.func12 (by kernel_rfl) rfl (.cons rfl (.refl _) (.cons rfl (.refl _) (.cons rfl (.refl _) .nil))) rfl rfl ?_
    refine xvalP (pv_assign rfl) rfl rfl ?_
    refine xnil ?_
    refine xthen ?_
    refine xretc ?_
    replace h := h.symm
    subst h
    exact xret1 hg rfl rfl (.refl _) (SubM.of (.nil _) (.nil _)) ⟨rfl, rfl, rfl⟩
  · replace h := h.2 hp20
    refine xsetB 17 (decide_eq_false hp20) rfl ?_
    refine xskip rfl rfl ?_
    refine xskip rfl rfl ?_
    refine xskip rfl rfl ?_
    refine xskip rfl rfl ?_
    refine xskip rfl rfl ?_
    refine xskip rfl rfl ?_
    refine xskip rfl rfl ?_
    refine xvalP (pv_pick rfl rfl) rfl rfl ?_
    obtain ⟨y29, h28, h⟩ := h
    refine xcall0 (sinks_Sink_write_v2_con bv1 false _ h28) Tryd.func12 (by kernel_rfl) rfl (.cons rfl (.refl _) (.cons rfl (.refl _) (.cons rfl (.refl _) .nil))) rfl rfl ?_
    refine xvalP (pv_assign rfl) rfl rfl ?_
    refine xnil ?_
    refine xthen ?_
    refine xretc ?_
    replace h := h.symm
    subst h
    exact xret1 hg rfl rfl (.refl _) (SubM.of (.nil _) (.nil _)) ⟨rfl, rfl, rfl⟩
/-- digit.Text -/
def digit_Text_R (nv1 : Int) (r : ByteArray) : Prop :=
  ∃ y3 : ByteArray, strconv_Itoa_R nv1 y3 ∧ r = y3
def digit_Text_ev (fuel : Nat) (nv1 : Int) : Option (ByteArray) :=
  ((strconv_Itoa_ev fuel nv1).bind fun y3 => some y3)
theorem digit_Text_ok {fuel : Nat} {nv1 : Int} {r : ByteArray} (h : digit_Text_ev fuel nv1 = some r) : digit_Text_R nv1 r := by
  unfold digit_Text_ev at h
  unfold digit_Text_R
  obtain ⟨q28, g28, h⟩ := bind_ok h
  refine ⟨q28, strconv_Itoa_ok g28, ?_⟩
  exact (Option.some.inj h).symm
set_option maxHeartbeats 4000000 in
theorem digit_Text_con (nv1 : Int) (r : ByteArray) (h : digit_Text_R nv1 r) : Con Tryd.prog 14 [.v (.int .i64 nv1)] [] [] (Ret (.v (.string r))) := by
  refine xenter Tryd.func14 rfl rfl fun g hg => ?_
  simp only [Tryd.ntmps14, slots]
  refine xseq ?_
  refine xregion ?_
  refine xvalP (pv_assign rfl) rfl rfl ?_
  refine xnil ?_
  refine xthen ?_
  refine xseq ?_
  refine xregion ?_
  refine xvalP (pv_move rfl) rfl rfl ?_
  obtain ⟨y3, h2, h⟩ := h
  refine xcall0 (strconv_Itoa_con nv1 _ h2) Tryd.func16 (by kernel_rfl) rfl (.cons rfl (.refl _) .nil) rfl rfl ?_
  refine xvalP (pv_assign rfl) rfl rfl ?_
  refine xnil ?_
  refine xthen ?_
  refine xretc ?_
  replace h := h.symm
  subst h
  exact xret1 hg rfl rfl (.refl _) (SubM.of (.nil _) (.nil _)) ⟨rfl, rfl, rfl⟩
/-- (*sinks.Sink).Number -/
def sinks_Sink_Number_R (nv1 : Int) (r : Int) : Prop :=
  ∃ y3 : ByteArray, digit_Text_R nv1 y3 ∧ y3.size ≤ maxLen ∧ ∃ y6 : Int, sinks_Sink_Line_v2_R (y3.data.toList, true) y6 ∧ r = y6
def sinks_Sink_Number_ev (fuel : Nat) (nv1 : Int) : Option (Int) :=
  ((digit_Text_ev fuel nv1).bind fun y3 => (if y3.size ≤ maxLen then ((sinks_Sink_Line_v2_ev fuel (y3.data.toList, true)).bind fun y6 => some y6) else none))
theorem sinks_Sink_Number_ok {fuel : Nat} {nv1 : Int} {r : Int} (h : sinks_Sink_Number_ev fuel nv1 = some r) : sinks_Sink_Number_R nv1 r := by
  unfold sinks_Sink_Number_ev at h
  unfold sinks_Sink_Number_R
  obtain ⟨q29, g29, h⟩ := bind_ok h
  refine ⟨q29, digit_Text_ok g29, ?_⟩
  obtain ⟨g30, h⟩ := if_ok h
  refine ⟨g30, ?_⟩
  obtain ⟨q31, g31, h⟩ := bind_ok h
  refine ⟨q31, sinks_Sink_Line_v2_ok g31, ?_⟩
  exact (Option.some.inj h).symm
set_option maxHeartbeats 4000000 in
theorem sinks_Sink_Number_con (nv1 : Int) (r : Int) (h : sinks_Sink_Number_R nv1 r) : Con Tryd.prog 8 [.v (.pointer none), .v (.int .i64 nv1)] [] [] (Ret (.v (.int .i64 r))) := by
  refine xenter Tryd.func8 rfl rfl fun g hg => ?_
  simp only [Tryd.ntmps8, slots]
  refine xseq ?_
  refine xregion ?_
  refine xvalP (pv_assign rfl) rfl rfl ?_
  refine xnil ?_
  refine xthen ?_
  refine xseq ?_
  refine xregion ?_
  refine xvalP (pv_move rfl) rfl rfl ?_
  refine xvalP (pv_move rfl) rfl rfl ?_
  obtain ⟨y3, h2, h⟩ := h
  refine xcall0 (digit_Text_con nv1 _ h2) Tryd.func14 (by kernel_rfl) rfl (.cons rfl (.refl _) .nil) rfl rfl ?_
  obtain ⟨h4, h⟩ := h
  refine xconvSB h4 UndC.h UndC.h UndC.h rfl rfl rfl ?_
  refine xvalP (pv_buildC StrC.h rfl rfl) rfl rfl ?_
  obtain ⟨y6, h5, h⟩ := h
  refine xcall0 (sinks_Sink_Line_v2_con (y3.data.toList, true) _ h5) Tryd.func5 (by kernel_rfl) rfl (.cons rfl (.refl _) (.cons rfl (.refl _) .nil)) rfl rfl ?_
  refine xvalP (pv_assign rfl) rfl rfl ?_
  refine xnil ?_
  refine xthen ?_
  refine xretc ?_
  replace h := h.symm
  subst h
  exact xret1 hg rfl rfl (.refl _) (SubM.of (.nil _) (.nil _)) ⟨rfl, rfl, rfl⟩
/-- (*sinks.Sink).Copy -/
def sinks_Sink_Copy_R (r : Unit) : Prop :=
  r = ()
def sinks_Sink_Copy_ev (fuel : Nat) : Option (Unit) :=
  some ()
theorem sinks_Sink_Copy_ok {fuel : Nat} {r : Unit} (h : sinks_Sink_Copy_ev fuel = some r) : sinks_Sink_Copy_R r := by
  unfold sinks_Sink_Copy_ev at h
  unfold sinks_Sink_Copy_R
  exact (Option.some.inj h).symm
set_option maxHeartbeats 4000000 in
theorem sinks_Sink_Copy_con (r : Unit) (h : sinks_Sink_Copy_R r) : Con Tryd.prog 9 [.v (.pointer none)] [] [] (fun rr bx tk => rr = .v (.pointer none) ∧ bx = [] ∧ tk = []) := by
  refine xenter Tryd.func9 rfl rfl fun g hg => ?_
  simp only [Tryd.ntmps9, slots]
  refine xseq ?_
  refine xregion ?_
  refine xvalP (pv_assign rfl) rfl rfl ?_
  refine xnil ?_
  refine xthen ?_
  refine xseq ?_
  refine xseq ?_
  refine xregion ?_
  refine xvalP (pv_move rfl) rfl rfl ?_
  refine xvalP (pv_eqNilN UndC.h rfl rfl) rfl rfl ?_
  refine xnil ?_
  refine xthen ?_
  refine xcondT rfl ?_
  refine xseq ?_
  refine xregion ?_
  refine xvalP (pv_assign rfl) rfl rfl ?_
  refine xnil ?_
  refine xthen ?_
  refine xretc ?_
  refine xthen_ret ?_
  replace h := h.symm
  subst h
  exact xret1 hg rfl rfl (.refl _) (SubM.of (.nil _) (.nil _)) ⟨rfl, rfl, rfl⟩
/-- palinoderef01.Copy -/
def palinoderef01_Copy_R (bv1 : List UInt8) (r : (List UInt8)) : Prop :=
  Room ((([] : List UInt8)).length + bv1.length) 1 ∧ r = (([] : List UInt8) ++ bv1)
def palinoderef01_Copy_ev (fuel : Nat) (bv1 : List UInt8) : Option ((List UInt8)) :=
  (if Room ((([] : List UInt8)).length + bv1.length) 1 then some (([] : List UInt8) ++ bv1) else none)
theorem palinoderef01_Copy_ok {fuel : Nat} {bv1 : List UInt8} {r : (List UInt8)} (h : palinoderef01_Copy_ev fuel bv1 = some r) : palinoderef01_Copy_R bv1 r := by
  unfold palinoderef01_Copy_ev at h
  unfold palinoderef01_Copy_R
  obtain ⟨g32, h⟩ := if_ok h
  refine ⟨g32, ?_⟩
  exact (Option.some.inj h).symm
set_option maxHeartbeats 4000000 in
theorem palinoderef01_Copy_con (bv1 : List UInt8) (r : (List UInt8)) (h : palinoderef01_Copy_R bv1 r) : Con Tryd.prog 10 [.sl 1 none (List.map eb bv1)] [] [] (RetM 1 5 eb r) := by
  refine xenter Tryd.func10 rfl rfl fun g hg => ?_
  simp only [Tryd.ntmps10, slots]
  refine xseq ?_
  refine xregion ?_
  refine xvalP (pv_assign rfl) rfl rfl ?_
  refine xnil ?_
  refine xthen ?_
  refine xseq ?_
  refine xregion ?_
  refine xbuildSliceM (f := eb) ([] : List UInt8) UndC.h InfC.h rfl rfl wr_ rfl rfl rfl rfl fun s3 => ?_
  refine xvalP (pv_move rfl) rfl rfl ?_
  obtain ⟨h2, h⟩ := h
  refine xappendM (l := ([] : List UInt8)) (l2 := bv1) 0 h2 UndC.h InfC.h rfl rfl rfl (.refl _) rfl rfl rfl fun i3 => ?_
  refine xvalP (pv_assign rfl) rfl rfl ?_
  refine xnil ?_
  refine xthen ?_
  refine xretc ?_
  replace h := h.symm
  subst h
  exact xret1 hg rfl rfl (.refl _) (SubM.of (.nil _) (.keep rfl (.nil _))) ⟨i3, rfl, rfl, rfl⟩
/-- (*sinks.Sink).Text -/
def sinks_Sink_Text_v2_R (o3 : Bool) (o4 : Int) (l1 : List UInt8) (bv5 : List UInt8) (r : Int × (List UInt8) × Bool) : Prop :=
  (((bv5.length : Int) = 0 → r = (0, l1, o3)) ∧ (¬ ((bv5.length : Int) = 0) → ((0 < (bv5.length : Int) → InR ((bv5.length : Int) - 1) ∧ 0 ≤ (((bv5.length : Int) - 1) : Int) ∧ ∃ y39 : UInt8, bv5[(((bv5.length : Int) - 1) : Int).toNat]? = some y39 ∧ ∃ y43 : Int × (List UInt8) × Bool, sinks_Sink_write_R o3 o4 l1 bv5 (!(decide ((y39.toNat : Int) = 10))) y43 ∧ r = (y43.1, y43.2.1, y43.2.2)) ∧ (¬ (0 < (bv5.length : Int)) → ∃ y46 : Int × (List UInt8) × Bool, sinks_Sink_write_R o3 o4 l1 bv5 false y46 ∧ r = (y46.1, y46.2.1, y46.2.2)))))
def sinks_Sink_Text_v2_ev (fuel : Nat) (o3 : Bool) (o4 : Int) (l1 : List UInt8) (bv5 : List UInt8) : Option (Int × (List UInt8) × Bool) :=
  (if (bv5.length : Int) = 0 then some (0, l1, o3) else (if 0 < (bv5.length : Int) then (if InR ((bv5.length : Int) - 1) then (if 0 ≤ (((bv5.length : Int) - 1) : Int) then ((bv5[(((bv5.length : Int) - 1) : Int).toNat]?).bind fun y39 => ((sinks_Sink_write_ev fuel o3 o4 l1 bv5 (!(decide ((y39.toNat : Int) = 10)))).bind fun y43 => some (y43.1, y43.2.1, y43.2.2))) else none) else none) else ((sinks_Sink_write_ev fuel o3 o4 l1 bv5 false).bind fun y46 => some (y46.1, y46.2.1, y46.2.2))))
theorem sinks_Sink_Text_v2_ok {fuel : Nat} {o3 : Bool} {o4 : Int} {l1 : List UInt8} {bv5 : List UInt8} {r : Int × (List UInt8) × Bool} (h : sinks_Sink_Text_v2_ev fuel o3 o4 l1 bv5 = some r) : sinks_Sink_Text_v2_R o3 o4 l1 bv5 r := by
  unfold sinks_Sink_Text_v2_ev at h
  unfold sinks_Sink_Text_v2_R
  refine ⟨fun g33 => ?_, fun g33 => ?_⟩
  · rw [if_pos g33] at h
    exact (Option.some.inj h).symm
  · rw [if_neg g33] at h
    refine ⟨fun g34 => ?_, fun g34 => ?_⟩
    · rw [if_pos g34] at h
      obtain ⟨g35, h⟩ := if_ok h
      refine ⟨g35, ?_⟩
      obtain ⟨g36, h⟩ := if_ok h
      refine ⟨g36, ?_⟩
      obtain ⟨q37, g37, h⟩ := bind_ok h
      refine ⟨q37, g37, ?_⟩
      obtain ⟨q38, g38, h⟩ := bind_ok h
      refine ⟨q38, sinks_Sink_write_ok g38, ?_⟩
      exact (Option.some.inj h).symm
    · rw [if_neg g34] at h
      obtain ⟨q39, g39, h⟩ := bind_ok h
      refine ⟨q39, sinks_Sink_write_ok g39, ?_⟩
      exact (Option.some.inj h).symm
set_option maxHeartbeats 4000000 in
theorem sinks_Sink_Text_v2_con (o3 : Bool) (o4 : Int) (l1 : List UInt8) (bv5 : List UInt8) (bx0 : Nat) (ia2 : Option (Nat × Nat)) (r : Int × (List UInt8) × Bool) (h : sinks_Sink_Text_v2_R o3 o4 l1 bv5 r) : Con Tryd.prog 7 [.v (.pointer (some ⟨bx0, 0, none⟩)), .sl 1 none (List.map eb bv5)] [⟨bx0, 35, [.rb ia2 l1.length, .v (.bool o3), .v (.int .i64 o4)]⟩, rbx ia2 5 1 (List.map eb l1)] [] (fun rr bx tk => ∃ j1, rr = .v (.int .i64 r.1) ∧ bx = [rbx j1 5 1 (List.map eb r.2.1), ⟨bx0, 35, [.rb j1 r.2.1.length, .v (.bool r.2.2), .v (.int .i64 o4)]⟩] ∧ tk = []) := by
  refine xenter Tryd.func7 rfl rfl fun g hg => ?_
  simp only [Tryd.ntmps7, slots]
  refine xseq ?_
  refine xregion ?_
  refine xvalP (pv_assign rfl) rfl rfl ?_
  refine xnil ?_
  refine xthen ?_
  refine xseq ?_
  refine xseq ?_
  refine xregion ?_
  refine xvalP (pv_move rfl) rfl rfl ?_
  refine xvalP (pv_neNil UndC.h rfl rfl) rfl rfl ?_
  refine xvalP (pv_move rfl) rfl rfl ?_
  refine xvalP (pv_move rfl) rfl rfl ?_
  refine xvalP (pv_lenM UndC.h rfl) rfl rfl ?_
  refine xvalP (pv_bin2 rfl rfl rfl) rfl rfl ?_
  refine xvalP (pv_pick rfl rfl) rfl rfl ?_
  refine xnil ?_
  refine xthen ?_
  by_cases hp19 : (bv5.length : Int) = 0
  · replace h := h.1 hp19
    refine xcondT' (decide_eq_true hp19) rfl ?_
    refine xseq ?_
    refine xregion ?_
    refine xvalP (pv_assign rfl) rfl rfl ?_
    refine xnil ?_
    refine xthen ?_
    refine xretc ?_
    refine xthen_ret ?_
    replace h := h.symm
    subst h
    exact xret1 (bx' := [rbx ia2 5 1 (List.map eb l1), ⟨bx0, 35, [.rb ia2 l1.length, .v (.bool o3), .v (.int .i64 o4)]⟩]) (tk' := []) hg rfl rfl (.refl _) (by refine SubM.trans (SubM.mvB 0 rfl) ?_; refine SubM.trans (SubM.mvB 1 rfl) ?_; (simp only [List.eraseIdx]); exact sm_) ⟨ia2, rfl, rfl, rfl⟩
  · replace h := h.2 hp19
    refine xcondF' (decide_eq_false hp19) rfl ?_
    refine xskipc ?_
    refine xthen ?_
    refine xseq ?_
    refine xregion ?_
    refine xvalP (pv_move rfl) rfl rfl ?_
    refine xvalP (pv_move rfl) rfl rfl ?_
    refine xvalP (pv_move rfl) rfl rfl ?_
    refine xvalP (pv_lenM UndC.h rfl) rfl rfl ?_
    refine xvalP (pv_bin2 rfl rfl rfl) rfl rfl ?_
    refine xvalP (pv_move rfl) rfl rfl ?_
    by_cases hp36 : 0 < (bv5.length : Int)
    · replace h := h.1 hp36
      refine xsetB 17 (decide_eq_true hp36) rfl ?_
      refine xvalP (pv_move rfl) rfl rfl ?_
      refine xvalP (pv_move rfl) rfl rfl ?_
      refine xvalP (pv_lenM UndC.h rfl) rfl rfl ?_
      obtain ⟨h38, h⟩ := h
      refine xvalP (pv_subI h38 rfl rfl) rfl rfl ?_
      obtain ⟨h40a, h⟩ := h
      obtain ⟨y39, h40b, h⟩ := h
      refine xvalP (pv_indexAddrM h40a h40b UndC.h ShpC.h rfl rfl) rfl rfl ?_
      refine xval (qv_load ShpC.h rfl rfl rfl) rfl rfl ?_
      refine xvalP (pv_bin2 rfl rfl rfl) rfl rfl ?_
      refine xvalP (pv_pick rfl rfl) rfl rfl ?_
      obtain ⟨y43, h42, h⟩ := h
      refine xcallF (Fb := []) (Ft := []) (sinks_Sink_write_con o3 o4 l1 bv5 (!(decide ((y39.toNat : Int) = 10))) bx0 ia2 _ h42) Tryd.func12 (by kernel_rfl) rfl (.cons rfl (.refl _) (.cons rfl (.refl _) (.cons rfl (.refl _) .nil))) (by exact sm_) rfl rfl ?_
      rintro _ _ _ ⟨i44, rfl, rfl, rfl⟩
      simp only [List.nil_append, List.cons_append]
      refine xvalP (pv_assign rfl) rfl rfl ?_
      refine xnil ?_
      refine xthen ?_
      refine xretc ?_
      replace h := h.symm
      subst h
      exact xret1 (bx' := [rbx i44 5 1 (List.map eb y43.2.1), ⟨bx0, 35, [.rb i44 y43.2.1.length, .v (.bool y43.2.2), .v (.int .i64 o4)]⟩]) (tk' := []) hg rfl rfl (.refl _) (SubM.of (.keep rfl rfl (.refl _) (.keep rfl rfl (.cons (.eq (by first | rfl | simp)) (.cons (.refl _) (.cons (.refl _) .nil))) (.nil _))) (.nil _)) ⟨i44, rfl, rfl, rfl⟩
    · replace h := h.2 hp36
      refine xsetB 17 (decide_eq_false hp36) rfl ?_
      refine xskip rfl rfl ?_
      refine xskip rfl rfl ?_
      refine xskip rfl rfl ?_
      refine xskip rfl rfl ?_
      refine xskip rfl rfl ?_
      refine xskip rfl rfl ?_
      refine xskip rfl rfl ?_
      refine xvalP (pv_pick rfl rfl) rfl rfl ?_
      obtain ⟨y46, h45, h⟩ := h
      refine xcallF (Fb := []) (Ft := []) (sinks_Sink_write_con o3 o4 l1 bv5 false bx0 ia2 _ h45) Tryd.func12 (by kernel_rfl) rfl (.cons rfl (.refl _) (.cons rfl (.refl _) (.cons rfl (.refl _) .nil))) (by exact sm_) rfl rfl ?_
      rintro _ _ _ ⟨i47, rfl, rfl, rfl⟩
      simp only [List.nil_append, List.cons_append]
      refine xvalP (pv_assign rfl) rfl rfl ?_
      refine xnil ?_
      refine xthen ?_
      refine xretc ?_
      replace h := h.symm
      subst h
      exact xret1 (bx' := [rbx i47 5 1 (List.map eb y46.2.1), ⟨bx0, 35, [.rb i47 y46.2.1.length, .v (.bool y46.2.2), .v (.int .i64 o4)]⟩]) (tk' := []) hg rfl rfl (.refl _) (SubM.of (.keep rfl rfl (.refl _) (.keep rfl rfl (.cons (.eq (by first | rfl | simp)) (.cons (.refl _) (.cons (.refl _) .nil))) (.nil _))) (.nil _)) ⟨i47, rfl, rfl, rfl⟩
end Go.Proofs.YthffeojphpajpaaDoor
