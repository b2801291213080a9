/- What functions' texts ask for, and the walks that show it (printed by a program). -/
import Derived.Test.YtefpkpiadnpkeaaBld
namespace Go.Proofs.Ytefpkpiadnpkeaa
/-- show.mark -/
def show_mark_j2 (c1 : UInt8) (x52 : Bool) (r : ByteArray) : Prop :=
  ((x52 = true → ∃ z58 : Int, z58 = IntKind.i32.wrap ((c1.toNat : Int)) ∧ r = (Utf8.encode z58)) ∧ (¬ (x52 = true) → (0 : Int) ≤ 6 ∧ ∃ c61 : UInt8, (c61.toNat : Int) = ((c1.toNat : Int) : Int).fdiv (2 ^ (min (6 : Int).toNat IntKind.u8.bits)) ∧ ∃ c63 : UInt8, (c63.toNat : Int) = IntKind.u8.wrap (48 + (c61.toNat : Int)) ∧ (0 : Int) ≤ 3 ∧ ∃ c65 : UInt8, (c65.toNat : Int) = ((c1.toNat : Int) : Int).fdiv (2 ^ (min (3 : Int).toNat IntKind.u8.bits)) ∧ ∃ c67 : UInt8, (c67.toNat : Int) = IntKind.u8.wrap (BitVec.ofInt IntKind.u8.bits (c65.toNat : Int) &&& BitVec.ofInt IntKind.u8.bits (7)).toNat ∧ ∃ c69 : UInt8, (c69.toNat : Int) = IntKind.u8.wrap (48 + (c67.toNat : Int)) ∧ ∃ c71 : UInt8, (c71.toNat : Int) = IntKind.u8.wrap (BitVec.ofInt IntKind.u8.bits (c1.toNat : Int) &&& BitVec.ofInt IntKind.u8.bits (7)).toNat ∧ ∃ c73 : UInt8, (c73.toNat : Int) = IntKind.u8.wrap (48 + (c71.toNat : Int)) ∧ InR ((((⟨#[92]⟩ : ByteArray)).size : Int) + (((⟨([c63, c69, c73]).toArray⟩ : ByteArray)).size : Int)) ∧ r = (((⟨#[92]⟩ : ByteArray)) ++ ((⟨([c63, c69, c73]).toArray⟩ : ByteArray)))))
def show_mark_j1 (c1 : UInt8) (x36 : Bool) (r : ByteArray) : Prop :=
  ((x36 = true → ∃ c42 : UInt8, (c42.toNat : Int) = IntKind.u8.wrap ((c1.toNat : Int) - 7) ∧ ∃ c44 : UInt8, (c44.toNat : Int) = IntKind.u8.wrap ((c1.toNat : Int) - 7) ∧ ∃ c46 : UInt8, (c46.toNat : Int) = IntKind.u8.wrap ((c44.toNat : Int) + 1) ∧ (0 ≤ ((c42.toNat : Int) : Int) ∧ ((c42.toNat : Int) : Int) ≤ ((c46.toNat : Int) : Int) ∧ ((c46.toNat : Int) : Int) ≤ (((⟨#[97, 98, 116, 110, 118, 102, 114]⟩ : ByteArray)).size : Int)) ∧ InR ((((⟨#[92]⟩ : ByteArray)).size : Int) + (((((⟨#[97, 98, 116, 110, 118, 102, 114]⟩ : ByteArray)).extract ((c42.toNat : Int) : Int).toNat ((c46.toNat : Int) : Int).toNat)).size : Int)) ∧ r = (((⟨#[92]⟩ : ByteArray)) ++ ((((⟨#[97, 98, 116, 110, 118, 102, 114]⟩ : ByteArray)).extract ((c42.toNat : Int) : Int).toNat ((c46.toNat : Int) : Int).toNat)))) ∧ (¬ (x36 = true) → show_mark_j2 c1 ((decide (32 ≤ (c1.toNat : Int))) && (decide ((c1.toNat : Int) ≤ 126))) r))
def show_mark_R (c1 : UInt8) (r : ByteArray) : Prop :=
  (((c1.toNat : Int) = 92 → r = (⟨#[92, 92]⟩ : ByteArray)) ∧ (¬ ((c1.toNat : Int) = 92) → show_mark_j1 c1 ((decide (7 ≤ (c1.toNat : Int))) && (decide ((c1.toNat : Int) < 14))) r))
def show_mark_j2_ev (fuel : Nat) (c1 : UInt8) (x52 : Bool) : Option (ByteArray) :=
  (if x52 = true then ((some (IntKind.i32.wrap ((c1.toNat : Int)) : Int)).bind fun z58 => some (Utf8.encode z58)) else (if (0 : Int) ≤ 6 then (exB (((c1.toNat : Int) : Int).fdiv (2 ^ (min (6 : Int).toNat IntKind.u8.bits))) fun c61 => (exB (IntKind.u8.wrap (48 + (c61.toNat : Int))) fun c63 => (if (0 : Int) ≤ 3 then (exB (((c1.toNat : Int) : Int).fdiv (2 ^ (min (3 : Int).toNat IntKind.u8.bits))) fun c65 => (exB (IntKind.u8.wrap (BitVec.ofInt IntKind.u8.bits (c65.toNat : Int) &&& BitVec.ofInt IntKind.u8.bits (7)).toNat) fun c67 => (exB (IntKind.u8.wrap (48 + (c67.toNat : Int))) fun c69 => (exB (IntKind.u8.wrap (BitVec.ofInt IntKind.u8.bits (c1.toNat : Int) &&& BitVec.ofInt IntKind.u8.bits (7)).toNat) fun c71 => (exB (IntKind.u8.wrap (48 + (c71.toNat : Int))) fun c73 => (if InR ((((⟨#[92]⟩ : ByteArray)).size : Int) + (((⟨([c63, c69, c73]).toArray⟩ : ByteArray)).size : Int)) then some (((⟨#[92]⟩ : ByteArray)) ++ ((⟨([c63, c69, c73]).toArray⟩ : ByteArray))) else none)))))) else none))) else none))
theorem show_mark_j2_ok {fuel : Nat} {c1 : UInt8} {x52 : Bool} {r : ByteArray} (h : show_mark_j2_ev fuel c1 x52 = some r) : show_mark_j2 c1 x52 r := by
  unfold show_mark_j2_ev at h
  unfold show_mark_j2
  refine ⟨fun g1 => ?_, fun g1 => ?_⟩
  · rw [if_pos g1] at h
    obtain ⟨q2, g2, h⟩ := bind_ok h
    refine ⟨q2, (Option.some.inj g2).symm, ?_⟩
    exact (Option.some.inj h).symm
  · rw [if_neg g1] at h
    obtain ⟨g3, h⟩ := if_ok h
    refine ⟨g3, ?_⟩
    obtain ⟨q4, g4, h⟩ := exB_ok h
    refine ⟨q4, g4, ?_⟩
    obtain ⟨q5, g5, h⟩ := exB_ok h
    refine ⟨q5, g5, ?_⟩
    obtain ⟨g6, h⟩ := if_ok h
    refine ⟨g6, ?_⟩
    obtain ⟨q7, g7, h⟩ := exB_ok h
    refine ⟨q7, g7, ?_⟩
    obtain ⟨q8, g8, h⟩ := exB_ok h
    refine ⟨q8, g8, ?_⟩
    obtain ⟨q9, g9, h⟩ := exB_ok h
    refine ⟨q9, g9, ?_⟩
    obtain ⟨q10, g10, h⟩ := exB_ok h
    refine ⟨q10, g10, ?_⟩
    obtain ⟨q11, g11, h⟩ := exB_ok h
    refine ⟨q11, g11, ?_⟩
    obtain ⟨g12, h⟩ := if_ok h
    refine ⟨g12, ?_⟩
    exact (Option.some.inj h).symm
def show_mark_j1_ev (fuel : Nat) (c1 : UInt8) (x36 : Bool) : Option (ByteArray) :=
  (if x36 = true then (exB (IntKind.u8.wrap ((c1.toNat : Int) - 7)) fun c42 => (exB (IntKind.u8.wrap ((c1.toNat : Int) - 7)) fun c44 => (exB (IntKind.u8.wrap ((c44.toNat : Int) + 1)) fun c46 => (if (0 ≤ ((c42.toNat : Int) : Int) ∧ ((c42.toNat : Int) : Int) ≤ ((c46.toNat : Int) : Int) ∧ ((c46.toNat : Int) : Int) ≤ (((⟨#[97, 98, 116, 110, 118, 102, 114]⟩ : ByteArray)).size : Int)) then (if InR ((((⟨#[92]⟩ : ByteArray)).size : Int) + (((((⟨#[97, 98, 116, 110, 118, 102, 114]⟩ : ByteArray)).extract ((c42.toNat : Int) : Int).toNat ((c46.toNat : Int) : Int).toNat)).size : Int)) then some (((⟨#[92]⟩ : ByteArray)) ++ ((((⟨#[97, 98, 116, 110, 118, 102, 114]⟩ : ByteArray)).extract ((c42.toNat : Int) : Int).toNat ((c46.toNat : Int) : Int).toNat))) else none) else none)))) else show_mark_j2_ev fuel c1 ((decide (32 ≤ (c1.toNat : Int))) && (decide ((c1.toNat : Int) ≤ 126))))
theorem show_mark_j1_ok {fuel : Nat} {c1 : UInt8} {x36 : Bool} {r : ByteArray} (h : show_mark_j1_ev fuel c1 x36 = some r) : show_mark_j1 c1 x36 r := by
  unfold show_mark_j1_ev at h
  unfold show_mark_j1
  refine ⟨fun g13 => ?_, fun g13 => ?_⟩
  · rw [if_pos g13] at h
    obtain ⟨q14, g14, h⟩ := exB_ok h
    refine ⟨q14, g14, ?_⟩
    obtain ⟨q15, g15, h⟩ := exB_ok h
    refine ⟨q15, g15, ?_⟩
    obtain ⟨q16, g16, h⟩ := exB_ok h
    refine ⟨q16, g16, ?_⟩
    obtain ⟨g17, h⟩ := if_ok h
    refine ⟨g17, ?_⟩
    obtain ⟨g18, h⟩ := if_ok h
    refine ⟨g18, ?_⟩
    exact (Option.some.inj h).symm
  · rw [if_neg g13] at h
    exact show_mark_j2_ok h
def show_mark_ev (fuel : Nat) (c1 : UInt8) : Option (ByteArray) :=
  (if (c1.toNat : Int) = 92 then some (⟨#[92, 92]⟩ : ByteArray) else show_mark_j1_ev fuel c1 ((decide (7 ≤ (c1.toNat : Int))) && (decide ((c1.toNat : Int) < 14))))
theorem show_mark_ok {fuel : Nat} {c1 : UInt8} {r : ByteArray} (h : show_mark_ev fuel c1 = some r) : show_mark_R c1 r := by
  unfold show_mark_ev at h
  unfold show_mark_R
  refine ⟨fun g19 => ?_, fun g19 => ?_⟩
  · rw [if_pos g19] at h
    exact (Option.some.inj h).symm
  · rw [if_neg g19] at h
    exact show_mark_j1_ok h
set_option maxHeartbeats 4000000 in
theorem show_mark_con (c1 : UInt8) (r : ByteArray) (h : show_mark_R c1 r) : Con Try.prog 15 [.v (.int .u8 ((c1.toNat : Int)))] [] [] (Ret (.v (.string r))) := by
  refine xenter Try.func15 rfl rfl fun g hg => ?_
  simp only [Try.ntmps15, slots]
  refine xseq ?_
  refine xregion ?_
  refine xvalP (pv_assign rfl) rfl rfl ?_
  refine xnil ?_
  refine xthen ?_
  refine xseq ?_
  refine xblock ?_
  refine xseq ?_
  refine xregion ?_
  refine xvalP (pv_move rfl) rfl rfl ?_
  refine xvalP (pv_bin2 rfl rfl rfl) rfl rfl ?_
  refine xvalP (pv_assign rfl) rfl rfl ?_
  refine xnil ?_
  refine xthen ?_
  by_cases hp32 : (c1.toNat : Int) = 92
  · replace h := h.1 hp32
    refine xcondT' (decide_eq_true hp32) rfl ?_
    refine xseq ?_
    refine xregion ?_
    refine xvalP (pv_assign rfl) rfl rfl ?_
    refine xnil ?_
    refine xthen ?_
    refine xretc ?_
    refine xin_ret ?_
    refine xthen_ret ?_
    replace h := h.symm
    subst h
    exact xret1 hg rfl rfl (.refl _) (SubM.of (.nil _) (.nil _)) ⟨rfl, rfl, rfl⟩
  · replace h := h.2 hp32
    refine xcondF' (decide_eq_false hp32) rfl ?_
    refine xseqM (fun σ => ∃ (x36 : Bool), show_mark_j1 c1 x36 r ∧ σ = ⟨[(0, .v (.int .u8 ((c1.toNat : Int)))), (6, .v (.bool x36))], [], []⟩) ?_ ?_
    · refine xregion ?_
      refine xvalP (pv_move rfl) rfl rfl ?_
      refine xvalP (pv_bin2 rfl rfl rfl) rfl rfl ?_
      refine xvalP (pv_move rfl) rfl rfl ?_
      by_cases hp38 : 7 ≤ (c1.toNat : Int)
      · rw [show (decide (7 ≤ (c1.toNat : Int))) = true from (decide_eq_true hp38), Bool.true_and] at h
        refine xsetB 9 (decide_eq_true hp38) rfl ?_
        refine xvalP (pv_move rfl) rfl rfl ?_
        refine xvalP (pv_bin2 rfl rfl rfl) rfl rfl ?_
        refine xvalP (pv_pick rfl rfl) rfl rfl ?_
        refine xvalP (pv_assign rfl) rfl rfl ?_
        refine xnil ?_
        exact xmeet ⟨(decide ((c1.toNat : Int) < 14)), h, rfl⟩ ⟨(.cons rfl (.refl _) (.cons rfl (.refl _) (.nil _))), (SubM.of (.nil _) (.nil _))⟩
      · rw [show (decide (7 ≤ (c1.toNat : Int))) = false from (decide_eq_false hp38), Bool.false_and] at h
        refine xsetB 9 (decide_eq_false hp38) rfl ?_
        refine xskip rfl rfl ?_
        refine xskip rfl rfl ?_
        refine xvalP (pv_pick rfl rfl) rfl rfl ?_
        refine xvalP (pv_assign rfl) rfl rfl ?_
        refine xnil ?_
        exact xmeet ⟨false, h, rfl⟩ ⟨(.cons rfl (.refl _) (.cons rfl (.refl _) (.nil _))), (SubM.of (.nil _) (.nil _))⟩
    · clear h
      rintro _ ⟨x36, h, rfl⟩
      by_cases hp40 : x36 = true
      · replace h := h.1 hp40
        refine xcondT' hp40 rfl ?_
        refine xseq ?_
        refine xregion ?_
        refine xvalP (pv_move rfl) rfl rfl ?_
        obtain ⟨c42, h41, h⟩ := h
        refine xvalP (pv_wr h41 rfl rfl rfl) rfl rfl ?_
        refine xvalP (pv_move rfl) rfl rfl ?_
        obtain ⟨c44, h43, h⟩ := h
        refine xvalP (pv_wr h43 rfl rfl rfl) rfl rfl ?_
        obtain ⟨c46, h45, h⟩ := h
        refine xvalP (pv_wr h45 rfl rfl rfl) rfl rfl ?_
        obtain ⟨h47, h⟩ := h
        refine xvalP (pv_sliceSLH h47 UndC.h rfl rfl rfl) rfl rfl ?_
        obtain ⟨h48, h⟩ := h
        refine xvalP (pv_addS h48 rfl rfl) rfl rfl ?_
        refine xvalP (pv_assign rfl) rfl rfl ?_
        refine xnil ?_
        refine xthen ?_
        refine xretc ?_
        refine xin_ret ?_
        refine xthen_ret ?_
        replace h := h.symm
        subst h
        exact xret1 hg rfl rfl (.refl _) (SubM.of (.nil _) (.nil _)) ⟨rfl, rfl, rfl⟩
      · replace h := h.2 hp40
        refine xcondF' (b_f hp40) rfl ?_
        refine xseqM (fun σ => ∃ (x52 : Bool), show_mark_j2 c1 x52 r ∧ σ = ⟨[(0, .v (.int .u8 ((c1.toNat : Int)))), (20, .v (.bool x52))], [], []⟩) ?_ ?_
        · refine xregion ?_
          refine xvalP (pv_move rfl) rfl rfl ?_
          refine xvalP (pv_bin2 rfl rfl rfl) rfl rfl ?_
          refine xvalP (pv_move rfl) rfl rfl ?_
          by_cases hp54 : 32 ≤ (c1.toNat : Int)
          · rw [show (decide (32 ≤ (c1.toNat : Int))) = true from (decide_eq_true hp54), Bool.true_and] at h
            refine xsetB 23 (decide_eq_true hp54) rfl ?_
            refine xvalP (pv_move rfl) rfl rfl ?_
            refine xvalP (pv_bin2 rfl rfl rfl) rfl rfl ?_
            refine xvalP (pv_pick rfl rfl) rfl rfl ?_
            refine xvalP (pv_assign rfl) rfl rfl ?_
            refine xnil ?_
            exact xmeet ⟨(decide ((c1.toNat : Int) ≤ 126)), h, rfl⟩ ⟨(.cons rfl (.refl _) (.cons rfl (.refl _) (.nil _))), (SubM.of (.nil _) (.nil _))⟩
          · rw [show (decide (32 ≤ (c1.toNat : Int))) = false from (decide_eq_false hp54), Bool.false_and] at h
            refine xsetB 23 (decide_eq_false hp54) rfl ?_
            refine xskip rfl rfl ?_
            refine xskip rfl rfl ?_
            refine xvalP (pv_pick rfl rfl) rfl rfl ?_
            refine xvalP (pv_assign rfl) rfl rfl ?_
            refine xnil ?_
            exact xmeet ⟨false, h, rfl⟩ ⟨(.cons rfl (.refl _) (.cons rfl (.refl _) (.nil _))), (SubM.of (.nil _) (.nil _))⟩
        · clear h
          rintro _ ⟨x52, h, rfl⟩
          by_cases hp56 : x52 = true
          · replace h := h.1 hp56
            refine xcondT' hp56 rfl ?_
            refine xseq ?_
            refine xregion ?_
            refine xvalP (pv_move rfl) rfl rfl ?_
            obtain ⟨z58, h57, h⟩ := h
            refine xvalP (pv_convW h57 UndC.h UndC.h rfl) rfl rfl ?_
            refine xvalP (pv_runeS UndC.h UndC.h rfl) rfl rfl ?_
            refine xvalP (pv_assign rfl) rfl rfl ?_
            refine xnil ?_
            refine xthen ?_
            refine xretc ?_
            refine xin_ret ?_
            refine xthen_ret ?_
            replace h := h.symm
            subst h
            exact xret1 hg rfl rfl (.refl _) (SubM.of (.nil _) (.nil _)) ⟨rfl, rfl, rfl⟩
          · replace h := h.2 hp56
            refine xcondF' (b_f hp56) rfl ?_
            refine xskipc ?_
            refine xin_normal ?_
            refine xthen ?_
            refine xseq ?_
            refine xregion ?_
            refine xvalP (pv_move rfl) rfl rfl ?_
            obtain ⟨h60, h⟩ := h
            obtain ⟨c61, h60r, h⟩ := h
            refine xvalP (pv_shrW h60 h60r rfl rfl) rfl rfl ?_
            obtain ⟨c63, h62, h⟩ := h
            refine xvalP (pv_wr h62 rfl rfl rfl) rfl rfl ?_
            refine xvalP (pv_move rfl) rfl rfl ?_
            obtain ⟨h64, h⟩ := h
            obtain ⟨c65, h64r, h⟩ := h
            refine xvalP (pv_shrW h64 h64r rfl rfl) rfl rfl ?_
            obtain ⟨c67, h66, h⟩ := h
            refine xvalP (pv_wr h66 rfl rfl rfl) rfl rfl ?_
            obtain ⟨c69, h68, h⟩ := h
            refine xvalP (pv_wr h68 rfl rfl rfl) rfl rfl ?_
            refine xvalP (pv_move rfl) rfl rfl ?_
            obtain ⟨c71, h70, h⟩ := h
            refine xvalP (pv_wr h70 rfl rfl rfl) rfl rfl ?_
            obtain ⟨c73, h72, h⟩ := h
            refine xvalP (pv_wr h72 rfl rfl rfl) rfl rfl ?_
            refine xbuildSliceM (f := eb) [c63, c69, c73] UndC.h InfC.h rfl rfl (by first | exact wkR_of rfl | (repeat (first | exact WkR.nil | refine WkR.cons (by (repeat (first | exact WkL.nil | refine WkL.cons (by first | with_reducible exact Wk.refl _ | exact Wk.nil_own _ | exact Wk.nil_pl _ | with_reducible exact Wk.tok _ _ _ | exact Wk.tok _ _ _ | exact Wk.eq (by first | rfl | (simp []; done) | (simp []; omega))) ?_))) ?_))) rfl rfl rfl rfl fun s40 => ?_
            refine xval (pv_str (bs := [c63, c69, c73]) UndC.h UndC.h UndC.h rfl rfl rfl (fun _ h => by injection h with h; exact h.symm)) rfl rfl ?_
            obtain ⟨h75, h⟩ := h
            refine xvalP (pv_addS h75 rfl rfl) rfl rfl ?_
            refine xvalP (pv_assign rfl) rfl rfl ?_
            refine xnil ?_
            refine xthen ?_
            refine xretc ?_
            replace h := h.symm
            subst h
            exact xret1 hg rfl rfl (.refl _) (SubM.of (.nil _) (.nil _)) ⟨rfl, rfl, rfl⟩
/-- show.List -/
def show_List_j2 (y596 : ByteArray) (x432 : Int) (ag1 : ((List UInt8) × Int × Int) → Prop) (out617 : List UInt8) (width619 : Int) (r : (List UInt8)) : Prop :=
  Room (out617.length + y596.data.toList.length) 1 ∧ InR (width619 + (y596.size : Int)) ∧ InR (x432 + 1) ∧ ag1 ((out617 ++ y596.data.toList), (width619 + (y596.size : Int)), (x432 + 1))
def show_List_j3 (out429 : List UInt8) (y596 : ByteArray) (x432 : Int) (ag1 : ((List UInt8) × Int × Int) → Prop) (width431 : Int) (x628 : Bool) (r : (List UInt8)) : Prop :=
  ((x628 = true → Room (out429.length + ([(92 : UInt8), (10 : UInt8)]).length) 1 ∧ show_List_j2 y596 x432 ag1 (out429 ++ [(92 : UInt8), (10 : UInt8)]) 0 r) ∧ (¬ (x628 = true) → show_List_j2 y596 x432 ag1 out429 width431 r))
def show_List_l1 (bv1 : List UInt8) (fold2 : Int) (ag1 : ((List UInt8) × Int × Int) → Prop) (out429 : List UInt8) (width431 : Int) (x432 : Int) (r : (List UInt8)) : Prop :=
  ((x432 < (bv1.length : Int) → 0 ≤ (x432 : Int) ∧ ∃ y593 : UInt8, bv1[(x432 : Int).toNat]? = some y593 ∧ ∃ y596 : ByteArray, show_mark_R y593 y596 ∧ ((2 ≤ fold2 → ((0 < width431 → InR (width431 + (y596.size : Int)) ∧ InR (fold2 - 1) ∧ show_List_j3 out429 y596 x432 ag1 width431 (decide ((fold2 - 1) < (width431 + (y596.size : Int)))) r) ∧ (¬ (0 < width431) → show_List_j3 out429 y596 x432 ag1 width431 false r))) ∧ (¬ (2 ≤ fold2) → show_List_j3 out429 y596 x432 ag1 width431 false r))) ∧ (¬ (x432 < (bv1.length : Int)) → Room (out429.length + ([(36 : UInt8)]).length) 1 ∧ r = (out429 ++ [(36 : UInt8)])))
def show_List_R (bv1 : List UInt8) (fold2 : Int) (r : (List UInt8)) : Prop :=
  LoopR (fun ag1 s => show_List_l1 bv1 fold2 ag1 s.1 s.2.1 s.2.2 r) (([] : List UInt8), 0, 0)
def show_List_j2_ev (fuel : Nat) (y596 : ByteArray) (x432 : Int) (ag1e : ((List UInt8) × Int × Int) → Option ((List UInt8))) (out617 : List UInt8) (width619 : Int) : Option ((List UInt8)) :=
  (if Room (out617.length + y596.data.toList.length) 1 then (if InR (width619 + (y596.size : Int)) then (if InR (x432 + 1) then ag1e ((out617 ++ y596.data.toList), (width619 + (y596.size : Int)), (x432 + 1)) else none) else none) else none)
theorem show_List_j2_ok {fuel : Nat} {y596 : ByteArray} {x432 : Int} {ag1 : ((List UInt8) × Int × Int) → Prop} {ag1e : ((List UInt8) × Int × Int) → Option ((List UInt8))} {out617 : List UInt8} {width619 : Int} {r : (List UInt8)} (hagag1 : ∀ s, ag1e s = some r → ag1 s) (h : show_List_j2_ev fuel y596 x432 ag1e out617 width619 = some r) : show_List_j2 y596 x432 ag1 out617 width619 r := by
  unfold show_List_j2_ev at h
  unfold show_List_j2
  obtain ⟨g20, h⟩ := if_ok h
  refine ⟨g20, ?_⟩
  obtain ⟨g21, h⟩ := if_ok h
  refine ⟨g21, ?_⟩
  obtain ⟨g22, h⟩ := if_ok h
  refine ⟨g22, ?_⟩
  exact hagag1 _ h
def show_List_j3_ev (fuel : Nat) (out429 : List UInt8) (y596 : ByteArray) (x432 : Int) (ag1e : ((List UInt8) × Int × Int) → Option ((List UInt8))) (width431 : Int) (x628 : Bool) : Option ((List UInt8)) :=
  (if x628 = true then (if Room (out429.length + ([(92 : UInt8), (10 : UInt8)]).length) 1 then show_List_j2_ev fuel y596 x432 ag1e (out429 ++ [(92 : UInt8), (10 : UInt8)]) 0 else none) else show_List_j2_ev fuel y596 x432 ag1e out429 width431)
theorem show_List_j3_ok {fuel : Nat} {out429 : List UInt8} {y596 : ByteArray} {x432 : Int} {ag1 : ((List UInt8) × Int × Int) → Prop} {ag1e : ((List UInt8) × Int × Int) → Option ((List UInt8))} {width431 : Int} {x628 : Bool} {r : (List UInt8)} (hagag1 : ∀ s, ag1e s = some r → ag1 s) (h : show_List_j3_ev fuel out429 y596 x432 ag1e width431 x628 = some r) : show_List_j3 out429 y596 x432 ag1 width431 x628 r := by
  unfold show_List_j3_ev at h
  unfold show_List_j3
  refine ⟨fun g23 => ?_, fun g23 => ?_⟩
  · rw [if_pos g23] at h
    obtain ⟨g24, h⟩ := if_ok h
    refine ⟨g24, ?_⟩
    exact show_List_j2_ok hagag1 h
  · rw [if_neg g23] at h
    exact show_List_j2_ok hagag1 h
def show_List_l1_ev (fuel : Nat) (bv1 : List UInt8) (fold2 : Int) (ag1e : ((List UInt8) × Int × Int) → Option ((List UInt8))) (out429 : List UInt8) (width431 : Int) (x432 : Int) : Option ((List UInt8)) :=
  (if x432 < (bv1.length : Int) then (if 0 ≤ (x432 : Int) then ((bv1[(x432 : Int).toNat]?).bind fun y593 => ((show_mark_ev fuel y593).bind fun y596 => (if 2 ≤ fold2 then (if 0 < width431 then (if InR (width431 + (y596.size : Int)) then (if InR (fold2 - 1) then show_List_j3_ev fuel out429 y596 x432 ag1e width431 (decide ((fold2 - 1) < (width431 + (y596.size : Int)))) else none) else none) else show_List_j3_ev fuel out429 y596 x432 ag1e width431 false) else show_List_j3_ev fuel out429 y596 x432 ag1e width431 false))) else none) else (if Room (out429.length + ([(36 : UInt8)]).length) 1 then some (out429 ++ [(36 : UInt8)]) else none))
theorem show_List_l1_ok {fuel : Nat} {bv1 : List UInt8} {fold2 : Int} {ag1e : ((List UInt8) × Int × Int) → Option ((List UInt8))} {ag1 : ((List UInt8) × Int × Int) → Prop} {out429 : List UInt8} {width431 : Int} {x432 : Int} {r : (List UInt8)} (hagag1 : ∀ s, ag1e s = some r → ag1 s) (h : show_List_l1_ev fuel bv1 fold2 ag1e out429 width431 x432 = some r) : show_List_l1 bv1 fold2 ag1 out429 width431 x432 r := by
  unfold show_List_l1_ev at h
  unfold show_List_l1
  refine ⟨fun g25 => ?_, fun g25 => ?_⟩
  · rw [if_pos g25] at h
    obtain ⟨g26, h⟩ := if_ok h
    refine ⟨g26, ?_⟩
    obtain ⟨q27, g27, h⟩ := bind_ok h
    refine ⟨q27, g27, ?_⟩
    obtain ⟨q28, g28, h⟩ := bind_ok h
    refine ⟨q28, show_mark_ok g28, ?_⟩
    refine ⟨fun g29 => ?_, fun g29 => ?_⟩
    · rw [if_pos g29] at h
      refine ⟨fun g30 => ?_, fun g30 => ?_⟩
      · rw [if_pos g30] at h
        obtain ⟨g31, h⟩ := if_ok h
        refine ⟨g31, ?_⟩
        obtain ⟨g32, h⟩ := if_ok h
        refine ⟨g32, ?_⟩
        exact show_List_j3_ok hagag1 h
      · rw [if_neg g30] at h
        exact show_List_j3_ok hagag1 h
    · rw [if_neg g29] at h
      exact show_List_j3_ok hagag1 h
  · rw [if_neg g25] at h
    obtain ⟨g33, h⟩ := if_ok h
    refine ⟨g33, ?_⟩
    exact (Option.some.inj h).symm
def show_List_ev (fuel : Nat) (bv1 : List UInt8) (fold2 : Int) : Option ((List UInt8)) :=
  (loopE (fun ag1e s => show_List_l1_ev fuel bv1 fold2 ag1e s.1 s.2.1 s.2.2) fuel (([] : List UInt8), 0, 0))
theorem show_List_ok {fuel : Nat} {bv1 : List UInt8} {fold2 : Int} {r : (List UInt8)} (h : show_List_ev fuel bv1 fold2 = some r) : show_List_R bv1 fold2 r := by
  unfold show_List_ev at h
  unfold show_List_R
  refine loopE_ok ?_ h
  intro ae ag s hag h
  exact show_List_l1_ok hag h
set_option maxHeartbeats 4000000 in
theorem show_List_con (bv1 : List UInt8) (fold2 : Int) (r : (List UInt8)) (h : show_List_R bv1 fold2 r) : Con Try.prog 8 [.sl 1 none (List.map eb bv1), .v (.int .i64 fold2)] [] [] (RetM 1 5 eb r) := by
  refine xenter Try.func8 rfl rfl fun g hg => ?_
  simp only [Try.ntmps8, slots]
  refine xseq ?_
  refine xregion ?_
  refine xvalP (pv_assign rfl) rfl rfl ?_
  refine xnil ?_
  refine xthen ?_
  refine xseq ?_
  refine xregion ?_
  refine xvalP (pv_assign rfl) rfl rfl ?_
  refine xnil ?_
  refine xthen ?_
  refine xseq ?_
  refine xregion ?_
  refine xvalP (pv_assign rfl) rfl rfl ?_
  refine xnil ?_
  refine xthen ?_
  refine xseq ?_
  refine xseq ?_
  refine xregion ?_
  refine xvalP (pv_move rfl) rfl rfl ?_
  refine xvalP (pv_lenM UndC.h rfl) rfl rfl ?_
  refine xvalP (pv_move rfl) rfl rfl ?_
  refine xnil ?_
  refine xthen ?_
  refine xblock ?_
  obtain ⟨Inv, ⟨m0, hI⟩, hS⟩ := h
  refine xloop (fun σ m => ∃ (out429 : List UInt8), ∃ (width431 : Int), ∃ (x432 : Int), ∃ (i430 : Option (Nat × Nat)), Inv (out429, width431, x432) m ∧ σ = ⟨[(1, .v (.int .i64 fold2)), (5, .sl 1 (some i430) (List.map eb out429)), (6, .v (.int .i64 width431)), (10, .sl 1 none (List.map eb bv1)), (11, .v (.int .i64 ((bv1.length : Int)))), (12, .v (.int .i64 x432))], [], [⟨i430, 5, 1, out429.length⟩]⟩) ⟨([] : List UInt8), 0, 0, none, hI, rfl⟩ ⟨(.cons rfl (.refl _) (.cons rfl (.nil_own _) (.cons rfl (.refl _) (.cons rfl (.refl _) (.cons rfl (.refl _) (.cons rfl (.refl _) (.nil _))))))), (SubM.of (.nil _) (.add (.nil _)))⟩ ?_
  rintro _ m ⟨out429, width431, x432, i430, hI, rfl⟩
  obtain ⟨ag1, hag1, h⟩ : ∃ ag, (∀ s', ag s' → ∃ m', m' < m ∧ Inv s' m') ∧ show_List_l1 bv1 fold2 ag out429 width431 x432 r := ⟨_, fun _ h => h, hS (out429, width431, x432) _ hI⟩
  clear hS hI
  refine xseq ?_
  refine xregion ?_
  refine xvalP (pv_bin2 rfl rfl rfl) rfl rfl ?_
  refine xnil ?_
  refine xthen ?_
  refine xseq ?_
  by_cases hp541 : x432 < (bv1.length : Int)
  · replace h := h.1 hp541
    refine xcondT' (decide_eq_true hp541) rfl ?_
    refine xskipc ?_
    refine xthen ?_
    refine xseq ?_
    refine xblock ?_
    refine xseq ?_
    refine xregion ?_
    obtain ⟨h594a, h⟩ := h
    obtain ⟨y593, h594b, h⟩ := h
    refine xvalP (pv_indexAddrM h594a h594b UndC.h ShpC.h rfl rfl) rfl rfl ?_
    refine xval (qv_load ShpC.h rfl rfl rfl) rfl rfl ?_
    refine xvalP (pv_assign rfl) rfl rfl ?_
    refine xnil ?_
    refine xthen ?_
    refine xseq ?_
    refine xregion ?_
    refine xvalP (pv_move rfl) rfl rfl ?_
    obtain ⟨y596, h595, h⟩ := h
    refine xcall0 (show_mark_con y593 _ h595) Try.func15 (by kernel_rfl) rfl (.cons rfl (.refl _) .nil) rfl rfl ?_
    refine xvalP (pv_assign rfl) rfl rfl ?_
    refine xnil ?_
    refine xthen ?_
    refine xseqM (fun σ => ∃ (out617 : List UInt8), ∃ (width619 : Int), ∃ (i618 : Option (Nat × Nat)), show_List_j2 y596 x432 ag1 out617 width619 r ∧ σ = ⟨[(1, .v (.int .i64 fold2)), (5, .sl 1 (some i618) (List.map eb out617)), (6, .v (.int .i64 width619)), (9, .v (.string y596)), (10, .sl 1 none (List.map eb bv1)), (11, .v (.int .i64 ((bv1.length : Int)))), (12, .v (.int .i64 x432))], [], [⟨i618, 5, 1, out617.length⟩]⟩) ?_ ?_
    · refine xseqM (fun σ => ∃ (x628 : Bool), show_List_j3 out429 y596 x432 ag1 width431 x628 r ∧ σ = ⟨[(1, .v (.int .i64 fold2)), (5, .sl 1 (some i430) (List.map eb out429)), (6, .v (.int .i64 width431)), (9, .v (.string y596)), (10, .sl 1 none (List.map eb bv1)), (11, .v (.int .i64 ((bv1.length : Int)))), (12, .v (.int .i64 x432)), (32, .v (.bool x628))], [], [⟨i430, 5, 1, out429.length⟩]⟩) ?_ ?_
      · refine xregion ?_
        refine xvalP (pv_move rfl) rfl rfl ?_
        refine xvalP (pv_bin2 rfl rfl rfl) rfl rfl ?_
        refine xvalP (pv_move rfl) rfl rfl ?_
        by_cases hp630 : 2 ≤ fold2
        · replace h := h.1 hp630
          refine xsetB 20 (decide_eq_true hp630) rfl ?_
          refine xvalP (pv_move rfl) rfl rfl ?_
          refine xvalP (pv_bin2 rfl rfl rfl) rfl rfl ?_
          refine xvalP (pv_pick rfl rfl) rfl rfl ?_
          refine xvalP (pv_move rfl) rfl rfl ?_
          by_cases hp632 : 0 < width431
          · replace h := h.1 hp632
            refine xsetB 24 (decide_eq_true hp632) rfl ?_
            refine xvalP (pv_move rfl) rfl rfl ?_
            refine xvalP (pv_move rfl) rfl rfl ?_
            refine xvalP (pv_lenS UndC.h rfl) rfl rfl ?_
            obtain ⟨h634, h⟩ := h
            refine xvalP (pv_addI h634 rfl rfl) rfl rfl ?_
            refine xvalP (pv_move rfl) rfl rfl ?_
            obtain ⟨h635, h⟩ := h
            refine xvalP (pv_subI h635 rfl rfl) rfl rfl ?_
            refine xvalP (pv_bin2 rfl rfl rfl) rfl rfl ?_
            refine xvalP (pv_pick rfl rfl) rfl rfl ?_
            refine xnil ?_
            exact xmeet ⟨(decide ((fold2 - 1) < (width431 + (y596.size : Int)))), h, rfl⟩ ⟨(.cons rfl (.refl _) (.cons rfl (.refl _) (.cons rfl (.refl _) (.cons rfl (.refl _) (.cons rfl (.refl _) (.cons rfl (.refl _) (.cons rfl (.refl _) (.cons rfl (.refl _) (.nil _))))))))), (SubM.of (.nil _) (.keep rfl (.nil _)))⟩
          · replace h := h.2 hp632
            refine xsetB 24 (decide_eq_false hp632) rfl ?_
            refine xskip rfl rfl ?_
            refine xskip rfl rfl ?_
            refine xskip rfl rfl ?_
            refine xskip rfl rfl ?_
            refine xskip rfl rfl ?_
            refine xskip rfl rfl ?_
            refine xskip rfl rfl ?_
            refine xvalP (pv_pick rfl rfl) rfl rfl ?_
            refine xnil ?_
            exact xmeet ⟨false, h, rfl⟩ ⟨(.cons rfl (.refl _) (.cons rfl (.refl _) (.cons rfl (.refl _) (.cons rfl (.refl _) (.cons rfl (.refl _) (.cons rfl (.refl _) (.cons rfl (.refl _) (.cons rfl (.refl _) (.nil _))))))))), (SubM.of (.nil _) (.keep rfl (.nil _)))⟩
        · replace h := h.2 hp630
          refine xsetB 20 (decide_eq_false hp630) rfl ?_
          refine xskip rfl rfl ?_
          refine xskip rfl rfl ?_
          refine xvalP (pv_pick rfl rfl) rfl rfl ?_
          refine xvalP (pv_move rfl) rfl rfl ?_
          refine xskip rfl rfl ?_
          refine xskip rfl rfl ?_
          refine xskip rfl rfl ?_
          refine xskip rfl rfl ?_
          refine xskip rfl rfl ?_
          refine xskip rfl rfl ?_
          refine xskip rfl rfl ?_
          refine xvalP (pv_pick rfl rfl) rfl rfl ?_
          refine xnil ?_
          exact xmeet ⟨false, h, rfl⟩ ⟨(.cons rfl (.refl _) (.cons rfl (.refl _) (.cons rfl (.refl _) (.cons rfl (.refl _) (.cons rfl (.refl _) (.cons rfl (.refl _) (.cons rfl (.refl _) (.cons rfl (.refl _) (.nil _))))))))), (SubM.of (.nil _) (.keep rfl (.nil _)))⟩
      · clear h
        rintro _ ⟨x628, h, rfl⟩
        by_cases hp637 : x628 = true
        · replace h := h.1 hp637
          refine xcondT' hp637 rfl ?_
          refine xseq ?_
          refine xregion ?_
          refine xvalP (pv_move rfl) rfl rfl ?_
          refine xbuildSliceM (f := eb) [(92 : UInt8), (10 : UInt8)] UndC.h InfC.h rfl rfl (by first | exact wkR_of rfl | (repeat (first | exact WkR.nil | refine WkR.cons (by (repeat (first | exact WkL.nil | refine WkL.cons (by first | with_reducible exact Wk.refl _ | exact Wk.nil_own _ | exact Wk.nil_pl _ | with_reducible exact Wk.tok _ _ _ | exact Wk.tok _ _ _ | exact Wk.eq (by first | rfl | (simp []; done) | (simp []; omega))) ?_))) ?_))) rfl rfl rfl rfl fun s34 => ?_
          obtain ⟨h638, h⟩ := h
          refine xappendM (l := out429) (l2 := [(92 : UInt8), (10 : UInt8)]) 1 h638 UndC.h InfC.h rfl rfl rfl (.refl _) rfl rfl rfl fun i639 => ?_
          refine xvalP (pv_assign rfl) rfl rfl ?_
          refine xnil ?_
          refine xthen ?_
          refine xregion ?_
          refine xvalP (pv_assign rfl) rfl rfl ?_
          refine xnil ?_
          exact xmeet ⟨(out429 ++ [(92 : UInt8), (10 : UInt8)]), 0, i639, h, rfl⟩ ⟨(.cons rfl (.refl _) (.cons rfl (.refl _) (.cons rfl (.refl _) (.cons rfl (.refl _) (.cons rfl (.refl _) (.cons rfl (.refl _) (.cons rfl (.refl _) (.nil _)))))))), (SubM.of (.nil _) (.drop (.keep rfl (.nil _))))⟩
        · replace h := h.2 hp637
          refine xcondF' (b_f hp637) rfl ?_
          refine xskipc ?_
          exact xmeet ⟨out429, width431, i430, h, rfl⟩ ⟨(.cons rfl (.refl _) (.cons rfl (.refl _) (.cons rfl (.refl _) (.cons rfl (.refl _) (.cons rfl (.refl _) (.cons rfl (.refl _) (.cons rfl (.refl _) (.nil _)))))))), (SubM.of (.nil _) (.keep rfl (.nil _)))⟩
    · clear h
      rintro _ ⟨out617, width619, i618, h, rfl⟩
      refine xseq ?_
      refine xregion ?_
      refine xvalP (pv_move rfl) rfl rfl ?_
      refine xvalP (pv_move rfl) rfl rfl ?_
      obtain ⟨h640, h⟩ := h
      refine xappendSM (l := out617) (s := y596) 0 h640 UndC.h UndC.h InfC.h rfl rfl rfl rfl rfl fun i641 => ?_
      refine xvalP (pv_assign rfl) rfl rfl ?_
      refine xnil ?_
      refine xthen ?_
      refine xregion ?_
      refine xvalP (pv_move rfl) rfl rfl ?_
      refine xvalP (pv_move rfl) rfl rfl ?_
      refine xvalP (pv_lenS UndC.h rfl) rfl rfl ?_
      obtain ⟨h643, h⟩ := h
      refine xvalP (pv_addI h643 rfl rfl) rfl rfl ?_
      refine xvalP (pv_assign rfl) rfl rfl ?_
      refine xnil ?_
      refine xin_normal ?_
      refine xthen ?_
      refine xregion ?_
      obtain ⟨h644, h⟩ := h
      refine xvalP (pv_addI h644 rfl rfl) rfl rfl ?_
      refine xvalP (pv_move rfl) rfl rfl ?_
      refine xnil ?_
      obtain ⟨m', hm, hI⟩ := hag1 _ h
      exact xagain ⟨(out617 ++ y596.data.toList), (width619 + (y596.size : Int)), (x432 + 1), i641, hI, rfl⟩ hm ⟨(.cons rfl (.refl _) (.cons rfl (.refl _) (.cons rfl (.refl _) (.cons rfl (.refl _) (.cons rfl (.refl _) (.cons rfl (.refl _) (.nil _))))))), (SubM.of (.nil _) (.keep rfl (.nil _)))⟩
  · replace h := h.2 hp541
    refine xcondF' (decide_eq_false hp541) rfl ?_
    refine xexit ?_
    refine xthen_exit ?_
    refine xthen_exit ?_
    refine xin_same rfl ?_
    refine xthen ?_
    refine xseq ?_
    refine xregion ?_
    refine xvalP (pv_move rfl) rfl rfl ?_
    refine xbuildSliceM (f := eb) [(36 : UInt8)] UndC.h InfC.h rfl rfl (by first | exact wkR_of rfl | (repeat (first | exact WkR.nil | refine WkR.cons (by (repeat (first | exact WkL.nil | refine WkL.cons (by first | with_reducible exact Wk.refl _ | exact Wk.nil_own _ | exact Wk.nil_pl _ | with_reducible exact Wk.tok _ _ _ | exact Wk.tok _ _ _ | exact Wk.eq (by first | rfl | (simp []; done) | (simp []; omega))) ?_))) ?_))) rfl rfl rfl rfl fun s45 => ?_
    obtain ⟨h645, h⟩ := h
    refine xappendM (l := out429) (l2 := [(36 : UInt8)]) 1 h645 UndC.h InfC.h rfl rfl rfl (.refl _) rfl rfl rfl fun i646 => ?_
    refine xvalP (pv_assign rfl) rfl rfl ?_
    refine xnil ?_
    refine xthen ?_
    refine xretc ?_
    replace h := h.symm
    subst h
    exact xret1 hg rfl rfl (.refl _) (SubM.of (.nil _) (.drop (.keep rfl (.nil _)))) ⟨i646, rfl, rfl, rfl⟩
/-- (*strings.Builder).WriteByte -/
def strings_Builder_WriteByte_R (o1 : List UInt8) (c3 : UInt8) (r : (List UInt8)) : Prop :=
  Room (o1.length + ([c3]).length) 1 ∧ r = (o1 ++ [c3])
def strings_Builder_WriteByte_ev (fuel : Nat) (o1 : List UInt8) (c3 : UInt8) : Option ((List UInt8)) :=
  (if Room (o1.length + ([c3]).length) 1 then some (o1 ++ [c3]) else none)
theorem strings_Builder_WriteByte_ok {fuel : Nat} {o1 : List UInt8} {c3 : UInt8} {r : (List UInt8)} (h : strings_Builder_WriteByte_ev fuel o1 c3 = some r) : strings_Builder_WriteByte_R o1 c3 r := by
  unfold strings_Builder_WriteByte_ev at h
  unfold strings_Builder_WriteByte_R
  obtain ⟨g34, h⟩ := if_ok h
  refine ⟨g34, ?_⟩
  exact (Option.some.inj h).symm
set_option maxHeartbeats 4000000 in
theorem strings_Builder_WriteByte_con (o1 : List UInt8) (c3 : UInt8) (bx0 : Nat) (ia2 : Option (Nat × Nat)) (r : (List UInt8)) (h : strings_Builder_WriteByte_R o1 c3 r) : Con Try.prog 17 [.v (.pointer (some ⟨bx0, 0, none⟩)), .v (.int .u8 ((c3.toNat : Int)))] [⟨bx0, 42, [.v (.pointer none), .sl 1 (some ia2) (List.map eb o1)]⟩] [⟨ia2, 5, 1, o1.length⟩] (fun rr bx tk => ∃ j1, rr = .v .nilIface ∧ bx = [⟨bx0, 42, [.v (.pointer (some ⟨bx0, 0, none⟩)), .sl 1 (some j1) (List.map eb r)]⟩] ∧ tk = [⟨j1, 5, 1, r.length⟩]) := by
  refine xenter Try.func17 rfl rfl fun g hg => ?_
  simp only [Try.ntmps17, slots]
  refine xseq ?_
  refine xregion ?_
  refine xvalP (pv_assign rfl) rfl rfl ?_
  refine xnil ?_
  refine xthen ?_
  refine xseq ?_
  refine xregion ?_
  refine xvalP (pv_move rfl) rfl rfl ?_
  refine xcallF (Fb := []) (Ft := [⟨ia2, 5, 1, o1.length⟩]) (copy_fresh bx0 (.sl 1 (some ia2) (List.map eb o1))) Try.func23 (by kernel_rfl) rfl (.cons rfl (.refl _) .nil) (by exact (SubM.of (by repeat (first | with_reducible exact SubB.refl _ | exact SubB.nil _ | refine SubB.keep rfl rfl (by first | with_reducible exact WkL.refl _ | ((repeat (first | exact WkL.nil | refine WkL.cons (by first | with_reducible exact Wk.refl _ | exact Wk.nil_own _ | exact Wk.nil_pl _ | with_reducible exact Wk.tok _ _ _ | exact Wk.tok _ _ _ | exact Wk.eq (by first | rfl | (simp []; done) | (simp []; omega))) ?_)); done) | exact WkL.refl _) ?_ | refine SubB.drop ?_)) (by repeat (first | exact SubT.nil _ | refine SubT.add ?_ | (refine SubT.keep ?_ ?_; focus (first | with_reducible rfl | (simp []; done))) | refine SubT.drop ?_)))) rfl rfl ?_
  rintro _ _ _ ⟨rfl, rfl, rfl⟩
  simp only [List.nil_append, List.cons_append]
  refine xnil ?_
  refine xthen ?_
  refine xseq ?_
  refine xregion ?_
  refine xvalP (pv_move rfl) rfl rfl ?_
  refine xvalP (pv_move rfl) rfl rfl ?_
  refine xvalP (pv_nilCheck rfl) rfl rfl ?_
  refine xvalP (qv_fieldAddrB FldC.h rfl) rfl rfl ?_
  refine xval (qv_loadB 0 ShpC.h rfl rfl rfl rfl) rfl rfl ?_
  refine xvalP (pv_move rfl) rfl rfl ?_
  refine xbuildSliceM (f := eb) [c3] UndC.h InfC.h rfl rfl (by first | exact wkR_of rfl | (repeat (first | exact WkR.nil | refine WkR.cons (by (repeat (first | exact WkL.nil | refine WkL.cons (by first | with_reducible exact Wk.refl _ | exact Wk.nil_own _ | exact Wk.nil_pl _ | with_reducible exact Wk.tok _ _ _ | exact Wk.tok _ _ _ | exact Wk.eq (by first | rfl | (simp []; done) | (simp []; omega))) ?_))) ?_))) rfl rfl rfl rfl fun s13 => ?_
  obtain ⟨h4, h⟩ := h
  refine xappendM (l := o1) (l2 := [c3]) 1 h4 UndC.h InfC.h rfl rfl rfl (.refl _) rfl rfl rfl fun i5 => ?_
  refine xvalP (pv_nilCheck rfl) rfl rfl ?_
  refine xvalP (qv_fieldAddrB FldC.h rfl) rfl rfl ?_
  refine xstore 0 ShpC.h rfl rfl rfl rfl rfl rfl rfl ?_
  refine xnil ?_
  refine xthen ?_
  refine xseq ?_
  refine xregion ?_
  refine xvalP (pv_assign rfl) rfl rfl ?_
  refine xnil ?_
  refine xthen ?_
  refine xretc ?_
  replace h := h.symm
  subst h
  exact xret1 hg rfl rfl (.refl _) (SubM.of (.keep rfl rfl (.refl _) (.nil _)) (.drop (.keep rfl (.nil _)))) ⟨i5, rfl, rfl, rfl⟩
/-- (*strings.Builder).WriteByte -/
def strings_Builder_WriteByte_v2_R (o1 : List UInt8) (c3 : UInt8) (r : (List UInt8)) : Prop :=
  Room (o1.length + ([c3]).length) 1 ∧ r = (o1 ++ [c3])
def strings_Builder_WriteByte_v2_ev (fuel : Nat) (o1 : List UInt8) (c3 : UInt8) : Option ((List UInt8)) :=
  (if Room (o1.length + ([c3]).length) 1 then some (o1 ++ [c3]) else none)
theorem strings_Builder_WriteByte_v2_ok {fuel : Nat} {o1 : List UInt8} {c3 : UInt8} {r : (List UInt8)} (h : strings_Builder_WriteByte_v2_ev fuel o1 c3 = some r) : strings_Builder_WriteByte_v2_R o1 c3 r := by
  unfold strings_Builder_WriteByte_v2_ev at h
  unfold strings_Builder_WriteByte_v2_R
  obtain ⟨g35, h⟩ := if_ok h
  refine ⟨g35, ?_⟩
  exact (Option.some.inj h).symm
set_option maxHeartbeats 4000000 in
theorem strings_Builder_WriteByte_v2_con (o1 : List UInt8) (c3 : UInt8) (bx0 : Nat) (ia2 : Option (Nat × Nat)) (r : (List UInt8)) (h : strings_Builder_WriteByte_v2_R o1 c3 r) : Con Try.prog 17 [.v (.pointer (some ⟨bx0, 0, none⟩)), .v (.int .u8 ((c3.toNat : Int)))] [⟨bx0, 42, [.v (.pointer (some ⟨bx0, 0, none⟩)), .sl 1 (some ia2) (List.map eb o1)]⟩] [⟨ia2, 5, 1, o1.length⟩] (fun rr bx tk => ∃ j1, rr = .v .nilIface ∧ bx = [⟨bx0, 42, [.v (.pointer (some ⟨bx0, 0, none⟩)), .sl 1 (some j1) (List.map eb r)]⟩] ∧ tk = [⟨j1, 5, 1, r.length⟩]) := by
  refine xenter Try.func17 rfl rfl fun g hg => ?_
  simp only [Try.ntmps17, slots]
  refine xseq ?_
  refine xregion ?_
  refine xvalP (pv_assign rfl) rfl rfl ?_
  refine xnil ?_
  refine xthen ?_
  refine xseq ?_
  refine xregion ?_
  refine xvalP (pv_move rfl) rfl rfl ?_
  refine xcallF (Fb := []) (Ft := [⟨ia2, 5, 1, o1.length⟩]) (copy_used bx0 (.sl 1 (some ia2) (List.map eb o1))) Try.func23 (by kernel_rfl) rfl (.cons rfl (.refl _) .nil) (by exact (SubM.of (by repeat (first | with_reducible exact SubB.refl _ | exact SubB.nil _ | refine SubB.keep rfl rfl (by first | with_reducible exact WkL.refl _ | ((repeat (first | exact WkL.nil | refine WkL.cons (by first | with_reducible exact Wk.refl _ | exact Wk.nil_own _ | exact Wk.nil_pl _ | with_reducible exact Wk.tok _ _ _ | exact Wk.tok _ _ _ | exact Wk.eq (by first | rfl | (simp []; done) | (simp []; omega))) ?_)); done) | exact WkL.refl _) ?_ | refine SubB.drop ?_)) (by repeat (first | exact SubT.nil _ | refine SubT.add ?_ | (refine SubT.keep ?_ ?_; focus (first | with_reducible rfl | (simp []; done))) | refine SubT.drop ?_)))) rfl rfl ?_
  rintro _ _ _ ⟨rfl, rfl, rfl⟩
  simp only [List.nil_append, List.cons_append]
  refine xnil ?_
  refine xthen ?_
  refine xseq ?_
  refine xregion ?_
  refine xvalP (pv_move rfl) rfl rfl ?_
  refine xvalP (pv_move rfl) rfl rfl ?_
  refine xvalP (pv_nilCheck rfl) rfl rfl ?_
  refine xvalP (qv_fieldAddrB FldC.h rfl) rfl rfl ?_
  refine xval (qv_loadB 0 ShpC.h rfl rfl rfl rfl) rfl rfl ?_
  refine xvalP (pv_move rfl) rfl rfl ?_
  refine xbuildSliceM (f := eb) [c3] UndC.h InfC.h rfl rfl (by first | exact wkR_of rfl | (repeat (first | exact WkR.nil | refine WkR.cons (by (repeat (first | exact WkL.nil | refine WkL.cons (by first | with_reducible exact Wk.refl _ | exact Wk.nil_own _ | exact Wk.nil_pl _ | with_reducible exact Wk.tok _ _ _ | exact Wk.tok _ _ _ | exact Wk.eq (by first | rfl | (simp []; done) | (simp []; omega))) ?_))) ?_))) rfl rfl rfl rfl fun s13 => ?_
  obtain ⟨h4, h⟩ := h
  refine xappendM (l := o1) (l2 := [c3]) 1 h4 UndC.h InfC.h rfl rfl rfl (.refl _) rfl rfl rfl fun i5 => ?_
  refine xvalP (pv_nilCheck rfl) rfl rfl ?_
  refine xvalP (qv_fieldAddrB FldC.h rfl) rfl rfl ?_
  refine xstore 0 ShpC.h rfl rfl rfl rfl rfl rfl rfl ?_
  refine xnil ?_
  refine xthen ?_
  refine xseq ?_
  refine xregion ?_
  refine xvalP (pv_assign rfl) rfl rfl ?_
  refine xnil ?_
  refine xthen ?_
  refine xretc ?_
  replace h := h.symm
  subst h
  exact xret1 hg rfl rfl (.refl _) (SubM.of (.keep rfl rfl (.refl _) (.nil _)) (.drop (.keep rfl (.nil _)))) ⟨i5, rfl, rfl, rfl⟩
/-- (*strings.Builder).WriteString -/
def strings_Builder_WriteString_R (o1 : List UInt8) (sv3 : ByteArray) (r : Int × (List UInt8)) : Prop :=
  Room (o1.length + sv3.data.toList.length) 1 ∧ r = ((sv3.size : Int), (o1 ++ sv3.data.toList))
def strings_Builder_WriteString_ev (fuel : Nat) (o1 : List UInt8) (sv3 : ByteArray) : Option (Int × (List UInt8)) :=
  (if Room (o1.length + sv3.data.toList.length) 1 then some ((sv3.size : Int), (o1 ++ sv3.data.toList)) else none)
theorem strings_Builder_WriteString_ok {fuel : Nat} {o1 : List UInt8} {sv3 : ByteArray} {r : Int × (List UInt8)} (h : strings_Builder_WriteString_ev fuel o1 sv3 = some r) : strings_Builder_WriteString_R o1 sv3 r := by
  unfold strings_Builder_WriteString_ev at h
  unfold strings_Builder_WriteString_R
  obtain ⟨g36, h⟩ := if_ok h
  refine ⟨g36, ?_⟩
  exact (Option.some.inj h).symm
set_option maxHeartbeats 4000000 in
theorem strings_Builder_WriteString_con (o1 : List UInt8) (sv3 : ByteArray) (bx0 : Nat) (ia2 : Option (Nat × Nat)) (r : Int × (List UInt8)) (h : strings_Builder_WriteString_R o1 sv3 r) : Con Try.prog 18 [.v (.pointer (some ⟨bx0, 0, none⟩)), .v (.string sv3)] [⟨bx0, 42, [.v (.pointer (some ⟨bx0, 0, none⟩)), .sl 1 (some ia2) (List.map eb o1)]⟩] [⟨ia2, 5, 1, o1.length⟩] (fun rr bx tk => ∃ j1, rr = .tup [.v (.int .i64 r.1), .v .nilIface] ∧ bx = [⟨bx0, 42, [.v (.pointer (some ⟨bx0, 0, none⟩)), .sl 1 (some j1) (List.map eb r.2)]⟩] ∧ tk = [⟨j1, 5, 1, r.2.length⟩]) := by
  refine xenter Try.func18 rfl rfl fun g hg => ?_
  simp only [Try.ntmps18, slots]
  refine xseq ?_
  refine xregion ?_
  refine xvalP (pv_assign rfl) rfl rfl ?_
  refine xvalP (pv_assign rfl) rfl rfl ?_
  refine xnil ?_
  refine xthen ?_
  refine xseq ?_
  refine xregion ?_
  refine xvalP (pv_move rfl) rfl rfl ?_
  refine xcallF (Fb := []) (Ft := [⟨ia2, 5, 1, o1.length⟩]) (copy_used bx0 (.sl 1 (some ia2) (List.map eb o1))) Try.func23 (by kernel_rfl) rfl (.cons rfl (.refl _) .nil) (by exact (SubM.of (by repeat (first | with_reducible exact SubB.refl _ | exact SubB.nil _ | refine SubB.keep rfl rfl (by first | with_reducible exact WkL.refl _ | ((repeat (first | exact WkL.nil | refine WkL.cons (by first | with_reducible exact Wk.refl _ | exact Wk.nil_own _ | exact Wk.nil_pl _ | with_reducible exact Wk.tok _ _ _ | exact Wk.tok _ _ _ | exact Wk.eq (by first | rfl | (simp []; done) | (simp []; omega))) ?_)); done) | exact WkL.refl _) ?_ | refine SubB.drop ?_)) (by repeat (first | exact SubT.nil _ | refine SubT.add ?_ | (refine SubT.keep ?_ ?_; focus (first | with_reducible rfl | (simp []; done))) | refine SubT.drop ?_)))) rfl rfl ?_
  rintro _ _ _ ⟨rfl, rfl, rfl⟩
  simp only [List.nil_append, List.cons_append]
  refine xnil ?_
  refine xthen ?_
  refine xseq ?_
  refine xregion ?_
  refine xvalP (pv_move rfl) rfl rfl ?_
  refine xvalP (pv_move rfl) rfl rfl ?_
  refine xvalP (pv_nilCheck rfl) rfl rfl ?_
  refine xvalP (qv_fieldAddrB FldC.h rfl) rfl rfl ?_
  refine xval (qv_loadB 0 ShpC.h rfl rfl rfl rfl) rfl rfl ?_
  refine xvalP (pv_move rfl) rfl rfl ?_
  obtain ⟨h4, h⟩ := h
  refine xappendSM (l := o1) (s := sv3) 0 h4 UndC.h UndC.h InfC.h rfl rfl rfl rfl rfl fun i5 => ?_
  refine xvalP (pv_nilCheck rfl) rfl rfl ?_
  refine xvalP (qv_fieldAddrB FldC.h rfl) rfl rfl ?_
  refine xstore 0 ShpC.h rfl rfl rfl rfl rfl rfl rfl ?_
  refine xnil ?_
  refine xthen ?_
  refine xseq ?_
  refine xregion ?_
  refine xvalP (pv_move rfl) rfl rfl ?_
  refine xvalP (pv_lenS UndC.h rfl) rfl rfl ?_
  refine xvalP (pv_assign rfl) rfl rfl ?_
  refine xvalP (pv_assign rfl) rfl rfl ?_
  refine xnil ?_
  refine xthen ?_
  refine xretc ?_
  replace h := h.symm
  subst h
  exact xret2 hg rfl rfl (.refl _) rfl (.refl _) (SubM.of (.keep rfl rfl (.refl _) (.nil _)) (.keep rfl (.nil _))) ⟨i5, rfl, rfl, rfl⟩
/-- show.Quote -/
def show_Quote_j2 (y245 : UInt8) (x178 : Int) (ag1 : (Int × (List UInt8)) → Prop) (f252 : List UInt8) (r : ByteArray) : Prop :=
  ∃ y260 : ByteArray, show_mark_R y245 y260 ∧ ∃ y262 : Int × (List UInt8), strings_Builder_WriteString_R f252 y260 y262 ∧ InR (x178 + 1) ∧ ag1 ((x178 + 1), y262.2)
def show_Quote_l1 (bv1 : List UInt8) (ag1 : (Int × (List UInt8)) → Prop) (x178 : Int) (f179 : List UInt8) (r : ByteArray) : Prop :=
  ((x178 < (bv1.length : Int) → 0 ≤ (x178 : Int) ∧ ∃ y245 : UInt8, bv1[(x178 : Int).toNat]? = some y245 ∧ (((y245.toNat : Int) = 34 → ∃ y257 : (List UInt8), strings_Builder_WriteByte_v2_R f179 (92 : UInt8) y257 ∧ show_Quote_j2 y245 x178 ag1 y257 r) ∧ (¬ ((y245.toNat : Int) = 34) → show_Quote_j2 y245 x178 ag1 f179 r))) ∧ (¬ (x178 < (bv1.length : Int)) → ∃ y266 : (List UInt8), strings_Builder_WriteByte_v2_R f179 (34 : UInt8) y266 ∧ y266 ≠ [] ∧ r = (⟨y266.toArray⟩ : ByteArray)))
def show_Quote_R (bv1 : List UInt8) (r : ByteArray) : Prop :=
  ∃ y3 : (List UInt8), strings_Builder_WriteByte_R ([] : List UInt8) (34 : UInt8) y3 ∧ LoopR (fun ag1 s => show_Quote_l1 bv1 ag1 s.1 s.2 r) (0, y3)
def show_Quote_j2_ev (fuel : Nat) (y245 : UInt8) (x178 : Int) (ag1e : (Int × (List UInt8)) → Option (ByteArray)) (f252 : List UInt8) : Option (ByteArray) :=
  ((show_mark_ev fuel y245).bind fun y260 => ((strings_Builder_WriteString_ev fuel f252 y260).bind fun y262 => (if InR (x178 + 1) then ag1e ((x178 + 1), y262.2) else none)))
theorem show_Quote_j2_ok {fuel : Nat} {y245 : UInt8} {x178 : Int} {ag1 : (Int × (List UInt8)) → Prop} {ag1e : (Int × (List UInt8)) → Option (ByteArray)} {f252 : List UInt8} {r : ByteArray} (hagag1 : ∀ s, ag1e s = some r → ag1 s) (h : show_Quote_j2_ev fuel y245 x178 ag1e f252 = some r) : show_Quote_j2 y245 x178 ag1 f252 r := by
  unfold show_Quote_j2_ev at h
  unfold show_Quote_j2
  obtain ⟨q37, g37, h⟩ := bind_ok h
  refine ⟨q37, show_mark_ok g37, ?_⟩
  obtain ⟨q38, g38, h⟩ := bind_ok h
  refine ⟨q38, strings_Builder_WriteString_ok g38, ?_⟩
  obtain ⟨g39, h⟩ := if_ok h
  refine ⟨g39, ?_⟩
  exact hagag1 _ h
def show_Quote_l1_ev (fuel : Nat) (bv1 : List UInt8) (ag1e : (Int × (List UInt8)) → Option (ByteArray)) (x178 : Int) (f179 : List UInt8) : Option (ByteArray) :=
  (if x178 < (bv1.length : Int) then (if 0 ≤ (x178 : Int) then ((bv1[(x178 : Int).toNat]?).bind fun y245 => (if (y245.toNat : Int) = 34 then ((strings_Builder_WriteByte_v2_ev fuel f179 (92 : UInt8)).bind fun y257 => show_Quote_j2_ev fuel y245 x178 ag1e y257) else show_Quote_j2_ev fuel y245 x178 ag1e f179)) else none) else ((strings_Builder_WriteByte_v2_ev fuel f179 (34 : UInt8)).bind fun y266 => (if y266 ≠ [] then some (⟨y266.toArray⟩ : ByteArray) else none)))
theorem show_Quote_l1_ok {fuel : Nat} {bv1 : List UInt8} {ag1e : (Int × (List UInt8)) → Option (ByteArray)} {ag1 : (Int × (List UInt8)) → Prop} {x178 : Int} {f179 : List UInt8} {r : ByteArray} (hagag1 : ∀ s, ag1e s = some r → ag1 s) (h : show_Quote_l1_ev fuel bv1 ag1e x178 f179 = some r) : show_Quote_l1 bv1 ag1 x178 f179 r := by
  unfold show_Quote_l1_ev at h
  unfold show_Quote_l1
  refine ⟨fun g40 => ?_, fun g40 => ?_⟩
  · rw [if_pos g40] at h
    obtain ⟨g41, h⟩ := if_ok h
    refine ⟨g41, ?_⟩
    obtain ⟨q42, g42, h⟩ := bind_ok h
    refine ⟨q42, g42, ?_⟩
    refine ⟨fun g43 => ?_, fun g43 => ?_⟩
    · rw [if_pos g43] at h
      obtain ⟨q44, g44, h⟩ := bind_ok h
      refine ⟨q44, strings_Builder_WriteByte_v2_ok g44, ?_⟩
      exact show_Quote_j2_ok hagag1 h
    · rw [if_neg g43] at h
      exact show_Quote_j2_ok hagag1 h
  · rw [if_neg g40] at h
    obtain ⟨q45, g45, h⟩ := bind_ok h
    refine ⟨q45, strings_Builder_WriteByte_v2_ok g45, ?_⟩
    obtain ⟨g46, h⟩ := if_ok h
    refine ⟨g46, ?_⟩
    exact (Option.some.inj h).symm
def show_Quote_ev (fuel : Nat) (bv1 : List UInt8) : Option (ByteArray) :=
  ((strings_Builder_WriteByte_ev fuel ([] : List UInt8) (34 : UInt8)).bind fun y3 => (loopE (fun ag1e s => show_Quote_l1_ev fuel bv1 ag1e s.1 s.2) fuel (0, y3)))
theorem show_Quote_ok {fuel : Nat} {bv1 : List UInt8} {r : ByteArray} (h : show_Quote_ev fuel bv1 = some r) : show_Quote_R bv1 r := by
  unfold show_Quote_ev at h
  unfold show_Quote_R
  obtain ⟨q47, g47, h⟩ := bind_ok h
  refine ⟨q47, strings_Builder_WriteByte_ok g47, ?_⟩
  refine loopE_ok ?_ h
  intro ae ag s hag h
  exact show_Quote_l1_ok hag h
set_option maxHeartbeats 4000000 in
theorem show_Quote_con (bv1 : List UInt8) (r : ByteArray) (h : show_Quote_R bv1 r) : Con Try.prog 11 [.sl 1 none (List.map eb bv1)] [] [] (Ret (.v (.string r))) := by
  refine xenter Try.func11 rfl rfl fun g hg => ?_
  simp only [Try.ntmps11, slots]
  refine xseq ?_
  refine xregion ?_
  refine xvalP (pv_assign rfl) rfl rfl ?_
  refine xnil ?_
  refine xthen ?_
  refine xseq ?_
  refine xregion ?_
  refine xalloc InfC.h rfl rfl fun b3 => ?_
  refine xnil ?_
  refine xthen ?_
  refine xseq ?_
  refine xregion ?_
  obtain ⟨y3, h2, h⟩ := h
  refine xcallF (Fb := []) (Ft := []) (strings_Builder_WriteByte_con ([] : List UInt8) (34 : UInt8) b3 none _ h2) Try.func17 (by kernel_rfl) rfl (.cons rfl (.refl _) (.cons rfl (.refl _) .nil)) (by exact (SubM.of (by repeat (first | with_reducible exact SubB.refl _ | exact SubB.nil _ | refine SubB.keep rfl rfl (by first | with_reducible exact WkL.refl _ | ((repeat (first | exact WkL.nil | refine WkL.cons (by first | with_reducible exact Wk.refl _ | exact Wk.nil_own _ | exact Wk.nil_pl _ | with_reducible exact Wk.tok _ _ _ | exact Wk.tok _ _ _ | exact Wk.eq (by first | rfl | (simp []; done) | (simp []; omega))) ?_)); done) | exact WkL.refl _) ?_ | refine SubB.drop ?_)) (by repeat (first | exact SubT.nil _ | refine SubT.add ?_ | (refine SubT.keep ?_ ?_; focus (first | with_reducible rfl | (simp []; done))) | refine SubT.drop ?_)))) rfl rfl ?_
  rintro _ _ _ ⟨i4, rfl, rfl, rfl⟩
  simp only [List.nil_append, List.cons_append]
  refine xnil ?_
  refine xthen ?_
  refine xseq ?_
  refine xseq ?_
  refine xregion ?_
  refine xvalP (pv_move rfl) rfl rfl ?_
  refine xvalP (pv_lenM UndC.h rfl) rfl rfl ?_
  refine xvalP (pv_move rfl) rfl rfl ?_
  refine xnil ?_
  refine xthen ?_
  refine xblock ?_
  obtain ⟨Inv, ⟨m0, hI⟩, hS⟩ := h
  refine xloop (fun σ m => ∃ (x178 : Int), ∃ (f179 : List UInt8), ∃ (i180 : Option (Nat × Nat)), Inv (x178, f179) m ∧ σ = ⟨[(3, .v (.pointer (some ⟨b3, 0, none⟩))), (7, .sl 1 none (List.map eb bv1)), (8, .v (.int .i64 ((bv1.length : Int)))), (9, .v (.int .i64 x178))], [⟨b3, 42, [.v (.pointer (some ⟨b3, 0, none⟩)), .sl 1 (some i180) (List.map eb f179)]⟩], [⟨i180, 5, 1, f179.length⟩]⟩) ⟨0, y3, i4, hI, rfl⟩ ⟨(.cons rfl (.refl _) (.cons rfl (.refl _) (.cons rfl (.refl _) (.cons rfl (.refl _) (.nil _))))), (SubM.of (.keep rfl rfl (.refl _) (.nil _)) (.keep rfl (.nil _)))⟩ ?_
  rintro _ m ⟨x178, f179, i180, hI, rfl⟩
  obtain ⟨ag1, hag1, h⟩ : ∃ ag, (∀ s', ag s' → ∃ m', m' < m ∧ Inv s' m') ∧ show_Quote_l1 bv1 ag x178 f179 r := ⟨_, fun _ h => h, hS (x178, f179) _ hI⟩
  clear hS hI
  refine xseq ?_
  refine xregion ?_
  refine xvalP (pv_bin2 rfl rfl rfl) rfl rfl ?_
  refine xnil ?_
  refine xthen ?_
  refine xseq ?_
  by_cases hp225 : x178 < (bv1.length : Int)
  · replace h := h.1 hp225
    refine xcondT' (decide_eq_true hp225) rfl ?_
    refine xskipc ?_
    refine xthen ?_
    refine xseq ?_
    refine xblock ?_
    refine xseq ?_
    refine xregion ?_
    obtain ⟨h246a, h⟩ := h
    obtain ⟨y245, h246b, h⟩ := h
    refine xvalP (pv_indexAddrM h246a h246b UndC.h ShpC.h rfl rfl) rfl rfl ?_
    refine xval (qv_load ShpC.h rfl rfl rfl) rfl rfl ?_
    refine xvalP (pv_assign rfl) rfl rfl ?_
    refine xnil ?_
    refine xthen ?_
    refine xseqM (fun σ => ∃ (f252 : List UInt8), ∃ (i253 : Option (Nat × Nat)), show_Quote_j2 y245 x178 ag1 f252 r ∧ σ = ⟨[(3, .v (.pointer (some ⟨b3, 0, none⟩))), (5, .v (.int .u8 ((y245.toNat : Int)))), (7, .sl 1 none (List.map eb bv1)), (8, .v (.int .i64 ((bv1.length : Int)))), (9, .v (.int .i64 x178))], [⟨b3, 42, [.v (.pointer (some ⟨b3, 0, none⟩)), .sl 1 (some i253) (List.map eb f252)]⟩], [⟨i253, 5, 1, f252.length⟩]⟩) ?_ ?_
    · refine xseq ?_
      refine xregion ?_
      refine xvalP (pv_move rfl) rfl rfl ?_
      refine xvalP (pv_bin2 rfl rfl rfl) rfl rfl ?_
      refine xnil ?_
      refine xthen ?_
      by_cases hp255 : (y245.toNat : Int) = 34
      · replace h := h.1 hp255
        refine xcondT' (decide_eq_true hp255) rfl ?_
        refine xregion ?_
        obtain ⟨y257, h256, h⟩ := h
        refine xcallF (Fb := []) (Ft := []) (strings_Builder_WriteByte_v2_con f179 (92 : UInt8) b3 i180 _ h256) Try.func17 (by kernel_rfl) rfl (.cons rfl (.refl _) (.cons rfl (.refl _) .nil)) (by exact (SubM.of (by repeat (first | with_reducible exact SubB.refl _ | exact SubB.nil _ | refine SubB.keep rfl rfl (by first | with_reducible exact WkL.refl _ | ((repeat (first | exact WkL.nil | refine WkL.cons (by first | with_reducible exact Wk.refl _ | exact Wk.nil_own _ | exact Wk.nil_pl _ | with_reducible exact Wk.tok _ _ _ | exact Wk.tok _ _ _ | exact Wk.eq (by first | rfl | (simp []; done) | (simp []; omega))) ?_)); done) | exact WkL.refl _) ?_ | refine SubB.drop ?_)) (by repeat (first | exact SubT.nil _ | refine SubT.add ?_ | (refine SubT.keep ?_ ?_; focus (first | with_reducible rfl | (simp []; done))) | refine SubT.drop ?_)))) rfl rfl ?_
        rintro _ _ _ ⟨i258, rfl, rfl, rfl⟩
        simp only [List.nil_append, List.cons_append]
        refine xnil ?_
        exact xmeet ⟨y257, i258, h, rfl⟩ ⟨(.cons rfl (.refl _) (.cons rfl (.refl _) (.cons rfl (.refl _) (.cons rfl (.refl _) (.cons rfl (.refl _) (.nil _)))))), (SubM.of (.keep rfl rfl (.refl _) (.nil _)) (.keep rfl (.nil _)))⟩
      · replace h := h.2 hp255
        refine xcondF' (decide_eq_false hp255) rfl ?_
        refine xskipc ?_
        exact xmeet ⟨f179, i180, h, rfl⟩ ⟨(.cons rfl (.refl _) (.cons rfl (.refl _) (.cons rfl (.refl _) (.cons rfl (.refl _) (.cons rfl (.refl _) (.nil _)))))), (SubM.of (.keep rfl rfl (.refl _) (.nil _)) (.keep rfl (.nil _)))⟩
    · clear h
      rintro _ ⟨f252, i253, h, rfl⟩
      refine xregion ?_
      refine xvalP (pv_move rfl) rfl rfl ?_
      obtain ⟨y260, h259, h⟩ := h
      refine xcall0 (show_mark_con y245 _ h259) Try.func15 (by kernel_rfl) rfl (.cons rfl (.refl _) .nil) rfl rfl ?_
      obtain ⟨y262, h261, h⟩ := h
      refine xcallF (Fb := []) (Ft := []) (strings_Builder_WriteString_con f252 y260 b3 i253 _ h261) Try.func18 (by kernel_rfl) rfl (.cons rfl (.refl _) (.cons rfl (.refl _) .nil)) (by exact (SubM.of (by repeat (first | with_reducible exact SubB.refl _ | exact SubB.nil _ | refine SubB.keep rfl rfl (by first | with_reducible exact WkL.refl _ | ((repeat (first | exact WkL.nil | refine WkL.cons (by first | with_reducible exact Wk.refl _ | exact Wk.nil_own _ | exact Wk.nil_pl _ | with_reducible exact Wk.tok _ _ _ | exact Wk.tok _ _ _ | exact Wk.eq (by first | rfl | (simp []; done) | (simp []; omega))) ?_)); done) | exact WkL.refl _) ?_ | refine SubB.drop ?_)) (by repeat (first | exact SubT.nil _ | refine SubT.add ?_ | (refine SubT.keep ?_ ?_; focus (first | with_reducible rfl | (simp []; done))) | refine SubT.drop ?_)))) rfl rfl ?_
      rintro _ _ _ ⟨i263, rfl, rfl, rfl⟩
      simp only [List.nil_append, List.cons_append]
      refine xnil ?_
      refine xin_normal ?_
      refine xthen ?_
      refine xregion ?_
      obtain ⟨h264, h⟩ := h
      refine xvalP (pv_addI h264 rfl rfl) rfl rfl ?_
      refine xvalP (pv_move rfl) rfl rfl ?_
      refine xnil ?_
      obtain ⟨m', hm, hI⟩ := hag1 _ h
      exact xagain ⟨(x178 + 1), y262.2, i263, hI, rfl⟩ hm ⟨(.cons rfl (.refl _) (.cons rfl (.refl _) (.cons rfl (.refl _) (.cons rfl (.refl _) (.nil _))))), (SubM.of (.keep rfl rfl (.refl _) (.nil _)) (.keep rfl (.nil _)))⟩
  · replace h := h.2 hp225
    refine xcondF' (decide_eq_false hp225) rfl ?_
    refine xexit ?_
    refine xthen_exit ?_
    refine xthen_exit ?_
    refine xin_same rfl ?_
    refine xthen ?_
    refine xseq ?_
    refine xregion ?_
    obtain ⟨y266, h265, h⟩ := h
    refine xcallF (Fb := []) (Ft := []) (strings_Builder_WriteByte_v2_con f179 (34 : UInt8) b3 i180 _ h265) Try.func17 (by kernel_rfl) rfl (.cons rfl (.refl _) (.cons rfl (.refl _) .nil)) (by exact (SubM.of (by repeat (first | with_reducible exact SubB.refl _ | exact SubB.nil _ | refine SubB.keep rfl rfl (by first | with_reducible exact WkL.refl _ | ((repeat (first | exact WkL.nil | refine WkL.cons (by first | with_reducible exact Wk.refl _ | exact Wk.nil_own _ | exact Wk.nil_pl _ | with_reducible exact Wk.tok _ _ _ | exact Wk.tok _ _ _ | exact Wk.eq (by first | rfl | (simp []; done) | (simp []; omega))) ?_)); done) | exact WkL.refl _) ?_ | refine SubB.drop ?_)) (by repeat (first | exact SubT.nil _ | refine SubT.add ?_ | (refine SubT.keep ?_ ?_; focus (first | with_reducible rfl | (simp []; done))) | refine SubT.drop ?_)))) rfl rfl ?_
    rintro _ _ _ ⟨i267, rfl, rfl, rfl⟩
    simp only [List.nil_append, List.cons_append]
    refine xnil ?_
    refine xthen ?_
    refine xseq ?_
    refine xregion ?_
    obtain ⟨h268, h⟩ := h
    refine xcallF (Fb := []) (Ft := []) (Builder_String_con y266 b3 i267 h268) Try.func19 (by kernel_rfl) rfl (.cons rfl (.refl _) .nil) (by exact (SubM.of (by repeat (first | with_reducible exact SubB.refl _ | exact SubB.nil _ | refine SubB.keep rfl rfl (by first | with_reducible exact WkL.refl _ | ((repeat (first | exact WkL.nil | refine WkL.cons (by first | with_reducible exact Wk.refl _ | exact Wk.nil_own _ | exact Wk.nil_pl _ | with_reducible exact Wk.tok _ _ _ | exact Wk.tok _ _ _ | exact Wk.eq (by first | rfl | (simp []; done) | (simp []; omega))) ?_)); done) | exact WkL.refl _) ?_ | refine SubB.drop ?_)) (by repeat (first | exact SubT.nil _ | refine SubT.add ?_ | (refine SubT.keep ?_ ?_; focus (first | with_reducible rfl | (simp []; done))) | refine SubT.drop ?_)))) rfl rfl ?_
    rintro _ _ _ ⟨rfl, rfl, rfl⟩
    simp only [List.nil_append, List.cons_append]
    refine xvalP (pv_assign rfl) rfl rfl ?_
    refine xnil ?_
    refine xthen ?_
    refine xretc ?_
    replace h := h.symm
    subst h
    exact xret1 hg rfl rfl (.refl _) (SubM.of (.nil _) (.nil _)) ⟨rfl, rfl, rfl⟩
/-- show.Row -/
def show_Row_R (words1 : List ByteArray) (r : ByteArray) : Prop :=
  ∃ y3 : ByteArray, strings_Join_R words1 (⟨#[32]⟩ : ByteArray) y3 ∧ r = y3
def show_Row_ev (fuel : Nat) (words1 : List ByteArray) : Option (ByteArray) :=
  ((strings_Join_ev fuel words1 (⟨#[32]⟩ : ByteArray)).bind fun y3 => some y3)
theorem show_Row_ok {fuel : Nat} {words1 : List ByteArray} {r : ByteArray} (h : show_Row_ev fuel words1 = some r) : show_Row_R words1 r := by
  unfold show_Row_ev at h
  unfold show_Row_R
  obtain ⟨q48, g48, h⟩ := bind_ok h
  refine ⟨q48, strings_Join_ok g48, ?_⟩
  exact (Option.some.inj h).symm
set_option maxHeartbeats 4000000 in
theorem show_Row_con (words1 : List ByteArray) (r : ByteArray) (h : show_Row_R words1 r) : Con Try.prog 10 [.sl 1 none (List.map es words1)] [] [] (Ret (.v (.string r))) := by
  refine xenter Try.func10 rfl rfl fun g hg => ?_
  simp only [Try.ntmps10, slots]
  refine xseq ?_
  refine xregion ?_
  refine xvalP (pv_assign rfl) rfl rfl ?_
  refine xnil ?_
  refine xthen ?_
  refine xseq ?_
  refine xregion ?_
  refine xvalP (pv_move rfl) rfl rfl ?_
  obtain ⟨y3, h2, h⟩ := h
  refine xcall0 (strings_Join_con words1 (⟨#[32]⟩ : ByteArray) _ h2) Try.func16 (by kernel_rfl) rfl (.cons rfl (.refl _) (.cons rfl (.refl _) .nil)) rfl rfl ?_
  refine xvalP (pv_assign rfl) rfl rfl ?_
  refine xnil ?_
  refine xthen ?_
  refine xretc ?_
  replace h := h.symm
  subst h
  exact xret1 hg rfl rfl (.refl _) (SubM.of (.nil _) (.nil _)) ⟨rfl, rfl, rfl⟩
/-- palinodelaw04.awake -/
def palinodelaw04_awake_R (r : Bool) : Prop :=
  ∃ y18 : (List UInt8), show_List_R ([(10 : UInt8)]) 0 y18 ∧ (((((⟨y18.toArray⟩ : ByteArray)).toList == ((⟨#[92, 110, 36]⟩ : ByteArray)).toList) = true → ∃ y25 : ByteArray, show_Quote_R ([(97 : UInt8), (34 : UInt8)]) y25 ∧ (((y25.toList == ((⟨#[34, 97, 92, 34, 34]⟩ : ByteArray)).toList) = true → ∃ y29 : ByteArray, show_Row_R ([(⟨#[97]⟩ : ByteArray), (⟨#[98]⟩ : ByteArray)]) y29 ∧ r = (y29.toList == ((⟨#[97, 32, 98]⟩ : ByteArray)).toList)) ∧ (¬ ((y25.toList == ((⟨#[34, 97, 92, 34, 34]⟩ : ByteArray)).toList) = true) → r = false))) ∧ (¬ ((((⟨y18.toArray⟩ : ByteArray)).toList == ((⟨#[92, 110, 36]⟩ : ByteArray)).toList) = true) → r = false))
def palinodelaw04_awake_ev (fuel : Nat) : Option (Bool) :=
  ((show_List_ev fuel ([(10 : UInt8)]) 0).bind fun y18 => (if (((⟨y18.toArray⟩ : ByteArray)).toList == ((⟨#[92, 110, 36]⟩ : ByteArray)).toList) = true then ((show_Quote_ev fuel ([(97 : UInt8), (34 : UInt8)])).bind fun y25 => (if (y25.toList == ((⟨#[34, 97, 92, 34, 34]⟩ : ByteArray)).toList) = true then ((show_Row_ev fuel ([(⟨#[97]⟩ : ByteArray), (⟨#[98]⟩ : ByteArray)])).bind fun y29 => some (y29.toList == ((⟨#[97, 32, 98]⟩ : ByteArray)).toList)) else some false)) else some false))
theorem palinodelaw04_awake_ok {fuel : Nat} {r : Bool} (h : palinodelaw04_awake_ev fuel = some r) : palinodelaw04_awake_R r := by
  unfold palinodelaw04_awake_ev at h
  unfold palinodelaw04_awake_R
  obtain ⟨q49, g49, h⟩ := bind_ok h
  refine ⟨q49, show_List_ok g49, ?_⟩
  refine ⟨fun g50 => ?_, fun g50 => ?_⟩
  · rw [if_pos g50] at h
    obtain ⟨q51, g51, h⟩ := bind_ok h
    refine ⟨q51, show_Quote_ok g51, ?_⟩
    refine ⟨fun g52 => ?_, fun g52 => ?_⟩
    · rw [if_pos g52] at h
      obtain ⟨q53, g53, h⟩ := bind_ok h
      refine ⟨q53, show_Row_ok g53, ?_⟩
      exact (Option.some.inj h).symm
    · rw [if_neg g52] at h
      exact (Option.some.inj h).symm
  · rw [if_neg g50] at h
    exact (Option.some.inj h).symm
set_option maxHeartbeats 4000000 in
theorem palinodelaw04_awake_con (r : Bool) (h : palinodelaw04_awake_R r) : Con Try.prog 7 [] [] [] (Ret (.v (.bool r))) := by
  refine xenter Try.func7 rfl rfl fun g hg => ?_
  simp only [Try.ntmps7, slots]
  refine xseq ?_
  refine xregion ?_
  refine xvalP (pv_assign rfl) rfl rfl ?_
  refine xnil ?_
  refine xthen ?_
  refine xseq ?_
  refine xregion ?_
  refine xbuildSliceM (f := eb) [(10 : UInt8)] UndC.h InfC.h rfl rfl (by first | exact wkR_of rfl | (repeat (first | exact WkR.nil | refine WkR.cons (by (repeat (first | exact WkL.nil | refine WkL.cons (by first | with_reducible exact Wk.refl _ | exact Wk.nil_own _ | exact Wk.nil_pl _ | with_reducible exact Wk.tok _ _ _ | exact Wk.tok _ _ _ | exact Wk.eq (by first | rfl | (simp []; done) | (simp []; omega))) ?_))) ?_))) rfl rfl rfl rfl fun s1 => ?_
  refine xmark 0 UndC.h UndC.h rfl rfl rfl rfl ?_
  obtain ⟨y18, h17, h⟩ := h
  refine xcallM (show_List_con ([(10 : UInt8)]) 0 _ h17) Try.func8 (by kernel_rfl) rfl (.cons rfl (.refl _) (.cons rfl (.refl _) .nil)) rfl rfl fun i19 => ?_
  refine xval (pv_str (bs := y18) UndC.h UndC.h UndC.h rfl rfl rfl (fun _ h => by injection h with h; exact h.symm)) rfl rfl ?_
  refine xvalP (pv_bin2 rfl rfl rfl) rfl rfl ?_
  refine xvalP (pv_move rfl) rfl rfl ?_
  by_cases hp22 : (((⟨y18.toArray⟩ : ByteArray)).toList == ((⟨#[92, 110, 36]⟩ : ByteArray)).toList) = true
  · replace h := h.1 hp22
    refine xsetB 6 hp22 rfl ?_
    refine xbuildSliceM (f := eb) [(97 : UInt8), (34 : UInt8)] UndC.h InfC.h rfl rfl (by first | exact wkR_of rfl | (repeat (first | exact WkR.nil | refine WkR.cons (by (repeat (first | exact WkL.nil | refine WkL.cons (by first | with_reducible exact Wk.refl _ | exact Wk.nil_own _ | exact Wk.nil_pl _ | with_reducible exact Wk.tok _ _ _ | exact Wk.tok _ _ _ | exact Wk.eq (by first | rfl | (simp []; done) | (simp []; omega))) ?_))) ?_))) rfl rfl rfl rfl fun s7 => ?_
    refine xmark 0 UndC.h UndC.h rfl rfl rfl rfl ?_
    obtain ⟨y25, h24, h⟩ := h
    refine xcall0 (show_Quote_con ([(97 : UInt8), (34 : UInt8)]) _ h24) Try.func11 (by kernel_rfl) rfl (.cons rfl (.refl _) .nil) rfl rfl ?_
    refine xvalP (pv_bin2 rfl rfl rfl) rfl rfl ?_
    refine xvalP (pv_pick rfl rfl) rfl rfl ?_
    refine xvalP (pv_move rfl) rfl rfl ?_
    by_cases hp27 : (y25.toList == ((⟨#[34, 97, 92, 34, 34]⟩ : ByteArray)).toList) = true
    · replace h := h.1 hp27
      refine xsetB 12 hp27 rfl ?_
      refine xbuildSliceM (f := es) [(⟨#[97]⟩ : ByteArray), (⟨#[98]⟩ : ByteArray)] UndC.h InfC.h rfl rfl (by first | exact wkR_of rfl | (repeat (first | exact WkR.nil | refine WkR.cons (by (repeat (first | exact WkL.nil | refine WkL.cons (by first | with_reducible exact Wk.refl _ | exact Wk.nil_own _ | exact Wk.nil_pl _ | with_reducible exact Wk.tok _ _ _ | exact Wk.tok _ _ _ | exact Wk.eq (by first | rfl | (simp []; done) | (simp []; omega))) ?_))) ?_))) rfl rfl rfl rfl fun s13 => ?_
      obtain ⟨y29, h28, h⟩ := h
      refine xcall0 (show_Row_con ([(⟨#[97]⟩ : ByteArray), (⟨#[98]⟩ : ByteArray)]) _ h28) Try.func10 (by kernel_rfl) rfl (.cons rfl (.tok _ _ _) .nil) rfl rfl ?_
      refine xvalP (pv_bin2 rfl rfl rfl) rfl rfl ?_
      refine xvalP (pv_pick rfl rfl) rfl rfl ?_
      refine xvalP (pv_assign rfl) rfl rfl ?_
      refine xnil ?_
      refine xthen ?_
      refine xretc ?_
      replace h := h.symm
      subst h
      exact xret1 hg rfl rfl (.refl _) (SubM.of (.nil _) (.nil _)) ⟨rfl, rfl, rfl⟩
    · replace h := h.2 hp27
      refine xsetB 12 (b_f hp27) rfl ?_
      refine xskip rfl rfl ?_
      refine xskip rfl rfl ?_
      refine xskip rfl rfl ?_
      refine xvalP (pv_pick rfl rfl) rfl rfl ?_
      refine xvalP (pv_assign rfl) rfl rfl ?_
      refine xnil ?_
      refine xthen ?_
      refine xretc ?_
      replace h := h.symm
      subst h
      exact xret1 hg rfl rfl (.refl _) (SubM.of (.nil _) (.nil _)) ⟨rfl, rfl, rfl⟩
  · replace h := h.2 hp22
    refine xsetB 6 (b_f hp22) rfl ?_
    refine xskip rfl rfl ?_
    refine xskip rfl rfl ?_
    refine xskip rfl rfl ?_
    refine xskip rfl rfl ?_
    refine xvalP (pv_pick rfl rfl) rfl rfl ?_
    refine xvalP (pv_move rfl) rfl rfl ?_
    refine xskip rfl rfl ?_
    refine xskip rfl rfl ?_
    refine xskip rfl rfl ?_
    refine xvalP (pv_pick rfl rfl) rfl rfl ?_
    refine xvalP (pv_assign rfl) rfl rfl ?_
    refine xnil ?_
    refine xthen ?_
    refine xretc ?_
    replace h := h.symm
    subst h
    exact xret1 hg rfl rfl (.refl _) (SubM.of (.nil _) (.nil _)) ⟨rfl, rfl, rfl⟩
/-- palinoderef01.Same -/
def palinoderef01_Same_l1 (l1 : List UInt8) (bv3 : List UInt8) (ag1 : (Int) → Prop) (iv129 : Int) (r : Bool) : Prop :=
  ((iv129 < ((l1.length : Nat) : Int) → 0 ≤ (iv129 : Int) ∧ ∃ y181 : UInt8, l1[(iv129 : Int).toNat]? = some y181 ∧ 0 ≤ (iv129 : Int) ∧ ∃ y183 : UInt8, bv3[(iv129 : Int).toNat]? = some y183 ∧ ((¬ ((y181.toNat : Int) = (y183.toNat : Int)) → r = false) ∧ (¬ (¬ ((y181.toNat : Int) = (y183.toNat : Int))) → InR (iv129 + 1) ∧ ag1 (iv129 + 1)))) ∧ (¬ (iv129 < ((l1.length : Nat) : Int)) → r = true))
def palinoderef01_Same_R (l1 : List UInt8) (bv3 : List UInt8) (r : Bool) : Prop :=
  ((¬ (((l1.length : Nat) : Int) = (bv3.length : Int)) → r = false) ∧ (¬ (¬ (((l1.length : Nat) : Int) = (bv3.length : Int))) → LoopR (fun ag1 s => palinoderef01_Same_l1 l1 bv3 ag1 s r) 0))
def palinoderef01_Same_l1_ev (fuel : Nat) (l1 : List UInt8) (bv3 : List UInt8) (ag1e : (Int) → Option (Bool)) (iv129 : Int) : Option (Bool) :=
  (if iv129 < ((l1.length : Nat) : Int) then (if 0 ≤ (iv129 : Int) then ((l1[(iv129 : Int).toNat]?).bind fun y181 => (if 0 ≤ (iv129 : Int) then ((bv3[(iv129 : Int).toNat]?).bind fun y183 => (if ¬ ((y181.toNat : Int) = (y183.toNat : Int)) then some false else (if InR (iv129 + 1) then ag1e (iv129 + 1) else none))) else none)) else none) else some true)
theorem palinoderef01_Same_l1_ok {fuel : Nat} {l1 : List UInt8} {bv3 : List UInt8} {ag1e : (Int) → Option (Bool)} {ag1 : (Int) → Prop} {iv129 : Int} {r : Bool} (hagag1 : ∀ s, ag1e s = some r → ag1 s) (h : palinoderef01_Same_l1_ev fuel l1 bv3 ag1e iv129 = some r) : palinoderef01_Same_l1 l1 bv3 ag1 iv129 r := by
  unfold palinoderef01_Same_l1_ev at h
  unfold palinoderef01_Same_l1
  refine ⟨fun g54 => ?_, fun g54 => ?_⟩
  · rw [if_pos g54] at h
    obtain ⟨g55, h⟩ := if_ok h
    refine ⟨g55, ?_⟩
    obtain ⟨q56, g56, h⟩ := bind_ok h
    refine ⟨q56, g56, ?_⟩
    obtain ⟨g57, h⟩ := if_ok h
    refine ⟨g57, ?_⟩
    obtain ⟨q58, g58, h⟩ := bind_ok h
    refine ⟨q58, g58, ?_⟩
    refine ⟨fun g59 => ?_, fun g59 => ?_⟩
    · rw [if_pos g59] at h
      exact (Option.some.inj h).symm
    · rw [if_neg g59] at h
      obtain ⟨g60, h⟩ := if_ok h
      refine ⟨g60, ?_⟩
      exact hagag1 _ h
  · rw [if_neg g54] at h
    exact (Option.some.inj h).symm
def palinoderef01_Same_ev (fuel : Nat) (l1 : List UInt8) (bv3 : List UInt8) : Option (Bool) :=
  (if ¬ (((l1.length : Nat) : Int) = (bv3.length : Int)) then some false else (loopE (fun ag1e s => palinoderef01_Same_l1_ev fuel l1 bv3 ag1e s) fuel 0))
theorem palinoderef01_Same_ok {fuel : Nat} {l1 : List UInt8} {bv3 : List UInt8} {r : Bool} (h : palinoderef01_Same_ev fuel l1 bv3 = some r) : palinoderef01_Same_R l1 bv3 r := by
  unfold palinoderef01_Same_ev at h
  unfold palinoderef01_Same_R
  refine ⟨fun g61 => ?_, fun g61 => ?_⟩
  · rw [if_pos g61] at h
    exact (Option.some.inj h).symm
  · rw [if_neg g61] at h
    refine loopE_ok ?_ h
    intro ae ag s hag h
    exact palinoderef01_Same_l1_ok hag h
set_option maxHeartbeats 4000000 in
theorem palinoderef01_Same_con (l1 : List UInt8) (bv3 : List UInt8) (ia2 : Option (Nat × Nat)) (r : Bool) (h : palinoderef01_Same_R l1 bv3 r) : Con Try.prog 9 [.rb ia2 l1.length, .sl 1 none (List.map eb bv3)] [rbx ia2 5 1 (List.map eb l1)] [] (fun rr bx tk => rr = .v (.bool r) ∧ bx = [rbx ia2 5 1 (List.map eb l1)] ∧ tk = []) := by
  refine xenter Try.func9 rfl rfl fun g hg => ?_
  simp only [Try.ntmps9, slots]
  refine xseq ?_
  refine xregion ?_
  refine xvalP (pv_assign rfl) rfl rfl ?_
  refine xnil ?_
  refine xthen ?_
  refine xseq ?_
  refine xseq ?_
  refine xregion ?_
  refine xvalP (pv_move rfl) rfl rfl ?_
  refine xvalP (pv_lenRb UndC.h rfl) rfl rfl ?_
  refine xvalP (pv_move rfl) rfl rfl ?_
  refine xvalP (pv_lenM UndC.h rfl) rfl rfl ?_
  refine xvalP (pv_bin2 rfl rfl rfl) rfl rfl ?_
  refine xnil ?_
  refine xthen ?_
  by_cases hp11 : ¬ (((l1.length : Nat) : Int) = (bv3.length : Int))
  · replace h := h.1 hp11
    refine xcondT' (not_t (decide_eq_false hp11)) rfl ?_
    refine xseq ?_
    refine xregion ?_
    refine xvalP (pv_assign rfl) rfl rfl ?_
    refine xnil ?_
    refine xthen ?_
    refine xretc ?_
    refine xthen_ret ?_
    replace h := h.symm
    subst h
    exact xret1 (bx' := [rbx ia2 5 1 (List.map eb l1)]) (tk' := []) hg rfl rfl (.refl _) (SubM.of (.keep rfl rfl (.refl _) (.nil _)) (.nil _)) ⟨rfl, rfl, rfl⟩
  · replace h := h.2 hp11
    refine xcondF' (not_f (decide_eq_true (Decidable.of_not_not hp11))) rfl ?_
    refine xskipc ?_
    refine xthen ?_
    refine xseq ?_
    refine xseq ?_
    refine xregion ?_
    refine xvalP (pv_assign rfl) rfl rfl ?_
    refine xnil ?_
    refine xthen ?_
    refine xblock ?_
    obtain ⟨Inv, ⟨m0, hI⟩, hS⟩ := h
    refine xloop (fun σ m => ∃ (iv129 : Int), Inv iv129 m ∧ σ = ⟨[(0, .rb ia2 l1.length), (1, .sl 1 none (List.map eb bv3)), (5, .v (.int .i64 iv129))], [rbx ia2 5 1 (List.map eb l1)], []⟩) ⟨0, hI, rfl⟩ ⟨(.cons rfl (.eq (by first | rfl | simp)) (.cons rfl (.refl _) (.cons rfl (.refl _) (.nil _)))), by exact (SubM.of (.keep rfl rfl (.refl _) (.nil _)) (.nil _))⟩ ?_
    rintro _ m ⟨iv129, hI, rfl⟩
    obtain ⟨ag1, hag1, h⟩ : ∃ ag, (∀ s', ag s' → ∃ m', m' < m ∧ Inv s' m') ∧ palinoderef01_Same_l1 l1 bv3 ag iv129 r := ⟨_, fun _ h => h, hS iv129 _ hI⟩
    clear hS hI
    refine xseq ?_
    refine xseq ?_
    refine xregion ?_
    refine xvalP (pv_move rfl) rfl rfl ?_
    refine xvalP (pv_move rfl) rfl rfl ?_
    refine xvalP (pv_lenRb UndC.h rfl) rfl rfl ?_
    refine xvalP (pv_bin2 rfl rfl rfl) rfl rfl ?_
    refine xnil ?_
    refine xthen ?_
    by_cases hp164 : iv129 < ((l1.length : Nat) : Int)
    · replace h := h.1 hp164
      refine xcondT' (decide_eq_true hp164) rfl ?_
      refine xskipc ?_
      refine xthen ?_
      refine xseq ?_
      refine xblock ?_
      refine xseq ?_
      refine xregionD (m := 9) (by kernel_rfl) rfl ?_
      obtain ⟨h182a, h⟩ := h
      obtain ⟨y181, h182b, h⟩ := h
      obtain ⟨h184a, h⟩ := h
      obtain ⟨y183, h184b, h⟩ := h
      refine xpval 0 rfl (pv_move rfl) rfl rfl (by kernel_rfl) (by kernel_rfl) (by kernel_rfl) (fun _ _ _ _ h => h) ?_
      refine xpval 1 rfl (pv_move rfl) rfl rfl (by kernel_rfl) (by kernel_rfl) (by kernel_rfl) (fun _ _ _ _ h => h) ?_
      refine xpval 2 rfl (pv_indexAddrRbM rfl h182a h182b UndC.h ShpC.h rfl rfl) rfl rfl (by kernel_rfl) (by kernel_rfl) (by kernel_rfl) (fun _ _ _ _ h => h) ?_
      refine xpval 4 rfl (pv_move rfl) rfl rfl (by kernel_rfl) (by kernel_rfl) (by kernel_rfl) (fun _ _ _ _ h => h) ?_
      refine xpval 5 rfl (pv_move rfl) rfl rfl (by kernel_rfl) (by kernel_rfl) (by kernel_rfl) (fun _ _ _ _ h => h) ?_
      refine xpval 6 rfl (pv_indexAddrM h184a h184b UndC.h ShpC.h rfl rfl) rfl rfl (by kernel_rfl) (by kernel_rfl) (by kernel_rfl) (fun _ _ _ _ h => h) ?_
      refine xpvalE 3 [7] rfl (qv_loadRb (f := eb) (k := 1) (off := 0) (i := (iv129 : Int).toNat) 0 h182b rfl (by decide) rfl ShpC.h rfl rfl) rfl rfl (by kernel_rfl) (by kernel_rfl) (by kernel_rfl) (fun _ _ _ _ h => h) ?_
      refine xpvalE 7 [] rfl (qv_load ShpC.h rfl rfl rfl) rfl rfl (by kernel_rfl) (by kernel_rfl) (by kernel_rfl) (fun _ _ _ _ h => h) ?_
      refine xpval 8 rfl (pv_bin2 rfl rfl rfl) rfl rfl (by kernel_rfl) (by kernel_rfl) (by kernel_rfl) (fun _ _ _ _ h => h) ?_
      refine xpdone (by kernel_rfl) ?_
      refine xthen ?_
      by_cases hp186 : ¬ ((y181.toNat : Int) = (y183.toNat : Int))
      · replace h := h.1 hp186
        refine xcondT' (not_t (decide_eq_false hp186)) rfl ?_
        refine xseq ?_
        refine xregion ?_
        refine xvalP (pv_assign rfl) rfl rfl ?_
        refine xnil ?_
        refine xthen ?_
        refine xretc ?_
        refine xin_ret ?_
        refine xthen_ret ?_
        refine xthen_ret ?_
        refine xin_ret ?_
        refine xthen_ret ?_
        replace h := h.symm
        subst h
        exact xret1 (bx' := [rbx ia2 5 1 (List.map eb l1)]) (tk' := []) hg rfl rfl (.refl _) (SubM.of (.keep rfl rfl (.refl _) (.nil _)) (.nil _)) ⟨rfl, rfl, rfl⟩
      · replace h := h.2 hp186
        refine xcondF' (not_f (decide_eq_true (Decidable.of_not_not hp186))) rfl ?_
        refine xskipc ?_
        refine xin_normal ?_
        refine xthen ?_
        refine xregion ?_
        refine xvalP (pv_move rfl) rfl rfl ?_
        obtain ⟨h187, h⟩ := h
        refine xvalP (pv_addI h187 rfl rfl) rfl rfl ?_
        refine xvalP (pv_assign rfl) rfl rfl ?_
        refine xnil ?_
        obtain ⟨m', hm, hI⟩ := hag1 _ h
        exact xagain ⟨(iv129 + 1), hI, rfl⟩ hm ⟨(.cons rfl (.eq (by first | rfl | simp)) (.cons rfl (.refl _) (.cons rfl (.refl _) (.nil _)))), by exact (SubM.of (.keep rfl rfl (.refl _) (.nil _)) (.nil _))⟩
    · replace h := h.2 hp164
      refine xcondF' (decide_eq_false hp164) rfl ?_
      refine xexit ?_
      refine xthen_exit ?_
      refine xthen_exit ?_
      refine xin_same rfl ?_
      refine xthen ?_
      refine xseq ?_
      refine xregion ?_
      refine xvalP (pv_assign rfl) rfl rfl ?_
      refine xnil ?_
      refine xthen ?_
      refine xretc ?_
      replace h := h.symm
      subst h
      exact xret1 (bx' := [rbx ia2 5 1 (List.map eb l1)]) (tk' := []) hg rfl rfl (.refl _) (SubM.of (.keep rfl rfl (.refl _) (.nil _)) (.nil _)) ⟨rfl, rfl, rfl⟩
/-- internal/stringslite.IndexByte -/
def internal_stringslite_IndexByte_R (sv1 : ByteArray) (c2 : UInt8) (r : Int) : Prop :=
  r = (idxB sv1.data.toList c2)
def internal_stringslite_IndexByte_ev (fuel : Nat) (sv1 : ByteArray) (c2 : UInt8) : Option (Int) :=
  some (idxB sv1.data.toList c2)
theorem internal_stringslite_IndexByte_ok {fuel : Nat} {sv1 : ByteArray} {c2 : UInt8} {r : Int} (h : internal_stringslite_IndexByte_ev fuel sv1 c2 = some r) : internal_stringslite_IndexByte_R sv1 c2 r := by
  unfold internal_stringslite_IndexByte_ev at h
  unfold internal_stringslite_IndexByte_R
  exact (Option.some.inj h).symm
set_option maxHeartbeats 4000000 in
theorem internal_stringslite_IndexByte_con (sv1 : ByteArray) (c2 : UInt8) (r : Int) (h : internal_stringslite_IndexByte_R sv1 c2 r) : Con Try.prog 28 [.v (.string sv1), .v (.int .u8 ((c2.toNat : Int)))] [] [] (Ret (.v (.int .i64 r))) := by
  refine xenter Try.func28 rfl rfl fun g hg => ?_
  simp only [Try.ntmps28, slots]
  refine xseq ?_
  refine xregion ?_
  refine xvalP (pv_assign rfl) rfl rfl ?_
  refine xnil ?_
  refine xthen ?_
  refine xseq ?_
  refine xregion ?_
  refine xvalP (pv_move rfl) rfl rfl ?_
  refine xvalP (pv_move rfl) rfl rfl ?_
  refine xvalP (pv_idxS Try.func30 (by kernel_rfl) (by kernel_rfl) (by kernel_rfl) (by kernel_rfl) rfl rfl) rfl rfl ?_
  refine xvalP (pv_assign rfl) rfl rfl ?_
  refine xnil ?_
  refine xthen ?_
  refine xretc ?_
  replace h := h.symm
  subst h
  exact xret1 hg rfl rfl (.refl _) (SubM.of (.nil _) (.nil _)) ⟨rfl, rfl, rfl⟩
/-- strings.IndexByte -/
def strings_IndexByte_R (sv1 : ByteArray) (c2 : UInt8) (r : Int) : Prop :=
  ∃ y4 : Int, internal_stringslite_IndexByte_R sv1 c2 y4 ∧ r = y4
def strings_IndexByte_ev (fuel : Nat) (sv1 : ByteArray) (c2 : UInt8) : Option (Int) :=
  ((internal_stringslite_IndexByte_ev fuel sv1 c2).bind fun y4 => some y4)
theorem strings_IndexByte_ok {fuel : Nat} {sv1 : ByteArray} {c2 : UInt8} {r : Int} (h : strings_IndexByte_ev fuel sv1 c2 = some r) : strings_IndexByte_R sv1 c2 r := by
  unfold strings_IndexByte_ev at h
  unfold strings_IndexByte_R
  obtain ⟨q103, g103, h⟩ := bind_ok h
  refine ⟨q103, internal_stringslite_IndexByte_ok g103, ?_⟩
  exact (Option.some.inj h).symm
set_option maxHeartbeats 4000000 in
theorem strings_IndexByte_con (sv1 : ByteArray) (c2 : UInt8) (r : Int) (h : strings_IndexByte_R sv1 c2 r) : Con Try.prog 24 [.v (.string sv1), .v (.int .u8 ((c2.toNat : Int)))] [] [] (Ret (.v (.int .i64 r))) := by
  refine xenter Try.func24 rfl rfl fun g hg => ?_
  simp only [Try.ntmps24, slots]
  refine xseq ?_
  refine xregion ?_
  refine xvalP (pv_assign rfl) rfl rfl ?_
  refine xnil ?_
  refine xthen ?_
  refine xseq ?_
  refine xregion ?_
  refine xvalP (pv_move rfl) rfl rfl ?_
  refine xvalP (pv_move rfl) rfl rfl ?_
  obtain ⟨y4, h3, h⟩ := h
  refine xcall0 (internal_stringslite_IndexByte_con sv1 c2 _ h3) Try.func28 (by kernel_rfl) rfl (.cons rfl (.refl _) (.cons rfl (.refl _) .nil)) rfl rfl ?_
  refine xvalP (pv_assign rfl) rfl rfl ?_
  refine xnil ?_
  refine xthen ?_
  refine xretc ?_
  replace h := h.symm
  subst h
  exact xret1 hg rfl rfl (.refl _) (SubM.of (.nil _) (.nil _)) ⟨rfl, rfl, rfl⟩
/-- show.isOctal -/
def show_isOctal_R (c1 : UInt8) (r : Bool) : Prop :=
  ((48 ≤ (c1.toNat : Int) → r = (decide ((c1.toNat : Int) ≤ 55))) ∧ (¬ (48 ≤ (c1.toNat : Int)) → r = false))
def show_isOctal_ev (fuel : Nat) (c1 : UInt8) : Option (Bool) :=
  (if 48 ≤ (c1.toNat : Int) then some (decide ((c1.toNat : Int) ≤ 55)) else some false)
theorem show_isOctal_ok {fuel : Nat} {c1 : UInt8} {r : Bool} (h : show_isOctal_ev fuel c1 = some r) : show_isOctal_R c1 r := by
  unfold show_isOctal_ev at h
  unfold show_isOctal_R
  refine ⟨fun g104 => ?_, fun g104 => ?_⟩
  · rw [if_pos g104] at h
    exact (Option.some.inj h).symm
  · rw [if_neg g104] at h
    exact (Option.some.inj h).symm
set_option maxHeartbeats 4000000 in
theorem show_isOctal_con (c1 : UInt8) (r : Bool) (h : show_isOctal_R c1 r) : Con Try.prog 25 [.v (.int .u8 ((c1.toNat : Int)))] [] [] (Ret (.v (.bool r))) := by
  refine xenter Try.func25 rfl rfl fun g hg => ?_
  simp only [Try.ntmps25, slots]
  refine xseq ?_
  refine xregion ?_
  refine xvalP (pv_assign rfl) rfl rfl ?_
  refine xnil ?_
  refine xthen ?_
  refine xseq ?_
  refine xregion ?_
  refine xvalP (pv_move rfl) rfl rfl ?_
  refine xvalP (pv_bin2 rfl rfl rfl) rfl rfl ?_
  refine xvalP (pv_move rfl) rfl rfl ?_
  by_cases hp6 : 48 ≤ (c1.toNat : Int)
  · replace h := h.1 hp6
    refine xsetB 5 (decide_eq_true hp6) rfl ?_
    refine xvalP (pv_move rfl) rfl rfl ?_
    refine xvalP (pv_bin2 rfl rfl rfl) rfl rfl ?_
    refine xvalP (pv_pick rfl rfl) rfl rfl ?_
    refine xvalP (pv_assign rfl) rfl rfl ?_
    refine xnil ?_
    refine xthen ?_
    refine xretc ?_
    replace h := h.symm
    subst h
    exact xret1 hg rfl rfl (.refl _) (SubM.of (.nil _) (.nil _)) ⟨rfl, rfl, rfl⟩
  · replace h := h.2 hp6
    refine xsetB 5 (decide_eq_false hp6) rfl ?_
    refine xskip rfl rfl ?_
    refine xskip rfl rfl ?_
    refine xvalP (pv_pick rfl rfl) rfl rfl ?_
    refine xvalP (pv_assign rfl) rfl rfl ?_
    refine xnil ?_
    refine xthen ?_
    refine xretc ?_
    replace h := h.symm
    subst h
    exact xret1 hg rfl rfl (.refl _) (SubM.of (.nil _) (.nil _)) ⟨rfl, rfl, rfl⟩
/-- show.escape -/
def show_escape_l2 (sv1 : ByteArray) (ag2 : (Int × Int) → Prop) (nv176 : Int) (sum177 : Int) (r : UInt8 × Int × Int) : Prop :=
  ((nv176 < 3 → ((nv176 = (sv1.size : Int) → r = ((0 : UInt8), 0, 2)) ∧ (¬ (nv176 = (sv1.size : Int)) → 0 ≤ (nv176 : Int) ∧ ∃ c222 : UInt8, sv1[(nv176 : Int).toNat]? = some c222 ∧ ∃ y224 : Bool, show_isOctal_R c222 y224 ∧ ((¬ (y224 = true) → r = ((0 : UInt8), 0, 10)) ∧ (¬ (¬ (y224 = true)) → InR (sum177 * 8) ∧ 0 ≤ (nv176 : Int) ∧ ∃ c228 : UInt8, sv1[(nv176 : Int).toNat]? = some c228 ∧ ∃ c230 : UInt8, (c230.toNat : Int) = IntKind.u8.wrap ((c228.toNat : Int) - 48) ∧ InR ((sum177 * 8) + (c230.toNat : Int)) ∧ InR (nv176 + 1) ∧ ag2 ((nv176 + 1), ((sum177 * 8) + (c230.toNat : Int)))))))) ∧ (¬ (nv176 < 3) → ((255 < sum177 → r = ((0 : UInt8), 0, 10)) ∧ (¬ (255 < sum177) → ∃ c239 : UInt8, (c239.toNat : Int) = IntKind.u8.wrap sum177 ∧ r = (c239, nv176, 0)))))
def show_escape_j1 (sv1 : ByteArray) (x31 : Bool) (r : UInt8 × Int × Int) : Prop :=
  ((x31 = true → 0 ≤ (0 : Int) ∧ ∃ c41 : UInt8, sv1[(0 : Int).toNat]? = some c41 ∧ r = (c41, 1, 0)) ∧ (¬ (x31 = true) → 0 ≤ (0 : Int) ∧ ∃ c53 : UInt8, sv1[(0 : Int).toNat]? = some c53 ∧ ∃ y55 : Int, strings_IndexByte_R (⟨#[97, 98, 116, 110, 118, 102, 114]⟩ : ByteArray) c53 y55 ∧ ((0 ≤ y55 → ∃ c59 : UInt8, (c59.toNat : Int) = IntKind.u8.wrap y55 ∧ ∃ c61 : UInt8, (c61.toNat : Int) = IntKind.u8.wrap (7 + (c59.toNat : Int)) ∧ r = (c61, 1, 0)) ∧ (¬ (0 ≤ y55) → LoopR (fun ag2 s => show_escape_l2 sv1 ag2 s.1 s.2 r) (0, 0)))))
def show_escape_R (sv1 : ByteArray) (r : UInt8 × Int × Int) : Prop :=
  (((sv1.toList == ((⟨#[]⟩ : ByteArray)).toList) = true → r = ((0 : UInt8), 0, 2)) ∧ (¬ ((sv1.toList == ((⟨#[]⟩ : ByteArray)).toList) = true) → 0 ≤ (0 : Int) ∧ ∃ c33 : UInt8, sv1[(0 : Int).toNat]? = some c33 ∧ (((c33.toNat : Int) = 92 → show_escape_j1 sv1 true r) ∧ (¬ ((c33.toNat : Int) = 92) → 0 ≤ (0 : Int) ∧ ∃ c37 : UInt8, sv1[(0 : Int).toNat]? = some c37 ∧ show_escape_j1 sv1 (decide ((c37.toNat : Int) = 34)) r))))
def show_escape_l2_ev (fuel : Nat) (sv1 : ByteArray) (ag2e : (Int × Int) → Option (UInt8 × Int × Int)) (nv176 : Int) (sum177 : Int) : Option (UInt8 × Int × Int) :=
  (if nv176 < 3 then (if nv176 = (sv1.size : Int) then some ((0 : UInt8), 0, 2) else (if 0 ≤ (nv176 : Int) then ((sv1[(nv176 : Int).toNat]?).bind fun c222 => ((show_isOctal_ev fuel c222).bind fun y224 => (if ¬ (y224 = true) then some ((0 : UInt8), 0, 10) else (if InR (sum177 * 8) then (if 0 ≤ (nv176 : Int) then ((sv1[(nv176 : Int).toNat]?).bind fun c228 => (exB (IntKind.u8.wrap ((c228.toNat : Int) - 48)) fun c230 => (if InR ((sum177 * 8) + (c230.toNat : Int)) then (if InR (nv176 + 1) then ag2e ((nv176 + 1), ((sum177 * 8) + (c230.toNat : Int))) else none) else none))) else none) else none)))) else none)) else (if 255 < sum177 then some ((0 : UInt8), 0, 10) else (exB (IntKind.u8.wrap sum177) fun c239 => some (c239, nv176, 0))))
theorem show_escape_l2_ok {fuel : Nat} {sv1 : ByteArray} {ag2e : (Int × Int) → Option (UInt8 × Int × Int)} {ag2 : (Int × Int) → Prop} {nv176 : Int} {sum177 : Int} {r : UInt8 × Int × Int} (hagag2 : ∀ s, ag2e s = some r → ag2 s) (h : show_escape_l2_ev fuel sv1 ag2e nv176 sum177 = some r) : show_escape_l2 sv1 ag2 nv176 sum177 r := by
  unfold show_escape_l2_ev at h
  unfold show_escape_l2
  refine ⟨fun g105 => ?_, fun g105 => ?_⟩
  · rw [if_pos g105] at h
    refine ⟨fun g106 => ?_, fun g106 => ?_⟩
    · rw [if_pos g106] at h
      exact (Option.some.inj h).symm
    · rw [if_neg g106] at h
      obtain ⟨g107, h⟩ := if_ok h
      refine ⟨g107, ?_⟩
      obtain ⟨q108, g108, h⟩ := bind_ok h
      refine ⟨q108, g108, ?_⟩
      obtain ⟨q109, g109, h⟩ := bind_ok h
      refine ⟨q109, show_isOctal_ok g109, ?_⟩
      refine ⟨fun g110 => ?_, fun g110 => ?_⟩
      · rw [if_pos g110] at h
        exact (Option.some.inj h).symm
      · rw [if_neg g110] at h
        obtain ⟨g111, h⟩ := if_ok h
        refine ⟨g111, ?_⟩
        obtain ⟨g112, h⟩ := if_ok h
        refine ⟨g112, ?_⟩
        obtain ⟨q113, g113, h⟩ := bind_ok h
        refine ⟨q113, g113, ?_⟩
        obtain ⟨q114, g114, h⟩ := exB_ok h
        refine ⟨q114, g114, ?_⟩
        obtain ⟨g115, h⟩ := if_ok h
        refine ⟨g115, ?_⟩
        obtain ⟨g116, h⟩ := if_ok h
        refine ⟨g116, ?_⟩
        exact hagag2 _ h
  · rw [if_neg g105] at h
    refine ⟨fun g117 => ?_, fun g117 => ?_⟩
    · rw [if_pos g117] at h
      exact (Option.some.inj h).symm
    · rw [if_neg g117] at h
      obtain ⟨q118, g118, h⟩ := exB_ok h
      refine ⟨q118, g118, ?_⟩
      exact (Option.some.inj h).symm
def show_escape_j1_ev (fuel : Nat) (sv1 : ByteArray) (x31 : Bool) : Option (UInt8 × Int × Int) :=
  (if x31 = true then (if 0 ≤ (0 : Int) then ((sv1[(0 : Int).toNat]?).bind fun c41 => some (c41, 1, 0)) else none) else (if 0 ≤ (0 : Int) then ((sv1[(0 : Int).toNat]?).bind fun c53 => ((strings_IndexByte_ev fuel (⟨#[97, 98, 116, 110, 118, 102, 114]⟩ : ByteArray) c53).bind fun y55 => (if 0 ≤ y55 then (exB (IntKind.u8.wrap y55) fun c59 => (exB (IntKind.u8.wrap (7 + (c59.toNat : Int))) fun c61 => some (c61, 1, 0))) else (loopE (fun ag2e s => show_escape_l2_ev fuel sv1 ag2e s.1 s.2) fuel (0, 0))))) else none))
theorem show_escape_j1_ok {fuel : Nat} {sv1 : ByteArray} {x31 : Bool} {r : UInt8 × Int × Int} (h : show_escape_j1_ev fuel sv1 x31 = some r) : show_escape_j1 sv1 x31 r := by
  unfold show_escape_j1_ev at h
  unfold show_escape_j1
  refine ⟨fun g119 => ?_, fun g119 => ?_⟩
  · rw [if_pos g119] at h
    obtain ⟨g120, h⟩ := if_ok h
    refine ⟨g120, ?_⟩
    obtain ⟨q121, g121, h⟩ := bind_ok h
    refine ⟨q121, g121, ?_⟩
    exact (Option.some.inj h).symm
  · rw [if_neg g119] at h
    obtain ⟨g122, h⟩ := if_ok h
    refine ⟨g122, ?_⟩
    obtain ⟨q123, g123, h⟩ := bind_ok h
    refine ⟨q123, g123, ?_⟩
    obtain ⟨q124, g124, h⟩ := bind_ok h
    refine ⟨q124, strings_IndexByte_ok g124, ?_⟩
    refine ⟨fun g125 => ?_, fun g125 => ?_⟩
    · rw [if_pos g125] at h
      obtain ⟨q126, g126, h⟩ := exB_ok h
      refine ⟨q126, g126, ?_⟩
      obtain ⟨q127, g127, h⟩ := exB_ok h
      refine ⟨q127, g127, ?_⟩
      exact (Option.some.inj h).symm
    · rw [if_neg g125] at h
      refine loopE_ok ?_ h
      intro ae ag s hag h
      exact show_escape_l2_ok hag h
def show_escape_ev (fuel : Nat) (sv1 : ByteArray) : Option (UInt8 × Int × Int) :=
  (if (sv1.toList == ((⟨#[]⟩ : ByteArray)).toList) = true then some ((0 : UInt8), 0, 2) else (if 0 ≤ (0 : Int) then ((sv1[(0 : Int).toNat]?).bind fun c33 => (if (c33.toNat : Int) = 92 then show_escape_j1_ev fuel sv1 true else (if 0 ≤ (0 : Int) then ((sv1[(0 : Int).toNat]?).bind fun c37 => show_escape_j1_ev fuel sv1 (decide ((c37.toNat : Int) = 34))) else none))) else none))
theorem show_escape_ok {fuel : Nat} {sv1 : ByteArray} {r : UInt8 × Int × Int} (h : show_escape_ev fuel sv1 = some r) : show_escape_R sv1 r := by
  unfold show_escape_ev at h
  unfold show_escape_R
  refine ⟨fun g128 => ?_, fun g128 => ?_⟩
  · rw [if_pos g128] at h
    exact (Option.some.inj h).symm
  · rw [if_neg g128] at h
    obtain ⟨g129, h⟩ := if_ok h
    refine ⟨g129, ?_⟩
    obtain ⟨q130, g130, h⟩ := bind_ok h
    refine ⟨q130, g130, ?_⟩
    refine ⟨fun g131 => ?_, fun g131 => ?_⟩
    · rw [if_pos g131] at h
      exact show_escape_j1_ok h
    · rw [if_neg g131] at h
      obtain ⟨g132, h⟩ := if_ok h
      refine ⟨g132, ?_⟩
      obtain ⟨q133, g133, h⟩ := bind_ok h
      refine ⟨q133, g133, ?_⟩
      exact show_escape_j1_ok h
set_option maxHeartbeats 4000000 in
theorem show_escape_con (sv1 : ByteArray) (r : UInt8 × Int × Int) (h : show_escape_R sv1 r) : Con Try.prog 20 [.v (.string sv1)] [] [] (fun rr bx tk => rr = .tup [.v (.int .u8 ((r.1.toNat : Int))), .v (.int .i64 r.2.1), .v (.int .i64 r.2.2)] ∧ bx = [] ∧ tk = []) := by
  refine xenter Try.func20 rfl rfl fun g hg => ?_
  simp only [Try.ntmps20, slots]
  refine xseq ?_
  refine xregion ?_
  refine xvalP (pv_assign rfl) rfl rfl ?_
  refine xvalP (pv_assign rfl) rfl rfl ?_
  refine xvalP (pv_assign rfl) rfl rfl ?_
  refine xnil ?_
  refine xthen ?_
  refine xseq ?_
  refine xseq ?_
  refine xregion ?_
  refine xvalP (pv_move rfl) rfl rfl ?_
  refine xvalP (pv_bin2 rfl rfl rfl) rfl rfl ?_
  refine xnil ?_
  refine xthen ?_
  by_cases hp5 : (sv1.toList == ((⟨#[]⟩ : ByteArray)).toList) = true
  · replace h := h.1 hp5
    refine xcondT' hp5 rfl ?_
    refine xseq ?_
    refine xregion ?_
    refine xvalP (pv_assign rfl) rfl rfl ?_
    refine xvalP (pv_assign rfl) rfl rfl ?_
    refine xvalP (pv_assign rfl) rfl rfl ?_
    refine xnil ?_
    refine xthen ?_
    refine xretc ?_
    refine xthen_ret ?_
    replace h := h.symm
    subst h
    exact xret3 hg rfl rfl (.eq rfl) rfl (.refl _) rfl (.refl _) (SubM.of (.nil _) (.nil _)) ⟨rfl, rfl, rfl⟩
  · replace h := h.2 hp5
    refine xcondF' (b_f hp5) rfl ?_
    refine xskipc ?_
    refine xthen ?_
    refine xseq ?_
    refine xseqM (fun σ => ∃ (x31 : Bool), show_escape_j1 sv1 x31 r ∧ σ = ⟨[(0, .v (.string sv1)), (3, .v (.int .i64 0)), (16, .v (.bool x31))], [], []⟩) ?_ ?_
    · refine xregion ?_
      refine xvalP (pv_move rfl) rfl rfl ?_
      obtain ⟨h32, h⟩ := h
      obtain ⟨c33, h32b, h⟩ := h
      refine xvalP (pv_indexSM h32 h32b UndC.h rfl rfl) rfl rfl ?_
      refine xvalP (pv_bin2 rfl rfl rfl) rfl rfl ?_
      refine xvalP (pv_move rfl) rfl rfl ?_
      by_cases hp35 : (c33.toNat : Int) = 92
      · replace h := h.1 hp35
        refine xsetB 12 (decide_eq_true hp35) rfl ?_
        refine xskip rfl rfl ?_
        refine xskip rfl rfl ?_
        refine xskip rfl rfl ?_
        refine xvalP (pv_pick rfl rfl) rfl rfl ?_
        refine xnil ?_
        exact xmeet ⟨true, h, rfl⟩ ⟨(.cons rfl (.refl _) (.cons rfl (.refl _) (.cons rfl (.refl _) (.nil _)))), (SubM.of (.nil _) (.nil _))⟩
      · replace h := h.2 hp35
        refine xsetB 12 (decide_eq_false hp35) rfl ?_
        refine xvalP (pv_move rfl) rfl rfl ?_
        obtain ⟨h36, h⟩ := h
        obtain ⟨c37, h36b, h⟩ := h
        refine xvalP (pv_indexSM h36 h36b UndC.h rfl rfl) rfl rfl ?_
        refine xvalP (pv_bin2 rfl rfl rfl) rfl rfl ?_
        refine xvalP (pv_pick rfl rfl) rfl rfl ?_
        refine xnil ?_
        exact xmeet ⟨(decide ((c37.toNat : Int) = 34)), h, rfl⟩ ⟨(.cons rfl (.refl _) (.cons rfl (.refl _) (.cons rfl (.refl _) (.nil _)))), (SubM.of (.nil _) (.nil _))⟩
    · clear h
      rintro _ ⟨x31, h, rfl⟩
      by_cases hp39 : x31 = true
      · replace h := h.1 hp39
        refine xcondT' hp39 rfl ?_
        refine xseq ?_
        refine xregion ?_
        refine xvalP (pv_move rfl) rfl rfl ?_
        obtain ⟨h40, h⟩ := h
        obtain ⟨c41, h40b, h⟩ := h
        refine xvalP (pv_indexSM h40 h40b UndC.h rfl rfl) rfl rfl ?_
        refine xvalP (pv_assign rfl) rfl rfl ?_
        refine xvalP (pv_assign rfl) rfl rfl ?_
        refine xvalP (pv_assign rfl) rfl rfl ?_
        refine xnil ?_
        refine xthen ?_
        refine xretc ?_
        refine xthen_ret ?_
        replace h := h.symm
        subst h
        exact xret3 hg rfl rfl (.eq rfl) rfl (.refl _) rfl (.refl _) (SubM.of (.nil _) (.nil _)) ⟨rfl, rfl, rfl⟩
      · replace h := h.2 hp39
        refine xcondF' (b_f hp39) rfl ?_
        refine xskipc ?_
        refine xthen ?_
        refine xseq ?_
        refine xseq ?_
        refine xregion ?_
        refine xvalP (pv_move rfl) rfl rfl ?_
        obtain ⟨h52, h⟩ := h
        obtain ⟨c53, h52b, h⟩ := h
        refine xvalP (pv_indexSM h52 h52b UndC.h rfl rfl) rfl rfl ?_
        obtain ⟨y55, h54, h⟩ := h
        refine xcall0 (strings_IndexByte_con (⟨#[97, 98, 116, 110, 118, 102, 114]⟩ : ByteArray) c53 _ h54) Try.func24 (by kernel_rfl) rfl (.cons rfl (.refl _) (.cons rfl (.refl _) .nil)) rfl rfl ?_
        refine xvalP (pv_assign rfl) rfl rfl ?_
        refine xnil ?_
        refine xthen ?_
        refine xseq ?_
        refine xregion ?_
        refine xvalP (pv_move rfl) rfl rfl ?_
        refine xvalP (pv_bin2 rfl rfl rfl) rfl rfl ?_
        refine xnil ?_
        refine xthen ?_
        by_cases hp57 : 0 ≤ y55
        · replace h := h.1 hp57
          refine xcondT' (decide_eq_true hp57) rfl ?_
          refine xseq ?_
          refine xregion ?_
          refine xvalP (pv_move rfl) rfl rfl ?_
          obtain ⟨c59, h58, h⟩ := h
          refine xvalP (pv_convW h58 UndC.h UndC.h rfl) rfl rfl ?_
          obtain ⟨c61, h60, h⟩ := h
          refine xvalP (pv_wr h60 rfl rfl rfl) rfl rfl ?_
          refine xvalP (pv_assign rfl) rfl rfl ?_
          refine xvalP (pv_assign rfl) rfl rfl ?_
          refine xvalP (pv_assign rfl) rfl rfl ?_
          refine xnil ?_
          refine xthen ?_
          refine xretc ?_
          refine xthen_ret ?_
          replace h := h.symm
          subst h
          exact xret3 hg rfl rfl (.eq rfl) rfl (.refl _) rfl (.refl _) (SubM.of (.nil _) (.nil _)) ⟨rfl, rfl, rfl⟩
        · replace h := h.2 hp57
          refine xcondF' (decide_eq_false hp57) rfl ?_
          refine xskipc ?_
          refine xthen ?_
          refine xseq ?_
          refine xregion ?_
          refine xvalP (pv_assign rfl) rfl rfl ?_
          refine xnil ?_
          refine xthen ?_
          refine xseq ?_
          refine xblock ?_
          obtain ⟨Inv, ⟨m0, hI⟩, hS⟩ := h
          refine xloop (fun σ m => ∃ (nv176 : Int), ∃ (sum177 : Int), Inv (nv176, sum177) m ∧ σ = ⟨[(0, .v (.string sv1)), (3, .v (.int .i64 nv176)), (6, .v (.int .i64 sum177))], [], []⟩) ⟨0, 0, hI, rfl⟩ ⟨(.cons rfl (.refl _) (.cons rfl (.refl _) (.cons rfl (.refl _) (.nil _)))), (SubM.of (.nil _) (.nil _))⟩ ?_
          rintro _ m ⟨nv176, sum177, hI, rfl⟩
          obtain ⟨ag2, hag2, h⟩ : ∃ ag, (∀ s', ag s' → ∃ m', m' < m ∧ Inv s' m') ∧ show_escape_l2 sv1 ag nv176 sum177 r := ⟨_, fun _ h => h, hS (nv176, sum177) _ hI⟩
          clear hS hI
          refine xseq ?_
          refine xseq ?_
          refine xregion ?_
          refine xvalP (pv_move rfl) rfl rfl ?_
          refine xvalP (pv_bin2 rfl rfl rfl) rfl rfl ?_
          refine xnil ?_
          refine xthen ?_
          by_cases hp209 : nv176 < 3
          · replace h := h.1 hp209
            refine xcondT' (decide_eq_true hp209) rfl ?_
            refine xskipc ?_
            refine xthen ?_
            refine xblock ?_
            refine xseq ?_
            refine xblock ?_
            refine xseq ?_
            refine xregion ?_
            refine xvalP (pv_move rfl) rfl rfl ?_
            refine xvalP (pv_move rfl) rfl rfl ?_
            refine xvalP (pv_lenS UndC.h rfl) rfl rfl ?_
            refine xvalP (pv_bin2 rfl rfl rfl) rfl rfl ?_
            refine xvalP (pv_assign rfl) rfl rfl ?_
            refine xnil ?_
            refine xthen ?_
            by_cases hp220 : nv176 = (sv1.size : Int)
            · replace h := h.1 hp220
              refine xcondT' (decide_eq_true hp220) rfl ?_
              refine xseq ?_
              refine xregion ?_
              refine xvalP (pv_assign rfl) rfl rfl ?_
              refine xvalP (pv_assign rfl) rfl rfl ?_
              refine xvalP (pv_assign rfl) rfl rfl ?_
              refine xnil ?_
              refine xthen ?_
              refine xretc ?_
              refine xin_ret ?_
              refine xthen_ret ?_
              refine xin_ret ?_
              refine xthen_ret ?_
              refine xin_ret ?_
              refine xthen_ret ?_
              replace h := h.symm
              subst h
              exact xret3 hg rfl rfl (.eq rfl) rfl (.refl _) rfl (.refl _) (SubM.of (.nil _) (.nil _)) ⟨rfl, rfl, rfl⟩
            · replace h := h.2 hp220
              refine xcondF' (decide_eq_false hp220) rfl ?_
              refine xseq ?_
              refine xregion ?_
              refine xvalP (pv_move rfl) rfl rfl ?_
              refine xvalP (pv_move rfl) rfl rfl ?_
              obtain ⟨h221, h⟩ := h
              obtain ⟨c222, h221b, h⟩ := h
              refine xvalP (pv_indexSM h221 h221b UndC.h rfl rfl) rfl rfl ?_
              obtain ⟨y224, h223, h⟩ := h
              refine xcall0 (show_isOctal_con c222 _ h223) Try.func25 (by kernel_rfl) rfl (.cons rfl (.refl _) .nil) rfl rfl ?_
              refine xvalP (pv_not rfl) rfl rfl ?_
              refine xvalP (pv_assign rfl) rfl rfl ?_
              refine xnil ?_
              refine xthen ?_
              by_cases hp225 : ¬ (y224 = true)
              · replace h := h.1 hp225
                refine xcondT' (not_t (b_f hp225)) rfl ?_
                refine xseq ?_
                refine xregion ?_
                refine xvalP (pv_assign rfl) rfl rfl ?_
                refine xvalP (pv_assign rfl) rfl rfl ?_
                refine xvalP (pv_assign rfl) rfl rfl ?_
                refine xnil ?_
                refine xthen ?_
                refine xretc ?_
                refine xin_ret ?_
                refine xthen_ret ?_
                refine xin_ret ?_
                refine xthen_ret ?_
                refine xin_ret ?_
                refine xthen_ret ?_
                replace h := h.symm
                subst h
                exact xret3 hg rfl rfl (.eq rfl) rfl (.refl _) rfl (.refl _) (SubM.of (.nil _) (.nil _)) ⟨rfl, rfl, rfl⟩
              · replace h := h.2 hp225
                refine xcondF' (not_f (Decidable.of_not_not hp225)) rfl ?_
                refine xskipc ?_
                refine xin_normal ?_
                refine xthen ?_
                refine xseq ?_
                refine xregion ?_
                refine xvalP (pv_move rfl) rfl rfl ?_
                obtain ⟨h226, h⟩ := h
                refine xvalP (pv_mulI h226 rfl rfl) rfl rfl ?_
                refine xvalP (pv_move rfl) rfl rfl ?_
                refine xvalP (pv_move rfl) rfl rfl ?_
                obtain ⟨h227, h⟩ := h
                obtain ⟨c228, h227b, h⟩ := h
                refine xvalP (pv_indexSM h227 h227b UndC.h rfl rfl) rfl rfl ?_
                obtain ⟨c230, h229, h⟩ := h
                refine xvalP (pv_wr h229 rfl rfl rfl) rfl rfl ?_
                refine xvalP (pv_convW (w8 c230) UndC.h UndC.h rfl) rfl rfl ?_
                obtain ⟨h232, h⟩ := h
                refine xvalP (pv_addI h232 rfl rfl) rfl rfl ?_
                refine xvalP (pv_assign rfl) rfl rfl ?_
                refine xnil ?_
                refine xthen ?_
                refine xregion ?_
                refine xvalP (pv_move rfl) rfl rfl ?_
                obtain ⟨h233, h⟩ := h
                refine xvalP (pv_addI h233 rfl rfl) rfl rfl ?_
                refine xvalP (pv_assign rfl) rfl rfl ?_
                refine xnil ?_
                refine xin_normal ?_
                obtain ⟨m', hm, hI⟩ := hag2 _ h
                exact xagain ⟨(nv176 + 1), ((sum177 * 8) + (c230.toNat : Int)), hI, rfl⟩ hm ⟨(.cons rfl (.refl _) (.cons rfl (.refl _) (.cons rfl (.refl _) (.nil _)))), (SubM.of (.nil _) (.nil _))⟩
          · replace h := h.2 hp209
            refine xcondF' (decide_eq_false hp209) rfl ?_
            refine xexit ?_
            refine xthen_exit ?_
            refine xthen_exit ?_
            refine xin_same rfl ?_
            refine xthen ?_
            refine xseq ?_
            refine xseq ?_
            refine xregion ?_
            refine xvalP (pv_move rfl) rfl rfl ?_
            refine xvalP (pv_bin2 rfl rfl rfl) rfl rfl ?_
            refine xnil ?_
            refine xthen ?_
            by_cases hp237 : 255 < sum177
            · replace h := h.1 hp237
              refine xcondT' (decide_eq_true hp237) rfl ?_
              refine xseq ?_
              refine xregion ?_
              refine xvalP (pv_assign rfl) rfl rfl ?_
              refine xvalP (pv_assign rfl) rfl rfl ?_
              refine xvalP (pv_assign rfl) rfl rfl ?_
              refine xnil ?_
              refine xthen ?_
              refine xretc ?_
              refine xthen_ret ?_
              replace h := h.symm
              subst h
              exact xret3 hg rfl rfl (.eq rfl) rfl (.refl _) rfl (.refl _) (SubM.of (.nil _) (.nil _)) ⟨rfl, rfl, rfl⟩
            · replace h := h.2 hp237
              refine xcondF' (decide_eq_false hp237) rfl ?_
              refine xskipc ?_
              refine xthen ?_
              refine xseq ?_
              refine xregion ?_
              refine xvalP (pv_move rfl) rfl rfl ?_
              obtain ⟨c239, h238, h⟩ := h
              refine xvalP (pv_convW h238 UndC.h UndC.h rfl) rfl rfl ?_
              refine xvalP (pv_move rfl) rfl rfl ?_
              refine xvalP (pv_assign rfl) rfl rfl ?_
              refine xvalP (pv_assign rfl) rfl rfl ?_
              refine xvalP (pv_assign rfl) rfl rfl ?_
              refine xnil ?_
              refine xthen ?_
              refine xretc ?_
              replace h := h.symm
              subst h
              exact xret3 hg rfl rfl (.eq rfl) rfl (.refl _) rfl (.refl _) (SubM.of (.nil _) (.nil _)) ⟨rfl, rfl, rfl⟩
/-- show.Unquote -/
def show_Unquote_l3 (x1 : ByteArray) (ag3 : (Int × (List UInt8)) → Prop) (x156 : Int) (x157 : List UInt8) (r : (List UInt8) × Int × Int) : Prop :=
  ((x156 < (x1.size : Int) → 0 ≤ (x156 : Int) ∧ ∃ c191 : UInt8, x1[(x156 : Int).toNat]? = some c191 ∧ InR (x156 + 1) ∧ (((c191.toNat : Int) = 34 → r = (x157, (x156 + 1), 0)) ∧ (¬ ((c191.toNat : Int) = 34) → (((c191.toNat : Int) = 92 → (0 ≤ ((x156 + 1) : Int) ∧ ((x156 + 1) : Int) ≤ (x1.size : Int)) ∧ ∃ y199 : UInt8 × Int × Int, show_escape_R (x1.extract ((x156 + 1) : Int).toNat x1.size) y199 ∧ ((¬ (y199.2.2 = 0) → r = (([] : List UInt8), 0, y199.2.2)) ∧ (¬ (¬ (y199.2.2 = 0)) → Room (x157.length + ([y199.1]).length) 1 ∧ InR ((x156 + 1) + y199.2.1) ∧ ag3 (((x156 + 1) + y199.2.1), (x157 ++ [y199.1]))))) ∧ (¬ ((c191.toNat : Int) = 92) → Room (x157.length + ([c191]).length) 1 ∧ ag3 ((x156 + 1), (x157 ++ [c191]))))))) ∧ (¬ (x156 < (x1.size : Int)) → r = (([] : List UInt8), 0, 2)))
def show_Unquote_j2 (x2 : Int) (x1 : ByteArray) (x43 : Bool) (r : (List UInt8) × Int × Int) : Prop :=
  ((x43 = true → r = (([] : List UInt8), 0, 9)) ∧ (¬ (x43 = true) → InR (x2 + 1) ∧ LoopR (fun ag3 s => show_Unquote_l3 x1 ag3 s.1 s.2 r) ((x2 + 1), ([] : List UInt8))))
def show_Unquote_j1 (x2 : Int) (x1 : ByteArray) (x31 : Bool) (r : (List UInt8) × Int × Int) : Prop :=
  ((x31 = true → r = (([] : List UInt8), 0, 1)) ∧ (¬ (x31 = true) → ((x2 = (x1.size : Int) → show_Unquote_j2 x2 x1 true r) ∧ (¬ (x2 = (x1.size : Int)) → 0 ≤ (x2 : Int) ∧ ∃ c48 : UInt8, x1[(x2 : Int).toNat]? = some c48 ∧ show_Unquote_j2 x2 x1 (!(decide ((c48.toNat : Int) = 34))) r))))
def show_Unquote_R (x1 : ByteArray) (x2 : Int) (r : (List UInt8) × Int × Int) : Prop :=
  show_Unquote_j1 x2 x1 ((decide (x2 < 0)) || (decide ((x1.size : Int) < x2))) r
def show_Unquote_l3_ev (fuel : Nat) (x1 : ByteArray) (ag3e : (Int × (List UInt8)) → Option ((List UInt8) × Int × Int)) (x156 : Int) (x157 : List UInt8) : Option ((List UInt8) × Int × Int) :=
  (if x156 < (x1.size : Int) then (if 0 ≤ (x156 : Int) then ((x1[(x156 : Int).toNat]?).bind fun c191 => (if InR (x156 + 1) then (if (c191.toNat : Int) = 34 then some (x157, (x156 + 1), 0) else (if (c191.toNat : Int) = 92 then (if (0 ≤ ((x156 + 1) : Int) ∧ ((x156 + 1) : Int) ≤ (x1.size : Int)) then ((show_escape_ev fuel (x1.extract ((x156 + 1) : Int).toNat x1.size)).bind fun y199 => (if ¬ (y199.2.2 = 0) then some (([] : List UInt8), 0, y199.2.2) else (if Room (x157.length + ([y199.1]).length) 1 then (if InR ((x156 + 1) + y199.2.1) then ag3e (((x156 + 1) + y199.2.1), (x157 ++ [y199.1])) else none) else none))) else none) else (if Room (x157.length + ([c191]).length) 1 then ag3e ((x156 + 1), (x157 ++ [c191])) else none))) else none)) else none) else some (([] : List UInt8), 0, 2))
theorem show_Unquote_l3_ok {fuel : Nat} {x1 : ByteArray} {ag3e : (Int × (List UInt8)) → Option ((List UInt8) × Int × Int)} {ag3 : (Int × (List UInt8)) → Prop} {x156 : Int} {x157 : List UInt8} {r : (List UInt8) × Int × Int} (hagag3 : ∀ s, ag3e s = some r → ag3 s) (h : show_Unquote_l3_ev fuel x1 ag3e x156 x157 = some r) : show_Unquote_l3 x1 ag3 x156 x157 r := by
  unfold show_Unquote_l3_ev at h
  unfold show_Unquote_l3
  refine ⟨fun g134 => ?_, fun g134 => ?_⟩
  · rw [if_pos g134] at h
    obtain ⟨g135, h⟩ := if_ok h
    refine ⟨g135, ?_⟩
    obtain ⟨q136, g136, h⟩ := bind_ok h
    refine ⟨q136, g136, ?_⟩
    obtain ⟨g137, h⟩ := if_ok h
    refine ⟨g137, ?_⟩
    refine ⟨fun g138 => ?_, fun g138 => ?_⟩
    · rw [if_pos g138] at h
      exact (Option.some.inj h).symm
    · rw [if_neg g138] at h
      refine ⟨fun g139 => ?_, fun g139 => ?_⟩
      · rw [if_pos g139] at h
        obtain ⟨g140, h⟩ := if_ok h
        refine ⟨g140, ?_⟩
        obtain ⟨q141, g141, h⟩ := bind_ok h
        refine ⟨q141, show_escape_ok g141, ?_⟩
        refine ⟨fun g142 => ?_, fun g142 => ?_⟩
        · rw [if_pos g142] at h
          exact (Option.some.inj h).symm
        · rw [if_neg g142] at h
          obtain ⟨g143, h⟩ := if_ok h
          refine ⟨g143, ?_⟩
          obtain ⟨g144, h⟩ := if_ok h
          refine ⟨g144, ?_⟩
          exact hagag3 _ h
      · rw [if_neg g139] at h
        obtain ⟨g145, h⟩ := if_ok h
        refine ⟨g145, ?_⟩
        exact hagag3 _ h
  · rw [if_neg g134] at h
    exact (Option.some.inj h).symm
def show_Unquote_j2_ev (fuel : Nat) (x2 : Int) (x1 : ByteArray) (x43 : Bool) : Option ((List UInt8) × Int × Int) :=
  (if x43 = true then some (([] : List UInt8), 0, 9) else (if InR (x2 + 1) then (loopE (fun ag3e s => show_Unquote_l3_ev fuel x1 ag3e s.1 s.2) fuel ((x2 + 1), ([] : List UInt8))) else none))
theorem show_Unquote_j2_ok {fuel : Nat} {x2 : Int} {x1 : ByteArray} {x43 : Bool} {r : (List UInt8) × Int × Int} (h : show_Unquote_j2_ev fuel x2 x1 x43 = some r) : show_Unquote_j2 x2 x1 x43 r := by
  unfold show_Unquote_j2_ev at h
  unfold show_Unquote_j2
  refine ⟨fun g146 => ?_, fun g146 => ?_⟩
  · rw [if_pos g146] at h
    exact (Option.some.inj h).symm
  · rw [if_neg g146] at h
    obtain ⟨g147, h⟩ := if_ok h
    refine ⟨g147, ?_⟩
    refine loopE_ok ?_ h
    intro ae ag s hag h
    exact show_Unquote_l3_ok hag h
def show_Unquote_j1_ev (fuel : Nat) (x2 : Int) (x1 : ByteArray) (x31 : Bool) : Option ((List UInt8) × Int × Int) :=
  (if x31 = true then some (([] : List UInt8), 0, 1) else (if x2 = (x1.size : Int) then show_Unquote_j2_ev fuel x2 x1 true else (if 0 ≤ (x2 : Int) then ((x1[(x2 : Int).toNat]?).bind fun c48 => show_Unquote_j2_ev fuel x2 x1 (!(decide ((c48.toNat : Int) = 34)))) else none)))
theorem show_Unquote_j1_ok {fuel : Nat} {x2 : Int} {x1 : ByteArray} {x31 : Bool} {r : (List UInt8) × Int × Int} (h : show_Unquote_j1_ev fuel x2 x1 x31 = some r) : show_Unquote_j1 x2 x1 x31 r := by
  unfold show_Unquote_j1_ev at h
  unfold show_Unquote_j1
  refine ⟨fun g148 => ?_, fun g148 => ?_⟩
  · rw [if_pos g148] at h
    exact (Option.some.inj h).symm
  · rw [if_neg g148] at h
    refine ⟨fun g149 => ?_, fun g149 => ?_⟩
    · rw [if_pos g149] at h
      exact show_Unquote_j2_ok h
    · rw [if_neg g149] at h
      obtain ⟨g150, h⟩ := if_ok h
      refine ⟨g150, ?_⟩
      obtain ⟨q151, g151, h⟩ := bind_ok h
      refine ⟨q151, g151, ?_⟩
      exact show_Unquote_j2_ok h
def show_Unquote_ev (fuel : Nat) (x1 : ByteArray) (x2 : Int) : Option ((List UInt8) × Int × Int) :=
  show_Unquote_j1_ev fuel x2 x1 ((decide (x2 < 0)) || (decide ((x1.size : Int) < x2)))
theorem show_Unquote_ok {fuel : Nat} {x1 : ByteArray} {x2 : Int} {r : (List UInt8) × Int × Int} (h : show_Unquote_ev fuel x1 x2 = some r) : show_Unquote_R x1 x2 r := by
  unfold show_Unquote_ev at h
  unfold show_Unquote_R
  exact show_Unquote_j1_ok h
set_option maxHeartbeats 4000000 in
theorem show_Unquote_con (x1 : ByteArray) (x2 : Int) (r : (List UInt8) × Int × Int) (h : show_Unquote_R x1 x2 r) : Con Try.prog 12 [.v (.string x1), .v (.int .i64 x2)] [] [] (fun rr bx tk => ∃ j1, rr = .tup [.sl 1 (some j1) (List.map eb r.1), .v (.int .i64 r.2.1), .v (.int .i64 r.2.2)] ∧ bx = [] ∧ tk = [⟨j1, 5, 1, r.1.length⟩]) := by
  refine xenter Try.func12 rfl rfl fun g hg => ?_
  simp only [Try.ntmps12, slots]
  unfold show_Unquote_R at h
  refine xseq ?_
  refine xregion ?_
  refine xvalP (pv_assign rfl) rfl rfl ?_
  refine xvalP (pv_assign rfl) rfl rfl ?_
  refine xvalP (pv_assign rfl) rfl rfl ?_
  refine xnil ?_
  refine xthen ?_
  refine xseq ?_
  refine xblock ?_
  refine xseqM (fun σ => ∃ (x31 : Bool), show_Unquote_j1 x2 x1 x31 r ∧ σ = ⟨[(0, .v (.string x1)), (1, .v (.int .i64 x2)), (12, .v (.bool x31))], [], []⟩) ?_ ?_
  · refine xregion ?_
    refine xvalP (pv_move rfl) rfl rfl ?_
    refine xvalP (pv_bin2 rfl rfl rfl) rfl rfl ?_
    refine xvalP (pv_move rfl) rfl rfl ?_
    by_cases hp33 : x2 < 0
    · rw [show (decide (x2 < 0)) = true from (decide_eq_true hp33), Bool.true_or] at h
      refine xsetB 15 (decide_eq_true hp33) rfl ?_
      refine xskip rfl rfl ?_
      refine xskip rfl rfl ?_
      refine xskip rfl rfl ?_
      refine xskip rfl rfl ?_
      refine xvalP (pv_pick rfl rfl) rfl rfl ?_
      refine xvalP (pv_assign rfl) rfl rfl ?_
      refine xnil ?_
      exact xmeet ⟨true, h, rfl⟩ ⟨(.cons rfl (.refl _) (.cons rfl (.refl _) (.cons rfl (.refl _) (.nil _)))), (SubM.of (.nil _) (.nil _))⟩
    · rw [show (decide (x2 < 0)) = false from (decide_eq_false hp33), Bool.false_or] at h
      refine xsetB 15 (decide_eq_false hp33) rfl ?_
      refine xvalP (pv_move rfl) rfl rfl ?_
      refine xvalP (pv_move rfl) rfl rfl ?_
      refine xvalP (pv_lenS UndC.h rfl) rfl rfl ?_
      refine xvalP (pv_bin2 rfl rfl rfl) rfl rfl ?_
      refine xvalP (pv_pick rfl rfl) rfl rfl ?_
      refine xvalP (pv_assign rfl) rfl rfl ?_
      refine xnil ?_
      exact xmeet ⟨(decide ((x1.size : Int) < x2)), h, rfl⟩ ⟨(.cons rfl (.refl _) (.cons rfl (.refl _) (.cons rfl (.refl _) (.nil _)))), (SubM.of (.nil _) (.nil _))⟩
  · clear h
    rintro _ ⟨x31, h, rfl⟩
    by_cases hp36 : x31 = true
    · replace h := h.1 hp36
      refine xcondT' hp36 rfl ?_
      refine xseq ?_
      refine xregion ?_
      refine xvalP (pv_assign rfl) rfl rfl ?_
      refine xvalP (pv_assign rfl) rfl rfl ?_
      refine xvalP (pv_assign rfl) rfl rfl ?_
      refine xnil ?_
      refine xthen ?_
      refine xretc ?_
      refine xin_ret ?_
      refine xthen_ret ?_
      replace h := h.symm
      subst h
      exact xret3 hg rfl rfl (.nil_own _) rfl (.refl _) rfl (.refl _) (SubM.of (by repeat (first | with_reducible exact SubB.refl _ | exact SubB.nil _ | refine SubB.keep rfl rfl (by first | with_reducible exact WkL.refl _ | ((repeat (first | exact WkL.nil | refine WkL.cons (by first | with_reducible exact Wk.refl _ | exact Wk.nil_own _ | exact Wk.nil_pl _ | with_reducible exact Wk.tok _ _ _ | exact Wk.tok _ _ _ | exact Wk.eq (by first | rfl | (simp []; done) | (simp []; omega))) ?_)); done) | exact WkL.refl _) ?_ | refine SubB.drop ?_)) (by repeat (first | exact SubT.nil _ | refine SubT.add ?_ | (refine SubT.keep ?_ ?_; focus (first | with_reducible rfl | (simp []; done))) | refine SubT.drop ?_))) ⟨none, rfl, rfl, rfl⟩
    · replace h := h.2 hp36
      refine xcondF' (b_f hp36) rfl ?_
      refine xseqM (fun σ => ∃ (x43 : Bool), show_Unquote_j2 x2 x1 x43 r ∧ σ = ⟨[(0, .v (.string x1)), (1, .v (.int .i64 x2)), (21, .v (.bool x43))], [], []⟩) ?_ ?_
      · refine xregion ?_
        refine xvalP (pv_move rfl) rfl rfl ?_
        refine xvalP (pv_move rfl) rfl rfl ?_
        refine xvalP (pv_lenS UndC.h rfl) rfl rfl ?_
        refine xvalP (pv_bin2 rfl rfl rfl) rfl rfl ?_
        refine xvalP (pv_move rfl) rfl rfl ?_
        by_cases hp46 : x2 = (x1.size : Int)
        · replace h := h.1 hp46
          refine xsetB 26 (decide_eq_true hp46) rfl ?_
          refine xskip rfl rfl ?_
          refine xskip rfl rfl ?_
          refine xskip rfl rfl ?_
          refine xskip rfl rfl ?_
          refine xvalP (pv_pick rfl rfl) rfl rfl ?_
          refine xvalP (pv_assign rfl) rfl rfl ?_
          refine xnil ?_
          exact xmeet ⟨true, h, rfl⟩ ⟨(.cons rfl (.refl _) (.cons rfl (.refl _) (.cons rfl (.refl _) (.nil _)))), (SubM.of (.nil _) (.nil _))⟩
        · replace h := h.2 hp46
          refine xsetB 26 (decide_eq_false hp46) rfl ?_
          refine xvalP (pv_move rfl) rfl rfl ?_
          refine xvalP (pv_move rfl) rfl rfl ?_
          obtain ⟨h47, h⟩ := h
          obtain ⟨c48, h47b, h⟩ := h
          refine xvalP (pv_indexSM h47 h47b UndC.h rfl rfl) rfl rfl ?_
          refine xvalP (pv_bin2 rfl rfl rfl) rfl rfl ?_
          refine xvalP (pv_pick rfl rfl) rfl rfl ?_
          refine xvalP (pv_assign rfl) rfl rfl ?_
          refine xnil ?_
          exact xmeet ⟨(!(decide ((c48.toNat : Int) = 34))), h, rfl⟩ ⟨(.cons rfl (.refl _) (.cons rfl (.refl _) (.cons rfl (.refl _) (.nil _)))), (SubM.of (.nil _) (.nil _))⟩
      · clear h
        rintro _ ⟨x43, h, rfl⟩
        by_cases hp50 : x43 = true
        · replace h := h.1 hp50
          refine xcondT' hp50 rfl ?_
          refine xseq ?_
          refine xregion ?_
          refine xvalP (pv_assign rfl) rfl rfl ?_
          refine xvalP (pv_assign rfl) rfl rfl ?_
          refine xvalP (pv_assign rfl) rfl rfl ?_
          refine xnil ?_
          refine xthen ?_
          refine xretc ?_
          refine xin_ret ?_
          refine xthen_ret ?_
          replace h := h.symm
          subst h
          exact xret3 hg rfl rfl (.nil_own _) rfl (.refl _) rfl (.refl _) (SubM.of (by repeat (first | with_reducible exact SubB.refl _ | exact SubB.nil _ | refine SubB.keep rfl rfl (by first | with_reducible exact WkL.refl _ | ((repeat (first | exact WkL.nil | refine WkL.cons (by first | with_reducible exact Wk.refl _ | exact Wk.nil_own _ | exact Wk.nil_pl _ | with_reducible exact Wk.tok _ _ _ | exact Wk.tok _ _ _ | exact Wk.eq (by first | rfl | (simp []; done) | (simp []; omega))) ?_)); done) | exact WkL.refl _) ?_ | refine SubB.drop ?_)) (by repeat (first | exact SubT.nil _ | refine SubT.add ?_ | (refine SubT.keep ?_ ?_; focus (first | with_reducible rfl | (simp []; done))) | refine SubT.drop ?_))) ⟨none, rfl, rfl, rfl⟩
        · replace h := h.2 hp50
          refine xcondF' (b_f hp50) rfl ?_
          refine xskipc ?_
          refine xin_normal ?_
          refine xthen ?_
          refine xseq ?_
          refine xregion ?_
          refine xvalP (pv_assign rfl) rfl rfl ?_
          refine xnil ?_
          refine xthen ?_
          refine xseq ?_
          refine xseq ?_
          refine xregion ?_
          refine xvalP (pv_move rfl) rfl rfl ?_
          obtain ⟨h130, h⟩ := h
          refine xvalP (pv_addI h130 rfl rfl) rfl rfl ?_
          refine xvalP (pv_assign rfl) rfl rfl ?_
          refine xnil ?_
          refine xthen ?_
          refine xblock ?_
          obtain ⟨Inv, ⟨m0, hI⟩, hS⟩ := h
          refine xloop (fun σ m => ∃ (x156 : Int), ∃ (x157 : List UInt8), ∃ (i158 : Option (Nat × Nat)), Inv (x156, x157) m ∧ σ = ⟨[(0, .v (.string x1)), (1, .v (.int .i64 x156)), (7, .sl 1 (some i158) (List.map eb x157))], [], [⟨i158, 5, 1, x157.length⟩]⟩) ⟨(x2 + 1), ([] : List UInt8), none, hI, rfl⟩ ⟨(.cons rfl (.refl _) (.cons rfl (.refl _) (.cons rfl (.nil_own _) (.nil _)))), (SubM.of (.nil _) (.add (.nil _)))⟩ ?_
          rintro _ m ⟨x156, x157, i158, hI, rfl⟩
          obtain ⟨ag3, hag3, h⟩ : ∃ ag, (∀ s', ag s' → ∃ m', m' < m ∧ Inv s' m') ∧ show_Unquote_l3 x1 ag x156 x157 r := ⟨_, fun _ h => h, hS (x156, x157) _ hI⟩
          clear hS hI
          refine xseq ?_
          refine xseq ?_
          refine xregion ?_
          refine xvalP (pv_move rfl) rfl rfl ?_
          refine xvalP (pv_move rfl) rfl rfl ?_
          refine xvalP (pv_lenS UndC.h rfl) rfl rfl ?_
          refine xvalP (pv_bin2 rfl rfl rfl) rfl rfl ?_
          refine xnil ?_
          refine xthen ?_
          by_cases hp189 : x156 < (x1.size : Int)
          · replace h := h.1 hp189
            refine xcondT' (decide_eq_true hp189) rfl ?_
            refine xskipc ?_
            refine xthen ?_
            refine xblock ?_
            refine xseq ?_
            refine xregion ?_
            refine xvalP (pv_move rfl) rfl rfl ?_
            refine xvalP (pv_move rfl) rfl rfl ?_
            obtain ⟨h190, h⟩ := h
            obtain ⟨c191, h190b, h⟩ := h
            refine xvalP (pv_indexSM h190 h190b UndC.h rfl rfl) rfl rfl ?_
            refine xvalP (pv_assign rfl) rfl rfl ?_
            refine xnil ?_
            refine xthen ?_
            refine xseq ?_
            refine xregion ?_
            refine xvalP (pv_move rfl) rfl rfl ?_
            obtain ⟨h192, h⟩ := h
            refine xvalP (pv_addI h192 rfl rfl) rfl rfl ?_
            refine xvalP (pv_assign rfl) rfl rfl ?_
            refine xnil ?_
            refine xthen ?_
            refine xseq ?_
            refine xregion ?_
            refine xvalP (pv_move rfl) rfl rfl ?_
            refine xnil ?_
            refine xthen ?_
            refine xblock ?_
            refine xseq ?_
            refine xregion ?_
            refine xvalP (pv_bin2 rfl rfl rfl) rfl rfl ?_
            refine xvalP (pv_assign rfl) rfl rfl ?_
            refine xnil ?_
            refine xthen ?_
            by_cases hp194 : (c191.toNat : Int) = 34
            · replace h := h.1 hp194
              refine xcondT' (decide_eq_true hp194) rfl ?_
              refine xseq ?_
              refine xregion ?_
              refine xvalP (pv_move rfl) rfl rfl ?_
              refine xvalP (pv_move rfl) rfl rfl ?_
              refine xvalP (pv_assign rfl) rfl rfl ?_
              refine xvalP (pv_assign rfl) rfl rfl ?_
              refine xvalP (pv_assign rfl) rfl rfl ?_
              refine xnil ?_
              refine xthen ?_
              refine xretc ?_
              refine xin_ret ?_
              refine xin_ret ?_
              refine xthen_ret ?_
              refine xin_ret ?_
              refine xthen_ret ?_
              replace h := h.symm
              subst h
              exact xret3 hg rfl rfl (.refl _) rfl (.refl _) rfl (.refl _) (SubM.of (.nil _) (.keep rfl (.nil _))) ⟨i158, rfl, rfl, rfl⟩
            · replace h := h.2 hp194
              refine xcondF' (decide_eq_false hp194) rfl ?_
              refine xseq ?_
              refine xregion ?_
              refine xvalP (pv_bin2 rfl rfl rfl) rfl rfl ?_
              refine xvalP (pv_assign rfl) rfl rfl ?_
              refine xnil ?_
              refine xthen ?_
              by_cases hp196 : (c191.toNat : Int) = 92
              · replace h := h.1 hp196
                refine xcondT' (decide_eq_true hp196) rfl ?_
                refine xseq ?_
                refine xregion ?_
                refine xvalP (pv_move rfl) rfl rfl ?_
                refine xvalP (pv_move rfl) rfl rfl ?_
                obtain ⟨h197, h⟩ := h
                refine xvalP (pv_sliceSLo h197 UndC.h rfl rfl) rfl rfl ?_
                obtain ⟨y199, h198, h⟩ := h
                refine xcallF (Fb := []) (Ft := [⟨i158, 5, 1, x157.length⟩]) (show_escape_con (x1.extract ((x156 + 1) : Int).toNat x1.size) _ h198) Try.func20 (by kernel_rfl) rfl (.cons rfl (.refl _) .nil) (by exact (SubM.of (by repeat (first | with_reducible exact SubB.refl _ | exact SubB.nil _ | refine SubB.keep rfl rfl (by first | with_reducible exact WkL.refl _ | ((repeat (first | exact WkL.nil | refine WkL.cons (by first | with_reducible exact Wk.refl _ | exact Wk.nil_own _ | exact Wk.nil_pl _ | with_reducible exact Wk.tok _ _ _ | exact Wk.tok _ _ _ | exact Wk.eq (by first | rfl | (simp []; done) | (simp []; omega))) ?_)); done) | exact WkL.refl _) ?_ | refine SubB.drop ?_)) (by repeat (first | exact SubT.nil _ | refine SubT.add ?_ | (refine SubT.keep ?_ ?_; focus (first | with_reducible rfl | (simp []; done))) | refine SubT.drop ?_)))) rfl rfl ?_
                rintro _ _ _ ⟨rfl, rfl, rfl⟩
                simp only [List.nil_append, List.cons_append]
                refine xvalP (pv_move rfl) rfl rfl ?_
                refine xvalP (pv_extract rfl rfl) rfl rfl ?_
                refine xvalP (pv_extract rfl rfl) rfl rfl ?_
                refine xvalP (pv_extract rfl rfl) rfl rfl ?_
                refine xvalP (pv_assign rfl) rfl rfl ?_
                refine xvalP (pv_assign rfl) rfl rfl ?_
                refine xvalP (pv_assign rfl) rfl rfl ?_
                refine xnil ?_
                refine xthen ?_
                refine xseq ?_
                refine xseq ?_
                refine xregion ?_
                refine xvalP (pv_move rfl) rfl rfl ?_
                refine xvalP (pv_bin2 rfl rfl rfl) rfl rfl ?_
                refine xnil ?_
                refine xthen ?_
                by_cases hp203 : ¬ (y199.2.2 = 0)
                · replace h := h.1 hp203
                  refine xcondT' (not_t (decide_eq_false hp203)) rfl ?_
                  refine xseq ?_
                  refine xregion ?_
                  refine xvalP (pv_move rfl) rfl rfl ?_
                  refine xvalP (pv_assign rfl) rfl rfl ?_
                  refine xvalP (pv_assign rfl) rfl rfl ?_
                  refine xvalP (pv_assign rfl) rfl rfl ?_
                  refine xnil ?_
                  refine xthen ?_
                  refine xretc ?_
                  refine xthen_ret ?_
                  refine xin_ret ?_
                  refine xin_ret ?_
                  refine xthen_ret ?_
                  refine xin_ret ?_
                  refine xthen_ret ?_
                  replace h := h.symm
                  subst h
                  exact xret3 hg rfl rfl (.nil_own _) rfl (.refl _) rfl (.refl _) (SubM.of (by repeat (first | with_reducible exact SubB.refl _ | exact SubB.nil _ | refine SubB.keep rfl rfl (by first | with_reducible exact WkL.refl _ | ((repeat (first | exact WkL.nil | refine WkL.cons (by first | with_reducible exact Wk.refl _ | exact Wk.nil_own _ | exact Wk.nil_pl _ | with_reducible exact Wk.tok _ _ _ | exact Wk.tok _ _ _ | exact Wk.eq (by first | rfl | (simp []; done) | (simp []; omega))) ?_)); done) | exact WkL.refl _) ?_ | refine SubB.drop ?_)) (by repeat (first | exact SubT.nil _ | refine SubT.add ?_ | (refine SubT.keep ?_ ?_; focus (first | with_reducible rfl | (simp []; done))) | refine SubT.drop ?_))) ⟨none, rfl, rfl, rfl⟩
                · replace h := h.2 hp203
                  refine xcondF' (not_f (decide_eq_true (Decidable.of_not_not hp203))) rfl ?_
                  refine xskipc ?_
                  refine xthen ?_
                  refine xseq ?_
                  refine xregion ?_
                  refine xvalP (pv_move rfl) rfl rfl ?_
                  refine xvalP (pv_move rfl) rfl rfl ?_
                  refine xbuildSliceM (f := eb) [y199.1] UndC.h InfC.h rfl rfl (by first | exact wkR_of rfl | (repeat (first | exact WkR.nil | refine WkR.cons (by (repeat (first | exact WkL.nil | refine WkL.cons (by first | with_reducible exact Wk.refl _ | exact Wk.nil_own _ | exact Wk.nil_pl _ | with_reducible exact Wk.tok _ _ _ | exact Wk.tok _ _ _ | exact Wk.eq (by first | rfl | (simp []; done) | (simp []; omega))) ?_))) ?_))) rfl rfl rfl rfl fun s67 => ?_
                  obtain ⟨h204, h⟩ := h
                  refine xappendM (l := x157) (l2 := [y199.1]) 1 h204 UndC.h InfC.h rfl rfl rfl (.refl _) rfl rfl rfl fun i205 => ?_
                  refine xvalP (pv_assign rfl) rfl rfl ?_
                  refine xnil ?_
                  refine xthen ?_
                  refine xregion ?_
                  refine xvalP (pv_move rfl) rfl rfl ?_
                  refine xvalP (pv_move rfl) rfl rfl ?_
                  obtain ⟨h206, h⟩ := h
                  refine xvalP (pv_addI h206 rfl rfl) rfl rfl ?_
                  refine xvalP (pv_assign rfl) rfl rfl ?_
                  refine xnil ?_
                  refine xin_normal ?_
                  refine xin_normal ?_
                  obtain ⟨m', hm, hI⟩ := hag3 _ h
                  exact xagain ⟨((x156 + 1) + y199.2.1), (x157 ++ [y199.1]), i205, hI, rfl⟩ hm ⟨(.cons rfl (.refl _) (.cons rfl (.refl _) (.cons rfl (.refl _) (.nil _)))), (SubM.of (.nil _) (.drop (.keep rfl (.nil _))))⟩
              · replace h := h.2 hp196
                refine xcondF' (decide_eq_false hp196) rfl ?_
                refine xregion ?_
                refine xvalP (pv_move rfl) rfl rfl ?_
                refine xvalP (pv_move rfl) rfl rfl ?_
                refine xbuildSliceM (f := eb) [c191] UndC.h InfC.h rfl rfl (by first | exact wkR_of rfl | (repeat (first | exact WkR.nil | refine WkR.cons (by (repeat (first | exact WkL.nil | refine WkL.cons (by first | with_reducible exact Wk.refl _ | exact Wk.nil_own _ | exact Wk.nil_pl _ | with_reducible exact Wk.tok _ _ _ | exact Wk.tok _ _ _ | exact Wk.eq (by first | rfl | (simp []; done) | (simp []; omega))) ?_))) ?_))) rfl rfl rfl rfl fun s46 => ?_
                obtain ⟨h207, h⟩ := h
                refine xappendM (l := x157) (l2 := [c191]) 1 h207 UndC.h InfC.h rfl rfl rfl (.refl _) rfl rfl rfl fun i208 => ?_
                refine xvalP (pv_assign rfl) rfl rfl ?_
                refine xnil ?_
                refine xin_normal ?_
                refine xin_normal ?_
                obtain ⟨m', hm, hI⟩ := hag3 _ h
                exact xagain ⟨(x156 + 1), (x157 ++ [c191]), i208, hI, rfl⟩ hm ⟨(.cons rfl (.refl _) (.cons rfl (.refl _) (.cons rfl (.refl _) (.nil _)))), (SubM.of (.nil _) (.drop (.keep rfl (.nil _))))⟩
          · replace h := h.2 hp189
            refine xcondF' (decide_eq_false hp189) rfl ?_
            refine xexit ?_
            refine xthen_exit ?_
            refine xthen_exit ?_
            refine xin_same rfl ?_
            refine xthen ?_
            refine xseq ?_
            refine xregion ?_
            refine xvalP (pv_assign rfl) rfl rfl ?_
            refine xvalP (pv_assign rfl) rfl rfl ?_
            refine xvalP (pv_assign rfl) rfl rfl ?_
            refine xnil ?_
            refine xthen ?_
            refine xretc ?_
            replace h := h.symm
            subst h
            exact xret3 hg rfl rfl (.nil_own _) rfl (.refl _) rfl (.refl _) (SubM.of (by repeat (first | with_reducible exact SubB.refl _ | exact SubB.nil _ | refine SubB.keep rfl rfl (by first | with_reducible exact WkL.refl _ | ((repeat (first | exact WkL.nil | refine WkL.cons (by first | with_reducible exact Wk.refl _ | exact Wk.nil_own _ | exact Wk.nil_pl _ | with_reducible exact Wk.tok _ _ _ | exact Wk.tok _ _ _ | exact Wk.eq (by first | rfl | (simp []; done) | (simp []; omega))) ?_)); done) | exact WkL.refl _) ?_ | refine SubB.drop ?_)) (by repeat (first | exact SubT.nil _ | refine SubT.add ?_ | (refine SubT.keep ?_ ?_; focus (first | with_reducible rfl | (simp []; done))) | refine SubT.drop ?_))) ⟨none, rfl, rfl, rfl⟩
/-- palinoderef04.Mark -/
def palinoderef04_Mark_j2 (c1 : UInt8) (x46 : Bool) (r : ByteArray) : Prop :=
  ((x46 = true → r = (⟨([c1]).toArray⟩ : ByteArray)) ∧ (¬ (x46 = true) → (64 : Int) ≠ 0 ∧ ∃ c53 : UInt8, (c53.toNat : Int) = IntKind.u8.wrap (((c1.toNat : Int)).tdiv 64) ∧ ∃ c55 : UInt8, (c55.toNat : Int) = IntKind.u8.wrap (48 + (c53.toNat : Int)) ∧ (8 : Int) ≠ 0 ∧ ∃ c57 : UInt8, (c57.toNat : Int) = IntKind.u8.wrap (((c1.toNat : Int)).tdiv 8) ∧ (8 : Int) ≠ 0 ∧ ∃ c59 : UInt8, (c59.toNat : Int) = (((c57.toNat : Int)).tmod 8) ∧ ∃ c61 : UInt8, (c61.toNat : Int) = IntKind.u8.wrap (48 + (c59.toNat : Int)) ∧ (8 : Int) ≠ 0 ∧ ∃ c63 : UInt8, (c63.toNat : Int) = (((c1.toNat : Int)).tmod 8) ∧ ∃ c65 : UInt8, (c65.toNat : Int) = IntKind.u8.wrap (48 + (c63.toNat : Int)) ∧ InR ((((⟨#[92]⟩ : ByteArray)).size : Int) + (((⟨([c55, c61, c65]).toArray⟩ : ByteArray)).size : Int)) ∧ r = (((⟨#[92]⟩ : ByteArray)) ++ ((⟨([c55, c61, c65]).toArray⟩ : ByteArray)))))
def palinoderef04_Mark_j1 (c1 : UInt8) (x23 : Bool) (r : ByteArray) : Prop :=
  ((x23 = true → InR ((c1.toNat : Int) - 7) ∧ InR ((c1.toNat : Int) - 6) ∧ (0 ≤ (((c1.toNat : Int) - 7) : Int) ∧ (((c1.toNat : Int) - 7) : Int) ≤ (((c1.toNat : Int) - 6) : Int) ∧ (((c1.toNat : Int) - 6) : Int) ≤ (((⟨#[97, 98, 116, 110, 118, 102, 114]⟩ : ByteArray)).size : Int)) ∧ InR ((((⟨#[92]⟩ : ByteArray)).size : Int) + (((((⟨#[97, 98, 116, 110, 118, 102, 114]⟩ : ByteArray)).extract (((c1.toNat : Int) - 7) : Int).toNat (((c1.toNat : Int) - 6) : Int).toNat)).size : Int)) ∧ r = (((⟨#[92]⟩ : ByteArray)) ++ ((((⟨#[97, 98, 116, 110, 118, 102, 114]⟩ : ByteArray)).extract (((c1.toNat : Int) - 7) : Int).toNat (((c1.toNat : Int) - 6) : Int).toNat)))) ∧ (¬ (x23 = true) → palinoderef04_Mark_j2 c1 ((decide (32 ≤ (c1.toNat : Int))) && (decide ((c1.toNat : Int) ≤ 126))) r))
def palinoderef04_Mark_R (c1 : UInt8) (r : ByteArray) : Prop :=
  (((c1.toNat : Int) = 92 → r = (⟨#[92, 92]⟩ : ByteArray)) ∧ (¬ ((c1.toNat : Int) = 92) → palinoderef04_Mark_j1 c1 ((decide (7 ≤ (c1.toNat : Int))) && (decide ((c1.toNat : Int) ≤ 13))) r))
def palinoderef04_Mark_j2_ev (fuel : Nat) (c1 : UInt8) (x46 : Bool) : Option (ByteArray) :=
  (if x46 = true then some (⟨([c1]).toArray⟩ : ByteArray) else (if (64 : Int) ≠ 0 then (exB (IntKind.u8.wrap (((c1.toNat : Int)).tdiv 64)) fun c53 => (exB (IntKind.u8.wrap (48 + (c53.toNat : Int))) fun c55 => (if (8 : Int) ≠ 0 then (exB (IntKind.u8.wrap (((c1.toNat : Int)).tdiv 8)) fun c57 => (if (8 : Int) ≠ 0 then (exB ((((c57.toNat : Int)).tmod 8)) fun c59 => (exB (IntKind.u8.wrap (48 + (c59.toNat : Int))) fun c61 => (if (8 : Int) ≠ 0 then (exB ((((c1.toNat : Int)).tmod 8)) fun c63 => (exB (IntKind.u8.wrap (48 + (c63.toNat : Int))) fun c65 => (if InR ((((⟨#[92]⟩ : ByteArray)).size : Int) + (((⟨([c55, c61, c65]).toArray⟩ : ByteArray)).size : Int)) then some (((⟨#[92]⟩ : ByteArray)) ++ ((⟨([c55, c61, c65]).toArray⟩ : ByteArray))) else none))) else none))) else none)) else none))) else none))
theorem palinoderef04_Mark_j2_ok {fuel : Nat} {c1 : UInt8} {x46 : Bool} {r : ByteArray} (h : palinoderef04_Mark_j2_ev fuel c1 x46 = some r) : palinoderef04_Mark_j2 c1 x46 r := by
  unfold palinoderef04_Mark_j2_ev at h
  unfold palinoderef04_Mark_j2
  refine ⟨fun g152 => ?_, fun g152 => ?_⟩
  · rw [if_pos g152] at h
    exact (Option.some.inj h).symm
  · rw [if_neg g152] at h
    obtain ⟨g153, h⟩ := if_ok h
    refine ⟨g153, ?_⟩
    obtain ⟨q154, g154, h⟩ := exB_ok h
    refine ⟨q154, g154, ?_⟩
    obtain ⟨q155, g155, h⟩ := exB_ok h
    refine ⟨q155, g155, ?_⟩
    obtain ⟨g156, h⟩ := if_ok h
    refine ⟨g156, ?_⟩
    obtain ⟨q157, g157, h⟩ := exB_ok h
    refine ⟨q157, g157, ?_⟩
    obtain ⟨g158, h⟩ := if_ok h
    refine ⟨g158, ?_⟩
    obtain ⟨q159, g159, h⟩ := exB_ok h
    refine ⟨q159, g159, ?_⟩
    obtain ⟨q160, g160, h⟩ := exB_ok h
    refine ⟨q160, g160, ?_⟩
    obtain ⟨g161, h⟩ := if_ok h
    refine ⟨g161, ?_⟩
    obtain ⟨q162, g162, h⟩ := exB_ok h
    refine ⟨q162, g162, ?_⟩
    obtain ⟨q163, g163, h⟩ := exB_ok h
    refine ⟨q163, g163, ?_⟩
    obtain ⟨g164, h⟩ := if_ok h
    refine ⟨g164, ?_⟩
    exact (Option.some.inj h).symm
def palinoderef04_Mark_j1_ev (fuel : Nat) (c1 : UInt8) (x23 : Bool) : Option (ByteArray) :=
  (if x23 = true then (if InR ((c1.toNat : Int) - 7) then (if InR ((c1.toNat : Int) - 6) then (if (0 ≤ (((c1.toNat : Int) - 7) : Int) ∧ (((c1.toNat : Int) - 7) : Int) ≤ (((c1.toNat : Int) - 6) : Int) ∧ (((c1.toNat : Int) - 6) : Int) ≤ (((⟨#[97, 98, 116, 110, 118, 102, 114]⟩ : ByteArray)).size : Int)) then (if InR ((((⟨#[92]⟩ : ByteArray)).size : Int) + (((((⟨#[97, 98, 116, 110, 118, 102, 114]⟩ : ByteArray)).extract (((c1.toNat : Int) - 7) : Int).toNat (((c1.toNat : Int) - 6) : Int).toNat)).size : Int)) then some (((⟨#[92]⟩ : ByteArray)) ++ ((((⟨#[97, 98, 116, 110, 118, 102, 114]⟩ : ByteArray)).extract (((c1.toNat : Int) - 7) : Int).toNat (((c1.toNat : Int) - 6) : Int).toNat))) else none) else none) else none) else none) else palinoderef04_Mark_j2_ev fuel c1 ((decide (32 ≤ (c1.toNat : Int))) && (decide ((c1.toNat : Int) ≤ 126))))
theorem palinoderef04_Mark_j1_ok {fuel : Nat} {c1 : UInt8} {x23 : Bool} {r : ByteArray} (h : palinoderef04_Mark_j1_ev fuel c1 x23 = some r) : palinoderef04_Mark_j1 c1 x23 r := by
  unfold palinoderef04_Mark_j1_ev at h
  unfold palinoderef04_Mark_j1
  refine ⟨fun g165 => ?_, fun g165 => ?_⟩
  · rw [if_pos g165] at h
    obtain ⟨g166, h⟩ := if_ok h
    refine ⟨g166, ?_⟩
    obtain ⟨g167, h⟩ := if_ok h
    refine ⟨g167, ?_⟩
    obtain ⟨g168, h⟩ := if_ok h
    refine ⟨g168, ?_⟩
    obtain ⟨g169, h⟩ := if_ok h
    refine ⟨g169, ?_⟩
    exact (Option.some.inj h).symm
  · rw [if_neg g165] at h
    exact palinoderef04_Mark_j2_ok h
def palinoderef04_Mark_ev (fuel : Nat) (c1 : UInt8) : Option (ByteArray) :=
  (if (c1.toNat : Int) = 92 then some (⟨#[92, 92]⟩ : ByteArray) else palinoderef04_Mark_j1_ev fuel c1 ((decide (7 ≤ (c1.toNat : Int))) && (decide ((c1.toNat : Int) ≤ 13))))
theorem palinoderef04_Mark_ok {fuel : Nat} {c1 : UInt8} {r : ByteArray} (h : palinoderef04_Mark_ev fuel c1 = some r) : palinoderef04_Mark_R c1 r := by
  unfold palinoderef04_Mark_ev at h
  unfold palinoderef04_Mark_R
  refine ⟨fun g170 => ?_, fun g170 => ?_⟩
  · rw [if_pos g170] at h
    exact (Option.some.inj h).symm
  · rw [if_neg g170] at h
    exact palinoderef04_Mark_j1_ok h
set_option maxHeartbeats 4000000 in
theorem palinoderef04_Mark_con (c1 : UInt8) (r : ByteArray) (h : palinoderef04_Mark_R c1 r) : Con Try.prog 21 [.v (.int .u8 ((c1.toNat : Int)))] [] [] (Ret (.v (.string r))) := by
  refine xenter Try.func21 rfl rfl fun g hg => ?_
  simp only [Try.ntmps21, slots]
  refine xseq ?_
  refine xregion ?_
  refine xvalP (pv_assign rfl) rfl rfl ?_
  refine xnil ?_
  refine xthen ?_
  refine xseq ?_
  refine xseq ?_
  refine xregion ?_
  refine xvalP (pv_move rfl) rfl rfl ?_
  refine xvalP (pv_bin2 rfl rfl rfl) rfl rfl ?_
  refine xnil ?_
  refine xthen ?_
  by_cases hp5 : (c1.toNat : Int) = 92
  · replace h := h.1 hp5
    refine xcondT' (decide_eq_true hp5) rfl ?_
    refine xseq ?_
    refine xregion ?_
    refine xvalP (pv_assign rfl) rfl rfl ?_
    refine xnil ?_
    refine xthen ?_
    refine xretc ?_
    refine xthen_ret ?_
    replace h := h.symm
    subst h
    exact xret1 hg rfl rfl (.refl _) (SubM.of (.nil _) (.nil _)) ⟨rfl, rfl, rfl⟩
  · replace h := h.2 hp5
    refine xcondF' (decide_eq_false hp5) rfl ?_
    refine xskipc ?_
    refine xthen ?_
    refine xseq ?_
    refine xseqM (fun σ => ∃ (x23 : Bool), palinoderef04_Mark_j1 c1 x23 r ∧ σ = ⟨[(0, .v (.int .u8 ((c1.toNat : Int)))), (10, .v (.bool x23))], [], []⟩) ?_ ?_
    · refine xregion ?_
      refine xvalP (pv_move rfl) rfl rfl ?_
      refine xvalP (pv_bin2 rfl rfl rfl) rfl rfl ?_
      refine xvalP (pv_move rfl) rfl rfl ?_
      by_cases hp25 : 7 ≤ (c1.toNat : Int)
      · rw [show (decide (7 ≤ (c1.toNat : Int))) = true from (decide_eq_true hp25), Bool.true_and] at h
        refine xsetB 7 (decide_eq_true hp25) rfl ?_
        refine xvalP (pv_move rfl) rfl rfl ?_
        refine xvalP (pv_bin2 rfl rfl rfl) rfl rfl ?_
        refine xvalP (pv_pick rfl rfl) rfl rfl ?_
        refine xnil ?_
        exact xmeet ⟨(decide ((c1.toNat : Int) ≤ 13)), h, rfl⟩ ⟨(.cons rfl (.refl _) (.cons rfl (.refl _) (.nil _))), (SubM.of (.nil _) (.nil _))⟩
      · rw [show (decide (7 ≤ (c1.toNat : Int))) = false from (decide_eq_false hp25), Bool.false_and] at h
        refine xsetB 7 (decide_eq_false hp25) rfl ?_
        refine xskip rfl rfl ?_
        refine xskip rfl rfl ?_
        refine xvalP (pv_pick rfl rfl) rfl rfl ?_
        refine xnil ?_
        exact xmeet ⟨false, h, rfl⟩ ⟨(.cons rfl (.refl _) (.cons rfl (.refl _) (.nil _))), (SubM.of (.nil _) (.nil _))⟩
    · clear h
      rintro _ ⟨x23, h, rfl⟩
      by_cases hp27 : x23 = true
      · replace h := h.1 hp27
        refine xcondT' hp27 rfl ?_
        refine xseq ?_
        refine xregion ?_
        refine xvalP (pv_move rfl) rfl rfl ?_
        refine xvalP (pv_convW (w8 c1) UndC.h UndC.h rfl) rfl rfl ?_
        obtain ⟨h29, h⟩ := h
        refine xvalP (pv_subI h29 rfl rfl) rfl rfl ?_
        refine xvalP (pv_move rfl) rfl rfl ?_
        refine xvalP (pv_convW (w8 c1) UndC.h UndC.h rfl) rfl rfl ?_
        obtain ⟨h31, h⟩ := h
        refine xvalP (pv_subI h31 rfl rfl) rfl rfl ?_
        obtain ⟨h32, h⟩ := h
        refine xvalP (pv_sliceSLH h32 UndC.h rfl rfl rfl) rfl rfl ?_
        obtain ⟨h33, h⟩ := h
        refine xvalP (pv_addS h33 rfl rfl) rfl rfl ?_
        refine xvalP (pv_assign rfl) rfl rfl ?_
        refine xnil ?_
        refine xthen ?_
        refine xretc ?_
        refine xthen_ret ?_
        replace h := h.symm
        subst h
        exact xret1 hg rfl rfl (.refl _) (SubM.of (.nil _) (.nil _)) ⟨rfl, rfl, rfl⟩
      · replace h := h.2 hp27
        refine xcondF' (b_f hp27) rfl ?_
        refine xskipc ?_
        refine xthen ?_
        refine xseq ?_
        refine xseqM (fun σ => ∃ (x46 : Bool), palinoderef04_Mark_j2 c1 x46 r ∧ σ = ⟨[(0, .v (.int .u8 ((c1.toNat : Int)))), (24, .v (.bool x46))], [], []⟩) ?_ ?_
        · refine xregion ?_
          refine xvalP (pv_move rfl) rfl rfl ?_
          refine xvalP (pv_bin2 rfl rfl rfl) rfl rfl ?_
          refine xvalP (pv_move rfl) rfl rfl ?_
          by_cases hp48 : 32 ≤ (c1.toNat : Int)
          · rw [show (decide (32 ≤ (c1.toNat : Int))) = true from (decide_eq_true hp48), Bool.true_and] at h
            refine xsetB 21 (decide_eq_true hp48) rfl ?_
            refine xvalP (pv_move rfl) rfl rfl ?_
            refine xvalP (pv_bin2 rfl rfl rfl) rfl rfl ?_
            refine xvalP (pv_pick rfl rfl) rfl rfl ?_
            refine xnil ?_
            exact xmeet ⟨(decide ((c1.toNat : Int) ≤ 126)), h, rfl⟩ ⟨(.cons rfl (.refl _) (.cons rfl (.refl _) (.nil _))), (SubM.of (.nil _) (.nil _))⟩
          · rw [show (decide (32 ≤ (c1.toNat : Int))) = false from (decide_eq_false hp48), Bool.false_and] at h
            refine xsetB 21 (decide_eq_false hp48) rfl ?_
            refine xskip rfl rfl ?_
            refine xskip rfl rfl ?_
            refine xvalP (pv_pick rfl rfl) rfl rfl ?_
            refine xnil ?_
            exact xmeet ⟨false, h, rfl⟩ ⟨(.cons rfl (.refl _) (.cons rfl (.refl _) (.nil _))), (SubM.of (.nil _) (.nil _))⟩
        · clear h
          rintro _ ⟨x46, h, rfl⟩
          by_cases hp50 : x46 = true
          · replace h := h.1 hp50
            refine xcondT' hp50 rfl ?_
            refine xseq ?_
            refine xregion ?_
            refine xvalP (pv_move rfl) rfl rfl ?_
            refine xbuildSliceM (f := eb) [c1] UndC.h InfC.h rfl rfl (by first | exact wkR_of rfl | (repeat (first | exact WkR.nil | refine WkR.cons (by (repeat (first | exact WkL.nil | refine WkL.cons (by first | with_reducible exact Wk.refl _ | exact Wk.nil_own _ | exact Wk.nil_pl _ | with_reducible exact Wk.tok _ _ _ | exact Wk.tok _ _ _ | exact Wk.eq (by first | rfl | (simp []; done) | (simp []; omega))) ?_))) ?_))) rfl rfl rfl rfl fun s26 => ?_
            refine xval (pv_str (bs := [c1]) UndC.h UndC.h UndC.h rfl rfl rfl (fun _ h => by injection h with h; exact h.symm)) rfl rfl ?_
            refine xvalP (pv_assign rfl) rfl rfl ?_
            refine xnil ?_
            refine xthen ?_
            refine xretc ?_
            refine xthen_ret ?_
            replace h := h.symm
            subst h
            exact xret1 hg rfl rfl (.refl _) (SubM.of (.nil _) (.nil _)) ⟨rfl, rfl, rfl⟩
          · replace h := h.2 hp50
            refine xcondF' (b_f hp50) rfl ?_
            refine xskipc ?_
            refine xthen ?_
            refine xseq ?_
            refine xregion ?_
            refine xvalP (pv_move rfl) rfl rfl ?_
            obtain ⟨h52, h⟩ := h
            obtain ⟨c53, h52r, h⟩ := h
            refine xvalP (pv_quoW h52 h52r rfl rfl rfl) rfl rfl ?_
            obtain ⟨c55, h54, h⟩ := h
            refine xvalP (pv_wr h54 rfl rfl rfl) rfl rfl ?_
            refine xvalP (pv_move rfl) rfl rfl ?_
            obtain ⟨h56, h⟩ := h
            obtain ⟨c57, h56r, h⟩ := h
            refine xvalP (pv_quoW h56 h56r rfl rfl rfl) rfl rfl ?_
            obtain ⟨h58, h⟩ := h
            obtain ⟨c59, h58r, h⟩ := h
            refine xvalP (pv_remW h58 h58r rfl rfl rfl) rfl rfl ?_
            obtain ⟨c61, h60, h⟩ := h
            refine xvalP (pv_wr h60 rfl rfl rfl) rfl rfl ?_
            refine xvalP (pv_move rfl) rfl rfl ?_
            obtain ⟨h62, h⟩ := h
            obtain ⟨c63, h62r, h⟩ := h
            refine xvalP (pv_remW h62 h62r rfl rfl rfl) rfl rfl ?_
            obtain ⟨c65, h64, h⟩ := h
            refine xvalP (pv_wr h64 rfl rfl rfl) rfl rfl ?_
            refine xbuildSliceM (f := eb) [c55, c61, c65] UndC.h InfC.h rfl rfl (by first | exact wkR_of rfl | (repeat (first | exact WkR.nil | refine WkR.cons (by (repeat (first | exact WkL.nil | refine WkL.cons (by first | with_reducible exact Wk.refl _ | exact Wk.nil_own _ | exact Wk.nil_pl _ | with_reducible exact Wk.tok _ _ _ | exact Wk.tok _ _ _ | exact Wk.eq (by first | rfl | (simp []; done) | (simp []; omega))) ?_))) ?_))) rfl rfl rfl rfl fun s38 => ?_
            refine xval (pv_str (bs := [c55, c61, c65]) UndC.h UndC.h UndC.h rfl rfl rfl (fun _ h => by injection h with h; exact h.symm)) rfl rfl ?_
            obtain ⟨h67, h⟩ := h
            refine xvalP (pv_addS h67 rfl rfl) rfl rfl ?_
            refine xvalP (pv_assign rfl) rfl rfl ?_
            refine xnil ?_
            refine xthen ?_
            refine xretc ?_
            replace h := h.symm
            subst h
            exact xret1 hg rfl rfl (.refl _) (SubM.of (.nil _) (.nil _)) ⟨rfl, rfl, rfl⟩
/-- palinoderef04.Quote -/
def palinoderef04_Quote_j2 (iv117 : Int) (ag1 : (ByteArray × Int) → Prop) (out162 : ByteArray) (r : ByteArray) : Prop :=
  InR (iv117 + 1) ∧ ag1 (out162, (iv117 + 1))
def palinoderef04_Quote_l1 (bv1 : List UInt8) (ag1 : (ByteArray × Int) → Prop) (out116 : ByteArray) (iv117 : Int) (r : ByteArray) : Prop :=
  ((iv117 < (bv1.length : Int) → 0 ≤ (iv117 : Int) ∧ ∃ y163 : UInt8, bv1[(iv117 : Int).toNat]? = some y163 ∧ (((y163.toNat : Int) = 34 → InR ((out116.size : Int) + (((⟨#[92, 34]⟩ : ByteArray)).size : Int)) ∧ palinoderef04_Quote_j2 iv117 ag1 (out116 ++ ((⟨#[92, 34]⟩ : ByteArray))) r) ∧ (¬ ((y163.toNat : Int) = 34) → 0 ≤ (iv117 : Int) ∧ ∃ y168 : UInt8, bv1[(iv117 : Int).toNat]? = some y168 ∧ ∃ y171 : ByteArray, palinoderef04_Mark_R y168 y171 ∧ InR ((out116.size : Int) + (y171.size : Int)) ∧ palinoderef04_Quote_j2 iv117 ag1 (out116 ++ y171) r))) ∧ (¬ (iv117 < (bv1.length : Int)) → InR ((out116.size : Int) + (((⟨#[34]⟩ : ByteArray)).size : Int)) ∧ r = (out116 ++ ((⟨#[34]⟩ : ByteArray)))))
def palinoderef04_Quote_R (bv1 : List UInt8) (r : ByteArray) : Prop :=
  LoopR (fun ag1 s => palinoderef04_Quote_l1 bv1 ag1 s.1 s.2 r) ((⟨#[34]⟩ : ByteArray), 0)
def palinoderef04_Quote_j2_ev (fuel : Nat) (iv117 : Int) (ag1e : (ByteArray × Int) → Option (ByteArray)) (out162 : ByteArray) : Option (ByteArray) :=
  (if InR (iv117 + 1) then ag1e (out162, (iv117 + 1)) else none)
theorem palinoderef04_Quote_j2_ok {fuel : Nat} {iv117 : Int} {ag1 : (ByteArray × Int) → Prop} {ag1e : (ByteArray × Int) → Option (ByteArray)} {out162 : ByteArray} {r : ByteArray} (hagag1 : ∀ s, ag1e s = some r → ag1 s) (h : palinoderef04_Quote_j2_ev fuel iv117 ag1e out162 = some r) : palinoderef04_Quote_j2 iv117 ag1 out162 r := by
  unfold palinoderef04_Quote_j2_ev at h
  unfold palinoderef04_Quote_j2
  obtain ⟨g171, h⟩ := if_ok h
  refine ⟨g171, ?_⟩
  exact hagag1 _ h
def palinoderef04_Quote_l1_ev (fuel : Nat) (bv1 : List UInt8) (ag1e : (ByteArray × Int) → Option (ByteArray)) (out116 : ByteArray) (iv117 : Int) : Option (ByteArray) :=
  (if iv117 < (bv1.length : Int) then (if 0 ≤ (iv117 : Int) then ((bv1[(iv117 : Int).toNat]?).bind fun y163 => (if (y163.toNat : Int) = 34 then (if InR ((out116.size : Int) + (((⟨#[92, 34]⟩ : ByteArray)).size : Int)) then palinoderef04_Quote_j2_ev fuel iv117 ag1e (out116 ++ ((⟨#[92, 34]⟩ : ByteArray))) else none) else (if 0 ≤ (iv117 : Int) then ((bv1[(iv117 : Int).toNat]?).bind fun y168 => ((palinoderef04_Mark_ev fuel y168).bind fun y171 => (if InR ((out116.size : Int) + (y171.size : Int)) then palinoderef04_Quote_j2_ev fuel iv117 ag1e (out116 ++ y171) else none))) else none))) else none) else (if InR ((out116.size : Int) + (((⟨#[34]⟩ : ByteArray)).size : Int)) then some (out116 ++ ((⟨#[34]⟩ : ByteArray))) else none))
theorem palinoderef04_Quote_l1_ok {fuel : Nat} {bv1 : List UInt8} {ag1e : (ByteArray × Int) → Option (ByteArray)} {ag1 : (ByteArray × Int) → Prop} {out116 : ByteArray} {iv117 : Int} {r : ByteArray} (hagag1 : ∀ s, ag1e s = some r → ag1 s) (h : palinoderef04_Quote_l1_ev fuel bv1 ag1e out116 iv117 = some r) : palinoderef04_Quote_l1 bv1 ag1 out116 iv117 r := by
  unfold palinoderef04_Quote_l1_ev at h
  unfold palinoderef04_Quote_l1
  refine ⟨fun g172 => ?_, fun g172 => ?_⟩
  · rw [if_pos g172] at h
    obtain ⟨g173, h⟩ := if_ok h
    refine ⟨g173, ?_⟩
    obtain ⟨q174, g174, h⟩ := bind_ok h
    refine ⟨q174, g174, ?_⟩
    refine ⟨fun g175 => ?_, fun g175 => ?_⟩
    · rw [if_pos g175] at h
      obtain ⟨g176, h⟩ := if_ok h
      refine ⟨g176, ?_⟩
      exact palinoderef04_Quote_j2_ok hagag1 h
    · rw [if_neg g175] at h
      obtain ⟨g177, h⟩ := if_ok h
      refine ⟨g177, ?_⟩
      obtain ⟨q178, g178, h⟩ := bind_ok h
      refine ⟨q178, g178, ?_⟩
      obtain ⟨q179, g179, h⟩ := bind_ok h
      refine ⟨q179, palinoderef04_Mark_ok g179, ?_⟩
      obtain ⟨g180, h⟩ := if_ok h
      refine ⟨g180, ?_⟩
      exact palinoderef04_Quote_j2_ok hagag1 h
  · rw [if_neg g172] at h
    obtain ⟨g181, h⟩ := if_ok h
    refine ⟨g181, ?_⟩
    exact (Option.some.inj h).symm
def palinoderef04_Quote_ev (fuel : Nat) (bv1 : List UInt8) : Option (ByteArray) :=
  (loopE (fun ag1e s => palinoderef04_Quote_l1_ev fuel bv1 ag1e s.1 s.2) fuel ((⟨#[34]⟩ : ByteArray), 0))
theorem palinoderef04_Quote_ok {fuel : Nat} {bv1 : List UInt8} {r : ByteArray} (h : palinoderef04_Quote_ev fuel bv1 = some r) : palinoderef04_Quote_R bv1 r := by
  unfold palinoderef04_Quote_ev at h
  unfold palinoderef04_Quote_R
  refine loopE_ok ?_ h
  intro ae ag s hag h
  exact palinoderef04_Quote_l1_ok hag h
set_option maxHeartbeats 4000000 in
theorem palinoderef04_Quote_con (bv1 : List UInt8) (r : ByteArray) (h : palinoderef04_Quote_R bv1 r) : Con Try.prog 13 [.sl 1 none (List.map eb bv1)] [] [] (Ret (.v (.string r))) := by
  refine xenter Try.func13 rfl rfl fun g hg => ?_
  simp only [Try.ntmps13, slots]
  refine xseq ?_
  refine xregion ?_
  refine xvalP (pv_assign rfl) rfl rfl ?_
  refine xnil ?_
  refine xthen ?_
  refine xseq ?_
  refine xregion ?_
  refine xvalP (pv_assign rfl) rfl rfl ?_
  refine xnil ?_
  refine xthen ?_
  refine xseq ?_
  refine xseq ?_
  refine xregion ?_
  refine xvalP (pv_assign rfl) rfl rfl ?_
  refine xnil ?_
  refine xthen ?_
  refine xblock ?_
  obtain ⟨Inv, ⟨m0, hI⟩, hS⟩ := h
  refine xloop (fun σ m => ∃ (out116 : ByteArray), ∃ (iv117 : Int), Inv (out116, iv117) m ∧ σ = ⟨[(0, .sl 1 none (List.map eb bv1)), (3, .v (.string out116)), (4, .v (.int .i64 iv117))], [], []⟩) ⟨(⟨#[34]⟩ : ByteArray), 0, hI, rfl⟩ ⟨(.cons rfl (.refl _) (.cons rfl (.refl _) (.cons rfl (.refl _) (.nil _)))), (SubM.of (.nil _) (.nil _))⟩ ?_
  rintro _ m ⟨out116, iv117, hI, rfl⟩
  obtain ⟨ag1, hag1, h⟩ : ∃ ag, (∀ s', ag s' → ∃ m', m' < m ∧ Inv s' m') ∧ palinoderef04_Quote_l1 bv1 ag out116 iv117 r := ⟨_, fun _ h => h, hS (out116, iv117) _ hI⟩
  clear hS hI
  refine xseq ?_
  refine xseq ?_
  refine xregion ?_
  refine xvalP (pv_move rfl) rfl rfl ?_
  refine xvalP (pv_move rfl) rfl rfl ?_
  refine xvalP (pv_lenM UndC.h rfl) rfl rfl ?_
  refine xvalP (pv_bin2 rfl rfl rfl) rfl rfl ?_
  refine xnil ?_
  refine xthen ?_
  by_cases hp151 : iv117 < (bv1.length : Int)
  · replace h := h.1 hp151
    refine xcondT' (decide_eq_true hp151) rfl ?_
    refine xskipc ?_
    refine xthen ?_
    refine xseqM (fun σ => ∃ (out162 : ByteArray), palinoderef04_Quote_j2 iv117 ag1 out162 r ∧ σ = ⟨[(0, .sl 1 none (List.map eb bv1)), (3, .v (.string out162)), (4, .v (.int .i64 iv117))], [], []⟩) ?_ ?_
    · refine xblock ?_
      refine xseq ?_
      refine xregion ?_
      refine xvalP (pv_move rfl) rfl rfl ?_
      refine xvalP (pv_move rfl) rfl rfl ?_
      obtain ⟨h164a, h⟩ := h
      obtain ⟨y163, h164b, h⟩ := h
      refine xvalP (pv_indexAddrM h164a h164b UndC.h ShpC.h rfl rfl) rfl rfl ?_
      refine xval (qv_load ShpC.h rfl rfl rfl) rfl rfl ?_
      refine xvalP (pv_bin2 rfl rfl rfl) rfl rfl ?_
      refine xnil ?_
      refine xthen ?_
      by_cases hp166 : (y163.toNat : Int) = 34
      · replace h := h.1 hp166
        refine xcondT' (decide_eq_true hp166) rfl ?_
        refine xregion ?_
        refine xvalP (pv_move rfl) rfl rfl ?_
        obtain ⟨h167, h⟩ := h
        refine xvalP (pv_addS h167 rfl rfl) rfl rfl ?_
        refine xvalP (pv_assign rfl) rfl rfl ?_
        refine xnil ?_
        refine xin_normal ?_
        exact xmeet ⟨(out116 ++ ((⟨#[92, 34]⟩ : ByteArray))), h, rfl⟩ ⟨(.cons rfl (.refl _) (.cons rfl (.refl _) (.cons rfl (.refl _) (.nil _)))), (SubM.of (.nil _) (.nil _))⟩
      · replace h := h.2 hp166
        refine xcondF' (decide_eq_false hp166) rfl ?_
        refine xregion ?_
        refine xvalP (pv_move rfl) rfl rfl ?_
        refine xvalP (pv_move rfl) rfl rfl ?_
        refine xvalP (pv_move rfl) rfl rfl ?_
        obtain ⟨h169a, h⟩ := h
        obtain ⟨y168, h169b, h⟩ := h
        refine xvalP (pv_indexAddrM h169a h169b UndC.h ShpC.h rfl rfl) rfl rfl ?_
        refine xval (qv_load ShpC.h rfl rfl rfl) rfl rfl ?_
        obtain ⟨y171, h170, h⟩ := h
        refine xcall0 (palinoderef04_Mark_con y168 _ h170) Try.func21 (by kernel_rfl) rfl (.cons rfl (.refl _) .nil) rfl rfl ?_
        obtain ⟨h172, h⟩ := h
        refine xvalP (pv_addS h172 rfl rfl) rfl rfl ?_
        refine xvalP (pv_assign rfl) rfl rfl ?_
        refine xnil ?_
        refine xin_normal ?_
        exact xmeet ⟨(out116 ++ y171), h, rfl⟩ ⟨(.cons rfl (.refl _) (.cons rfl (.refl _) (.cons rfl (.refl _) (.nil _)))), (SubM.of (.nil _) (.nil _))⟩
    · clear h
      rintro _ ⟨out162, h, rfl⟩
      refine xregion ?_
      refine xvalP (pv_move rfl) rfl rfl ?_
      obtain ⟨h173, h⟩ := h
      refine xvalP (pv_addI h173 rfl rfl) rfl rfl ?_
      refine xvalP (pv_assign rfl) rfl rfl ?_
      refine xnil ?_
      obtain ⟨m', hm, hI⟩ := hag1 _ h
      exact xagain ⟨out162, (iv117 + 1), hI, rfl⟩ hm ⟨(.cons rfl (.refl _) (.cons rfl (.refl _) (.cons rfl (.refl _) (.nil _)))), (SubM.of (.nil _) (.nil _))⟩
  · replace h := h.2 hp151
    refine xcondF' (decide_eq_false hp151) rfl ?_
    refine xexit ?_
    refine xthen_exit ?_
    refine xthen_exit ?_
    refine xin_same rfl ?_
    refine xthen ?_
    refine xseq ?_
    refine xregion ?_
    refine xvalP (pv_move rfl) rfl rfl ?_
    obtain ⟨h174, h⟩ := h
    refine xvalP (pv_addS h174 rfl rfl) rfl rfl ?_
    refine xvalP (pv_assign rfl) rfl rfl ?_
    refine xnil ?_
    refine xthen ?_
    refine xretc ?_
    replace h := h.symm
    subst h
    exact xret1 hg rfl rfl (.refl _) (SubM.of (.nil _) (.nil _)) ⟨rfl, rfl, rfl⟩
/-- palinoderef01.Same -/
def palinoderef01_Same_v2_l1 (a1 : List UInt8) (bv2 : List UInt8) (ag1 : (Int) → Prop) (iv128 : Int) (r : Bool) : Prop :=
  ((iv128 < (a1.length : Int) → 0 ≤ (iv128 : Int) ∧ ∃ y180 : UInt8, a1[(iv128 : Int).toNat]? = some y180 ∧ 0 ≤ (iv128 : Int) ∧ ∃ y182 : UInt8, bv2[(iv128 : Int).toNat]? = some y182 ∧ ((¬ ((y180.toNat : Int) = (y182.toNat : Int)) → r = false) ∧ (¬ (¬ ((y180.toNat : Int) = (y182.toNat : Int))) → InR (iv128 + 1) ∧ ag1 (iv128 + 1)))) ∧ (¬ (iv128 < (a1.length : Int)) → r = true))
def palinoderef01_Same_v2_R (a1 : List UInt8) (bv2 : List UInt8) (r : Bool) : Prop :=
  ((¬ ((a1.length : Int) = (bv2.length : Int)) → r = false) ∧ (¬ (¬ ((a1.length : Int) = (bv2.length : Int))) → LoopR (fun ag1 s => palinoderef01_Same_v2_l1 a1 bv2 ag1 s r) 0))
def palinoderef01_Same_v2_l1_ev (fuel : Nat) (a1 : List UInt8) (bv2 : List UInt8) (ag1e : (Int) → Option (Bool)) (iv128 : Int) : Option (Bool) :=
  (if iv128 < (a1.length : Int) then (if 0 ≤ (iv128 : Int) then ((a1[(iv128 : Int).toNat]?).bind fun y180 => (if 0 ≤ (iv128 : Int) then ((bv2[(iv128 : Int).toNat]?).bind fun y182 => (if ¬ ((y180.toNat : Int) = (y182.toNat : Int)) then some false else (if InR (iv128 + 1) then ag1e (iv128 + 1) else none))) else none)) else none) else some true)
theorem palinoderef01_Same_v2_l1_ok {fuel : Nat} {a1 : List UInt8} {bv2 : List UInt8} {ag1e : (Int) → Option (Bool)} {ag1 : (Int) → Prop} {iv128 : Int} {r : Bool} (hagag1 : ∀ s, ag1e s = some r → ag1 s) (h : palinoderef01_Same_v2_l1_ev fuel a1 bv2 ag1e iv128 = some r) : palinoderef01_Same_v2_l1 a1 bv2 ag1 iv128 r := by
  unfold palinoderef01_Same_v2_l1_ev at h
  unfold palinoderef01_Same_v2_l1
  refine ⟨fun g182 => ?_, fun g182 => ?_⟩
  · rw [if_pos g182] at h
    obtain ⟨g183, h⟩ := if_ok h
    refine ⟨g183, ?_⟩
    obtain ⟨q184, g184, h⟩ := bind_ok h
    refine ⟨q184, g184, ?_⟩
    obtain ⟨g185, h⟩ := if_ok h
    refine ⟨g185, ?_⟩
    obtain ⟨q186, g186, h⟩ := bind_ok h
    refine ⟨q186, g186, ?_⟩
    refine ⟨fun g187 => ?_, fun g187 => ?_⟩
    · rw [if_pos g187] at h
      exact (Option.some.inj h).symm
    · rw [if_neg g187] at h
      obtain ⟨g188, h⟩ := if_ok h
      refine ⟨g188, ?_⟩
      exact hagag1 _ h
  · rw [if_neg g182] at h
    exact (Option.some.inj h).symm
def palinoderef01_Same_v2_ev (fuel : Nat) (a1 : List UInt8) (bv2 : List UInt8) : Option (Bool) :=
  (if ¬ ((a1.length : Int) = (bv2.length : Int)) then some false else (loopE (fun ag1e s => palinoderef01_Same_v2_l1_ev fuel a1 bv2 ag1e s) fuel 0))
theorem palinoderef01_Same_v2_ok {fuel : Nat} {a1 : List UInt8} {bv2 : List UInt8} {r : Bool} (h : palinoderef01_Same_v2_ev fuel a1 bv2 = some r) : palinoderef01_Same_v2_R a1 bv2 r := by
  unfold palinoderef01_Same_v2_ev at h
  unfold palinoderef01_Same_v2_R
  refine ⟨fun g189 => ?_, fun g189 => ?_⟩
  · rw [if_pos g189] at h
    exact (Option.some.inj h).symm
  · rw [if_neg g189] at h
    refine loopE_ok ?_ h
    intro ae ag s hag h
    exact palinoderef01_Same_v2_l1_ok hag h
set_option maxHeartbeats 4000000 in
theorem palinoderef01_Same_v2_con (a1 : List UInt8) (bv2 : List UInt8) (r : Bool) (h : palinoderef01_Same_v2_R a1 bv2 r) : Con Try.prog 9 [.sl 1 none (List.map eb a1), .sl 1 none (List.map eb bv2)] [] [] (Ret (.v (.bool r))) := by
  refine xenter Try.func9 rfl rfl fun g hg => ?_
  simp only [Try.ntmps9, slots]
  refine xseq ?_
  refine xregion ?_
  refine xvalP (pv_assign rfl) rfl rfl ?_
  refine xnil ?_
  refine xthen ?_
  refine xseq ?_
  refine xseq ?_
  refine xregion ?_
  refine xvalP (pv_move rfl) rfl rfl ?_
  refine xvalP (pv_lenM UndC.h rfl) rfl rfl ?_
  refine xvalP (pv_move rfl) rfl rfl ?_
  refine xvalP (pv_lenM UndC.h rfl) rfl rfl ?_
  refine xvalP (pv_bin2 rfl rfl rfl) rfl rfl ?_
  refine xnil ?_
  refine xthen ?_
  by_cases hp10 : ¬ ((a1.length : Int) = (bv2.length : Int))
  · replace h := h.1 hp10
    refine xcondT' (not_t (decide_eq_false hp10)) rfl ?_
    refine xseq ?_
    refine xregion ?_
    refine xvalP (pv_assign rfl) rfl rfl ?_
    refine xnil ?_
    refine xthen ?_
    refine xretc ?_
    refine xthen_ret ?_
    replace h := h.symm
    subst h
    exact xret1 hg rfl rfl (.refl _) (SubM.of (.nil _) (.nil _)) ⟨rfl, rfl, rfl⟩
  · replace h := h.2 hp10
    refine xcondF' (not_f (decide_eq_true (Decidable.of_not_not hp10))) rfl ?_
    refine xskipc ?_
    refine xthen ?_
    refine xseq ?_
    refine xseq ?_
    refine xregion ?_
    refine xvalP (pv_assign rfl) rfl rfl ?_
    refine xnil ?_
    refine xthen ?_
    refine xblock ?_
    obtain ⟨Inv, ⟨m0, hI⟩, hS⟩ := h
    refine xloop (fun σ m => ∃ (iv128 : Int), Inv iv128 m ∧ σ = ⟨[(0, .sl 1 none (List.map eb a1)), (1, .sl 1 none (List.map eb bv2)), (5, .v (.int .i64 iv128))], [], []⟩) ⟨0, hI, rfl⟩ ⟨(.cons rfl (.refl _) (.cons rfl (.refl _) (.cons rfl (.refl _) (.nil _)))), (SubM.of (.nil _) (.nil _))⟩ ?_
    rintro _ m ⟨iv128, hI, rfl⟩
    obtain ⟨ag1, hag1, h⟩ : ∃ ag, (∀ s', ag s' → ∃ m', m' < m ∧ Inv s' m') ∧ palinoderef01_Same_v2_l1 a1 bv2 ag iv128 r := ⟨_, fun _ h => h, hS iv128 _ hI⟩
    clear hS hI
    refine xseq ?_
    refine xseq ?_
    refine xregion ?_
    refine xvalP (pv_move rfl) rfl rfl ?_
    refine xvalP (pv_move rfl) rfl rfl ?_
    refine xvalP (pv_lenM UndC.h rfl) rfl rfl ?_
    refine xvalP (pv_bin2 rfl rfl rfl) rfl rfl ?_
    refine xnil ?_
    refine xthen ?_
    by_cases hp163 : iv128 < (a1.length : Int)
    · replace h := h.1 hp163
      refine xcondT' (decide_eq_true hp163) rfl ?_
      refine xskipc ?_
      refine xthen ?_
      refine xseq ?_
      refine xblock ?_
      refine xseq ?_
      refine xregionD (m := 9) (by kernel_rfl) rfl ?_
      obtain ⟨h181a, h⟩ := h
      obtain ⟨y180, h181b, h⟩ := h
      obtain ⟨h183a, h⟩ := h
      obtain ⟨y182, h183b, h⟩ := h
      refine xpval 0 rfl (pv_move rfl) rfl rfl (by kernel_rfl) (by kernel_rfl) (by kernel_rfl) (fun _ _ _ _ h => h) ?_
      refine xpval 1 rfl (pv_move rfl) rfl rfl (by kernel_rfl) (by kernel_rfl) (by kernel_rfl) (fun _ _ _ _ h => h) ?_
      refine xpval 2 rfl (pv_indexAddrM h181a h181b UndC.h ShpC.h rfl rfl) rfl rfl (by kernel_rfl) (by kernel_rfl) (by kernel_rfl) (fun _ _ _ _ h => h) ?_
      refine xpval 4 rfl (pv_move rfl) rfl rfl (by kernel_rfl) (by kernel_rfl) (by kernel_rfl) (fun _ _ _ _ h => h) ?_
      refine xpval 5 rfl (pv_move rfl) rfl rfl (by kernel_rfl) (by kernel_rfl) (by kernel_rfl) (fun _ _ _ _ h => h) ?_
      refine xpval 6 rfl (pv_indexAddrM h183a h183b UndC.h ShpC.h rfl rfl) rfl rfl (by kernel_rfl) (by kernel_rfl) (by kernel_rfl) (fun _ _ _ _ h => h) ?_
      refine xpvalE 3 [7] rfl (qv_load ShpC.h rfl rfl rfl) rfl rfl (by kernel_rfl) (by kernel_rfl) (by kernel_rfl) (fun _ _ _ _ h => h) ?_
      refine xpvalE 7 [] rfl (qv_load ShpC.h rfl rfl rfl) rfl rfl (by kernel_rfl) (by kernel_rfl) (by kernel_rfl) (fun _ _ _ _ h => h) ?_
      refine xpval 8 rfl (pv_bin2 rfl rfl rfl) rfl rfl (by kernel_rfl) (by kernel_rfl) (by kernel_rfl) (fun _ _ _ _ h => h) ?_
      refine xpdone (by kernel_rfl) ?_
      refine xthen ?_
      by_cases hp185 : ¬ ((y180.toNat : Int) = (y182.toNat : Int))
      · replace h := h.1 hp185
        refine xcondT' (not_t (decide_eq_false hp185)) rfl ?_
        refine xseq ?_
        refine xregion ?_
        refine xvalP (pv_assign rfl) rfl rfl ?_
        refine xnil ?_
        refine xthen ?_
        refine xretc ?_
        refine xin_ret ?_
        refine xthen_ret ?_
        refine xthen_ret ?_
        refine xin_ret ?_
        refine xthen_ret ?_
        replace h := h.symm
        subst h
        exact xret1 hg rfl rfl (.refl _) (SubM.of (.nil _) (.nil _)) ⟨rfl, rfl, rfl⟩
      · replace h := h.2 hp185
        refine xcondF' (not_f (decide_eq_true (Decidable.of_not_not hp185))) rfl ?_
        refine xskipc ?_
        refine xin_normal ?_
        refine xthen ?_
        refine xregion ?_
        refine xvalP (pv_move rfl) rfl rfl ?_
        obtain ⟨h186, h⟩ := h
        refine xvalP (pv_addI h186 rfl rfl) rfl rfl ?_
        refine xvalP (pv_assign rfl) rfl rfl ?_
        refine xnil ?_
        obtain ⟨m', hm, hI⟩ := hag1 _ h
        exact xagain ⟨(iv128 + 1), hI, rfl⟩ hm ⟨(.cons rfl (.refl _) (.cons rfl (.refl _) (.cons rfl (.refl _) (.nil _)))), (SubM.of (.nil _) (.nil _))⟩
    · replace h := h.2 hp163
      refine xcondF' (decide_eq_false hp163) rfl ?_
      refine xexit ?_
      refine xthen_exit ?_
      refine xthen_exit ?_
      refine xin_same rfl ?_
      refine xthen ?_
      refine xseq ?_
      refine xregion ?_
      refine xvalP (pv_assign rfl) rfl rfl ?_
      refine xnil ?_
      refine xthen ?_
      refine xretc ?_
      replace h := h.symm
      subst h
      exact xret1 hg rfl rfl (.refl _) (SubM.of (.nil _) (.nil _)) ⟨rfl, rfl, rfl⟩
end Go.Proofs.Ytefpkpiadnpkeaa
