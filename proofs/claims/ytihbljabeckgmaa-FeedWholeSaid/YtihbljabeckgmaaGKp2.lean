/- What functions' texts ask for, and the walks that show it (printed by a program). -/
import Derived.Test.YtihbljabeckgmaaGKp1
namespace Go.Proofs.Ytihbljabeckgmaa
/-- feed.Lines$1 -/
def feed_Lines_c1_l1 (o4 : List (ByteArray × (List UInt8))) (o5 : Bool × Bool × Bool × Bool × (List ByteArray)) (ag1 : (Int × Int × Int × Int × (List UInt8) × Bool × (List Int)) → Prop) (f20 : Int) (f21 : Int) (f22 : Int) (f23 : Int) (f24 : List UInt8) (f25 : Bool) (f26 : List Int) (r : Bool × Bool × (List Int)) : Prop :=
  ∃ y41 : ((List UInt8) × Bool) × (Int × Int × Int × Int × (List UInt8)) × Bool, feed_Next_R (f20, f21, f22, f23, f24) o4 o5 y41 ∧ ((¬ (y41.2.2 = true) → r = (true, f25, f26)) ∧ (¬ (¬ (y41.2.2 = true)) → ∃ y49 : Bool × Bool × (List Int), palinodelaw18_awake_y1_R f25 f26 y41.2.1.2.2.1 y41.1 y49 ∧ ((y49.1 = true → ag1 (y41.2.1.1, y41.2.1.2.1, y41.2.1.2.2.1, y41.2.1.2.2.2.1, y41.2.1.2.2.2.2, y49.2.1, y49.2.2)) ∧ (¬ (y49.1 = true) → r = (false, y49.2.1, y49.2.2)))))
def feed_Lines_c1_R (o1 : Bool) (o2 : List Int) (o4 : List (ByteArray × (List UInt8))) (o5 : Bool × Bool × Bool × Bool × (List ByteArray)) (r : Bool × Bool × (List Int)) : Prop :=
  ∃ y7 : (Int × Int × Int × Int × (List UInt8)), feed_First_R y7 ∧ LoopR (fun ag1 s => feed_Lines_c1_l1 o4 o5 ag1 s.1 s.2.1 s.2.2.1 s.2.2.2.1 s.2.2.2.2.1 s.2.2.2.2.2.1 s.2.2.2.2.2.2 r) (y7.1, y7.2.1, y7.2.2.1, y7.2.2.2.1, y7.2.2.2.2, o1, o2)
def feed_Lines_c1_l1_ev (fuel : Nat) (o4 : List (ByteArray × (List UInt8))) (o5 : Bool × Bool × Bool × Bool × (List ByteArray)) (ag1e : (Int × Int × Int × Int × (List UInt8) × Bool × (List Int)) → Option (Bool × Bool × (List Int))) (f20 : Int) (f21 : Int) (f22 : Int) (f23 : Int) (f24 : List UInt8) (f25 : Bool) (f26 : List Int) : Option (Bool × Bool × (List Int)) :=
  ((feed_Next_ev fuel (f20, f21, f22, f23, f24) o4 o5).bind fun y41 => (if ¬ (y41.2.2 = true) then some (true, f25, f26) else ((palinodelaw18_awake_y1_ev fuel f25 f26 y41.2.1.2.2.1 y41.1).bind fun y49 => (if y49.1 = true then ag1e (y41.2.1.1, y41.2.1.2.1, y41.2.1.2.2.1, y41.2.1.2.2.2.1, y41.2.1.2.2.2.2, y49.2.1, y49.2.2) else some (false, y49.2.1, y49.2.2)))))
theorem feed_Lines_c1_l1_ok {fuel : Nat} {o4 : List (ByteArray × (List UInt8))} {o5 : Bool × Bool × Bool × Bool × (List ByteArray)} {ag1e : (Int × Int × Int × Int × (List UInt8) × Bool × (List Int)) → Option (Bool × Bool × (List Int))} {ag1 : (Int × Int × Int × Int × (List UInt8) × Bool × (List Int)) → Prop} {f20 : Int} {f21 : Int} {f22 : Int} {f23 : Int} {f24 : List UInt8} {f25 : Bool} {f26 : List Int} {r : Bool × Bool × (List Int)} (hagag1 : ∀ s, ag1e s = some r → ag1 s) (h : feed_Lines_c1_l1_ev fuel o4 o5 ag1e f20 f21 f22 f23 f24 f25 f26 = some r) : feed_Lines_c1_l1 o4 o5 ag1 f20 f21 f22 f23 f24 f25 f26 r := by
  unfold feed_Lines_c1_l1_ev at h
  unfold feed_Lines_c1_l1
  obtain ⟨q51, g51, h⟩ := bind_ok h
  refine ⟨q51, feed_Next_ok g51, ?_⟩
  refine ⟨fun g52 => ?_, fun g52 => ?_⟩
  · rw [if_pos g52] at h
    exact (Option.some.inj h).symm
  · rw [if_neg g52] at h
    obtain ⟨q53, g53, h⟩ := bind_ok h
    refine ⟨q53, palinodelaw18_awake_y1_ok g53, ?_⟩
    refine ⟨fun g54 => ?_, fun g54 => ?_⟩
    · rw [if_pos g54] at h
      exact hagag1 _ h
    · rw [if_neg g54] at h
      exact (Option.some.inj h).symm
def feed_Lines_c1_ev (fuel : Nat) (o1 : Bool) (o2 : List Int) (o4 : List (ByteArray × (List UInt8))) (o5 : Bool × Bool × Bool × Bool × (List ByteArray)) : Option (Bool × Bool × (List Int)) :=
  ((feed_First_ev fuel).bind fun y7 => (loopE (fun ag1e s => feed_Lines_c1_l1_ev fuel o4 o5 ag1e s.1 s.2.1 s.2.2.1 s.2.2.2.1 s.2.2.2.2.1 s.2.2.2.2.2.1 s.2.2.2.2.2.2) fuel (y7.1, y7.2.1, y7.2.2.1, y7.2.2.2.1, y7.2.2.2.2, o1, o2)))
theorem feed_Lines_c1_ok {fuel : Nat} {o1 : Bool} {o2 : List Int} {o4 : List (ByteArray × (List UInt8))} {o5 : Bool × Bool × Bool × Bool × (List ByteArray)} {r : Bool × Bool × (List Int)} (h : feed_Lines_c1_ev fuel o1 o2 o4 o5 = some r) : feed_Lines_c1_R o1 o2 o4 o5 r := by
  unfold feed_Lines_c1_ev at h
  unfold feed_Lines_c1_R
  obtain ⟨q55, g55, h⟩ := bind_ok h
  refine ⟨q55, feed_First_ok g55, ?_⟩
  refine loopE_ok ?_ h
  intro ae ag s hag h
  exact feed_Lines_c1_l1_ok hag h
set_option maxHeartbeats 4000000 in
theorem feed_Lines_c1_con (o1 : Bool) (o2 : List Int) (o4 : List (ByteArray × (List UInt8))) (o5 : Bool × Bool × Bool × Bool × (List ByteArray)) (bx0 : Nat) (bx1 : Nat) (bx2 : Nat) (bx3 : Nat) (ia3 : Option (Nat × Nat)) {L : Lp} (hY : palinodelaw18_awake_y1_Y bx0 bx1 L) (r : Bool × Bool × (List Int)) (h : feed_Lines_c1_R o1 o2 o4 o5 r) : ConL Try.prog 21 [.v (.func (.yield L.l) #[] #[]), .v (.pointer (some ⟨bx2, 0, none⟩)), .v (.pointer (some ⟨bx3, 0, none⟩))] [⟨bx0, 4, [.v (.bool o1)]⟩, ⟨bx1, 29, [.sl 1 (some ia3) (List.map ei o2)]⟩, ⟨bx2, 22, [.sl 2 none (List.map E_palinode_api_File o4)]⟩, ⟨bx3, 25, [.v (.bool o5.1), .v (.bool o5.2.1), .v (.bool o5.2.2.1), .v (.bool o5.2.2.2.1), .sl 1 none (List.map es o5.2.2.2.2)]⟩] [⟨ia3, 3, 1, o2.length⟩] L (fun j bx tk => ∃ j1 : Option (Nat × Nat), j = jmp .ret r.1 ∧ bx = [⟨bx0, 4, [.v (.bool r.2.1)]⟩, ⟨bx1, 29, [.sl 1 (some j1) (List.map ei r.2.2)]⟩, ⟨bx2, 22, [.sl 2 none (List.map E_palinode_api_File o4)]⟩, ⟨bx3, 25, [.v (.bool o5.1), .v (.bool o5.2.1), .v (.bool o5.2.2.1), .v (.bool o5.2.2.2.1), .sl 1 none (List.map es o5.2.2.2.2)]⟩] ∧ tk = [⟨j1, 3, 1, r.2.2.length⟩]) := by
  refine xenterL Try.func21 rfl rfl fun g r0 hg hL => ?_
  simp only [Try.ntmps21, slots]
  refine xseq ?_
  refine xregion ?_
  obtain ⟨y7, h6, h⟩ := h
  refine xcall0 (feed_First_con _ h6) Try.func14 (by kernel_rfl) rfl .nil rfl rfl ?_
  refine xalloc InfC.h rfl rfl fun b4 => ?_
  refine xstore 0 ShpC.h rfl rfl rfl rfl rfl rfl rfl ?_
  refine xnil ?_
  refine xthen ?_
  refine xblock ?_
  obtain ⟨Inv, ⟨m0, hI⟩, hS⟩ := h
  refine xloop (fun σ m => ∃ (f20 : Int), ∃ (f21 : Int), ∃ (f22 : Int), ∃ (f23 : Int), ∃ (f24 : List UInt8), ∃ (f25 : Bool), ∃ (f26 : List Int), ∃ (i27 : Option (Nat × Nat)), Inv (f20, f21, f22, f23, f24, f25, f26) m ∧ σ = ⟨[(0, .v (.func (.yield L.l) #[] #[])), (1, .v (.pointer (some ⟨bx2, 0, none⟩))), (2, .v (.pointer (some ⟨bx3, 0, none⟩))), (4, .v (.pointer (some ⟨b4, 0, none⟩)))], [⟨b4, 42, [.v (.int .i64 f20), .v (.int .i64 f21), .v (.int .i64 f22), .v (.int .i64 f23), .sl 1 none (List.map eb f24)]⟩, ⟨bx0, 4, [.v (.bool f25)]⟩, ⟨bx1, 29, [.sl 1 (some i27) (List.map ei f26)]⟩, ⟨bx2, 22, [.sl 2 none (List.map E_palinode_api_File o4)]⟩, ⟨bx3, 25, [.v (.bool o5.1), .v (.bool o5.2.1), .v (.bool o5.2.2.1), .v (.bool o5.2.2.2.1), .sl 1 none (List.map es o5.2.2.2.2)]⟩], [⟨i27, 3, 1, f26.length⟩]⟩) ⟨y7.1, y7.2.1, y7.2.2.1, y7.2.2.2.1, y7.2.2.2.2, o1, o2, ia3, hI, rfl⟩ ⟨(.cons rfl (.refl _) (.cons rfl (.refl _) (.cons rfl (.refl _) (.cons rfl (.refl _) (.nil _))))), (SubM.of (.keep rfl rfl (.refl _) (.keep rfl rfl (.refl _) (.keep rfl rfl (.refl _) (.keep rfl rfl (.refl _) (.keep rfl rfl (.refl _) (.nil _)))))) (.keep rfl (.nil _)))⟩ ?_
  rintro _ m ⟨f20, f21, f22, f23, f24, f25, f26, i27, hI, rfl⟩
  obtain ⟨ag1, hag1, h⟩ : ∃ ag, (∀ s', ag s' → ∃ m', m' < m ∧ Inv s' m') ∧ feed_Lines_c1_l1 o4 o5 ag f20 f21 f22 f23 f24 f25 f26 r := ⟨_, fun _ h => h, hS (f20, f21, f22, f23, f24, f25, f26) _ hI⟩
  clear hS hI
  refine xblock ?_
  refine xseq ?_
  refine xregion ?_
  refine xalloc InfC.h rfl rfl fun b5 => ?_
  refine xnil ?_
  refine xthen ?_
  refine xseq ?_
  refine xregion ?_
  refine xvalP (pv_assign rfl) rfl rfl ?_
  refine xnil ?_
  refine xthen ?_
  refine xseq ?_
  refine xregion ?_
  refine xval (qv_loadB 1 ShpC.h rfl rfl rfl rfl) rfl rfl ?_
  refine xval (qv_loadB 4 ShpC.h rfl rfl rfl rfl) rfl rfl ?_
  refine xval (qv_loadB 5 ShpC.h rfl rfl rfl rfl) rfl rfl ?_
  obtain ⟨y41, h40, h⟩ := h
  refine xcallF (Fb := [⟨b5, 36, [.v (.slice none 0 0), .v (.bool false)]⟩, ⟨b4, 42, [.v (.int .i64 f20), .v (.int .i64 f21), .v (.int .i64 f22), .v (.int .i64 f23), .sl 1 none (List.map eb f24)]⟩, ⟨bx0, 4, [.v (.bool f25)]⟩, ⟨bx1, 29, [.sl 1 (some i27) (List.map ei f26)]⟩, ⟨bx2, 22, [.sl 2 none (List.map E_palinode_api_File o4)]⟩, ⟨bx3, 25, [.v (.bool o5.1), .v (.bool o5.2.1), .v (.bool o5.2.2.1), .v (.bool o5.2.2.2.1), .sl 1 none (List.map es o5.2.2.2.2)]⟩]) (Ft := [⟨i27, 3, 1, f26.length⟩]) (feed_Next_con (f20, f21, f22, f23, f24) o4 o5 _ h40) Try.func15 (by kernel_rfl) rfl (.cons rfl (.refl _) (.cons rfl (.refl _) (.cons rfl (.refl _) .nil))) (by exact (SubM.of (by repeat (first | with_reducible exact SubB.refl _ | exact SubB.nil _ | refine SubB.keep rfl rfl (by first | with_reducible exact WkL.refl _ | ((repeat (first | exact WkL.nil | refine WkL.cons (by first | with_reducible exact Wk.refl _ | exact Wk.nil_own _ | exact Wk.nil_pl _ | with_reducible exact Wk.tok _ _ _ | exact Wk.tok _ _ _ | exact Wk.eq (by first | rfl | (simp []; done) | (simp []; omega))) ?_)); done) | exact WkL.refl _) ?_ | refine SubB.drop ?_)) (by repeat (first | exact SubT.nil _ | refine SubT.add ?_ | (refine SubT.keep ?_ ?_; focus (first | with_reducible rfl | (simp []; done))) | refine SubT.drop ?_)))) rfl rfl ?_
  rintro _ _ _ ⟨rfl, rfl, rfl⟩
  simp only [List.nil_append, List.cons_append]
  refine xvalP (pv_move rfl) rfl rfl ?_
  refine xvalP (pv_extract rfl rfl) rfl rfl ?_
  refine xvalP (pv_extract rfl rfl) rfl rfl ?_
  refine xvalP (pv_extract rfl rfl) rfl rfl ?_
  refine xstore 0 ShpC.h rfl rfl rfl rfl rfl rfl rfl ?_
  refine xstore 1 ShpC.h rfl rfl rfl rfl rfl rfl rfl ?_
  refine xvalP (pv_assign rfl) rfl rfl ?_
  refine xnil ?_
  refine xthen ?_
  refine xseq ?_
  refine xregion ?_
  refine xvalP (pv_move rfl) rfl rfl ?_
  refine xvalP (pv_not rfl) rfl rfl ?_
  refine xvalP (pv_move rfl) rfl rfl ?_
  by_cases hp47 : ¬ (y41.2.2 = true)
  · replace h := h.1 hp47
    refine xsetB 18 (not_t (b_f hp47)) rfl ?_
    refine xskip rfl rfl ?_
    refine xskip rfl rfl ?_
    refine xskip rfl rfl ?_
    refine xskip rfl rfl ?_
    refine xskip rfl rfl ?_
    refine xskip rfl rfl ?_
    refine xvalP (pv_pick rfl rfl) rfl rfl ?_
    refine xnil ?_
    refine xthen ?_
    refine xcondT rfl ?_
    refine xretc ?_
    refine xin_ret ?_
    refine xthen_ret ?_
    refine xin_ret ?_
    replace h := h.symm
    subst h
    exact xretLn (.inl rfl) (xret0 hg rfl (SubM.of (.drop (.drop (.keep rfl rfl (.refl _) (.keep rfl rfl (.refl _) (.keep rfl rfl (.refl _) (.keep rfl rfl (.refl _) (.nil _))))))) (.keep rfl (.nil _))) ⟨i27, rfl, rfl, rfl⟩ (.inl rfl))
  · replace h := h.2 hp47
    refine xsetB 18 (not_f (Decidable.of_not_not hp47)) rfl ?_
    refine xvalP (pv_move rfl) rfl rfl ?_
    refine xvalP (qv_fieldAddrB FldC.h rfl) rfl rfl ?_
    refine xval (qv_loadB 1 ShpC.h rfl rfl rfl rfl) rfl rfl ?_
    refine xval (qv_loadB 0 ShpC.h rfl rfl rfl rfl) rfl rfl ?_
    obtain ⟨y49, h48, h⟩ := h
    refine xyield (Fb := [⟨b5, 36, [.sl 1 none (List.map eb y41.1.1), .v (.bool y41.1.2)]⟩, ⟨b4, 42, [.v (.int .i64 y41.2.1.1), .v (.int .i64 y41.2.1.2.1), .v (.int .i64 y41.2.1.2.2.1), .v (.int .i64 y41.2.1.2.2.2.1), .sl 1 none (List.map eb y41.2.1.2.2.2.2)]⟩, ⟨bx2, 22, [.sl 2 none (List.map E_palinode_api_File o4)]⟩, ⟨bx3, 25, [.v (.bool o5.1), .v (.bool o5.2.1), .v (.bool o5.2.2.1), .v (.bool o5.2.2.2.1), .sl 1 none (List.map es o5.2.2.2.2)]⟩]) (Ft := []) (hY f25 f26 y41.2.1.2.2.1 y41.1 i27 _ h48) hL rfl (.cons rfl (.refl _) (.cons rfl (.refl _) .nil)) (by refine SubM.trans (SubM.mvB 3 rfl) ?_; refine SubM.trans (SubM.mvB 3 rfl) ?_; (simp only [List.eraseIdx]); exact (SubM.of (by repeat (first | with_reducible exact SubB.refl _ | exact SubB.nil _ | refine SubB.keep rfl rfl (by first | with_reducible exact WkL.refl _ | ((repeat (first | exact WkL.nil | refine WkL.cons (by first | with_reducible exact Wk.refl _ | exact Wk.nil_own _ | exact Wk.nil_pl _ | with_reducible exact Wk.tok _ _ _ | exact Wk.tok _ _ _ | exact Wk.eq (by first | rfl | (simp []; done) | (simp []; omega))) ?_)); done) | exact WkL.refl _) ?_ | refine SubB.drop ?_)) (by repeat (first | exact SubT.nil _ | refine SubT.add ?_ | (refine SubT.keep ?_ ?_; focus (first | with_reducible rfl | (simp []; done))) | refine SubT.drop ?_)))) rfl rfl ?_
    rintro j _ _ ⟨i50, hj, rfl, rfl⟩
    simp only [List.nil_append, List.cons_append]
    by_cases hp51 : y49.1 = true
    · replace h := h.1 hp51
      refine ⟨fun _ => ?_, fun c hc => (by rw [hj, show y49.1 = true from hp51] at hc; cases hc)⟩
      refine xvalP (pv_not rfl) rfl rfl ?_
      refine xvalP (pv_pick rfl rfl) rfl rfl ?_
      refine xnil ?_
      refine xthen ?_
      refine xcondF rfl ?_
      refine xskipc ?_
      refine xin_normal ?_
      obtain ⟨m', hm, hI⟩ := hag1 _ h
      exact xagain ⟨y41.2.1.1, y41.2.1.2.1, y41.2.1.2.2.1, y41.2.1.2.2.2.1, y41.2.1.2.2.2.2, y49.2.1, y49.2.2, i50, hI, rfl⟩ hm ⟨(.cons rfl (.refl _) (.cons rfl (.refl _) (.cons rfl (.refl _) (.cons rfl (.refl _) (.nil _))))), by refine SubM.trans (SubM.mvB 5 rfl) ?_; refine SubM.trans (SubM.mvB 5 rfl) ?_; refine SubM.trans (SubM.mvB 3 rfl) ?_; refine SubM.trans (SubM.mvB 3 rfl) ?_; refine SubM.trans (SubM.mvB 5 rfl) ?_; (simp only [List.eraseIdx]); exact (SubM.of (by repeat (first | with_reducible exact SubB.refl _ | exact SubB.nil _ | refine SubB.keep rfl rfl (by first | with_reducible exact WkL.refl _ | ((repeat (first | exact WkL.nil | refine WkL.cons (by first | with_reducible exact Wk.refl _ | exact Wk.nil_own _ | exact Wk.nil_pl _ | with_reducible exact Wk.tok _ _ _ | exact Wk.tok _ _ _ | exact Wk.eq (by first | rfl | (simp []; done) | (simp []; omega))) ?_)); done) | exact WkL.refl _) ?_ | refine SubB.drop ?_)) (by repeat (first | exact SubT.nil _ | refine SubT.add ?_ | (refine SubT.keep ?_ ?_; focus (first | with_reducible rfl | (simp []; done))) | refine SubT.drop ?_)))⟩
    · replace h := h.2 hp51
      refine ⟨fun hc => (by rw [hj, show y49.1 = false from (b_f hp51)] at hc; cases hc), fun c hc => ?_⟩
      obtain rfl : c = .ret := (by rw [hj, show y49.1 = false from (b_f hp51)] at hc; cases hc; rfl)
      refine xvalP (pv_not rfl) rfl rfl ?_
      refine xvalP (pv_pick rfl rfl) rfl rfl ?_
      refine xnil ?_
      refine xthenR rfl ?_
      refine xcondT rfl ?_
      refine xretc ?_
      refine xin_ret ?_
      refine xthen_ret ?_
      refine xin_ret ?_
      replace h := h.symm
      subst h
      exact xretLs hg hL (.inl rfl) (xret0 (hg.turn _) rfl (SubM.of (.keep rfl rfl (.refl _) (.keep rfl rfl (.refl _) (.drop (.drop (.keep rfl rfl (.refl _) (.keep rfl rfl (.refl _) (.nil _))))))) (.keep rfl (.nil _))) ⟨i50, rfl, rfl, rfl⟩ (.inl rfl))
/-- palinodelaw18.awake -/
def palinodelaw18_awake_j1 (f35 : Bool) (r : Bool) : Prop :=
  r = f35
def palinodelaw18_awake_R (r : Bool) : Prop :=
  ∃ y4 : (Bool × Bool × Bool × Bool × (List ByteArray)) × (List (ByteArray × (List UInt8))), feed_Lines_R ([((⟨#[97]⟩ : ByteArray), [(120 : UInt8), (10 : UInt8)]), ((⟨#[99]⟩ : ByteArray), [(121 : UInt8), (10 : UInt8), (122 : UInt8)])]) (false, false, false, false, [(⟨#[97]⟩ : ByteArray), (⟨#[98]⟩ : ByteArray), (⟨#[99]⟩ : ByteArray)]) y4 ∧ ∃ y18 : Bool × Bool × (List Int), feed_Lines_c1_R false ([] : List Int) y4.2 y4.1 y18 ∧ ((y18.1 = true → (((y18.2.2.length : Int) = 3 → 0 ≤ (0 : Int) ∧ ∃ y39 : Int, y18.2.2[(0 : Int).toNat]? = some y39 ∧ ((y39 = 0 → 0 ≤ (1 : Int) ∧ ∃ y43 : Int, y18.2.2[(1 : Int).toNat]? = some y43 ∧ ((y43 = 2 → 0 ≤ (2 : Int) ∧ ∃ y47 : Int, y18.2.2[(2 : Int).toNat]? = some y47 ∧ palinodelaw18_awake_j1 (decide (y47 = 2)) r) ∧ (¬ (y43 = 2) → palinodelaw18_awake_j1 false r))) ∧ (¬ (y39 = 0) → palinodelaw18_awake_j1 false r))) ∧ (¬ ((y18.2.2.length : Int) = 3) → palinodelaw18_awake_j1 false r))) ∧ (¬ (y18.1 = true) → r = y18.2.1))
def palinodelaw18_awake_j1_ev (fuel : Nat) (f35 : Bool) : Option (Bool) :=
  some f35
theorem palinodelaw18_awake_j1_ok {fuel : Nat} {f35 : Bool} {r : Bool} (h : palinodelaw18_awake_j1_ev fuel f35 = some r) : palinodelaw18_awake_j1 f35 r := by
  unfold palinodelaw18_awake_j1_ev at h
  unfold palinodelaw18_awake_j1
  exact (Option.some.inj h).symm
def palinodelaw18_awake_ev (fuel : Nat) : Option (Bool) :=
  ((feed_Lines_ev fuel ([((⟨#[97]⟩ : ByteArray), [(120 : UInt8), (10 : UInt8)]), ((⟨#[99]⟩ : ByteArray), [(121 : UInt8), (10 : UInt8), (122 : UInt8)])]) (false, false, false, false, [(⟨#[97]⟩ : ByteArray), (⟨#[98]⟩ : ByteArray), (⟨#[99]⟩ : ByteArray)])).bind fun y4 => ((feed_Lines_c1_ev fuel false ([] : List Int) y4.2 y4.1).bind fun y18 => (if y18.1 = true then (if (y18.2.2.length : Int) = 3 then (if 0 ≤ (0 : Int) then ((y18.2.2[(0 : Int).toNat]?).bind fun y39 => (if y39 = 0 then (if 0 ≤ (1 : Int) then ((y18.2.2[(1 : Int).toNat]?).bind fun y43 => (if y43 = 2 then (if 0 ≤ (2 : Int) then ((y18.2.2[(2 : Int).toNat]?).bind fun y47 => palinodelaw18_awake_j1_ev fuel (decide (y47 = 2))) else none) else palinodelaw18_awake_j1_ev fuel false)) else none) else palinodelaw18_awake_j1_ev fuel false)) else none) else palinodelaw18_awake_j1_ev fuel false) else some y18.2.1)))
theorem palinodelaw18_awake_ok {fuel : Nat} {r : Bool} (h : palinodelaw18_awake_ev fuel = some r) : palinodelaw18_awake_R r := by
  unfold palinodelaw18_awake_ev at h
  unfold palinodelaw18_awake_R
  obtain ⟨q56, g56, h⟩ := bind_ok h
  refine ⟨q56, feed_Lines_ok g56, ?_⟩
  obtain ⟨q57, g57, h⟩ := bind_ok h
  refine ⟨q57, feed_Lines_c1_ok g57, ?_⟩
  refine ⟨fun g58 => ?_, fun g58 => ?_⟩
  · rw [if_pos g58] at h
    refine ⟨fun g59 => ?_, fun g59 => ?_⟩
    · rw [if_pos g59] at h
      obtain ⟨g60, h⟩ := if_ok h
      refine ⟨g60, ?_⟩
      obtain ⟨q61, g61, h⟩ := bind_ok h
      refine ⟨q61, g61, ?_⟩
      refine ⟨fun g62 => ?_, fun g62 => ?_⟩
      · rw [if_pos g62] at h
        obtain ⟨g63, h⟩ := if_ok h
        refine ⟨g63, ?_⟩
        obtain ⟨q64, g64, h⟩ := bind_ok h
        refine ⟨q64, g64, ?_⟩
        refine ⟨fun g65 => ?_, fun g65 => ?_⟩
        · rw [if_pos g65] at h
          obtain ⟨g66, h⟩ := if_ok h
          refine ⟨g66, ?_⟩
          obtain ⟨q67, g67, h⟩ := bind_ok h
          refine ⟨q67, g67, ?_⟩
          exact palinodelaw18_awake_j1_ok h
        · rw [if_neg g65] at h
          exact palinodelaw18_awake_j1_ok h
      · rw [if_neg g62] at h
        exact palinodelaw18_awake_j1_ok h
    · rw [if_neg g59] at h
      exact palinodelaw18_awake_j1_ok h
  · rw [if_neg g58] at h
    exact (Option.some.inj h).symm
set_option maxHeartbeats 4000000 in
theorem palinodelaw18_awake_con (r : Bool) (h : palinodelaw18_awake_R r) : Con Try.prog 9 [] [] [] (Ret (.v (.bool r))) := by
  refine xenterM Try.func9 rfl rfl fun g hg => ?_
  simp only [Try.ntmps9, slots]
  refine xseq ?_
  refine xregion ?_
  refine xalloc InfC.h rfl rfl fun b0 => ?_
  refine xnil ?_
  refine xthen ?_
  refine xseq ?_
  refine xregion ?_
  refine xbuildSliceM (f := eb) [(120 : UInt8), (10 : UInt8)] UndC.h InfC.h rfl rfl (by first | exact wkR_of rfl | (repeat (first | exact WkR.nil | refine WkR.cons (by (repeat (first | exact WkL.nil | refine WkL.cons (by first | with_reducible exact Wk.refl _ | exact Wk.nil_own _ | exact Wk.nil_pl _ | with_reducible exact Wk.tok _ _ _ | exact Wk.tok _ _ _ | exact Wk.eq (by first | rfl | (simp []; done) | (simp []; omega))) ?_))) ?_))) rfl rfl rfl rfl fun s7 => ?_
  refine xmark 0 UndC.h UndC.h rfl rfl rfl rfl ?_
  refine xvalP (pv_buildC StrC.h rfl rfl) rfl rfl ?_
  refine xbuildSliceM (f := eb) [(121 : UInt8), (10 : UInt8), (122 : UInt8)] UndC.h InfC.h rfl rfl (by first | exact wkR_of rfl | (repeat (first | exact WkR.nil | refine WkR.cons (by (repeat (first | exact WkL.nil | refine WkL.cons (by first | with_reducible exact Wk.refl _ | exact Wk.nil_own _ | exact Wk.nil_pl _ | with_reducible exact Wk.tok _ _ _ | exact Wk.tok _ _ _ | exact Wk.eq (by first | rfl | (simp []; done) | (simp []; omega))) ?_))) ?_))) rfl rfl rfl rfl fun s10 => ?_
  refine xmark 0 UndC.h UndC.h rfl rfl rfl rfl ?_
  refine xvalP (pv_buildC StrC.h rfl rfl) rfl rfl ?_
  refine xbuildSliceM (f := E_palinode_api_File) [((⟨#[97]⟩ : ByteArray), [(120 : UInt8), (10 : UInt8)]), ((⟨#[99]⟩ : ByteArray), [(121 : UInt8), (10 : UInt8), (122 : UInt8)])] UndC.h InfC.h rfl rfl (by first | exact wkR_of rfl | (repeat (first | exact WkR.nil | refine WkR.cons (by (repeat (first | exact WkL.nil | refine WkL.cons (by first | with_reducible exact Wk.refl _ | exact Wk.nil_own _ | exact Wk.nil_pl _ | with_reducible exact Wk.tok _ _ _ | exact Wk.tok _ _ _ | exact Wk.eq (by first | rfl | (simp []; done) | (simp []; omega))) ?_))) ?_))) rfl rfl rfl rfl fun s13 => ?_
  refine xvalP (pv_assign rfl) rfl rfl ?_
  refine xnil ?_
  refine xthen ?_
  refine xseq ?_
  refine xregion ?_
  refine xbuildSliceM (f := es) [(⟨#[97]⟩ : ByteArray), (⟨#[98]⟩ : ByteArray), (⟨#[99]⟩ : ByteArray)] UndC.h InfC.h rfl rfl (by first | exact wkR_of rfl | (repeat (first | exact WkR.nil | refine WkR.cons (by (repeat (first | exact WkL.nil | refine WkL.cons (by first | with_reducible exact Wk.refl _ | exact Wk.nil_own _ | exact Wk.nil_pl _ | with_reducible exact Wk.tok _ _ _ | exact Wk.tok _ _ _ | exact Wk.eq (by first | rfl | (simp []; done) | (simp []; omega))) ?_))) ?_))) rfl rfl rfl rfl fun s14 => ?_
  refine xvalP (pv_buildC StrC.h rfl rfl) rfl rfl ?_
  refine xalloc InfC.h rfl rfl fun b2 => ?_
  refine xstore 0 ShpC.h rfl rfl rfl rfl rfl rfl rfl ?_
  refine xnil ?_
  refine xthen ?_
  refine xseq ?_
  refine xregion ?_
  refine xalloc InfC.h rfl rfl fun b3 => ?_
  refine xnil ?_
  refine xthen ?_
  refine xseq ?_
  refine xregion ?_
  refine xvalP (pv_move rfl) rfl rfl ?_
  refine xval (qv_loadB 1 ShpC.h rfl rfl rfl rfl) rfl rfl ?_
  obtain ⟨y4, h3, h⟩ := h
  refine xcallF (Fb := [⟨b3, 29, [.v (.slice none 0 0)]⟩, ⟨b2, 25, [.v (.bool false), .v (.bool false), .v (.bool false), .v (.bool false), .sl 1 (some (some (s14, 3))) (List.map es ([(⟨#[97]⟩ : ByteArray), (⟨#[98]⟩ : ByteArray), (⟨#[99]⟩ : ByteArray)]))]⟩, ⟨b0, 4, [.v (.bool false)]⟩]) (Ft := [⟨(some (s14, 3)), 9, 1, ([(⟨#[97]⟩ : ByteArray), (⟨#[98]⟩ : ByteArray), (⟨#[99]⟩ : ByteArray)]).length⟩, ⟨(some (s13, 2)), 34, 2, ([((⟨#[97]⟩ : ByteArray), [(120 : UInt8), (10 : UInt8)]), ((⟨#[99]⟩ : ByteArray), [(121 : UInt8), (10 : UInt8), (122 : UInt8)])]).length⟩]) (feed_Lines_con ([((⟨#[97]⟩ : ByteArray), [(120 : UInt8), (10 : UInt8)]), ((⟨#[99]⟩ : ByteArray), [(121 : UInt8), (10 : UInt8), (122 : UInt8)])]) (false, false, false, false, [(⟨#[97]⟩ : ByteArray), (⟨#[98]⟩ : ByteArray), (⟨#[99]⟩ : ByteArray)]) _ h3) Try.func12 (by kernel_rfl) rfl (.cons rfl (.tok _ _ _) (.cons rfl (.agg (.cons (.refl _) (.cons (.refl _) (.cons (.refl _) (.cons (.refl _) (.cons (.tok _ _ _) .nil)))))) .nil)) (by exact (SubM.of (by repeat (first | with_reducible exact SubB.refl _ | exact SubB.nil _ | refine SubB.keep rfl rfl (by first | with_reducible exact WkL.refl _ | ((repeat (first | exact WkL.nil | refine WkL.cons (by first | with_reducible exact Wk.refl _ | exact Wk.nil_own _ | exact Wk.nil_pl _ | with_reducible exact Wk.tok _ _ _ | exact Wk.tok _ _ _ | exact Wk.eq (by first | rfl | (simp []; done) | (simp []; omega))) ?_)); done) | exact WkL.refl _) ?_ | refine SubB.drop ?_)) (by repeat (first | exact SubT.nil _ | refine SubT.add ?_ | (refine SubT.keep ?_ ?_; focus (first | with_reducible rfl | (simp []; done))) | refine SubT.drop ?_)))) rfl rfl ?_
  rintro _ _ _ ⟨b5, b6, rfl, rfl, rfl⟩
  simp only [List.nil_append, List.cons_append]
  refine xvalP (pv_assign rfl) rfl rfl ?_
  refine xnil ?_
  refine xthen ?_
  refine xseq ?_
  refine xseq ?_
  refine xregion ?_
  refine xvalP (pv_move rfl) rfl rfl ?_
  refine xvalP (pv_eqFn UndC.h rfl rfl) rfl rfl ?_
  refine xnil ?_
  refine xthen ?_
  refine xcondF rfl ?_
  refine xskipc ?_
  refine xthen ?_
  refine xseq ?_
  refine xseq ?_
  refine xregion ?_
  refine xvalP (pv_move rfl) rfl rfl ?_
  refine xnil ?_
  refine xthen ?_
  refine xblock ?_
  obtain ⟨y18, h17, h⟩ := h
  refine xrange (Fb := [⟨b2, 25, [.v (.bool false), .v (.bool false), .v (.bool false), .v (.bool false), .sl 1 (some (some (s14, 3))) (List.map es ([(⟨#[97]⟩ : ByteArray), (⟨#[98]⟩ : ByteArray), (⟨#[99]⟩ : ByteArray)]))]⟩]) (Ft := [⟨(some (s14, 3)), 9, 1, ([(⟨#[97]⟩ : ByteArray), (⟨#[98]⟩ : ByteArray), (⟨#[99]⟩ : ByteArray)]).length⟩, ⟨(some (s13, 2)), 34, 2, ([((⟨#[97]⟩ : ByteArray), [(120 : UInt8), (10 : UInt8)]), ((⟨#[99]⟩ : ByteArray), [(121 : UInt8), (10 : UInt8), (122 : UInt8)])]).length⟩]) (palinodelaw18_awake_y1_Y b0 b3) hg.rd hg.ds (fun L hY => feed_Lines_c1_con false ([] : List Int) y4.2 y4.1 b0 b3 b6 b5 none hY _ h17) Try.func21 (by kernel_rfl) rfl rfl (by refine SubM.trans (SubM.mvB 0 rfl) ?_; refine SubM.trans (SubM.mvB 1 rfl) ?_; refine SubM.trans (SubM.mvB 2 rfl) ?_; refine SubM.trans (SubM.mvB 4 rfl) ?_; (simp only [List.eraseIdx]); exact (SubM.of (by repeat (first | with_reducible exact SubB.refl _ | exact SubB.nil _ | refine SubB.keep rfl rfl (by first | with_reducible exact WkL.refl _ | ((repeat (first | exact WkL.nil | refine WkL.cons (by first | with_reducible exact Wk.refl _ | exact Wk.nil_own _ | exact Wk.nil_pl _ | with_reducible exact Wk.tok _ _ _ | exact Wk.tok _ _ _ | exact Wk.eq (by first | rfl | (simp []; done) | (simp []; omega))) ?_)); done) | exact WkL.refl _) ?_ | refine SubB.drop ?_)) (by repeat (first | exact SubT.nil _ | refine SubT.add ?_ | (refine SubT.keep ?_ ?_; focus (first | with_reducible rfl | (simp []; done))) | refine SubT.drop ?_)))) (fun l => ?_) ?_
  · intro o10001 o10002 x10004 x10005 ia10003 r h
    refine xround (psl := [22, 23]) rfl rfl fun g r0 hg => ?_
    refine ximp (σ' := ⟨[(22, .v (.int .i64 x10004)), (23, .agg [.sl 1 none (List.map eb x10005.1), .v (.bool x10005.2)]), (0, .v (.pointer (some ⟨b0, 0, none⟩))), (3, .v (.pointer (some ⟨b3, 0, none⟩)))], [⟨b0, 4, [.v (.bool o10001)]⟩, ⟨b3, 29, [.sl 1 (some ia10003) (List.map ei o10002)]⟩], [⟨ia10003, 3, 1, o10002.length⟩]⟩) ⟨(.cons rfl (.refl _) (.cons rfl (.refl _) (.cons rfl (.refl _) (.cons rfl (.refl _) (.nil _))))), SubM.refl _ _⟩ ?_
    refine xseq ?_
    refine xregion ?_
    refine xvalP (pv_assign rfl) rfl rfl ?_
    refine xnil ?_
    refine xthen ?_
    refine xregion ?_
    refine xalloc InfC.h rfl rfl fun b6 => ?_
    refine xstore 0 ShpC.h rfl rfl rfl rfl rfl rfl rfl ?_
    refine xnil ?_
    refine xbegin hg ?_
    refine xblock ?_
    refine xseq ?_
    refine xseq ?_
    refine xregion ?_
    refine xvalP (qv_fieldAddrB FldC.h rfl) rfl rfl ?_
    refine xval (qv_loadB 0 ShpC.h rfl rfl rfl rfl) rfl rfl ?_
    refine xvalP (pv_lenM UndC.h rfl) rfl rfl ?_
    refine xvalP (pv_bin2 rfl rfl rfl) rfl rfl ?_
    refine xnil ?_
    refine xthen ?_
    by_cases hp10011 : ¬ ((x10005.1.length : Int) = 1)
    · replace h := h.1 hp10011
      refine xcondT' (not_t (decide_eq_false hp10011)) rfl ?_
      refine xseq ?_
      refine xregion ?_
      refine xstore 1 ShpC.h rfl rfl rfl rfl rfl rfl rfl ?_
      refine xnil ?_
      refine xthen ?_
      refine xretc ?_
      refine xthen_ret ?_
      refine xin_ret ?_
      replace h := h.symm
      subst h
      exact xyret hg rfl (SubM.of (.drop (.keep rfl rfl (.refl _) (.keep rfl rfl (.refl _) (.nil _)))) (.keep rfl (.nil _))) ⟨ia10003, rfl, rfl, rfl⟩
    · replace h := h.2 hp10011
      refine xcondF' (not_f (decide_eq_true (Decidable.of_not_not hp10011))) rfl ?_
      refine xskipc ?_
      refine xthen ?_
      refine xregion ?_
      refine xval (qv_loadB 2 ShpC.h rfl rfl rfl rfl) rfl rfl ?_
      refine xvalP (pv_move rfl) rfl rfl ?_
      refine xbuildSliceM (f := ei) [x10004] UndC.h InfC.h rfl rfl (by first | exact wkR_of rfl | (repeat (first | exact WkR.nil | refine WkR.cons (by (repeat (first | exact WkL.nil | refine WkL.cons (by first | with_reducible exact Wk.refl _ | exact Wk.nil_own _ | exact Wk.nil_pl _ | with_reducible exact Wk.tok _ _ _ | exact Wk.tok _ _ _ | exact Wk.eq (by first | rfl | (simp []; done) | (simp []; omega))) ?_))) ?_))) rfl rfl rfl rfl fun s30 => ?_
      obtain ⟨h10012, h⟩ := h
      refine xappendM (l := o10002) (l2 := [x10004]) 1 h10012 UndC.h InfC.h rfl rfl rfl (.refl _) rfl rfl rfl fun i10013 => ?_
      refine xstore 2 ShpC.h rfl rfl rfl rfl rfl rfl rfl ?_
      refine xnil ?_
      refine xin_normal ?_
      replace h := h.symm
      subst h
      exact xyret hg rfl (SubM.of (.drop (.keep rfl rfl (.refl _) (.keep rfl rfl (.refl _) (.nil _)))) (.drop (.keep rfl (.nil _)))) ⟨i10013, rfl, rfl, rfl⟩
  · rintro j _ _ w1 R1 D1 gl1 ds1 D1k ⟨i19, hj, rfl, rfl⟩ hM
    simp only [List.nil_append, List.cons_append]
    by_cases hp20 : y18.1 = true
    · replace h := h.1 hp20
      refine ⟨fun _ => ?_, fun c hc => (by rw [hj, show y18.1 = true from hp20] at hc; cases hc)⟩
      refine xin_normal ?_
      refine xthenR rfl ?_
      refine xseqM (fun σ => ∃ (f35 : Bool), palinodelaw18_awake_j1 f35 r ∧ σ = ⟨[(0, .v (.pointer (some ⟨b0, 0, none⟩)))], [⟨b0, 4, [.v (.bool f35)]⟩], []⟩) ?_ ?_
      · refine xregion ?_
        refine xval (qv_loadB 1 ShpC.h rfl rfl rfl rfl) rfl rfl ?_
        refine xvalP (pv_lenM UndC.h rfl) rfl rfl ?_
        refine xvalP (pv_bin2 rfl rfl rfl) rfl rfl ?_
        refine xvalP (pv_move rfl) rfl rfl ?_
        by_cases hp38 : (y18.2.2.length : Int) = 3
        · replace h := h.1 hp38
          refine xsetB 35 (decide_eq_true hp38) rfl ?_
          refine xval (qv_loadB 1 ShpC.h rfl rfl rfl rfl) rfl rfl ?_
          obtain ⟨h40a, h⟩ := h
          obtain ⟨y39, h40b, h⟩ := h
          refine xvalP (pv_indexAddrM h40a h40b UndC.h ShpC.h rfl rfl) rfl rfl ?_
          refine xval (qv_load ShpC.h rfl rfl rfl) rfl rfl ?_
          refine xvalP (pv_bin2 rfl rfl rfl) rfl rfl ?_
          refine xvalP (pv_pick rfl rfl) rfl rfl ?_
          refine xvalP (pv_move rfl) rfl rfl ?_
          by_cases hp42 : y39 = 0
          · replace h := h.1 hp42
            refine xsetB 41 (decide_eq_true hp42) rfl ?_
            refine xval (qv_loadB 1 ShpC.h rfl rfl rfl rfl) rfl rfl ?_
            obtain ⟨h44a, h⟩ := h
            obtain ⟨y43, h44b, h⟩ := h
            refine xvalP (pv_indexAddrM h44a h44b UndC.h ShpC.h rfl rfl) rfl rfl ?_
            refine xval (qv_load ShpC.h rfl rfl rfl) rfl rfl ?_
            refine xvalP (pv_bin2 rfl rfl rfl) rfl rfl ?_
            refine xvalP (pv_pick rfl rfl) rfl rfl ?_
            refine xvalP (pv_move rfl) rfl rfl ?_
            by_cases hp46 : y43 = 2
            · replace h := h.1 hp46
              refine xsetB 47 (decide_eq_true hp46) rfl ?_
              refine xval (qv_loadB 1 ShpC.h rfl rfl rfl rfl) rfl rfl ?_
              obtain ⟨h48a, h⟩ := h
              obtain ⟨y47, h48b, h⟩ := h
              refine xvalP (pv_indexAddrM h48a h48b UndC.h ShpC.h rfl rfl) rfl rfl ?_
              refine xval (qv_load ShpC.h rfl rfl rfl) rfl rfl ?_
              refine xvalP (pv_bin2 rfl rfl rfl) rfl rfl ?_
              refine xvalP (pv_pick rfl rfl) rfl rfl ?_
              refine xstore 0 ShpC.h rfl rfl rfl rfl rfl rfl rfl ?_
              refine xnil ?_
              exact xmeet ⟨(decide (y47 = 2)), h, rfl⟩ ⟨(.cons rfl (.refl _) (.nil _)), (SubM.of (.keep rfl rfl (.refl _) (.nil _)) (.nil _))⟩
            · replace h := h.2 hp46
              refine xsetB 47 (decide_eq_false hp46) rfl ?_
              refine xskip rfl rfl ?_
              refine xskip rfl rfl ?_
              refine xskip rfl rfl ?_
              refine xskip rfl rfl ?_
              refine xvalP (pv_pick rfl rfl) rfl rfl ?_
              refine xstore 0 ShpC.h rfl rfl rfl rfl rfl rfl rfl ?_
              refine xnil ?_
              exact xmeet ⟨false, h, rfl⟩ ⟨(.cons rfl (.refl _) (.nil _)), (SubM.of (.keep rfl rfl (.refl _) (.nil _)) (.nil _))⟩
          · replace h := h.2 hp42
            refine xsetB 41 (decide_eq_false hp42) rfl ?_
            refine xskip rfl rfl ?_
            refine xskip rfl rfl ?_
            refine xskip rfl rfl ?_
            refine xskip rfl rfl ?_
            refine xvalP (pv_pick rfl rfl) rfl rfl ?_
            refine xvalP (pv_move rfl) rfl rfl ?_
            refine xskip rfl rfl ?_
            refine xskip rfl rfl ?_
            refine xskip rfl rfl ?_
            refine xskip rfl rfl ?_
            refine xvalP (pv_pick rfl rfl) rfl rfl ?_
            refine xstore 0 ShpC.h rfl rfl rfl rfl rfl rfl rfl ?_
            refine xnil ?_
            exact xmeet ⟨false, h, rfl⟩ ⟨(.cons rfl (.refl _) (.nil _)), (SubM.of (.keep rfl rfl (.refl _) (.nil _)) (.nil _))⟩
        · replace h := h.2 hp38
          refine xsetB 35 (decide_eq_false hp38) rfl ?_
          refine xskip rfl rfl ?_
          refine xskip rfl rfl ?_
          refine xskip rfl rfl ?_
          refine xskip rfl rfl ?_
          refine xvalP (pv_pick rfl rfl) rfl rfl ?_
          refine xvalP (pv_move rfl) rfl rfl ?_
          refine xskip rfl rfl ?_
          refine xskip rfl rfl ?_
          refine xskip rfl rfl ?_
          refine xskip rfl rfl ?_
          refine xvalP (pv_pick rfl rfl) rfl rfl ?_
          refine xvalP (pv_move rfl) rfl rfl ?_
          refine xskip rfl rfl ?_
          refine xskip rfl rfl ?_
          refine xskip rfl rfl ?_
          refine xskip rfl rfl ?_
          refine xvalP (pv_pick rfl rfl) rfl rfl ?_
          refine xstore 0 ShpC.h rfl rfl rfl rfl rfl rfl rfl ?_
          refine xnil ?_
          exact xmeet ⟨false, h, rfl⟩ ⟨(.cons rfl (.refl _) (.nil _)), (SubM.of (.keep rfl rfl (.refl _) (.nil _)) (.nil _))⟩
      · clear h
        rintro _ ⟨f35, h, rfl⟩
        refine xretc ?_
        refine xretMk hg hM ?_
        replace h := h.symm
        subst h
        exact xretL (rs := [.cell 0 4]) (ss := [.v (.bool f35)]) hg rfl (by refine RetL.cell 0 ShpC.h rfl rfl rfl (Nat.le_of_ble_eq_true rfl) (.refl _) ?_; exact RetL.nil) (SubM.of (.nil _) (.nil _)) ⟨rfl, rfl, rfl⟩
    · replace h := h.2 hp20
      refine ⟨fun hc => (by rw [hj, show y18.1 = false from (b_f hp20)] at hc; cases hc), fun c hc => ?_⟩
      obtain rfl : c = .ret := (by rw [hj, show y18.1 = false from (b_f hp20)] at hc; cases hc; rfl)
      refine xretc ?_
      refine xin_ret ?_
      refine xthen_ret ?_
      refine xretMk hg hM ?_
      replace h := h.symm
      subst h
      exact xretL (rs := [.cell 0 4]) (ss := [.v (.bool y18.2.1)]) hg rfl (by refine RetL.cell 0 ShpC.h rfl rfl rfl (Nat.le_of_ble_eq_true rfl) (.refl _) ?_; exact RetL.nil) (SubM.of (.nil _) (.nil _)) ⟨rfl, rfl, rfl⟩
/-- palinoderef03.At -/
def palinoderef03_At_l1 (l1 : List (ByteArray × (List UInt8))) (name2 : ByteArray) (ag1 : (Int) → Prop) (iv64 : Int) (r : Int) : Prop :=
  ((iv64 < (l1.length : Int) → 0 ≤ (iv64 : Int) ∧ ∃ y90 : ByteArray × (List UInt8), l1[(iv64 : Int).toNat]? = some y90 ∧ (((y90.1.toList == name2.toList) = true → r = iv64) ∧ (¬ ((y90.1.toList == name2.toList) = true) → InR (iv64 + 1) ∧ ag1 (iv64 + 1)))) ∧ (¬ (iv64 < (l1.length : Int)) → r = (-1)))
def palinoderef03_At_R (l1 : List (ByteArray × (List UInt8))) (name2 : ByteArray) (r : Int) : Prop :=
  LoopR (fun ag1 s => palinoderef03_At_l1 l1 name2 ag1 s r) 0
def palinoderef03_At_l1_ev (fuel : Nat) (l1 : List (ByteArray × (List UInt8))) (name2 : ByteArray) (ag1e : (Int) → Option (Int)) (iv64 : Int) : Option (Int) :=
  (if iv64 < (l1.length : Int) then (if 0 ≤ (iv64 : Int) then ((l1[(iv64 : Int).toNat]?).bind fun y90 => (if (y90.1.toList == name2.toList) = true then some iv64 else (if InR (iv64 + 1) then ag1e (iv64 + 1) else none))) else none) else some (-1))
theorem palinoderef03_At_l1_ok {fuel : Nat} {l1 : List (ByteArray × (List UInt8))} {name2 : ByteArray} {ag1e : (Int) → Option (Int)} {ag1 : (Int) → Prop} {iv64 : Int} {r : Int} (hagag1 : ∀ s, ag1e s = some r → ag1 s) (h : palinoderef03_At_l1_ev fuel l1 name2 ag1e iv64 = some r) : palinoderef03_At_l1 l1 name2 ag1 iv64 r := by
  unfold palinoderef03_At_l1_ev at h
  unfold palinoderef03_At_l1
  refine ⟨fun g68 => ?_, fun g68 => ?_⟩
  · rw [if_pos g68] at h
    obtain ⟨g69, h⟩ := if_ok h
    refine ⟨g69, ?_⟩
    obtain ⟨q70, g70, h⟩ := bind_ok h
    refine ⟨q70, g70, ?_⟩
    refine ⟨fun g71 => ?_, fun g71 => ?_⟩
    · rw [if_pos g71] at h
      exact (Option.some.inj h).symm
    · rw [if_neg g71] at h
      obtain ⟨g72, h⟩ := if_ok h
      refine ⟨g72, ?_⟩
      exact hagag1 _ h
  · rw [if_neg g68] at h
    exact (Option.some.inj h).symm
def palinoderef03_At_ev (fuel : Nat) (l1 : List (ByteArray × (List UInt8))) (name2 : ByteArray) : Option (Int) :=
  (loopE (fun ag1e s => palinoderef03_At_l1_ev fuel l1 name2 ag1e s) fuel 0)
theorem palinoderef03_At_ok {fuel : Nat} {l1 : List (ByteArray × (List UInt8))} {name2 : ByteArray} {r : Int} (h : palinoderef03_At_ev fuel l1 name2 = some r) : palinoderef03_At_R l1 name2 r := by
  unfold palinoderef03_At_ev at h
  unfold palinoderef03_At_R
  refine loopE_ok ?_ h
  intro ae ag s hag h
  exact palinoderef03_At_l1_ok hag h
set_option maxHeartbeats 4000000 in
theorem palinoderef03_At_con (l1 : List (ByteArray × (List UInt8))) (name2 : ByteArray) (r : Int) (h : palinoderef03_At_R l1 name2 r) : Con Try.prog 10 [.sl 2 none (List.map E_palinode_api_File l1), .v (.string name2)] [] [] (Ret (.v (.int .i64 r))) := by
  refine xenter Try.func10 rfl rfl fun g hg => ?_
  simp only [Try.ntmps10, slots]
  refine xseq ?_
  refine xregion ?_
  refine xvalP (pv_assign rfl) rfl rfl ?_
  refine xnil ?_
  refine xthen ?_
  refine xseq ?_
  refine xseq ?_
  refine xregion ?_
  refine xvalP (pv_assign rfl) rfl rfl ?_
  refine xnil ?_
  refine xthen ?_
  refine xblock ?_
  obtain ⟨Inv, ⟨m0, hI⟩, hS⟩ := h
  refine xloop (fun σ m => ∃ (iv64 : Int), Inv iv64 m ∧ σ = ⟨[(0, .sl 2 none (List.map E_palinode_api_File l1)), (1, .v (.string name2)), (5, .v (.int .i64 iv64))], [], []⟩) ⟨0, hI, rfl⟩ ⟨(.cons rfl (.refl _) (.cons rfl (.refl _) (.cons rfl (.refl _) (.nil _)))), (SubM.of (.nil _) (.nil _))⟩ ?_
  rintro _ m ⟨iv64, hI, rfl⟩
  obtain ⟨ag1, hag1, h⟩ : ∃ ag, (∀ s', ag s' → ∃ m', m' < m ∧ Inv s' m') ∧ palinoderef03_At_l1 l1 name2 ag iv64 r := ⟨_, fun _ h => h, hS iv64 _ hI⟩
  clear hS hI
  refine xseq ?_
  refine xseq ?_
  refine xregion ?_
  refine xvalP (pv_move rfl) rfl rfl ?_
  refine xvalP (pv_move rfl) rfl rfl ?_
  refine xvalP (pv_lenM UndC.h rfl) rfl rfl ?_
  refine xvalP (pv_bin2 rfl rfl rfl) rfl rfl ?_
  refine xnil ?_
  refine xthen ?_
  by_cases hp85 : iv64 < (l1.length : Int)
  · replace h := h.1 hp85
    refine xcondT' (decide_eq_true hp85) rfl ?_
    refine xskipc ?_
    refine xthen ?_
    refine xseq ?_
    refine xblock ?_
    refine xseq ?_
    refine xregion ?_
    refine xvalP (pv_move rfl) rfl rfl ?_
    refine xvalP (pv_move rfl) rfl rfl ?_
    obtain ⟨h91a, h⟩ := h
    obtain ⟨y90, h91b, h⟩ := h
    refine xvalP (pv_indexAddrM h91a h91b UndC.h ShpC.h rfl rfl) rfl rfl ?_
    refine xvalP (qv_fieldAddrE FldC.h rfl) rfl rfl ?_
    refine xval (qv_load ShpC.h rfl rfl rfl) rfl rfl ?_
    refine xvalP (pv_move rfl) rfl rfl ?_
    refine xvalP (pv_bin2 rfl rfl rfl) rfl rfl ?_
    refine xnil ?_
    refine xthen ?_
    by_cases hp93 : (y90.1.toList == name2.toList) = true
    · replace h := h.1 hp93
      refine xcondT' hp93 rfl ?_
      refine xseq ?_
      refine xregion ?_
      refine xvalP (pv_move rfl) rfl rfl ?_
      refine xvalP (pv_assign rfl) rfl rfl ?_
      refine xnil ?_
      refine xthen ?_
      refine xretc ?_
      refine xin_ret ?_
      refine xthen_ret ?_
      refine xthen_ret ?_
      refine xin_ret ?_
      refine xthen_ret ?_
      replace h := h.symm
      subst h
      exact xret1 hg rfl rfl (.refl _) (SubM.of (.nil _) (.nil _)) ⟨rfl, rfl, rfl⟩
    · replace h := h.2 hp93
      refine xcondF' (b_f hp93) rfl ?_
      refine xskipc ?_
      refine xin_normal ?_
      refine xthen ?_
      refine xregion ?_
      refine xvalP (pv_move rfl) rfl rfl ?_
      obtain ⟨h94, h⟩ := h
      refine xvalP (pv_addI h94 rfl rfl) rfl rfl ?_
      refine xvalP (pv_assign rfl) rfl rfl ?_
      refine xnil ?_
      obtain ⟨m', hm, hI⟩ := hag1 _ h
      exact xagain ⟨(iv64 + 1), hI, rfl⟩ hm ⟨(.cons rfl (.refl _) (.cons rfl (.refl _) (.cons rfl (.refl _) (.nil _)))), (SubM.of (.nil _) (.nil _))⟩
  · replace h := h.2 hp85
    refine xcondF' (decide_eq_false hp85) rfl ?_
    refine xexit ?_
    refine xthen_exit ?_
    refine xthen_exit ?_
    refine xin_same rfl ?_
    refine xthen ?_
    refine xseq ?_
    refine xregion ?_
    refine xvalP (pv_assign rfl) rfl rfl ?_
    refine xnil ?_
    refine xthen ?_
    refine xretc ?_
    replace h := h.symm
    subst h
    exact xret1 hg rfl rfl (.refl _) (SubM.of (.nil _) (.nil _)) ⟨rfl, rfl, rfl⟩
/-- palinoderef01.Copy -/
def palinoderef01_Copy_R (bv1 : List UInt8) (r : (List UInt8)) : Prop :=
  Room ((([] : List UInt8)).length + bv1.length) 1 ∧ r = (([] : List UInt8) ++ bv1)
def palinoderef01_Copy_ev (fuel : Nat) (bv1 : List UInt8) : Option ((List UInt8)) :=
  (if Room ((([] : List UInt8)).length + bv1.length) 1 then some (([] : List UInt8) ++ bv1) else none)
theorem palinoderef01_Copy_ok {fuel : Nat} {bv1 : List UInt8} {r : (List UInt8)} (h : palinoderef01_Copy_ev fuel bv1 = some r) : palinoderef01_Copy_R bv1 r := by
  unfold palinoderef01_Copy_ev at h
  unfold palinoderef01_Copy_R
  obtain ⟨g73, h⟩ := if_ok h
  refine ⟨g73, ?_⟩
  exact (Option.some.inj h).symm
set_option maxHeartbeats 4000000 in
theorem palinoderef01_Copy_con (bv1 : List UInt8) (r : (List UInt8)) (h : palinoderef01_Copy_R bv1 r) : Con Try.prog 28 [.sl 1 none (List.map eb bv1)] [] [] (RetM 1 5 eb r) := by
  refine xenter Try.func28 rfl rfl fun g hg => ?_
  simp only [Try.ntmps28, slots]
  refine xseq ?_
  refine xregion ?_
  refine xvalP (pv_assign rfl) rfl rfl ?_
  refine xnil ?_
  refine xthen ?_
  refine xseq ?_
  refine xregion ?_
  refine xbuildSliceM (f := eb) ([] : List UInt8) UndC.h InfC.h rfl rfl (by first | exact wkR_of rfl | (repeat (first | exact WkR.nil | refine WkR.cons (by (repeat (first | exact WkL.nil | refine WkL.cons (by first | with_reducible exact Wk.refl _ | exact Wk.nil_own _ | exact Wk.nil_pl _ | with_reducible exact Wk.tok _ _ _ | exact Wk.tok _ _ _ | exact Wk.eq (by first | rfl | (simp []; done) | (simp []; omega))) ?_))) ?_))) rfl rfl rfl rfl fun s3 => ?_
  refine xvalP (pv_move rfl) rfl rfl ?_
  obtain ⟨h2, h⟩ := h
  refine xappendM (l := ([] : List UInt8)) (l2 := bv1) 0 h2 UndC.h InfC.h rfl rfl rfl (.refl _) rfl rfl rfl fun i3 => ?_
  refine xvalP (pv_assign rfl) rfl rfl ?_
  refine xnil ?_
  refine xthen ?_
  refine xretc ?_
  replace h := h.symm
  subst h
  exact xret1 hg rfl rfl (.refl _) (SubM.of (.nil _) (.keep rfl (.nil _))) ⟨i3, rfl, rfl, rfl⟩
/-- palinoderef02.Split -/
def palinoderef02_Split_j2 (iv231 : Int) (ag1 : ((List ((List UInt8) × Bool)) × (List UInt8) × Int) → Prop) (out315 : List ((List UInt8) × Bool)) (cur317 : List UInt8) (r : (List ((List UInt8) × Bool))) : Prop :=
  InR (iv231 + 1) ∧ ag1 (out315, cur317, (iv231 + 1))
def palinoderef02_Split_l1 (bv1 : List UInt8) (ag1 : ((List ((List UInt8) × Bool)) × (List UInt8) × Int) → Prop) (out227 : List ((List UInt8) × Bool)) (cur229 : List UInt8) (iv231 : Int) (r : (List ((List UInt8) × Bool))) : Prop :=
  ((iv231 < (bv1.length : Int) → 0 ≤ (iv231 : Int) ∧ ∃ y325 : UInt8, bv1[(iv231 : Int).toNat]? = some y325 ∧ (((y325.toNat : Int) = 10 → Room (out227.length + ([(cur229, true)]).length) 32 ∧ palinoderef02_Split_j2 iv231 ag1 (out227 ++ [(cur229, true)]) ([] : List UInt8) r) ∧ (¬ ((y325.toNat : Int) = 10) → 0 ≤ (iv231 : Int) ∧ ∃ y331 : UInt8, bv1[(iv231 : Int).toNat]? = some y331 ∧ Room (cur229.length + ([y331]).length) 1 ∧ InR ((bv1.length : Int) - 1) ∧ ((iv231 = ((bv1.length : Int) - 1) → Room (out227.length + ([((cur229 ++ [y331]), false)]).length) 32 ∧ palinoderef02_Split_j2 iv231 ag1 (out227 ++ [((cur229 ++ [y331]), false)]) (cur229 ++ [y331]) r) ∧ (¬ (iv231 = ((bv1.length : Int) - 1)) → palinoderef02_Split_j2 iv231 ag1 out227 (cur229 ++ [y331]) r))))) ∧ (¬ (iv231 < (bv1.length : Int)) → r = out227))
def palinoderef02_Split_R (bv1 : List UInt8) (r : (List ((List UInt8) × Bool))) : Prop :=
  LoopR (fun ag1 s => palinoderef02_Split_l1 bv1 ag1 s.1 s.2.1 s.2.2 r) (([] : List ((List UInt8) × Bool)), ([] : List UInt8), 0)
def palinoderef02_Split_j2_ev (fuel : Nat) (iv231 : Int) (ag1e : ((List ((List UInt8) × Bool)) × (List UInt8) × Int) → Option ((List ((List UInt8) × Bool)))) (out315 : List ((List UInt8) × Bool)) (cur317 : List UInt8) : Option ((List ((List UInt8) × Bool))) :=
  (if InR (iv231 + 1) then ag1e (out315, cur317, (iv231 + 1)) else none)
theorem palinoderef02_Split_j2_ok {fuel : Nat} {iv231 : Int} {ag1 : ((List ((List UInt8) × Bool)) × (List UInt8) × Int) → Prop} {ag1e : ((List ((List UInt8) × Bool)) × (List UInt8) × Int) → Option ((List ((List UInt8) × Bool)))} {out315 : List ((List UInt8) × Bool)} {cur317 : List UInt8} {r : (List ((List UInt8) × Bool))} (hagag1 : ∀ s, ag1e s = some r → ag1 s) (h : palinoderef02_Split_j2_ev fuel iv231 ag1e out315 cur317 = some r) : palinoderef02_Split_j2 iv231 ag1 out315 cur317 r := by
  unfold palinoderef02_Split_j2_ev at h
  unfold palinoderef02_Split_j2
  obtain ⟨g74, h⟩ := if_ok h
  refine ⟨g74, ?_⟩
  exact hagag1 _ h
def palinoderef02_Split_l1_ev (fuel : Nat) (bv1 : List UInt8) (ag1e : ((List ((List UInt8) × Bool)) × (List UInt8) × Int) → Option ((List ((List UInt8) × Bool)))) (out227 : List ((List UInt8) × Bool)) (cur229 : List UInt8) (iv231 : Int) : Option ((List ((List UInt8) × Bool))) :=
  (if iv231 < (bv1.length : Int) then (if 0 ≤ (iv231 : Int) then ((bv1[(iv231 : Int).toNat]?).bind fun y325 => (if (y325.toNat : Int) = 10 then (if Room (out227.length + ([(cur229, true)]).length) 32 then palinoderef02_Split_j2_ev fuel iv231 ag1e (out227 ++ [(cur229, true)]) ([] : List UInt8) else none) else (if 0 ≤ (iv231 : Int) then ((bv1[(iv231 : Int).toNat]?).bind fun y331 => (if Room (cur229.length + ([y331]).length) 1 then (if InR ((bv1.length : Int) - 1) then (if iv231 = ((bv1.length : Int) - 1) then (if Room (out227.length + ([((cur229 ++ [y331]), false)]).length) 32 then palinoderef02_Split_j2_ev fuel iv231 ag1e (out227 ++ [((cur229 ++ [y331]), false)]) (cur229 ++ [y331]) else none) else palinoderef02_Split_j2_ev fuel iv231 ag1e out227 (cur229 ++ [y331])) else none) else none)) else none))) else none) else some out227)
theorem palinoderef02_Split_l1_ok {fuel : Nat} {bv1 : List UInt8} {ag1e : ((List ((List UInt8) × Bool)) × (List UInt8) × Int) → Option ((List ((List UInt8) × Bool)))} {ag1 : ((List ((List UInt8) × Bool)) × (List UInt8) × Int) → Prop} {out227 : List ((List UInt8) × Bool)} {cur229 : List UInt8} {iv231 : Int} {r : (List ((List UInt8) × Bool))} (hagag1 : ∀ s, ag1e s = some r → ag1 s) (h : palinoderef02_Split_l1_ev fuel bv1 ag1e out227 cur229 iv231 = some r) : palinoderef02_Split_l1 bv1 ag1 out227 cur229 iv231 r := by
  unfold palinoderef02_Split_l1_ev at h
  unfold palinoderef02_Split_l1
  refine ⟨fun g75 => ?_, fun g75 => ?_⟩
  · rw [if_pos g75] at h
    obtain ⟨g76, h⟩ := if_ok h
    refine ⟨g76, ?_⟩
    obtain ⟨q77, g77, h⟩ := bind_ok h
    refine ⟨q77, g77, ?_⟩
    refine ⟨fun g78 => ?_, fun g78 => ?_⟩
    · rw [if_pos g78] at h
      obtain ⟨g79, h⟩ := if_ok h
      refine ⟨g79, ?_⟩
      exact palinoderef02_Split_j2_ok hagag1 h
    · rw [if_neg g78] at h
      obtain ⟨g80, h⟩ := if_ok h
      refine ⟨g80, ?_⟩
      obtain ⟨q81, g81, h⟩ := bind_ok h
      refine ⟨q81, g81, ?_⟩
      obtain ⟨g82, h⟩ := if_ok h
      refine ⟨g82, ?_⟩
      obtain ⟨g83, h⟩ := if_ok h
      refine ⟨g83, ?_⟩
      refine ⟨fun g84 => ?_, fun g84 => ?_⟩
      · rw [if_pos g84] at h
        obtain ⟨g85, h⟩ := if_ok h
        refine ⟨g85, ?_⟩
        exact palinoderef02_Split_j2_ok hagag1 h
      · rw [if_neg g84] at h
        exact palinoderef02_Split_j2_ok hagag1 h
  · rw [if_neg g75] at h
    exact (Option.some.inj h).symm
def palinoderef02_Split_ev (fuel : Nat) (bv1 : List UInt8) : Option ((List ((List UInt8) × Bool))) :=
  (loopE (fun ag1e s => palinoderef02_Split_l1_ev fuel bv1 ag1e s.1 s.2.1 s.2.2) fuel (([] : List ((List UInt8) × Bool)), ([] : List UInt8), 0))
theorem palinoderef02_Split_ok {fuel : Nat} {bv1 : List UInt8} {r : (List ((List UInt8) × Bool))} (h : palinoderef02_Split_ev fuel bv1 = some r) : palinoderef02_Split_R bv1 r := by
  unfold palinoderef02_Split_ev at h
  unfold palinoderef02_Split_R
  refine loopE_ok ?_ h
  intro ae ag s hag h
  exact palinoderef02_Split_l1_ok hag h
set_option maxHeartbeats 4000000 in
theorem palinoderef02_Split_con (bv1 : List UInt8) (r : (List ((List UInt8) × Bool))) (h : palinoderef02_Split_R bv1 r) : Con Try.prog 11 [.sl 1 none (List.map eb bv1)] [] [] (RetM 2 36 E_palinode_api_Line r) := by
  refine xenter Try.func11 rfl rfl fun g hg => ?_
  simp only [Try.ntmps11, slots]
  refine xseq ?_
  refine xregion ?_
  refine xvalP (pv_assign rfl) rfl rfl ?_
  refine xnil ?_
  refine xthen ?_
  refine xseq ?_
  refine xregion ?_
  refine xvalP (pv_assign rfl) rfl rfl ?_
  refine xnil ?_
  refine xthen ?_
  refine xseq ?_
  refine xregion ?_
  refine xvalP (pv_assign rfl) rfl rfl ?_
  refine xnil ?_
  refine xthen ?_
  refine xseq ?_
  refine xseq ?_
  refine xregion ?_
  refine xvalP (pv_assign rfl) rfl rfl ?_
  refine xnil ?_
  refine xthen ?_
  refine xblock ?_
  obtain ⟨Inv, ⟨m0, hI⟩, hS⟩ := h
  refine xloop (fun σ m => ∃ (out227 : List ((List UInt8) × Bool)), ∃ (cur229 : List UInt8), ∃ (iv231 : Int), ∃ (i228 : Option (Nat × Nat)), ∃ (i230 : Option (Nat × Nat)), Inv (out227, cur229, iv231) m ∧ σ = ⟨[(0, .sl 1 none (List.map eb bv1)), (3, .sl 2 (some i228) (List.map E_palinode_api_Line out227)), (4, .sl 1 (some i230) (List.map eb cur229)), (5, .v (.int .i64 iv231))], [], [⟨i228, 36, 2, out227.length⟩, ⟨i230, 5, 1, cur229.length⟩]⟩) ⟨([] : List ((List UInt8) × Bool)), ([] : List UInt8), 0, none, none, hI, rfl⟩ ⟨(.cons rfl (.refl _) (.cons rfl (.nil_own _) (.cons rfl (.nil_own _) (.cons rfl (.refl _) (.nil _))))), (SubM.of (.nil _) (.add (.add (.nil _))))⟩ ?_
  rintro _ m ⟨out227, cur229, iv231, i228, i230, hI, rfl⟩
  obtain ⟨ag1, hag1, h⟩ : ∃ ag, (∀ s', ag s' → ∃ m', m' < m ∧ Inv s' m') ∧ palinoderef02_Split_l1 bv1 ag out227 cur229 iv231 r := ⟨_, fun _ h => h, hS (out227, cur229, iv231) _ hI⟩
  clear hS hI
  refine xseq ?_
  refine xseq ?_
  refine xregion ?_
  refine xvalP (pv_move rfl) rfl rfl ?_
  refine xvalP (pv_move rfl) rfl rfl ?_
  refine xvalP (pv_lenM UndC.h rfl) rfl rfl ?_
  refine xvalP (pv_bin2 rfl rfl rfl) rfl rfl ?_
  refine xnil ?_
  refine xthen ?_
  by_cases hp292 : iv231 < (bv1.length : Int)
  · replace h := h.1 hp292
    refine xcondT' (decide_eq_true hp292) rfl ?_
    refine xskipc ?_
    refine xthen ?_
    refine xseqM (fun σ => ∃ (out315 : List ((List UInt8) × Bool)), ∃ (cur317 : List UInt8), ∃ (i316 : Option (Nat × Nat)), ∃ (i318 : Option (Nat × Nat)), palinoderef02_Split_j2 iv231 ag1 out315 cur317 r ∧ σ = ⟨[(0, .sl 1 none (List.map eb bv1)), (3, .sl 2 (some i316) (List.map E_palinode_api_Line out315)), (4, .sl 1 (some i318) (List.map eb cur317)), (5, .v (.int .i64 iv231))], [], [⟨i316, 36, 2, out315.length⟩, ⟨i318, 5, 1, cur317.length⟩]⟩) ?_ ?_
    · refine xblock ?_
      refine xseq ?_
      refine xseq ?_
      refine xregion ?_
      refine xvalP (pv_move rfl) rfl rfl ?_
      refine xvalP (pv_move rfl) rfl rfl ?_
      obtain ⟨h326a, h⟩ := h
      obtain ⟨y325, h326b, h⟩ := h
      refine xvalP (pv_indexAddrM h326a h326b UndC.h ShpC.h rfl rfl) rfl rfl ?_
      refine xval (qv_load ShpC.h rfl rfl rfl) rfl rfl ?_
      refine xvalP (pv_bin2 rfl rfl rfl) rfl rfl ?_
      refine xnil ?_
      refine xthen ?_
      by_cases hp328 : (y325.toNat : Int) = 10
      · replace h := h.1 hp328
        refine xcondT' (decide_eq_true hp328) rfl ?_
        refine xseq ?_
        refine xregion ?_
        refine xvalP (pv_move rfl) rfl rfl ?_
        refine xvalP (pv_move rfl) rfl rfl ?_
        refine xvalP (pv_buildC StrC.h rfl rfl) rfl rfl ?_
        refine xbuildSliceM (f := E_palinode_api_Line) [(cur229, true)] UndC.h InfC.h rfl rfl (by first | exact wkR_of rfl | (repeat (first | exact WkR.nil | refine WkR.cons (by (repeat (first | exact WkL.nil | refine WkL.cons (by first | with_reducible exact Wk.refl _ | exact Wk.nil_own _ | exact Wk.nil_pl _ | with_reducible exact Wk.tok _ _ _ | exact Wk.tok _ _ _ | exact Wk.eq (by first | rfl | (simp []; done) | (simp []; omega))) ?_))) ?_))) rfl rfl rfl rfl fun s20 => ?_
        obtain ⟨h329, h⟩ := h
        refine xappendM (l := out227) (l2 := [(cur229, true)]) 1 h329 UndC.h InfC.h rfl rfl rfl (.refl _) rfl rfl rfl fun i330 => ?_
        refine xvalP (pv_assign rfl) rfl rfl ?_
        refine xnil ?_
        refine xthen ?_
        refine xseq ?_
        refine xregion ?_
        refine xvalP (pv_assign rfl) rfl rfl ?_
        refine xnil ?_
        refine xthen ?_
        refine xexit ?_
        refine xthen_exit ?_
        refine xin_same rfl ?_
        exact xmeet ⟨(out227 ++ [(cur229, true)]), ([] : List UInt8), i330, none, h, rfl⟩ ⟨(.cons rfl (.refl _) (.cons rfl (.refl _) (.cons rfl (.nil_own _) (.cons rfl (.refl _) (.nil _))))), (SubM.of (.nil _) (.drop (.keep rfl (.add (.nil _)))))⟩
      · replace h := h.2 hp328
        refine xcondF' (decide_eq_false hp328) rfl ?_
        refine xskipc ?_
        refine xthen ?_
        refine xseq ?_
        refine xregion ?_
        refine xvalP (pv_move rfl) rfl rfl ?_
        refine xvalP (pv_move rfl) rfl rfl ?_
        refine xvalP (pv_move rfl) rfl rfl ?_
        obtain ⟨h332a, h⟩ := h
        obtain ⟨y331, h332b, h⟩ := h
        refine xvalP (pv_indexAddrM h332a h332b UndC.h ShpC.h rfl rfl) rfl rfl ?_
        refine xval (qv_load ShpC.h rfl rfl rfl) rfl rfl ?_
        refine xbuildSliceM (f := eb) [y331] UndC.h InfC.h rfl rfl (by first | exact wkR_of rfl | (repeat (first | exact WkR.nil | refine WkR.cons (by (repeat (first | exact WkL.nil | refine WkL.cons (by first | with_reducible exact Wk.refl _ | exact Wk.nil_own _ | exact Wk.nil_pl _ | with_reducible exact Wk.tok _ _ _ | exact Wk.tok _ _ _ | exact Wk.eq (by first | rfl | (simp []; done) | (simp []; omega))) ?_))) ?_))) rfl rfl rfl rfl fun s27 => ?_
        obtain ⟨h333, h⟩ := h
        refine xappendM (l := cur229) (l2 := [y331]) 2 h333 UndC.h InfC.h rfl rfl rfl (.refl _) rfl rfl rfl fun i334 => ?_
        refine xvalP (pv_assign rfl) rfl rfl ?_
        refine xnil ?_
        refine xthen ?_
        refine xseq ?_
        refine xregion ?_
        refine xvalP (pv_move rfl) rfl rfl ?_
        refine xvalP (pv_move rfl) rfl rfl ?_
        refine xvalP (pv_lenM UndC.h rfl) rfl rfl ?_
        obtain ⟨h336, h⟩ := h
        refine xvalP (pv_subI h336 rfl rfl) rfl rfl ?_
        refine xvalP (pv_bin2 rfl rfl rfl) rfl rfl ?_
        refine xnil ?_
        refine xthen ?_
        by_cases hp338 : iv231 = ((bv1.length : Int) - 1)
        · replace h := h.1 hp338
          refine xcondT' (decide_eq_true hp338) rfl ?_
          refine xregion ?_
          refine xvalP (pv_move rfl) rfl rfl ?_
          refine xvalP (pv_move rfl) rfl rfl ?_
          refine xvalP (pv_buildC StrC.h rfl rfl) rfl rfl ?_
          refine xbuildSliceM (f := E_palinode_api_Line) [((cur229 ++ [y331]), false)] UndC.h InfC.h rfl rfl (by first | exact wkR_of rfl | (repeat (first | exact WkR.nil | refine WkR.cons (by (repeat (first | exact WkL.nil | refine WkL.cons (by first | with_reducible exact Wk.refl _ | exact Wk.nil_own _ | exact Wk.nil_pl _ | with_reducible exact Wk.tok _ _ _ | exact Wk.tok _ _ _ | exact Wk.eq (by first | rfl | (simp []; done) | (simp []; omega))) ?_))) ?_))) rfl rfl rfl rfl fun s37 => ?_
          obtain ⟨h339, h⟩ := h
          refine xappendM (l := out227) (l2 := [((cur229 ++ [y331]), false)]) 2 h339 UndC.h InfC.h rfl rfl rfl (.refl _) rfl rfl rfl fun i340 => ?_
          refine xvalP (pv_assign rfl) rfl rfl ?_
          refine xnil ?_
          refine xin_normal ?_
          exact xmeet ⟨(out227 ++ [((cur229 ++ [y331]), false)]), (cur229 ++ [y331]), i340, i334, h, rfl⟩ ⟨(.cons rfl (.refl _) (.cons rfl (.refl _) (.cons rfl (.refl _) (.cons rfl (.refl _) (.nil _))))), (SubM.of (.nil _) (.drop (.drop (.keep rfl (.keep rfl (.nil _))))))⟩
        · replace h := h.2 hp338
          refine xcondF' (decide_eq_false hp338) rfl ?_
          refine xskipc ?_
          refine xin_normal ?_
          exact xmeet ⟨out227, (cur229 ++ [y331]), i228, i334, h, rfl⟩ ⟨(.cons rfl (.refl _) (.cons rfl (.refl _) (.cons rfl (.refl _) (.cons rfl (.refl _) (.nil _))))), (SubM.of (.nil _) (.drop (.keep rfl (.keep rfl (.nil _)))))⟩
    · clear h
      rintro _ ⟨out315, cur317, i316, i318, h, rfl⟩
      refine xregion ?_
      refine xvalP (pv_move rfl) rfl rfl ?_
      obtain ⟨h341, h⟩ := h
      refine xvalP (pv_addI h341 rfl rfl) rfl rfl ?_
      refine xvalP (pv_assign rfl) rfl rfl ?_
      refine xnil ?_
      obtain ⟨m', hm, hI⟩ := hag1 _ h
      exact xagain ⟨out315, cur317, (iv231 + 1), i316, i318, hI, rfl⟩ hm ⟨(.cons rfl (.refl _) (.cons rfl (.refl _) (.cons rfl (.refl _) (.cons rfl (.refl _) (.nil _))))), (SubM.of (.nil _) (.keep rfl (.keep rfl (.nil _))))⟩
  · replace h := h.2 hp292
    refine xcondF' (decide_eq_false hp292) rfl ?_
    refine xexit ?_
    refine xthen_exit ?_
    refine xthen_exit ?_
    refine xin_same rfl ?_
    refine xthen ?_
    refine xseq ?_
    refine xregion ?_
    refine xvalP (pv_move rfl) rfl rfl ?_
    refine xvalP (pv_assign rfl) rfl rfl ?_
    refine xnil ?_
    refine xthen ?_
    refine xretc ?_
    replace h := h.symm
    subst h
    exact xret1 hg rfl rfl (.refl _) (SubM.of (.nil _) (.keep rfl (.nil _))) ⟨i228, rfl, rfl, rfl⟩
/-- palinoderef18.Next -/
def palinoderef18_Next_j4 (f182 : List UInt8) (y359 : (List ((List UInt8) × Bool))) (f179 : Int) (f180 : Int) (f181 : Int) (x379 : Int) (r : ((List UInt8) × Bool) × (Int × Int × Int × Int × (List UInt8)) × Bool) : Prop :=
  (0 ≤ (x379 : Int) ∧ (x379 : Int) ≤ (f182.length : Int)) ∧ ∃ y387 : (List UInt8), palinoderef01_Copy_R (f182.drop (x379 : Int).toNat) y387 ∧ 0 ≤ (0 : Int) ∧ ∃ y392 : (List UInt8) × Bool, y359[(0 : Int).toNat]? = some y392 ∧ r = (y392, (f179, f180, f180, f181, y387), true)
def palinoderef18_Next_j1 (x1 : Int × Int × Int × Int × (List UInt8)) (f179 : Int) (f180 : Int) (f181 : Int) (f182 : List UInt8) (r : ((List UInt8) × Bool) × (Int × Int × Int × Int × (List UInt8)) × Bool) : Prop :=
  ∃ y359 : (List ((List UInt8) × Bool)), palinoderef02_Split_R f182 y359 ∧ (((y359.length : Int) = 0 → r = ((([] : List UInt8), false), (f179, f180, x1.2.2.1, f181, f182), false)) ∧ (¬ ((y359.length : Int) = 0) → 0 ≤ (0 : Int) ∧ ∃ y371 : (List UInt8) × Bool, y359[(0 : Int).toNat]? = some y371 ∧ 0 ≤ (0 : Int) ∧ ∃ y380 : (List UInt8) × Bool, y359[(0 : Int).toNat]? = some y380 ∧ ((y380.2 = true → ∃ z384 : Int, z384 = IntKind.i64.wrap ((y371.1.length : Int) + 1) ∧ palinoderef18_Next_j4 f182 y359 f179 f180 f181 z384 r) ∧ (¬ (y380.2 = true) → palinoderef18_Next_j4 f182 y359 f179 f180 f181 (y371.1.length : Int) r))))
def palinoderef18_Next_j3 (f240 : Int) (ag2 : (Int × Int × Int × (List UInt8)) → Prop) (f344 : Int) (f345 : Int) (f346 : List UInt8) (r : ((List UInt8) × Bool) × (Int × Int × Int × Int × (List UInt8)) × Bool) : Prop :=
  ∃ z357 : Int, z357 = IntKind.i64.wrap (f240 + 1) ∧ ag2 (z357, f344, f345, f346)
def palinoderef18_Next_l2 (x3 : List ByteArray) (x2 : List (ByteArray × (List UInt8))) (x1 : Int × Int × Int × Int × (List UInt8)) (ag2 : (Int × Int × Int × (List UInt8)) → Prop) (f240 : Int) (f241 : Int) (f242 : Int) (f243 : List UInt8) (r : ((List UInt8) × Bool) × (Int × Int × Int × Int × (List UInt8)) × Bool) : Prop :=
  (((f243.length : Int) = 0 → ((0 ≤ f240 → ((f240 < (x3.length : Int) → 0 ≤ (f240 : Int) ∧ ∃ y331 : ByteArray, x3[(f240 : Int).toNat]? = some y331 ∧ ∃ y334 : Int, palinoderef03_At_R x2 y331 y334 ∧ ((0 ≤ y334 → 0 ≤ (y334 : Int) ∧ ∃ y349 : ByteArray × (List UInt8), x2[(y334 : Int).toNat]? = some y349 ∧ ∃ y352 : (List UInt8), palinoderef01_Copy_R y349.2 y352 ∧ palinoderef18_Next_j3 f240 ag2 f240 f242 y352 r) ∧ (¬ (0 ≤ y334) → ∃ z355 : Int, z355 = IntKind.i64.wrap (f242 + 1) ∧ palinoderef18_Next_j3 f240 ag2 f241 z355 f243 r))) ∧ (¬ (f240 < (x3.length : Int)) → palinoderef18_Next_j1 x1 f240 f241 f242 f243 r))) ∧ (¬ (0 ≤ f240) → palinoderef18_Next_j1 x1 f240 f241 f242 f243 r))) ∧ (¬ ((f243.length : Int) = 0) → palinoderef18_Next_j1 x1 f240 f241 f242 f243 r))
def palinoderef18_Next_R (x1 : Int × Int × Int × Int × (List UInt8)) (x2 : List (ByteArray × (List UInt8))) (x3 : List ByteArray) (r : ((List UInt8) × Bool) × (Int × Int × Int × Int × (List UInt8)) × Bool) : Prop :=
  LoopR (fun ag2 s => palinoderef18_Next_l2 x3 x2 x1 ag2 s.1 s.2.1 s.2.2.1 s.2.2.2 r) (x1.1, x1.2.1, x1.2.2.2.1, x1.2.2.2.2)
def palinoderef18_Next_j4_ev (fuel : Nat) (f182 : List UInt8) (y359 : (List ((List UInt8) × Bool))) (f179 : Int) (f180 : Int) (f181 : Int) (x379 : Int) : Option (((List UInt8) × Bool) × (Int × Int × Int × Int × (List UInt8)) × Bool) :=
  (if (0 ≤ (x379 : Int) ∧ (x379 : Int) ≤ (f182.length : Int)) then ((palinoderef01_Copy_ev fuel (f182.drop (x379 : Int).toNat)).bind fun y387 => (if 0 ≤ (0 : Int) then ((y359[(0 : Int).toNat]?).bind fun y392 => some (y392, (f179, f180, f180, f181, y387), true)) else none)) else none)
theorem palinoderef18_Next_j4_ok {fuel : Nat} {f182 : List UInt8} {y359 : (List ((List UInt8) × Bool))} {f179 : Int} {f180 : Int} {f181 : Int} {x379 : Int} {r : ((List UInt8) × Bool) × (Int × Int × Int × Int × (List UInt8)) × Bool} (h : palinoderef18_Next_j4_ev fuel f182 y359 f179 f180 f181 x379 = some r) : palinoderef18_Next_j4 f182 y359 f179 f180 f181 x379 r := by
  unfold palinoderef18_Next_j4_ev at h
  unfold palinoderef18_Next_j4
  obtain ⟨g86, h⟩ := if_ok h
  refine ⟨g86, ?_⟩
  obtain ⟨q87, g87, h⟩ := bind_ok h
  refine ⟨q87, palinoderef01_Copy_ok g87, ?_⟩
  obtain ⟨g88, h⟩ := if_ok h
  refine ⟨g88, ?_⟩
  obtain ⟨q89, g89, h⟩ := bind_ok h
  refine ⟨q89, g89, ?_⟩
  exact (Option.some.inj h).symm
def palinoderef18_Next_j1_ev (fuel : Nat) (x1 : Int × Int × Int × Int × (List UInt8)) (f179 : Int) (f180 : Int) (f181 : Int) (f182 : List UInt8) : Option (((List UInt8) × Bool) × (Int × Int × Int × Int × (List UInt8)) × Bool) :=
  ((palinoderef02_Split_ev fuel f182).bind fun y359 => (if (y359.length : Int) = 0 then some ((([] : List UInt8), false), (f179, f180, x1.2.2.1, f181, f182), false) else (if 0 ≤ (0 : Int) then ((y359[(0 : Int).toNat]?).bind fun y371 => (if 0 ≤ (0 : Int) then ((y359[(0 : Int).toNat]?).bind fun y380 => (if y380.2 = true then ((some (IntKind.i64.wrap ((y371.1.length : Int) + 1) : Int)).bind fun z384 => palinoderef18_Next_j4_ev fuel f182 y359 f179 f180 f181 z384) else palinoderef18_Next_j4_ev fuel f182 y359 f179 f180 f181 (y371.1.length : Int))) else none)) else none)))
theorem palinoderef18_Next_j1_ok {fuel : Nat} {x1 : Int × Int × Int × Int × (List UInt8)} {f179 : Int} {f180 : Int} {f181 : Int} {f182 : List UInt8} {r : ((List UInt8) × Bool) × (Int × Int × Int × Int × (List UInt8)) × Bool} (h : palinoderef18_Next_j1_ev fuel x1 f179 f180 f181 f182 = some r) : palinoderef18_Next_j1 x1 f179 f180 f181 f182 r := by
  unfold palinoderef18_Next_j1_ev at h
  unfold palinoderef18_Next_j1
  obtain ⟨q90, g90, h⟩ := bind_ok h
  refine ⟨q90, palinoderef02_Split_ok g90, ?_⟩
  refine ⟨fun g91 => ?_, fun g91 => ?_⟩
  · rw [if_pos g91] at h
    exact (Option.some.inj h).symm
  · rw [if_neg g91] at h
    obtain ⟨g92, h⟩ := if_ok h
    refine ⟨g92, ?_⟩
    obtain ⟨q93, g93, h⟩ := bind_ok h
    refine ⟨q93, g93, ?_⟩
    obtain ⟨g94, h⟩ := if_ok h
    refine ⟨g94, ?_⟩
    obtain ⟨q95, g95, h⟩ := bind_ok h
    refine ⟨q95, g95, ?_⟩
    refine ⟨fun g96 => ?_, fun g96 => ?_⟩
    · rw [if_pos g96] at h
      obtain ⟨q97, g97, h⟩ := bind_ok h
      refine ⟨q97, (Option.some.inj g97).symm, ?_⟩
      exact palinoderef18_Next_j4_ok h
    · rw [if_neg g96] at h
      exact palinoderef18_Next_j4_ok h
def palinoderef18_Next_j3_ev (fuel : Nat) (f240 : Int) (ag2e : (Int × Int × Int × (List UInt8)) → Option (((List UInt8) × Bool) × (Int × Int × Int × Int × (List UInt8)) × Bool)) (f344 : Int) (f345 : Int) (f346 : List UInt8) : Option (((List UInt8) × Bool) × (Int × Int × Int × Int × (List UInt8)) × Bool) :=
  ((some (IntKind.i64.wrap (f240 + 1) : Int)).bind fun z357 => ag2e (z357, f344, f345, f346))
theorem palinoderef18_Next_j3_ok {fuel : Nat} {f240 : Int} {ag2 : (Int × Int × Int × (List UInt8)) → Prop} {ag2e : (Int × Int × Int × (List UInt8)) → Option (((List UInt8) × Bool) × (Int × Int × Int × Int × (List UInt8)) × Bool)} {f344 : Int} {f345 : Int} {f346 : List UInt8} {r : ((List UInt8) × Bool) × (Int × Int × Int × Int × (List UInt8)) × Bool} (hagag2 : ∀ s, ag2e s = some r → ag2 s) (h : palinoderef18_Next_j3_ev fuel f240 ag2e f344 f345 f346 = some r) : palinoderef18_Next_j3 f240 ag2 f344 f345 f346 r := by
  unfold palinoderef18_Next_j3_ev at h
  unfold palinoderef18_Next_j3
  obtain ⟨q98, g98, h⟩ := bind_ok h
  refine ⟨q98, (Option.some.inj g98).symm, ?_⟩
  exact hagag2 _ h
def palinoderef18_Next_l2_ev (fuel : Nat) (x3 : List ByteArray) (x2 : List (ByteArray × (List UInt8))) (x1 : Int × Int × Int × Int × (List UInt8)) (ag2e : (Int × Int × Int × (List UInt8)) → Option (((List UInt8) × Bool) × (Int × Int × Int × Int × (List UInt8)) × Bool)) (f240 : Int) (f241 : Int) (f242 : Int) (f243 : List UInt8) : Option (((List UInt8) × Bool) × (Int × Int × Int × Int × (List UInt8)) × Bool) :=
  (if (f243.length : Int) = 0 then (if 0 ≤ f240 then (if f240 < (x3.length : Int) then (if 0 ≤ (f240 : Int) then ((x3[(f240 : Int).toNat]?).bind fun y331 => ((palinoderef03_At_ev fuel x2 y331).bind fun y334 => (if 0 ≤ y334 then (if 0 ≤ (y334 : Int) then ((x2[(y334 : Int).toNat]?).bind fun y349 => ((palinoderef01_Copy_ev fuel y349.2).bind fun y352 => palinoderef18_Next_j3_ev fuel f240 ag2e f240 f242 y352)) else none) else ((some (IntKind.i64.wrap (f242 + 1) : Int)).bind fun z355 => palinoderef18_Next_j3_ev fuel f240 ag2e f241 z355 f243)))) else none) else palinoderef18_Next_j1_ev fuel x1 f240 f241 f242 f243) else palinoderef18_Next_j1_ev fuel x1 f240 f241 f242 f243) else palinoderef18_Next_j1_ev fuel x1 f240 f241 f242 f243)
theorem palinoderef18_Next_l2_ok {fuel : Nat} {x3 : List ByteArray} {x2 : List (ByteArray × (List UInt8))} {x1 : Int × Int × Int × Int × (List UInt8)} {ag2e : (Int × Int × Int × (List UInt8)) → Option (((List UInt8) × Bool) × (Int × Int × Int × Int × (List UInt8)) × Bool)} {ag2 : (Int × Int × Int × (List UInt8)) → Prop} {f240 : Int} {f241 : Int} {f242 : Int} {f243 : List UInt8} {r : ((List UInt8) × Bool) × (Int × Int × Int × Int × (List UInt8)) × Bool} (hagag2 : ∀ s, ag2e s = some r → ag2 s) (h : palinoderef18_Next_l2_ev fuel x3 x2 x1 ag2e f240 f241 f242 f243 = some r) : palinoderef18_Next_l2 x3 x2 x1 ag2 f240 f241 f242 f243 r := by
  unfold palinoderef18_Next_l2_ev at h
  unfold palinoderef18_Next_l2
  refine ⟨fun g99 => ?_, fun g99 => ?_⟩
  · rw [if_pos g99] at h
    refine ⟨fun g100 => ?_, fun g100 => ?_⟩
    · rw [if_pos g100] at h
      refine ⟨fun g101 => ?_, fun g101 => ?_⟩
      · rw [if_pos g101] at h
        obtain ⟨g102, h⟩ := if_ok h
        refine ⟨g102, ?_⟩
        obtain ⟨q103, g103, h⟩ := bind_ok h
        refine ⟨q103, g103, ?_⟩
        obtain ⟨q104, g104, h⟩ := bind_ok h
        refine ⟨q104, palinoderef03_At_ok g104, ?_⟩
        refine ⟨fun g105 => ?_, fun g105 => ?_⟩
        · rw [if_pos g105] at h
          obtain ⟨g106, h⟩ := if_ok h
          refine ⟨g106, ?_⟩
          obtain ⟨q107, g107, h⟩ := bind_ok h
          refine ⟨q107, g107, ?_⟩
          obtain ⟨q108, g108, h⟩ := bind_ok h
          refine ⟨q108, palinoderef01_Copy_ok g108, ?_⟩
          exact palinoderef18_Next_j3_ok hagag2 h
        · rw [if_neg g105] at h
          obtain ⟨q109, g109, h⟩ := bind_ok h
          refine ⟨q109, (Option.some.inj g109).symm, ?_⟩
          exact palinoderef18_Next_j3_ok hagag2 h
      · rw [if_neg g101] at h
        exact palinoderef18_Next_j1_ok h
    · rw [if_neg g100] at h
      exact palinoderef18_Next_j1_ok h
  · rw [if_neg g99] at h
    exact palinoderef18_Next_j1_ok h
def palinoderef18_Next_ev (fuel : Nat) (x1 : Int × Int × Int × Int × (List UInt8)) (x2 : List (ByteArray × (List UInt8))) (x3 : List ByteArray) : Option (((List UInt8) × Bool) × (Int × Int × Int × Int × (List UInt8)) × Bool) :=
  (loopE (fun ag2e s => palinoderef18_Next_l2_ev fuel x3 x2 x1 ag2e s.1 s.2.1 s.2.2.1 s.2.2.2) fuel (x1.1, x1.2.1, x1.2.2.2.1, x1.2.2.2.2))
theorem palinoderef18_Next_ok {fuel : Nat} {x1 : Int × Int × Int × Int × (List UInt8)} {x2 : List (ByteArray × (List UInt8))} {x3 : List ByteArray} {r : ((List UInt8) × Bool) × (Int × Int × Int × Int × (List UInt8)) × Bool} (h : palinoderef18_Next_ev fuel x1 x2 x3 = some r) : palinoderef18_Next_R x1 x2 x3 r := by
  unfold palinoderef18_Next_ev at h
  unfold palinoderef18_Next_R
  refine loopE_ok ?_ h
  intro ae ag s hag h
  exact palinoderef18_Next_l2_ok hag h
set_option maxHeartbeats 4000000 in
theorem palinoderef18_Next_con (x1 : Int × Int × Int × Int × (List UInt8)) (x2 : List (ByteArray × (List UInt8))) (x3 : List ByteArray) (r : ((List UInt8) × Bool) × (Int × Int × Int × Int × (List UInt8)) × Bool) (h : palinoderef18_Next_R x1 x2 x3 r) : Con Try.prog 17 [.agg [.v (.int .i64 x1.1), .v (.int .i64 x1.2.1), .v (.int .i64 x1.2.2.1), .v (.int .i64 x1.2.2.2.1), .sl 1 none (List.map eb x1.2.2.2.2)], .sl 2 none (List.map E_palinode_api_File x2), .sl 1 none (List.map es x3)] [] [] (fun rr bx tk => rr = .tup [.agg [.sl 1 none (List.map eb r.1.1), .v (.bool r.1.2)], .agg [.v (.int .i64 r.2.1.1), .v (.int .i64 r.2.1.2.1), .v (.int .i64 r.2.1.2.2.1), .v (.int .i64 r.2.1.2.2.2.1), .sl 1 none (List.map eb r.2.1.2.2.2.2)], .v (.bool r.2.2)] ∧ bx = [] ∧ tk = []) := by
  refine xenter Try.func17 rfl rfl fun g hg => ?_
  simp only [Try.ntmps17, slots]
  refine xseq ?_
  refine xregion ?_
  refine xbox rfl rfl rfl rfl fun b3 => ?_
  refine xalloc InfC.h rfl rfl fun b6 => ?_
  refine xalloc InfC.h rfl rfl fun b7 => ?_
  refine xvalP (pv_assign rfl) rfl rfl ?_
  refine xnil ?_
  refine xthen ?_
  refine xseqM (fun σ => ∃ (f179 : Int), ∃ (f180 : Int), ∃ (f181 : Int), ∃ (f182 : List UInt8), palinoderef18_Next_j1 x1 f179 f180 f181 f182 r ∧ σ = ⟨[(3, .v (.pointer (some ⟨b3, 0, none⟩))), (6, .v (.pointer (some ⟨b6, 0, none⟩))), (7, .v (.pointer (some ⟨b7, 0, none⟩)))], [⟨b7, 42, [.v (.int .i64 0), .v (.int .i64 0), .v (.int .i64 0), .v (.int .i64 0), .v (.slice none 0 0)]⟩, ⟨b6, 36, [.v (.slice none 0 0), .v (.bool false)]⟩, ⟨b3, 42, [.v (.int .i64 f179), .v (.int .i64 f180), .v (.int .i64 x1.2.2.1), .v (.int .i64 f181), .sl 1 none (List.map eb f182)]⟩], []⟩) ?_ ?_
  · refine xblock ?_
    obtain ⟨Inv, ⟨m0, hI⟩, hS⟩ := h
    refine xloop (fun σ m => ∃ (f240 : Int), ∃ (f241 : Int), ∃ (f242 : Int), ∃ (f243 : List UInt8), Inv (f240, f241, f242, f243) m ∧ σ = ⟨[(1, .sl 2 none (List.map E_palinode_api_File x2)), (2, .sl 1 none (List.map es x3)), (3, .v (.pointer (some ⟨b3, 0, none⟩))), (6, .v (.pointer (some ⟨b6, 0, none⟩))), (7, .v (.pointer (some ⟨b7, 0, none⟩)))], [⟨b7, 42, [.v (.int .i64 0), .v (.int .i64 0), .v (.int .i64 0), .v (.int .i64 0), .v (.slice none 0 0)]⟩, ⟨b6, 36, [.v (.slice none 0 0), .v (.bool false)]⟩, ⟨b3, 42, [.v (.int .i64 f240), .v (.int .i64 f241), .v (.int .i64 x1.2.2.1), .v (.int .i64 f242), .sl 1 none (List.map eb f243)]⟩], []⟩) ⟨x1.1, x1.2.1, x1.2.2.2.1, x1.2.2.2.2, hI, rfl⟩ ⟨(.cons rfl (.refl _) (.cons rfl (.refl _) (.cons rfl (.refl _) (.cons rfl (.refl _) (.cons rfl (.refl _) (.nil _)))))), (SubM.of (.keep rfl rfl (.refl _) (.keep rfl rfl (.refl _) (.keep rfl rfl (.refl _) (.nil _)))) (.nil _))⟩ ?_
    rintro _ m ⟨f240, f241, f242, f243, hI, rfl⟩
    obtain ⟨ag2, hag2, h⟩ : ∃ ag, (∀ s', ag s' → ∃ m', m' < m ∧ Inv s' m') ∧ palinoderef18_Next_l2 x3 x2 x1 ag f240 f241 f242 f243 r := ⟨_, fun _ h => h, hS (f240, f241, f242, f243) _ hI⟩
    clear hS hI
    refine xseq ?_
    refine xseq ?_
    refine xregion ?_
    refine xvalP (qv_fieldAddrB FldC.h rfl) rfl rfl ?_
    refine xval (qv_loadB 2 ShpC.h rfl rfl rfl rfl) rfl rfl ?_
    refine xvalP (pv_lenM UndC.h rfl) rfl rfl ?_
    refine xvalP (pv_bin2 rfl rfl rfl) rfl rfl ?_
    refine xvalP (pv_move rfl) rfl rfl ?_
    by_cases hp325 : (f243.length : Int) = 0
    · replace h := h.1 hp325
      refine xsetB 16 (decide_eq_true hp325) rfl ?_
      refine xvalP (qv_fieldAddrB FldC.h rfl) rfl rfl ?_
      refine xval (qv_loadB 2 ShpC.h rfl rfl rfl rfl) rfl rfl ?_
      refine xvalP (pv_bin2 rfl rfl rfl) rfl rfl ?_
      refine xvalP (pv_pick rfl rfl) rfl rfl ?_
      refine xvalP (pv_move rfl) rfl rfl ?_
      by_cases hp327 : 0 ≤ f240
      · replace h := h.1 hp327
        refine xsetB 21 (decide_eq_true hp327) rfl ?_
        refine xvalP (qv_fieldAddrB FldC.h rfl) rfl rfl ?_
        refine xval (qv_loadB 2 ShpC.h rfl rfl rfl rfl) rfl rfl ?_
        refine xvalP (pv_move rfl) rfl rfl ?_
        refine xvalP (pv_lenM UndC.h rfl) rfl rfl ?_
        refine xvalP (pv_bin2 rfl rfl rfl) rfl rfl ?_
        refine xvalP (pv_pick rfl rfl) rfl rfl ?_
        refine xnil ?_
        refine xthen ?_
        by_cases hp330 : f240 < (x3.length : Int)
        · replace h := h.1 hp330
          refine xcondT' (decide_eq_true hp330) rfl ?_
          refine xskipc ?_
          refine xthen ?_
          refine xblock ?_
          refine xseq ?_
          refine xregion ?_
          refine xvalP (pv_move rfl) rfl rfl ?_
          refine xvalP (pv_move rfl) rfl rfl ?_
          refine xvalP (qv_fieldAddrB FldC.h rfl) rfl rfl ?_
          refine xval (qv_loadB 2 ShpC.h rfl rfl rfl rfl) rfl rfl ?_
          obtain ⟨h332a, h⟩ := h
          obtain ⟨y331, h332b, h⟩ := h
          refine xvalP (pv_indexAddrM h332a h332b UndC.h ShpC.h rfl rfl) rfl rfl ?_
          refine xval (qv_load ShpC.h rfl rfl rfl) rfl rfl ?_
          obtain ⟨y334, h333, h⟩ := h
          refine xcall0 (palinoderef03_At_con x2 y331 _ h333) Try.func10 (by kernel_rfl) rfl (.cons rfl (.refl _) (.cons rfl (.refl _) .nil)) rfl rfl ?_
          refine xvalP (pv_assign rfl) rfl rfl ?_
          refine xnil ?_
          refine xthen ?_
          refine xseqM (fun σ => ∃ (f344 : Int), ∃ (f345 : Int), ∃ (f346 : List UInt8), palinoderef18_Next_j3 f240 ag2 f344 f345 f346 r ∧ σ = ⟨[(1, .sl 2 none (List.map E_palinode_api_File x2)), (2, .sl 1 none (List.map es x3)), (3, .v (.pointer (some ⟨b3, 0, none⟩))), (6, .v (.pointer (some ⟨b6, 0, none⟩))), (7, .v (.pointer (some ⟨b7, 0, none⟩))), (17, .v (.pointer (some ⟨b3, 0, none⟩))), (18, .v (.int .i64 f240)), (19, .v (.bool (decide (0 ≤ f240)))), (22, .v (.pointer (some ⟨b3, 0, none⟩))), (23, .v (.int .i64 f240)), (24, .sl 1 none (List.map es x3)), (25, .v (.int .i64 ((x3.length : Int)))), (26, .v (.bool (decide (f240 < (x3.length : Int)))))], [⟨b7, 42, [.v (.int .i64 0), .v (.int .i64 0), .v (.int .i64 0), .v (.int .i64 0), .v (.slice none 0 0)]⟩, ⟨b6, 36, [.v (.slice none 0 0), .v (.bool false)]⟩, ⟨b3, 42, [.v (.int .i64 f240), .v (.int .i64 f344), .v (.int .i64 x1.2.2.1), .v (.int .i64 f345), .sl 1 none (List.map eb f346)]⟩], []⟩) ?_ ?_
          · refine xseq ?_
            refine xregion ?_
            refine xvalP (pv_move rfl) rfl rfl ?_
            refine xvalP (pv_bin2 rfl rfl rfl) rfl rfl ?_
            refine xnil ?_
            refine xthen ?_
            by_cases hp348 : 0 ≤ y334
            · replace h := h.1 hp348
              refine xcondT' (decide_eq_true hp348) rfl ?_
              refine xseq ?_
              refine xregion ?_
              refine xvalP (qv_fieldAddrB FldC.h rfl) rfl rfl ?_
              refine xval (qv_loadB 2 ShpC.h rfl rfl rfl rfl) rfl rfl ?_
              refine xvalP (qv_fieldAddrB FldC.h rfl) rfl rfl ?_
              refine xstore 2 ShpC.h rfl rfl rfl rfl rfl rfl rfl ?_
              refine xnil ?_
              refine xthen ?_
              refine xregion ?_
              refine xvalP (pv_move rfl) rfl rfl ?_
              refine xvalP (pv_move rfl) rfl rfl ?_
              obtain ⟨h350a, h⟩ := h
              obtain ⟨y349, h350b, h⟩ := h
              refine xvalP (pv_indexAddrM h350a h350b UndC.h ShpC.h rfl rfl) rfl rfl ?_
              refine xvalP (qv_fieldAddrE FldC.h rfl) rfl rfl ?_
              refine xval (qv_load ShpC.h rfl rfl rfl) rfl rfl ?_
              obtain ⟨y352, h351, h⟩ := h
              refine xcallM (palinoderef01_Copy_con y349.2 _ h351) Try.func28 (by kernel_rfl) rfl (.cons rfl (.refl _) .nil) rfl rfl fun i353 => ?_
              refine xvalP (qv_fieldAddrB FldC.h rfl) rfl rfl ?_
              refine xstore 2 ShpC.h rfl rfl rfl rfl rfl rfl rfl ?_
              refine xnil ?_
              exact xmeet ⟨f240, f242, y352, h, rfl⟩ ⟨(.cons rfl (.refl _) (.cons rfl (.refl _) (.cons rfl (.refl _) (.cons rfl (.refl _) (.cons rfl (.refl _) (.cons rfl (.refl _) (.cons rfl (.refl _) (.cons rfl (.refl _) (.cons rfl (.refl _) (.cons rfl (.refl _) (.cons rfl (.refl _) (.cons rfl (.refl _) (.cons rfl (.refl _) (.nil _)))))))))))))), (SubM.of (.keep rfl rfl (.refl _) (.keep rfl rfl (.refl _) (.keep rfl rfl (.cons (.refl _) (.cons (.refl _) (.cons (.refl _) (.cons (.refl _) (.cons (.tok _ _ _) .nil))))) (.nil _)))) (.nil _))⟩
            · replace h := h.2 hp348
              refine xcondF' (decide_eq_false hp348) rfl ?_
              refine xregion ?_
              refine xvalP (qv_fieldAddrB FldC.h rfl) rfl rfl ?_
              refine xval (qv_loadB 2 ShpC.h rfl rfl rfl rfl) rfl rfl ?_
              obtain ⟨z355, h354, h⟩ := h
              refine xvalP (pv_wr h354 rfl rfl rfl) rfl rfl ?_
              refine xvalP (qv_fieldAddrB FldC.h rfl) rfl rfl ?_
              refine xstore 2 ShpC.h rfl rfl rfl rfl rfl rfl rfl ?_
              refine xnil ?_
              exact xmeet ⟨f241, z355, f243, h, rfl⟩ ⟨(.cons rfl (.refl _) (.cons rfl (.refl _) (.cons rfl (.refl _) (.cons rfl (.refl _) (.cons rfl (.refl _) (.cons rfl (.refl _) (.cons rfl (.refl _) (.cons rfl (.refl _) (.cons rfl (.refl _) (.cons rfl (.refl _) (.cons rfl (.refl _) (.cons rfl (.refl _) (.cons rfl (.refl _) (.nil _)))))))))))))), (SubM.of (.keep rfl rfl (.refl _) (.keep rfl rfl (.refl _) (.keep rfl rfl (.refl _) (.nil _)))) (.nil _))⟩
          · clear h
            rintro _ ⟨f344, f345, f346, h, rfl⟩
            refine xregion ?_
            refine xvalP (qv_fieldAddrB FldC.h rfl) rfl rfl ?_
            refine xval (qv_loadB 2 ShpC.h rfl rfl rfl rfl) rfl rfl ?_
            obtain ⟨z357, h356, h⟩ := h
            refine xvalP (pv_wr h356 rfl rfl rfl) rfl rfl ?_
            refine xvalP (qv_fieldAddrB FldC.h rfl) rfl rfl ?_
            refine xstore 2 ShpC.h rfl rfl rfl rfl rfl rfl rfl ?_
            refine xnil ?_
            refine xin_normal ?_
            obtain ⟨m', hm, hI⟩ := hag2 _ h
            exact xagain ⟨z357, f344, f345, f346, hI, rfl⟩ hm ⟨(.cons rfl (.refl _) (.cons rfl (.refl _) (.cons rfl (.refl _) (.cons rfl (.refl _) (.cons rfl (.refl _) (.nil _)))))), (SubM.of (.keep rfl rfl (.refl _) (.keep rfl rfl (.refl _) (.keep rfl rfl (.refl _) (.nil _)))) (.nil _))⟩
        · replace h := h.2 hp330
          refine xcondF' (decide_eq_false hp330) rfl ?_
          refine xexit ?_
          refine xthen_exit ?_
          refine xthen_exit ?_
          refine xin_same rfl ?_
          exact xmeet ⟨f240, f241, f242, f243, h, rfl⟩ ⟨(.cons rfl (.refl _) (.cons rfl (.refl _) (.cons rfl (.refl _) (.nil _)))), (SubM.of (.keep rfl rfl (.refl _) (.keep rfl rfl (.refl _) (.keep rfl rfl (.refl _) (.nil _)))) (.nil _))⟩
      · replace h := h.2 hp327
        refine xsetB 21 (decide_eq_false hp327) rfl ?_
        refine xskip rfl rfl ?_
        refine xskip rfl rfl ?_
        refine xskip rfl rfl ?_
        refine xskip rfl rfl ?_
        refine xskip rfl rfl ?_
        refine xvalP (pv_pick rfl rfl) rfl rfl ?_
        refine xnil ?_
        refine xthen ?_
        refine xcondF rfl ?_
        refine xexit ?_
        refine xthen_exit ?_
        refine xthen_exit ?_
        refine xin_same rfl ?_
        exact xmeet ⟨f240, f241, f242, f243, h, rfl⟩ ⟨(.cons rfl (.refl _) (.cons rfl (.refl _) (.cons rfl (.refl _) (.nil _)))), (SubM.of (.keep rfl rfl (.refl _) (.keep rfl rfl (.refl _) (.keep rfl rfl (.refl _) (.nil _)))) (.nil _))⟩
    · replace h := h.2 hp325
      refine xsetB 16 (decide_eq_false hp325) rfl ?_
      refine xskip rfl rfl ?_
      refine xskip rfl rfl ?_
      refine xskip rfl rfl ?_
      refine xvalP (pv_pick rfl rfl) rfl rfl ?_
      refine xvalP (pv_move rfl) rfl rfl ?_
      refine xskip rfl rfl ?_
      refine xskip rfl rfl ?_
      refine xskip rfl rfl ?_
      refine xskip rfl rfl ?_
      refine xskip rfl rfl ?_
      refine xvalP (pv_pick rfl rfl) rfl rfl ?_
      refine xnil ?_
      refine xthen ?_
      refine xcondF rfl ?_
      refine xexit ?_
      refine xthen_exit ?_
      refine xthen_exit ?_
      refine xin_same rfl ?_
      exact xmeet ⟨f240, f241, f242, f243, h, rfl⟩ ⟨(.cons rfl (.refl _) (.cons rfl (.refl _) (.cons rfl (.refl _) (.nil _)))), (SubM.of (.keep rfl rfl (.refl _) (.keep rfl rfl (.refl _) (.keep rfl rfl (.refl _) (.nil _)))) (.nil _))⟩
  · clear h
    rintro _ ⟨f179, f180, f181, f182, h, rfl⟩
    refine xseq ?_
    refine xregion ?_
    refine xvalP (qv_fieldAddrB FldC.h rfl) rfl rfl ?_
    refine xval (qv_loadB 2 ShpC.h rfl rfl rfl rfl) rfl rfl ?_
    obtain ⟨y359, h358, h⟩ := h
    refine xcallM (palinoderef02_Split_con f182 _ h358) Try.func11 (by kernel_rfl) rfl (.cons rfl (.refl _) .nil) rfl rfl fun i360 => ?_
    refine xvalP (pv_assign rfl) rfl rfl ?_
    refine xnil ?_
    refine xthen ?_
    refine xseq ?_
    refine xseq ?_
    refine xregion ?_
    refine xvalP (pv_move rfl) rfl rfl ?_
    refine xvalP (pv_lenM UndC.h rfl) rfl rfl ?_
    refine xvalP (pv_bin2 rfl rfl rfl) rfl rfl ?_
    refine xnil ?_
    refine xthen ?_
    by_cases hp368 : (y359.length : Int) = 0
    · replace h := h.1 hp368
      refine xcondT' (decide_eq_true hp368) rfl ?_
      refine xseq ?_
      refine xregionD (m := 5) (by kernel_rfl) rfl ?_
      refine xpcut 2 #[true, true, true, false, false] (fun σ => σ = ⟨[(6, .v (.pointer (some ⟨b6, 0, none⟩))), (7, .v (.pointer (some ⟨b7, 0, none⟩))), (62, .agg [.v (.int .i64 f179), .v (.int .i64 f180), .v (.int .i64 x1.2.2.1), .v (.int .i64 f181), .sl 1 none (List.map eb f182)])], [⟨b7, 42, [.v (.int .i64 0), .v (.int .i64 0), .v (.int .i64 0), .v (.int .i64 0), .v (.slice none 0 0)]⟩, ⟨b6, 36, [.v (.slice none 0 0), .v (.bool false)]⟩], []⟩) ?_ (fun key370 => ?_)
      · rintro _ rfl
        refine xpstep (i := 3) (by kernel_rfl) rfl ?_
        refine wstore 0 ShpC.h rfl rfl rfl rfl rfl rfl rfl ?_
        refine xpval 4 rfl (pv_assign rfl) rfl rfl (by kernel_rfl) (by kernel_rfl) (by kernel_rfl) (fun _ _ _ _ h => h) ?_
        refine xpdone (by kernel_rfl) ?_
        refine xthen ?_
        refine xretc ?_
        refine xthen_ret ?_
        replace h := h.symm
        subst h
        exact xretL (rs := [.cell 6 36, .cell 7 42, .tmp 8]) (ss := [.agg [.sl 1 none (List.map eb (([] : List UInt8))), .v (.bool false)], .agg [.v (.int .i64 f179), .v (.int .i64 f180), .v (.int .i64 x1.2.2.1), .v (.int .i64 f181), .sl 1 none (List.map eb f182)], .v (.bool false)]) hg rfl (by refine RetL.cell 1 ShpC.h rfl rfl rfl (Nat.le_of_ble_eq_true rfl) (.agg (.cons (.nil_pl _) (.cons (.refl _) .nil))) ?_; refine RetL.cell 0 ShpC.h rfl rfl rfl (Nat.le_of_ble_eq_true rfl) (.refl _) ?_; refine RetL.tmp rfl (.refl _) ?_; exact RetL.nil) (SubM.of (.nil _) (.nil _)) ⟨rfl, rfl, rfl⟩
      refine xpval 0 rfl (pv_buildC StrC.h rfl rfl) rfl rfl (by kernel_rfl) (by kernel_rfl) (by kernel_rfl) (fun _ _ _ _ h => h) ?_
      refine xpstepN (is := [1, 2]) (by kernel_rfl) (by simp) ?_
      intro i hi; simp only [List.mem_cons, List.not_mem_nil, or_false] at hi; rcases hi with rfl | rfl
      · refine ⟨_, rfl, ?_⟩
        refine wval (qv_loadB 2 ShpC.h rfl rfl rfl rfl) rfl rfl ?_
        refine xpstep (i := 2) (by kernel_rfl) rfl ?_
        refine wstore 1 ShpC.h rfl rfl rfl rfl rfl rfl rfl ?_
        exact xpuse key370 rfl ⟨(.cons rfl (.refl _) (.cons rfl (.refl _) (.cons rfl (.refl _) (.nil _)))), (SubM.of (.keep rfl rfl (.refl _) (.keep rfl rfl (.refl _) (.nil _))) (.nil _))⟩ rfl (by kernel_rfl)
      · refine ⟨_, rfl, ?_⟩
        refine wstore 1 ShpC.h rfl rfl rfl rfl rfl rfl rfl ?_
        refine xpvalE 1 [] rfl (qv_loadB 2 ShpC.h rfl rfl rfl rfl) rfl rfl (by kernel_rfl) (by kernel_rfl) (by kernel_rfl) (fun _ _ _ _ h => h) ?_
        exact xpuse key370 rfl ⟨(.cons rfl (.refl _) (.cons rfl (.refl _) (.cons rfl (.refl _) (.nil _)))), (SubM.of (.keep rfl rfl (.refl _) (.keep rfl rfl (.refl _) (.nil _))) (.nil _))⟩ rfl (by kernel_rfl)
    · replace h := h.2 hp368
      refine xcondF' (decide_eq_false hp368) rfl ?_
      refine xskipc ?_
      refine xthen ?_
      refine xseq ?_
      refine xregion ?_
      refine xvalP (pv_move rfl) rfl rfl ?_
      obtain ⟨h372a, h⟩ := h
      obtain ⟨y371, h372b, h⟩ := h
      refine xvalP (pv_indexAddrM h372a h372b UndC.h ShpC.h rfl rfl) rfl rfl ?_
      refine xvalP (qv_fieldAddrE FldC.h rfl) rfl rfl ?_
      refine xval (qv_load ShpC.h rfl rfl rfl) rfl rfl ?_
      refine xvalP (pv_lenM UndC.h rfl) rfl rfl ?_
      refine xvalP (pv_assign rfl) rfl rfl ?_
      refine xnil ?_
      refine xthen ?_
      refine xseqM (fun σ => ∃ (x379 : Int), palinoderef18_Next_j4 f182 y359 f179 f180 f181 x379 r ∧ σ = ⟨[(3, .v (.pointer (some ⟨b3, 0, none⟩))), (6, .v (.pointer (some ⟨b6, 0, none⟩))), (7, .v (.pointer (some ⟨b7, 0, none⟩))), (10, .sl 2 (some i360) (List.map E_palinode_api_Line y359)), (11, .v (.int .i64 x379))], [⟨b7, 42, [.v (.int .i64 0), .v (.int .i64 0), .v (.int .i64 0), .v (.int .i64 0), .v (.slice none 0 0)]⟩, ⟨b6, 36, [.v (.slice none 0 0), .v (.bool false)]⟩, ⟨b3, 42, [.v (.int .i64 f179), .v (.int .i64 f180), .v (.int .i64 x1.2.2.1), .v (.int .i64 f181), .sl 1 none (List.map eb f182)]⟩], [⟨i360, 36, 2, y359.length⟩]⟩) ?_ ?_
      · refine xseq ?_
        refine xregion ?_
        refine xvalP (pv_move rfl) rfl rfl ?_
        obtain ⟨h381a, h⟩ := h
        obtain ⟨y380, h381b, h⟩ := h
        refine xvalP (pv_indexAddrM h381a h381b UndC.h ShpC.h rfl rfl) rfl rfl ?_
        refine xvalP (qv_fieldAddrE FldC.h rfl) rfl rfl ?_
        refine xval (qv_load ShpC.h rfl rfl rfl) rfl rfl ?_
        refine xnil ?_
        refine xthen ?_
        by_cases hp382 : y380.2 = true
        · replace h := h.1 hp382
          refine xcondT' hp382 rfl ?_
          refine xregion ?_
          refine xvalP (pv_move rfl) rfl rfl ?_
          obtain ⟨z384, h383, h⟩ := h
          refine xvalP (pv_wr h383 rfl rfl rfl) rfl rfl ?_
          refine xvalP (pv_assign rfl) rfl rfl ?_
          refine xnil ?_
          exact xmeet ⟨z384, h, rfl⟩ ⟨(.cons rfl (.refl _) (.cons rfl (.refl _) (.cons rfl (.refl _) (.cons rfl (.refl _) (.cons rfl (.refl _) (.nil _)))))), (SubM.of (.keep rfl rfl (.refl _) (.keep rfl rfl (.refl _) (.keep rfl rfl (.refl _) (.nil _)))) (.keep rfl (.nil _)))⟩
        · replace h := h.2 hp382
          refine xcondF' (b_f hp382) rfl ?_
          refine xskipc ?_
          exact xmeet ⟨(y371.1.length : Int), h, rfl⟩ ⟨(.cons rfl (.refl _) (.cons rfl (.refl _) (.cons rfl (.refl _) (.cons rfl (.refl _) (.cons rfl (.refl _) (.nil _)))))), (SubM.of (.keep rfl rfl (.refl _) (.keep rfl rfl (.refl _) (.keep rfl rfl (.refl _) (.nil _)))) (.keep rfl (.nil _)))⟩
      · clear h
        rintro _ ⟨x379, h, rfl⟩
        refine xseq ?_
        refine xregion ?_
        refine xvalP (qv_fieldAddrB FldC.h rfl) rfl rfl ?_
        refine xval (qv_loadB 2 ShpC.h rfl rfl rfl rfl) rfl rfl ?_
        refine xvalP (pv_move rfl) rfl rfl ?_
        obtain ⟨h385, h⟩ := h
        refine xvalP (pv_sliceLo h385 UndC.h ShpC.h rfl rfl) rfl rfl ?_
        obtain ⟨y387, h386, h⟩ := h
        refine xcallM (palinoderef01_Copy_con (f182.drop (x379 : Int).toNat) _ h386) Try.func28 (by kernel_rfl) rfl (.cons rfl (.refl _) .nil) rfl rfl fun i388 => ?_
        refine xvalP (qv_fieldAddrB FldC.h rfl) rfl rfl ?_
        refine xstore 2 ShpC.h rfl rfl rfl rfl rfl rfl rfl ?_
        refine xnil ?_
        refine xthen ?_
        refine xseq ?_
        refine xregion ?_
        refine xvalP (qv_fieldAddrB FldC.h rfl) rfl rfl ?_
        refine xval (qv_loadB 2 ShpC.h rfl rfl rfl rfl) rfl rfl ?_
        refine xvalP (qv_fieldAddrB FldC.h rfl) rfl rfl ?_
        refine xstore 2 ShpC.h rfl rfl rfl rfl rfl rfl rfl ?_
        refine xnil ?_
        refine xthen ?_
        refine xseq ?_
        refine xregionD (m := 7) (by kernel_rfl) rfl ?_
        obtain ⟨h393a, h⟩ := h
        obtain ⟨y392, h393b, h⟩ := h
        refine xpcut 2 #[true, true, true, true, true, false, false] (fun σ => σ = ⟨[(6, .v (.pointer (some ⟨b6, 0, none⟩))), (7, .v (.pointer (some ⟨b7, 0, none⟩))), (86, .agg [.v (.int .i64 f179), .v (.int .i64 f180), .v (.int .i64 f180), .v (.int .i64 f181), .sl 1 (some i388) (List.map eb y387)])], [⟨b7, 42, [.v (.int .i64 0), .v (.int .i64 0), .v (.int .i64 0), .v (.int .i64 0), .v (.slice none 0 0)]⟩, ⟨b6, 36, [.sl 1 none (List.map eb y392.1), .v (.bool y392.2)]⟩], [⟨i388, 5, 1, y387.length⟩]⟩) ?_ (fun key394 => ?_)
        · rintro _ rfl
          refine xpstep (i := 5) (by kernel_rfl) rfl ?_
          refine wstore 0 ShpC.h rfl rfl rfl rfl rfl rfl rfl ?_
          refine xpval 6 rfl (pv_assign rfl) rfl rfl (by kernel_rfl) (by kernel_rfl) (by kernel_rfl) (fun _ _ _ _ h => h) ?_
          refine xpdone (by kernel_rfl) ?_
          refine xthen ?_
          refine xretc ?_
          replace h := h.symm
          subst h
          exact xretL (rs := [.cell 6 36, .cell 7 42, .tmp 8]) (ss := [.agg [.sl 1 none (List.map eb y392.1), .v (.bool y392.2)], .agg [.v (.int .i64 f179), .v (.int .i64 f180), .v (.int .i64 f180), .v (.int .i64 f181), .sl 1 none (List.map eb y387)], .v (.bool true)]) hg rfl (by refine RetL.cell 1 ShpC.h rfl rfl rfl (Nat.le_of_ble_eq_true rfl) (.refl _) ?_; refine RetL.cell 0 ShpC.h rfl rfl rfl (Nat.le_of_ble_eq_true rfl) (.agg (.cons (.refl _) (.cons (.refl _) (.cons (.refl _) (.cons (.refl _) (.cons (.tok _ _ _) .nil)))))) ?_; refine RetL.tmp rfl (.refl _) ?_; exact RetL.nil) (SubM.of (.nil _) (.nil _)) ⟨rfl, rfl, rfl⟩
        refine xpval 0 rfl (pv_move rfl) rfl rfl (by kernel_rfl) (by kernel_rfl) (by kernel_rfl) (fun _ _ _ _ h => h) ?_
        refine xpval 1 rfl (pv_indexAddrM h393a h393b UndC.h ShpC.h rfl rfl) rfl rfl (by kernel_rfl) (by kernel_rfl) (by kernel_rfl) (fun _ _ _ _ h => h) ?_
        refine xpvalE 2 [3] rfl (qv_load ShpC.h rfl rfl rfl) rfl rfl (by kernel_rfl) (by kernel_rfl) (by kernel_rfl) (fun _ _ _ _ h => h) ?_
        refine xpstepN (is := [3, 4]) (by kernel_rfl) (by simp) ?_
        intro i hi; simp only [List.mem_cons, List.not_mem_nil, or_false] at hi; rcases hi with rfl | rfl
        · refine ⟨_, rfl, ?_⟩
          refine wval (qv_loadB 2 ShpC.h rfl rfl rfl rfl) rfl rfl ?_
          refine xpstep (i := 4) (by kernel_rfl) rfl ?_
          refine wstore 1 ShpC.h rfl rfl rfl rfl rfl rfl rfl ?_
          exact xpuse key394 rfl ⟨(.cons rfl (.refl _) (.cons rfl (.refl _) (.cons rfl (.refl _) (.nil _)))), (SubM.of (.keep rfl rfl (.refl _) (.keep rfl rfl (.refl _) (.nil _))) (.keep rfl (.nil _)))⟩ rfl (by kernel_rfl)
        · refine ⟨_, rfl, ?_⟩
          refine wstore 1 ShpC.h rfl rfl rfl rfl rfl rfl rfl ?_
          refine xpvalE 3 [] rfl (qv_loadB 2 ShpC.h rfl rfl rfl rfl) rfl rfl (by kernel_rfl) (by kernel_rfl) (by kernel_rfl) (fun _ _ _ _ h => h) ?_
          exact xpuse key394 rfl ⟨(.cons rfl (.refl _) (.cons rfl (.refl _) (.cons rfl (.refl _) (.nil _)))), (SubM.of (.keep rfl rfl (.refl _) (.keep rfl rfl (.refl _) (.nil _))) (.keep rfl (.nil _)))⟩ rfl (by kernel_rfl)
end Go.Proofs.Ytihbljabeckgmaa
