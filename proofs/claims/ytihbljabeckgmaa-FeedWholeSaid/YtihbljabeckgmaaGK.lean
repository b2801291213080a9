/- What functions' texts ask for, and the walks that show it (printed by a program). -/
import Derived.Test.YtihbljabeckgmaaGKp3
namespace Go.Proofs.Ytihbljabeckgmaa
/-- feed.Lines$1 -/
def feed_Lines_c1_v2_l1 (o7 : List (ByteArray × (List UInt8))) (o8 : Bool × Bool × Bool × Bool × (List ByteArray)) (o2 : List ((List UInt8) × Bool)) (o4 : List Int) (ag1 : (Int × Int × Int × Int × (List UInt8) × Bool × Int) → Prop) (f21 : Int) (f22 : Int) (f23 : Int) (f24 : Int) (f25 : List UInt8) (f26 : Bool) (f27 : Int) (r : Bool × Bool × Int) : Prop :=
  ∃ y39 : ((List UInt8) × Bool) × (Int × Int × Int × Int × (List UInt8)) × Bool, feed_Next_R (f21, f22, f23, f24, f25) o7 o8 y39 ∧ ((¬ (y39.2.2 = true) → r = (true, f26, f27)) ∧ (¬ (¬ (y39.2.2 = true)) → ∃ y46 : Bool × Bool × Int, palinodelaw18_FeedWhole_y1_R f26 o2 o4 f27 y39.2.1.2.2.1 y39.1 y46 ∧ ((y46.1 = true → ag1 (y39.2.1.1, y39.2.1.2.1, y39.2.1.2.2.1, y39.2.1.2.2.2.1, y39.2.1.2.2.2.2, y46.2.1, y46.2.2)) ∧ (¬ (y46.1 = true) → r = (false, y46.2.1, y46.2.2)))))
def feed_Lines_c1_v2_R (o1 : Bool) (o2 : List ((List UInt8) × Bool)) (o4 : List Int) (o6 : Int) (o7 : List (ByteArray × (List UInt8))) (o8 : Bool × Bool × Bool × Bool × (List ByteArray)) (r : Bool × Bool × Int) : Prop :=
  ∃ y10 : (Int × Int × Int × Int × (List UInt8)), feed_First_R y10 ∧ LoopR (fun ag1 s => feed_Lines_c1_v2_l1 o7 o8 o2 o4 ag1 s.1 s.2.1 s.2.2.1 s.2.2.2.1 s.2.2.2.2.1 s.2.2.2.2.2.1 s.2.2.2.2.2.2 r) (y10.1, y10.2.1, y10.2.2.1, y10.2.2.2.1, y10.2.2.2.2, o1, o6)
def feed_Lines_c1_v2_l1_ev (fuel : Nat) (o7 : List (ByteArray × (List UInt8))) (o8 : Bool × Bool × Bool × Bool × (List ByteArray)) (o2 : List ((List UInt8) × Bool)) (o4 : List Int) (ag1e : (Int × Int × Int × Int × (List UInt8) × Bool × Int) → Option (Bool × Bool × Int)) (f21 : Int) (f22 : Int) (f23 : Int) (f24 : Int) (f25 : List UInt8) (f26 : Bool) (f27 : Int) : Option (Bool × Bool × Int) :=
  ((feed_Next_ev fuel (f21, f22, f23, f24, f25) o7 o8).bind fun y39 => (if ¬ (y39.2.2 = true) then some (true, f26, f27) else ((palinodelaw18_FeedWhole_y1_ev fuel f26 o2 o4 f27 y39.2.1.2.2.1 y39.1).bind fun y46 => (if y46.1 = true then ag1e (y39.2.1.1, y39.2.1.2.1, y39.2.1.2.2.1, y39.2.1.2.2.2.1, y39.2.1.2.2.2.2, y46.2.1, y46.2.2) else some (false, y46.2.1, y46.2.2)))))
theorem feed_Lines_c1_v2_l1_ok {fuel : Nat} {o7 : List (ByteArray × (List UInt8))} {o8 : Bool × Bool × Bool × Bool × (List ByteArray)} {o2 : List ((List UInt8) × Bool)} {o4 : List Int} {ag1e : (Int × Int × Int × Int × (List UInt8) × Bool × Int) → Option (Bool × Bool × Int)} {ag1 : (Int × Int × Int × Int × (List UInt8) × Bool × Int) → Prop} {f21 : Int} {f22 : Int} {f23 : Int} {f24 : Int} {f25 : List UInt8} {f26 : Bool} {f27 : Int} {r : Bool × Bool × Int} (hagag1 : ∀ s, ag1e s = some r → ag1 s) (h : feed_Lines_c1_v2_l1_ev fuel o7 o8 o2 o4 ag1e f21 f22 f23 f24 f25 f26 f27 = some r) : feed_Lines_c1_v2_l1 o7 o8 o2 o4 ag1 f21 f22 f23 f24 f25 f26 f27 r := by
  unfold feed_Lines_c1_v2_l1_ev at h
  unfold feed_Lines_c1_v2_l1
  obtain ⟨q250, g250, h⟩ := bind_ok h
  refine ⟨q250, feed_Next_ok g250, ?_⟩
  refine ⟨fun g251 => ?_, fun g251 => ?_⟩
  · rw [if_pos g251] at h
    exact (Option.some.inj h).symm
  · rw [if_neg g251] at h
    obtain ⟨q252, g252, h⟩ := bind_ok h
    refine ⟨q252, palinodelaw18_FeedWhole_y1_ok g252, ?_⟩
    refine ⟨fun g253 => ?_, fun g253 => ?_⟩
    · rw [if_pos g253] at h
      exact hagag1 _ h
    · rw [if_neg g253] at h
      exact (Option.some.inj h).symm
def feed_Lines_c1_v2_ev (fuel : Nat) (o1 : Bool) (o2 : List ((List UInt8) × Bool)) (o4 : List Int) (o6 : Int) (o7 : List (ByteArray × (List UInt8))) (o8 : Bool × Bool × Bool × Bool × (List ByteArray)) : Option (Bool × Bool × Int) :=
  ((feed_First_ev fuel).bind fun y10 => (loopE (fun ag1e s => feed_Lines_c1_v2_l1_ev fuel o7 o8 o2 o4 ag1e s.1 s.2.1 s.2.2.1 s.2.2.2.1 s.2.2.2.2.1 s.2.2.2.2.2.1 s.2.2.2.2.2.2) fuel (y10.1, y10.2.1, y10.2.2.1, y10.2.2.2.1, y10.2.2.2.2, o1, o6)))
theorem feed_Lines_c1_v2_ok {fuel : Nat} {o1 : Bool} {o2 : List ((List UInt8) × Bool)} {o4 : List Int} {o6 : Int} {o7 : List (ByteArray × (List UInt8))} {o8 : Bool × Bool × Bool × Bool × (List ByteArray)} {r : Bool × Bool × Int} (h : feed_Lines_c1_v2_ev fuel o1 o2 o4 o6 o7 o8 = some r) : feed_Lines_c1_v2_R o1 o2 o4 o6 o7 o8 r := by
  unfold feed_Lines_c1_v2_ev at h
  unfold feed_Lines_c1_v2_R
  obtain ⟨q254, g254, h⟩ := bind_ok h
  refine ⟨q254, feed_First_ok g254, ?_⟩
  refine loopE_ok ?_ h
  intro ae ag s hag h
  exact feed_Lines_c1_v2_l1_ok hag h
set_option maxHeartbeats 4000000 in
theorem feed_Lines_c1_v2_con (o1 : Bool) (o2 : List ((List UInt8) × Bool)) (o4 : List Int) (o6 : Int) (o7 : List (ByteArray × (List UInt8))) (o8 : Bool × Bool × Bool × Bool × (List ByteArray)) (bx0 : Nat) (bx1 : Nat) (bx2 : Nat) (bx3 : Nat) (bx4 : Nat) (bx5 : Nat) (ia3 : Option (Nat × Nat)) (ia5 : Option (Nat × Nat)) {L : Lp} (hY : palinodelaw18_FeedWhole_y1_Y bx0 bx1 bx2 bx3 L) (r : Bool × Bool × Int) (h : feed_Lines_c1_v2_R o1 o2 o4 o6 o7 o8 r) : ConL Try.prog 21 [.v (.func (.yield L.l) #[] #[]), .v (.pointer (some ⟨bx4, 0, none⟩)), .v (.pointer (some ⟨bx5, 0, none⟩))] [⟨bx0, 4, [.v (.bool o1)]⟩, ⟨bx1, 28, [.sl 2 (some ia3) (List.map E_palinode_api_Line o2)]⟩, ⟨bx2, 29, [.sl 1 (some ia5) (List.map ei o4)]⟩, ⟨bx3, 3, [.v (.int .i64 o6)]⟩, ⟨bx4, 22, [.sl 2 none (List.map E_palinode_api_File o7)]⟩, ⟨bx5, 25, [.v (.bool o8.1), .v (.bool o8.2.1), .v (.bool o8.2.2.1), .v (.bool o8.2.2.2.1), .sl 1 none (List.map es o8.2.2.2.2)]⟩] [⟨ia3, 36, 2, o2.length⟩, ⟨ia5, 3, 1, o4.length⟩] L (fun j bx tk => j = jmp .ret r.1 ∧ bx = [⟨bx0, 4, [.v (.bool r.2.1)]⟩, ⟨bx1, 28, [.sl 2 (some ia3) (List.map E_palinode_api_Line o2)]⟩, ⟨bx2, 29, [.sl 1 (some ia5) (List.map ei o4)]⟩, ⟨bx3, 3, [.v (.int .i64 r.2.2)]⟩, ⟨bx4, 22, [.sl 2 none (List.map E_palinode_api_File o7)]⟩, ⟨bx5, 25, [.v (.bool o8.1), .v (.bool o8.2.1), .v (.bool o8.2.2.1), .v (.bool o8.2.2.2.1), .sl 1 none (List.map es o8.2.2.2.2)]⟩] ∧ tk = [⟨ia3, 36, 2, o2.length⟩, ⟨ia5, 3, 1, o4.length⟩]) := by
  refine xenterL Try.func21 rfl rfl fun g r0 hg hL => ?_
  simp only [Try.ntmps21, slots]
  refine xseq ?_
  refine xregion ?_
  obtain ⟨y10, h9, h⟩ := h
  refine xcall0 (feed_First_con _ h9) Try.func14 (by kernel_rfl) rfl .nil rfl rfl ?_
  refine xalloc InfC.h rfl rfl fun b4 => ?_
  refine xstore 0 ShpC.h rfl rfl rfl rfl rfl rfl rfl ?_
  refine xnil ?_
  refine xthen ?_
  refine xblock ?_
  obtain ⟨Inv, ⟨m0, hI⟩, hS⟩ := h
  refine xloop (fun σ m => ∃ (f21 : Int), ∃ (f22 : Int), ∃ (f23 : Int), ∃ (f24 : Int), ∃ (f25 : List UInt8), ∃ (f26 : Bool), ∃ (f27 : Int), Inv (f21, f22, f23, f24, f25, f26, f27) m ∧ σ = ⟨[(0, .v (.func (.yield L.l) #[] #[])), (1, .v (.pointer (some ⟨bx4, 0, none⟩))), (2, .v (.pointer (some ⟨bx5, 0, none⟩))), (4, .v (.pointer (some ⟨b4, 0, none⟩)))], [⟨b4, 42, [.v (.int .i64 f21), .v (.int .i64 f22), .v (.int .i64 f23), .v (.int .i64 f24), .sl 1 none (List.map eb f25)]⟩, ⟨bx0, 4, [.v (.bool f26)]⟩, ⟨bx1, 28, [.sl 2 (some ia3) (List.map E_palinode_api_Line o2)]⟩, ⟨bx2, 29, [.sl 1 (some ia5) (List.map ei o4)]⟩, ⟨bx3, 3, [.v (.int .i64 f27)]⟩, ⟨bx4, 22, [.sl 2 none (List.map E_palinode_api_File o7)]⟩, ⟨bx5, 25, [.v (.bool o8.1), .v (.bool o8.2.1), .v (.bool o8.2.2.1), .v (.bool o8.2.2.2.1), .sl 1 none (List.map es o8.2.2.2.2)]⟩], [⟨ia3, 36, 2, o2.length⟩, ⟨ia5, 3, 1, o4.length⟩]⟩) ⟨y10.1, y10.2.1, y10.2.2.1, y10.2.2.2.1, y10.2.2.2.2, o1, o6, hI, rfl⟩ ⟨(.cons rfl (.refl _) (.cons rfl (.refl _) (.cons rfl (.refl _) (.cons rfl (.refl _) (.nil _))))), (SubM.of (.keep rfl rfl (.refl _) (.keep rfl rfl (.refl _) (.keep rfl rfl (.refl _) (.keep rfl rfl (.refl _) (.keep rfl rfl (.refl _) (.keep rfl rfl (.refl _) (.keep rfl rfl (.refl _) (.nil _)))))))) (.keep rfl (.keep rfl (.nil _))))⟩ ?_
  rintro _ m ⟨f21, f22, f23, f24, f25, f26, f27, hI, rfl⟩
  obtain ⟨ag1, hag1, h⟩ : ∃ ag, (∀ s', ag s' → ∃ m', m' < m ∧ Inv s' m') ∧ feed_Lines_c1_v2_l1 o7 o8 o2 o4 ag f21 f22 f23 f24 f25 f26 f27 r := ⟨_, fun _ h => h, hS (f21, f22, f23, f24, f25, f26, f27) _ hI⟩
  clear hS hI
  refine xblock ?_
  refine xseq ?_
  refine xregion ?_
  refine xalloc InfC.h rfl rfl fun b5 => ?_
  refine xnil ?_
  refine xthen ?_
  refine xseq ?_
  refine xregion ?_
  refine xvalP (pv_assign rfl) rfl rfl ?_
  refine xnil ?_
  refine xthen ?_
  refine xseq ?_
  refine xregion ?_
  refine xval (qv_loadB 1 ShpC.h rfl rfl rfl rfl) rfl rfl ?_
  refine xval (qv_loadB 6 ShpC.h rfl rfl rfl rfl) rfl rfl ?_
  refine xval (qv_loadB 7 ShpC.h rfl rfl rfl rfl) rfl rfl ?_
  obtain ⟨y39, h38, h⟩ := h
  refine xcallF (Fb := [⟨b5, 36, [.v (.slice none 0 0), .v (.bool false)]⟩, ⟨b4, 42, [.v (.int .i64 f21), .v (.int .i64 f22), .v (.int .i64 f23), .v (.int .i64 f24), .sl 1 none (List.map eb f25)]⟩, ⟨bx0, 4, [.v (.bool f26)]⟩, ⟨bx1, 28, [.sl 2 (some ia3) (List.map E_palinode_api_Line o2)]⟩, ⟨bx2, 29, [.sl 1 (some ia5) (List.map ei o4)]⟩, ⟨bx3, 3, [.v (.int .i64 f27)]⟩, ⟨bx4, 22, [.sl 2 none (List.map E_palinode_api_File o7)]⟩, ⟨bx5, 25, [.v (.bool o8.1), .v (.bool o8.2.1), .v (.bool o8.2.2.1), .v (.bool o8.2.2.2.1), .sl 1 none (List.map es o8.2.2.2.2)]⟩]) (Ft := [⟨ia3, 36, 2, o2.length⟩, ⟨ia5, 3, 1, o4.length⟩]) (feed_Next_con (f21, f22, f23, f24, f25) o7 o8 _ h38) Try.func15 (by kernel_rfl) rfl (.cons rfl (.refl _) (.cons rfl (.refl _) (.cons rfl (.refl _) .nil))) (by exact (SubM.of (by repeat (first | with_reducible exact SubB.refl _ | exact SubB.nil _ | refine SubB.keep rfl rfl (by first | with_reducible exact WkL.refl _ | ((repeat (first | exact WkL.nil | refine WkL.cons (by first | with_reducible exact Wk.refl _ | exact Wk.nil_own _ | exact Wk.nil_pl _ | with_reducible exact Wk.tok _ _ _ | exact Wk.tok _ _ _ | exact Wk.eq (by first | rfl | (simp []; done) | (simp []; omega))) ?_)); done) | exact WkL.refl _) ?_ | refine SubB.drop ?_)) (by repeat (first | exact SubT.nil _ | refine SubT.add ?_ | (refine SubT.keep ?_ ?_; focus (first | with_reducible rfl | (simp []; done))) | refine SubT.drop ?_)))) rfl rfl ?_
  rintro _ _ _ ⟨rfl, rfl, rfl⟩
  simp only [List.nil_append, List.cons_append]
  refine xvalP (pv_move rfl) rfl rfl ?_
  refine xvalP (pv_extract rfl rfl) rfl rfl ?_
  refine xvalP (pv_extract rfl rfl) rfl rfl ?_
  refine xvalP (pv_extract rfl rfl) rfl rfl ?_
  refine xstore 0 ShpC.h rfl rfl rfl rfl rfl rfl rfl ?_
  refine xstore 1 ShpC.h rfl rfl rfl rfl rfl rfl rfl ?_
  refine xvalP (pv_assign rfl) rfl rfl ?_
  refine xnil ?_
  refine xthen ?_
  refine xseq ?_
  refine xregion ?_
  refine xvalP (pv_move rfl) rfl rfl ?_
  refine xvalP (pv_not rfl) rfl rfl ?_
  refine xvalP (pv_move rfl) rfl rfl ?_
  by_cases hp44 : ¬ (y39.2.2 = true)
  · replace h := h.1 hp44
    refine xsetB 18 (not_t (b_f hp44)) rfl ?_
    refine xskip rfl rfl ?_
    refine xskip rfl rfl ?_
    refine xskip rfl rfl ?_
    refine xskip rfl rfl ?_
    refine xskip rfl rfl ?_
    refine xskip rfl rfl ?_
    refine xvalP (pv_pick rfl rfl) rfl rfl ?_
    refine xnil ?_
    refine xthen ?_
    refine xcondT rfl ?_
    refine xretc ?_
    refine xin_ret ?_
    refine xthen_ret ?_
    refine xin_ret ?_
    replace h := h.symm
    subst h
    exact xretLn (.inl rfl) (xret0 hg rfl (SubM.of (.drop (.drop (.keep rfl rfl (.refl _) (.keep rfl rfl (.refl _) (.keep rfl rfl (.refl _) (.keep rfl rfl (.refl _) (.keep rfl rfl (.refl _) (.keep rfl rfl (.refl _) (.nil _))))))))) (.keep rfl (.keep rfl (.nil _)))) ⟨rfl, rfl, rfl⟩ (.inl rfl))
  · replace h := h.2 hp44
    refine xsetB 18 (not_f (Decidable.of_not_not hp44)) rfl ?_
    refine xvalP (pv_move rfl) rfl rfl ?_
    refine xvalP (qv_fieldAddrB FldC.h rfl) rfl rfl ?_
    refine xval (qv_loadB 1 ShpC.h rfl rfl rfl rfl) rfl rfl ?_
    refine xval (qv_loadB 0 ShpC.h rfl rfl rfl rfl) rfl rfl ?_
    obtain ⟨y46, h45, h⟩ := h
    refine xyield (Fb := [⟨b5, 36, [.sl 1 none (List.map eb y39.1.1), .v (.bool y39.1.2)]⟩, ⟨b4, 42, [.v (.int .i64 y39.2.1.1), .v (.int .i64 y39.2.1.2.1), .v (.int .i64 y39.2.1.2.2.1), .v (.int .i64 y39.2.1.2.2.2.1), .sl 1 none (List.map eb y39.2.1.2.2.2.2)]⟩, ⟨bx4, 22, [.sl 2 none (List.map E_palinode_api_File o7)]⟩, ⟨bx5, 25, [.v (.bool o8.1), .v (.bool o8.2.1), .v (.bool o8.2.2.1), .v (.bool o8.2.2.2.1), .sl 1 none (List.map es o8.2.2.2.2)]⟩]) (Ft := []) (hY f26 o2 o4 f27 y39.2.1.2.2.1 y39.1 ia3 ia5 _ h45) hL rfl (.cons rfl (.refl _) (.cons rfl (.refl _) .nil)) (by refine SubM.trans (SubM.mvB 5 rfl) ?_; refine SubM.trans (SubM.mvB 5 rfl) ?_; refine SubM.trans (SubM.mvB 5 rfl) ?_; refine SubM.trans (SubM.mvB 5 rfl) ?_; (simp only [List.eraseIdx]); exact (SubM.of (by repeat (first | with_reducible exact SubB.refl _ | exact SubB.nil _ | refine SubB.keep rfl rfl (by first | with_reducible exact WkL.refl _ | ((repeat (first | exact WkL.nil | refine WkL.cons (by first | with_reducible exact Wk.refl _ | exact Wk.nil_own _ | exact Wk.nil_pl _ | with_reducible exact Wk.tok _ _ _ | exact Wk.tok _ _ _ | exact Wk.eq (by first | rfl | (simp []; done) | (simp []; omega))) ?_)); done) | exact WkL.refl _) ?_ | refine SubB.drop ?_)) (by repeat (first | exact SubT.nil _ | refine SubT.add ?_ | (refine SubT.keep ?_ ?_; focus (first | with_reducible rfl | (simp []; done))) | refine SubT.drop ?_)))) rfl rfl ?_
    rintro j _ _ ⟨hj, rfl, rfl⟩
    simp only [List.nil_append, List.cons_append]
    by_cases hp47 : y46.1 = true
    · replace h := h.1 hp47
      refine ⟨fun _ => ?_, fun c hc => (by rw [hj, show y46.1 = true from hp47] at hc; cases hc)⟩
      refine xvalP (pv_not rfl) rfl rfl ?_
      refine xvalP (pv_pick rfl rfl) rfl rfl ?_
      refine xnil ?_
      refine xthen ?_
      refine xcondF rfl ?_
      refine xskipc ?_
      refine xin_normal ?_
      obtain ⟨m', hm, hI⟩ := hag1 _ h
      exact xagain ⟨y39.2.1.1, y39.2.1.2.1, y39.2.1.2.2.1, y39.2.1.2.2.2.1, y39.2.1.2.2.2.2, y46.2.1, y46.2.2, hI, rfl⟩ hm ⟨(.cons rfl (.refl _) (.cons rfl (.refl _) (.cons rfl (.refl _) (.cons rfl (.refl _) (.nil _))))), by refine SubM.trans (SubM.mvB 7 rfl) ?_; refine SubM.trans (SubM.mvB 7 rfl) ?_; refine SubM.trans (SubM.mvB 5 rfl) ?_; refine SubM.trans (SubM.mvB 5 rfl) ?_; refine SubM.trans (SubM.mvB 5 rfl) ?_; refine SubM.trans (SubM.mvB 5 rfl) ?_; refine SubM.trans (SubM.mvB 7 rfl) ?_; (simp only [List.eraseIdx]); exact (SubM.of (by repeat (first | with_reducible exact SubB.refl _ | exact SubB.nil _ | refine SubB.keep rfl rfl (by first | with_reducible exact WkL.refl _ | ((repeat (first | exact WkL.nil | refine WkL.cons (by first | with_reducible exact Wk.refl _ | exact Wk.nil_own _ | exact Wk.nil_pl _ | with_reducible exact Wk.tok _ _ _ | exact Wk.tok _ _ _ | exact Wk.eq (by first | rfl | (simp []; done) | (simp []; omega))) ?_)); done) | exact WkL.refl _) ?_ | refine SubB.drop ?_)) (by repeat (first | exact SubT.nil _ | refine SubT.add ?_ | (refine SubT.keep ?_ ?_; focus (first | with_reducible rfl | (simp []; done))) | refine SubT.drop ?_)))⟩
    · replace h := h.2 hp47
      refine ⟨fun hc => (by rw [hj, show y46.1 = false from (b_f hp47)] at hc; cases hc), fun c hc => ?_⟩
      obtain rfl : c = .ret := (by rw [hj, show y46.1 = false from (b_f hp47)] at hc; cases hc; rfl)
      refine xvalP (pv_not rfl) rfl rfl ?_
      refine xvalP (pv_pick rfl rfl) rfl rfl ?_
      refine xnil ?_
      refine xthenR rfl ?_
      refine xcondT rfl ?_
      refine xretc ?_
      refine xin_ret ?_
      refine xthen_ret ?_
      refine xin_ret ?_
      replace h := h.symm
      subst h
      exact xretLs hg hL (.inl rfl) (xret0 (hg.turn _) rfl (SubM.of (.keep rfl rfl (.refl _) (.keep rfl rfl (.refl _) (.keep rfl rfl (.refl _) (.keep rfl rfl (.refl _) (.drop (.drop (.keep rfl rfl (.refl _) (.keep rfl rfl (.refl _) (.nil _))))))))) (.keep rfl (.keep rfl (.nil _)))) ⟨rfl, rfl, rfl⟩ (.inl rfl))
end Go.Proofs.Ytihbljabeckgmaa
