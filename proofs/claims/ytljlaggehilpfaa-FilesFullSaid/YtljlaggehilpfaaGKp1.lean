/- What functions' texts ask for, and the walks that show it (printed by a program). -/
import Derived.Test.YtljlaggehilpfaaEv
namespace Go.Proofs.Ytljlaggehilpfaa
abbrev E_palinode_api_File (x : ByteArray × (List UInt8)) : List Sd := [.v (.string x.1), .sl 1 none (List.map eb x.2)]
instance : EncLen E_palinode_api_File 2 := ⟨fun _ => (by first | rfl | exact seg_lenE (by rfl) | exact len_app rfl (seg_lenE (by rfl)) (by rfl) | exact len_app (seg_lenE (by rfl)) rfl (by rfl) | exact len_app rfl (len_app (seg_lenE (by rfl)) rfl (by rfl)) (by rfl) | (simp only [seg_len, cellsS, List.length_append, List.length_cons, List.length_nil]; done) | (simp only [seg_len, cellsS, List.length_append, List.length_cons, List.length_nil]; rfl))⟩
abbrev E_uint8 (x : List UInt8) : List Sd := [.sl 1 none (List.map eb x)]
instance : EncLen E_uint8 1 := ⟨fun _ => (by first | rfl | exact seg_lenE (by rfl) | exact len_app rfl (seg_lenE (by rfl)) (by rfl) | exact len_app (seg_lenE (by rfl)) rfl (by rfl) | exact len_app rfl (len_app (seg_lenE (by rfl)) rfl (by rfl)) (by rfl) | (simp only [seg_len, cellsS, List.length_append, List.length_cons, List.length_nil]; done) | (simp only [seg_len, cellsS, List.length_append, List.length_cons, List.length_nil]; rfl))⟩
abbrev E_palinode_palinodelaw03_Act (x : Int × Int × ByteArray × (List (List UInt8))) : List Sd := [.v (.int .i64 x.1), .v (.int .i64 x.2.1), .v (.string x.2.2.1), .sl 1 none (List.map E_uint8 x.2.2.2)]
instance : EncLen E_palinode_palinodelaw03_Act 4 := ⟨fun _ => (by first | rfl | exact seg_lenE (by rfl) | exact len_app rfl (seg_lenE (by rfl)) (by rfl) | exact len_app (seg_lenE (by rfl)) rfl (by rfl) | exact len_app rfl (len_app (seg_lenE (by rfl)) rfl (by rfl)) (by rfl) | (simp only [seg_len, cellsS, List.length_append, List.length_cons, List.length_nil]; done) | (simp only [seg_len, cellsS, List.length_append, List.length_cons, List.length_nil]; rfl))⟩
/-- files.IsName -/
def files_IsName_l1 (name1 : ByteArray) (ag1 : (Int) → Prop) (x141 : Int) (r : Bool) : Prop :=
  ((x141 < (name1.size : Int) → 0 ≤ (x141 : Int) ∧ ∃ c202 : UInt8, name1[(x141 : Int).toNat]? = some c202 ∧ (((c202.toNat : Int) < 33 → r = false) ∧ (¬ ((c202.toNat : Int) < 33) → 0 ≤ (x141 : Int) ∧ ∃ c206 : UInt8, name1[(x141 : Int).toNat]? = some c206 ∧ ((126 < (c206.toNat : Int) → r = false) ∧ (¬ (126 < (c206.toNat : Int)) → InR (x141 + 1) ∧ ag1 (x141 + 1)))))) ∧ (¬ (x141 < (name1.size : Int)) → ((1 ≤ (name1.size : Int) → r = (decide ((name1.size : Int) ≤ 64))) ∧ (¬ (1 ≤ (name1.size : Int)) → r = false))))
def files_IsName_R (name1 : ByteArray) (r : Bool) : Prop :=
  LoopR (fun ag1 s => files_IsName_l1 name1 ag1 s r) 0
def files_IsName_l1_ev (fuel : Nat) (name1 : ByteArray) (ag1e : (Int) → Option (Bool)) (x141 : Int) : Option (Bool) :=
  (if x141 < (name1.size : Int) then (if 0 ≤ (x141 : Int) then ((name1[(x141 : Int).toNat]?).bind fun c202 => (if (c202.toNat : Int) < 33 then some false else (if 0 ≤ (x141 : Int) then ((name1[(x141 : Int).toNat]?).bind fun c206 => (if 126 < (c206.toNat : Int) then some false else (if InR (x141 + 1) then ag1e (x141 + 1) else none))) else none))) else none) else (if 1 ≤ (name1.size : Int) then some (decide ((name1.size : Int) ≤ 64)) else some false))
theorem files_IsName_l1_ok {fuel : Nat} {name1 : ByteArray} {ag1e : (Int) → Option (Bool)} {ag1 : (Int) → Prop} {x141 : Int} {r : Bool} (hagag1 : ∀ s, ag1e s = some r → ag1 s) (h : files_IsName_l1_ev fuel name1 ag1e x141 = some r) : files_IsName_l1 name1 ag1 x141 r := by
  unfold files_IsName_l1_ev at h
  unfold files_IsName_l1
  refine ⟨fun g1 => ?_, fun g1 => ?_⟩
  · rw [if_pos g1] at h
    obtain ⟨g2, h⟩ := if_ok h
    refine ⟨g2, ?_⟩
    obtain ⟨q3, g3, h⟩ := bind_ok h
    refine ⟨q3, g3, ?_⟩
    refine ⟨fun g4 => ?_, fun g4 => ?_⟩
    · rw [if_pos g4] at h
      exact (Option.some.inj h).symm
    · rw [if_neg g4] at h
      obtain ⟨g5, h⟩ := if_ok h
      refine ⟨g5, ?_⟩
      obtain ⟨q6, g6, h⟩ := bind_ok h
      refine ⟨q6, g6, ?_⟩
      refine ⟨fun g7 => ?_, fun g7 => ?_⟩
      · rw [if_pos g7] at h
        exact (Option.some.inj h).symm
      · rw [if_neg g7] at h
        obtain ⟨g8, h⟩ := if_ok h
        refine ⟨g8, ?_⟩
        exact hagag1 _ h
  · rw [if_neg g1] at h
    refine ⟨fun g9 => ?_, fun g9 => ?_⟩
    · rw [if_pos g9] at h
      exact (Option.some.inj h).symm
    · rw [if_neg g9] at h
      exact (Option.some.inj h).symm
def files_IsName_ev (fuel : Nat) (name1 : ByteArray) : Option (Bool) :=
  (loopE (fun ag1e s => files_IsName_l1_ev fuel name1 ag1e s) fuel 0)
theorem files_IsName_ok {fuel : Nat} {name1 : ByteArray} {r : Bool} (h : files_IsName_ev fuel name1 = some r) : files_IsName_R name1 r := by
  unfold files_IsName_ev at h
  unfold files_IsName_R
  refine loopE_ok ?_ h
  intro ae ag s hag h
  exact files_IsName_l1_ok hag h
set_option maxHeartbeats 4000000 in
theorem files_IsName_con (name1 : ByteArray) (r : Bool) (h : files_IsName_R name1 r) : Con Try.prog 10 [.v (.string name1)] [] [] (Ret (.v (.bool r))) := by
  refine xenter Try.func10 rfl rfl fun g hg => ?_
  simp only [Try.ntmps10, slots]
  refine xseq ?_
  refine xregion ?_
  refine xvalP (pv_assign rfl) rfl rfl ?_
  refine xnil ?_
  refine xthen ?_
  refine xseq ?_
  refine xseq ?_
  refine xregion ?_
  refine xvalP (pv_move rfl) rfl rfl ?_
  refine xvalP (pv_lenS UndC.h rfl) rfl rfl ?_
  refine xvalP (pv_move rfl) rfl rfl ?_
  refine xnil ?_
  refine xthen ?_
  refine xblock ?_
  obtain ⟨Inv, ⟨m0, hI⟩, hS⟩ := h
  refine xloop (fun σ m => ∃ (x141 : Int), Inv x141 m ∧ σ = ⟨[(0, .v (.string name1)), (5, .v (.int .i64 ((name1.size : Int)))), (6, .v (.int .i64 x141))], [], []⟩) ⟨0, hI, rfl⟩ ⟨(.cons rfl (.refl _) (.cons rfl (.refl _) (.cons rfl (.refl _) (.nil _)))), (SubM.of (.nil _) (.nil _))⟩ ?_
  rintro _ m ⟨x141, hI, rfl⟩
  obtain ⟨ag1, hag1, h⟩ : ∃ ag, (∀ s', ag s' → ∃ m', m' < m ∧ Inv s' m') ∧ files_IsName_l1 name1 ag x141 r := ⟨_, fun _ h => h, hS x141 _ hI⟩
  clear hS hI
  refine xseq ?_
  refine xregion ?_
  refine xvalP (pv_bin2 rfl rfl rfl) rfl rfl ?_
  refine xnil ?_
  refine xthen ?_
  refine xseq ?_
  by_cases hp178 : x141 < (name1.size : Int)
  · replace h := h.1 hp178
    refine xcondT' (decide_eq_true hp178) rfl ?_
    refine xskipc ?_
    refine xthen ?_
    refine xseq ?_
    refine xblock ?_
    refine xseq ?_
    refine xregion ?_
    refine xvalP (pv_move rfl) rfl rfl ?_
    refine xvalP (pv_assign rfl) rfl rfl ?_
    refine xnil ?_
    refine xthen ?_
    refine xseq ?_
    refine xregion ?_
    refine xvalP (pv_move rfl) rfl rfl ?_
    refine xvalP (pv_move rfl) rfl rfl ?_
    obtain ⟨h201, h⟩ := h
    obtain ⟨c202, h201b, h⟩ := h
    refine xvalP (pv_indexSM h201 h201b UndC.h rfl rfl) rfl rfl ?_
    refine xvalP (pv_bin2 rfl rfl rfl) rfl rfl ?_
    refine xvalP (pv_move rfl) rfl rfl ?_
    by_cases hp204 : (c202.toNat : Int) < 33
    · replace h := h.1 hp204
      refine xsetB 13 (decide_eq_true hp204) rfl ?_
      refine xskip rfl rfl ?_
      refine xskip rfl rfl ?_
      refine xskip rfl rfl ?_
      refine xskip rfl rfl ?_
      refine xvalP (pv_pick rfl rfl) rfl rfl ?_
      refine xnil ?_
      refine xthen ?_
      refine xcondT rfl ?_
      refine xseq ?_
      refine xregion ?_
      refine xvalP (pv_assign rfl) rfl rfl ?_
      refine xnil ?_
      refine xthen ?_
      refine xretc ?_
      refine xin_ret ?_
      refine xthen_ret ?_
      refine xthen_ret ?_
      refine xin_ret ?_
      refine xthen_ret ?_
      replace h := h.symm
      subst h
      exact xret1 hg rfl rfl (.refl _) (SubM.of (.nil _) (.nil _)) ⟨rfl, rfl, rfl⟩
    · replace h := h.2 hp204
      refine xsetB 13 (decide_eq_false hp204) rfl ?_
      refine xvalP (pv_move rfl) rfl rfl ?_
      refine xvalP (pv_move rfl) rfl rfl ?_
      obtain ⟨h205, h⟩ := h
      obtain ⟨c206, h205b, h⟩ := h
      refine xvalP (pv_indexSM h205 h205b UndC.h rfl rfl) rfl rfl ?_
      refine xvalP (pv_bin2 rfl rfl rfl) rfl rfl ?_
      refine xvalP (pv_pick rfl rfl) rfl rfl ?_
      refine xnil ?_
      refine xthen ?_
      by_cases hp208 : 126 < (c206.toNat : Int)
      · replace h := h.1 hp208
        refine xcondT' (decide_eq_true hp208) rfl ?_
        refine xseq ?_
        refine xregion ?_
        refine xvalP (pv_assign rfl) rfl rfl ?_
        refine xnil ?_
        refine xthen ?_
        refine xretc ?_
        refine xin_ret ?_
        refine xthen_ret ?_
        refine xthen_ret ?_
        refine xin_ret ?_
        refine xthen_ret ?_
        replace h := h.symm
        subst h
        exact xret1 hg rfl rfl (.refl _) (SubM.of (.nil _) (.nil _)) ⟨rfl, rfl, rfl⟩
      · replace h := h.2 hp208
        refine xcondF' (decide_eq_false hp208) rfl ?_
        refine xskipc ?_
        refine xin_normal ?_
        refine xthen ?_
        refine xregion ?_
        obtain ⟨h209, h⟩ := h
        refine xvalP (pv_addI h209 rfl rfl) rfl rfl ?_
        refine xvalP (pv_move rfl) rfl rfl ?_
        refine xnil ?_
        obtain ⟨m', hm, hI⟩ := hag1 _ h
        exact xagain ⟨(x141 + 1), hI, rfl⟩ hm ⟨(.cons rfl (.refl _) (.cons rfl (.refl _) (.cons rfl (.refl _) (.nil _)))), (SubM.of (.nil _) (.nil _))⟩
  · replace h := h.2 hp178
    refine xcondF' (decide_eq_false hp178) rfl ?_
    refine xexit ?_
    refine xthen_exit ?_
    refine xthen_exit ?_
    refine xin_same rfl ?_
    refine xthen ?_
    refine xseq ?_
    refine xregion ?_
    refine xvalP (pv_move rfl) rfl rfl ?_
    refine xvalP (pv_lenS UndC.h rfl) rfl rfl ?_
    refine xvalP (pv_bin2 rfl rfl rfl) rfl rfl ?_
    refine xvalP (pv_move rfl) rfl rfl ?_
    by_cases hp217 : 1 ≤ (name1.size : Int)
    · replace h := h.1 hp217
      refine xsetB 23 (decide_eq_true hp217) rfl ?_
      refine xvalP (pv_move rfl) rfl rfl ?_
      refine xvalP (pv_lenS UndC.h rfl) rfl rfl ?_
      refine xvalP (pv_bin2 rfl rfl rfl) rfl rfl ?_
      refine xvalP (pv_pick rfl rfl) rfl rfl ?_
      refine xvalP (pv_assign rfl) rfl rfl ?_
      refine xnil ?_
      refine xthen ?_
      refine xretc ?_
      replace h := h.symm
      subst h
      exact xret1 hg rfl rfl (.refl _) (SubM.of (.nil _) (.nil _)) ⟨rfl, rfl, rfl⟩
    · replace h := h.2 hp217
      refine xsetB 23 (decide_eq_false hp217) rfl ?_
      refine xskip rfl rfl ?_
      refine xskip rfl rfl ?_
      refine xskip rfl rfl ?_
      refine xvalP (pv_pick rfl rfl) rfl rfl ?_
      refine xvalP (pv_assign rfl) rfl rfl ?_
      refine xnil ?_
      refine xthen ?_
      refine xretc ?_
      replace h := h.symm
      subst h
      exact xret1 hg rfl rfl (.refl _) (SubM.of (.nil _) (.nil _)) ⟨rfl, rfl, rfl⟩
/-- (*files.Table).at$1 -/
def files_Table_at_c1_R (o1 : ByteArray) (f2 : ByteArray × (List UInt8)) (r : Bool) : Prop :=
  r = (f2.1.toList == o1.toList)
def files_Table_at_c1_ev (fuel : Nat) (o1 : ByteArray) (f2 : ByteArray × (List UInt8)) : Option (Bool) :=
  some (f2.1.toList == o1.toList)
theorem files_Table_at_c1_ok {fuel : Nat} {o1 : ByteArray} {f2 : ByteArray × (List UInt8)} {r : Bool} (h : files_Table_at_c1_ev fuel o1 f2 = some r) : files_Table_at_c1_R o1 f2 r := by
  unfold files_Table_at_c1_ev at h
  unfold files_Table_at_c1_R
  exact (Option.some.inj h).symm
set_option maxHeartbeats 4000000 in
theorem files_Table_at_c1_con (o1 : ByteArray) (f2 : ByteArray × (List UInt8)) (bx0 : Nat) (r : Bool) (h : files_Table_at_c1_R o1 f2 r) : Con Try.prog 34 [.agg [.v (.string f2.1), .sl 1 none (List.map eb f2.2)], .v (.pointer (some ⟨bx0, 0, none⟩))] [⟨bx0, 9, [.v (.string o1)]⟩] [] (fun rr bx tk => rr = .v (.bool r) ∧ bx = [⟨bx0, 9, [.v (.string o1)]⟩] ∧ tk = []) := by
  refine xenter Try.func34 rfl rfl fun g hg => ?_
  simp only [Try.ntmps34, slots]
  refine xseq ?_
  refine xregion ?_
  refine xbox rfl rfl rfl rfl fun b2 => ?_
  refine xvalP (pv_assign rfl) rfl rfl ?_
  refine xnil ?_
  refine xthen ?_
  refine xseq ?_
  refine xregion ?_
  refine xvalP (qv_fieldAddrB FldC.h rfl) rfl rfl ?_
  refine xval (qv_loadB 0 ShpC.h rfl rfl rfl rfl) rfl rfl ?_
  refine xval (qv_loadB 1 ShpC.h rfl rfl rfl rfl) rfl rfl ?_
  refine xvalP (pv_bin2 rfl rfl rfl) rfl rfl ?_
  refine xvalP (pv_assign rfl) rfl rfl ?_
  refine xnil ?_
  refine xthen ?_
  refine xretc ?_
  replace h := h.symm
  subst h
  exact xret1 hg rfl rfl (.refl _) (SubM.of (.drop (.keep rfl rfl (.refl _) (.nil _))) (.nil _)) ⟨rfl, rfl, rfl⟩
/-- slices.IndexFunc [ []api.File,api.File] -/
def slices_IndexFunc_l1 (l1 : List (ByteArray × (List UInt8))) (o3 : ByteArray) (ag1 : (Int) → Prop) (x63 : Int) (r : Int) : Prop :=
  ((x63 < ((l1.length : Nat) : Int) → 0 ≤ (x63 : Int) ∧ ∃ y86 : ByteArray × (List UInt8), l1[(x63 : Int).toNat]? = some y86 ∧ ∃ y89 : Bool, files_Table_at_c1_R o3 y86 y89 ∧ ((y89 = true → r = x63) ∧ (¬ (y89 = true) → InR (x63 + 1) ∧ ag1 (x63 + 1)))) ∧ (¬ (x63 < ((l1.length : Nat) : Int)) → r = (-1)))
def slices_IndexFunc_R (l1 : List (ByteArray × (List UInt8))) (o3 : ByteArray) (r : Int) : Prop :=
  LoopR (fun ag1 s => slices_IndexFunc_l1 l1 o3 ag1 s r) 0
def slices_IndexFunc_l1_ev (fuel : Nat) (l1 : List (ByteArray × (List UInt8))) (o3 : ByteArray) (ag1e : (Int) → Option (Int)) (x63 : Int) : Option (Int) :=
  (if x63 < ((l1.length : Nat) : Int) then (if 0 ≤ (x63 : Int) then ((l1[(x63 : Int).toNat]?).bind fun y86 => ((files_Table_at_c1_ev fuel o3 y86).bind fun y89 => (if y89 = true then some x63 else (if InR (x63 + 1) then ag1e (x63 + 1) else none)))) else none) else some (-1))
theorem slices_IndexFunc_l1_ok {fuel : Nat} {l1 : List (ByteArray × (List UInt8))} {o3 : ByteArray} {ag1e : (Int) → Option (Int)} {ag1 : (Int) → Prop} {x63 : Int} {r : Int} (hagag1 : ∀ s, ag1e s = some r → ag1 s) (h : slices_IndexFunc_l1_ev fuel l1 o3 ag1e x63 = some r) : slices_IndexFunc_l1 l1 o3 ag1 x63 r := by
  unfold slices_IndexFunc_l1_ev at h
  unfold slices_IndexFunc_l1
  refine ⟨fun g10 => ?_, fun g10 => ?_⟩
  · rw [if_pos g10] at h
    obtain ⟨g11, h⟩ := if_ok h
    refine ⟨g11, ?_⟩
    obtain ⟨q12, g12, h⟩ := bind_ok h
    refine ⟨q12, g12, ?_⟩
    obtain ⟨q13, g13, h⟩ := bind_ok h
    refine ⟨q13, files_Table_at_c1_ok g13, ?_⟩
    refine ⟨fun g14 => ?_, fun g14 => ?_⟩
    · rw [if_pos g14] at h
      exact (Option.some.inj h).symm
    · rw [if_neg g14] at h
      obtain ⟨g15, h⟩ := if_ok h
      refine ⟨g15, ?_⟩
      exact hagag1 _ h
  · rw [if_neg g10] at h
    exact (Option.some.inj h).symm
def slices_IndexFunc_ev (fuel : Nat) (l1 : List (ByteArray × (List UInt8))) (o3 : ByteArray) : Option (Int) :=
  (loopE (fun ag1e s => slices_IndexFunc_l1_ev fuel l1 o3 ag1e s) fuel 0)
theorem slices_IndexFunc_ok {fuel : Nat} {l1 : List (ByteArray × (List UInt8))} {o3 : ByteArray} {r : Int} (h : slices_IndexFunc_ev fuel l1 o3 = some r) : slices_IndexFunc_R l1 o3 r := by
  unfold slices_IndexFunc_ev at h
  unfold slices_IndexFunc_R
  refine loopE_ok ?_ h
  intro ae ag s hag h
  exact slices_IndexFunc_l1_ok hag h
set_option maxHeartbeats 4000000 in
theorem slices_IndexFunc_con (l1 : List (ByteArray × (List UInt8))) (o3 : ByteArray) (bx1 : Nat) (ia2 : Option (Nat × Nat)) (r : Int) (h : slices_IndexFunc_R l1 o3 r) : Con Try.prog 33 [.rb ia2 l1.length, .v (.func (.func 34) #[] #[.pointer (some ⟨bx1, 0, none⟩)])] [rbx ia2 30 2 (List.map E_palinode_api_File l1), ⟨bx1, 9, [.v (.string o3)]⟩] [] (fun rr bx tk => rr = .v (.int .i64 r) ∧ bx = [rbx ia2 30 2 (List.map E_palinode_api_File l1), ⟨bx1, 9, [.v (.string o3)]⟩] ∧ tk = []) := by
  refine xenter Try.func33 rfl rfl fun g hg => ?_
  simp only [Try.ntmps33, slots]
  refine xseq ?_
  refine xregion ?_
  refine xvalP (pv_assign rfl) rfl rfl ?_
  refine xnil ?_
  refine xthen ?_
  refine xseq ?_
  refine xseq ?_
  refine xregion ?_
  refine xvalP (pv_move rfl) rfl rfl ?_
  refine xvalP (pv_lenRb UndC.h rfl) rfl rfl ?_
  refine xvalP (pv_move rfl) rfl rfl ?_
  refine xnil ?_
  refine xthen ?_
  refine xblock ?_
  obtain ⟨Inv, ⟨m0, hI⟩, hS⟩ := h
  refine xloop (fun σ m => ∃ (x63 : Int), Inv x63 m ∧ σ = ⟨[(0, .rb ia2 l1.length), (1, .v (.func (.func 34) #[] #[.pointer (some ⟨bx1, 0, none⟩)])), (7, .v (.int .i64 (((l1.length : Nat) : Int)))), (8, .v (.int .i64 x63))], [rbx ia2 30 2 (List.map E_palinode_api_File l1), ⟨bx1, 9, [.v (.string o3)]⟩], []⟩) ⟨0, hI, rfl⟩ ⟨(.cons rfl (.eq (by first | rfl | simp)) (.cons rfl (.refl _) (.cons rfl (.refl _) (.cons rfl (.refl _) (.nil _))))), by exact (SubM.of (.keep rfl rfl (.refl _) (.keep rfl rfl (.refl _) (.nil _))) (.nil _))⟩ ?_
  rintro _ m ⟨x63, hI, rfl⟩
  obtain ⟨ag1, hag1, h⟩ : ∃ ag, (∀ s', ag s' → ∃ m', m' < m ∧ Inv s' m') ∧ slices_IndexFunc_l1 l1 o3 ag x63 r := ⟨_, fun _ h => h, hS x63 _ hI⟩
  clear hS hI
  refine xseq ?_
  refine xregion ?_
  refine xvalP (pv_bin2 rfl rfl rfl) rfl rfl ?_
  refine xnil ?_
  refine xthen ?_
  refine xseq ?_
  by_cases hp80 : x63 < ((l1.length : Nat) : Int)
  · replace h := h.1 hp80
    refine xcondT' (decide_eq_true hp80) rfl ?_
    refine xskipc ?_
    refine xthen ?_
    refine xseq ?_
    refine xblock ?_
    refine xseq ?_
    refine xregion ?_
    refine xvalP (pv_move rfl) rfl rfl ?_
    refine xvalP (pv_assign rfl) rfl rfl ?_
    refine xnil ?_
    refine xthen ?_
    refine xseq ?_
    refine xregion ?_
    refine xvalP (pv_move rfl) rfl rfl ?_
    refine xvalP (pv_move rfl) rfl rfl ?_
    refine xvalP (pv_move rfl) rfl rfl ?_
    obtain ⟨h87a, h⟩ := h
    obtain ⟨y86, h87b, h⟩ := h
    refine xvalP (pv_indexAddrRbM rfl h87a h87b UndC.h ShpC.h rfl rfl) rfl rfl ?_
    refine xval (qv_loadRb (f := E_palinode_api_File) (k := 2) (off := 0) (i := (x63 : Int).toNat) 0 h87b rfl (by decide) (by first | rfl | exact part_all (by first | rfl | exact seg_lenE (by rfl) | exact len_app rfl (seg_lenE (by rfl)) (by rfl) | exact len_app (seg_lenE (by rfl)) rfl (by rfl) | exact len_app rfl (len_app (seg_lenE (by rfl)) rfl (by rfl)) (by rfl) | (simp only [seg_len, cellsS, List.length_append, List.length_cons, List.length_nil]; done) | (simp only [seg_len, cellsS, List.length_append, List.length_cons, List.length_nil]; rfl))) ShpC.h rfl rfl) rfl rfl ?_
    obtain ⟨y89, h88, h⟩ := h
    refine xcallV (sa := [.agg [.v (.string y86.1), .sl 1 none (List.map eb y86.2)]]) (Fb := [rbx ia2 30 2 (List.map E_palinode_api_File l1)]) (Ft := []) (files_Table_at_c1_con o3 y86 bx1 _ h88) Try.func34 (by kernel_rfl) rfl rfl (.cons rfl (.refl _) .nil) rfl (by refine SubM.trans (SubM.mvB 1 rfl) ?_; (simp only [List.eraseIdx]); exact (SubM.of (by repeat (first | with_reducible exact SubB.refl _ | exact SubB.nil _ | refine SubB.keep rfl rfl (by first | with_reducible exact WkL.refl _ | ((repeat (first | exact WkL.nil | refine WkL.cons (by first | with_reducible exact Wk.refl _ | exact Wk.nil_own _ | exact Wk.nil_pl _ | with_reducible exact Wk.tok _ _ _ | exact Wk.tok _ _ _ | exact Wk.eq (by first | rfl | (simp []; done) | (simp []; omega))) ?_)); done) | exact WkL.refl _) ?_ | refine SubB.drop ?_)) (by repeat (first | exact SubT.nil _ | refine SubT.add ?_ | (refine SubT.keep ?_ ?_; focus (first | with_reducible rfl | (simp []; done))) | refine SubT.drop ?_)))) rfl rfl ?_
    rintro _ _ _ ⟨rfl, rfl, rfl⟩
    simp only [List.nil_append, List.cons_append]
    refine xnil ?_
    refine xthen ?_
    by_cases hp90 : y89 = true
    · replace h := h.1 hp90
      refine xcondT' hp90 rfl ?_
      refine xseq ?_
      refine xregion ?_
      refine xvalP (pv_move rfl) rfl rfl ?_
      refine xvalP (pv_assign rfl) rfl rfl ?_
      refine xnil ?_
      refine xthen ?_
      refine xretc ?_
      refine xin_ret ?_
      refine xthen_ret ?_
      refine xthen_ret ?_
      refine xin_ret ?_
      refine xthen_ret ?_
      replace h := h.symm
      subst h
      exact xret1 (bx' := [rbx ia2 30 2 (List.map E_palinode_api_File l1), ⟨bx1, 9, [.v (.string o3)]⟩]) (tk' := []) hg rfl rfl (.refl _) (by refine SubM.trans (SubM.mvB 0 rfl) ?_; refine SubM.trans (SubM.mvB 1 rfl) ?_; (simp only [List.eraseIdx]); exact (SubM.of (by repeat (first | with_reducible exact SubB.refl _ | exact SubB.nil _ | refine SubB.keep rfl rfl (by first | with_reducible exact WkL.refl _ | ((repeat (first | exact WkL.nil | refine WkL.cons (by first | with_reducible exact Wk.refl _ | exact Wk.nil_own _ | exact Wk.nil_pl _ | with_reducible exact Wk.tok _ _ _ | exact Wk.tok _ _ _ | exact Wk.eq (by first | rfl | (simp []; done) | (simp []; omega))) ?_)); done) | exact WkL.refl _) ?_ | refine SubB.drop ?_)) (by repeat (first | exact SubT.nil _ | refine SubT.add ?_ | (refine SubT.keep ?_ ?_; focus (first | with_reducible rfl | (simp []; done))) | refine SubT.drop ?_)))) ⟨rfl, rfl, rfl⟩
    · replace h := h.2 hp90
      refine xcondF' (b_f hp90) rfl ?_
      refine xskipc ?_
      refine xin_normal ?_
      refine xthen ?_
      refine xregion ?_
      obtain ⟨h91, h⟩ := h
      refine xvalP (pv_addI h91 rfl rfl) rfl rfl ?_
      refine xvalP (pv_move rfl) rfl rfl ?_
      refine xnil ?_
      obtain ⟨m', hm, hI⟩ := hag1 _ h
      exact xagain ⟨(x63 + 1), hI, rfl⟩ hm ⟨(.cons rfl (.eq (by first | rfl | simp)) (.cons rfl (.refl _) (.cons rfl (.refl _) (.cons rfl (.refl _) (.nil _))))), by refine SubM.trans (SubM.mvB 0 rfl) ?_; refine SubM.trans (SubM.mvB 1 rfl) ?_; (simp only [List.eraseIdx]); exact (SubM.of (by repeat (first | with_reducible exact SubB.refl _ | exact SubB.nil _ | refine SubB.keep rfl rfl (by first | with_reducible exact WkL.refl _ | ((repeat (first | exact WkL.nil | refine WkL.cons (by first | with_reducible exact Wk.refl _ | exact Wk.nil_own _ | exact Wk.nil_pl _ | with_reducible exact Wk.tok _ _ _ | exact Wk.tok _ _ _ | exact Wk.eq (by first | rfl | (simp []; done) | (simp []; omega))) ?_)); done) | exact WkL.refl _) ?_ | refine SubB.drop ?_)) (by repeat (first | exact SubT.nil _ | refine SubT.add ?_ | (refine SubT.keep ?_ ?_; focus (first | with_reducible rfl | (simp []; done))) | refine SubT.drop ?_)))⟩
  · replace h := h.2 hp80
    refine xcondF' (decide_eq_false hp80) rfl ?_
    refine xexit ?_
    refine xthen_exit ?_
    refine xthen_exit ?_
    refine xin_same rfl ?_
    refine xthen ?_
    refine xseq ?_
    refine xregion ?_
    refine xvalP (pv_assign rfl) rfl rfl ?_
    refine xnil ?_
    refine xthen ?_
    refine xretc ?_
    replace h := h.symm
    subst h
    exact xret1 (bx' := [rbx ia2 30 2 (List.map E_palinode_api_File l1), ⟨bx1, 9, [.v (.string o3)]⟩]) (tk' := []) hg rfl rfl (.refl _) (SubM.of (.keep rfl rfl (.refl _) (.keep rfl rfl (.refl _) (.nil _))) (.nil _)) ⟨rfl, rfl, rfl⟩
/-- (*files.Table).at -/
def files_Table_at_R (l1 : List (ByteArray × (List UInt8))) (name3 : ByteArray) (r : Int) : Prop :=
  ∃ y5 : Int, slices_IndexFunc_R l1 name3 y5 ∧ r = y5
def files_Table_at_ev (fuel : Nat) (l1 : List (ByteArray × (List UInt8))) (name3 : ByteArray) : Option (Int) :=
  ((slices_IndexFunc_ev fuel l1 name3).bind fun y5 => some y5)
theorem files_Table_at_ok {fuel : Nat} {l1 : List (ByteArray × (List UInt8))} {name3 : ByteArray} {r : Int} (h : files_Table_at_ev fuel l1 name3 = some r) : files_Table_at_R l1 name3 r := by
  unfold files_Table_at_ev at h
  unfold files_Table_at_R
  obtain ⟨q16, g16, h⟩ := bind_ok h
  refine ⟨q16, slices_IndexFunc_ok g16, ?_⟩
  exact (Option.some.inj h).symm
set_option maxHeartbeats 4000000 in
theorem files_Table_at_con (l1 : List (ByteArray × (List UInt8))) (name3 : ByteArray) (bx0 : Nat) (ia2 : Option (Nat × Nat)) (r : Int) (h : files_Table_at_R l1 name3 r) : Con Try.prog 29 [.v (.pointer (some ⟨bx0, 0, none⟩)), .v (.string name3)] [⟨bx0, 60, [.rb ia2 l1.length]⟩, rbx ia2 30 2 (List.map E_palinode_api_File l1)] [] (fun rr bx tk => rr = .v (.int .i64 r) ∧ bx = [rbx ia2 30 2 (List.map E_palinode_api_File l1), ⟨bx0, 60, [.rb ia2 l1.length]⟩] ∧ tk = []) := by
  refine xenter Try.func29 rfl rfl fun g hg => ?_
  simp only [Try.ntmps29, slots]
  refine xseq ?_
  refine xregion ?_
  refine xbox rfl rfl rfl rfl fun b3 => ?_
  refine xvalP (pv_assign rfl) rfl rfl ?_
  refine xnil ?_
  refine xthen ?_
  refine xseq ?_
  refine xregion ?_
  refine xvalP (pv_move rfl) rfl rfl ?_
  refine xvalP (pv_nilCheck rfl) rfl rfl ?_
  refine xvalP (qv_fieldAddrB FldC.h rfl) rfl rfl ?_
  refine xval (qv_loadB 1 ShpC.h rfl rfl rfl rfl) rfl rfl ?_
  refine xvalP (pv_makeFuncC rfl) rfl rfl ?_
  obtain ⟨y5, h4, h⟩ := h
  refine xcallF (Fb := [⟨bx0, 60, [.rb ia2 l1.length]⟩]) (Ft := []) (slices_IndexFunc_con l1 name3 b3 ia2 _ h4) Try.func33 (by kernel_rfl) rfl (.cons rfl (.eq (by first | rfl | simp)) (.cons rfl (.refl _) .nil)) (by refine SubM.trans (SubM.mvB 0 rfl) ?_; refine SubM.trans (SubM.mvB 2 rfl) ?_; (simp only [List.eraseIdx]); exact (SubM.of (by repeat (first | with_reducible exact SubB.refl _ | exact SubB.nil _ | refine SubB.keep rfl rfl (by first | with_reducible exact WkL.refl _ | ((repeat (first | exact WkL.nil | refine WkL.cons (by first | with_reducible exact Wk.refl _ | exact Wk.nil_own _ | exact Wk.nil_pl _ | with_reducible exact Wk.tok _ _ _ | exact Wk.tok _ _ _ | exact Wk.eq (by first | rfl | (simp []; done) | (simp []; omega))) ?_)); done) | exact WkL.refl _) ?_ | refine SubB.drop ?_)) (by repeat (first | exact SubT.nil _ | refine SubT.add ?_ | (refine SubT.keep ?_ ?_; focus (first | with_reducible rfl | (simp []; done))) | refine SubT.drop ?_)))) rfl rfl ?_
  rintro _ _ _ ⟨rfl, rfl, rfl⟩
  simp only [List.nil_append, List.cons_append]
  refine xvalP (pv_assign rfl) rfl rfl ?_
  refine xnil ?_
  refine xthen ?_
  refine xretc ?_
  replace h := h.symm
  subst h
  exact xret1 (bx' := [rbx ia2 30 2 (List.map E_palinode_api_File l1), ⟨bx0, 60, [.rb ia2 l1.length]⟩]) (tk' := []) hg rfl rfl (.refl _) (SubM.of (.keep rfl rfl (.refl _) (.drop (.keep rfl rfl (.cons (.eq (by first | rfl | simp)) .nil) (.nil _)))) (.nil _)) ⟨rfl, rfl, rfl⟩
/-- slices.Clone [ []byte,byte] -/
def slices_Clone_R (sv1 : List UInt8) (r : (List UInt8)) : Prop :=
  ∀ bv6 : Bool, (sv1 ≠ [] → bv6 = false) → ((bv6 = true → r = ([] : List UInt8)) ∧ (¬ (bv6 = true) → Room ((([] : List UInt8)).length + sv1.length) 1 ∧ r = (([] : List UInt8) ++ sv1)))
def slices_Clone_ev (fuel : Nat) (sv1 : List UInt8) : Option ((List UInt8)) :=
  (bothE (decide (sv1 ≠ [])) fun bv6 => (if bv6 = true then some ([] : List UInt8) else (if Room ((([] : List UInt8)).length + sv1.length) 1 then some (([] : List UInt8) ++ sv1) else none)))
theorem slices_Clone_ok {fuel : Nat} {sv1 : List UInt8} {r : (List UInt8)} (h : slices_Clone_ev fuel sv1 = some r) : slices_Clone_R sv1 r := by
  unfold slices_Clone_ev at h
  unfold slices_Clone_R
  intro q17 g17
  replace h := bothE_ok h q17 (fun e => g17 (of_decide_eq_true e))
  refine ⟨fun g18 => ?_, fun g18 => ?_⟩
  · rw [if_pos g18] at h
    exact (Option.some.inj h).symm
  · rw [if_neg g18] at h
    obtain ⟨g19, h⟩ := if_ok h
    refine ⟨g19, ?_⟩
    exact (Option.some.inj h).symm
set_option maxHeartbeats 4000000 in
theorem slices_Clone_con (sv1 : List UInt8) (r : (List UInt8)) (h : slices_Clone_R sv1 r) : Con Try.prog 30 [.sl 1 none (List.map eb sv1)] [] [] (RetM 1 5 eb r) := by
  refine xenter Try.func30 rfl rfl fun g hg => ?_
  simp only [Try.ntmps30, slots]
  refine xseq ?_
  refine xregion ?_
  refine xvalP (pv_assign rfl) rfl rfl ?_
  refine xnil ?_
  refine xthen ?_
  refine xseq ?_
  refine xseq ?_
  refine xregion ?_
  refine xvalP (pv_move rfl) rfl rfl ?_
  refine xexact 3 rfl fun A5 c5 hA5 => ?_
  refine xvalP (pv_eqNilV UndC.h rfl rfl) rfl rfl ?_
  obtain ⟨bv6, hb5⟩ : ∃ b : Bool, A5.isNone = b := ⟨_, rfl⟩
  replace h := h bv6 (fun q => hb5 ▸ hA5 q)
  refine xsetB 4 (b' := bv6) (by rw [hb5]) rfl ?_
  refine xnil ?_
  refine xthen ?_
  by_cases hp7 : bv6 = true
  · replace h := h.1 hp7
    refine xcondT' hp7 rfl ?_
    refine xseq ?_
    refine xregion ?_
    refine xvalP (pv_assign rfl) rfl rfl ?_
    refine xnil ?_
    refine xthen ?_
    refine xretc ?_
    refine xthen_ret ?_
    replace h := h.symm
    subst h
    exact xret1 hg rfl rfl (.nil_own _) (SubM.of (by repeat (first | with_reducible exact SubB.refl _ | exact SubB.nil _ | refine SubB.keep rfl rfl (by first | with_reducible exact WkL.refl _ | ((repeat (first | exact WkL.nil | refine WkL.cons (by first | with_reducible exact Wk.refl _ | exact Wk.nil_own _ | exact Wk.nil_pl _ | with_reducible exact Wk.tok _ _ _ | exact Wk.tok _ _ _ | exact Wk.eq (by first | rfl | (simp []; done) | (simp []; omega))) ?_)); done) | exact WkL.refl _) ?_ | refine SubB.drop ?_)) (by repeat (first | exact SubT.nil _ | refine SubT.add ?_ | (refine SubT.keep ?_ ?_; focus (first | with_reducible rfl | (simp []; done))) | refine SubT.drop ?_))) ⟨none, rfl, rfl, rfl⟩
  · replace h := h.2 hp7
    refine xcondF' (b_f hp7) rfl ?_
    refine xskipc ?_
    refine xthen ?_
    refine xseq ?_
    refine xregion ?_
    refine xbuildSliceM (f := eb) ([] : List UInt8) UndC.h InfC.h rfl rfl (by first | exact wkR_of rfl | (repeat (first | exact WkR.nil | refine WkR.cons (by (repeat (first | exact WkL.nil | refine WkL.cons (by first | with_reducible exact Wk.refl _ | exact Wk.nil_own _ | exact Wk.nil_pl _ | with_reducible exact Wk.tok _ _ _ | exact Wk.tok _ _ _ | exact Wk.eq (by first | rfl | (simp []; done) | (simp []; omega))) ?_))) ?_))) rfl rfl rfl rfl fun s5 => ?_
    refine xvalP (pv_move rfl) rfl rfl ?_
    obtain ⟨h8, h⟩ := h
    refine xappendM (l := ([] : List UInt8)) (l2 := sv1) 0 h8 UndC.h InfC.h rfl rfl rfl (.refl _) rfl rfl rfl fun i9 => ?_
    refine xvalP (pv_assign rfl) rfl rfl ?_
    refine xnil ?_
    refine xthen ?_
    refine xretc ?_
    replace h := h.symm
    subst h
    exact xret1 hg rfl rfl (.refl _) (SubM.of (.nil _) (.keep rfl (.nil _))) ⟨i9, rfl, rfl, rfl⟩
/-- (*files.Table).Put -/
def files_Table_Put_j1 (bv4 : List UInt8) (iv29 : Int) (l30 : List (ByteArray × (List UInt8))) (r : Int × (List (ByteArray × (List UInt8)))) : Prop :=
  ∃ y63 : (List UInt8), slices_Clone_R bv4 y63 ∧ 0 ≤ (iv29 : Int) ∧ ∃ y65 : ByteArray × (List UInt8), l30[(iv29 : Int).toNat]? = some y65 ∧ r = (0, (l30.set (iv29 : Int).toNat (y65.1, y63)))
def files_Table_Put_j2 (l1 : List (ByteArray × (List UInt8))) (y6 : Int) (name3 : ByteArray) (bv4 : List UInt8) (x42 : Bool) (r : Int × (List (ByteArray × (List UInt8)))) : Prop :=
  ((x42 = true → r = (7, l1)) ∧ (¬ (x42 = true) → ((y6 < 0 → Room (l1.length + ([(name3, ([] : List UInt8))]).length) 40 ∧ InR ((((l1 ++ [(name3, ([] : List UInt8))]).length : Nat) : Int) - 1) ∧ files_Table_Put_j1 bv4 ((((l1 ++ [(name3, ([] : List UInt8))]).length : Nat) : Int) - 1) (l1 ++ [(name3, ([] : List UInt8))]) r) ∧ (¬ (y6 < 0) → files_Table_Put_j1 bv4 y6 l1 r))))
def files_Table_Put_R (l1 : List (ByteArray × (List UInt8))) (name3 : ByteArray) (bv4 : List UInt8) (r : Int × (List (ByteArray × (List UInt8)))) : Prop :=
  ∃ y6 : Int, files_Table_at_R l1 name3 y6 ∧ ∃ y33 : Bool, files_IsName_R name3 y33 ∧ ((¬ (y33 = true) → r = (4, l1)) ∧ (¬ (¬ (y33 = true)) → ((65536 < (bv4.length : Int) → r = (8, l1)) ∧ (¬ (65536 < (bv4.length : Int)) → files_Table_Put_j2 l1 y6 name3 bv4 ((decide (y6 < 0)) && (decide (16 ≤ ((l1.length : Nat) : Int)))) r))))
def files_Table_Put_j1_ev (fuel : Nat) (bv4 : List UInt8) (iv29 : Int) (l30 : List (ByteArray × (List UInt8))) : Option (Int × (List (ByteArray × (List UInt8)))) :=
  ((slices_Clone_ev fuel bv4).bind fun y63 => (if 0 ≤ (iv29 : Int) then ((l30[(iv29 : Int).toNat]?).bind fun y65 => some (0, (l30.set (iv29 : Int).toNat (y65.1, y63)))) else none))
theorem files_Table_Put_j1_ok {fuel : Nat} {bv4 : List UInt8} {iv29 : Int} {l30 : List (ByteArray × (List UInt8))} {r : Int × (List (ByteArray × (List UInt8)))} (h : files_Table_Put_j1_ev fuel bv4 iv29 l30 = some r) : files_Table_Put_j1 bv4 iv29 l30 r := by
  unfold files_Table_Put_j1_ev at h
  unfold files_Table_Put_j1
  obtain ⟨q20, g20, h⟩ := bind_ok h
  refine ⟨q20, slices_Clone_ok g20, ?_⟩
  obtain ⟨g21, h⟩ := if_ok h
  refine ⟨g21, ?_⟩
  obtain ⟨q22, g22, h⟩ := bind_ok h
  refine ⟨q22, g22, ?_⟩
  exact (Option.some.inj h).symm
def files_Table_Put_j2_ev (fuel : Nat) (l1 : List (ByteArray × (List UInt8))) (y6 : Int) (name3 : ByteArray) (bv4 : List UInt8) (x42 : Bool) : Option (Int × (List (ByteArray × (List UInt8)))) :=
  (if x42 = true then some (7, l1) else (if y6 < 0 then (if Room (l1.length + ([(name3, ([] : List UInt8))]).length) 40 then (if InR ((((l1 ++ [(name3, ([] : List UInt8))]).length : Nat) : Int) - 1) then files_Table_Put_j1_ev fuel bv4 ((((l1 ++ [(name3, ([] : List UInt8))]).length : Nat) : Int) - 1) (l1 ++ [(name3, ([] : List UInt8))]) else none) else none) else files_Table_Put_j1_ev fuel bv4 y6 l1))
theorem files_Table_Put_j2_ok {fuel : Nat} {l1 : List (ByteArray × (List UInt8))} {y6 : Int} {name3 : ByteArray} {bv4 : List UInt8} {x42 : Bool} {r : Int × (List (ByteArray × (List UInt8)))} (h : files_Table_Put_j2_ev fuel l1 y6 name3 bv4 x42 = some r) : files_Table_Put_j2 l1 y6 name3 bv4 x42 r := by
  unfold files_Table_Put_j2_ev at h
  unfold files_Table_Put_j2
  refine ⟨fun g23 => ?_, fun g23 => ?_⟩
  · rw [if_pos g23] at h
    exact (Option.some.inj h).symm
  · rw [if_neg g23] at h
    refine ⟨fun g24 => ?_, fun g24 => ?_⟩
    · rw [if_pos g24] at h
      obtain ⟨g25, h⟩ := if_ok h
      refine ⟨g25, ?_⟩
      obtain ⟨g26, h⟩ := if_ok h
      refine ⟨g26, ?_⟩
      exact files_Table_Put_j1_ok h
    · rw [if_neg g24] at h
      exact files_Table_Put_j1_ok h
def files_Table_Put_ev (fuel : Nat) (l1 : List (ByteArray × (List UInt8))) (name3 : ByteArray) (bv4 : List UInt8) : Option (Int × (List (ByteArray × (List UInt8)))) :=
  ((files_Table_at_ev fuel l1 name3).bind fun y6 => ((files_IsName_ev fuel name3).bind fun y33 => (if ¬ (y33 = true) then some (4, l1) else (if 65536 < (bv4.length : Int) then some (8, l1) else files_Table_Put_j2_ev fuel l1 y6 name3 bv4 ((decide (y6 < 0)) && (decide (16 ≤ ((l1.length : Nat) : Int))))))))
theorem files_Table_Put_ok {fuel : Nat} {l1 : List (ByteArray × (List UInt8))} {name3 : ByteArray} {bv4 : List UInt8} {r : Int × (List (ByteArray × (List UInt8)))} (h : files_Table_Put_ev fuel l1 name3 bv4 = some r) : files_Table_Put_R l1 name3 bv4 r := by
  unfold files_Table_Put_ev at h
  unfold files_Table_Put_R
  obtain ⟨q27, g27, h⟩ := bind_ok h
  refine ⟨q27, files_Table_at_ok g27, ?_⟩
  obtain ⟨q28, g28, h⟩ := bind_ok h
  refine ⟨q28, files_IsName_ok g28, ?_⟩
  refine ⟨fun g29 => ?_, fun g29 => ?_⟩
  · rw [if_pos g29] at h
    exact (Option.some.inj h).symm
  · rw [if_neg g29] at h
    refine ⟨fun g30 => ?_, fun g30 => ?_⟩
    · rw [if_pos g30] at h
      exact (Option.some.inj h).symm
    · rw [if_neg g30] at h
      exact files_Table_Put_j2_ok h
set_option maxHeartbeats 4000000 in
theorem files_Table_Put_con (l1 : List (ByteArray × (List UInt8))) (name3 : ByteArray) (bv4 : List UInt8) (bx0 : Nat) (ia2 : Option (Nat × Nat)) (r : Int × (List (ByteArray × (List UInt8)))) (h : files_Table_Put_R l1 name3 bv4 r) : Con Try.prog 12 [.v (.pointer (some ⟨bx0, 0, none⟩)), .v (.string name3), .sl 1 none (List.map eb bv4)] [⟨bx0, 60, [.rb ia2 l1.length]⟩, rbx ia2 30 2 (List.map E_palinode_api_File l1)] [] (fun rr bx tk => ∃ j1, rr = .v (.int .i64 r.1) ∧ bx = [rbx j1 30 2 (List.map E_palinode_api_File r.2), ⟨bx0, 60, [.rb j1 r.2.length]⟩] ∧ tk = []) := by
  refine xenter Try.func12 rfl rfl fun g hg => ?_
  simp only [Try.ntmps12, slots]
  refine xseq ?_
  refine xregion ?_
  refine xvalP (pv_assign rfl) rfl rfl ?_
  refine xnil ?_
  refine xthen ?_
  refine xseq ?_
  refine xregion ?_
  refine xvalP (pv_move rfl) rfl rfl ?_
  refine xvalP (pv_move rfl) rfl rfl ?_
  obtain ⟨y6, h5, h⟩ := h
  refine xcallF (Fb := []) (Ft := []) (files_Table_at_con l1 name3 bx0 ia2 _ h5) Try.func29 (by kernel_rfl) rfl (.cons rfl (.refl _) (.cons rfl (.refl _) .nil)) (by exact (SubM.of (by repeat (first | with_reducible exact SubB.refl _ | exact SubB.nil _ | refine SubB.keep rfl rfl (by first | with_reducible exact WkL.refl _ | ((repeat (first | exact WkL.nil | refine WkL.cons (by first | with_reducible exact Wk.refl _ | exact Wk.nil_own _ | exact Wk.nil_pl _ | with_reducible exact Wk.tok _ _ _ | exact Wk.tok _ _ _ | exact Wk.eq (by first | rfl | (simp []; done) | (simp []; omega))) ?_)); done) | exact WkL.refl _) ?_ | refine SubB.drop ?_)) (by repeat (first | exact SubT.nil _ | refine SubT.add ?_ | (refine SubT.keep ?_ ?_; focus (first | with_reducible rfl | (simp []; done))) | refine SubT.drop ?_)))) rfl rfl ?_
  rintro _ _ _ ⟨rfl, rfl, rfl⟩
  simp only [List.nil_append, List.cons_append]
  refine xvalP (pv_assign rfl) rfl rfl ?_
  refine xnil ?_
  refine xthen ?_
  refine xseqM (fun σ => ∃ (iv29 : Int), ∃ (l30 : List (ByteArray × (List UInt8))), ∃ (i31 : Option (Nat × Nat)), files_Table_Put_j1 bv4 iv29 l30 r ∧ σ = ⟨[(0, .v (.pointer (some ⟨bx0, 0, none⟩))), (2, .sl 1 none (List.map eb bv4)), (7, .v (.int .i64 iv29))], [rbx i31 30 2 (List.map E_palinode_api_File l30), ⟨bx0, 60, [.rb i31 l30.length]⟩], []⟩) ?_ ?_
  · refine xblock ?_
    refine xseq ?_
    refine xregion ?_
    refine xvalP (pv_move rfl) rfl rfl ?_
    obtain ⟨y33, h32, h⟩ := h
    refine xcall0 (files_IsName_con name3 _ h32) Try.func10 (by kernel_rfl) rfl (.cons rfl (.refl _) .nil) rfl rfl ?_
    refine xvalP (pv_not rfl) rfl rfl ?_
    refine xvalP (pv_assign rfl) rfl rfl ?_
    refine xnil ?_
    refine xthen ?_
    by_cases hp34 : ¬ (y33 = true)
    · replace h := h.1 hp34
      refine xcondT' (not_t (b_f hp34)) rfl ?_
      refine xseq ?_
      refine xregion ?_
      refine xvalP (pv_assign rfl) rfl rfl ?_
      refine xnil ?_
      refine xthen ?_
      refine xretc ?_
      refine xin_ret ?_
      refine xthen_ret ?_
      replace h := h.symm
      subst h
      exact xret1 (bx' := [rbx ia2 30 2 (List.map E_palinode_api_File l1), ⟨bx0, 60, [.rb ia2 l1.length]⟩]) (tk' := []) hg rfl rfl (.refl _) (SubM.of (.keep rfl rfl (.refl _) (.keep rfl rfl (.cons (.eq (by first | rfl | simp)) .nil) (.nil _))) (.nil _)) ⟨ia2, rfl, rfl, rfl⟩
    · replace h := h.2 hp34
      refine xcondF' (not_f (Decidable.of_not_not hp34)) rfl ?_
      refine xseq ?_
      refine xregion ?_
      refine xvalP (pv_move rfl) rfl rfl ?_
      refine xvalP (pv_lenM UndC.h rfl) rfl rfl ?_
      refine xvalP (pv_bin2 rfl rfl rfl) rfl rfl ?_
      refine xvalP (pv_assign rfl) rfl rfl ?_
      refine xnil ?_
      refine xthen ?_
      by_cases hp37 : 65536 < (bv4.length : Int)
      · replace h := h.1 hp37
        refine xcondT' (decide_eq_true hp37) rfl ?_
        refine xseq ?_
        refine xregion ?_
        refine xvalP (pv_assign rfl) rfl rfl ?_
        refine xnil ?_
        refine xthen ?_
        refine xretc ?_
        refine xin_ret ?_
        refine xthen_ret ?_
        replace h := h.symm
        subst h
        exact xret1 (bx' := [rbx ia2 30 2 (List.map E_palinode_api_File l1), ⟨bx0, 60, [.rb ia2 l1.length]⟩]) (tk' := []) hg rfl rfl (.refl _) (SubM.of (.keep rfl rfl (.refl _) (.keep rfl rfl (.cons (.eq (by first | rfl | simp)) .nil) (.nil _))) (.nil _)) ⟨ia2, rfl, rfl, rfl⟩
      · replace h := h.2 hp37
        refine xcondF' (decide_eq_false hp37) rfl ?_
        refine xseqM (fun σ => ∃ (x42 : Bool), files_Table_Put_j2 l1 y6 name3 bv4 x42 r ∧ σ = ⟨[(0, .v (.pointer (some ⟨bx0, 0, none⟩))), (1, .v (.string name3)), (2, .sl 1 none (List.map eb bv4)), (7, .v (.int .i64 y6)), (19, .v (.bool x42))], [rbx ia2 30 2 (List.map E_palinode_api_File l1), ⟨bx0, 60, [.rb ia2 l1.length]⟩], []⟩) ?_ ?_
        · refine xregion ?_
          refine xvalP (pv_move rfl) rfl rfl ?_
          refine xvalP (pv_bin2 rfl rfl rfl) rfl rfl ?_
          refine xvalP (pv_move rfl) rfl rfl ?_
          by_cases hp44 : y6 < 0
          · rw [show (decide (y6 < 0)) = true from (decide_eq_true hp44), Bool.true_and] at h
            refine xsetB 22 (decide_eq_true hp44) rfl ?_
            refine xvalP (pv_move rfl) rfl rfl ?_
            refine xvalP (pv_nilCheck rfl) rfl rfl ?_
            refine xvalP (qv_fieldAddrB FldC.h rfl) rfl rfl ?_
            refine xval (qv_loadB 1 ShpC.h rfl rfl rfl rfl) rfl rfl ?_
            refine xvalP (pv_lenRb UndC.h rfl) rfl rfl ?_
            refine xvalP (pv_bin2 rfl rfl rfl) rfl rfl ?_
            refine xvalP (pv_pick rfl rfl) rfl rfl ?_
            refine xvalP (pv_assign rfl) rfl rfl ?_
            refine xnil ?_
            exact xmeet ⟨(decide (16 ≤ ((l1.length : Nat) : Int))), h, rfl⟩ ⟨(.cons rfl (.refl _) (.cons rfl (.refl _) (.cons rfl (.refl _) (.cons rfl (.refl _) (.cons rfl (.refl _) (.nil _)))))), by exact (SubM.of (.keep rfl rfl (.refl _) (.keep rfl rfl (.cons (.eq (by first | rfl | simp)) .nil) (.nil _))) (.nil _))⟩
          · rw [show (decide (y6 < 0)) = false from (decide_eq_false hp44), Bool.false_and] at h
            refine xsetB 22 (decide_eq_false hp44) rfl ?_
            refine xskip rfl rfl ?_
            refine xskip rfl rfl ?_
            refine xskip rfl rfl ?_
            refine xskip rfl rfl ?_
            refine xskip rfl rfl ?_
            refine xskip rfl rfl ?_
            refine xvalP (pv_pick rfl rfl) rfl rfl ?_
            refine xvalP (pv_assign rfl) rfl rfl ?_
            refine xnil ?_
            exact xmeet ⟨false, h, rfl⟩ ⟨(.cons rfl (.refl _) (.cons rfl (.refl _) (.cons rfl (.refl _) (.cons rfl (.refl _) (.cons rfl (.refl _) (.nil _)))))), by exact (SubM.of (.keep rfl rfl (.refl _) (.keep rfl rfl (.cons (.eq (by first | rfl | simp)) .nil) (.nil _))) (.nil _))⟩
        · clear h
          rintro _ ⟨x42, h, rfl⟩
          by_cases hp47 : x42 = true
          · replace h := h.1 hp47
            refine xcondT' hp47 rfl ?_
            refine xseq ?_
            refine xregion ?_
            refine xvalP (pv_assign rfl) rfl rfl ?_
            refine xnil ?_
            refine xthen ?_
            refine xretc ?_
            refine xin_ret ?_
            refine xthen_ret ?_
            replace h := h.symm
            subst h
            exact xret1 (bx' := [rbx ia2 30 2 (List.map E_palinode_api_File l1), ⟨bx0, 60, [.rb ia2 l1.length]⟩]) (tk' := []) hg rfl rfl (.refl _) (SubM.of (.keep rfl rfl (.refl _) (.keep rfl rfl (.cons (.eq (by first | rfl | simp)) .nil) (.nil _))) (.nil _)) ⟨ia2, rfl, rfl, rfl⟩
          · replace h := h.2 hp47
            refine xcondF' (b_f hp47) rfl ?_
            refine xseq ?_
            refine xregion ?_
            refine xvalP (pv_move rfl) rfl rfl ?_
            refine xvalP (pv_bin2 rfl rfl rfl) rfl rfl ?_
            refine xvalP (pv_assign rfl) rfl rfl ?_
            refine xnil ?_
            refine xthen ?_
            by_cases hp49 : y6 < 0
            · replace h := h.1 hp49
              refine xcondT' (decide_eq_true hp49) rfl ?_
              refine xseq ?_
              refine xregion ?_
              refine xvalP (pv_move rfl) rfl rfl ?_
              refine xvalP (pv_move rfl) rfl rfl ?_
              refine xvalP (pv_nilCheck rfl) rfl rfl ?_
              refine xvalP (qv_fieldAddrB FldC.h rfl) rfl rfl ?_
              refine xval (qv_loadB 1 ShpC.h rfl rfl rfl rfl) rfl rfl ?_
              refine xvalP (pv_move rfl) rfl rfl ?_
              refine xvalP (pv_buildC StrC.h rfl rfl) rfl rfl ?_
              refine xbuildSliceM (f := E_palinode_api_File) [(name3, ([] : List UInt8))] UndC.h InfC.h rfl rfl (by first | exact wkR_of rfl | (repeat (first | exact WkR.nil | refine WkR.cons (by (repeat (first | exact WkL.nil | refine WkL.cons (by first | with_reducible exact Wk.refl _ | exact Wk.nil_own _ | exact Wk.nil_pl _ | with_reducible exact Wk.tok _ _ _ | exact Wk.tok _ _ _ | exact Wk.eq (by first | rfl | (simp []; done) | (simp []; omega))) ?_))) ?_))) rfl rfl rfl rfl fun s40 => ?_
              obtain ⟨h50, h⟩ := h
              refine xappendRb (f := E_palinode_api_File) (l := l1) (l2 := [(name3, ([] : List UInt8))]) 0 rfl h50 UndC.h InfC.h rfl rfl (.refl _) (.sl rfl (.refl _)) rfl rfl rfl fun i51 => ?_
              refine xvalP (pv_nilCheck rfl) rfl rfl ?_
              refine xvalP (qv_fieldAddrB FldC.h rfl) rfl rfl ?_
              refine xstore 1 ShpC.h rfl rfl rfl rfl rfl rfl rfl ?_
              refine xnil ?_
              refine xthen ?_
              refine xregion ?_
              refine xvalP (pv_move rfl) rfl rfl ?_
              refine xvalP (pv_nilCheck rfl) rfl rfl ?_
              refine xvalP (qv_fieldAddrB FldC.h rfl) rfl rfl ?_
              refine xval (qv_loadB 1 ShpC.h rfl rfl rfl rfl) rfl rfl ?_
              refine xvalP (pv_lenRb UndC.h rfl) rfl rfl ?_
              obtain ⟨h53, h⟩ := h
              refine xvalP (pv_subI h53 rfl rfl) rfl rfl ?_
              refine xvalP (pv_assign rfl) rfl rfl ?_
              refine xnil ?_
              refine xin_normal ?_
              exact xmeet ⟨((((l1 ++ [(name3, ([] : List UInt8))]).length : Nat) : Int) - 1), (l1 ++ [(name3, ([] : List UInt8))]), i51, h, rfl⟩ ⟨(.cons rfl (.refl _) (.cons rfl (.refl _) (.cons rfl (.refl _) (.nil _)))), by exact (SubM.of (.keep rfl rfl (.refl _) (.keep rfl rfl (.cons (.eq (by first | rfl | simp)) .nil) (.nil _))) (.nil _))⟩
            · replace h := h.2 hp49
              refine xcondF' (decide_eq_false hp49) rfl ?_
              refine xskipc ?_
              refine xin_normal ?_
              exact xmeet ⟨y6, l1, ia2, h, rfl⟩ ⟨(.cons rfl (.refl _) (.cons rfl (.refl _) (.cons rfl (.refl _) (.nil _)))), by exact (SubM.of (.keep rfl rfl (.refl _) (.keep rfl rfl (.cons (.eq (by first | rfl | simp)) .nil) (.nil _))) (.nil _))⟩
  · clear h
    rintro _ ⟨iv29, l30, i31, h, rfl⟩
    refine xseq ?_
    refine xregionD (m := 10) (by kernel_rfl) rfl ?_
    obtain ⟨y63, h62, h⟩ := h
    obtain ⟨h66a, h⟩ := h
    obtain ⟨y65, h66b, h⟩ := h
    refine xpcut 1 #[true, true, true, true, true, true, true, true, true, false] (fun σ => ∃ (i68 : Option (Nat × Nat)), σ = ⟨[(56, .sl 1 (some i68) (List.map eb y63)), (58, .v (.pointer (some ⟨idb i31, (iv29 : Int).toNat * 2 + 1, none⟩)))], [rbx i31 30 2 (List.map E_palinode_api_File l30), ⟨bx0, 60, [.rb i31 l30.length]⟩], [⟨i68, 5, 1, y63.length⟩]⟩) ?_ (fun key69 => ?_)
    · rintro _ ⟨i68, rfl⟩
      refine xpstep (i := 9) (by kernel_rfl) rfl ?_
      refine wstoreRb (f := E_palinode_api_File) (k := 2) (off := 1) (i := (iv29 : Int).toNat) 0 (y65.1, y63) h66b rfl (by decide) ShpC.h rfl rfl rfl rfl (by first | rfl | exact seg_lenE (by rfl) | exact len_app rfl (seg_lenE (by rfl)) (by rfl) | exact len_app (seg_lenE (by rfl)) rfl (by rfl) | exact len_app rfl (len_app (seg_lenE (by rfl)) rfl (by rfl)) (by rfl) | (simp only [seg_len, cellsS, List.length_append, List.length_cons, List.length_nil]; done) | (simp only [seg_len, cellsS, List.length_append, List.length_cons, List.length_nil]; rfl)) (.cons (.refl _) (.cons (.tok _ _ _) .nil)) rfl ?_
      refine xpdone (by kernel_rfl) ?_
      refine xthen ?_
      refine xseq ?_
      refine xregion ?_
      refine xvalP (pv_assign rfl) rfl rfl ?_
      refine xnil ?_
      refine xthen ?_
      refine xretc ?_
      replace h := h.symm
      subst h
      exact xret1 (bx' := [rbx i31 30 2 (List.map E_palinode_api_File ((l30.set (iv29 : Int).toNat (y65.1, y63)))), ⟨bx0, 60, [.rb i31 (((l30.set (iv29 : Int).toNat (y65.1, y63))).length)]⟩]) (tk' := []) hg rfl rfl (.refl _) (SubM.of (.keep rfl rfl (.refl _) (.keep rfl rfl (.cons (.eq (by first | rfl | simp)) .nil) (.nil _))) (.nil _)) ⟨i31, rfl, rfl, rfl⟩
    refine xpval 0 rfl (pv_move rfl) rfl rfl (by kernel_rfl) (by kernel_rfl) (by kernel_rfl) (fun _ _ _ _ h => h) ?_
    refine xpval 1 rfl (pv_nilCheck rfl) rfl rfl (by kernel_rfl) (by kernel_rfl) (by kernel_rfl) (fun _ _ _ _ h => h) ?_
    refine xpval 2 rfl (qv_fieldAddrB FldC.h rfl) rfl rfl (by kernel_rfl) (by kernel_rfl) (by kernel_rfl) (fun _ _ _ _ h => h) ?_
    refine xpval 4 rfl (pv_move rfl) rfl rfl (by kernel_rfl) (by kernel_rfl) (by kernel_rfl) (fun _ _ _ _ h => h) ?_
    refine xpval 5 rfl (pv_move rfl) rfl rfl (by kernel_rfl) (by kernel_rfl) (by kernel_rfl) (fun _ _ _ _ h => h) ?_
    refine xpstepN (is := [3, 6]) (by kernel_rfl) (by simp) ?_
    intro i hi; simp only [List.mem_cons, List.not_mem_nil, or_false] at hi; rcases hi with rfl | rfl
    · refine ⟨_, rfl, ?_⟩
      refine wval (qv_loadB 1 ShpC.h rfl rfl rfl rfl) rfl rfl ?_
      refine xpstep (i := 6) (by kernel_rfl) rfl ?_
      refine wcallM (slices_Clone_con bv4 _ h62) Try.func30 (by kernel_rfl) rfl (.cons rfl (.refl _) .nil) rfl rfl fun i64 => ?_
      refine xpval 7 rfl (pv_indexAddrRbM rfl h66a h66b UndC.h ShpC.h rfl rfl) rfl rfl (by kernel_rfl) (by kernel_rfl) (by kernel_rfl) (fun _ _ _ _ h => h) ?_
      refine xpval 8 rfl (qv_fieldAddrB FldC.h rfl) rfl rfl (by kernel_rfl) (by kernel_rfl) (by kernel_rfl) (fun _ _ _ _ h => h) ?_
      exact xpuse key69 ⟨i64, rfl⟩ ⟨(.cons rfl (.refl _) (.cons rfl (.refl _) (.nil _))), by exact (SubM.of (.keep rfl rfl (.refl _) (.keep rfl rfl (.cons (.eq (by first | rfl | simp)) .nil) (.nil _))) (.keep rfl (.nil _)))⟩ rfl (by kernel_rfl)
    · refine ⟨_, rfl, ?_⟩
      refine wcallM (slices_Clone_con bv4 _ h62) Try.func30 (by kernel_rfl) rfl (.cons rfl (.refl _) .nil) rfl rfl fun i64 => ?_
      refine xpvalE 3 [] rfl (qv_loadB 1 ShpC.h rfl rfl rfl rfl) rfl rfl (by kernel_rfl) (by kernel_rfl) (by kernel_rfl) (fun _ _ _ _ h => h) ?_
      refine xpval 7 rfl (pv_indexAddrRbM rfl h66a h66b UndC.h ShpC.h rfl rfl) rfl rfl (by kernel_rfl) (by kernel_rfl) (by kernel_rfl) (fun _ _ _ _ h => h) ?_
      refine xpval 8 rfl (qv_fieldAddrB FldC.h rfl) rfl rfl (by kernel_rfl) (by kernel_rfl) (by kernel_rfl) (fun _ _ _ _ h => h) ?_
      exact xpuse key69 ⟨i64, rfl⟩ ⟨(.cons rfl (.refl _) (.cons rfl (.refl _) (.nil _))), by exact (SubM.of (.keep rfl rfl (.refl _) (.keep rfl rfl (.cons (.eq (by first | rfl | simp)) .nil) (.nil _))) (.keep rfl (.nil _)))⟩ rfl (by kernel_rfl)
/-- files.New -/
def files_New_j2 (l310 : List (ByteArray × (List UInt8))) (y424 : ByteArray × (List UInt8)) (x309 : Int) (ag1 : (Int × (List (ByteArray × (List UInt8)))) → Prop) (x446 : Bool) (r : Int × (Option ((List (ByteArray × (List UInt8)))))) : Prop :=
  ((x446 = true → r = (5, none)) ∧ (¬ (x446 = true) → ∃ y455 : Int × (List (ByteArray × (List UInt8))), files_Table_Put_R l310 y424.1 y424.2 y455 ∧ ((¬ (y455.1 = 0) → r = (y455.1, none)) ∧ (¬ (¬ (y455.1 = 0)) → InR (x309 + 1) ∧ ag1 ((x309 + 1), y455.2)))))
def files_New_l1 (files1 : List (ByteArray × (List UInt8))) (ag1 : (Int × (List (ByteArray × (List UInt8)))) → Prop) (x309 : Int) (l310 : List (ByteArray × (List UInt8))) (r : Int × (Option ((List (ByteArray × (List UInt8)))))) : Prop :=
  ((x309 < (files1.length : Int) → 0 ≤ (x309 : Int) ∧ ∃ y424 : ByteArray × (List UInt8), files1[(x309 : Int).toNat]? = some y424 ∧ ∃ y448 : Bool, files_IsName_R y424.1 y448 ∧ ((y448 = true → ∃ y451 : Int, files_Table_at_R l310 y424.1 y451 ∧ files_New_j2 l310 y424 x309 ag1 (decide (0 ≤ y451)) r) ∧ (¬ (y448 = true) → files_New_j2 l310 y424 x309 ag1 false r))) ∧ (¬ (x309 < (files1.length : Int)) → r = (0, (some l310))))
def files_New_R (files1 : List (ByteArray × (List UInt8))) (r : Int × (Option ((List (ByteArray × (List UInt8)))))) : Prop :=
  ((16 < (files1.length : Int) → r = (7, none)) ∧ (¬ (16 < (files1.length : Int)) → LoopR (fun ag1 s => files_New_l1 files1 ag1 s.1 s.2 r) (0, ([] : List (ByteArray × (List UInt8))))))
def files_New_j2_ev (fuel : Nat) (l310 : List (ByteArray × (List UInt8))) (y424 : ByteArray × (List UInt8)) (x309 : Int) (ag1e : (Int × (List (ByteArray × (List UInt8)))) → Option (Int × (Option ((List (ByteArray × (List UInt8))))))) (x446 : Bool) : Option (Int × (Option ((List (ByteArray × (List UInt8)))))) :=
  (if x446 = true then some (5, none) else ((files_Table_Put_ev fuel l310 y424.1 y424.2).bind fun y455 => (if ¬ (y455.1 = 0) then some (y455.1, none) else (if InR (x309 + 1) then ag1e ((x309 + 1), y455.2) else none))))
theorem files_New_j2_ok {fuel : Nat} {l310 : List (ByteArray × (List UInt8))} {y424 : ByteArray × (List UInt8)} {x309 : Int} {ag1 : (Int × (List (ByteArray × (List UInt8)))) → Prop} {ag1e : (Int × (List (ByteArray × (List UInt8)))) → Option (Int × (Option ((List (ByteArray × (List UInt8))))))} {x446 : Bool} {r : Int × (Option ((List (ByteArray × (List UInt8)))))} (hagag1 : ∀ s, ag1e s = some r → ag1 s) (h : files_New_j2_ev fuel l310 y424 x309 ag1e x446 = some r) : files_New_j2 l310 y424 x309 ag1 x446 r := by
  unfold files_New_j2_ev at h
  unfold files_New_j2
  refine ⟨fun g31 => ?_, fun g31 => ?_⟩
  · rw [if_pos g31] at h
    exact (Option.some.inj h).symm
  · rw [if_neg g31] at h
    obtain ⟨q32, g32, h⟩ := bind_ok h
    refine ⟨q32, files_Table_Put_ok g32, ?_⟩
    refine ⟨fun g33 => ?_, fun g33 => ?_⟩
    · rw [if_pos g33] at h
      exact (Option.some.inj h).symm
    · rw [if_neg g33] at h
      obtain ⟨g34, h⟩ := if_ok h
      refine ⟨g34, ?_⟩
      exact hagag1 _ h
def files_New_l1_ev (fuel : Nat) (files1 : List (ByteArray × (List UInt8))) (ag1e : (Int × (List (ByteArray × (List UInt8)))) → Option (Int × (Option ((List (ByteArray × (List UInt8))))))) (x309 : Int) (l310 : List (ByteArray × (List UInt8))) : Option (Int × (Option ((List (ByteArray × (List UInt8)))))) :=
  (if x309 < (files1.length : Int) then (if 0 ≤ (x309 : Int) then ((files1[(x309 : Int).toNat]?).bind fun y424 => ((files_IsName_ev fuel y424.1).bind fun y448 => (if y448 = true then ((files_Table_at_ev fuel l310 y424.1).bind fun y451 => files_New_j2_ev fuel l310 y424 x309 ag1e (decide (0 ≤ y451))) else files_New_j2_ev fuel l310 y424 x309 ag1e false))) else none) else some (0, (some l310)))
theorem files_New_l1_ok {fuel : Nat} {files1 : List (ByteArray × (List UInt8))} {ag1e : (Int × (List (ByteArray × (List UInt8)))) → Option (Int × (Option ((List (ByteArray × (List UInt8))))))} {ag1 : (Int × (List (ByteArray × (List UInt8)))) → Prop} {x309 : Int} {l310 : List (ByteArray × (List UInt8))} {r : Int × (Option ((List (ByteArray × (List UInt8)))))} (hagag1 : ∀ s, ag1e s = some r → ag1 s) (h : files_New_l1_ev fuel files1 ag1e x309 l310 = some r) : files_New_l1 files1 ag1 x309 l310 r := by
  unfold files_New_l1_ev at h
  unfold files_New_l1
  refine ⟨fun g35 => ?_, fun g35 => ?_⟩
  · rw [if_pos g35] at h
    obtain ⟨g36, h⟩ := if_ok h
    refine ⟨g36, ?_⟩
    obtain ⟨q37, g37, h⟩ := bind_ok h
    refine ⟨q37, g37, ?_⟩
    obtain ⟨q38, g38, h⟩ := bind_ok h
    refine ⟨q38, files_IsName_ok g38, ?_⟩
    refine ⟨fun g39 => ?_, fun g39 => ?_⟩
    · rw [if_pos g39] at h
      obtain ⟨q40, g40, h⟩ := bind_ok h
      refine ⟨q40, files_Table_at_ok g40, ?_⟩
      exact files_New_j2_ok hagag1 h
    · rw [if_neg g39] at h
      exact files_New_j2_ok hagag1 h
  · rw [if_neg g35] at h
    exact (Option.some.inj h).symm
def files_New_ev (fuel : Nat) (files1 : List (ByteArray × (List UInt8))) : Option (Int × (Option ((List (ByteArray × (List UInt8)))))) :=
  (if 16 < (files1.length : Int) then some (7, none) else (loopE (fun ag1e s => files_New_l1_ev fuel files1 ag1e s.1 s.2) fuel (0, ([] : List (ByteArray × (List UInt8))))))
theorem files_New_ok {fuel : Nat} {files1 : List (ByteArray × (List UInt8))} {r : Int × (Option ((List (ByteArray × (List UInt8)))))} (h : files_New_ev fuel files1 = some r) : files_New_R files1 r := by
  unfold files_New_ev at h
  unfold files_New_R
  refine ⟨fun g41 => ?_, fun g41 => ?_⟩
  · rw [if_pos g41] at h
    exact (Option.some.inj h).symm
  · rw [if_neg g41] at h
    refine loopE_ok ?_ h
    intro ae ag s hag h
    exact files_New_l1_ok hag h
set_option maxHeartbeats 4000000 in
theorem files_New_con (files1 : List (ByteArray × (List UInt8))) (r : Int × (Option ((List (ByteArray × (List UInt8)))))) (h : files_New_R files1 r) : Con Try.prog 8 [.sl 2 none (List.map E_palinode_api_File files1)] [] [] (fun rr bx tk => (r.2 = none → rr = .tup [.v (.pointer none), .v (.int .i64 r.1)] ∧ bx = [] ∧ tk = []) ∧ (∀ x, r.2 = some x → ∃ b12 : Nat, ∃ j1 : Option (Nat × Nat), rr = .tup [.v (.pointer (some ⟨b12, 0, none⟩)), .v (.int .i64 r.1)] ∧ bx = [rbx j1 30 2 (List.map E_palinode_api_File x), ⟨b12, 60, [.rb j1 x.length]⟩] ∧ tk = [])) := by
  refine xenter Try.func8 rfl rfl fun g hg => ?_
  simp only [Try.ntmps8, slots]
  refine xseq ?_
  refine xregion ?_
  refine xvalP (pv_assign rfl) rfl rfl ?_
  refine xvalP (pv_assign rfl) rfl rfl ?_
  refine xnil ?_
  refine xthen ?_
  refine xseq ?_
  refine xseq ?_
  refine xregion ?_
  refine xvalP (pv_move rfl) rfl rfl ?_
  refine xvalP (pv_lenM UndC.h rfl) rfl rfl ?_
  refine xvalP (pv_bin2 rfl rfl rfl) rfl rfl ?_
  refine xnil ?_
  refine xthen ?_
  by_cases hp7 : 16 < (files1.length : Int)
  · replace h := h.1 hp7
    refine xcondT' (decide_eq_true hp7) rfl ?_
    refine xseq ?_
    refine xregion ?_
    refine xvalP (pv_assign rfl) rfl rfl ?_
    refine xvalP (pv_assign rfl) rfl rfl ?_
    refine xnil ?_
    refine xthen ?_
    refine xretc ?_
    refine xthen_ret ?_
    replace h := h.symm
    subst h
    exact xretL (rs := [.tmp 2, .tmp 3]) (ss := [.v (.pointer none), .v (.int .i64 7)]) (bx' := []) (tk' := []) hg rfl (by refine RetL.tmp rfl (.refl _) ?_; refine RetL.tmp rfl (.refl _) ?_; exact RetL.nil) (SubM.of (.nil _) (.nil _)) ⟨fun _ => ⟨rfl, rfl, rfl⟩, fun x hx => (by cases hx)⟩
  · replace h := h.2 hp7
    refine xcondF' (decide_eq_false hp7) rfl ?_
    refine xskipc ?_
    refine xthen ?_
    refine xseq ?_
    refine xregion ?_
    refine xvalP (pv_buildC StrC.h rfl rfl) rfl rfl ?_
    refine xbox rfl rfl rfl rfl fun b12 => ?_
    refine xaddRb E_palinode_api_File 30 2 ?_
    refine xwkB 1 [.rb none (([] : List (ByteArray × (List UInt8))).length)] rfl (.cons Wk.nil_rb .nil) ?_
    refine xvalP (pv_assign rfl) rfl rfl ?_
    refine xnil ?_
    refine xthen ?_
    refine xseq ?_
    refine xseq ?_
    refine xregion ?_
    refine xvalP (pv_move rfl) rfl rfl ?_
    refine xvalP (pv_lenM UndC.h rfl) rfl rfl ?_
    refine xvalP (pv_move rfl) rfl rfl ?_
    refine xnil ?_
    refine xthen ?_
    refine xblock ?_
    obtain ⟨Inv, ⟨m0, hI⟩, hS⟩ := h
    refine xloop (fun σ m => ∃ (x309 : Int), ∃ (l310 : List (ByteArray × (List UInt8))), ∃ (i311 : Option (Nat × Nat)), Inv (x309, l310) m ∧ σ = ⟨[(4, .v (.pointer (some ⟨b12, 0, none⟩))), (13, .sl 2 none (List.map E_palinode_api_File files1)), (14, .v (.int .i64 ((files1.length : Int)))), (15, .v (.int .i64 x309))], [rbx i311 30 2 (List.map E_palinode_api_File l310), ⟨b12, 60, [.rb i311 l310.length]⟩], []⟩) ⟨0, ([] : List (ByteArray × (List UInt8))), none, hI, rfl⟩ ⟨(.cons rfl (.refl _) (.cons rfl (.refl _) (.cons rfl (.refl _) (.cons rfl (.refl _) (.nil _))))), by exact (SubM.of (.keep rfl rfl (.refl _) (.keep rfl rfl (.cons (.eq (by first | rfl | simp)) .nil) (.nil _))) (.nil _))⟩ ?_
    rintro _ m ⟨x309, l310, i311, hI, rfl⟩
    obtain ⟨ag1, hag1, h⟩ : ∃ ag, (∀ s', ag s' → ∃ m', m' < m ∧ Inv s' m') ∧ files_New_l1 files1 ag x309 l310 r := ⟨_, fun _ h => h, hS (x309, l310) _ hI⟩
    clear hS hI
    refine xseq ?_
    refine xregion ?_
    refine xvalP (pv_bin2 rfl rfl rfl) rfl rfl ?_
    refine xnil ?_
    refine xthen ?_
    refine xseq ?_
    by_cases hp388 : x309 < (files1.length : Int)
    · replace h := h.1 hp388
      refine xcondT' (decide_eq_true hp388) rfl ?_
      refine xskipc ?_
      refine xthen ?_
      refine xseq ?_
      refine xblock ?_
      refine xseq ?_
      refine xregion ?_
      obtain ⟨h425a, h⟩ := h
      obtain ⟨y424, h425b, h⟩ := h
      refine xvalP (pv_indexAddrM h425a h425b UndC.h ShpC.h rfl rfl) rfl rfl ?_
      refine xval (qv_load ShpC.h rfl rfl rfl) rfl rfl ?_
      refine xalloc InfC.h rfl rfl fun b6 => ?_
      refine xstore 0 ShpC.h rfl rfl rfl rfl rfl rfl rfl ?_
      refine xnil ?_
      refine xthen ?_
      refine xseq ?_
      refine xseqM (fun σ => ∃ (x446 : Bool), files_New_j2 l310 y424 x309 ag1 x446 r ∧ σ = ⟨[(4, .v (.pointer (some ⟨b12, 0, none⟩))), (6, .v (.pointer (some ⟨b6, 0, none⟩))), (13, .sl 2 none (List.map E_palinode_api_File files1)), (14, .v (.int .i64 ((files1.length : Int)))), (15, .v (.int .i64 x309)), (28, .v (.bool x446))], [rbx i311 30 2 (List.map E_palinode_api_File l310), ⟨b12, 60, [.rb i311 l310.length]⟩, ⟨b6, 30, [.v (.string y424.1), .sl 1 none (List.map eb y424.2)]⟩], []⟩) ?_ ?_
      · refine xregion ?_
        refine xvalP (qv_fieldAddrB FldC.h rfl) rfl rfl ?_
        refine xval (qv_loadB 0 ShpC.h rfl rfl rfl rfl) rfl rfl ?_
        obtain ⟨y448, h447, h⟩ := h
        refine xcall0 (files_IsName_con y424.1 _ h447) Try.func10 (by kernel_rfl) rfl (.cons rfl (.refl _) .nil) rfl rfl ?_
        refine xvalP (pv_move rfl) rfl rfl ?_
        by_cases hp449 : y448 = true
        · replace h := h.1 hp449
          refine xsetB 22 hp449 rfl ?_
          refine xvalP (pv_move rfl) rfl rfl ?_
          refine xvalP (qv_fieldAddrB FldC.h rfl) rfl rfl ?_
          refine xval (qv_loadB 0 ShpC.h rfl rfl rfl rfl) rfl rfl ?_
          obtain ⟨y451, h450, h⟩ := h
          refine xcallF (Fb := [⟨b6, 30, [.v (.string y424.1), .sl 1 none (List.map eb y424.2)]⟩]) (Ft := []) (files_Table_at_con l310 y424.1 b12 i311 _ h450) Try.func29 (by kernel_rfl) rfl (.cons rfl (.refl _) (.cons rfl (.refl _) .nil)) (by refine SubM.trans (SubM.mvB 1 rfl) ?_; refine SubM.trans (SubM.mvB 2 rfl) ?_; (simp only [List.eraseIdx]); exact (SubM.of (by repeat (first | with_reducible exact SubB.refl _ | exact SubB.nil _ | refine SubB.keep rfl rfl (by first | with_reducible exact WkL.refl _ | ((repeat (first | exact WkL.nil | refine WkL.cons (by first | with_reducible exact Wk.refl _ | exact Wk.nil_own _ | exact Wk.nil_pl _ | with_reducible exact Wk.tok _ _ _ | exact Wk.tok _ _ _ | exact Wk.eq (by first | rfl | (simp []; done) | (simp []; omega))) ?_)); done) | exact WkL.refl _) ?_ | refine SubB.drop ?_)) (by repeat (first | exact SubT.nil _ | refine SubT.add ?_ | (refine SubT.keep ?_ ?_; focus (first | with_reducible rfl | (simp []; done))) | refine SubT.drop ?_)))) rfl rfl ?_
          rintro _ _ _ ⟨rfl, rfl, rfl⟩
          simp only [List.nil_append, List.cons_append]
          refine xvalP (pv_bin2 rfl rfl rfl) rfl rfl ?_
          refine xvalP (pv_pick rfl rfl) rfl rfl ?_
          refine xnil ?_
          exact xmeet ⟨(decide (0 ≤ y451)), h, rfl⟩ ⟨(.cons rfl (.refl _) (.cons rfl (.refl _) (.cons rfl (.refl _) (.cons rfl (.refl _) (.cons rfl (.refl _) (.cons rfl (.refl _) (.nil _))))))), by exact (SubM.of (.keep rfl rfl (.refl _) (.keep rfl rfl (.cons (.eq (by first | rfl | simp)) .nil) (.keep rfl rfl (.refl _) (.nil _)))) (.nil _))⟩
        · replace h := h.2 hp449
          refine xsetB 22 (b_f hp449) rfl ?_
          refine xskip rfl rfl ?_
          refine xskip rfl rfl ?_
          refine xskip rfl rfl ?_
          refine xskip rfl rfl ?_
          refine xskip rfl rfl ?_
          refine xvalP (pv_pick rfl rfl) rfl rfl ?_
          refine xnil ?_
          exact xmeet ⟨false, h, rfl⟩ ⟨(.cons rfl (.refl _) (.cons rfl (.refl _) (.cons rfl (.refl _) (.cons rfl (.refl _) (.cons rfl (.refl _) (.cons rfl (.refl _) (.nil _))))))), by refine SubM.trans (SubM.mvB 0 rfl) ?_; refine SubM.trans (SubM.mvB 2 rfl) ?_; refine SubM.trans (SubM.mvB 2 rfl) ?_; (simp only [List.eraseIdx]); exact (SubM.of (by repeat (first | with_reducible exact SubB.refl _ | exact SubB.nil _ | refine SubB.keep rfl rfl (by first | with_reducible exact WkL.refl _ | ((repeat (first | exact WkL.nil | refine WkL.cons (by first | with_reducible exact Wk.refl _ | exact Wk.nil_own _ | exact Wk.nil_pl _ | with_reducible exact Wk.tok _ _ _ | exact Wk.tok _ _ _ | exact Wk.eq (by first | rfl | (simp []; done) | (simp []; omega))) ?_)); done) | exact WkL.refl _) ?_ | refine SubB.drop ?_)) (by repeat (first | exact SubT.nil _ | refine SubT.add ?_ | (refine SubT.keep ?_ ?_; focus (first | with_reducible rfl | (simp []; done))) | refine SubT.drop ?_)))⟩
      · clear h
        rintro _ ⟨x446, h, rfl⟩
        by_cases hp453 : x446 = true
        · replace h := h.1 hp453
          refine xcondT' hp453 rfl ?_
          refine xseq ?_
          refine xregion ?_
          refine xvalP (pv_assign rfl) rfl rfl ?_
          refine xvalP (pv_assign rfl) rfl rfl ?_
          refine xnil ?_
          refine xthen ?_
          refine xretc ?_
          refine xthen_ret ?_
          refine xin_ret ?_
          refine xthen_ret ?_
          refine xthen_ret ?_
          refine xin_ret ?_
          refine xthen_ret ?_
          replace h := h.symm
          subst h
          exact xretL (rs := [.tmp 2, .tmp 3]) (ss := [.v (.pointer none), .v (.int .i64 5)]) (bx' := []) (tk' := []) hg rfl (by refine RetL.tmp rfl (.refl _) ?_; refine RetL.tmp rfl (.refl _) ?_; exact RetL.nil) (SubM.of (.nil _) (.nil _)) ⟨fun _ => ⟨rfl, rfl, rfl⟩, fun x hx => (by cases hx)⟩
        · replace h := h.2 hp453
          refine xcondF' (b_f hp453) rfl ?_
          refine xskipc ?_
          refine xthen ?_
          refine xseq ?_
          refine xregion ?_
          refine xvalP (pv_move rfl) rfl rfl ?_
          refine xvalP (qv_fieldAddrB FldC.h rfl) rfl rfl ?_
          refine xval (qv_loadB 2 ShpC.h rfl rfl rfl rfl) rfl rfl ?_
          refine xvalP (qv_fieldAddrB FldC.h rfl) rfl rfl ?_
          refine xval (qv_loadB 2 ShpC.h rfl rfl rfl rfl) rfl rfl ?_
          obtain ⟨y455, h454, h⟩ := h
          refine xcallF (Fb := [⟨b6, 30, [.v (.string y424.1), .sl 1 none (List.map eb y424.2)]⟩]) (Ft := []) (files_Table_Put_con l310 y424.1 y424.2 b12 i311 _ h454) Try.func12 (by kernel_rfl) rfl (.cons rfl (.refl _) (.cons rfl (.refl _) (.cons rfl (.refl _) .nil))) (by refine SubM.trans (SubM.mvB 0 rfl) ?_; refine SubM.trans (SubM.mvB 1 rfl) ?_; (simp only [List.eraseIdx]); exact (SubM.of (by repeat (first | with_reducible exact SubB.refl _ | exact SubB.nil _ | refine SubB.keep rfl rfl (by first | with_reducible exact WkL.refl _ | ((repeat (first | exact WkL.nil | refine WkL.cons (by first | with_reducible exact Wk.refl _ | exact Wk.nil_own _ | exact Wk.nil_pl _ | with_reducible exact Wk.tok _ _ _ | exact Wk.tok _ _ _ | exact Wk.eq (by first | rfl | (simp []; done) | (simp []; omega))) ?_)); done) | exact WkL.refl _) ?_ | refine SubB.drop ?_)) (by repeat (first | exact SubT.nil _ | refine SubT.add ?_ | (refine SubT.keep ?_ ?_; focus (first | with_reducible rfl | (simp []; done))) | refine SubT.drop ?_)))) rfl rfl ?_
          rintro _ _ _ ⟨i456, rfl, rfl, rfl⟩
          simp only [List.nil_append, List.cons_append]
          refine xvalP (pv_assign rfl) rfl rfl ?_
          refine xnil ?_
          refine xthen ?_
          refine xseq ?_
          refine xregion ?_
          refine xvalP (pv_move rfl) rfl rfl ?_
          refine xvalP (pv_bin2 rfl rfl rfl) rfl rfl ?_
          refine xnil ?_
          refine xthen ?_
          by_cases hp458 : ¬ (y455.1 = 0)
          · replace h := h.1 hp458
            refine xcondT' (not_t (decide_eq_false hp458)) rfl ?_
            refine xseq ?_
            refine xregion ?_
            refine xvalP (pv_move rfl) rfl rfl ?_
            refine xvalP (pv_assign rfl) rfl rfl ?_
            refine xvalP (pv_assign rfl) rfl rfl ?_
            refine xnil ?_
            refine xthen ?_
            refine xretc ?_
            refine xin_ret ?_
            refine xthen_ret ?_
            refine xthen_ret ?_
            refine xin_ret ?_
            refine xthen_ret ?_
            replace h := h.symm
            subst h
            exact xretL (rs := [.tmp 2, .tmp 3]) (ss := [.v (.pointer none), .v (.int .i64 y455.1)]) (bx' := []) (tk' := []) hg rfl (by refine RetL.tmp rfl (.refl _) ?_; refine RetL.tmp rfl (.refl _) ?_; exact RetL.nil) (SubM.of (.nil _) (.nil _)) ⟨fun _ => ⟨rfl, rfl, rfl⟩, fun x hx => (by cases hx)⟩
          · replace h := h.2 hp458
            refine xcondF' (not_f (decide_eq_true (Decidable.of_not_not hp458))) rfl ?_
            refine xskipc ?_
            refine xin_normal ?_
            refine xthen ?_
            refine xregion ?_
            obtain ⟨h459, h⟩ := h
            refine xvalP (pv_addI h459 rfl rfl) rfl rfl ?_
            refine xvalP (pv_move rfl) rfl rfl ?_
            refine xnil ?_
            obtain ⟨m', hm, hI⟩ := hag1 _ h
            exact xagain ⟨(x309 + 1), y455.2, i456, hI, rfl⟩ hm ⟨(.cons rfl (.refl _) (.cons rfl (.refl _) (.cons rfl (.refl _) (.cons rfl (.refl _) (.nil _))))), by exact (SubM.of (.keep rfl rfl (.refl _) (.keep rfl rfl (.cons (.eq (by first | rfl | simp)) .nil) (.nil _))) (.nil _))⟩
    · replace h := h.2 hp388
      refine xcondF' (decide_eq_false hp388) rfl ?_
      refine xexit ?_
      refine xthen_exit ?_
      refine xthen_exit ?_
      refine xin_same rfl ?_
      refine xthen ?_
      refine xseq ?_
      refine xregion ?_
      refine xvalP (pv_move rfl) rfl rfl ?_
      refine xvalP (pv_assign rfl) rfl rfl ?_
      refine xvalP (pv_assign rfl) rfl rfl ?_
      refine xnil ?_
      refine xthen ?_
      refine xretc ?_
      replace h := h.symm
      subst h
      exact xretL (rs := [.tmp 2, .tmp 3]) (ss := [.v (.pointer (some ⟨b12, 0, none⟩)), .v (.int .i64 0)]) (bx' := [rbx i311 30 2 (List.map E_palinode_api_File l310), ⟨b12, 60, [.rb i311 l310.length]⟩]) (tk' := []) hg rfl (by refine RetL.tmp rfl (.refl _) ?_; refine RetL.tmp rfl (.refl _) ?_; exact RetL.nil) (SubM.of (.keep rfl rfl (.refl _) (.keep rfl rfl (.cons (.eq (by first | rfl | simp)) .nil) (.nil _))) (.nil _)) ⟨fun hx => (by cases hx), fun x hx => (by cases hx; exact ⟨b12, i311, rfl, rfl, rfl⟩)⟩
/-- (*files.Table).Get -/
def files_Table_Get_R (l1 : List (ByteArray × (List UInt8))) (name3 : ByteArray) (r : (List UInt8) × Bool) : Prop :=
  ∃ y5 : Int, files_Table_at_R l1 name3 y5 ∧ ((y5 < 0 → r = (([] : List UInt8), false)) ∧ (¬ (y5 < 0) → 0 ≤ (y5 : Int) ∧ ∃ y10 : ByteArray × (List UInt8), l1[(y5 : Int).toNat]? = some y10 ∧ ∃ y13 : (List UInt8), slices_Clone_R y10.2 y13 ∧ r = (y13, true)))
def files_Table_Get_ev (fuel : Nat) (l1 : List (ByteArray × (List UInt8))) (name3 : ByteArray) : Option ((List UInt8) × Bool) :=
  ((files_Table_at_ev fuel l1 name3).bind fun y5 => (if y5 < 0 then some (([] : List UInt8), false) else (if 0 ≤ (y5 : Int) then ((l1[(y5 : Int).toNat]?).bind fun y10 => ((slices_Clone_ev fuel y10.2).bind fun y13 => some (y13, true))) else none)))
theorem files_Table_Get_ok {fuel : Nat} {l1 : List (ByteArray × (List UInt8))} {name3 : ByteArray} {r : (List UInt8) × Bool} (h : files_Table_Get_ev fuel l1 name3 = some r) : files_Table_Get_R l1 name3 r := by
  unfold files_Table_Get_ev at h
  unfold files_Table_Get_R
  obtain ⟨q42, g42, h⟩ := bind_ok h
  refine ⟨q42, files_Table_at_ok g42, ?_⟩
  refine ⟨fun g43 => ?_, fun g43 => ?_⟩
  · rw [if_pos g43] at h
    exact (Option.some.inj h).symm
  · rw [if_neg g43] at h
    obtain ⟨g44, h⟩ := if_ok h
    refine ⟨g44, ?_⟩
    obtain ⟨q45, g45, h⟩ := bind_ok h
    refine ⟨q45, g45, ?_⟩
    obtain ⟨q46, g46, h⟩ := bind_ok h
    refine ⟨q46, slices_Clone_ok g46, ?_⟩
    exact (Option.some.inj h).symm
set_option maxHeartbeats 4000000 in
theorem files_Table_Get_con (l1 : List (ByteArray × (List UInt8))) (name3 : ByteArray) (bx0 : Nat) (ia2 : Option (Nat × Nat)) (r : (List UInt8) × Bool) (h : files_Table_Get_R l1 name3 r) : Con Try.prog 25 [.v (.pointer (some ⟨bx0, 0, none⟩)), .v (.string name3)] [⟨bx0, 60, [.rb ia2 l1.length]⟩, rbx ia2 30 2 (List.map E_palinode_api_File l1)] [] (fun rr bx tk => ∃ j1, rr = .tup [.sl 1 (some j1) (List.map eb r.1), .v (.bool r.2)] ∧ bx = [rbx ia2 30 2 (List.map E_palinode_api_File l1), ⟨bx0, 60, [.rb ia2 l1.length]⟩] ∧ tk = [⟨j1, 5, 1, r.1.length⟩]) := by
  refine xenter Try.func25 rfl rfl fun g hg => ?_
  simp only [Try.ntmps25, slots]
  refine xseq ?_
  refine xregion ?_
  refine xvalP (pv_assign rfl) rfl rfl ?_
  refine xvalP (pv_assign rfl) rfl rfl ?_
  refine xnil ?_
  refine xthen ?_
  refine xseq ?_
  refine xregion ?_
  refine xvalP (pv_move rfl) rfl rfl ?_
  refine xvalP (pv_move rfl) rfl rfl ?_
  obtain ⟨y5, h4, h⟩ := h
  refine xcallF (Fb := []) (Ft := []) (files_Table_at_con l1 name3 bx0 ia2 _ h4) Try.func29 (by kernel_rfl) rfl (.cons rfl (.refl _) (.cons rfl (.refl _) .nil)) (by exact (SubM.of (by repeat (first | with_reducible exact SubB.refl _ | exact SubB.nil _ | refine SubB.keep rfl rfl (by first | with_reducible exact WkL.refl _ | ((repeat (first | exact WkL.nil | refine WkL.cons (by first | with_reducible exact Wk.refl _ | exact Wk.nil_own _ | exact Wk.nil_pl _ | with_reducible exact Wk.tok _ _ _ | exact Wk.tok _ _ _ | exact Wk.eq (by first | rfl | (simp []; done) | (simp []; omega))) ?_)); done) | exact WkL.refl _) ?_ | refine SubB.drop ?_)) (by repeat (first | exact SubT.nil _ | refine SubT.add ?_ | (refine SubT.keep ?_ ?_; focus (first | with_reducible rfl | (simp []; done))) | refine SubT.drop ?_)))) rfl rfl ?_
  rintro _ _ _ ⟨rfl, rfl, rfl⟩
  simp only [List.nil_append, List.cons_append]
  refine xvalP (pv_assign rfl) rfl rfl ?_
  refine xnil ?_
  refine xthen ?_
  refine xseq ?_
  refine xseq ?_
  refine xregion ?_
  refine xvalP (pv_move rfl) rfl rfl ?_
  refine xvalP (pv_bin2 rfl rfl rfl) rfl rfl ?_
  refine xnil ?_
  refine xthen ?_
  by_cases hp9 : y5 < 0
  · replace h := h.1 hp9
    refine xcondT' (decide_eq_true hp9) rfl ?_
    refine xseq ?_
    refine xregion ?_
    refine xvalP (pv_assign rfl) rfl rfl ?_
    refine xvalP (pv_assign rfl) rfl rfl ?_
    refine xnil ?_
    refine xthen ?_
    refine xretc ?_
    refine xthen_ret ?_
    replace h := h.symm
    subst h
    exact xret2 (bx' := [rbx ia2 30 2 (List.map E_palinode_api_File l1), ⟨bx0, 60, [.rb ia2 l1.length]⟩]) (tk' := [⟨none, 5, 1, (([] : List UInt8)).length⟩]) hg rfl rfl (.nil_own _) rfl (.refl _) (SubM.of (by repeat (first | with_reducible exact SubB.refl _ | exact SubB.nil _ | refine SubB.keep rfl rfl (by first | with_reducible exact WkL.refl _ | ((repeat (first | exact WkL.nil | refine WkL.cons (by first | with_reducible exact Wk.refl _ | exact Wk.nil_own _ | exact Wk.nil_pl _ | with_reducible exact Wk.tok _ _ _ | exact Wk.tok _ _ _ | exact Wk.eq (by first | rfl | (simp []; done) | (simp []; omega))) ?_)); done) | exact WkL.refl _) ?_ | refine SubB.drop ?_)) (by repeat (first | exact SubT.nil _ | refine SubT.add ?_ | (refine SubT.keep ?_ ?_; focus (first | with_reducible rfl | (simp []; done))) | refine SubT.drop ?_))) ⟨none, rfl, rfl, rfl⟩
  · replace h := h.2 hp9
    refine xcondF' (decide_eq_false hp9) rfl ?_
    refine xskipc ?_
    refine xthen ?_
    refine xseq ?_
    refine xregion ?_
    refine xvalP (pv_move rfl) rfl rfl ?_
    refine xvalP (pv_nilCheck rfl) rfl rfl ?_
    refine xvalP (qv_fieldAddrB FldC.h rfl) rfl rfl ?_
    refine xval (qv_loadB 1 ShpC.h rfl rfl rfl rfl) rfl rfl ?_
    refine xvalP (pv_move rfl) rfl rfl ?_
    obtain ⟨h11a, h⟩ := h
    obtain ⟨y10, h11b, h⟩ := h
    refine xvalP (pv_indexAddrRbM rfl h11a h11b UndC.h ShpC.h rfl rfl) rfl rfl ?_
    refine xvalP (qv_fieldAddrB FldC.h rfl) rfl rfl ?_
    refine xval (qv_loadRb (f := E_palinode_api_File) (k := 2) (off := 1) (i := (y5 : Int).toNat) 0 h11b rfl (by decide) rfl ShpC.h rfl rfl) rfl rfl ?_
    obtain ⟨y13, h12, h⟩ := h
    refine xcallM (slices_Clone_con y10.2 _ h12) Try.func30 (by kernel_rfl) rfl (.cons rfl (.refl _) .nil) rfl rfl fun i14 => ?_
    refine xvalP (pv_assign rfl) rfl rfl ?_
    refine xvalP (pv_assign rfl) rfl rfl ?_
    refine xnil ?_
    refine xthen ?_
    refine xretc ?_
    replace h := h.symm
    subst h
    exact xret2 (bx' := [rbx ia2 30 2 (List.map E_palinode_api_File l1), ⟨bx0, 60, [.rb ia2 l1.length]⟩]) (tk' := [⟨i14, 5, 1, y13.length⟩]) hg rfl rfl (.refl _) rfl (.refl _) (SubM.of (.keep rfl rfl (.refl _) (.keep rfl rfl (.cons (.eq (by first | rfl | simp)) .nil) (.nil _))) (.keep rfl (.nil _))) ⟨i14, rfl, rfl, rfl⟩
/-- (*files.Table).Add -/
def files_Table_Add_j2 (bv301 : List UInt8) (y413 : List UInt8) (x303 : Int) (ag1 : ((List UInt8) × Int) → Prop) (r : Int × (List (ByteArray × (List UInt8)))) : Prop :=
  Room (bv301.length + y413.length) 1 ∧ InR (x303 + 1) ∧ ag1 ((bv301 ++ y413), (x303 + 1))
def files_Table_Add_l1 (pieces4 : List (List UInt8)) (name3 : ByteArray) (l1 : List (ByteArray × (List UInt8))) (ag1 : ((List UInt8) × Int) → Prop) (bv301 : List UInt8) (x303 : Int) (r : Int × (List (ByteArray × (List UInt8)))) : Prop :=
  ((x303 < (pieces4.length : Int) → 0 ≤ (x303 : Int) ∧ ∃ y413 : List UInt8, pieces4[(x303 : Int).toNat]? = some y413 ∧ ∃ y438 : Bool, files_IsName_R name3 y438 ∧ ((y438 = true → InR (65536 - (bv301.length : Int)) ∧ (((65536 - (bv301.length : Int)) < (y413.length : Int) → r = (8, l1)) ∧ (¬ ((65536 - (bv301.length : Int)) < (y413.length : Int)) → files_Table_Add_j2 bv301 y413 x303 ag1 r))) ∧ (¬ (y438 = true) → files_Table_Add_j2 bv301 y413 x303 ag1 r))) ∧ (¬ (x303 < (pieces4.length : Int)) → ∃ y449 : Int × (List (ByteArray × (List UInt8))), files_Table_Put_R l1 name3 bv301 y449 ∧ r = (y449.1, y449.2)))
def files_Table_Add_R (l1 : List (ByteArray × (List UInt8))) (name3 : ByteArray) (pieces4 : List (List UInt8)) (r : Int × (List (ByteArray × (List UInt8)))) : Prop :=
  ∃ y6 : (List UInt8) × Bool, files_Table_Get_R l1 name3 y6 ∧ LoopR (fun ag1 s => files_Table_Add_l1 pieces4 name3 l1 ag1 s.1 s.2 r) (y6.1, 0)
def files_Table_Add_j2_ev (fuel : Nat) (bv301 : List UInt8) (y413 : List UInt8) (x303 : Int) (ag1e : ((List UInt8) × Int) → Option (Int × (List (ByteArray × (List UInt8))))) : Option (Int × (List (ByteArray × (List UInt8)))) :=
  (if Room (bv301.length + y413.length) 1 then (if InR (x303 + 1) then ag1e ((bv301 ++ y413), (x303 + 1)) else none) else none)
theorem files_Table_Add_j2_ok {fuel : Nat} {bv301 : List UInt8} {y413 : List UInt8} {x303 : Int} {ag1 : ((List UInt8) × Int) → Prop} {ag1e : ((List UInt8) × Int) → Option (Int × (List (ByteArray × (List UInt8))))} {r : Int × (List (ByteArray × (List UInt8)))} (hagag1 : ∀ s, ag1e s = some r → ag1 s) (h : files_Table_Add_j2_ev fuel bv301 y413 x303 ag1e = some r) : files_Table_Add_j2 bv301 y413 x303 ag1 r := by
  unfold files_Table_Add_j2_ev at h
  unfold files_Table_Add_j2
  obtain ⟨g47, h⟩ := if_ok h
  refine ⟨g47, ?_⟩
  obtain ⟨g48, h⟩ := if_ok h
  refine ⟨g48, ?_⟩
  exact hagag1 _ h
def files_Table_Add_l1_ev (fuel : Nat) (pieces4 : List (List UInt8)) (name3 : ByteArray) (l1 : List (ByteArray × (List UInt8))) (ag1e : ((List UInt8) × Int) → Option (Int × (List (ByteArray × (List UInt8))))) (bv301 : List UInt8) (x303 : Int) : Option (Int × (List (ByteArray × (List UInt8)))) :=
  (if x303 < (pieces4.length : Int) then (if 0 ≤ (x303 : Int) then ((pieces4[(x303 : Int).toNat]?).bind fun y413 => ((files_IsName_ev fuel name3).bind fun y438 => (if y438 = true then (if InR (65536 - (bv301.length : Int)) then (if (65536 - (bv301.length : Int)) < (y413.length : Int) then some (8, l1) else files_Table_Add_j2_ev fuel bv301 y413 x303 ag1e) else none) else files_Table_Add_j2_ev fuel bv301 y413 x303 ag1e))) else none) else ((files_Table_Put_ev fuel l1 name3 bv301).bind fun y449 => some (y449.1, y449.2)))
theorem files_Table_Add_l1_ok {fuel : Nat} {pieces4 : List (List UInt8)} {name3 : ByteArray} {l1 : List (ByteArray × (List UInt8))} {ag1e : ((List UInt8) × Int) → Option (Int × (List (ByteArray × (List UInt8))))} {ag1 : ((List UInt8) × Int) → Prop} {bv301 : List UInt8} {x303 : Int} {r : Int × (List (ByteArray × (List UInt8)))} (hagag1 : ∀ s, ag1e s = some r → ag1 s) (h : files_Table_Add_l1_ev fuel pieces4 name3 l1 ag1e bv301 x303 = some r) : files_Table_Add_l1 pieces4 name3 l1 ag1 bv301 x303 r := by
  unfold files_Table_Add_l1_ev at h
  unfold files_Table_Add_l1
  refine ⟨fun g49 => ?_, fun g49 => ?_⟩
  · rw [if_pos g49] at h
    obtain ⟨g50, h⟩ := if_ok h
    refine ⟨g50, ?_⟩
    obtain ⟨q51, g51, h⟩ := bind_ok h
    refine ⟨q51, g51, ?_⟩
    obtain ⟨q52, g52, h⟩ := bind_ok h
    refine ⟨q52, files_IsName_ok g52, ?_⟩
    refine ⟨fun g53 => ?_, fun g53 => ?_⟩
    · rw [if_pos g53] at h
      obtain ⟨g54, h⟩ := if_ok h
      refine ⟨g54, ?_⟩
      refine ⟨fun g55 => ?_, fun g55 => ?_⟩
      · rw [if_pos g55] at h
        exact (Option.some.inj h).symm
      · rw [if_neg g55] at h
        exact files_Table_Add_j2_ok hagag1 h
    · rw [if_neg g53] at h
      exact files_Table_Add_j2_ok hagag1 h
  · rw [if_neg g49] at h
    obtain ⟨q56, g56, h⟩ := bind_ok h
    refine ⟨q56, files_Table_Put_ok g56, ?_⟩
    exact (Option.some.inj h).symm
def files_Table_Add_ev (fuel : Nat) (l1 : List (ByteArray × (List UInt8))) (name3 : ByteArray) (pieces4 : List (List UInt8)) : Option (Int × (List (ByteArray × (List UInt8)))) :=
  ((files_Table_Get_ev fuel l1 name3).bind fun y6 => (loopE (fun ag1e s => files_Table_Add_l1_ev fuel pieces4 name3 l1 ag1e s.1 s.2) fuel (y6.1, 0)))
theorem files_Table_Add_ok {fuel : Nat} {l1 : List (ByteArray × (List UInt8))} {name3 : ByteArray} {pieces4 : List (List UInt8)} {r : Int × (List (ByteArray × (List UInt8)))} (h : files_Table_Add_ev fuel l1 name3 pieces4 = some r) : files_Table_Add_R l1 name3 pieces4 r := by
  unfold files_Table_Add_ev at h
  unfold files_Table_Add_R
  obtain ⟨q57, g57, h⟩ := bind_ok h
  refine ⟨q57, files_Table_Get_ok g57, ?_⟩
  refine loopE_ok ?_ h
  intro ae ag s hag h
  exact files_Table_Add_l1_ok hag h
set_option maxHeartbeats 4000000 in
theorem files_Table_Add_con (l1 : List (ByteArray × (List UInt8))) (name3 : ByteArray) (pieces4 : List (List UInt8)) (bx0 : Nat) (ia2 : Option (Nat × Nat)) (r : Int × (List (ByteArray × (List UInt8)))) (h : files_Table_Add_R l1 name3 pieces4 r) : Con Try.prog 11 [.v (.pointer (some ⟨bx0, 0, none⟩)), .v (.string name3), .sl 1 none (List.map E_uint8 pieces4)] [⟨bx0, 60, [.rb ia2 l1.length]⟩, rbx ia2 30 2 (List.map E_palinode_api_File l1)] [] (fun rr bx tk => ∃ j1, rr = .v (.int .i64 r.1) ∧ bx = [rbx j1 30 2 (List.map E_palinode_api_File r.2), ⟨bx0, 60, [.rb j1 r.2.length]⟩] ∧ tk = []) := by
  refine xenter Try.func11 rfl rfl fun g hg => ?_
  simp only [Try.ntmps11, slots]
  refine xseq ?_
  refine xregion ?_
  refine xvalP (pv_assign rfl) rfl rfl ?_
  refine xnil ?_
  refine xthen ?_
  refine xseq ?_
  refine xregion ?_
  refine xvalP (pv_move rfl) rfl rfl ?_
  refine xvalP (pv_move rfl) rfl rfl ?_
  obtain ⟨y6, h5, h⟩ := h
  refine xcallF (Fb := []) (Ft := []) (files_Table_Get_con l1 name3 bx0 ia2 _ h5) Try.func25 (by kernel_rfl) rfl (.cons rfl (.refl _) (.cons rfl (.refl _) .nil)) (by exact (SubM.of (by repeat (first | with_reducible exact SubB.refl _ | exact SubB.nil _ | refine SubB.keep rfl rfl (by first | with_reducible exact WkL.refl _ | ((repeat (first | exact WkL.nil | refine WkL.cons (by first | with_reducible exact Wk.refl _ | exact Wk.nil_own _ | exact Wk.nil_pl _ | with_reducible exact Wk.tok _ _ _ | exact Wk.tok _ _ _ | exact Wk.eq (by first | rfl | (simp []; done) | (simp []; omega))) ?_)); done) | exact WkL.refl _) ?_ | refine SubB.drop ?_)) (by repeat (first | exact SubT.nil _ | refine SubT.add ?_ | (refine SubT.keep ?_ ?_; focus (first | with_reducible rfl | (simp []; done))) | refine SubT.drop ?_)))) rfl rfl ?_
  rintro _ _ _ ⟨i7, rfl, rfl, rfl⟩
  simp only [List.nil_append, List.cons_append]
  refine xvalP (pv_move rfl) rfl rfl ?_
  refine xvalP (pv_extract rfl rfl) rfl rfl ?_
  refine xvalP (pv_extract rfl rfl) rfl rfl ?_
  refine xvalP (pv_assign rfl) rfl rfl ?_
  refine xvalP (pv_assign rfl) rfl rfl ?_
  refine xnil ?_
  refine xthen ?_
  refine xseq ?_
  refine xseq ?_
  refine xregion ?_
  refine xvalP (pv_move rfl) rfl rfl ?_
  refine xvalP (pv_lenM UndC.h rfl) rfl rfl ?_
  refine xvalP (pv_move rfl) rfl rfl ?_
  refine xnil ?_
  refine xthen ?_
  refine xblock ?_
  obtain ⟨Inv, ⟨m0, hI⟩, hS⟩ := h
  refine xloop (fun σ m => ∃ (bv301 : List UInt8), ∃ (x303 : Int), ∃ (i302 : Option (Nat × Nat)), Inv (bv301, x303) m ∧ σ = ⟨[(0, .v (.pointer (some ⟨bx0, 0, none⟩))), (1, .v (.string name3)), (7, .sl 1 (some i302) (List.map eb bv301)), (17, .sl 1 none (List.map E_uint8 pieces4)), (18, .v (.int .i64 ((pieces4.length : Int)))), (19, .v (.int .i64 x303))], [rbx ia2 30 2 (List.map E_palinode_api_File l1), ⟨bx0, 60, [.rb ia2 l1.length]⟩], [⟨i302, 5, 1, bv301.length⟩]⟩) ⟨y6.1, 0, i7, hI, rfl⟩ ⟨(.cons rfl (.refl _) (.cons rfl (.refl _) (.cons rfl (.refl _) (.cons rfl (.refl _) (.cons rfl (.refl _) (.cons rfl (.refl _) (.nil _))))))), by exact (SubM.of (.keep rfl rfl (.refl _) (.keep rfl rfl (.cons (.eq (by first | rfl | simp)) .nil) (.nil _))) (.keep rfl (.nil _)))⟩ ?_
  rintro _ m ⟨bv301, x303, i302, hI, rfl⟩
  obtain ⟨ag1, hag1, h⟩ : ∃ ag, (∀ s', ag s' → ∃ m', m' < m ∧ Inv s' m') ∧ files_Table_Add_l1 pieces4 name3 l1 ag bv301 x303 r := ⟨_, fun _ h => h, hS (bv301, x303) _ hI⟩
  clear hS hI
  refine xseq ?_
  refine xregion ?_
  refine xvalP (pv_bin2 rfl rfl rfl) rfl rfl ?_
  refine xnil ?_
  refine xthen ?_
  refine xseq ?_
  by_cases hp378 : x303 < (pieces4.length : Int)
  · replace h := h.1 hp378
    refine xcondT' (decide_eq_true hp378) rfl ?_
    refine xskipc ?_
    refine xthen ?_
    refine xseq ?_
    refine xblock ?_
    refine xseq ?_
    refine xregion ?_
    obtain ⟨h414a, h⟩ := h
    obtain ⟨y413, h414b, h⟩ := h
    refine xvalP (pv_indexAddrM h414a h414b UndC.h ShpC.h rfl rfl) rfl rfl ?_
    refine xval (qv_load ShpC.h rfl rfl rfl) rfl rfl ?_
    refine xvalP (pv_assign rfl) rfl rfl ?_
    refine xnil ?_
    refine xthen ?_
    refine xseqM (fun σ => files_Table_Add_j2 bv301 y413 x303 ag1 r ∧ σ = ⟨[(0, .v (.pointer (some ⟨bx0, 0, none⟩))), (1, .v (.string name3)), (7, .sl 1 (some i302) (List.map eb bv301)), (10, .sl 1 none (List.map eb y413)), (17, .sl 1 none (List.map E_uint8 pieces4)), (18, .v (.int .i64 ((pieces4.length : Int)))), (19, .v (.int .i64 x303))], [rbx ia2 30 2 (List.map E_palinode_api_File l1), ⟨bx0, 60, [.rb ia2 l1.length]⟩], [⟨i302, 5, 1, bv301.length⟩]⟩) ?_ ?_
    · refine xseq ?_
      refine xregion ?_
      refine xvalP (pv_move rfl) rfl rfl ?_
      obtain ⟨y438, h437, h⟩ := h
      refine xcall0 (files_IsName_con name3 _ h437) Try.func10 (by kernel_rfl) rfl (.cons rfl (.refl _) .nil) rfl rfl ?_
      refine xvalP (pv_move rfl) rfl rfl ?_
      by_cases hp439 : y438 = true
      · replace h := h.1 hp439
        refine xsetB 25 hp439 rfl ?_
        refine xvalP (pv_move rfl) rfl rfl ?_
        refine xvalP (pv_lenM UndC.h rfl) rfl rfl ?_
        refine xvalP (pv_move rfl) rfl rfl ?_
        refine xvalP (pv_lenM UndC.h rfl) rfl rfl ?_
        obtain ⟨h442, h⟩ := h
        refine xvalP (pv_subI h442 rfl rfl) rfl rfl ?_
        refine xvalP (pv_bin2 rfl rfl rfl) rfl rfl ?_
        refine xvalP (pv_pick rfl rfl) rfl rfl ?_
        refine xnil ?_
        refine xthen ?_
        by_cases hp444 : (65536 - (bv301.length : Int)) < (y413.length : Int)
        · replace h := h.1 hp444
          refine xcondT' (decide_eq_true hp444) rfl ?_
          refine xseq ?_
          refine xregion ?_
          refine xvalP (pv_assign rfl) rfl rfl ?_
          refine xnil ?_
          refine xthen ?_
          refine xretc ?_
          refine xthen_ret ?_
          refine xin_ret ?_
          refine xthen_ret ?_
          refine xthen_ret ?_
          refine xin_ret ?_
          refine xthen_ret ?_
          replace h := h.symm
          subst h
          exact xret1 (bx' := [rbx ia2 30 2 (List.map E_palinode_api_File l1), ⟨bx0, 60, [.rb ia2 l1.length]⟩]) (tk' := []) hg rfl rfl (.refl _) (SubM.of (.keep rfl rfl (.refl _) (.keep rfl rfl (.cons (.eq (by first | rfl | simp)) .nil) (.nil _))) (.nil _)) ⟨ia2, rfl, rfl, rfl⟩
        · replace h := h.2 hp444
          refine xcondF' (decide_eq_false hp444) rfl ?_
          refine xskipc ?_
          exact xmeet ⟨h, rfl⟩ ⟨(.cons rfl (.refl _) (.cons rfl (.refl _) (.cons rfl (.refl _) (.cons rfl (.refl _) (.cons rfl (.refl _) (.cons rfl (.refl _) (.cons rfl (.refl _) (.nil _)))))))), by exact (SubM.of (.keep rfl rfl (.refl _) (.keep rfl rfl (.cons (.eq (by first | rfl | simp)) .nil) (.nil _))) (.keep rfl (.nil _)))⟩
      · replace h := h.2 hp439
        refine xsetB 25 (b_f hp439) rfl ?_
        refine xskip rfl rfl ?_
        refine xskip rfl rfl ?_
        refine xskip rfl rfl ?_
        refine xskip rfl rfl ?_
        refine xskip rfl rfl ?_
        refine xskip rfl rfl ?_
        refine xvalP (pv_pick rfl rfl) rfl rfl ?_
        refine xnil ?_
        refine xthen ?_
        refine xcondF rfl ?_
        refine xskipc ?_
        exact xmeet ⟨h, rfl⟩ ⟨(.cons rfl (.refl _) (.cons rfl (.refl _) (.cons rfl (.refl _) (.cons rfl (.refl _) (.cons rfl (.refl _) (.cons rfl (.refl _) (.cons rfl (.refl _) (.nil _)))))))), by exact (SubM.of (.keep rfl rfl (.refl _) (.keep rfl rfl (.cons (.eq (by first | rfl | simp)) .nil) (.nil _))) (.keep rfl (.nil _)))⟩
    · clear h
      rintro _ ⟨h, rfl⟩
      refine xregion ?_
      refine xvalP (pv_move rfl) rfl rfl ?_
      refine xvalP (pv_move rfl) rfl rfl ?_
      obtain ⟨h445, h⟩ := h
      refine xappendM (l := bv301) (l2 := y413) 0 h445 UndC.h InfC.h rfl rfl rfl (.refl _) rfl rfl rfl fun i446 => ?_
      refine xvalP (pv_assign rfl) rfl rfl ?_
      refine xnil ?_
      refine xin_normal ?_
      refine xthen ?_
      refine xregion ?_
      obtain ⟨h447, h⟩ := h
      refine xvalP (pv_addI h447 rfl rfl) rfl rfl ?_
      refine xvalP (pv_move rfl) rfl rfl ?_
      refine xnil ?_
      obtain ⟨m', hm, hI⟩ := hag1 _ h
      exact xagain ⟨(bv301 ++ y413), (x303 + 1), i446, hI, rfl⟩ hm ⟨(.cons rfl (.refl _) (.cons rfl (.refl _) (.cons rfl (.refl _) (.cons rfl (.refl _) (.cons rfl (.refl _) (.cons rfl (.refl _) (.nil _))))))), by exact (SubM.of (.keep rfl rfl (.refl _) (.keep rfl rfl (.cons (.eq (by first | rfl | simp)) .nil) (.nil _))) (.keep rfl (.nil _)))⟩
  · replace h := h.2 hp378
    refine xcondF' (decide_eq_false hp378) rfl ?_
    refine xexit ?_
    refine xthen_exit ?_
    refine xthen_exit ?_
    refine xin_same rfl ?_
    refine xthen ?_
    refine xseq ?_
    refine xregion ?_
    refine xvalP (pv_move rfl) rfl rfl ?_
    refine xvalP (pv_move rfl) rfl rfl ?_
    refine xvalP (pv_move rfl) rfl rfl ?_
    obtain ⟨y449, h448, h⟩ := h
    refine xcallF (Fb := []) (Ft := [⟨i302, 5, 1, bv301.length⟩]) (files_Table_Put_con l1 name3 bv301 bx0 ia2 _ h448) Try.func12 (by kernel_rfl) rfl (.cons rfl (.refl _) (.cons rfl (.refl _) (.cons rfl (.tok _ _ _) .nil))) (by refine SubM.trans (SubM.mvB 0 rfl) ?_; refine SubM.trans (SubM.mvB 1 rfl) ?_; (simp only [List.eraseIdx]); exact (SubM.of (by repeat (first | with_reducible exact SubB.refl _ | exact SubB.nil _ | refine SubB.keep rfl rfl (by first | with_reducible exact WkL.refl _ | ((repeat (first | exact WkL.nil | refine WkL.cons (by first | with_reducible exact Wk.refl _ | exact Wk.nil_own _ | exact Wk.nil_pl _ | with_reducible exact Wk.tok _ _ _ | exact Wk.tok _ _ _ | exact Wk.eq (by first | rfl | (simp []; done) | (simp []; omega))) ?_)); done) | exact WkL.refl _) ?_ | refine SubB.drop ?_)) (by repeat (first | exact SubT.nil _ | refine SubT.add ?_ | (refine SubT.keep ?_ ?_; focus (first | with_reducible rfl | (simp []; done))) | refine SubT.drop ?_)))) rfl rfl ?_
    rintro _ _ _ ⟨i450, rfl, rfl, rfl⟩
    simp only [List.nil_append, List.cons_append]
    refine xvalP (pv_assign rfl) rfl rfl ?_
    refine xnil ?_
    refine xthen ?_
    refine xretc ?_
    replace h := h.symm
    subst h
    exact xret1 (bx' := [rbx i450 30 2 (List.map E_palinode_api_File y449.2), ⟨bx0, 60, [.rb i450 y449.2.length]⟩]) (tk' := []) hg rfl rfl (.refl _) (SubM.of (.keep rfl rfl (.refl _) (.keep rfl rfl (.cons (.eq (by first | rfl | simp)) .nil) (.nil _))) (.nil _)) ⟨i450, rfl, rfl, rfl⟩
/-- (*files.Table).Len -/
def files_Table_Len_R (l1 : List (ByteArray × (List UInt8))) (name3 : ByteArray) (r : Int) : Prop :=
  ∃ y5 : Int, files_Table_at_R l1 name3 y5 ∧ ((y5 < 0 → r = (-1)) ∧ (¬ (y5 < 0) → 0 ≤ (y5 : Int) ∧ ∃ y10 : ByteArray × (List UInt8), l1[(y5 : Int).toNat]? = some y10 ∧ r = (y10.2.length : Int)))
def files_Table_Len_ev (fuel : Nat) (l1 : List (ByteArray × (List UInt8))) (name3 : ByteArray) : Option (Int) :=
  ((files_Table_at_ev fuel l1 name3).bind fun y5 => (if y5 < 0 then some (-1) else (if 0 ≤ (y5 : Int) then ((l1[(y5 : Int).toNat]?).bind fun y10 => some (y10.2.length : Int)) else none)))
theorem files_Table_Len_ok {fuel : Nat} {l1 : List (ByteArray × (List UInt8))} {name3 : ByteArray} {r : Int} (h : files_Table_Len_ev fuel l1 name3 = some r) : files_Table_Len_R l1 name3 r := by
  unfold files_Table_Len_ev at h
  unfold files_Table_Len_R
  obtain ⟨q58, g58, h⟩ := bind_ok h
  refine ⟨q58, files_Table_at_ok g58, ?_⟩
  refine ⟨fun g59 => ?_, fun g59 => ?_⟩
  · rw [if_pos g59] at h
    exact (Option.some.inj h).symm
  · rw [if_neg g59] at h
    obtain ⟨g60, h⟩ := if_ok h
    refine ⟨g60, ?_⟩
    obtain ⟨q61, g61, h⟩ := bind_ok h
    refine ⟨q61, g61, ?_⟩
    exact (Option.some.inj h).symm
set_option maxHeartbeats 4000000 in
theorem files_Table_Len_con (l1 : List (ByteArray × (List UInt8))) (name3 : ByteArray) (bx0 : Nat) (ia2 : Option (Nat × Nat)) (r : Int) (h : files_Table_Len_R l1 name3 r) : Con Try.prog 14 [.v (.pointer (some ⟨bx0, 0, none⟩)), .v (.string name3)] [⟨bx0, 60, [.rb ia2 l1.length]⟩, rbx ia2 30 2 (List.map E_palinode_api_File l1)] [] (fun rr bx tk => rr = .v (.int .i64 r) ∧ bx = [rbx ia2 30 2 (List.map E_palinode_api_File l1), ⟨bx0, 60, [.rb ia2 l1.length]⟩] ∧ tk = []) := by
  refine xenter Try.func14 rfl rfl fun g hg => ?_
  simp only [Try.ntmps14, slots]
  refine xseq ?_
  refine xregion ?_
  refine xvalP (pv_assign rfl) rfl rfl ?_
  refine xnil ?_
  refine xthen ?_
  refine xseq ?_
  refine xregion ?_
  refine xvalP (pv_move rfl) rfl rfl ?_
  refine xvalP (pv_move rfl) rfl rfl ?_
  obtain ⟨y5, h4, h⟩ := h
  refine xcallF (Fb := []) (Ft := []) (files_Table_at_con l1 name3 bx0 ia2 _ h4) Try.func29 (by kernel_rfl) rfl (.cons rfl (.refl _) (.cons rfl (.refl _) .nil)) (by exact (SubM.of (by repeat (first | with_reducible exact SubB.refl _ | exact SubB.nil _ | refine SubB.keep rfl rfl (by first | with_reducible exact WkL.refl _ | ((repeat (first | exact WkL.nil | refine WkL.cons (by first | with_reducible exact Wk.refl _ | exact Wk.nil_own _ | exact Wk.nil_pl _ | with_reducible exact Wk.tok _ _ _ | exact Wk.tok _ _ _ | exact Wk.eq (by first | rfl | (simp []; done) | (simp []; omega))) ?_)); done) | exact WkL.refl _) ?_ | refine SubB.drop ?_)) (by repeat (first | exact SubT.nil _ | refine SubT.add ?_ | (refine SubT.keep ?_ ?_; focus (first | with_reducible rfl | (simp []; done))) | refine SubT.drop ?_)))) rfl rfl ?_
  rintro _ _ _ ⟨rfl, rfl, rfl⟩
  simp only [List.nil_append, List.cons_append]
  refine xvalP (pv_assign rfl) rfl rfl ?_
  refine xnil ?_
  refine xthen ?_
  refine xseq ?_
  refine xseq ?_
  refine xregion ?_
  refine xvalP (pv_move rfl) rfl rfl ?_
  refine xvalP (pv_bin2 rfl rfl rfl) rfl rfl ?_
  refine xnil ?_
  refine xthen ?_
  by_cases hp9 : y5 < 0
  · replace h := h.1 hp9
    refine xcondT' (decide_eq_true hp9) rfl ?_
    refine xseq ?_
    refine xregion ?_
    refine xvalP (pv_assign rfl) rfl rfl ?_
    refine xnil ?_
    refine xthen ?_
    refine xretc ?_
    refine xthen_ret ?_
    replace h := h.symm
    subst h
    exact xret1 (bx' := [rbx ia2 30 2 (List.map E_palinode_api_File l1), ⟨bx0, 60, [.rb ia2 l1.length]⟩]) (tk' := []) hg rfl rfl (.refl _) (SubM.of (.keep rfl rfl (.refl _) (.keep rfl rfl (.cons (.eq (by first | rfl | simp)) .nil) (.nil _))) (.nil _)) ⟨rfl, rfl, rfl⟩
  · replace h := h.2 hp9
    refine xcondF' (decide_eq_false hp9) rfl ?_
    refine xskipc ?_
    refine xthen ?_
    refine xseq ?_
    refine xregion ?_
    refine xvalP (pv_move rfl) rfl rfl ?_
    refine xvalP (pv_nilCheck rfl) rfl rfl ?_
    refine xvalP (qv_fieldAddrB FldC.h rfl) rfl rfl ?_
    refine xval (qv_loadB 1 ShpC.h rfl rfl rfl rfl) rfl rfl ?_
    refine xvalP (pv_move rfl) rfl rfl ?_
    obtain ⟨h11a, h⟩ := h
    obtain ⟨y10, h11b, h⟩ := h
    refine xvalP (pv_indexAddrRbM rfl h11a h11b UndC.h ShpC.h rfl rfl) rfl rfl ?_
    refine xvalP (qv_fieldAddrB FldC.h rfl) rfl rfl ?_
    refine xval (qv_loadRb (f := E_palinode_api_File) (k := 2) (off := 1) (i := (y5 : Int).toNat) 0 h11b rfl (by decide) rfl ShpC.h rfl rfl) rfl rfl ?_
    refine xvalP (pv_lenM UndC.h rfl) rfl rfl ?_
    refine xvalP (pv_assign rfl) rfl rfl ?_
    refine xnil ?_
    refine xthen ?_
    refine xretc ?_
    replace h := h.symm
    subst h
    exact xret1 (bx' := [rbx ia2 30 2 (List.map E_palinode_api_File l1), ⟨bx0, 60, [.rb ia2 l1.length]⟩]) (tk' := []) hg rfl rfl (.refl _) (SubM.of (.keep rfl rfl (.refl _) (.keep rfl rfl (.cons (.eq (by first | rfl | simp)) .nil) (.nil _))) (.nil _)) ⟨rfl, rfl, rfl⟩
/-- (*files.Table).All -/
def files_Table_All_l1 (l1 : List (ByteArray × (List UInt8))) (ag1 : ((List (ByteArray × (List UInt8))) × Int) → Prop) (out96 : List (ByteArray × (List UInt8))) (x98 : Int) (r : (List (ByteArray × (List UInt8)))) : Prop :=
  ((x98 < ((l1.length : Nat) : Int) → 0 ≤ (x98 : Int) ∧ ∃ y133 : ByteArray × (List UInt8), l1[(x98 : Int).toNat]? = some y133 ∧ ∃ y136 : (List UInt8), slices_Clone_R y133.2 y136 ∧ Room (out96.length + ([(y133.1, y136)]).length) 40 ∧ InR (x98 + 1) ∧ ag1 ((out96 ++ [(y133.1, y136)]), (x98 + 1))) ∧ (¬ (x98 < ((l1.length : Nat) : Int)) → r = out96))
def files_Table_All_R (l1 : List (ByteArray × (List UInt8))) (r : (List (ByteArray × (List UInt8)))) : Prop :=
  LoopR (fun ag1 s => files_Table_All_l1 l1 ag1 s.1 s.2 r) (([] : List (ByteArray × (List UInt8))), 0)
def files_Table_All_l1_ev (fuel : Nat) (l1 : List (ByteArray × (List UInt8))) (ag1e : ((List (ByteArray × (List UInt8))) × Int) → Option ((List (ByteArray × (List UInt8))))) (out96 : List (ByteArray × (List UInt8))) (x98 : Int) : Option ((List (ByteArray × (List UInt8)))) :=
  (if x98 < ((l1.length : Nat) : Int) then (if 0 ≤ (x98 : Int) then ((l1[(x98 : Int).toNat]?).bind fun y133 => ((slices_Clone_ev fuel y133.2).bind fun y136 => (if Room (out96.length + ([(y133.1, y136)]).length) 40 then (if InR (x98 + 1) then ag1e ((out96 ++ [(y133.1, y136)]), (x98 + 1)) else none) else none))) else none) else some out96)
theorem files_Table_All_l1_ok {fuel : Nat} {l1 : List (ByteArray × (List UInt8))} {ag1e : ((List (ByteArray × (List UInt8))) × Int) → Option ((List (ByteArray × (List UInt8))))} {ag1 : ((List (ByteArray × (List UInt8))) × Int) → Prop} {out96 : List (ByteArray × (List UInt8))} {x98 : Int} {r : (List (ByteArray × (List UInt8)))} (hagag1 : ∀ s, ag1e s = some r → ag1 s) (h : files_Table_All_l1_ev fuel l1 ag1e out96 x98 = some r) : files_Table_All_l1 l1 ag1 out96 x98 r := by
  unfold files_Table_All_l1_ev at h
  unfold files_Table_All_l1
  refine ⟨fun g62 => ?_, fun g62 => ?_⟩
  · rw [if_pos g62] at h
    obtain ⟨g63, h⟩ := if_ok h
    refine ⟨g63, ?_⟩
    obtain ⟨q64, g64, h⟩ := bind_ok h
    refine ⟨q64, g64, ?_⟩
    obtain ⟨q65, g65, h⟩ := bind_ok h
    refine ⟨q65, slices_Clone_ok g65, ?_⟩
    obtain ⟨g66, h⟩ := if_ok h
    refine ⟨g66, ?_⟩
    obtain ⟨g67, h⟩ := if_ok h
    refine ⟨g67, ?_⟩
    exact hagag1 _ h
  · rw [if_neg g62] at h
    exact (Option.some.inj h).symm
def files_Table_All_ev (fuel : Nat) (l1 : List (ByteArray × (List UInt8))) : Option ((List (ByteArray × (List UInt8)))) :=
  (loopE (fun ag1e s => files_Table_All_l1_ev fuel l1 ag1e s.1 s.2) fuel (([] : List (ByteArray × (List UInt8))), 0))
theorem files_Table_All_ok {fuel : Nat} {l1 : List (ByteArray × (List UInt8))} {r : (List (ByteArray × (List UInt8)))} (h : files_Table_All_ev fuel l1 = some r) : files_Table_All_R l1 r := by
  unfold files_Table_All_ev at h
  unfold files_Table_All_R
  refine loopE_ok ?_ h
  intro ae ag s hag h
  exact files_Table_All_l1_ok hag h
set_option maxHeartbeats 4000000 in
theorem files_Table_All_con (l1 : List (ByteArray × (List UInt8))) (bx0 : Nat) (ia2 : Option (Nat × Nat)) (r : (List (ByteArray × (List UInt8)))) (h : files_Table_All_R l1 r) : Con Try.prog 13 [.v (.pointer (some ⟨bx0, 0, none⟩))] [⟨bx0, 60, [.rb ia2 l1.length]⟩, rbx ia2 30 2 (List.map E_palinode_api_File l1)] [] (fun rr bx tk => ∃ j1, rr = .sl 2 (some j1) (List.map E_palinode_api_File r) ∧ bx = [rbx ia2 30 2 (List.map E_palinode_api_File l1), ⟨bx0, 60, [.rb ia2 l1.length]⟩] ∧ tk = [⟨j1, 30, 2, r.length⟩]) := by
  refine xenter Try.func13 rfl rfl fun g hg => ?_
  simp only [Try.ntmps13, slots]
  refine xseq ?_
  refine xregion ?_
  refine xvalP (pv_assign rfl) rfl rfl ?_
  refine xnil ?_
  refine xthen ?_
  refine xseq ?_
  refine xregion ?_
  refine xvalP (pv_assign rfl) rfl rfl ?_
  refine xnil ?_
  refine xthen ?_
  refine xseq ?_
  refine xseq ?_
  refine xregion ?_
  refine xvalP (pv_move rfl) rfl rfl ?_
  refine xvalP (pv_nilCheck rfl) rfl rfl ?_
  refine xvalP (qv_fieldAddrB FldC.h rfl) rfl rfl ?_
  refine xval (qv_loadB 0 ShpC.h rfl rfl rfl rfl) rfl rfl ?_
  refine xvalP (pv_lenRb UndC.h rfl) rfl rfl ?_
  refine xvalP (pv_move rfl) rfl rfl ?_
  refine xnil ?_
  refine xthen ?_
  refine xblock ?_
  obtain ⟨Inv, ⟨m0, hI⟩, hS⟩ := h
  refine xloop (fun σ m => ∃ (out96 : List (ByteArray × (List UInt8))), ∃ (x98 : Int), ∃ (i97 : Option (Nat × Nat)), Inv (out96, x98) m ∧ σ = ⟨[(3, .sl 2 (some i97) (List.map E_palinode_api_File out96)), (9, .rb ia2 l1.length), (10, .v (.int .i64 (((l1.length : Nat) : Int)))), (11, .v (.int .i64 x98))], [⟨bx0, 60, [.rb ia2 l1.length]⟩, rbx ia2 30 2 (List.map E_palinode_api_File l1)], [⟨i97, 30, 2, out96.length⟩]⟩) ⟨([] : List (ByteArray × (List UInt8))), 0, none, hI, rfl⟩ ⟨(.cons rfl (.nil_own _) (.cons rfl (.eq (by first | rfl | simp)) (.cons rfl (.refl _) (.cons rfl (.refl _) (.nil _))))), by exact (SubM.of (.keep rfl rfl (.cons (.eq (by first | rfl | simp)) .nil) (.keep rfl rfl (.refl _) (.nil _))) (.add (.nil _)))⟩ ?_
  rintro _ m ⟨out96, x98, i97, hI, rfl⟩
  obtain ⟨ag1, hag1, h⟩ : ∃ ag, (∀ s', ag s' → ∃ m', m' < m ∧ Inv s' m') ∧ files_Table_All_l1 l1 ag out96 x98 r := ⟨_, fun _ h => h, hS (out96, x98) _ hI⟩
  clear hS hI
  refine xseq ?_
  refine xregion ?_
  refine xvalP (pv_bin2 rfl rfl rfl) rfl rfl ?_
  refine xnil ?_
  refine xthen ?_
  refine xseq ?_
  by_cases hp123 : x98 < ((l1.length : Nat) : Int)
  · replace h := h.1 hp123
    refine xcondT' (decide_eq_true hp123) rfl ?_
    refine xskipc ?_
    refine xthen ?_
    refine xseq ?_
    refine xblock ?_
    refine xseq ?_
    refine xregion ?_
    obtain ⟨h134a, h⟩ := h
    obtain ⟨y133, h134b, h⟩ := h
    refine xvalP (pv_indexAddrRbM rfl h134a h134b UndC.h ShpC.h rfl rfl) rfl rfl ?_
    refine xval (qv_loadRb (f := E_palinode_api_File) (k := 2) (off := 0) (i := (x98 : Int).toNat) 1 h134b rfl (by decide) (by first | rfl | exact part_all (by first | rfl | exact seg_lenE (by rfl) | exact len_app rfl (seg_lenE (by rfl)) (by rfl) | exact len_app (seg_lenE (by rfl)) rfl (by rfl) | exact len_app rfl (len_app (seg_lenE (by rfl)) rfl (by rfl)) (by rfl) | (simp only [seg_len, cellsS, List.length_append, List.length_cons, List.length_nil]; done) | (simp only [seg_len, cellsS, List.length_append, List.length_cons, List.length_nil]; rfl))) ShpC.h rfl rfl) rfl rfl ?_
    refine xalloc InfC.h rfl rfl fun b5 => ?_
    refine xstore 0 ShpC.h rfl rfl rfl rfl rfl rfl rfl ?_
    refine xnil ?_
    refine xthen ?_
    refine xregionD (m := 10) (by kernel_rfl) rfl ?_
    obtain ⟨y136, h135, h⟩ := h
    obtain ⟨h138, h⟩ := h
    refine xpcut 3 #[true, true, true, true, true, true, true, false, false, false] (fun σ => ∃ (i140 : Option (Nat × Nat)), σ = ⟨[(3, .sl 2 (some i97) (List.map E_palinode_api_File out96)), (9, .rb ia2 l1.length), (10, .v (.int .i64 (((l1.length : Nat) : Int)))), (11, .v (.int .i64 x98)), (15, .sl 2 (some i97) (List.map E_palinode_api_File out96)), (21, .agg [.v (.string y133.1), .sl 1 (some i140) (List.map eb y136)])], [⟨bx0, 60, [.rb ia2 l1.length]⟩, rbx ia2 30 2 (List.map E_palinode_api_File l1)], [⟨i140, 5, 1, y136.length⟩, ⟨i97, 30, 2, out96.length⟩]⟩) ?_ (fun key141 => ?_)
    · rintro _ ⟨i140, rfl⟩
      refine xpstep (i := 7) (by kernel_rfl) rfl ?_
      refine wbuildSliceM (f := E_palinode_api_File) [(y133.1, y136)] UndC.h InfC.h rfl rfl (by first | exact wkR_of rfl | (repeat (first | exact WkR.nil | refine WkR.cons (by (repeat (first | exact WkL.nil | refine WkL.cons (by first | with_reducible exact Wk.refl _ | exact Wk.nil_own _ | exact Wk.nil_pl _ | with_reducible exact Wk.tok _ _ _ | exact Wk.tok _ _ _ | exact Wk.eq (by first | rfl | (simp []; done) | (simp []; omega))) ?_))) ?_))) rfl rfl rfl rfl fun s22 => ?_
      refine xpstep (i := 8) (by kernel_rfl) rfl ?_
      refine wappendM (l := out96) (l2 := [(y133.1, y136)]) 2 h138 UndC.h InfC.h rfl rfl rfl (.refl _) rfl rfl rfl fun i139 => ?_
      refine xpval 9 rfl (pv_assign rfl) rfl rfl (by kernel_rfl) (by kernel_rfl) (by kernel_rfl) (fun _ _ _ _ h => h) ?_
      refine xpdone (by kernel_rfl) ?_
      refine xin_normal ?_
      refine xthen ?_
      refine xregion ?_
      obtain ⟨h142, h⟩ := h
      refine xvalP (pv_addI h142 rfl rfl) rfl rfl ?_
      refine xvalP (pv_move rfl) rfl rfl ?_
      refine xnil ?_
      obtain ⟨m', hm, hI⟩ := hag1 _ h
      exact xagain ⟨(out96 ++ [(y133.1, y136)]), (x98 + 1), i139, hI, rfl⟩ hm ⟨(.cons rfl (.refl _) (.cons rfl (.eq (by first | rfl | simp)) (.cons rfl (.refl _) (.cons rfl (.refl _) (.nil _))))), by exact (SubM.of (.keep rfl rfl (.cons (.eq (by first | rfl | simp)) .nil) (.keep rfl rfl (.refl _) (.nil _))) (.drop (.drop (.keep rfl (.nil _)))))⟩
    refine xpval 0 rfl (pv_move rfl) rfl rfl (by kernel_rfl) (by kernel_rfl) (by kernel_rfl) (fun _ _ _ _ h => h) ?_
    refine xpval 1 rfl (qv_fieldAddrB FldC.h rfl) rfl rfl (by kernel_rfl) (by kernel_rfl) (by kernel_rfl) (fun _ _ _ _ h => h) ?_
    refine xpval 3 rfl (qv_fieldAddrB FldC.h rfl) rfl rfl (by kernel_rfl) (by kernel_rfl) (by kernel_rfl) (fun _ _ _ _ h => h) ?_
    refine xpvalE 4 [2] rfl (qv_loadB 0 ShpC.h rfl rfl rfl rfl) rfl rfl (by kernel_rfl) (by kernel_rfl) (by kernel_rfl) (fun _ _ _ _ h => h) ?_
    refine xpstepN (is := [2, 5]) (by kernel_rfl) (by simp) ?_
    intro i hi; simp only [List.mem_cons, List.not_mem_nil, or_false] at hi; rcases hi with rfl | rfl
    · refine ⟨_, rfl, ?_⟩
      refine wval (qv_loadB 0 ShpC.h rfl rfl rfl rfl) rfl rfl ?_
      refine xpstep (i := 5) (by kernel_rfl) rfl ?_
      refine wcallM (slices_Clone_con y133.2 _ h135) Try.func30 (by kernel_rfl) rfl (.cons rfl (.refl _) .nil) rfl rfl fun i137 => ?_
      refine xpval 6 rfl (pv_buildC StrC.h rfl rfl) rfl rfl (by kernel_rfl) (by kernel_rfl) (by kernel_rfl) (fun _ _ _ _ h => h) ?_
      exact xpuse key141 ⟨i137, rfl⟩ ⟨(.cons rfl (.refl _) (.cons rfl (.eq (by first | rfl | simp)) (.cons rfl (.refl _) (.cons rfl (.refl _) (.cons rfl (.refl _) (.cons rfl (.refl _) (.nil _))))))), by exact (SubM.of (.drop (.keep rfl rfl (.cons (.eq (by first | rfl | simp)) .nil) (.keep rfl rfl (.refl _) (.nil _)))) (.keep rfl (.keep rfl (.nil _))))⟩ rfl (by kernel_rfl)
    · refine ⟨_, rfl, ?_⟩
      refine wcallM (slices_Clone_con y133.2 _ h135) Try.func30 (by kernel_rfl) rfl (.cons rfl (.refl _) .nil) rfl rfl fun i137 => ?_
      refine xpvalE 2 [] rfl (qv_loadB 0 ShpC.h rfl rfl rfl rfl) rfl rfl (by kernel_rfl) (by kernel_rfl) (by kernel_rfl) (fun _ _ _ _ h => h) ?_
      refine xpval 6 rfl (pv_buildC StrC.h rfl rfl) rfl rfl (by kernel_rfl) (by kernel_rfl) (by kernel_rfl) (fun _ _ _ _ h => h) ?_
      exact xpuse key141 ⟨i137, rfl⟩ ⟨(.cons rfl (.refl _) (.cons rfl (.eq (by first | rfl | simp)) (.cons rfl (.refl _) (.cons rfl (.refl _) (.cons rfl (.refl _) (.cons rfl (.refl _) (.nil _))))))), by exact (SubM.of (.drop (.keep rfl rfl (.cons (.eq (by first | rfl | simp)) .nil) (.keep rfl rfl (.refl _) (.nil _)))) (.keep rfl (.keep rfl (.nil _))))⟩ rfl (by kernel_rfl)
  · replace h := h.2 hp123
    refine xcondF' (decide_eq_false hp123) rfl ?_
    refine xexit ?_
    refine xthen_exit ?_
    refine xthen_exit ?_
    refine xin_same rfl ?_
    refine xthen ?_
    refine xseq ?_
    refine xregion ?_
    refine xvalP (pv_move rfl) rfl rfl ?_
    refine xvalP (pv_assign rfl) rfl rfl ?_
    refine xnil ?_
    refine xthen ?_
    refine xretc ?_
    replace h := h.symm
    subst h
    exact xret1 (bx' := [rbx ia2 30 2 (List.map E_palinode_api_File l1), ⟨bx0, 60, [.rb ia2 l1.length]⟩]) (tk' := [⟨i97, 30, 2, out96.length⟩]) hg rfl rfl (.refl _) (by refine SubM.trans (SubM.mvB 0 rfl) ?_; refine SubM.trans (SubM.mvB 1 rfl) ?_; (simp only [List.eraseIdx]); exact (SubM.of (by repeat (first | with_reducible exact SubB.refl _ | exact SubB.nil _ | refine SubB.keep rfl rfl (by first | with_reducible exact WkL.refl _ | ((repeat (first | exact WkL.nil | refine WkL.cons (by first | with_reducible exact Wk.refl _ | exact Wk.nil_own _ | exact Wk.nil_pl _ | with_reducible exact Wk.tok _ _ _ | exact Wk.tok _ _ _ | exact Wk.eq (by first | rfl | (simp []; done) | (simp []; omega))) ?_)); done) | exact WkL.refl _) ?_ | refine SubB.drop ?_)) (by repeat (first | exact SubT.nil _ | refine SubT.add ?_ | (refine SubT.keep ?_ ?_; focus (first | with_reducible rfl | (simp []; done))) | refine SubT.drop ?_)))) ⟨i97, rfl, rfl, rfl⟩
/-- palinodelaw03.awake -/
def palinodelaw03_awake_j1 (x66 : Bool) (r : Bool) : Prop :=
  r = x66
def palinodelaw03_awake_R (r : Bool) : Prop :=
  ∃ y3 : Int × (Option ((List (ByteArray × (List UInt8))))), files_New_R ([((⟨#[97]⟩ : ByteArray), [(120 : UInt8)])]) y3 ∧ ((y3.2 = none → r = false) ∧ (∀ x4 : (List (ByteArray × (List UInt8))), y3.2 = some x4 → ((¬ (y3.1 = 0) → r = false) ∧ (¬ (¬ (y3.1 = 0)) → ∃ y38 : Int × (List (ByteArray × (List UInt8))), files_Table_Add_R x4 (⟨#[98]⟩ : ByteArray) ([] : List (List UInt8)) y38 ∧ ((¬ (y38.1 = 0) → r = false) ∧ (¬ (¬ (y38.1 = 0)) → ∃ y43 : (List UInt8) × Bool, files_Table_Get_R y38.2 (⟨#[97]⟩ : ByteArray) y43 ∧ ∃ y68 : Int, files_Table_Len_R y38.2 (⟨#[98]⟩ : ByteArray) y68 ∧ ((y68 = 0 → ∃ y72 : Int, files_Table_Len_R y38.2 (⟨#[99]⟩ : ByteArray) y72 ∧ ((y72 = (-1) → ((y43.2 = true → (((y43.1.length : Int) = 1 → 0 ≤ (0 : Int) ∧ ∃ y79 : UInt8, y43.1[(0 : Int).toNat]? = some y79 ∧ (((y79.toNat : Int) = 120 → ∃ y84 : (List (ByteArray × (List UInt8))), files_Table_All_R y38.2 y84 ∧ palinodelaw03_awake_j1 (decide ((y84.length : Int) = 2)) r) ∧ (¬ ((y79.toNat : Int) = 120) → palinodelaw03_awake_j1 false r))) ∧ (¬ ((y43.1.length : Int) = 1) → palinodelaw03_awake_j1 false r))) ∧ (¬ (y43.2 = true) → palinodelaw03_awake_j1 false r))) ∧ (¬ (y72 = (-1)) → palinodelaw03_awake_j1 false r))) ∧ (¬ (y68 = 0) → palinodelaw03_awake_j1 false r))))))))
def palinodelaw03_awake_j1_ev (fuel : Nat) (x66 : Bool) : Option (Bool) :=
  some x66
theorem palinodelaw03_awake_j1_ok {fuel : Nat} {x66 : Bool} {r : Bool} (h : palinodelaw03_awake_j1_ev fuel x66 = some r) : palinodelaw03_awake_j1 x66 r := by
  unfold palinodelaw03_awake_j1_ev at h
  unfold palinodelaw03_awake_j1
  exact (Option.some.inj h).symm
def palinodelaw03_awake_ev (fuel : Nat) : Option (Bool) :=
  ((files_New_ev fuel ([((⟨#[97]⟩ : ByteArray), [(120 : UInt8)])])).bind fun y3 => (optE (y3.2) (some false) fun x4 => (if ¬ (y3.1 = 0) then some false else ((files_Table_Add_ev fuel x4 (⟨#[98]⟩ : ByteArray) ([] : List (List UInt8))).bind fun y38 => (if ¬ (y38.1 = 0) then some false else ((files_Table_Get_ev fuel y38.2 (⟨#[97]⟩ : ByteArray)).bind fun y43 => ((files_Table_Len_ev fuel y38.2 (⟨#[98]⟩ : ByteArray)).bind fun y68 => (if y68 = 0 then ((files_Table_Len_ev fuel y38.2 (⟨#[99]⟩ : ByteArray)).bind fun y72 => (if y72 = (-1) then (if y43.2 = true then (if (y43.1.length : Int) = 1 then (if 0 ≤ (0 : Int) then ((y43.1[(0 : Int).toNat]?).bind fun y79 => (if (y79.toNat : Int) = 120 then ((files_Table_All_ev fuel y38.2).bind fun y84 => palinodelaw03_awake_j1_ev fuel (decide ((y84.length : Int) = 2))) else palinodelaw03_awake_j1_ev fuel false)) else none) else palinodelaw03_awake_j1_ev fuel false) else palinodelaw03_awake_j1_ev fuel false) else palinodelaw03_awake_j1_ev fuel false)) else palinodelaw03_awake_j1_ev fuel false))))))))
theorem palinodelaw03_awake_ok {fuel : Nat} {r : Bool} (h : palinodelaw03_awake_ev fuel = some r) : palinodelaw03_awake_R r := by
  unfold palinodelaw03_awake_ev at h
  unfold palinodelaw03_awake_R
  obtain ⟨q68, g68, h⟩ := bind_ok h
  refine ⟨q68, files_New_ok g68, ?_⟩
  refine ⟨fun g69 => ?_, fun q69 g69 => ?_⟩
  · rw [g69] at h
    simp only [optE] at h
    exact (Option.some.inj h).symm
  · rw [g69] at h
    simp only [optE] at h
    refine ⟨fun g70 => ?_, fun g70 => ?_⟩
    · rw [if_pos g70] at h
      exact (Option.some.inj h).symm
    · rw [if_neg g70] at h
      obtain ⟨q71, g71, h⟩ := bind_ok h
      refine ⟨q71, files_Table_Add_ok g71, ?_⟩
      refine ⟨fun g72 => ?_, fun g72 => ?_⟩
      · rw [if_pos g72] at h
        exact (Option.some.inj h).symm
      · rw [if_neg g72] at h
        obtain ⟨q73, g73, h⟩ := bind_ok h
        refine ⟨q73, files_Table_Get_ok g73, ?_⟩
        obtain ⟨q74, g74, h⟩ := bind_ok h
        refine ⟨q74, files_Table_Len_ok g74, ?_⟩
        refine ⟨fun g75 => ?_, fun g75 => ?_⟩
        · rw [if_pos g75] at h
          obtain ⟨q76, g76, h⟩ := bind_ok h
          refine ⟨q76, files_Table_Len_ok g76, ?_⟩
          refine ⟨fun g77 => ?_, fun g77 => ?_⟩
          · rw [if_pos g77] at h
            refine ⟨fun g78 => ?_, fun g78 => ?_⟩
            · rw [if_pos g78] at h
              refine ⟨fun g79 => ?_, fun g79 => ?_⟩
              · rw [if_pos g79] at h
                obtain ⟨g80, h⟩ := if_ok h
                refine ⟨g80, ?_⟩
                obtain ⟨q81, g81, h⟩ := bind_ok h
                refine ⟨q81, g81, ?_⟩
                refine ⟨fun g82 => ?_, fun g82 => ?_⟩
                · rw [if_pos g82] at h
                  obtain ⟨q83, g83, h⟩ := bind_ok h
                  refine ⟨q83, files_Table_All_ok g83, ?_⟩
                  exact palinodelaw03_awake_j1_ok h
                · rw [if_neg g82] at h
                  exact palinodelaw03_awake_j1_ok h
              · rw [if_neg g79] at h
                exact palinodelaw03_awake_j1_ok h
            · rw [if_neg g78] at h
              exact palinodelaw03_awake_j1_ok h
          · rw [if_neg g77] at h
            exact palinodelaw03_awake_j1_ok h
        · rw [if_neg g75] at h
          exact palinodelaw03_awake_j1_ok h
set_option maxHeartbeats 4000000 in
theorem palinodelaw03_awake_con (r : Bool) (h : palinodelaw03_awake_R r) : Con Try.prog 7 [] [] [] (Ret (.v (.bool r))) := by
  refine xenter Try.func7 rfl rfl fun g hg => ?_
  simp only [Try.ntmps7, slots]
  refine xseq ?_
  refine xregion ?_
  refine xvalP (pv_assign rfl) rfl rfl ?_
  refine xnil ?_
  refine xthen ?_
  refine xseq ?_
  refine xregion ?_
  refine xbuildSliceM (f := eb) [(120 : UInt8)] UndC.h InfC.h rfl rfl (by first | exact wkR_of rfl | (repeat (first | exact WkR.nil | refine WkR.cons (by (repeat (first | exact WkL.nil | refine WkL.cons (by first | with_reducible exact Wk.refl _ | exact Wk.nil_own _ | exact Wk.nil_pl _ | with_reducible exact Wk.tok _ _ _ | exact Wk.tok _ _ _ | exact Wk.eq (by first | rfl | (simp []; done) | (simp []; omega))) ?_))) ?_))) rfl rfl rfl rfl fun s6 => ?_
  refine xmark 0 UndC.h UndC.h rfl rfl rfl rfl ?_
  refine xvalP (pv_buildC StrC.h rfl rfl) rfl rfl ?_
  refine xbuildSliceM (f := E_palinode_api_File) [((⟨#[97]⟩ : ByteArray), [(120 : UInt8)])] UndC.h InfC.h rfl rfl (by first | exact wkR_of rfl | (repeat (first | exact WkR.nil | refine WkR.cons (by (repeat (first | exact WkL.nil | refine WkL.cons (by first | with_reducible exact Wk.refl _ | exact Wk.nil_own _ | exact Wk.nil_pl _ | with_reducible exact Wk.tok _ _ _ | exact Wk.tok _ _ _ | exact Wk.eq (by first | rfl | (simp []; done) | (simp []; omega))) ?_))) ?_))) rfl rfl rfl rfl fun s9 => ?_
  obtain ⟨y3, h2, h⟩ := h
  refine xcallF (Fb := []) (Ft := [⟨(some (s9, 1)), 30, 2, ([((⟨#[97]⟩ : ByteArray), [(120 : UInt8)])]).length⟩]) (files_New_con ([((⟨#[97]⟩ : ByteArray), [(120 : UInt8)])]) _ h2) Try.func8 (by kernel_rfl) rfl (.cons rfl (.tok _ _ _) .nil) (by exact (SubM.of (by repeat (first | with_reducible exact SubB.refl _ | exact SubB.nil _ | refine SubB.keep rfl rfl (by first | with_reducible exact WkL.refl _ | ((repeat (first | exact WkL.nil | refine WkL.cons (by first | with_reducible exact Wk.refl _ | exact Wk.nil_own _ | exact Wk.nil_pl _ | with_reducible exact Wk.tok _ _ _ | exact Wk.tok _ _ _ | exact Wk.eq (by first | rfl | (simp []; done) | (simp []; omega))) ?_)); done) | exact WkL.refl _) ?_ | refine SubB.drop ?_)) (by repeat (first | exact SubT.nil _ | refine SubT.add ?_ | (refine SubT.keep ?_ ?_; focus (first | with_reducible rfl | (simp []; done))) | refine SubT.drop ?_)))) rfl rfl ?_
  intro rr2 bb2 tt2 hr2
  rcases ho2 : y3.2 with _ | x4
  · have hq2 := hr2.1 ho2
    replace h := h.1 ho2
    obtain ⟨rfl, rfl, rfl⟩ := hq2
    simp only [List.nil_append, List.cons_append]
    refine xvalP (pv_move rfl) rfl rfl ?_
    refine xvalP (pv_extract rfl rfl) rfl rfl ?_
    refine xvalP (pv_extract rfl rfl) rfl rfl ?_
    refine xvalP (pv_assign rfl) rfl rfl ?_
    refine xvalP (pv_assign rfl) rfl rfl ?_
    refine xnil ?_
    refine xthen ?_
    refine xseq ?_
    refine xseq ?_
    refine xregion ?_
    refine xvalP (pv_move rfl) rfl rfl ?_
    refine xvalP (pv_eqNilN UndC.h rfl rfl) rfl rfl ?_
    refine xvalP (pv_move rfl) rfl rfl ?_
    refine xskip rfl rfl ?_
    refine xskip rfl rfl ?_
    refine xvalP (pv_pick rfl rfl) rfl rfl ?_
    refine xvalP (pv_move rfl) rfl rfl ?_
    refine xskip rfl rfl ?_
    refine xskip rfl rfl ?_
    refine xskip rfl rfl ?_
    refine xvalP (pv_pick rfl rfl) rfl rfl ?_
    refine xnil ?_
    refine xthen ?_
    refine xcondT rfl ?_
    refine xseq ?_
    refine xregion ?_
    refine xvalP (pv_assign rfl) rfl rfl ?_
    refine xnil ?_
    refine xthen ?_
    refine xretc ?_
    refine xthen_ret ?_
    replace h := h.symm
    subst h
    exact xret1 hg rfl rfl (.refl _) (SubM.of (.nil _) (.nil _)) ⟨rfl, rfl, rfl⟩
  · have hq2 := hr2.2 x4 ho2
    replace h := h.2 x4 ho2
    obtain ⟨b7, i5, rfl, rfl, rfl⟩ := hq2
    simp only [List.nil_append, List.cons_append]
    refine xvalP (pv_move rfl) rfl rfl ?_
    refine xvalP (pv_extract rfl rfl) rfl rfl ?_
    refine xvalP (pv_extract rfl rfl) rfl rfl ?_
    refine xvalP (pv_assign rfl) rfl rfl ?_
    refine xvalP (pv_assign rfl) rfl rfl ?_
    refine xnil ?_
    refine xthen ?_
    refine xseq ?_
    refine xseq ?_
    refine xregion ?_
    refine xvalP (pv_move rfl) rfl rfl ?_
    refine xvalP (pv_eqNil UndC.h rfl rfl) rfl rfl ?_
    refine xvalP (pv_move rfl) rfl rfl ?_
    refine xvalP (pv_move rfl) rfl rfl ?_
    refine xvalP (pv_bin2 rfl rfl rfl) rfl rfl ?_
    refine xvalP (pv_pick rfl rfl) rfl rfl ?_
    refine xvalP (pv_move rfl) rfl rfl ?_
    by_cases hp36 : ¬ (y3.1 = 0)
    · replace h := h.1 hp36
      refine xsetB 19 (not_t (decide_eq_false hp36)) rfl ?_
      refine xskip rfl rfl ?_
      refine xskip rfl rfl ?_
      refine xskip rfl rfl ?_
      refine xvalP (pv_pick rfl rfl) rfl rfl ?_
      refine xnil ?_
      refine xthen ?_
      refine xcondT rfl ?_
      refine xseq ?_
      refine xregion ?_
      refine xvalP (pv_assign rfl) rfl rfl ?_
      refine xnil ?_
      refine xthen ?_
      refine xretc ?_
      refine xthen_ret ?_
      replace h := h.symm
      subst h
      exact xret1 (bx' := []) (tk' := []) hg rfl rfl (.refl _) (SubM.of (.nil _) (.nil _)) ⟨rfl, rfl, rfl⟩
    · replace h := h.2 hp36
      refine xsetB 19 (not_f (decide_eq_true (Decidable.of_not_not hp36))) rfl ?_
      refine xvalP (pv_move rfl) rfl rfl ?_
      obtain ⟨y38, h37, h⟩ := h
      refine xcallF (Fb := []) (Ft := [⟨(some (s9, 1)), 30, 2, ([((⟨#[97]⟩ : ByteArray), [(120 : UInt8)])]).length⟩]) (files_Table_Add_con x4 (⟨#[98]⟩ : ByteArray) ([] : List (List UInt8)) b7 i5 _ h37) Try.func11 (by kernel_rfl) rfl (.cons rfl (.refl _) (.cons rfl (.refl _) (.cons rfl (.nil_pl _) .nil))) (by refine SubM.trans (SubM.mvB 0 rfl) ?_; refine SubM.trans (SubM.mvB 1 rfl) ?_; (simp only [List.eraseIdx]); exact (SubM.of (by repeat (first | with_reducible exact SubB.refl _ | exact SubB.nil _ | refine SubB.keep rfl rfl (by first | with_reducible exact WkL.refl _ | ((repeat (first | exact WkL.nil | refine WkL.cons (by first | with_reducible exact Wk.refl _ | exact Wk.nil_own _ | exact Wk.nil_pl _ | with_reducible exact Wk.tok _ _ _ | exact Wk.tok _ _ _ | exact Wk.eq (by first | rfl | (simp []; done) | (simp []; omega))) ?_)); done) | exact WkL.refl _) ?_ | refine SubB.drop ?_)) (by repeat (first | exact SubT.nil _ | refine SubT.add ?_ | (refine SubT.keep ?_ ?_; focus (first | with_reducible rfl | (simp []; done))) | refine SubT.drop ?_)))) rfl rfl ?_
      rintro _ _ _ ⟨i39, rfl, rfl, rfl⟩
      simp only [List.nil_append, List.cons_append]
      refine xvalP (pv_bin2 rfl rfl rfl) rfl rfl ?_
      refine xvalP (pv_pick rfl rfl) rfl rfl ?_
      refine xnil ?_
      refine xthen ?_
      by_cases hp41 : ¬ (y38.1 = 0)
      · replace h := h.1 hp41
        refine xcondT' (not_t (decide_eq_false hp41)) rfl ?_
        refine xseq ?_
        refine xregion ?_
        refine xvalP (pv_assign rfl) rfl rfl ?_
        refine xnil ?_
        refine xthen ?_
        refine xretc ?_
        refine xthen_ret ?_
        replace h := h.symm
        subst h
        exact xret1 (bx' := []) (tk' := []) hg rfl rfl (.refl _) (SubM.of (.nil _) (.nil _)) ⟨rfl, rfl, rfl⟩
      · replace h := h.2 hp41
        refine xcondF' (not_f (decide_eq_true (Decidable.of_not_not hp41))) rfl ?_
        refine xskipc ?_
        refine xthen ?_
        refine xseq ?_
        refine xregion ?_
        refine xvalP (pv_move rfl) rfl rfl ?_
        obtain ⟨y43, h42, h⟩ := h
        refine xcallF (Fb := []) (Ft := [⟨(some (s9, 1)), 30, 2, ([((⟨#[97]⟩ : ByteArray), [(120 : UInt8)])]).length⟩]) (files_Table_Get_con y38.2 (⟨#[97]⟩ : ByteArray) b7 i39 _ h42) Try.func25 (by kernel_rfl) rfl (.cons rfl (.refl _) (.cons rfl (.refl _) .nil)) (by refine SubM.trans (SubM.mvB 0 rfl) ?_; refine SubM.trans (SubM.mvB 1 rfl) ?_; (simp only [List.eraseIdx]); exact (SubM.of (by repeat (first | with_reducible exact SubB.refl _ | exact SubB.nil _ | refine SubB.keep rfl rfl (by first | with_reducible exact WkL.refl _ | ((repeat (first | exact WkL.nil | refine WkL.cons (by first | with_reducible exact Wk.refl _ | exact Wk.nil_own _ | exact Wk.nil_pl _ | with_reducible exact Wk.tok _ _ _ | exact Wk.tok _ _ _ | exact Wk.eq (by first | rfl | (simp []; done) | (simp []; omega))) ?_)); done) | exact WkL.refl _) ?_ | refine SubB.drop ?_)) (by repeat (first | exact SubT.nil _ | refine SubT.add ?_ | (refine SubT.keep ?_ ?_; focus (first | with_reducible rfl | (simp []; done))) | refine SubT.drop ?_)))) rfl rfl ?_
        rintro _ _ _ ⟨i44, rfl, rfl, rfl⟩
        simp only [List.nil_append, List.cons_append]
        refine xvalP (pv_move rfl) rfl rfl ?_
        refine xvalP (pv_extract rfl rfl) rfl rfl ?_
        refine xvalP (pv_extract rfl rfl) rfl rfl ?_
        refine xvalP (pv_assign rfl) rfl rfl ?_
        refine xvalP (pv_assign rfl) rfl rfl ?_
        refine xnil ?_
        refine xthen ?_
        refine xseqM (fun σ => ∃ (x66 : Bool), palinodelaw03_awake_j1 x66 r ∧ σ = ⟨[(0, .v (.bool x66))], [], []⟩) ?_ ?_
        · refine xregion ?_
          refine xvalP (pv_move rfl) rfl rfl ?_
          obtain ⟨y68, h67, h⟩ := h
          refine xcallF (Fb := []) (Ft := [⟨i44, 5, 1, y43.1.length⟩, ⟨(some (s9, 1)), 30, 2, ([((⟨#[97]⟩ : ByteArray), [(120 : UInt8)])]).length⟩]) (files_Table_Len_con y38.2 (⟨#[98]⟩ : ByteArray) b7 i39 _ h67) Try.func14 (by kernel_rfl) rfl (.cons rfl (.refl _) (.cons rfl (.refl _) .nil)) (by refine SubM.trans (SubM.mvB 0 rfl) ?_; refine SubM.trans (SubM.mvB 1 rfl) ?_; (simp only [List.eraseIdx]); exact (SubM.of (by repeat (first | with_reducible exact SubB.refl _ | exact SubB.nil _ | refine SubB.keep rfl rfl (by first | with_reducible exact WkL.refl _ | ((repeat (first | exact WkL.nil | refine WkL.cons (by first | with_reducible exact Wk.refl _ | exact Wk.nil_own _ | exact Wk.nil_pl _ | with_reducible exact Wk.tok _ _ _ | exact Wk.tok _ _ _ | exact Wk.eq (by first | rfl | (simp []; done) | (simp []; omega))) ?_)); done) | exact WkL.refl _) ?_ | refine SubB.drop ?_)) (by repeat (first | exact SubT.nil _ | refine SubT.add ?_ | (refine SubT.keep ?_ ?_; focus (first | with_reducible rfl | (simp []; done))) | refine SubT.drop ?_)))) rfl rfl ?_
          rintro _ _ _ ⟨rfl, rfl, rfl⟩
          simp only [List.nil_append, List.cons_append]
          refine xvalP (pv_bin2 rfl rfl rfl) rfl rfl ?_
          refine xvalP (pv_move rfl) rfl rfl ?_
          by_cases hp70 : y68 = 0
          · replace h := h.1 hp70
            refine xsetB 32 (decide_eq_true hp70) rfl ?_
            refine xvalP (pv_move rfl) rfl rfl ?_
            obtain ⟨y72, h71, h⟩ := h
            refine xcallF (Fb := []) (Ft := [⟨i44, 5, 1, y43.1.length⟩, ⟨(some (s9, 1)), 30, 2, ([((⟨#[97]⟩ : ByteArray), [(120 : UInt8)])]).length⟩]) (files_Table_Len_con y38.2 (⟨#[99]⟩ : ByteArray) b7 i39 _ h71) Try.func14 (by kernel_rfl) rfl (.cons rfl (.refl _) (.cons rfl (.refl _) .nil)) (by refine SubM.trans (SubM.mvB 0 rfl) ?_; refine SubM.trans (SubM.mvB 1 rfl) ?_; (simp only [List.eraseIdx]); exact (SubM.of (by repeat (first | with_reducible exact SubB.refl _ | exact SubB.nil _ | refine SubB.keep rfl rfl (by first | with_reducible exact WkL.refl _ | ((repeat (first | exact WkL.nil | refine WkL.cons (by first | with_reducible exact Wk.refl _ | exact Wk.nil_own _ | exact Wk.nil_pl _ | with_reducible exact Wk.tok _ _ _ | exact Wk.tok _ _ _ | exact Wk.eq (by first | rfl | (simp []; done) | (simp []; omega))) ?_)); done) | exact WkL.refl _) ?_ | refine SubB.drop ?_)) (by repeat (first | exact SubT.nil _ | refine SubT.add ?_ | (refine SubT.keep ?_ ?_; focus (first | with_reducible rfl | (simp []; done))) | refine SubT.drop ?_)))) rfl rfl ?_
            rintro _ _ _ ⟨rfl, rfl, rfl⟩
            simp only [List.nil_append, List.cons_append]
            refine xvalP (pv_bin2 rfl rfl rfl) rfl rfl ?_
            refine xvalP (pv_pick rfl rfl) rfl rfl ?_
            refine xvalP (pv_move rfl) rfl rfl ?_
            by_cases hp74 : y72 = (-1)
            · replace h := h.1 hp74
              refine xsetB 37 (decide_eq_true hp74) rfl ?_
              refine xvalP (pv_move rfl) rfl rfl ?_
              refine xvalP (pv_pick rfl rfl) rfl rfl ?_
              refine xvalP (pv_move rfl) rfl rfl ?_
              by_cases hp75 : y43.2 = true
              · replace h := h.1 hp75
                refine xsetB 40 hp75 rfl ?_
                refine xvalP (pv_move rfl) rfl rfl ?_
                refine xvalP (pv_lenM UndC.h rfl) rfl rfl ?_
                refine xvalP (pv_bin2 rfl rfl rfl) rfl rfl ?_
                refine xvalP (pv_pick rfl rfl) rfl rfl ?_
                refine xvalP (pv_move rfl) rfl rfl ?_
                by_cases hp78 : (y43.1.length : Int) = 1
                · replace h := h.1 hp78
                  refine xsetB 45 (decide_eq_true hp78) rfl ?_
                  refine xvalP (pv_move rfl) rfl rfl ?_
                  obtain ⟨h80a, h⟩ := h
                  obtain ⟨y79, h80b, h⟩ := h
                  refine xvalP (pv_indexAddrM h80a h80b UndC.h ShpC.h rfl rfl) rfl rfl ?_
                  refine xval (qv_load ShpC.h rfl rfl rfl) rfl rfl ?_
                  refine xvalP (pv_bin2 rfl rfl rfl) rfl rfl ?_
                  refine xvalP (pv_pick rfl rfl) rfl rfl ?_
                  refine xvalP (pv_move rfl) rfl rfl ?_
                  by_cases hp82 : (y79.toNat : Int) = 120
                  · replace h := h.1 hp82
                    refine xsetB 51 (decide_eq_true hp82) rfl ?_
                    refine xvalP (pv_move rfl) rfl rfl ?_
                    obtain ⟨y84, h83, h⟩ := h
                    refine xcallF (Fb := []) (Ft := [⟨i44, 5, 1, y43.1.length⟩, ⟨(some (s9, 1)), 30, 2, ([((⟨#[97]⟩ : ByteArray), [(120 : UInt8)])]).length⟩]) (files_Table_All_con y38.2 b7 i39 _ h83) Try.func13 (by kernel_rfl) rfl (.cons rfl (.refl _) .nil) (by refine SubM.trans (SubM.mvB 0 rfl) ?_; refine SubM.trans (SubM.mvB 1 rfl) ?_; (simp only [List.eraseIdx]); exact (SubM.of (by repeat (first | with_reducible exact SubB.refl _ | exact SubB.nil _ | refine SubB.keep rfl rfl (by first | with_reducible exact WkL.refl _ | ((repeat (first | exact WkL.nil | refine WkL.cons (by first | with_reducible exact Wk.refl _ | exact Wk.nil_own _ | exact Wk.nil_pl _ | with_reducible exact Wk.tok _ _ _ | exact Wk.tok _ _ _ | exact Wk.eq (by first | rfl | (simp []; done) | (simp []; omega))) ?_)); done) | exact WkL.refl _) ?_ | refine SubB.drop ?_)) (by repeat (first | exact SubT.nil _ | refine SubT.add ?_ | (refine SubT.keep ?_ ?_; focus (first | with_reducible rfl | (simp []; done))) | refine SubT.drop ?_)))) rfl rfl ?_
                    rintro _ _ _ ⟨i85, rfl, rfl, rfl⟩
                    simp only [List.nil_append, List.cons_append]
                    refine xvalP (pv_lenM UndC.h rfl) rfl rfl ?_
                    refine xvalP (pv_bin2 rfl rfl rfl) rfl rfl ?_
                    refine xvalP (pv_pick rfl rfl) rfl rfl ?_
                    refine xvalP (pv_assign rfl) rfl rfl ?_
                    refine xnil ?_
                    exact xmeet ⟨(decide ((y84.length : Int) = 2)), h, rfl⟩ ⟨(.cons rfl (.refl _) (.nil _)), (SubM.of (.nil _) (.nil _))⟩
                  · replace h := h.2 hp82
                    refine xsetB 51 (decide_eq_false hp82) rfl ?_
                    refine xskip rfl rfl ?_
                    refine xskip rfl rfl ?_
                    refine xskip rfl rfl ?_
                    refine xskip rfl rfl ?_
                    refine xvalP (pv_pick rfl rfl) rfl rfl ?_
                    refine xvalP (pv_assign rfl) rfl rfl ?_
                    refine xnil ?_
                    exact xmeet ⟨false, h, rfl⟩ ⟨(.cons rfl (.refl _) (.nil _)), (SubM.of (.nil _) (.nil _))⟩
                · replace h := h.2 hp78
                  refine xsetB 45 (decide_eq_false hp78) rfl ?_
                  refine xskip rfl rfl ?_
                  refine xskip rfl rfl ?_
                  refine xskip rfl rfl ?_
                  refine xskip rfl rfl ?_
                  refine xvalP (pv_pick rfl rfl) rfl rfl ?_
                  refine xvalP (pv_move rfl) rfl rfl ?_
                  refine xskip rfl rfl ?_
                  refine xskip rfl rfl ?_
                  refine xskip rfl rfl ?_
                  refine xskip rfl rfl ?_
                  refine xvalP (pv_pick rfl rfl) rfl rfl ?_
                  refine xvalP (pv_assign rfl) rfl rfl ?_
                  refine xnil ?_
                  exact xmeet ⟨false, h, rfl⟩ ⟨(.cons rfl (.refl _) (.nil _)), (SubM.of (.nil _) (.nil _))⟩
              · replace h := h.2 hp75
                refine xsetB 40 (b_f hp75) rfl ?_
                refine xskip rfl rfl ?_
                refine xskip rfl rfl ?_
                refine xskip rfl rfl ?_
                refine xvalP (pv_pick rfl rfl) rfl rfl ?_
                refine xvalP (pv_move rfl) rfl rfl ?_
                refine xskip rfl rfl ?_
                refine xskip rfl rfl ?_
                refine xskip rfl rfl ?_
                refine xskip rfl rfl ?_
                refine xvalP (pv_pick rfl rfl) rfl rfl ?_
                refine xvalP (pv_move rfl) rfl rfl ?_
                refine xskip rfl rfl ?_
                refine xskip rfl rfl ?_
                refine xskip rfl rfl ?_
                refine xskip rfl rfl ?_
                refine xvalP (pv_pick rfl rfl) rfl rfl ?_
                refine xvalP (pv_assign rfl) rfl rfl ?_
                refine xnil ?_
                exact xmeet ⟨false, h, rfl⟩ ⟨(.cons rfl (.refl _) (.nil _)), (SubM.of (.nil _) (.nil _))⟩
            · replace h := h.2 hp74
              refine xsetB 37 (decide_eq_false hp74) rfl ?_
              refine xskip rfl rfl ?_
              refine xvalP (pv_pick rfl rfl) rfl rfl ?_
              refine xvalP (pv_move rfl) rfl rfl ?_
              refine xskip rfl rfl ?_
              refine xskip rfl rfl ?_
              refine xskip rfl rfl ?_
              refine xvalP (pv_pick rfl rfl) rfl rfl ?_
              refine xvalP (pv_move rfl) rfl rfl ?_
              refine xskip rfl rfl ?_
              refine xskip rfl rfl ?_
              refine xskip rfl rfl ?_
              refine xskip rfl rfl ?_
              refine xvalP (pv_pick rfl rfl) rfl rfl ?_
              refine xvalP (pv_move rfl) rfl rfl ?_
              refine xskip rfl rfl ?_
              refine xskip rfl rfl ?_
              refine xskip rfl rfl ?_
              refine xskip rfl rfl ?_
              refine xvalP (pv_pick rfl rfl) rfl rfl ?_
              refine xvalP (pv_assign rfl) rfl rfl ?_
              refine xnil ?_
              exact xmeet ⟨false, h, rfl⟩ ⟨(.cons rfl (.refl _) (.nil _)), (SubM.of (.nil _) (.nil _))⟩
          · replace h := h.2 hp70
            refine xsetB 32 (decide_eq_false hp70) rfl ?_
            refine xskip rfl rfl ?_
            refine xskip rfl rfl ?_
            refine xskip rfl rfl ?_
            refine xvalP (pv_pick rfl rfl) rfl rfl ?_
            refine xvalP (pv_move rfl) rfl rfl ?_
            refine xskip rfl rfl ?_
            refine xvalP (pv_pick rfl rfl) rfl rfl ?_
            refine xvalP (pv_move rfl) rfl rfl ?_
            refine xskip rfl rfl ?_
            refine xskip rfl rfl ?_
            refine xskip rfl rfl ?_
            refine xvalP (pv_pick rfl rfl) rfl rfl ?_
            refine xvalP (pv_move rfl) rfl rfl ?_
            refine xskip rfl rfl ?_
            refine xskip rfl rfl ?_
            refine xskip rfl rfl ?_
            refine xskip rfl rfl ?_
            refine xvalP (pv_pick rfl rfl) rfl rfl ?_
            refine xvalP (pv_move rfl) rfl rfl ?_
            refine xskip rfl rfl ?_
            refine xskip rfl rfl ?_
            refine xskip rfl rfl ?_
            refine xskip rfl rfl ?_
            refine xvalP (pv_pick rfl rfl) rfl rfl ?_
            refine xvalP (pv_assign rfl) rfl rfl ?_
            refine xnil ?_
            exact xmeet ⟨false, h, rfl⟩ ⟨(.cons rfl (.refl _) (.nil _)), (SubM.of (.nil _) (.nil _))⟩
        · clear h
          rintro _ ⟨x66, h, rfl⟩
          refine xretc ?_
          replace h := h.symm
          subst h
          exact xret1 hg rfl rfl (.refl _) (SubM.of (.nil _) (.nil _)) ⟨rfl, rfl, rfl⟩
/-- palinoderef03.IsName -/
def palinoderef03_IsName_l1 (name1 : ByteArray) (ag1 : (Int) → Prop) (iv173 : Int) (r : Bool) : Prop :=
  ((iv173 < (name1.size : Int) → 0 ≤ (iv173 : Int) ∧ ∃ c240 : UInt8, name1[(iv173 : Int).toNat]? = some c240 ∧ (((c240.toNat : Int) < 33 → r = false) ∧ (¬ ((c240.toNat : Int) < 33) → 0 ≤ (iv173 : Int) ∧ ∃ c244 : UInt8, name1[(iv173 : Int).toNat]? = some c244 ∧ ((126 < (c244.toNat : Int) → r = false) ∧ (¬ (126 < (c244.toNat : Int)) → InR (iv173 + 1) ∧ ag1 (iv173 + 1)))))) ∧ (¬ (iv173 < (name1.size : Int)) → r = true))
def palinoderef03_IsName_R (name1 : ByteArray) (r : Bool) : Prop :=
  (((name1.size : Int) < 1 → r = false) ∧ (¬ ((name1.size : Int) < 1) → ((64 < (name1.size : Int) → r = false) ∧ (¬ (64 < (name1.size : Int)) → LoopR (fun ag1 s => palinoderef03_IsName_l1 name1 ag1 s r) 0))))
def palinoderef03_IsName_l1_ev (fuel : Nat) (name1 : ByteArray) (ag1e : (Int) → Option (Bool)) (iv173 : Int) : Option (Bool) :=
  (if iv173 < (name1.size : Int) then (if 0 ≤ (iv173 : Int) then ((name1[(iv173 : Int).toNat]?).bind fun c240 => (if (c240.toNat : Int) < 33 then some false else (if 0 ≤ (iv173 : Int) then ((name1[(iv173 : Int).toNat]?).bind fun c244 => (if 126 < (c244.toNat : Int) then some false else (if InR (iv173 + 1) then ag1e (iv173 + 1) else none))) else none))) else none) else some true)
theorem palinoderef03_IsName_l1_ok {fuel : Nat} {name1 : ByteArray} {ag1e : (Int) → Option (Bool)} {ag1 : (Int) → Prop} {iv173 : Int} {r : Bool} (hagag1 : ∀ s, ag1e s = some r → ag1 s) (h : palinoderef03_IsName_l1_ev fuel name1 ag1e iv173 = some r) : palinoderef03_IsName_l1 name1 ag1 iv173 r := by
  unfold palinoderef03_IsName_l1_ev at h
  unfold palinoderef03_IsName_l1
  refine ⟨fun g84 => ?_, fun g84 => ?_⟩
  · rw [if_pos g84] at h
    obtain ⟨g85, h⟩ := if_ok h
    refine ⟨g85, ?_⟩
    obtain ⟨q86, g86, h⟩ := bind_ok h
    refine ⟨q86, g86, ?_⟩
    refine ⟨fun g87 => ?_, fun g87 => ?_⟩
    · rw [if_pos g87] at h
      exact (Option.some.inj h).symm
    · rw [if_neg g87] at h
      obtain ⟨g88, h⟩ := if_ok h
      refine ⟨g88, ?_⟩
      obtain ⟨q89, g89, h⟩ := bind_ok h
      refine ⟨q89, g89, ?_⟩
      refine ⟨fun g90 => ?_, fun g90 => ?_⟩
      · rw [if_pos g90] at h
        exact (Option.some.inj h).symm
      · rw [if_neg g90] at h
        obtain ⟨g91, h⟩ := if_ok h
        refine ⟨g91, ?_⟩
        exact hagag1 _ h
  · rw [if_neg g84] at h
    exact (Option.some.inj h).symm
def palinoderef03_IsName_ev (fuel : Nat) (name1 : ByteArray) : Option (Bool) :=
  (if (name1.size : Int) < 1 then some false else (if 64 < (name1.size : Int) then some false else (loopE (fun ag1e s => palinoderef03_IsName_l1_ev fuel name1 ag1e s) fuel 0)))
theorem palinoderef03_IsName_ok {fuel : Nat} {name1 : ByteArray} {r : Bool} (h : palinoderef03_IsName_ev fuel name1 = some r) : palinoderef03_IsName_R name1 r := by
  unfold palinoderef03_IsName_ev at h
  unfold palinoderef03_IsName_R
  refine ⟨fun g92 => ?_, fun g92 => ?_⟩
  · rw [if_pos g92] at h
    exact (Option.some.inj h).symm
  · rw [if_neg g92] at h
    refine ⟨fun g93 => ?_, fun g93 => ?_⟩
    · rw [if_pos g93] at h
      exact (Option.some.inj h).symm
    · rw [if_neg g93] at h
      refine loopE_ok ?_ h
      intro ae ag s hag h
      exact palinoderef03_IsName_l1_ok hag h
set_option maxHeartbeats 4000000 in
theorem palinoderef03_IsName_con (name1 : ByteArray) (r : Bool) (h : palinoderef03_IsName_R name1 r) : Con Try.prog 9 [.v (.string name1)] [] [] (Ret (.v (.bool r))) := by
  refine xenter Try.func9 rfl rfl fun g hg => ?_
  simp only [Try.ntmps9, slots]
  refine xseq ?_
  refine xregion ?_
  refine xvalP (pv_assign rfl) rfl rfl ?_
  refine xnil ?_
  refine xthen ?_
  refine xseq ?_
  refine xseq ?_
  refine xregion ?_
  refine xvalP (pv_move rfl) rfl rfl ?_
  refine xvalP (pv_lenS UndC.h rfl) rfl rfl ?_
  refine xvalP (pv_bin2 rfl rfl rfl) rfl rfl ?_
  refine xvalP (pv_move rfl) rfl rfl ?_
  by_cases hp20 : (name1.size : Int) < 1
  · replace h := h.1 hp20
    refine xsetB 7 (decide_eq_true hp20) rfl ?_
    refine xskip rfl rfl ?_
    refine xskip rfl rfl ?_
    refine xskip rfl rfl ?_
    refine xvalP (pv_pick rfl rfl) rfl rfl ?_
    refine xnil ?_
    refine xthen ?_
    refine xcondT rfl ?_
    refine xseq ?_
    refine xregion ?_
    refine xvalP (pv_assign rfl) rfl rfl ?_
    refine xnil ?_
    refine xthen ?_
    refine xretc ?_
    refine xthen_ret ?_
    replace h := h.symm
    subst h
    exact xret1 hg rfl rfl (.refl _) (SubM.of (.nil _) (.nil _)) ⟨rfl, rfl, rfl⟩
  · replace h := h.2 hp20
    refine xsetB 7 (decide_eq_false hp20) rfl ?_
    refine xvalP (pv_move rfl) rfl rfl ?_
    refine xvalP (pv_lenS UndC.h rfl) rfl rfl ?_
    refine xvalP (pv_bin2 rfl rfl rfl) rfl rfl ?_
    refine xvalP (pv_pick rfl rfl) rfl rfl ?_
    refine xnil ?_
    refine xthen ?_
    by_cases hp23 : 64 < (name1.size : Int)
    · replace h := h.1 hp23
      refine xcondT' (decide_eq_true hp23) rfl ?_
      refine xseq ?_
      refine xregion ?_
      refine xvalP (pv_assign rfl) rfl rfl ?_
      refine xnil ?_
      refine xthen ?_
      refine xretc ?_
      refine xthen_ret ?_
      replace h := h.symm
      subst h
      exact xret1 hg rfl rfl (.refl _) (SubM.of (.nil _) (.nil _)) ⟨rfl, rfl, rfl⟩
    · replace h := h.2 hp23
      refine xcondF' (decide_eq_false hp23) rfl ?_
      refine xskipc ?_
      refine xthen ?_
      refine xseq ?_
      refine xseq ?_
      refine xregion ?_
      refine xvalP (pv_assign rfl) rfl rfl ?_
      refine xnil ?_
      refine xthen ?_
      refine xblock ?_
      obtain ⟨Inv, ⟨m0, hI⟩, hS⟩ := h
      refine xloop (fun σ m => ∃ (iv173 : Int), Inv iv173 m ∧ σ = ⟨[(0, .v (.string name1)), (3, .v (.int .i64 iv173))], [], []⟩) ⟨0, hI, rfl⟩ ⟨(.cons rfl (.refl _) (.cons rfl (.refl _) (.nil _))), (SubM.of (.nil _) (.nil _))⟩ ?_
      rintro _ m ⟨iv173, hI, rfl⟩
      obtain ⟨ag1, hag1, h⟩ : ∃ ag, (∀ s', ag s' → ∃ m', m' < m ∧ Inv s' m') ∧ palinoderef03_IsName_l1 name1 ag iv173 r := ⟨_, fun _ h => h, hS iv173 _ hI⟩
      clear hS hI
      refine xseq ?_
      refine xseq ?_
      refine xregion ?_
      refine xvalP (pv_move rfl) rfl rfl ?_
      refine xvalP (pv_move rfl) rfl rfl ?_
      refine xvalP (pv_lenS UndC.h rfl) rfl rfl ?_
      refine xvalP (pv_bin2 rfl rfl rfl) rfl rfl ?_
      refine xnil ?_
      refine xthen ?_
      by_cases hp216 : iv173 < (name1.size : Int)
      · replace h := h.1 hp216
        refine xcondT' (decide_eq_true hp216) rfl ?_
        refine xskipc ?_
        refine xthen ?_
        refine xseq ?_
        refine xblock ?_
        refine xseq ?_
        refine xregion ?_
        refine xvalP (pv_move rfl) rfl rfl ?_
        refine xvalP (pv_move rfl) rfl rfl ?_
        obtain ⟨h239, h⟩ := h
        obtain ⟨c240, h239b, h⟩ := h
        refine xvalP (pv_indexSM h239 h239b UndC.h rfl rfl) rfl rfl ?_
        refine xvalP (pv_bin2 rfl rfl rfl) rfl rfl ?_
        refine xvalP (pv_move rfl) rfl rfl ?_
        by_cases hp242 : (c240.toNat : Int) < 33
        · replace h := h.1 hp242
          refine xsetB 22 (decide_eq_true hp242) rfl ?_
          refine xskip rfl rfl ?_
          refine xskip rfl rfl ?_
          refine xskip rfl rfl ?_
          refine xskip rfl rfl ?_
          refine xvalP (pv_pick rfl rfl) rfl rfl ?_
          refine xnil ?_
          refine xthen ?_
          refine xcondT rfl ?_
          refine xseq ?_
          refine xregion ?_
          refine xvalP (pv_assign rfl) rfl rfl ?_
          refine xnil ?_
          refine xthen ?_
          refine xretc ?_
          refine xin_ret ?_
          refine xthen_ret ?_
          refine xthen_ret ?_
          refine xin_ret ?_
          refine xthen_ret ?_
          replace h := h.symm
          subst h
          exact xret1 hg rfl rfl (.refl _) (SubM.of (.nil _) (.nil _)) ⟨rfl, rfl, rfl⟩
        · replace h := h.2 hp242
          refine xsetB 22 (decide_eq_false hp242) rfl ?_
          refine xvalP (pv_move rfl) rfl rfl ?_
          refine xvalP (pv_move rfl) rfl rfl ?_
          obtain ⟨h243, h⟩ := h
          obtain ⟨c244, h243b, h⟩ := h
          refine xvalP (pv_indexSM h243 h243b UndC.h rfl rfl) rfl rfl ?_
          refine xvalP (pv_bin2 rfl rfl rfl) rfl rfl ?_
          refine xvalP (pv_pick rfl rfl) rfl rfl ?_
          refine xnil ?_
          refine xthen ?_
          by_cases hp246 : 126 < (c244.toNat : Int)
          · replace h := h.1 hp246
            refine xcondT' (decide_eq_true hp246) rfl ?_
            refine xseq ?_
            refine xregion ?_
            refine xvalP (pv_assign rfl) rfl rfl ?_
            refine xnil ?_
            refine xthen ?_
            refine xretc ?_
            refine xin_ret ?_
            refine xthen_ret ?_
            refine xthen_ret ?_
            refine xin_ret ?_
            refine xthen_ret ?_
            replace h := h.symm
            subst h
            exact xret1 hg rfl rfl (.refl _) (SubM.of (.nil _) (.nil _)) ⟨rfl, rfl, rfl⟩
          · replace h := h.2 hp246
            refine xcondF' (decide_eq_false hp246) rfl ?_
            refine xskipc ?_
            refine xin_normal ?_
            refine xthen ?_
            refine xregion ?_
            refine xvalP (pv_move rfl) rfl rfl ?_
            obtain ⟨h247, h⟩ := h
            refine xvalP (pv_addI h247 rfl rfl) rfl rfl ?_
            refine xvalP (pv_assign rfl) rfl rfl ?_
            refine xnil ?_
            obtain ⟨m', hm, hI⟩ := hag1 _ h
            exact xagain ⟨(iv173 + 1), hI, rfl⟩ hm ⟨(.cons rfl (.refl _) (.cons rfl (.refl _) (.nil _))), (SubM.of (.nil _) (.nil _))⟩
      · replace h := h.2 hp216
        refine xcondF' (decide_eq_false hp216) rfl ?_
        refine xexit ?_
        refine xthen_exit ?_
        refine xthen_exit ?_
        refine xin_same rfl ?_
        refine xthen ?_
        refine xseq ?_
        refine xregion ?_
        refine xvalP (pv_assign rfl) rfl rfl ?_
        refine xnil ?_
        refine xthen ?_
        refine xretc ?_
        replace h := h.symm
        subst h
        exact xret1 hg rfl rfl (.refl _) (SubM.of (.nil _) (.nil _)) ⟨rfl, rfl, rfl⟩
/-- slices.Clone [ []byte,byte] -/
def slices_Clone_v2_R (l1 : List UInt8) (r : (List UInt8)) : Prop :=
  ∀ bv7 : Bool, (0 < l1.length → bv7 = false) → ((bv7 = true → r = ([] : List UInt8)) ∧ (¬ (bv7 = true) → Room ((([] : List UInt8)).length + l1.length) 1 ∧ r = (([] : List UInt8) ++ l1)))
def slices_Clone_v2_ev (fuel : Nat) (l1 : List UInt8) : Option ((List UInt8)) :=
  (bothE (decide (0 < l1.length)) fun bv7 => (if bv7 = true then some ([] : List UInt8) else (if Room ((([] : List UInt8)).length + l1.length) 1 then some (([] : List UInt8) ++ l1) else none)))
theorem slices_Clone_v2_ok {fuel : Nat} {l1 : List UInt8} {r : (List UInt8)} (h : slices_Clone_v2_ev fuel l1 = some r) : slices_Clone_v2_R l1 r := by
  unfold slices_Clone_v2_ev at h
  unfold slices_Clone_v2_R
  intro q122 g122
  replace h := bothE_ok h q122 (fun e => g122 (of_decide_eq_true e))
  refine ⟨fun g123 => ?_, fun g123 => ?_⟩
  · rw [if_pos g123] at h
    exact (Option.some.inj h).symm
  · rw [if_neg g123] at h
    obtain ⟨g124, h⟩ := if_ok h
    refine ⟨g124, ?_⟩
    exact (Option.some.inj h).symm
set_option maxHeartbeats 4000000 in
theorem slices_Clone_v2_con (l1 : List UInt8) (ia2 : Option (Nat × Nat)) (r : (List UInt8)) (h : slices_Clone_v2_R l1 r) : Con Try.prog 30 [.rb ia2 l1.length] [rbx ia2 5 1 (List.map eb l1)] [] (fun rr bx tk => ∃ j1, rr = .sl 1 (some j1) (List.map eb r) ∧ bx = [rbx ia2 5 1 (List.map eb l1)] ∧ tk = [⟨j1, 5, 1, r.length⟩]) := by
  refine xenter Try.func30 rfl rfl fun g hg => ?_
  simp only [Try.ntmps30, slots]
  refine xseq ?_
  refine xregion ?_
  refine xvalP (pv_assign rfl) rfl rfl ?_
  refine xnil ?_
  refine xthen ?_
  refine xseq ?_
  refine xseq ?_
  refine xregion ?_
  refine xvalP (pv_move rfl) rfl rfl ?_
  refine xrbok 3 rfl fun hA6 => ?_
  refine xvalP (pv_eqNilRb UndC.h rfl rfl) rfl rfl ?_
  obtain ⟨bv7, hb6⟩ : ∃ b : Bool, (Option.isNone ia2) = b := ⟨_, rfl⟩
  replace h := h bv7 (fun q => hb6 ▸ hA6 q)
  refine xsetB 4 (b' := bv7) (by rw [hb6]) rfl ?_
  refine xnil ?_
  refine xthen ?_
  by_cases hp8 : bv7 = true
  · replace h := h.1 hp8
    refine xcondT' hp8 rfl ?_
    refine xseq ?_
    refine xregion ?_
    refine xvalP (pv_assign rfl) rfl rfl ?_
    refine xnil ?_
    refine xthen ?_
    refine xretc ?_
    refine xthen_ret ?_
    replace h := h.symm
    subst h
    exact xret1 (bx' := [rbx ia2 5 1 (List.map eb l1)]) (tk' := [⟨none, 5, 1, (([] : List UInt8)).length⟩]) hg rfl rfl (.nil_own _) (SubM.of (by repeat (first | with_reducible exact SubB.refl _ | exact SubB.nil _ | refine SubB.keep rfl rfl (by first | with_reducible exact WkL.refl _ | ((repeat (first | exact WkL.nil | refine WkL.cons (by first | with_reducible exact Wk.refl _ | exact Wk.nil_own _ | exact Wk.nil_pl _ | with_reducible exact Wk.tok _ _ _ | exact Wk.tok _ _ _ | exact Wk.eq (by first | rfl | (simp []; done) | (simp []; omega))) ?_)); done) | exact WkL.refl _) ?_ | refine SubB.drop ?_)) (by repeat (first | exact SubT.nil _ | refine SubT.add ?_ | (refine SubT.keep ?_ ?_; focus (first | with_reducible rfl | (simp []; done))) | refine SubT.drop ?_))) ⟨none, rfl, rfl, rfl⟩
  · replace h := h.2 hp8
    refine xcondF' (b_f hp8) rfl ?_
    refine xskipc ?_
    refine xthen ?_
    refine xseq ?_
    refine xregion ?_
    refine xbuildSliceM (f := eb) ([] : List UInt8) UndC.h InfC.h rfl rfl (by first | exact wkR_of rfl | (repeat (first | exact WkR.nil | refine WkR.cons (by (repeat (first | exact WkL.nil | refine WkL.cons (by first | with_reducible exact Wk.refl _ | exact Wk.nil_own _ | exact Wk.nil_pl _ | with_reducible exact Wk.tok _ _ _ | exact Wk.tok _ _ _ | exact Wk.eq (by first | rfl | (simp []; done) | (simp []; omega))) ?_))) ?_))) rfl rfl rfl rfl fun s5 => ?_
    refine xvalP (pv_move rfl) rfl rfl ?_
    obtain ⟨h9, h⟩ := h
    refine xappendMS (f := eb) (l := ([] : List UInt8)) (l2 := l1) 0 h9 UndC.h InfC.h rfl rfl (.rb 0 rfl rfl rfl) rfl rfl rfl fun i10 => ?_
    refine xvalP (pv_assign rfl) rfl rfl ?_
    refine xnil ?_
    refine xthen ?_
    refine xretc ?_
    replace h := h.symm
    subst h
    exact xret1 (bx' := [rbx ia2 5 1 (List.map eb l1)]) (tk' := [⟨i10, 5, 1, ((([] : List UInt8) ++ l1)).length⟩]) hg rfl rfl (.refl _) (SubM.of (.keep rfl rfl (.refl _) (.nil _)) (.keep rfl (.nil _))) ⟨i10, rfl, rfl, rfl⟩
/-- (*files.Table).Put -/
def files_Table_Put_v2_j1 (l1 : List UInt8) (iv30 : Int) (l31 : List (ByteArray × (List UInt8))) (r : Int × (List (ByteArray × (List UInt8)))) : Prop :=
  ∃ y64 : (List UInt8), slices_Clone_v2_R l1 y64 ∧ 0 ≤ (iv30 : Int) ∧ ∃ y66 : ByteArray × (List UInt8), l31[(iv30 : Int).toNat]? = some y66 ∧ r = (0, (l31.set (iv30 : Int).toNat (y66.1, y64)))
def files_Table_Put_v2_j2 (l3 : List (ByteArray × (List UInt8))) (y7 : Int) (name5 : ByteArray) (l1 : List UInt8) (x43 : Bool) (r : Int × (List (ByteArray × (List UInt8)))) : Prop :=
  ((x43 = true → r = (7, l3)) ∧ (¬ (x43 = true) → ((y7 < 0 → Room (l3.length + ([(name5, ([] : List UInt8))]).length) 40 ∧ InR ((((l3 ++ [(name5, ([] : List UInt8))]).length : Nat) : Int) - 1) ∧ files_Table_Put_v2_j1 l1 ((((l3 ++ [(name5, ([] : List UInt8))]).length : Nat) : Int) - 1) (l3 ++ [(name5, ([] : List UInt8))]) r) ∧ (¬ (y7 < 0) → files_Table_Put_v2_j1 l1 y7 l3 r))))
def files_Table_Put_v2_R (l1 : List UInt8) (l3 : List (ByteArray × (List UInt8))) (name5 : ByteArray) (r : Int × (List (ByteArray × (List UInt8)))) : Prop :=
  ∃ y7 : Int, files_Table_at_R l3 name5 y7 ∧ ∃ y34 : Bool, files_IsName_R name5 y34 ∧ ((¬ (y34 = true) → r = (4, l3)) ∧ (¬ (¬ (y34 = true)) → ((65536 < ((l1.length : Nat) : Int) → r = (8, l3)) ∧ (¬ (65536 < ((l1.length : Nat) : Int)) → files_Table_Put_v2_j2 l3 y7 name5 l1 ((decide (y7 < 0)) && (decide (16 ≤ ((l3.length : Nat) : Int)))) r))))
def files_Table_Put_v2_j1_ev (fuel : Nat) (l1 : List UInt8) (iv30 : Int) (l31 : List (ByteArray × (List UInt8))) : Option (Int × (List (ByteArray × (List UInt8)))) :=
  ((slices_Clone_v2_ev fuel l1).bind fun y64 => (if 0 ≤ (iv30 : Int) then ((l31[(iv30 : Int).toNat]?).bind fun y66 => some (0, (l31.set (iv30 : Int).toNat (y66.1, y64)))) else none))
theorem files_Table_Put_v2_j1_ok {fuel : Nat} {l1 : List UInt8} {iv30 : Int} {l31 : List (ByteArray × (List UInt8))} {r : Int × (List (ByteArray × (List UInt8)))} (h : files_Table_Put_v2_j1_ev fuel l1 iv30 l31 = some r) : files_Table_Put_v2_j1 l1 iv30 l31 r := by
  unfold files_Table_Put_v2_j1_ev at h
  unfold files_Table_Put_v2_j1
  obtain ⟨q125, g125, h⟩ := bind_ok h
  refine ⟨q125, slices_Clone_v2_ok g125, ?_⟩
  obtain ⟨g126, h⟩ := if_ok h
  refine ⟨g126, ?_⟩
  obtain ⟨q127, g127, h⟩ := bind_ok h
  refine ⟨q127, g127, ?_⟩
  exact (Option.some.inj h).symm
def files_Table_Put_v2_j2_ev (fuel : Nat) (l3 : List (ByteArray × (List UInt8))) (y7 : Int) (name5 : ByteArray) (l1 : List UInt8) (x43 : Bool) : Option (Int × (List (ByteArray × (List UInt8)))) :=
  (if x43 = true then some (7, l3) else (if y7 < 0 then (if Room (l3.length + ([(name5, ([] : List UInt8))]).length) 40 then (if InR ((((l3 ++ [(name5, ([] : List UInt8))]).length : Nat) : Int) - 1) then files_Table_Put_v2_j1_ev fuel l1 ((((l3 ++ [(name5, ([] : List UInt8))]).length : Nat) : Int) - 1) (l3 ++ [(name5, ([] : List UInt8))]) else none) else none) else files_Table_Put_v2_j1_ev fuel l1 y7 l3))
theorem files_Table_Put_v2_j2_ok {fuel : Nat} {l3 : List (ByteArray × (List UInt8))} {y7 : Int} {name5 : ByteArray} {l1 : List UInt8} {x43 : Bool} {r : Int × (List (ByteArray × (List UInt8)))} (h : files_Table_Put_v2_j2_ev fuel l3 y7 name5 l1 x43 = some r) : files_Table_Put_v2_j2 l3 y7 name5 l1 x43 r := by
  unfold files_Table_Put_v2_j2_ev at h
  unfold files_Table_Put_v2_j2
  refine ⟨fun g128 => ?_, fun g128 => ?_⟩
  · rw [if_pos g128] at h
    exact (Option.some.inj h).symm
  · rw [if_neg g128] at h
    refine ⟨fun g129 => ?_, fun g129 => ?_⟩
    · rw [if_pos g129] at h
      obtain ⟨g130, h⟩ := if_ok h
      refine ⟨g130, ?_⟩
      obtain ⟨g131, h⟩ := if_ok h
      refine ⟨g131, ?_⟩
      exact files_Table_Put_v2_j1_ok h
    · rw [if_neg g129] at h
      exact files_Table_Put_v2_j1_ok h
def files_Table_Put_v2_ev (fuel : Nat) (l1 : List UInt8) (l3 : List (ByteArray × (List UInt8))) (name5 : ByteArray) : Option (Int × (List (ByteArray × (List UInt8)))) :=
  ((files_Table_at_ev fuel l3 name5).bind fun y7 => ((files_IsName_ev fuel name5).bind fun y34 => (if ¬ (y34 = true) then some (4, l3) else (if 65536 < ((l1.length : Nat) : Int) then some (8, l3) else files_Table_Put_v2_j2_ev fuel l3 y7 name5 l1 ((decide (y7 < 0)) && (decide (16 ≤ ((l3.length : Nat) : Int))))))))
theorem files_Table_Put_v2_ok {fuel : Nat} {l1 : List UInt8} {l3 : List (ByteArray × (List UInt8))} {name5 : ByteArray} {r : Int × (List (ByteArray × (List UInt8)))} (h : files_Table_Put_v2_ev fuel l1 l3 name5 = some r) : files_Table_Put_v2_R l1 l3 name5 r := by
  unfold files_Table_Put_v2_ev at h
  unfold files_Table_Put_v2_R
  obtain ⟨q132, g132, h⟩ := bind_ok h
  refine ⟨q132, files_Table_at_ok g132, ?_⟩
  obtain ⟨q133, g133, h⟩ := bind_ok h
  refine ⟨q133, files_IsName_ok g133, ?_⟩
  refine ⟨fun g134 => ?_, fun g134 => ?_⟩
  · rw [if_pos g134] at h
    exact (Option.some.inj h).symm
  · rw [if_neg g134] at h
    refine ⟨fun g135 => ?_, fun g135 => ?_⟩
    · rw [if_pos g135] at h
      exact (Option.some.inj h).symm
    · rw [if_neg g135] at h
      exact files_Table_Put_v2_j2_ok h
set_option maxHeartbeats 4000000 in
theorem files_Table_Put_v2_con (l1 : List UInt8) (l3 : List (ByteArray × (List UInt8))) (name5 : ByteArray) (bx0 : Nat) (ia2 : Option (Nat × Nat)) (ia4 : Option (Nat × Nat)) (r : Int × (List (ByteArray × (List UInt8)))) (h : files_Table_Put_v2_R l1 l3 name5 r) : Con Try.prog 12 [.v (.pointer (some ⟨bx0, 0, none⟩)), .v (.string name5), .rb ia2 l1.length] [⟨bx0, 60, [.rb ia4 l3.length]⟩, rbx ia2 5 1 (List.map eb l1), rbx ia4 30 2 (List.map E_palinode_api_File l3)] [] (fun rr bx tk => ∃ j1, rr = .v (.int .i64 r.1) ∧ bx = [rbx ia2 5 1 (List.map eb l1), rbx j1 30 2 (List.map E_palinode_api_File r.2), ⟨bx0, 60, [.rb j1 r.2.length]⟩] ∧ tk = []) := by
  refine xenter Try.func12 rfl rfl fun g hg => ?_
  simp only [Try.ntmps12, slots]
  refine xseq ?_
  refine xregion ?_
  refine xvalP (pv_assign rfl) rfl rfl ?_
  refine xnil ?_
  refine xthen ?_
  refine xseq ?_
  refine xregion ?_
  refine xvalP (pv_move rfl) rfl rfl ?_
  refine xvalP (pv_move rfl) rfl rfl ?_
  obtain ⟨y7, h6, h⟩ := h
  refine xcallF (Fb := [rbx ia2 5 1 (List.map eb l1)]) (Ft := []) (files_Table_at_con l3 name5 bx0 ia4 _ h6) Try.func29 (by kernel_rfl) rfl (.cons rfl (.refl _) (.cons rfl (.refl _) .nil)) (by refine SubM.trans (SubM.mvB 2 rfl) ?_; refine SubM.trans (SubM.mvB 1 rfl) ?_; (simp only [List.eraseIdx]); exact (SubM.of (by repeat (first | with_reducible exact SubB.refl _ | exact SubB.nil _ | refine SubB.keep rfl rfl (by first | with_reducible exact WkL.refl _ | ((repeat (first | exact WkL.nil | refine WkL.cons (by first | with_reducible exact Wk.refl _ | exact Wk.nil_own _ | exact Wk.nil_pl _ | with_reducible exact Wk.tok _ _ _ | exact Wk.tok _ _ _ | exact Wk.eq (by first | rfl | (simp []; done) | (simp []; omega))) ?_)); done) | exact WkL.refl _) ?_ | refine SubB.drop ?_)) (by repeat (first | exact SubT.nil _ | refine SubT.add ?_ | (refine SubT.keep ?_ ?_; focus (first | with_reducible rfl | (simp []; done))) | refine SubT.drop ?_)))) rfl rfl ?_
  rintro _ _ _ ⟨rfl, rfl, rfl⟩
  simp only [List.nil_append, List.cons_append]
  refine xvalP (pv_assign rfl) rfl rfl ?_
  refine xnil ?_
  refine xthen ?_
  refine xseqM (fun σ => ∃ (iv30 : Int), ∃ (l31 : List (ByteArray × (List UInt8))), ∃ (i32 : Option (Nat × Nat)), files_Table_Put_v2_j1 l1 iv30 l31 r ∧ σ = ⟨[(0, .v (.pointer (some ⟨bx0, 0, none⟩))), (2, .rb ia2 l1.length), (7, .v (.int .i64 iv30))], [rbx i32 30 2 (List.map E_palinode_api_File l31), ⟨bx0, 60, [.rb i32 l31.length]⟩, rbx ia2 5 1 (List.map eb l1)], []⟩) ?_ ?_
  · refine xblock ?_
    refine xseq ?_
    refine xregion ?_
    refine xvalP (pv_move rfl) rfl rfl ?_
    obtain ⟨y34, h33, h⟩ := h
    refine xcall0 (files_IsName_con name5 _ h33) Try.func10 (by kernel_rfl) rfl (.cons rfl (.refl _) .nil) rfl rfl ?_
    refine xvalP (pv_not rfl) rfl rfl ?_
    refine xvalP (pv_assign rfl) rfl rfl ?_
    refine xnil ?_
    refine xthen ?_
    by_cases hp35 : ¬ (y34 = true)
    · replace h := h.1 hp35
      refine xcondT' (not_t (b_f hp35)) rfl ?_
      refine xseq ?_
      refine xregion ?_
      refine xvalP (pv_assign rfl) rfl rfl ?_
      refine xnil ?_
      refine xthen ?_
      refine xretc ?_
      refine xin_ret ?_
      refine xthen_ret ?_
      replace h := h.symm
      subst h
      exact xret1 (bx' := [rbx ia2 5 1 (List.map eb l1), rbx ia4 30 2 (List.map E_palinode_api_File l3), ⟨bx0, 60, [.rb ia4 l3.length]⟩]) (tk' := []) hg rfl rfl (.refl _) (by refine SubM.trans (SubM.mvB 1 rfl) ?_; refine SubM.trans (SubM.mvB 1 rfl) ?_; refine SubM.trans (SubM.mvB 2 rfl) ?_; (simp only [List.eraseIdx]); exact (SubM.of (by repeat (first | with_reducible exact SubB.refl _ | exact SubB.nil _ | refine SubB.keep rfl rfl (by first | with_reducible exact WkL.refl _ | ((repeat (first | exact WkL.nil | refine WkL.cons (by first | with_reducible exact Wk.refl _ | exact Wk.nil_own _ | exact Wk.nil_pl _ | with_reducible exact Wk.tok _ _ _ | exact Wk.tok _ _ _ | exact Wk.eq (by first | rfl | (simp []; done) | (simp []; omega))) ?_)); done) | exact WkL.refl _) ?_ | refine SubB.drop ?_)) (by repeat (first | exact SubT.nil _ | refine SubT.add ?_ | (refine SubT.keep ?_ ?_; focus (first | with_reducible rfl | (simp []; done))) | refine SubT.drop ?_)))) ⟨ia4, rfl, rfl, rfl⟩
    · replace h := h.2 hp35
      refine xcondF' (not_f (Decidable.of_not_not hp35)) rfl ?_
      refine xseq ?_
      refine xregion ?_
      refine xvalP (pv_move rfl) rfl rfl ?_
      refine xvalP (pv_lenRb UndC.h rfl) rfl rfl ?_
      refine xvalP (pv_bin2 rfl rfl rfl) rfl rfl ?_
      refine xvalP (pv_assign rfl) rfl rfl ?_
      refine xnil ?_
      refine xthen ?_
      by_cases hp38 : 65536 < ((l1.length : Nat) : Int)
      · replace h := h.1 hp38
        refine xcondT' (decide_eq_true hp38) rfl ?_
        refine xseq ?_
        refine xregion ?_
        refine xvalP (pv_assign rfl) rfl rfl ?_
        refine xnil ?_
        refine xthen ?_
        refine xretc ?_
        refine xin_ret ?_
        refine xthen_ret ?_
        replace h := h.symm
        subst h
        exact xret1 (bx' := [rbx ia2 5 1 (List.map eb l1), rbx ia4 30 2 (List.map E_palinode_api_File l3), ⟨bx0, 60, [.rb ia4 l3.length]⟩]) (tk' := []) hg rfl rfl (.refl _) (by refine SubM.trans (SubM.mvB 1 rfl) ?_; refine SubM.trans (SubM.mvB 1 rfl) ?_; refine SubM.trans (SubM.mvB 2 rfl) ?_; (simp only [List.eraseIdx]); exact (SubM.of (by repeat (first | with_reducible exact SubB.refl _ | exact SubB.nil _ | refine SubB.keep rfl rfl (by first | with_reducible exact WkL.refl _ | ((repeat (first | exact WkL.nil | refine WkL.cons (by first | with_reducible exact Wk.refl _ | exact Wk.nil_own _ | exact Wk.nil_pl _ | with_reducible exact Wk.tok _ _ _ | exact Wk.tok _ _ _ | exact Wk.eq (by first | rfl | (simp []; done) | (simp []; omega))) ?_)); done) | exact WkL.refl _) ?_ | refine SubB.drop ?_)) (by repeat (first | exact SubT.nil _ | refine SubT.add ?_ | (refine SubT.keep ?_ ?_; focus (first | with_reducible rfl | (simp []; done))) | refine SubT.drop ?_)))) ⟨ia4, rfl, rfl, rfl⟩
      · replace h := h.2 hp38
        refine xcondF' (decide_eq_false hp38) rfl ?_
        refine xseqM (fun σ => ∃ (x43 : Bool), files_Table_Put_v2_j2 l3 y7 name5 l1 x43 r ∧ σ = ⟨[(0, .v (.pointer (some ⟨bx0, 0, none⟩))), (1, .v (.string name5)), (2, .rb ia2 l1.length), (7, .v (.int .i64 y7)), (19, .v (.bool x43))], [rbx ia4 30 2 (List.map E_palinode_api_File l3), ⟨bx0, 60, [.rb ia4 l3.length]⟩, rbx ia2 5 1 (List.map eb l1)], []⟩) ?_ ?_
        · refine xregion ?_
          refine xvalP (pv_move rfl) rfl rfl ?_
          refine xvalP (pv_bin2 rfl rfl rfl) rfl rfl ?_
          refine xvalP (pv_move rfl) rfl rfl ?_
          by_cases hp45 : y7 < 0
          · rw [show (decide (y7 < 0)) = true from (decide_eq_true hp45), Bool.true_and] at h
            refine xsetB 22 (decide_eq_true hp45) rfl ?_
            refine xvalP (pv_move rfl) rfl rfl ?_
            refine xvalP (pv_nilCheck rfl) rfl rfl ?_
            refine xvalP (qv_fieldAddrB FldC.h rfl) rfl rfl ?_
            refine xval (qv_loadB 1 ShpC.h rfl rfl rfl rfl) rfl rfl ?_
            refine xvalP (pv_lenRb UndC.h rfl) rfl rfl ?_
            refine xvalP (pv_bin2 rfl rfl rfl) rfl rfl ?_
            refine xvalP (pv_pick rfl rfl) rfl rfl ?_
            refine xvalP (pv_assign rfl) rfl rfl ?_
            refine xnil ?_
            exact xmeet ⟨(decide (16 ≤ ((l3.length : Nat) : Int))), h, rfl⟩ ⟨(.cons rfl (.refl _) (.cons rfl (.refl _) (.cons rfl (.eq (by first | rfl | simp)) (.cons rfl (.refl _) (.cons rfl (.refl _) (.nil _)))))), by exact (SubM.of (.keep rfl rfl (.refl _) (.keep rfl rfl (.cons (.eq (by first | rfl | simp)) .nil) (.keep rfl rfl (.refl _) (.nil _)))) (.nil _))⟩
          · rw [show (decide (y7 < 0)) = false from (decide_eq_false hp45), Bool.false_and] at h
            refine xsetB 22 (decide_eq_false hp45) rfl ?_
            refine xskip rfl rfl ?_
            refine xskip rfl rfl ?_
            refine xskip rfl rfl ?_
            refine xskip rfl rfl ?_
            refine xskip rfl rfl ?_
            refine xskip rfl rfl ?_
            refine xvalP (pv_pick rfl rfl) rfl rfl ?_
            refine xvalP (pv_assign rfl) rfl rfl ?_
            refine xnil ?_
            exact xmeet ⟨false, h, rfl⟩ ⟨(.cons rfl (.refl _) (.cons rfl (.refl _) (.cons rfl (.eq (by first | rfl | simp)) (.cons rfl (.refl _) (.cons rfl (.refl _) (.nil _)))))), by exact (SubM.of (.keep rfl rfl (.refl _) (.keep rfl rfl (.cons (.eq (by first | rfl | simp)) .nil) (.keep rfl rfl (.refl _) (.nil _)))) (.nil _))⟩
        · clear h
          rintro _ ⟨x43, h, rfl⟩
          by_cases hp48 : x43 = true
          · replace h := h.1 hp48
            refine xcondT' hp48 rfl ?_
            refine xseq ?_
            refine xregion ?_
            refine xvalP (pv_assign rfl) rfl rfl ?_
            refine xnil ?_
            refine xthen ?_
            refine xretc ?_
            refine xin_ret ?_
            refine xthen_ret ?_
            replace h := h.symm
            subst h
            exact xret1 (bx' := [rbx ia2 5 1 (List.map eb l1), rbx ia4 30 2 (List.map E_palinode_api_File l3), ⟨bx0, 60, [.rb ia4 l3.length]⟩]) (tk' := []) hg rfl rfl (.refl _) (by refine SubM.trans (SubM.mvB 1 rfl) ?_; refine SubM.trans (SubM.mvB 1 rfl) ?_; refine SubM.trans (SubM.mvB 2 rfl) ?_; (simp only [List.eraseIdx]); exact (SubM.of (by repeat (first | with_reducible exact SubB.refl _ | exact SubB.nil _ | refine SubB.keep rfl rfl (by first | with_reducible exact WkL.refl _ | ((repeat (first | exact WkL.nil | refine WkL.cons (by first | with_reducible exact Wk.refl _ | exact Wk.nil_own _ | exact Wk.nil_pl _ | with_reducible exact Wk.tok _ _ _ | exact Wk.tok _ _ _ | exact Wk.eq (by first | rfl | (simp []; done) | (simp []; omega))) ?_)); done) | exact WkL.refl _) ?_ | refine SubB.drop ?_)) (by repeat (first | exact SubT.nil _ | refine SubT.add ?_ | (refine SubT.keep ?_ ?_; focus (first | with_reducible rfl | (simp []; done))) | refine SubT.drop ?_)))) ⟨ia4, rfl, rfl, rfl⟩
          · replace h := h.2 hp48
            refine xcondF' (b_f hp48) rfl ?_
            refine xseq ?_
            refine xregion ?_
            refine xvalP (pv_move rfl) rfl rfl ?_
            refine xvalP (pv_bin2 rfl rfl rfl) rfl rfl ?_
            refine xvalP (pv_assign rfl) rfl rfl ?_
            refine xnil ?_
            refine xthen ?_
            by_cases hp50 : y7 < 0
            · replace h := h.1 hp50
              refine xcondT' (decide_eq_true hp50) rfl ?_
              refine xseq ?_
              refine xregion ?_
              refine xvalP (pv_move rfl) rfl rfl ?_
              refine xvalP (pv_move rfl) rfl rfl ?_
              refine xvalP (pv_nilCheck rfl) rfl rfl ?_
              refine xvalP (qv_fieldAddrB FldC.h rfl) rfl rfl ?_
              refine xval (qv_loadB 1 ShpC.h rfl rfl rfl rfl) rfl rfl ?_
              refine xvalP (pv_move rfl) rfl rfl ?_
              refine xvalP (pv_buildC StrC.h rfl rfl) rfl rfl ?_
              refine xbuildSliceM (f := E_palinode_api_File) [(name5, ([] : List UInt8))] UndC.h InfC.h rfl rfl (by first | exact wkR_of rfl | (repeat (first | exact WkR.nil | refine WkR.cons (by (repeat (first | exact WkL.nil | refine WkL.cons (by first | with_reducible exact Wk.refl _ | exact Wk.nil_own _ | exact Wk.nil_pl _ | with_reducible exact Wk.tok _ _ _ | exact Wk.tok _ _ _ | exact Wk.eq (by first | rfl | (simp []; done) | (simp []; omega))) ?_))) ?_))) rfl rfl rfl rfl fun s40 => ?_
              obtain ⟨h51, h⟩ := h
              refine xappendRb (f := E_palinode_api_File) (l := l3) (l2 := [(name5, ([] : List UInt8))]) 0 rfl h51 UndC.h InfC.h rfl rfl (.refl _) (.sl rfl (.refl _)) rfl rfl rfl fun i52 => ?_
              refine xvalP (pv_nilCheck rfl) rfl rfl ?_
              refine xvalP (qv_fieldAddrB FldC.h rfl) rfl rfl ?_
              refine xstore 1 ShpC.h rfl rfl rfl rfl rfl rfl rfl ?_
              refine xnil ?_
              refine xthen ?_
              refine xregion ?_
              refine xvalP (pv_move rfl) rfl rfl ?_
              refine xvalP (pv_nilCheck rfl) rfl rfl ?_
              refine xvalP (qv_fieldAddrB FldC.h rfl) rfl rfl ?_
              refine xval (qv_loadB 1 ShpC.h rfl rfl rfl rfl) rfl rfl ?_
              refine xvalP (pv_lenRb UndC.h rfl) rfl rfl ?_
              obtain ⟨h54, h⟩ := h
              refine xvalP (pv_subI h54 rfl rfl) rfl rfl ?_
              refine xvalP (pv_assign rfl) rfl rfl ?_
              refine xnil ?_
              refine xin_normal ?_
              exact xmeet ⟨((((l3 ++ [(name5, ([] : List UInt8))]).length : Nat) : Int) - 1), (l3 ++ [(name5, ([] : List UInt8))]), i52, h, rfl⟩ ⟨(.cons rfl (.refl _) (.cons rfl (.eq (by first | rfl | simp)) (.cons rfl (.refl _) (.nil _)))), by exact (SubM.of (.keep rfl rfl (.refl _) (.keep rfl rfl (.cons (.eq (by first | rfl | simp)) .nil) (.keep rfl rfl (.refl _) (.nil _)))) (.nil _))⟩
            · replace h := h.2 hp50
              refine xcondF' (decide_eq_false hp50) rfl ?_
              refine xskipc ?_
              refine xin_normal ?_
              exact xmeet ⟨y7, l3, ia4, h, rfl⟩ ⟨(.cons rfl (.refl _) (.cons rfl (.eq (by first | rfl | simp)) (.cons rfl (.refl _) (.nil _)))), by exact (SubM.of (.keep rfl rfl (.refl _) (.keep rfl rfl (.cons (.eq (by first | rfl | simp)) .nil) (.keep rfl rfl (.refl _) (.nil _)))) (.nil _))⟩
  · clear h
    rintro _ ⟨iv30, l31, i32, h, rfl⟩
    refine xseq ?_
    refine xregionD (m := 10) (by kernel_rfl) rfl ?_
    obtain ⟨y64, h63, h⟩ := h
    obtain ⟨h67a, h⟩ := h
    obtain ⟨y66, h67b, h⟩ := h
    refine xpcut 1 #[true, true, true, true, true, true, true, true, true, false] (fun σ => ∃ (i69 : Option (Nat × Nat)), σ = ⟨[(56, .sl 1 (some i69) (List.map eb y64)), (58, .v (.pointer (some ⟨idb i32, (iv30 : Int).toNat * 2 + 1, none⟩)))], [rbx ia2 5 1 (List.map eb l1), rbx i32 30 2 (List.map E_palinode_api_File l31), ⟨bx0, 60, [.rb i32 l31.length]⟩], [⟨i69, 5, 1, y64.length⟩]⟩) ?_ (fun key70 => ?_)
    · rintro _ ⟨i69, rfl⟩
      refine xpstep (i := 9) (by kernel_rfl) rfl ?_
      refine wstoreRb (f := E_palinode_api_File) (k := 2) (off := 1) (i := (iv30 : Int).toNat) 1 (y66.1, y64) h67b rfl (by decide) ShpC.h rfl rfl rfl rfl (by first | rfl | exact seg_lenE (by rfl) | exact len_app rfl (seg_lenE (by rfl)) (by rfl) | exact len_app (seg_lenE (by rfl)) rfl (by rfl) | exact len_app rfl (len_app (seg_lenE (by rfl)) rfl (by rfl)) (by rfl) | (simp only [seg_len, cellsS, List.length_append, List.length_cons, List.length_nil]; done) | (simp only [seg_len, cellsS, List.length_append, List.length_cons, List.length_nil]; rfl)) (.cons (.refl _) (.cons (.tok _ _ _) .nil)) rfl ?_
      refine xpdone (by kernel_rfl) ?_
      refine xthen ?_
      refine xseq ?_
      refine xregion ?_
      refine xvalP (pv_assign rfl) rfl rfl ?_
      refine xnil ?_
      refine xthen ?_
      refine xretc ?_
      replace h := h.symm
      subst h
      exact xret1 (bx' := [rbx ia2 5 1 (List.map eb l1), rbx i32 30 2 (List.map E_palinode_api_File ((l31.set (iv30 : Int).toNat (y66.1, y64)))), ⟨bx0, 60, [.rb i32 (((l31.set (iv30 : Int).toNat (y66.1, y64))).length)]⟩]) (tk' := []) hg rfl rfl (.refl _) (SubM.of (.keep rfl rfl (.refl _) (.keep rfl rfl (.refl _) (.keep rfl rfl (.cons (.eq (by first | rfl | simp)) .nil) (.nil _)))) (.nil _)) ⟨i32, rfl, rfl, rfl⟩
    refine xpval 0 rfl (pv_move rfl) rfl rfl (by kernel_rfl) (by kernel_rfl) (by kernel_rfl) (fun _ _ _ _ h => h) ?_
    refine xpval 1 rfl (pv_nilCheck rfl) rfl rfl (by kernel_rfl) (by kernel_rfl) (by kernel_rfl) (fun _ _ _ _ h => h) ?_
    refine xpval 2 rfl (qv_fieldAddrB FldC.h rfl) rfl rfl (by kernel_rfl) (by kernel_rfl) (by kernel_rfl) (fun _ _ _ _ h => h) ?_
    refine xpval 4 rfl (pv_move rfl) rfl rfl (by kernel_rfl) (by kernel_rfl) (by kernel_rfl) (fun _ _ _ _ h => h) ?_
    refine xpval 5 rfl (pv_move rfl) rfl rfl (by kernel_rfl) (by kernel_rfl) (by kernel_rfl) (fun _ _ _ _ h => h) ?_
    refine xpstepN (is := [3, 6]) (by kernel_rfl) (by simp) ?_
    intro i hi; simp only [List.mem_cons, List.not_mem_nil, or_false] at hi; rcases hi with rfl | rfl
    · refine ⟨_, rfl, ?_⟩
      refine wval (qv_loadB 1 ShpC.h rfl rfl rfl rfl) rfl rfl ?_
      refine xpstep (i := 6) (by kernel_rfl) rfl ?_
      refine wcallF (Fb := [rbx i32 30 2 (List.map E_palinode_api_File l31), ⟨bx0, 60, [.rb i32 l31.length]⟩]) (Ft := []) (slices_Clone_v2_con l1 ia2 _ h63) Try.func30 (by kernel_rfl) rfl (.cons rfl (.eq (by first | rfl | simp)) .nil) (by refine SubM.trans (SubM.mvB 2 rfl) ?_; (simp only [List.eraseIdx]); exact (SubM.of (by repeat (first | with_reducible exact SubB.refl _ | exact SubB.nil _ | refine SubB.keep rfl rfl (by first | with_reducible exact WkL.refl _ | ((repeat (first | exact WkL.nil | refine WkL.cons (by first | with_reducible exact Wk.refl _ | exact Wk.nil_own _ | exact Wk.nil_pl _ | with_reducible exact Wk.tok _ _ _ | exact Wk.tok _ _ _ | exact Wk.eq (by first | rfl | (simp []; done) | (simp []; omega))) ?_)); done) | exact WkL.refl _) ?_ | refine SubB.drop ?_)) (by repeat (first | exact SubT.nil _ | refine SubT.add ?_ | (refine SubT.keep ?_ ?_; focus (first | with_reducible rfl | (simp []; done))) | refine SubT.drop ?_)))) rfl rfl ?_
      rintro _ _ _ ⟨i65, rfl, rfl, rfl⟩
      simp only [List.nil_append, List.cons_append]
      refine xpval 7 rfl (pv_indexAddrRbM rfl h67a h67b UndC.h ShpC.h rfl rfl) rfl rfl (by kernel_rfl) (by kernel_rfl) (by kernel_rfl) (fun _ _ _ _ h => h) ?_
      refine xpval 8 rfl (qv_fieldAddrB FldC.h rfl) rfl rfl (by kernel_rfl) (by kernel_rfl) (by kernel_rfl) (fun _ _ _ _ h => h) ?_
      exact xpuse key70 ⟨i65, rfl⟩ ⟨(.cons rfl (.refl _) (.cons rfl (.refl _) (.nil _))), by exact (SubM.of (.keep rfl rfl (.refl _) (.keep rfl rfl (.refl _) (.keep rfl rfl (.cons (.eq (by first | rfl | simp)) .nil) (.nil _)))) (.keep rfl (.nil _)))⟩ rfl (by kernel_rfl)
    · refine ⟨_, rfl, ?_⟩
      refine wcallF (Fb := [rbx i32 30 2 (List.map E_palinode_api_File l31), ⟨bx0, 60, [.rb i32 l31.length]⟩]) (Ft := []) (slices_Clone_v2_con l1 ia2 _ h63) Try.func30 (by kernel_rfl) rfl (.cons rfl (.eq (by first | rfl | simp)) .nil) (by refine SubM.trans (SubM.mvB 2 rfl) ?_; (simp only [List.eraseIdx]); exact (SubM.of (by repeat (first | with_reducible exact SubB.refl _ | exact SubB.nil _ | refine SubB.keep rfl rfl (by first | with_reducible exact WkL.refl _ | ((repeat (first | exact WkL.nil | refine WkL.cons (by first | with_reducible exact Wk.refl _ | exact Wk.nil_own _ | exact Wk.nil_pl _ | with_reducible exact Wk.tok _ _ _ | exact Wk.tok _ _ _ | exact Wk.eq (by first | rfl | (simp []; done) | (simp []; omega))) ?_)); done) | exact WkL.refl _) ?_ | refine SubB.drop ?_)) (by repeat (first | exact SubT.nil _ | refine SubT.add ?_ | (refine SubT.keep ?_ ?_; focus (first | with_reducible rfl | (simp []; done))) | refine SubT.drop ?_)))) rfl rfl ?_
      rintro _ _ _ ⟨i65, rfl, rfl, rfl⟩
      simp only [List.nil_append, List.cons_append]
      refine xpvalE 3 [] rfl (qv_loadB 2 ShpC.h rfl rfl rfl rfl) rfl rfl (by kernel_rfl) (by kernel_rfl) (by kernel_rfl) (fun _ _ _ _ h => h) ?_
      refine xpval 7 rfl (pv_indexAddrRbM rfl h67a h67b UndC.h ShpC.h rfl rfl) rfl rfl (by kernel_rfl) (by kernel_rfl) (by kernel_rfl) (fun _ _ _ _ h => h) ?_
      refine xpval 8 rfl (qv_fieldAddrB FldC.h rfl) rfl rfl (by kernel_rfl) (by kernel_rfl) (by kernel_rfl) (fun _ _ _ _ h => h) ?_
      exact xpuse key70 ⟨i65, rfl⟩ ⟨(.cons rfl (.refl _) (.cons rfl (.refl _) (.nil _))), by exact (SubM.of (.keep rfl rfl (.refl _) (.keep rfl rfl (.refl _) (.keep rfl rfl (.cons (.eq (by first | rfl | simp)) .nil) (.nil _)))) (.keep rfl (.nil _)))⟩ rfl (by kernel_rfl)
/-- palinodelaw03.great -/
def palinodelaw03_great_j3 (x1 : List (ByteArray × (List UInt8))) (x2 : List (Int × Int × ByteArray × (List (List UInt8)))) (r : Bool) : Prop :=
  ((20 < (x1.length : Int) → r = true) ∧ (¬ (20 < (x1.length : Int)) → r = (decide (40 < (x2.length : Int)))))
def palinodelaw03_great_l5 (x1336 : Int) (x2 : List (Int × Int × ByteArray × (List (List UInt8)))) (ag4 : (Int) → Prop) (ag5 : (Int) → Prop) (x1779 : Int) (r : Bool) : Prop :=
  0 ≤ (x1336 : Int) ∧ ∃ y1810 : Int × Int × ByteArray × (List (List UInt8)), x2[(x1336 : Int).toNat]? = some y1810 ∧ ((x1779 < (y1810.2.2.2.length : Int) → 0 ≤ (x1336 : Int) ∧ ∃ y1822 : Int × Int × ByteArray × (List (List UInt8)), x2[(x1336 : Int).toNat]? = some y1822 ∧ 0 ≤ (x1779 : Int) ∧ ∃ y1824 : List UInt8, y1822.2.2.2[(x1779 : Int).toNat]? = some y1824 ∧ ((100 < (y1824.length : Int) → r = true) ∧ (¬ (100 < (y1824.length : Int)) → InR (x1779 + 1) ∧ ag5 (x1779 + 1)))) ∧ (¬ (x1779 < (y1810.2.2.2.length : Int)) → InR (x1336 + 1) ∧ ag4 (x1336 + 1)))
def palinodelaw03_great_l4 (x2 : List (Int × Int × ByteArray × (List (List UInt8)))) (x1 : List (ByteArray × (List UInt8))) (ag4 : (Int) → Prop) (x1336 : Int) (r : Bool) : Prop :=
  ((x1336 < (x2.length : Int) → ((x1336 < 40 → 0 ≤ (x1336 : Int) ∧ ∃ y1744 : Int × Int × ByteArray × (List (List UInt8)), x2[(x1336 : Int).toNat]? = some y1744 ∧ ((5 < (y1744.2.2.2.length : Int) → r = true) ∧ (¬ (5 < (y1744.2.2.2.length : Int)) → 0 ≤ (x1336 : Int) ∧ ∃ y1749 : Int × Int × ByteArray × (List (List UInt8)), x2[(x1336 : Int).toNat]? = some y1749 ∧ ((70 < (y1749.2.2.1.size : Int) → r = true) ∧ (¬ (70 < (y1749.2.2.1.size : Int)) → LoopR (fun ag5 s => palinodelaw03_great_l5 x1336 x2 ag4 ag5 s r) 0))))) ∧ (¬ (x1336 < 40) → palinodelaw03_great_j3 x1 x2 r))) ∧ (¬ (x1336 < (x2.length : Int)) → palinodelaw03_great_j3 x1 x2 r))
def palinodelaw03_great_j1 (x2 : List (Int × Int × ByteArray × (List (List UInt8)))) (x1 : List (ByteArray × (List UInt8))) (r : Bool) : Prop :=
  LoopR (fun ag4 s => palinodelaw03_great_l4 x2 x1 ag4 s r) 0
def palinodelaw03_great_l2 (x1 : List (ByteArray × (List UInt8))) (x2 : List (Int × Int × ByteArray × (List (List UInt8)))) (ag2 : (Int) → Prop) (x232 : Int) (r : Bool) : Prop :=
  ((x232 < (x1.length : Int) → ((x232 < 20 → 0 ≤ (x232 : Int) ∧ ∃ y336 : ByteArray × (List UInt8), x1[(x232 : Int).toNat]? = some y336 ∧ ((100 < (y336.2.length : Int) → r = true) ∧ (¬ (100 < (y336.2.length : Int)) → 0 ≤ (x232 : Int) ∧ ∃ y341 : ByteArray × (List UInt8), x1[(x232 : Int).toNat]? = some y341 ∧ ((70 < (y341.1.size : Int) → r = true) ∧ (¬ (70 < (y341.1.size : Int)) → InR (x232 + 1) ∧ ag2 (x232 + 1)))))) ∧ (¬ (x232 < 20) → palinodelaw03_great_j1 x2 x1 r))) ∧ (¬ (x232 < (x1.length : Int)) → palinodelaw03_great_j1 x2 x1 r))
def palinodelaw03_great_R (x1 : List (ByteArray × (List UInt8))) (x2 : List (Int × Int × ByteArray × (List (List UInt8)))) (r : Bool) : Prop :=
  LoopR (fun ag2 s => palinodelaw03_great_l2 x1 x2 ag2 s r) 0
def palinodelaw03_great_j3_ev (fuel : Nat) (x1 : List (ByteArray × (List UInt8))) (x2 : List (Int × Int × ByteArray × (List (List UInt8)))) : Option (Bool) :=
  (if 20 < (x1.length : Int) then some true else some (decide (40 < (x2.length : Int))))
theorem palinodelaw03_great_j3_ok {fuel : Nat} {x1 : List (ByteArray × (List UInt8))} {x2 : List (Int × Int × ByteArray × (List (List UInt8)))} {r : Bool} (h : palinodelaw03_great_j3_ev fuel x1 x2 = some r) : palinodelaw03_great_j3 x1 x2 r := by
  unfold palinodelaw03_great_j3_ev at h
  unfold palinodelaw03_great_j3
  refine ⟨fun g173 => ?_, fun g173 => ?_⟩
  · rw [if_pos g173] at h
    exact (Option.some.inj h).symm
  · rw [if_neg g173] at h
    exact (Option.some.inj h).symm
def palinodelaw03_great_l5_ev (fuel : Nat) (x1336 : Int) (x2 : List (Int × Int × ByteArray × (List (List UInt8)))) (ag4e : (Int) → Option (Bool)) (ag5e : (Int) → Option (Bool)) (x1779 : Int) : Option (Bool) :=
  (if 0 ≤ (x1336 : Int) then ((x2[(x1336 : Int).toNat]?).bind fun y1810 => (if x1779 < (y1810.2.2.2.length : Int) then (if 0 ≤ (x1336 : Int) then ((x2[(x1336 : Int).toNat]?).bind fun y1822 => (if 0 ≤ (x1779 : Int) then ((y1822.2.2.2[(x1779 : Int).toNat]?).bind fun y1824 => (if 100 < (y1824.length : Int) then some true else (if InR (x1779 + 1) then ag5e (x1779 + 1) else none))) else none)) else none) else (if InR (x1336 + 1) then ag4e (x1336 + 1) else none))) else none)
theorem palinodelaw03_great_l5_ok {fuel : Nat} {x1336 : Int} {x2 : List (Int × Int × ByteArray × (List (List UInt8)))} {ag4 : (Int) → Prop} {ag4e : (Int) → Option (Bool)} {ag5e : (Int) → Option (Bool)} {ag5 : (Int) → Prop} {x1779 : Int} {r : Bool} (hagag4 : ∀ s, ag4e s = some r → ag4 s) (hagag5 : ∀ s, ag5e s = some r → ag5 s) (h : palinodelaw03_great_l5_ev fuel x1336 x2 ag4e ag5e x1779 = some r) : palinodelaw03_great_l5 x1336 x2 ag4 ag5 x1779 r := by
  unfold palinodelaw03_great_l5_ev at h
  unfold palinodelaw03_great_l5
  obtain ⟨g174, h⟩ := if_ok h
  refine ⟨g174, ?_⟩
  obtain ⟨q175, g175, h⟩ := bind_ok h
  refine ⟨q175, g175, ?_⟩
  refine ⟨fun g176 => ?_, fun g176 => ?_⟩
  · rw [if_pos g176] at h
    obtain ⟨g177, h⟩ := if_ok h
    refine ⟨g177, ?_⟩
    obtain ⟨q178, g178, h⟩ := bind_ok h
    refine ⟨q178, g178, ?_⟩
    obtain ⟨g179, h⟩ := if_ok h
    refine ⟨g179, ?_⟩
    obtain ⟨q180, g180, h⟩ := bind_ok h
    refine ⟨q180, g180, ?_⟩
    refine ⟨fun g181 => ?_, fun g181 => ?_⟩
    · rw [if_pos g181] at h
      exact (Option.some.inj h).symm
    · rw [if_neg g181] at h
      obtain ⟨g182, h⟩ := if_ok h
      refine ⟨g182, ?_⟩
      exact hagag5 _ h
  · rw [if_neg g176] at h
    obtain ⟨g183, h⟩ := if_ok h
    refine ⟨g183, ?_⟩
    exact hagag4 _ h
def palinodelaw03_great_l4_ev (fuel : Nat) (x2 : List (Int × Int × ByteArray × (List (List UInt8)))) (x1 : List (ByteArray × (List UInt8))) (ag4e : (Int) → Option (Bool)) (x1336 : Int) : Option (Bool) :=
  (if x1336 < (x2.length : Int) then (if x1336 < 40 then (if 0 ≤ (x1336 : Int) then ((x2[(x1336 : Int).toNat]?).bind fun y1744 => (if 5 < (y1744.2.2.2.length : Int) then some true else (if 0 ≤ (x1336 : Int) then ((x2[(x1336 : Int).toNat]?).bind fun y1749 => (if 70 < (y1749.2.2.1.size : Int) then some true else (loopE (fun ag5e s => palinodelaw03_great_l5_ev fuel x1336 x2 ag4e ag5e s) fuel 0))) else none))) else none) else palinodelaw03_great_j3_ev fuel x1 x2) else palinodelaw03_great_j3_ev fuel x1 x2)
theorem palinodelaw03_great_l4_ok {fuel : Nat} {x2 : List (Int × Int × ByteArray × (List (List UInt8)))} {x1 : List (ByteArray × (List UInt8))} {ag4e : (Int) → Option (Bool)} {ag4 : (Int) → Prop} {x1336 : Int} {r : Bool} (hagag4 : ∀ s, ag4e s = some r → ag4 s) (h : palinodelaw03_great_l4_ev fuel x2 x1 ag4e x1336 = some r) : palinodelaw03_great_l4 x2 x1 ag4 x1336 r := by
  unfold palinodelaw03_great_l4_ev at h
  unfold palinodelaw03_great_l4
  refine ⟨fun g184 => ?_, fun g184 => ?_⟩
  · rw [if_pos g184] at h
    refine ⟨fun g185 => ?_, fun g185 => ?_⟩
    · rw [if_pos g185] at h
      obtain ⟨g186, h⟩ := if_ok h
      refine ⟨g186, ?_⟩
      obtain ⟨q187, g187, h⟩ := bind_ok h
      refine ⟨q187, g187, ?_⟩
      refine ⟨fun g188 => ?_, fun g188 => ?_⟩
      · rw [if_pos g188] at h
        exact (Option.some.inj h).symm
      · rw [if_neg g188] at h
        obtain ⟨g189, h⟩ := if_ok h
        refine ⟨g189, ?_⟩
        obtain ⟨q190, g190, h⟩ := bind_ok h
        refine ⟨q190, g190, ?_⟩
        refine ⟨fun g191 => ?_, fun g191 => ?_⟩
        · rw [if_pos g191] at h
          exact (Option.some.inj h).symm
        · rw [if_neg g191] at h
          refine loopE_ok ?_ h
          intro ae ag s hag h
          exact palinodelaw03_great_l5_ok hagag4 hag h
    · rw [if_neg g185] at h
      exact palinodelaw03_great_j3_ok h
  · rw [if_neg g184] at h
    exact palinodelaw03_great_j3_ok h
def palinodelaw03_great_j1_ev (fuel : Nat) (x2 : List (Int × Int × ByteArray × (List (List UInt8)))) (x1 : List (ByteArray × (List UInt8))) : Option (Bool) :=
  (loopE (fun ag4e s => palinodelaw03_great_l4_ev fuel x2 x1 ag4e s) fuel 0)
theorem palinodelaw03_great_j1_ok {fuel : Nat} {x2 : List (Int × Int × ByteArray × (List (List UInt8)))} {x1 : List (ByteArray × (List UInt8))} {r : Bool} (h : palinodelaw03_great_j1_ev fuel x2 x1 = some r) : palinodelaw03_great_j1 x2 x1 r := by
  unfold palinodelaw03_great_j1_ev at h
  unfold palinodelaw03_great_j1
  refine loopE_ok ?_ h
  intro ae ag s hag h
  exact palinodelaw03_great_l4_ok hag h
def palinodelaw03_great_l2_ev (fuel : Nat) (x1 : List (ByteArray × (List UInt8))) (x2 : List (Int × Int × ByteArray × (List (List UInt8)))) (ag2e : (Int) → Option (Bool)) (x232 : Int) : Option (Bool) :=
  (if x232 < (x1.length : Int) then (if x232 < 20 then (if 0 ≤ (x232 : Int) then ((x1[(x232 : Int).toNat]?).bind fun y336 => (if 100 < (y336.2.length : Int) then some true else (if 0 ≤ (x232 : Int) then ((x1[(x232 : Int).toNat]?).bind fun y341 => (if 70 < (y341.1.size : Int) then some true else (if InR (x232 + 1) then ag2e (x232 + 1) else none))) else none))) else none) else palinodelaw03_great_j1_ev fuel x2 x1) else palinodelaw03_great_j1_ev fuel x2 x1)
theorem palinodelaw03_great_l2_ok {fuel : Nat} {x1 : List (ByteArray × (List UInt8))} {x2 : List (Int × Int × ByteArray × (List (List UInt8)))} {ag2e : (Int) → Option (Bool)} {ag2 : (Int) → Prop} {x232 : Int} {r : Bool} (hagag2 : ∀ s, ag2e s = some r → ag2 s) (h : palinodelaw03_great_l2_ev fuel x1 x2 ag2e x232 = some r) : palinodelaw03_great_l2 x1 x2 ag2 x232 r := by
  unfold palinodelaw03_great_l2_ev at h
  unfold palinodelaw03_great_l2
  refine ⟨fun g192 => ?_, fun g192 => ?_⟩
  · rw [if_pos g192] at h
    refine ⟨fun g193 => ?_, fun g193 => ?_⟩
    · rw [if_pos g193] at h
      obtain ⟨g194, h⟩ := if_ok h
      refine ⟨g194, ?_⟩
      obtain ⟨q195, g195, h⟩ := bind_ok h
      refine ⟨q195, g195, ?_⟩
      refine ⟨fun g196 => ?_, fun g196 => ?_⟩
      · rw [if_pos g196] at h
        exact (Option.some.inj h).symm
      · rw [if_neg g196] at h
        obtain ⟨g197, h⟩ := if_ok h
        refine ⟨g197, ?_⟩
        obtain ⟨q198, g198, h⟩ := bind_ok h
        refine ⟨q198, g198, ?_⟩
        refine ⟨fun g199 => ?_, fun g199 => ?_⟩
        · rw [if_pos g199] at h
          exact (Option.some.inj h).symm
        · rw [if_neg g199] at h
          obtain ⟨g200, h⟩ := if_ok h
          refine ⟨g200, ?_⟩
          exact hagag2 _ h
    · rw [if_neg g193] at h
      exact palinodelaw03_great_j1_ok h
  · rw [if_neg g192] at h
    exact palinodelaw03_great_j1_ok h
def palinodelaw03_great_ev (fuel : Nat) (x1 : List (ByteArray × (List UInt8))) (x2 : List (Int × Int × ByteArray × (List (List UInt8)))) : Option (Bool) :=
  (loopE (fun ag2e s => palinodelaw03_great_l2_ev fuel x1 x2 ag2e s) fuel 0)
theorem palinodelaw03_great_ok {fuel : Nat} {x1 : List (ByteArray × (List UInt8))} {x2 : List (Int × Int × ByteArray × (List (List UInt8)))} {r : Bool} (h : palinodelaw03_great_ev fuel x1 x2 = some r) : palinodelaw03_great_R x1 x2 r := by
  unfold palinodelaw03_great_ev at h
  unfold palinodelaw03_great_R
  refine loopE_ok ?_ h
  intro ae ag s hag h
  exact palinodelaw03_great_l2_ok hag h
set_option maxHeartbeats 4000000 in
theorem palinodelaw03_great_con (x1 : List (ByteArray × (List UInt8))) (x2 : List (Int × Int × ByteArray × (List (List UInt8)))) (r : Bool) (h : palinodelaw03_great_R x1 x2 r) : Con Try.prog 15 [.sl 2 none (List.map E_palinode_api_File x1), .sl 4 none (List.map E_palinode_palinodelaw03_Act x2)] [] [] (Ret (.v (.bool r))) := by
  refine xenter Try.func15 rfl rfl fun g hg => ?_
  simp only [Try.ntmps15, slots]
  refine xseq ?_
  refine xregion ?_
  refine xvalP (pv_assign rfl) rfl rfl ?_
  refine xnil ?_
  refine xthen ?_
  refine xseqM (fun σ => palinodelaw03_great_j1 x2 x1 r ∧ σ = ⟨[(0, .sl 2 none (List.map E_palinode_api_File x1)), (1, .sl 4 none (List.map E_palinode_palinodelaw03_Act x2))], [], []⟩) ?_ ?_
  · refine xseq ?_
    refine xregion ?_
    refine xvalP (pv_assign rfl) rfl rfl ?_
    refine xnil ?_
    refine xthen ?_
    refine xblock ?_
    obtain ⟨Inv, ⟨m0, hI⟩, hS⟩ := h
    refine xloop (fun σ m => ∃ (x232 : Int), Inv x232 m ∧ σ = ⟨[(0, .sl 2 none (List.map E_palinode_api_File x1)), (1, .sl 4 none (List.map E_palinode_palinodelaw03_Act x2)), (5, .v (.int .i64 x232))], [], []⟩) ⟨0, hI, rfl⟩ ⟨(.cons rfl (.refl _) (.cons rfl (.refl _) (.cons rfl (.refl _) (.nil _)))), (SubM.of (.nil _) (.nil _))⟩ ?_
    rintro _ m ⟨x232, hI, rfl⟩
    obtain ⟨ag2, hag2, h⟩ : ∃ ag, (∀ s', ag s' → ∃ m', m' < m ∧ Inv s' m') ∧ palinodelaw03_great_l2 x1 x2 ag x232 r := ⟨_, fun _ h => h, hS x232 _ hI⟩
    clear hS hI
    refine xseq ?_
    refine xseq ?_
    refine xregion ?_
    refine xvalP (pv_move rfl) rfl rfl ?_
    refine xvalP (pv_move rfl) rfl rfl ?_
    refine xvalP (pv_lenM UndC.h rfl) rfl rfl ?_
    refine xvalP (pv_bin2 rfl rfl rfl) rfl rfl ?_
    refine xvalP (pv_move rfl) rfl rfl ?_
    by_cases hp305 : x232 < (x1.length : Int)
    · replace h := h.1 hp305
      refine xsetB 12 (decide_eq_true hp305) rfl ?_
      refine xvalP (pv_move rfl) rfl rfl ?_
      refine xvalP (pv_bin2 rfl rfl rfl) rfl rfl ?_
      refine xvalP (pv_pick rfl rfl) rfl rfl ?_
      refine xnil ?_
      refine xthen ?_
      by_cases hp307 : x232 < 20
      · replace h := h.1 hp307
        refine xcondT' (decide_eq_true hp307) rfl ?_
        refine xskipc ?_
        refine xthen ?_
        refine xseq ?_
        refine xblock ?_
        refine xseq ?_
        refine xregion ?_
        refine xvalP (pv_move rfl) rfl rfl ?_
        refine xvalP (pv_move rfl) rfl rfl ?_
        obtain ⟨h337a, h⟩ := h
        obtain ⟨y336, h337b, h⟩ := h
        refine xvalP (pv_indexAddrM h337a h337b UndC.h ShpC.h rfl rfl) rfl rfl ?_
        refine xvalP (qv_fieldAddrE FldC.h rfl) rfl rfl ?_
        refine xval (qv_load ShpC.h rfl rfl rfl) rfl rfl ?_
        refine xvalP (pv_lenM UndC.h rfl) rfl rfl ?_
        refine xvalP (pv_bin2 rfl rfl rfl) rfl rfl ?_
        refine xvalP (pv_move rfl) rfl rfl ?_
        by_cases hp340 : 100 < (y336.2.length : Int)
        · replace h := h.1 hp340
          refine xsetB 25 (decide_eq_true hp340) rfl ?_
          refine xskip rfl rfl ?_
          refine xskip rfl rfl ?_
          refine xskip rfl rfl ?_
          refine xskip rfl rfl ?_
          refine xskip rfl rfl ?_
          refine xskip rfl rfl ?_
          refine xskip rfl rfl ?_
          refine xvalP (pv_pick rfl rfl) rfl rfl ?_
          refine xnil ?_
          refine xthen ?_
          refine xcondT rfl ?_
          refine xseq ?_
          refine xregion ?_
          refine xvalP (pv_assign rfl) rfl rfl ?_
          refine xnil ?_
          refine xthen ?_
          refine xretc ?_
          refine xin_ret ?_
          refine xthen_ret ?_
          refine xthen_ret ?_
          refine xin_ret ?_
          refine xthen_ret ?_
          replace h := h.symm
          subst h
          exact xret1 hg rfl rfl (.refl _) (SubM.of (.nil _) (.nil _)) ⟨rfl, rfl, rfl⟩
        · replace h := h.2 hp340
          refine xsetB 25 (decide_eq_false hp340) rfl ?_
          refine xvalP (pv_move rfl) rfl rfl ?_
          refine xvalP (pv_move rfl) rfl rfl ?_
          obtain ⟨h342a, h⟩ := h
          obtain ⟨y341, h342b, h⟩ := h
          refine xvalP (pv_indexAddrM h342a h342b UndC.h ShpC.h rfl rfl) rfl rfl ?_
          refine xvalP (qv_fieldAddrE FldC.h rfl) rfl rfl ?_
          refine xval (qv_load ShpC.h rfl rfl rfl) rfl rfl ?_
          refine xvalP (pv_lenS UndC.h rfl) rfl rfl ?_
          refine xvalP (pv_bin2 rfl rfl rfl) rfl rfl ?_
          refine xvalP (pv_pick rfl rfl) rfl rfl ?_
          refine xnil ?_
          refine xthen ?_
          by_cases hp345 : 70 < (y341.1.size : Int)
          · replace h := h.1 hp345
            refine xcondT' (decide_eq_true hp345) rfl ?_
            refine xseq ?_
            refine xregion ?_
            refine xvalP (pv_assign rfl) rfl rfl ?_
            refine xnil ?_
            refine xthen ?_
            refine xretc ?_
            refine xin_ret ?_
            refine xthen_ret ?_
            refine xthen_ret ?_
            refine xin_ret ?_
            refine xthen_ret ?_
            replace h := h.symm
            subst h
            exact xret1 hg rfl rfl (.refl _) (SubM.of (.nil _) (.nil _)) ⟨rfl, rfl, rfl⟩
          · replace h := h.2 hp345
            refine xcondF' (decide_eq_false hp345) rfl ?_
            refine xskipc ?_
            refine xin_normal ?_
            refine xthen ?_
            refine xregion ?_
            refine xvalP (pv_move rfl) rfl rfl ?_
            obtain ⟨h346, h⟩ := h
            refine xvalP (pv_addI h346 rfl rfl) rfl rfl ?_
            refine xvalP (pv_assign rfl) rfl rfl ?_
            refine xnil ?_
            obtain ⟨m', hm, hI⟩ := hag2 _ h
            exact xagain ⟨(x232 + 1), hI, rfl⟩ hm ⟨(.cons rfl (.refl _) (.cons rfl (.refl _) (.cons rfl (.refl _) (.nil _)))), (SubM.of (.nil _) (.nil _))⟩
      · replace h := h.2 hp307
        refine xcondF' (decide_eq_false hp307) rfl ?_
        refine xexit ?_
        refine xthen_exit ?_
        refine xthen_exit ?_
        refine xin_same rfl ?_
        exact xmeet ⟨h, rfl⟩ ⟨(.cons rfl (.refl _) (.cons rfl (.refl _) (.nil _))), (SubM.of (.nil _) (.nil _))⟩
    · replace h := h.2 hp305
      refine xsetB 12 (decide_eq_false hp305) rfl ?_
      refine xskip rfl rfl ?_
      refine xskip rfl rfl ?_
      refine xvalP (pv_pick rfl rfl) rfl rfl ?_
      refine xnil ?_
      refine xthen ?_
      refine xcondF rfl ?_
      refine xexit ?_
      refine xthen_exit ?_
      refine xthen_exit ?_
      refine xin_same rfl ?_
      exact xmeet ⟨h, rfl⟩ ⟨(.cons rfl (.refl _) (.cons rfl (.refl _) (.nil _))), (SubM.of (.nil _) (.nil _))⟩
  · clear h
    rintro _ ⟨h, rfl⟩
    refine xseqM (fun σ => palinodelaw03_great_j3 x1 x2 r ∧ σ = ⟨[(0, .sl 2 none (List.map E_palinode_api_File x1)), (1, .sl 4 none (List.map E_palinode_palinodelaw03_Act x2))], [], []⟩) ?_ ?_
    · refine xseq ?_
      refine xregion ?_
      refine xvalP (pv_assign rfl) rfl rfl ?_
      refine xnil ?_
      refine xthen ?_
      refine xblock ?_
      obtain ⟨Inv, ⟨m0, hI⟩, hS⟩ := h
      refine xloop (fun σ m => ∃ (x1336 : Int), Inv x1336 m ∧ σ = ⟨[(0, .sl 2 none (List.map E_palinode_api_File x1)), (1, .sl 4 none (List.map E_palinode_palinodelaw03_Act x2)), (6, .v (.int .i64 x1336))], [], []⟩) ⟨0, hI, rfl⟩ ⟨(.cons rfl (.refl _) (.cons rfl (.refl _) (.cons rfl (.refl _) (.nil _)))), (SubM.of (.nil _) (.nil _))⟩ ?_
      rintro _ m ⟨x1336, hI, rfl⟩
      obtain ⟨ag4, hag4, h⟩ : ∃ ag, (∀ s', ag s' → ∃ m', m' < m ∧ Inv s' m') ∧ palinodelaw03_great_l4 x2 x1 ag x1336 r := ⟨_, fun _ h => h, hS x1336 _ hI⟩
      clear hS hI
      refine xseq ?_
      refine xseq ?_
      refine xregion ?_
      refine xvalP (pv_move rfl) rfl rfl ?_
      refine xvalP (pv_move rfl) rfl rfl ?_
      refine xvalP (pv_lenM UndC.h rfl) rfl rfl ?_
      refine xvalP (pv_bin2 rfl rfl rfl) rfl rfl ?_
      refine xvalP (pv_move rfl) rfl rfl ?_
      by_cases hp1599 : x1336 < (x2.length : Int)
      · replace h := h.1 hp1599
        refine xsetB 38 (decide_eq_true hp1599) rfl ?_
        refine xvalP (pv_move rfl) rfl rfl ?_
        refine xvalP (pv_bin2 rfl rfl rfl) rfl rfl ?_
        refine xvalP (pv_pick rfl rfl) rfl rfl ?_
        refine xnil ?_
        refine xthen ?_
        by_cases hp1601 : x1336 < 40
        · replace h := h.1 hp1601
          refine xcondT' (decide_eq_true hp1601) rfl ?_
          refine xskipc ?_
          refine xthen ?_
          refine xseq ?_
          refine xblock ?_
          refine xseq ?_
          refine xseq ?_
          refine xregion ?_
          refine xvalP (pv_move rfl) rfl rfl ?_
          refine xvalP (pv_move rfl) rfl rfl ?_
          obtain ⟨h1745a, h⟩ := h
          obtain ⟨y1744, h1745b, h⟩ := h
          refine xvalP (pv_indexAddrM h1745a h1745b UndC.h ShpC.h rfl rfl) rfl rfl ?_
          refine xvalP (qv_fieldAddrE FldC.h rfl) rfl rfl ?_
          refine xval (qv_load ShpC.h rfl rfl rfl) rfl rfl ?_
          refine xvalP (pv_lenM UndC.h rfl) rfl rfl ?_
          refine xvalP (pv_bin2 rfl rfl rfl) rfl rfl ?_
          refine xvalP (pv_move rfl) rfl rfl ?_
          by_cases hp1748 : 5 < (y1744.2.2.2.length : Int)
          · replace h := h.1 hp1748
            refine xsetB 51 (decide_eq_true hp1748) rfl ?_
            refine xskip rfl rfl ?_
            refine xskip rfl rfl ?_
            refine xskip rfl rfl ?_
            refine xskip rfl rfl ?_
            refine xskip rfl rfl ?_
            refine xskip rfl rfl ?_
            refine xskip rfl rfl ?_
            refine xvalP (pv_pick rfl rfl) rfl rfl ?_
            refine xnil ?_
            refine xthen ?_
            refine xcondT rfl ?_
            refine xseq ?_
            refine xregion ?_
            refine xvalP (pv_assign rfl) rfl rfl ?_
            refine xnil ?_
            refine xthen ?_
            refine xretc ?_
            refine xthen_ret ?_
            refine xin_ret ?_
            refine xthen_ret ?_
            refine xthen_ret ?_
            refine xin_ret ?_
            refine xthen_ret ?_
            replace h := h.symm
            subst h
            exact xret1 hg rfl rfl (.refl _) (SubM.of (.nil _) (.nil _)) ⟨rfl, rfl, rfl⟩
          · replace h := h.2 hp1748
            refine xsetB 51 (decide_eq_false hp1748) rfl ?_
            refine xvalP (pv_move rfl) rfl rfl ?_
            refine xvalP (pv_move rfl) rfl rfl ?_
            obtain ⟨h1750a, h⟩ := h
            obtain ⟨y1749, h1750b, h⟩ := h
            refine xvalP (pv_indexAddrM h1750a h1750b UndC.h ShpC.h rfl rfl) rfl rfl ?_
            refine xvalP (qv_fieldAddrE FldC.h rfl) rfl rfl ?_
            refine xval (qv_load ShpC.h rfl rfl rfl) rfl rfl ?_
            refine xvalP (pv_lenS UndC.h rfl) rfl rfl ?_
            refine xvalP (pv_bin2 rfl rfl rfl) rfl rfl ?_
            refine xvalP (pv_pick rfl rfl) rfl rfl ?_
            refine xnil ?_
            refine xthen ?_
            by_cases hp1753 : 70 < (y1749.2.2.1.size : Int)
            · replace h := h.1 hp1753
              refine xcondT' (decide_eq_true hp1753) rfl ?_
              refine xseq ?_
              refine xregion ?_
              refine xvalP (pv_assign rfl) rfl rfl ?_
              refine xnil ?_
              refine xthen ?_
              refine xretc ?_
              refine xthen_ret ?_
              refine xin_ret ?_
              refine xthen_ret ?_
              refine xthen_ret ?_
              refine xin_ret ?_
              refine xthen_ret ?_
              replace h := h.symm
              subst h
              exact xret1 hg rfl rfl (.refl _) (SubM.of (.nil _) (.nil _)) ⟨rfl, rfl, rfl⟩
            · replace h := h.2 hp1753
              refine xcondF' (decide_eq_false hp1753) rfl ?_
              refine xskipc ?_
              refine xthen ?_
              refine xseq ?_
              refine xregion ?_
              refine xvalP (pv_assign rfl) rfl rfl ?_
              refine xnil ?_
              refine xthen ?_
              refine xblock ?_
              obtain ⟨Inv, ⟨m0, hI⟩, hS⟩ := h
              refine xloop (fun σ m => ∃ (x1779 : Int), Inv x1779 m ∧ σ = ⟨[(0, .sl 2 none (List.map E_palinode_api_File x1)), (1, .sl 4 none (List.map E_palinode_palinodelaw03_Act x2)), (6, .v (.int .i64 x1336)), (7, .v (.int .i64 x1779)), (39, .v (.int .i64 x1336)), (40, .v (.bool (decide (x1336 < 40)))), (52, .sl 4 none (List.map E_palinode_palinodelaw03_Act x2)), (53, .v (.int .i64 x1336)), (54, .el [.v (.int .i64 y1749.1), .v (.int .i64 y1749.2.1), .v (.string y1749.2.2.1), .sl 1 none (List.map E_uint8 y1749.2.2.2)]), (55, .el [.v (.string y1749.2.2.1), .sl 1 none (List.map E_uint8 y1749.2.2.2)]), (56, .v (.string y1749.2.2.1)), (57, .v (.int .i64 ((y1749.2.2.1.size : Int)))), (58, .v (.bool (decide (70 < (y1749.2.2.1.size : Int)))))], [], []⟩) ⟨0, hI, rfl⟩ ⟨(.cons rfl (.refl _) (.cons rfl (.refl _) (.cons rfl (.refl _) (.cons rfl (.refl _) (.cons rfl (.refl _) (.cons rfl (.refl _) (.cons rfl (.refl _) (.cons rfl (.refl _) (.cons rfl (.refl _) (.cons rfl (.refl _) (.cons rfl (.refl _) (.cons rfl (.refl _) (.cons rfl (.refl _) (.nil _)))))))))))))), (SubM.of (.nil _) (.nil _))⟩ ?_
              rintro _ m ⟨x1779, hI, rfl⟩
              obtain ⟨ag5, hag5, h⟩ : ∃ ag, (∀ s', ag s' → ∃ m', m' < m ∧ Inv s' m') ∧ palinodelaw03_great_l5 x1336 x2 ag4 ag x1779 r := ⟨_, fun _ h => h, hS x1779 _ hI⟩
              clear hS hI
              refine xseq ?_
              refine xseq ?_
              refine xregion ?_
              refine xvalP (pv_move rfl) rfl rfl ?_
              refine xvalP (pv_move rfl) rfl rfl ?_
              refine xvalP (pv_move rfl) rfl rfl ?_
              obtain ⟨h1811a, h⟩ := h
              obtain ⟨y1810, h1811b, h⟩ := h
              refine xvalP (pv_indexAddrM h1811a h1811b UndC.h ShpC.h rfl rfl) rfl rfl ?_
              refine xvalP (qv_fieldAddrE FldC.h rfl) rfl rfl ?_
              refine xval (qv_load ShpC.h rfl rfl rfl) rfl rfl ?_
              refine xvalP (pv_lenM UndC.h rfl) rfl rfl ?_
              refine xvalP (pv_bin2 rfl rfl rfl) rfl rfl ?_
              refine xnil ?_
              refine xthen ?_
              by_cases hp1814 : x1779 < (y1810.2.2.2.length : Int)
              · replace h := h.1 hp1814
                refine xcondT' (decide_eq_true hp1814) rfl ?_
                refine xskipc ?_
                refine xthen ?_
                refine xseq ?_
                refine xblock ?_
                refine xseq ?_
                refine xregion ?_
                refine xvalP (pv_move rfl) rfl rfl ?_
                refine xvalP (pv_move rfl) rfl rfl ?_
                obtain ⟨h1823a, h⟩ := h
                obtain ⟨y1822, h1823b, h⟩ := h
                refine xvalP (pv_indexAddrM h1823a h1823b UndC.h ShpC.h rfl rfl) rfl rfl ?_
                refine xvalP (qv_fieldAddrE FldC.h rfl) rfl rfl ?_
                refine xval (qv_load ShpC.h rfl rfl rfl) rfl rfl ?_
                refine xvalP (pv_move rfl) rfl rfl ?_
                obtain ⟨h1825a, h⟩ := h
                obtain ⟨y1824, h1825b, h⟩ := h
                refine xvalP (pv_indexAddrM h1825a h1825b UndC.h ShpC.h rfl rfl) rfl rfl ?_
                refine xval (qv_load ShpC.h rfl rfl rfl) rfl rfl ?_
                refine xvalP (pv_lenM UndC.h rfl) rfl rfl ?_
                refine xvalP (pv_bin2 rfl rfl rfl) rfl rfl ?_
                refine xnil ?_
                refine xthen ?_
                by_cases hp1828 : 100 < (y1824.length : Int)
                · replace h := h.1 hp1828
                  refine xcondT' (decide_eq_true hp1828) rfl ?_
                  refine xseq ?_
                  refine xregion ?_
                  refine xvalP (pv_assign rfl) rfl rfl ?_
                  refine xnil ?_
                  refine xthen ?_
                  refine xretc ?_
                  refine xin_ret ?_
                  refine xthen_ret ?_
                  refine xthen_ret ?_
                  refine xin_ret ?_
                  refine xin_ret ?_
                  refine xthen_ret ?_
                  refine xthen_ret ?_
                  refine xin_ret ?_
                  refine xthen_ret ?_
                  replace h := h.symm
                  subst h
                  exact xret1 hg rfl rfl (.refl _) (SubM.of (.nil _) (.nil _)) ⟨rfl, rfl, rfl⟩
                · replace h := h.2 hp1828
                  refine xcondF' (decide_eq_false hp1828) rfl ?_
                  refine xskipc ?_
                  refine xin_normal ?_
                  refine xthen ?_
                  refine xregion ?_
                  refine xvalP (pv_move rfl) rfl rfl ?_
                  obtain ⟨h1829, h⟩ := h
                  refine xvalP (pv_addI h1829 rfl rfl) rfl rfl ?_
                  refine xvalP (pv_assign rfl) rfl rfl ?_
                  refine xnil ?_
                  obtain ⟨m', hm, hI⟩ := hag5 _ h
                  exact xagain ⟨(x1779 + 1), hI, rfl⟩ hm ⟨(.cons rfl (.refl _) (.cons rfl (.refl _) (.cons rfl (.refl _) (.cons rfl (.refl _) (.cons rfl (.refl _) (.cons rfl (.refl _) (.cons rfl (.refl _) (.cons rfl (.refl _) (.cons rfl (.refl _) (.cons rfl (.refl _) (.cons rfl (.refl _) (.cons rfl (.refl _) (.cons rfl (.refl _) (.nil _)))))))))))))), (SubM.of (.nil _) (.nil _))⟩
              · replace h := h.2 hp1814
                refine xcondF' (decide_eq_false hp1814) rfl ?_
                refine xexit ?_
                refine xthen_exit ?_
                refine xthen_exit ?_
                refine xin_same rfl ?_
                refine xin_normal ?_
                refine xthen ?_
                refine xregion ?_
                refine xvalP (pv_move rfl) rfl rfl ?_
                obtain ⟨h1830, h⟩ := h
                refine xvalP (pv_addI h1830 rfl rfl) rfl rfl ?_
                refine xvalP (pv_assign rfl) rfl rfl ?_
                refine xnil ?_
                obtain ⟨m', hm, hI⟩ := hag4 _ h
                exact xagain ⟨(x1336 + 1), hI, rfl⟩ hm ⟨(.cons rfl (.refl _) (.cons rfl (.refl _) (.cons rfl (.refl _) (.nil _)))), (SubM.of (.nil _) (.nil _))⟩
        · replace h := h.2 hp1601
          refine xcondF' (decide_eq_false hp1601) rfl ?_
          refine xexit ?_
          refine xthen_exit ?_
          refine xthen_exit ?_
          refine xin_same rfl ?_
          exact xmeet ⟨h, rfl⟩ ⟨(.cons rfl (.refl _) (.cons rfl (.refl _) (.nil _))), (SubM.of (.nil _) (.nil _))⟩
      · replace h := h.2 hp1599
        refine xsetB 38 (decide_eq_false hp1599) rfl ?_
        refine xskip rfl rfl ?_
        refine xskip rfl rfl ?_
        refine xvalP (pv_pick rfl rfl) rfl rfl ?_
        refine xnil ?_
        refine xthen ?_
        refine xcondF rfl ?_
        refine xexit ?_
        refine xthen_exit ?_
        refine xthen_exit ?_
        refine xin_same rfl ?_
        exact xmeet ⟨h, rfl⟩ ⟨(.cons rfl (.refl _) (.cons rfl (.refl _) (.nil _))), (SubM.of (.nil _) (.nil _))⟩
    · clear h
      rintro _ ⟨h, rfl⟩
      refine xseq ?_
      refine xregion ?_
      refine xvalP (pv_move rfl) rfl rfl ?_
      refine xvalP (pv_lenM UndC.h rfl) rfl rfl ?_
      refine xvalP (pv_bin2 rfl rfl rfl) rfl rfl ?_
      refine xvalP (pv_move rfl) rfl rfl ?_
      by_cases hp1838 : 20 < (x1.length : Int)
      · replace h := h.1 hp1838
        refine xsetB 83 (decide_eq_true hp1838) rfl ?_
        refine xskip rfl rfl ?_
        refine xskip rfl rfl ?_
        refine xskip rfl rfl ?_
        refine xvalP (pv_pick rfl rfl) rfl rfl ?_
        refine xvalP (pv_assign rfl) rfl rfl ?_
        refine xnil ?_
        refine xthen ?_
        refine xretc ?_
        replace h := h.symm
        subst h
        exact xret1 hg rfl rfl (.refl _) (SubM.of (.nil _) (.nil _)) ⟨rfl, rfl, rfl⟩
      · replace h := h.2 hp1838
        refine xsetB 83 (decide_eq_false hp1838) rfl ?_
        refine xvalP (pv_move rfl) rfl rfl ?_
        refine xvalP (pv_lenM UndC.h rfl) rfl rfl ?_
        refine xvalP (pv_bin2 rfl rfl rfl) rfl rfl ?_
        refine xvalP (pv_pick rfl rfl) rfl rfl ?_
        refine xvalP (pv_assign rfl) rfl rfl ?_
        refine xnil ?_
        refine xthen ?_
        refine xretc ?_
        replace h := h.symm
        subst h
        exact xret1 hg rfl rfl (.refl _) (SubM.of (.nil _) (.nil _)) ⟨rfl, rfl, rfl⟩
/-- palinoderef01.Pick -/
def palinoderef01_Pick_R (nv1 : Int) (many2 : Int) (r : Int) : Prop :=
  ((many2 < 1 → r = 0) ∧ (¬ (many2 < 1) → (many2 : Int) ≠ 0 ∧ ((((nv1 : Int).tmod (many2)) < 0 → InR (((nv1 : Int).tmod (many2)) + many2) ∧ r = (((nv1 : Int).tmod (many2)) + many2)) ∧ (¬ (((nv1 : Int).tmod (many2)) < 0) → r = ((nv1 : Int).tmod (many2))))))
def palinoderef01_Pick_ev (fuel : Nat) (nv1 : Int) (many2 : Int) : Option (Int) :=
  (if many2 < 1 then some 0 else (if (many2 : Int) ≠ 0 then (if ((nv1 : Int).tmod (many2)) < 0 then (if InR (((nv1 : Int).tmod (many2)) + many2) then some (((nv1 : Int).tmod (many2)) + many2) else none) else some ((nv1 : Int).tmod (many2))) else none))
theorem palinoderef01_Pick_ok {fuel : Nat} {nv1 : Int} {many2 : Int} {r : Int} (h : palinoderef01_Pick_ev fuel nv1 many2 = some r) : palinoderef01_Pick_R nv1 many2 r := by
  unfold palinoderef01_Pick_ev at h
  unfold palinoderef01_Pick_R
  refine ⟨fun g201 => ?_, fun g201 => ?_⟩
  · rw [if_pos g201] at h
    exact (Option.some.inj h).symm
  · rw [if_neg g201] at h
    obtain ⟨g202, h⟩ := if_ok h
    refine ⟨g202, ?_⟩
    refine ⟨fun g203 => ?_, fun g203 => ?_⟩
    · rw [if_pos g203] at h
      obtain ⟨g204, h⟩ := if_ok h
      refine ⟨g204, ?_⟩
      exact (Option.some.inj h).symm
    · rw [if_neg g203] at h
      exact (Option.some.inj h).symm
set_option maxHeartbeats 4000000 in
theorem palinoderef01_Pick_con (nv1 : Int) (many2 : Int) (r : Int) (h : palinoderef01_Pick_R nv1 many2 r) : Con Try.prog 16 [.v (.int .i64 nv1), .v (.int .i64 many2)] [] [] (Ret (.v (.int .i64 r))) := by
  refine xenter Try.func16 rfl rfl fun g hg => ?_
  simp only [Try.ntmps16, slots]
  refine xseq ?_
  refine xregion ?_
  refine xvalP (pv_assign rfl) rfl rfl ?_
  refine xnil ?_
  refine xthen ?_
  refine xseq ?_
  refine xseq ?_
  refine xregion ?_
  refine xvalP (pv_move rfl) rfl rfl ?_
  refine xvalP (pv_bin2 rfl rfl rfl) rfl rfl ?_
  refine xnil ?_
  refine xthen ?_
  by_cases hp6 : many2 < 1
  · replace h := h.1 hp6
    refine xcondT' (decide_eq_true hp6) rfl ?_
    refine xseq ?_
    refine xregion ?_
    refine xvalP (pv_assign rfl) rfl rfl ?_
    refine xnil ?_
    refine xthen ?_
    refine xretc ?_
    refine xthen_ret ?_
    replace h := h.symm
    subst h
    exact xret1 hg rfl rfl (.refl _) (SubM.of (.nil _) (.nil _)) ⟨rfl, rfl, rfl⟩
  · replace h := h.2 hp6
    refine xcondF' (decide_eq_false hp6) rfl ?_
    refine xskipc ?_
    refine xthen ?_
    refine xseq ?_
    refine xregion ?_
    refine xvalP (pv_move rfl) rfl rfl ?_
    refine xvalP (pv_move rfl) rfl rfl ?_
    obtain ⟨h7, h⟩ := h
    refine xvalP (pv_remW h7 rfl rfl rfl rfl) rfl rfl ?_
    refine xvalP (pv_assign rfl) rfl rfl ?_
    refine xnil ?_
    refine xthen ?_
    refine xseq ?_
    refine xseq ?_
    refine xregion ?_
    refine xvalP (pv_move rfl) rfl rfl ?_
    refine xvalP (pv_bin2 rfl rfl rfl) rfl rfl ?_
    refine xnil ?_
    refine xthen ?_
    by_cases hp12 : ((nv1 : Int).tmod (many2)) < 0
    · replace h := h.1 hp12
      refine xcondT' (decide_eq_true hp12) rfl ?_
      refine xregion ?_
      refine xvalP (pv_move rfl) rfl rfl ?_
      refine xvalP (pv_move rfl) rfl rfl ?_
      obtain ⟨h13, h⟩ := h
      refine xvalP (pv_addI h13 rfl rfl) rfl rfl ?_
      refine xvalP (pv_assign rfl) rfl rfl ?_
      refine xnil ?_
      refine xthen ?_
      refine xseq ?_
      refine xregion ?_
      refine xvalP (pv_move rfl) rfl rfl ?_
      refine xvalP (pv_assign rfl) rfl rfl ?_
      refine xnil ?_
      refine xthen ?_
      refine xretc ?_
      replace h := h.symm
      subst h
      exact xret1 hg rfl rfl (.refl _) (SubM.of (.nil _) (.nil _)) ⟨rfl, rfl, rfl⟩
    · replace h := h.2 hp12
      refine xcondF' (decide_eq_false hp12) rfl ?_
      refine xskipc ?_
      refine xthen ?_
      refine xseq ?_
      refine xregion ?_
      refine xvalP (pv_move rfl) rfl rfl ?_
      refine xvalP (pv_assign rfl) rfl rfl ?_
      refine xnil ?_
      refine xthen ?_
      refine xretc ?_
      replace h := h.symm
      subst h
      exact xret1 hg rfl rfl (.refl _) (SubM.of (.nil _) (.nil _)) ⟨rfl, rfl, rfl⟩
/-- palinoderef01.Copy -/
def palinoderef01_Copy_R (bv1 : List UInt8) (r : (List UInt8)) : Prop :=
  Room ((([] : List UInt8)).length + bv1.length) 1 ∧ r = (([] : List UInt8) ++ bv1)
def palinoderef01_Copy_ev (fuel : Nat) (bv1 : List UInt8) : Option ((List UInt8)) :=
  (if Room ((([] : List UInt8)).length + bv1.length) 1 then some (([] : List UInt8) ++ bv1) else none)
theorem palinoderef01_Copy_ok {fuel : Nat} {bv1 : List UInt8} {r : (List UInt8)} (h : palinoderef01_Copy_ev fuel bv1 = some r) : palinoderef01_Copy_R bv1 r := by
  unfold palinoderef01_Copy_ev at h
  unfold palinoderef01_Copy_R
  obtain ⟨g205, h⟩ := if_ok h
  refine ⟨g205, ?_⟩
  exact (Option.some.inj h).symm
set_option maxHeartbeats 4000000 in
theorem palinoderef01_Copy_con (bv1 : List UInt8) (r : (List UInt8)) (h : palinoderef01_Copy_R bv1 r) : Con Try.prog 31 [.sl 1 none (List.map eb bv1)] [] [] (RetM 1 5 eb r) := by
  refine xenter Try.func31 rfl rfl fun g hg => ?_
  simp only [Try.ntmps31, slots]
  refine xseq ?_
  refine xregion ?_
  refine xvalP (pv_assign rfl) rfl rfl ?_
  refine xnil ?_
  refine xthen ?_
  refine xseq ?_
  refine xregion ?_
  refine xbuildSliceM (f := eb) ([] : List UInt8) UndC.h InfC.h rfl rfl (by first | exact wkR_of rfl | (repeat (first | exact WkR.nil | refine WkR.cons (by (repeat (first | exact WkL.nil | refine WkL.cons (by first | with_reducible exact Wk.refl _ | exact Wk.nil_own _ | exact Wk.nil_pl _ | with_reducible exact Wk.tok _ _ _ | exact Wk.tok _ _ _ | exact Wk.eq (by first | rfl | (simp []; done) | (simp []; omega))) ?_))) ?_))) rfl rfl rfl rfl fun s3 => ?_
  refine xvalP (pv_move rfl) rfl rfl ?_
  obtain ⟨h2, h⟩ := h
  refine xappendM (l := ([] : List UInt8)) (l2 := bv1) 0 h2 UndC.h InfC.h rfl rfl rfl (.refl _) rfl rfl rfl fun i3 => ?_
  refine xvalP (pv_assign rfl) rfl rfl ?_
  refine xnil ?_
  refine xthen ?_
  refine xretc ?_
  replace h := h.symm
  subst h
  exact xret1 hg rfl rfl (.refl _) (SubM.of (.nil _) (.keep rfl (.nil _))) ⟨i3, rfl, rfl, rfl⟩
end Go.Proofs.Ytljlaggehilpfaa
