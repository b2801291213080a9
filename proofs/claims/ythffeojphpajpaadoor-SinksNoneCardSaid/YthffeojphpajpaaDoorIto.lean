/- strconv.Itoa as a contract on what a walk knows (laid by the shelf; its table holds what the row says). -/
import Derived.Shelf.Strconv.Itoa3
import Derived.Lib.LaidTab
import Derived.Test.YthffeojphpajpaaDoorCv
import Derived.Test.YthffeojphpajpaaDoorProg
namespace Go.Proofs
open Go.Shelf Go.RowKit Go.Sort
def Tryd.laysM171_ren : Go.Shelf.Ren := ⟨fun | 171 => 16 | 243 => 17 | 246 => 18 | 283 => 19 | 284 => 20 | 285 => 21 | 286 => 22 | 129 => 24 | 317 => 23 | 318 => 25 | 319 => 26 | 320 => 27 | 337 => 28 | 338 => 29 | n => n, fun | 3 => 3 | 9 => 9 | 2 => 2 | 4 => 4 | 171 => 42 | 0 => 0 | 53 => 43 | 37 => 22 | 5 => 5 | 173 => 46 | 212 => 50 | 51 => 51 | 20 => 20 | 213 => 52 | 46 => 54 | 232 => 57 | 233 => 58 | n => n, fun | 17 => 0 | 18 => 1 | 19 => 2 | n => n⟩
theorem Tryd.laysM171 : Go.Proofs.LaysM.n171 Tryd.prog Tryd.laysM171_ren := {
  mixed := by kernel_rfl
  f129 := Tryd.func24.trans (congrArg some (by kernel_rfl))
  f171 := Tryd.func16.trans (congrArg some (by kernel_rfl))
  f243 := Tryd.func17.trans (congrArg some (by kernel_rfl))
  f246 := Tryd.func18.trans (congrArg some (by kernel_rfl))
  f283 := Tryd.func19.trans (congrArg some (by kernel_rfl))
  f284 := Tryd.func20.trans (congrArg some (by kernel_rfl))
  f285 := Tryd.func21.trans (congrArg some (by kernel_rfl))
  f286 := Tryd.func22.trans (congrArg some (by kernel_rfl))
  f317 := Tryd.func23.trans (congrArg some (by kernel_rfl))
  f318 := Tryd.func25.trans (congrArg some (by kernel_rfl))
  f319 := Tryd.func26.trans (congrArg some (by kernel_rfl))
  f320 := Tryd.func27.trans (congrArg some (by kernel_rfl))
  f337 := Tryd.func28.trans (congrArg some (by kernel_rfl))
  f338 := Tryd.func29.trans (congrArg some (by kernel_rfl))
  t0 := Tryd.underlying0
  a0 := Tryd.isAgg0
  z0 := Tryd.sizeOf0
  v0 := Tryd.zeroValue0
  t2 := Tryd.underlying2
  a2 := Tryd.isAgg2
  z2 := Tryd.sizeOf2
  v2 := Tryd.zeroValue2
  t3 := Tryd.underlying3
  a3 := Tryd.isAgg3
  z3 := Tryd.sizeOf3
  v3 := Tryd.zeroValue3
  t4 := Tryd.underlying4
  a4 := Tryd.isAgg4
  z4 := Tryd.sizeOf4
  v4 := Tryd.zeroValue4
  t5 := Tryd.underlying5
  a5 := Tryd.isAgg5
  z5 := Tryd.sizeOf5
  v5 := Tryd.zeroValue5
  t9 := Tryd.underlying9
  a9 := Tryd.isAgg9
  z9 := Tryd.sizeOf9
  v9 := Tryd.zeroValue9
  t20 := Tryd.underlying20
  a20 := Tryd.isAgg20
  z20 := Tryd.sizeOf20
  v20 := Tryd.zeroValue20
  t37 := Tryd.underlying22
  a37 := Tryd.isAgg22
  z37 := Tryd.sizeOf22
  v37 := Tryd.zeroValue22
  t46 := Tryd.underlying54
  a46 := Tryd.isAgg54
  z46 := Tryd.sizeOf54
  v46 := Tryd.zeroValue54
  t51 := Tryd.underlying51
  a51 := Tryd.isAgg51
  z51 := Tryd.sizeOf51
  v51 := Tryd.zeroValue51
  t53 := Tryd.underlying43
  a53 := Tryd.isAgg43
  z53 := Tryd.sizeOf43
  v53 := Tryd.zeroValue43
  t171 := Tryd.underlying42
  a171 := Tryd.isAgg42
  z171 := Tryd.sizeOf42
  v171 := Tryd.zeroValue42
  t173 := Tryd.underlying46
  a173 := Tryd.isAgg46
  z173 := Tryd.sizeOf46
  v173 := Tryd.zeroValue46
  t212 := Tryd.underlying50
  a212 := Tryd.isAgg50
  z212 := Tryd.sizeOf50
  v212 := Tryd.zeroValue50
  t213 := Tryd.underlying52
  a213 := Tryd.isAgg52
  z213 := Tryd.sizeOf52
  t232 := Tryd.underlying57
  a232 := Tryd.isAgg57
  z232 := Tryd.sizeOf57
  v232 := Tryd.zeroValue57
  t233 := Tryd.underlying58
  a233 := Tryd.isAgg58
  z233 := Tryd.sizeOf58
  v233 := Tryd.zeroValue58
  g17 := by kernel_rfl
  g18 := by kernel_rfl
  g19 := by kernel_rfl
  i0 := by kernel_rfl
  i2 := by kernel_rfl
  i3 := by kernel_rfl
  i4 := by kernel_rfl
  i5 := by kernel_rfl
  i9 := by kernel_rfl
  i20 := by kernel_rfl
  i37 := by kernel_rfl
  i46 := by kernel_rfl
  i51 := by kernel_rfl
  i53 := by kernel_rfl
  i171 := by kernel_rfl
  i173 := by kernel_rfl
  i212 := by kernel_rfl
  i232 := by kernel_rfl
  i233 := by kernel_rfl
  m17 := by kernel_rfl
  m18 := by kernel_rfl
  m19 := by kernel_rfl }
theorem Tryd.strconv_Itoa_ok (n : Int) (h0 : -9223372036854775808 ≤ n) (h1 : n ≤ 9223372036854775807) (w : World) (htab : Lib.TabIs Tryd.prog w "internal/strconv.uint64pow10" .u64 Lib.pow10Tab) :
    Calls Tryd.prog 16 #[.int .i64 n] w fun e w' => e = .returned (.string ⟨(Lib.itoa n).toArray⟩) ∧ ∃ k os, w' = grow (w.drewN k) os := Any.strconv_Itoa { Tryd.laysM171 with } n h0 h1 w htab
namespace YthffeojphpajpaaDoor
open Go.RowKit Go.Sort
theorem tab_is {R : Nat → Nat → Prop} {w : World} (h : Glo R w) : Lib.TabIs Tryd.prog w "internal/strconv.uint64pow10" .u64 Lib.pow10Tab := by
  have hg : Tryd.prog.globalNamed "internal/strconv.uint64pow10" = some 0 := by kernel_rfl
  have hx : ∀ i, i ≤ (Lib.pow10Tab.map fun z => Value.int .u64 z).length → w.cell? ⟨0, i, none⟩ = (Lib.pow10Tab.map fun z => Value.int .u64 z)[i]? := fun i hi => (h.2 (0, Lib.pow10Tab.map fun z => Value.int .u64 z) (by rw [show glt = [(0, Lib.pow10Tab.map fun z => Value.int .u64 z)] by kernel_rfl]; exact List.mem_singleton.2 rfl) i hi).2
  generalize hl : (Lib.pow10Tab.map fun z => Value.int .u64 z) = l at hx
  have h0 : 0 < l.length := by rw [← hl]; exact of_decide_eq_true (by kernel_rfl)
  unfold Lib.TabIs World.var?
  rw [hg, hl]
  simp only [Option.bind_some]
  have h1 := hx 0 (Nat.zero_le _)
  rw [List.getElem?_eq_getElem h0] at h1
  unfold World.cell? at h1 hx
  simp only at h1 hx
  cases ho : w.heap[0]? with
  | none => rw [ho] at h1; cases h1
  | some ob =>
    rw [ho] at h1 hx
    cases ob with
    | cells cs T fr =>
      simp only at hx ⊢
      have hx : ∀ i, i ≤ l.length → cs[i]? = l[i]? := hx
      congr 1
      apply Array.ext'
      apply List.ext_getElem?
      intro i
      rw [Array.getElem?_toList]
      rcases Nat.lt_or_ge i (l.length + 1) with hi | hi
      · rw [hx i (by omega)]
      · have hn := hx l.length (Nat.le_refl _)
        rw [List.getElem?_eq_none (Nat.le_refl _)] at hn
        have := Array.getElem?_eq_none_iff.1 hn
        rw [Array.getElem?_eq_none (by omega)]; simp; try omega
    | _ => cases h1
def strconv_Itoa_R (n : Int) (r : ByteArray) : Prop := InR n ∧ r = ⟨(Lib.itoa n).toArray⟩
def strconv_Itoa_ev (_fuel : Nat) (n : Int) : Option ByteArray := if -9223372036854775808 ≤ n ∧ n ≤ 9223372036854775807 then some ⟨(Lib.itoa n).toArray⟩ else none
theorem strconv_Itoa_ok {fuel : Nat} {n : Int} {r : ByteArray} (h : strconv_Itoa_ev fuel n = some r) : strconv_Itoa_R n r := by
  obtain ⟨h1, h2⟩ := if_ok h
  exact ⟨h1, (Option.some.inj h2).symm⟩
theorem grow_old (w : World) (k : Nat) (os : Array Obj) {j : Nat} (hj : j < w.heap.size) : (grow (w.drewN k) os).heap[j]? = w.heap[j]? := by
  show (w.heap ++ os)[j]? = _
  rw [Array.getElem?_append_left hj]
theorem strconv_Itoa_con (n : Int) (r : ByteArray) (h : strconv_Itoa_R n r) : Con Tryd.prog 16 [.v (.int .i64 n)] [] [] (Ret (.v (.string r))) := by
  obtain ⟨⟨h1, h2⟩, rfl⟩ := h
  rintro Rd w vals hgl hm ⟨u0, _, rfl, hs, rfl⟩
  obtain rfl : u0 = .int .i64 n := hs
  refine (Tryd.strconv_Itoa_ok n h1 h2 w (tab_is hgl)).mono ?_
  rintro e w' ⟨rfl, k, os, rfl⟩
  have hsz : (grow (w.drewN k) os).heap.size = w.heap.size + os.size := by show (w.heap ++ os).size = _; rw [Array.size_append]
  refine ⟨_, _, [], [], Rd, rfl, ⟨rfl, rfl, rfl⟩, ⟨fun b o h => by rw [hsz]; have := hm.lt b o h; omega, by simp, by simp, by simp⟩, rfl, ⟨rfl, rfl, rfl, by rw [hsz]; omega, fun j hj _ => grow_old w k os hj, fun b o h => ⟨h, ?_⟩, fun _ _ h => .inl h⟩, fun b hb => by simp [dom] at hb⟩
  simp only [World.cell?, grow_old w k os (hm.lt b o h)]
end YthffeojphpajpaaDoor
end Go.Proofs
