/- palinodelaw19.SinksNone returns true at every input, and every argument reads afterwards as it read before; no condition. -/
import Derived.Test.YthffeojphpajpaaDoorSnN
import Derived.Test.YthffeojphpajpaaDoorArg2
import Derived.Test.YthffeojphpajpaaDoorChecked
import Derived.Test.YthffeojphpajpaaDoorRows
import Derived.WalkKit
import Derived.ProofKit
import Derived.OpenShut
import Derived.ShutString
import Derived.ChangeOld
import Derived.Below
import Derived.LaidMore
import Derived.Lib.LaidTab
import Derived.Stop.Joined
import Derived.SevenTiedAt
import Derived.Test.YthffeojphpajpaaDoorTie
import Derived.Test.YthffeojphpajpaaDoorCards
namespace Go.Proofs.YthffeojphpajpaaDoor.sinksNone
open Go.ChangeShapes Go.WideShapes Go.ChangeAt Go.RowKit
open Go.ChangeMaps (open_string shut_string)

def laidL : List (String × DataW Unit) := [("math/bits.deBruijn32tab", Rows.laid_math_bits_deBruijn32tab), ("math/bits.deBruijn64tab", Rows.laid_math_bits_deBruijn64tab), ("internal/strconv.uint64pow10", Rows.laid_internal_strconv_uint64pow10)]
set_option maxRecDepth 100000 in
theorem door_met (os : Os) (args : Array Value) : laidMetH Tryd.prog laidL ((World.doorLaid Tryd.prog 400 os).forCall (fun _ _ => 0) ⟨#[], args, []⟩).memory :=
  laidMetH_of_parts3 (fuel := 8) (laidMet_of_run' 8 (by kernel_rfl) (by kernel_rfl)) (by kernel_rfl) (by kernel_rfl)
/-- The table, as the row lists it. -/
theorem tab_of {W : World} (h : laidMetH Tryd.prog laidL W) : ∀ x ∈ glt, x.1 < W.heap.size ∧ ∀ i, i ≤ x.2.length → W.cell? ⟨x.1, i, none⟩ = x.2[i]? := by
  rw [MakeChecks.laidMetH_plain _ _ _ (by kernel_rfl)] at h
  obtain ⟨ps, ⟨g0, t0, cs0, f0, p0, q0, hg0, ht0, hv0, hd0, ⟨g1, t1, cs1, f1, p1, q1, hg1, ht1, hv1, hd1, ⟨g2, t2, cs2, f2, p2, q2, hg2, ht2, hv2, hd2, _, _⟩, _⟩, _⟩, _, _⟩ := h
  have hg : Tryd.prog.globalNamed "internal/strconv.uint64pow10" = some 0 := by kernel_rfl
  have hty : (Tryd.prog.globals[0]?).map (·.type) = some 50 := by kernel_rfl
  obtain rfl := Option.some.inj (hg.symm.trans hg2)
  obtain rfl := Option.some.inj (hty.symm.trans ht2)
  have hc : cs2.toList = Lib.pow10Tab.map fun z => Value.int .u64 z := Lib.cells_of_tab (k := .u64) (zs := Lib.pow10Tab) (e := 43) (n := 20) Tryd.underlying50 Tryd.underlying43 (by kernel_rfl) (by kernel_rfl) hd2
  unfold World.var? at hv2
  rw [hg2] at hv2
  simp only [Option.bind_some] at hv2
  intro x hx
  obtain rfl := List.mem_singleton.1 ((show glt = [(0, Lib.pow10Tab.map fun z => Value.int .u64 z)] by kernel_rfl) ▸ hx)
  cases ho : W.heap[0]? with
  | none => rw [ho] at hv2; cases hv2
  | some ob =>
    rw [ho] at hv2
    cases ob with
    | cells cs T fr =>
      obtain rfl : cs = cs2 := Option.some.inj hv2
      refine ⟨(Array.getElem?_eq_some_iff.1 ho).1, fun i _ => ?_⟩
      simp only [World.cell?, ho, ← hc, Array.getElem?_toList]; rfl
    | _ => cases hv2

theorem own : ownKnob Tryd.prog.godebug = none := by kernel_rfl
theorem laidOut : laidOutB Tryd.prog = true := by kernel_rfl
set_option maxRecDepth 100000 in
theorem op_sinksNone_22 : Opens Tryd.prog (List UInt8) 22 := opens_list Tryd.underlying22 (by kernel_rfl) (by decide) (opens_u8 Tryd.underlying5)
set_option maxRecDepth 100000 in
theorem lifted (os : Os) (started : os.Started) (H : Type) (enc : TypeId × Value → H) :
    ReturnsInHanded {} Tryd.checked os 3 .any (fun w args => (Rows.sinksNoneSpec.pre enc Tryd.prog Tryd.f3 [] false w args ∧ laidMetH Tryd.prog laidL w) ∧ sizedMet enc Tryd.prog Tryd.f3 (OpenSpec.ofChange Rows.sinksNoneSpec) false w args) (Rows.sinksNoneSpec.post enc Tryd.prog Tryd.f3 false true false false) := by
  refine returnsInHanded_of_change_and (C := Tryd.checked) (X := fun w _ => laidMetH Tryd.prog laidL w) (fun _ _ _ hh h => h.of_heap hh) own started (by kernel_rfl) Tryd.func3
    (ChangeSpec.witness_shaped (enc := enc) (C := Tryd.checked) (os := os) (X := fun w _ => laidMetH Tryd.prog laidL w) false (World.doorLaid Tryd.prog 400 os) #[.slice none 0 0, .int .i64 0] 8 rfl (World.shaped_of_RefB (by kernel_rfl) (by kernel_rfl)) (by kernel_rfl) (by kernel_rfl) (by kernel_rfl) (door_met os _)) ?_
  intro W base args ds gs before hval0 hW _ _ hL _
  have hval : ∀ (j : Nat) t v, Tryd.f3.params[j]? = some t → args[j]? = some v → Value.okWide Tryd.prog W .any base t v := hval0
  have hW' := hW
  obtain ⟨p, q, hA0, hV, rfl, hfz, hnd⟩ := hW
  have hA : DataW.TrodAll enc Tryd.prog W 0 (fun _ => true) true Tryd.f3.params.toList args.toList ds p := hA0
  rw [Tryd.params3] at hA hval
  obtain ⟨v0, vs0, d0, ds0, p0, q0, hargs, rfl, rfl, h0, r0⟩ := trodAll_cons hA
  obtain ⟨v1, vs1, d1, ds1, p1, q1, rfl, rfl, rfl, h1, r1⟩ := trodAll_cons r0
  obtain ⟨rfl, rfl, rfl⟩ := trodAll_nil r1
  obtain rfl : args = #[v0, v1] := by cases args; simp_all
  obtain ⟨rfl, rfl⟩ := trodVars_none hV
  have k0 := h0
  have lt0 : ∀ x ∈ p0, x.block < W.heap.size := by obtain ⟨m, hm⟩ := k0; exact DataW.trod_lt m _ _ _ hm
  obtain ⟨a0, len0, cap0, rfl⟩ := okWide_slice Tryd.underlying22 (hval 0 22 v0 rfl rfl)
  obtain ⟨y0, s0, w0⟩ : ∃ y, RepS (Rd0 W) W (.sl _ none (List.map EncR.enc y)) (.slice a0 len0 cap0) ∧ EncR.wf y := by
    obtain ⟨m, hm⟩ := k0
    obtain ⟨y, hy⟩ := op_sinksNone_22.out _ _ _ hm
    exact ⟨y, arg_one (EncR.ok hy).1 rfl, (EncR.ok hy).2⟩
  have k1 := h1
  have lt1 : ∀ x ∈ p1, x.block < W.heap.size := by obtain ⟨m, hm⟩ := k1; exact DataW.trod_lt m _ _ _ hm
  obtain ⟨y1, rfl, rfl, rfl, z1⟩ := open_int Tryd.underlying3 (hval 1 3 v1 rfl rfl) h1
  have w1 := i64_of_wf z1
  clear hA0 hval0
  refine (law_calls (palinodelaw19_SinksNone_con y0 y1 true (sinksnone_law y0 y1 w1)) ⟨_, _, rfl, s0, ⟨_, _, rfl, rfl, rfl⟩⟩ (hgt := tab_of hL)).mono fun e W' ⟨he, bel⟩ => ?_
  subst he
  exact ⟨_, rfl, _, _, _, [], _, [], hW', trodAll_mk1 (shut_bool Tryd.underlying4 _), (trodAll_cons_mk (Below.trod laidOut (by kernel_rfl) (of_decide_eq_true (by kernel_rfl)) k0 bel lt0) (trodAll_cons_mk (Below.trod laidOut (by kernel_rfl) (of_decide_eq_true (by kernel_rfl)) k1 bel lt1) (trodAll_mk0))), rfl, bel.frame _, fun h => by cases h⟩

theorem row_holds : Rows.SinksNoneSaid :=
  OpenClaim.holds_of_wide 3 Tryd.f3 rfl rfl rfl rfl rfl rfl rfl ⟨rfl, rfl, rfl, rfl, rfl⟩ rfl rfl rfl rfl rfl (by kernel_rfl) Tryd.func3 (by kernel_rfl)
    (of_decide_eq_true (by kernel_rfl)) (by unfold Func.isWrapper; first | (rw [if_pos (by decide +kernel)]; kernel_rfl) | (rw [if_neg (by decide +kernel)]; exact ⟨rfl, rfl⟩))
    (fun os started H enc _ => lifted os started H enc)
set_option maxRecDepth 100000 in
/-- The given statement: the tied card. -/
theorem proved : Rows.SinksNoneCardSaid :=
  Claim7.holds_tied_plain_at .later [] [.data, .data, .data] true (true, "53f874bb8666b173b72b5f526758afc7374225e33dd26b5654a2022f4358af96") false
    row_holds (fun _ h => by cases h) (by kernel_rfl) (fun _ h => by cases h) sinksNone_row_tie rfl ⟨rfl, rfl⟩ (by kernel_rfl) rfl
    (fun f fn hf hfn => by
      obtain rfl : f = 3 := Option.some.inj ((show Tryd.prog.funcNamed "palinode/palinodelaw19.SinksNone" = some 3 by kernel_rfl).symm.trans hf) |>.symm
      obtain rfl : fn = Tryd.f3 := (Option.some.inj (Tryd.func3.symm.trans hfn)).symm
      exact ⟨by kernel_rfl, fun j t ht => by
        rw [Tryd.params3] at ht
        have hm : t ∈ [22, 3] := by simpa using Array.mem_of_getElem? ht
        have hall : ([22, 3].all fun u => !Tryd.prog.wantsStandIn u) = true := by kernel_rfl
        exact (show Tryd.prog.wantsStandIn t = false by simpa using List.all_eq_true.1 hall t hm)⟩)
    (by kernel_rfl)
end Go.Proofs.YthffeojphpajpaaDoor.sinksNone
