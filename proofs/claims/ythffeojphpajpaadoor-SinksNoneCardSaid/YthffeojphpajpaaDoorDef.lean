/- Calls that are put off to a function's end. -/
import Derived.Defers
import Derived.Test.YthffeojphpajpaaDoorEv
namespace Go.Proofs.YthffeojphpajpaaDoor
open Go.RowKit
def Gh.push (g : Gh) (d : Deferred) : Gh := ⟨g.w, g.R, g.D, g.gl, d :: g.ds, g.rd⟩
def Gh.clr (g : Gh) : Gh := ⟨g.w, g.R, g.D, g.gl, [], g.rd⟩
def put_off (f : FuncId) (caps : Array Value) : Deferred := ⟨.fn (.func f) caps, #[]⟩
theorem GOk.clr {g : Gh} {d : Deferred} {bx : List Bx} {tk : List Tk} (h : GOk g bx tk) : GOk (g.push d).clr bx tk := ⟨h.d, rfl, h.rd⟩
section
variable {P : Program} {ops : Array Oper} {Q : Exit → Act → World → Prop} {g : Gh} {n : Nat} {σ : St} {K : Act → World → Prop} {t : List (Nat × Sd)} {bx : List Bx} {tk : List Tk} {ty : TypeId} {ps : String} {af : Array Edge} {gd : Option (Nat × Bool)}
theorem wp_defer {x : Operand} {f : FuncId} {caps : Array Value} (hx : ev σ.t x = some (.v (.func (.func f) #[] caps))) (h : Hx (g.push (put_off f caps)) n σ K) :
    Hx g n σ (fun a w => Oper.wp P ⟨none, .defer ⟨.value x, #[], #[]⟩, ty, ps, af, gd⟩ a w K Q) := by
  rintro a w ⟨R, hr⟩
  have e1 : a.eval x = _ := hr.ev hx
  have hrun : (execOp a.eval ⟨none, .defer ⟨.value x, #[], #[]⟩, ty, ps, af, gd⟩).run P w = .ok (.defer (put_off f caps)) w := by
    simp [execOp, resolve, e1, Deferred.ofValue, put_off]
  unfold Oper.wp
  rw [hrun]
  exact h _ _ ⟨R, hr.mem, hr.mv, hr.dm, congrArg (List.cons _) hr.df, hr.sz, hr.tm⟩
theorem xdefer {x : Operand} {f : FuncId} {caps : Array Value} {rest : List Oper} (hrd : g.rd = none) (hx : ev t x = some (.v (.func (.func f) #[] caps))) (hw : want ops t gd = some true) (h : HL P ops Q (g.push (put_off f caps)) n ⟨t, bx, tk⟩ rest) :
    HL P ops Q g n ⟨t, bx, tk⟩ (⟨none, .defer ⟨.value x, #[], #[]⟩, ty, ps, af, gd⟩ :: rest) := ⟨hx_world (σ := ⟨t, bx, tk⟩) hw (wp_defer (σ := ⟨t, bx, tk⟩) hx h.h) (.inr hrd)⟩
end
section
variable {P : Program}
/-- What the body of a function that puts calls off must achieve; it doesn't panic. -/
def postN (P : Program) (fn : Func) (R : Ending → World → Prop) : Exit → Act → World → Prop
  | .normal, a, w | .ret, a, w => Leaves P fn a.tmps R a.defers .returning w
  | .outgrown, _, w => R .outgrown w
  | _, _, _ => False
/-- A contract of a function that is called at another's end. -/
def ConD (P : Program) (f : FuncId) (ss : List Sd) (bx : List Bx) (tk : List Tk) (R : Sd → List Bx → List Tk → Prop) : Prop :=
  ∀ Rd w vals u, Glo Rd w → MemOk Rd bx tk w → RepL Rd w ss vals → CallsD P f vals.toArray u w fun e u' w' => u' = u ∧ RP bx tk Rd w R e w'
theorem start_rl {ss : List Sd} {bx : List Bx} {tk : List Tk} {Rd : Nat → Nat → Prop} {w : World} {vals : List Value} {n : Nat} (hgl : Glo Rd w) (hm : MemOk Rd bx tk w) (hv : RepL Rd w ss vals) (hn : ss.length ≤ n) :
    Rel ⟨w, Rd, dom bx tk, hgl, [], none⟩ n ⟨slots 0 ss, bx, tk⟩ { tmps := vals.toArray ++ Array.replicate (n - vals.toArray.size) undef, defers := [] } w := by
  have hl := hv.length
  refine ⟨Rd, ⟨hm, .refl _ _ _, fun b hb => .inl hb, rfl, by simp; omega, fun d s hs => ?_⟩⟩
  obtain ⟨_, h2⟩ := slots_look 0 ss d s hs
  obtain ⟨u, h3, h4⟩ := hv.at_ h2
  refine ⟨u, ?_, h4⟩
  have hd : d < vals.length := (List.getElem?_eq_some_iff.1 h3).1
  rw [Array.getElem?_append_left (by simpa using hd)]
  simpa using h3
theorem xenterC {f : FuncId} {fn : Func} {c : Code} {ss : List Sd} {bx : List Bx} {tk : List Tk} {R : Sd → List Bx → List Tk → Prop} (hf : P.funcs[f]? = some fn) (hb : fn.body = some c) (hn : Nat.ble ss.length fn.ntmps = true)
    (h : ∀ g : Gh, GOk g bx tk → HC P (bodyPost P fn (RP bx tk g.R g.w R)) g fn.ntmps ⟨slots 0 ss, bx, tk⟩ c) : ConD P f ss bx tk R := by
  intro Rd w vals u hgl hm hv
  exact callsD_of_wp hf hb ((wpIn_wide (n := 0)).1 ((h ⟨w, Rd, dom bx tk, hgl, [], none⟩ ⟨rfl, rfl, rfl⟩).h _ _ (start_rl hgl hm hv (Nat.le_of_ble_eq_true hn))))
theorem xenterF {f : FuncId} {fn : Func} {c : Code} {ss : List Sd} {bx : List Bx} {tk : List Tk} {R : Sd → List Bx → List Tk → Prop} (hf : P.funcs[f]? = some fn) (hb : fn.body = some c) (hn : Nat.ble ss.length fn.ntmps = true)
    (h : ∀ g : Gh, GOk g bx tk → HC P (postN P fn (RP bx tk g.R g.w R)) g fn.ntmps ⟨slots 0 ss, bx, tk⟩ c) : Con P f ss bx tk R := by
  intro Rd w vals hgl hm hv
  refine calls_of_wp_defers hf hb (Code.wp_mono (fun e a w h => ?_) ((wpIn_wide (n := 0)).1 ((h ⟨w, Rd, dom bx tk, hgl, [], none⟩ ⟨rfl, rfl, rfl⟩).h _ _ (start_rl hgl hm hv (Nat.le_of_ble_eq_true hn)))))
  cases e with
  | normal => exact h
  | ret => exact h
  | outgrown => exact h
  | panic c => exact h.elim
  | exit i => exact h.elim
  | goto l => exact h.elim
variable {g : Gh} {n : Nat} {σ : St} {fn : Func} {bx : List Bx} {tk : List Tk} {R : Sd → List Bx → List Tk → Prop}
/-- Nothing was put off. -/
theorem xretD0 (hg : GOk g bx tk) (h : HE (bodyPost P fn (RP bx tk g.R g.w R)) g n σ .ret) : HE (postN P fn (RP bx tk g.R g.w R)) g n σ .ret := by
  refine ⟨?_⟩
  rintro a w hr
  obtain ⟨h1, h2⟩ := h.h a w hr
  show Leaves P fn a.tmps _ a.defers .returning w
  rw [h1]; exact h2
/-- One call was put off. -/
theorem xretD {f : FuncId} {fd : Func} {caps : Array Value} {ss : List Sd} {bx0 Fb : List Bx} {tk0 Ft : List Tk} {Rr : Sd → List Bx → List Tk → Prop} (hg : GOk g bx tk) (c : ConD P f ss bx0 tk0 Rr)
    (hf : P.funcs[f]? = some fd) (hnm : (fd.name == "runtime.NumGoroutine") = false) (hbd : fd.body.isSome = true) (hss : caps.toList.map .v = ss) (hm : SubM σ.bx σ.tk (bx0 ++ Fb) (tk0 ++ Ft))
    (h : ∀ r bx' tk', Rr r bx' tk' → HE (bodyPost P fn (RP bx tk g.R g.w R)) (g.push (put_off f caps)).clr n ⟨σ.t, bx' ++ Fb, tk' ++ Ft⟩ .ret) :
    HE (postN P fn (RP bx tk g.R g.w R)) (g.push (put_off f caps)) n σ .ret := by
  refine ⟨?_⟩
  rintro a w ⟨Rd, hr⟩
  have hr1 := hr.imp (σ' := ⟨σ.t, bx0 ++ Fb, tk0 ++ Ft⟩) ⟨ImpT.refl _, hm⟩
  have hv : RepL Rd w ss caps.toList := by rw [← hss]; exact repL_vals Rd w caps.toList
  have hmem := (SubM.of_sub (List.sublist_append_left bx0 Fb) (List.sublist_append_left tk0 Ft)).mem Rd w hr1.mem
  have hc := c Rd w _ .returning (g.gl.keep hr.mv.keep) hmem hv
  have hrun := run_call hf hnm hbd caps w
  show Leaves P fn a.tmps _ a.defers .returning w
  have hdf : a.defers = put_off f caps :: g.ds := hr.df
  rw [hdf, hg.ds]
  refine leaves_cons (by intro h; cases h) (by simpa [invoke] using hrun) (CallsD.mono (by simpa using hc) ?_)
  rintro e u' w' ⟨rfl, v, r, bx', tk', R', rfl, k1, k2, k3, k4, k5⟩
  obtain ⟨q1, q2⟩ := hr1.mem.frame k2 k4 k5
  have hdl := (perm_dom bx0 Fb tk0 Ft)
  have hm2 := hr1.move q1 k4 (fun b hb => .inl (hdl b hb)) q2
  exact ((h r bx' tk' k1).h ⟨a.tmps, []⟩ w' ⟨R', hm2.mem, hm2.mv, hm2.dm, rfl, hm2.sz, hm2.tm⟩).2
end
section
variable {P : Program} {g : Gh} {n : Nat} {σ : St} {d : Option Nat} {ty : TypeId} {ps : String} {af : Array Edge} {gd : Option (Nat × Bool)}
theorem flat_eb (bs : List UInt8) (j : Nat) (hj : j < bs.length) : (List.map eb bs).flatten[j]? = some (.v (.int .u8 ((bs[j]).toNat : Int))) := by
  induction bs generalizing j with
  | nil => simp at hj
  | cons b bs ih =>
    cases j with
    | zero => rfl
    | succ j => exact ih j (by simpa using hj)
/-- string(b) of a row in place. -/
theorem pv_strSrc {T E S : TypeId} {x : Operand} {bs : List UInt8} (hT : P.underlying T = some (.slice E)) (hE : P.underlying E = some (.int .u8)) (hS : P.underlying S = some .string) (hx : SrcOf g n σ x 1 (List.map eb bs)) :
    ValE P g n σ ⟨d, .convert T S x, ty, ps, af, gd⟩ (.v (.string ⟨bs.toArray⟩)) := by
  refine ⟨fun R a w hr => ?_⟩
  obtain ⟨B, c2, e, _, h⟩ := hx R a w hr
  rw [List.length_map] at e
  refine ⟨_, rfl, fun W hW => ?_⟩
  have hrun : (convert T S (.slice B bs.length c2)).run P W = .ok (.string ⟨bs.toArray⟩) W := by
    rcases h with h | ⟨b, o, us, rfl, h1, _, h3⟩
    · obtain rfl := List.map_eq_nil_iff.1 h
      cases B with
      | none =>
        simp only [convert, Sem.run_bind, run_underlying hT, run_underlying hE, run_underlying hS, Result.andThen_ok]
        rfl
      | some ad => exact run_convert_bytes_back W _ _ _ ad c2 [] hT hE hS fun j hj => by simp at hj
    · refine run_convert_bytes_back W _ _ _ _ c2 bs hT hE hS fun j hj => ?_
      obtain ⟨u, q1, q2⟩ := h1.at_ (flat_eb bs j hj)
      have q2 : u = _ := q2
      subst q2
      have q3 := h3 j _ q1
      rw [add_lit_, hW.cell b (o + j) (by rw [q3]; rfl)]
      exact q3
  simp [execOp, e, hrun]
end
end Go.Proofs.YthffeojphpajpaaDoor
