
/- The steps of a walk, one a law. -/
import Derived.Test.YtncnfohhjbadgaaSym
namespace Go.Proofs.Ytncnfohhjbadgaa
open Go.RowKit
/-- A field: where it lies, its shape. -/
structure Fld (P : Program) (t : TypeId) (f off : Nat) (ag : Bool) (k : Nat) : Prop where
  h : ∃ fs fd, P.underlying t = some (.struct fs) ∧ fs[f]? = some fd ∧ fd.offset = off ∧ Shp P fd.type ag k
class FldC (P : Program) (t : TypeId) (f : Nat) (off : outParam Nat) (ag : outParam Bool) (k : outParam Nat) : Prop where
  h : Fld P t f off ag k
section
variable {P : Program} {g : Gh} {n : Nat} {σ : St} {d : Option Nat} {ty : TypeId} {ps : String} {af : Array Edge} {gd : Option (Nat × Bool)}
theorem qv_fieldAddrB {x : Operand} {t : TypeId} {f off : Nat} {ag : Bool} {k b o : Nat} (hF : Fld P t f off ag (k + 1)) (hx : ev σ.t x = some (.v (.pointer (some ⟨b, o, none⟩)))) :
    Val P g n σ ⟨d, .fieldAddr t x f, ty, ps, af, gd⟩ (.v (.pointer (some ⟨b, o + off, none⟩))) := by
  obtain ⟨fs, fd, h1, h2, h3, h4⟩ := hF.h
  subst h3
  exact pv_fieldAddrB h1 h2 h4 hx
theorem qv_load {x : Operand} {t : TypeId} {ag : Bool} {k : Nat} {cs : List Sd} {s : Sd} (h : Shp P t ag k) (hx : ev σ.t x = some (.el cs)) (hs : partS ag k 0 cs = some s) (hlen : Nat.ble k cs.length = true) : ValE P g n σ ⟨d, .load t x, ty, ps, af, gd⟩ s := pv_load h hx hs (Nat.le_of_ble_eq_true hlen)
theorem qv_loadB {x : Operand} {t E : TypeId} {ag : Bool} {k b o : Nat} {cs : List Sd} {s : Sd} (i : Nat) (h : Shp P t ag k) (hx : ev σ.t x = some (.v (.pointer (some ⟨b, o, none⟩)))) (hb : σ.bx[i]? = some ⟨b, E, cs⟩) (hs : partS ag k o cs = some s) (hlen : Nat.ble (o + k) cs.length = true) :
    ValE P g n σ ⟨d, .load t x, ty, ps, af, gd⟩ s := pv_loadB h hx (List.mem_of_getElem? hb) hs (Nat.le_of_ble_eq_true hlen)
theorem qv_fieldAddrE {x : Operand} {t : TypeId} {f off : Nat} {ag : Bool} {k : Nat} {cs : List Sd} (hF : Fld P t f off ag (k + 1)) (hx : ev σ.t x = some (.el cs)) :
    Val P g n σ ⟨d, .fieldAddr t x f, ty, ps, af, gd⟩ (.el (cs.drop off)) := by
  obtain ⟨fs, fd, h1, h2, h3, h4⟩ := hF.h
  subst h3
  exact pv_fieldAddrE h1 h2 h4 hx
end
/-- Operands as data. -/
inductive EvL (t : List (Nat × Sd)) : List Operand → List Sd → Prop where
  | nil : EvL t [] []
  | cons {x : Operand} {s s' : Sd} {xs : List Operand} {ss : List Sd} (h : ev t x = some s) (w : Wk s s') (r : EvL t xs ss) : EvL t (x :: xs) (s' :: ss)
theorem EvL.out {t : List (Nat × Sd)} {xs : List Operand} {ss : List Sd} (h : EvL t xs ss) : ∃ ss', xs.map (ev t) = ss'.map some ∧ WkL ss' ss := by
  induction h with
  | nil => exact ⟨[], rfl, .nil⟩
  | cons h w _ ih => obtain ⟨ss', h1, h2⟩ := ih; exact ⟨_ :: ss', by rw [List.map_cons, List.map_cons, h, h1], .cons w h2⟩
/-- What is left: code; operations; how a statement was left. -/
structure HC (P : Program) (Q : Exit → Act → World → Prop) (g : Gh) (n : Nat) (σ : St) (c : Code) : Prop where
  h : Hx g n σ (cwp g.rd P c Q)
structure HL (P : Program) (ops : Array Oper) (Q : Exit → Act → World → Prop) (g : Gh) (n : Nat) (σ : St) (l : List Oper) : Prop where
  h : Hx g n σ (lwp g.rd P ops Q l)
structure HE (Q : Exit → Act → World → Prop) (g : Gh) (n : Nat) (σ : St) (e : Exit) : Prop where
  h : Hx g n σ (Q e)
section
variable {P : Program} {Q : Exit → Act → World → Prop} {ops : Array Oper} {g : Gh} {n : Nat} {σ : St} {K : Act → World → Prop}
theorem xnil (h : HE Q g n σ .normal) : HL P ops Q g n σ [] := ⟨hx_nil h.h⟩
theorem xseq {x y : Code} (h : HC P (Exit.then (cwp g.rd P y Q) Q) g n σ x) : HC P Q g n σ (.seq x y) := ⟨hx_seq h.h⟩
theorem xregion {id : Nat} {l : List Oper} (h : HL P l.toArray Q g n σ l) : HC P Q g n σ (.region id l.toArray false) := ⟨hx_region h.h⟩
theorem xskipc (h : HE Q g n σ .normal) : HC P Q g n σ .skip := ⟨hx_skipc h.h⟩
theorem xblock {id : Nat} {c : Code} (h : HC P (Exit.inBlock id Q) g n σ c) : HC P Q g n σ (.block id c) := ⟨hx_block h.h⟩
theorem xexit {id : Nat} (h : HE Q g n σ (.exit id)) : HC P Q g n σ (.exit id) := ⟨hx_exit h.h⟩
theorem xretc (h : HE Q g n σ .ret) : HC P Q g n σ .ret := ⟨hx_retc h.h⟩
theorem xcondT {c : Operand} {x y : Code} (hc : ev σ.t c = some (.v (.bool true))) (h : HC P Q g n σ x) : HC P Q g n σ (.cond c x y) := ⟨hx_cond hc h.h⟩
theorem xcondF {c : Operand} {x y : Code} (hc : ev σ.t c = some (.v (.bool false))) (h : HC P Q g n σ y) : HC P Q g n σ (.cond c x y) := ⟨hx_cond hc h.h⟩
theorem xthen {c : Code} {Q0 : Exit → Act → World → Prop} (h : HC P Q0 g n σ c) : HE (Exit.then (cwp g.rd P c Q0) Q) g n σ .normal := ⟨h.h⟩
theorem xthen_exit {i : Nat} (h : HE Q g n σ (.exit i)) : HE (Exit.then K Q) g n σ (.exit i) := ⟨h.h⟩
theorem xthen_ret (h : HE Q g n σ .ret) : HE (Exit.then K Q) g n σ .ret := ⟨h.h⟩
theorem xin_normal {id : Nat} (h : HE Q g n σ .normal) : HE (Exit.inBlock id Q) g n σ .normal := ⟨h.h⟩
theorem xin_ret {id : Nat} (h : HE Q g n σ .ret) : HE (Exit.inBlock id Q) g n σ .ret := ⟨h.h⟩
theorem xin_same {id i : Nat} (he : Nat.beq i id = true) (h : HE Q g n σ .normal) : HE (Exit.inBlock id Q) g n σ (.exit i) := by
  have := Nat.eq_of_beq_eq_true he
  subst this
  exact ⟨hx_in_same h.h⟩
theorem xin_other {id i : Nat} (hne : Nat.beq i id = false) (h : HE Q g n σ (.exit i)) : HE (Exit.inBlock id Q) g n σ (.exit i) := ⟨hx_in_other hne h.h⟩
/-- A round of a loop ends: again. -/
def Again (Inv : St → Nat → Prop) (m : Nat) (g : Gh) (n : Nat) (a : Act) (w : World) : Prop := ∃ σ' m', Inv σ' m' ∧ m' < m ∧ Rel g n σ' a w
theorem xloop {c : Code} (Inv : St → Nat → Prop) {σ0 : St} {m0 : Nat} (h0 : Inv σ0 m0) (hi : Imp σ σ0) (round : ∀ σ m, Inv σ m → HC P (Exit.then (Again Inv m g n) Q) g n σ c) : HC P Q g n σ (.loop c) :=
  ⟨hx_loop Inv ⟨σ0, m0, h0, hi⟩ fun σ m h => (round σ m h).h⟩
theorem xagain {Inv : St → Nat → Prop} {m : Nat} {σ' : St} {m' : Nat} (hI : Inv σ' m') (hm : m' < m) (hi : Imp σ σ') : HE (Exit.then (Again Inv m g n) Q) g n σ .normal := ⟨hx_again σ' m' hI hm hi⟩
theorem ximp {σ' : St} {c : Code} (hi : Imp σ σ') (h : HC P Q g n σ' c) : HC P Q g n σ c := ⟨hx_imp hi h.h⟩
theorem xenter {f : FuncId} {fn : Func} {c : Code} {ss : List Sd} {bx : List Bx} {tk : List Tk} {R : Sd → List Bx → List Tk → Prop} (hf : P.funcs[f]? = some fn) (hb : fn.body = some c) (hn : Nat.ble ss.length fn.ntmps = true)
    (h : ∀ g : Gh, GOk g bx tk → HC P (bodyPost P fn (RP bx tk g.R g.w R)) g fn.ntmps ⟨slots 0 ss, bx, tk⟩ c) : Con P f ss bx tk R := con_body hf hb hn fun g hg => (h g hg).h
section
variable {fn : Func} {bx bx' : List Bx} {tk tk' : List Tk} {R : Sd → List Bx → List Tk → Prop}
theorem xret1 {t : Nat} {s r : Sd} (hg : GOk g bx tk) (hr : fn.results = #[.tmp t]) (hl : look σ.t t = some s) (hw : Wk s r) (hm : SubM σ.bx σ.tk bx' tk') (hR : R r bx' tk') : HE (bodyPost P fn (RP bx tk g.R g.w R)) g n σ .ret := ⟨hx_ret1 hg hr hl hw hm hR⟩
theorem xret0 (hg : GOk g bx tk) (hr : fn.results = #[]) (hm : SubM σ.bx σ.tk bx' tk') (hR : R (.tup []) bx' tk') {e : Exit} (he : e = .ret ∨ e = .normal) : HE (bodyPost P fn (RP bx tk g.R g.w R)) g n σ e := ⟨hx_ret0 hg hr hm hR e he⟩
end
end
section
variable {P : Program} {ops : Array Oper} {Q : Exit → Act → World → Prop} {g : Gh} {n : Nat} {t : List (Nat × Sd)} {bx : List Bx} {tk : List Tk} {rest : List Oper} {ty : TypeId} {ps : String} {af : Array Edge} {gd : Option (Nat × Bool)}
theorem xval {d : Nat} {s : Sd} {op : Op} (hv : ValE P g n ⟨t, bx, tk⟩ ⟨some d, op, ty, ps, af, gd⟩ s) (hw : want ops t gd = some true) (hd : Nat.blt d n = true) (h : HL P ops Q g n ⟨(d, s) :: t, bx, tk⟩ rest) :
    HL P ops Q g n ⟨t, bx, tk⟩ (⟨some d, op, ty, ps, af, gd⟩ :: rest) := ⟨hx_val (σ := ⟨t, bx, tk⟩) hw hv hd h.h⟩
theorem xvalP {d : Nat} {s : Sd} {op : Op} (hv : Val P g n ⟨t, bx, tk⟩ ⟨some d, op, ty, ps, af, gd⟩ s) (hw : want ops t gd = some true) (hd : Nat.blt d n = true) (h : HL P ops Q g n ⟨(d, s) :: t, bx, tk⟩ rest) :
    HL P ops Q g n ⟨t, bx, tk⟩ (⟨some d, op, ty, ps, af, gd⟩ :: rest) := ⟨hx_val (σ := ⟨t, bx, tk⟩) hw hv.e hd h.h⟩
theorem xskip {d : Nat} {op : Op} (hw : want ops t gd = some false) (hd : Nat.blt d n = true) (h : HL P ops Q g n ⟨(d, .v undef) :: t, bx, tk⟩ rest) : HL P ops Q g n ⟨t, bx, tk⟩ (⟨some d, op, ty, ps, af, gd⟩ :: rest) := ⟨hx_skip (σ := ⟨t, bx, tk⟩) hw hd h.h⟩
theorem xalloc {d : Nat} {E : TypeId} {size bytes : Nat} {zero : List Value} (hi : Inf P E size bytes zero) (hw : want ops t gd = some true) (hd : Nat.blt d n = true)
    (h : ∀ b, HL P ops Q g n ⟨(d, .v (.pointer (some ⟨b, 0, none⟩))) :: t, ⟨b, E, zero.map .v⟩ :: bx, tk⟩ rest) : HL P ops Q g n ⟨t, bx, tk⟩ (⟨some d, .alloc E, ty, ps, af, gd⟩ :: rest) :=
  ⟨hx_world (σ := ⟨t, bx, tk⟩) hw (wp_alloc (σ := ⟨t, bx, tk⟩) hi hd fun b => (h b).h)⟩
theorem xbox {d : Nat} {E : TypeId} {x : Operand} {s : Sd} (hx : ev t x = some s) (h1 : oneS s = true) (hw : want ops t gd = some true) (hd : Nat.blt d n = true)
    (h : ∀ b, HL P ops Q g n ⟨(d, .v (.pointer (some ⟨b, 0, none⟩))) :: t, ⟨b, E, cellsS s⟩ :: bx, tk⟩ rest) : HL P ops Q g n ⟨t, bx, tk⟩ (⟨some d, .box E x, ty, ps, af, gd⟩ :: rest) :=
  ⟨hx_world (σ := ⟨t, bx, tk⟩) hw (wp_box (σ := ⟨t, bx, tk⟩) hx h1 hd fun b => (h b).h)⟩
theorem xstore {T E : TypeId} {x y : Operand} (i : Nat) {b o : Nat} {s : Sd} {cs : List Sd} {ag : Bool} {k : Nat} (hs : Shp P T ag k) (hx : ev t x = some (.v (.pointer (some ⟨b, o, none⟩)))) (hb : bx[i]? = some ⟨b, E, cs⟩) (hy : ev t y = some s) (h1 : oneS s = true) (hk : Nat.beq (cellsS s).length k = true)
    (hlen : Nat.ble (o + k) cs.length = true) (hw : want ops t gd = some true) (h : HL P ops Q g n ⟨t, bx.set i ⟨b, E, putC o (cellsS s) cs⟩, tk⟩ rest) : HL P ops Q g n ⟨t, bx, tk⟩ (⟨none, .store T x y, ty, ps, af, gd⟩ :: rest) :=
  ⟨hx_world (σ := ⟨t, bx, tk⟩) hw (wp_store (σ := ⟨t, bx, tk⟩) hs hx hy h1 (Nat.eq_of_beq_eq_true hk) hb (Nat.le_of_ble_eq_true hlen) h.h)⟩
theorem xappend {d : Nat} {T E : TypeId} {k bytes : Nat} {zero : List Value} (ht : P.underlying T = some (.slice E)) (hi : Inf P E k bytes zero) (hk0 : Nat.blt 0 k = true) {x y : Operand} (i : Nat) {id : Option (Nat × Nat)} {tok2 : Option (Option (Nat × Nat))} {rows rows2 : List (List Sd)} {s2 : Sd} {m : Nat}
    (hx : ev t x = some (.sl k (some id) rows)) (hy : ev t y = some s2) (hw2 : Wk s2 (.sl k tok2 rows2)) (htk : tk[i]? = some ⟨id, E, k, m⟩) (hm : m = rows.length) (hw : want ops t gd = some true) (hd : Nat.blt d n = true) (hby : rows.length + rows2.length ≤ maxLen ∧ (rows.length + rows2.length) * bytes ≤ 140737488355328)
    (h : ∀ id', HL P ops Q g n ⟨(d, .sl k (some id') (rows ++ rows2)) :: t, bx, tk.set i ⟨id', E, k, (rows ++ rows2).length⟩⟩ rest) :
    HL P ops Q g n ⟨t, bx, tk⟩ (⟨some d, .call ⟨.builtin .append, #[x, y], #[T, T]⟩, ty, ps, af, gd⟩ :: rest) :=
  ⟨hx_world (σ := ⟨t, bx, tk⟩) hw (wp_append (σ := ⟨t, bx, tk⟩) ht hi hk0 hx (.sl hy hw2) (hm ▸ htk) hd hby fun id => (h id).h)⟩
/-- A call, by a contract. -/
theorem xcall {d : Nat} {f : FuncId} {fn : Func} {x : Operand} {args : Array Operand} {ats : Array TypeId} {caps : Array Value} {ss' ss : List Sd} {bx0 Fb : List Bx} {tk0 Ft : List Tk} {Rr : Sd → List Bx → List Tk → Prop} (c : Con P f ss bx0 tk0 Rr)
    (hf : P.funcs[f]? = some fn) (hnm : (fn.name == "runtime.NumGoroutine") = false) (hbd : fn.body.isSome = true) (hx : ev t x = some (.v (.func (.func f) #[] caps)))
    (hargs : args.toList.map (ev t) = ss'.map some) (hw : WkL (ss' ++ caps.toList.map .v) ss) (hm : SubM bx tk (bx0 ++ Fb) (tk0 ++ Ft)) (hwt : want ops t gd = some true) (hd : Nat.blt d n = true)
    (h : ∀ r bx' tk', Rr r bx' tk' → HL P ops Q g n ⟨(d, r) :: t, bx' ++ Fb, tk' ++ Ft⟩ rest) :
    HL P ops Q g n ⟨t, bx, tk⟩ (⟨some d, .call ⟨.value x, args, ats⟩, ty, ps, af, gd⟩ :: rest) :=
  ⟨hx_world (σ := ⟨t, bx, tk⟩) hwt (wp_call (σ := ⟨t, bx, tk⟩) hf hnm hbd c hx hargs hw hm hd fun r b' t' hr => (h r b' t' hr).h)⟩
/-- A call of a function by its name. -/
theorem xcallF {d : Nat} {f : FuncId} {fn : Func} {args : Array Operand} {ats : Array TypeId} {ss : List Sd} {bx0 Fb : List Bx} {tk0 Ft : List Tk} {Rr : Sd → List Bx → List Tk → Prop} (c : Con P f ss bx0 tk0 Rr)
    (hf : P.funcs[f]? = some fn) (hnm : (fn.name == "runtime.NumGoroutine") = false) (hbd : fn.body.isSome = true) (hargs : EvL t args.toList ss) (hm : SubM bx tk (bx0 ++ Fb) (tk0 ++ Ft)) (hwt : want ops t gd = some true) (hd : Nat.blt d n = true)
    (h : ∀ r bx' tk', Rr r bx' tk' → HL P ops Q g n ⟨(d, r) :: t, bx' ++ Fb, tk' ++ Ft⟩ rest) :
    HL P ops Q g n ⟨t, bx, tk⟩ (⟨some d, .call ⟨.value (.func f), args, ats⟩, ty, ps, af, gd⟩ :: rest) := by
  obtain ⟨ss', h1, h2⟩ := hargs.out
  exact xcall c hf hnm hbd (caps := #[]) rfl h1 (by simpa using h2) hm hwt hd h
/-- A call of a function that only reads data. -/
theorem xcallP {d : Nat} {f : FuncId} {fn : Func} {args : Array Operand} {ats : Array TypeId} {ss : List Sd} {Rr : Sd → List Bx → List Tk → Prop} (c : Con P f ss [] [] Rr)
    (hf : P.funcs[f]? = some fn) (hnm : (fn.name == "runtime.NumGoroutine") = false) (hbd : fn.body.isSome = true) (hargs : EvL t args.toList ss) (hwt : want ops t gd = some true) (hd : Nat.blt d n = true)
    (h : ∀ r bx' tk', Rr r bx' tk' → HL P ops Q g n ⟨(d, r) :: t, bx' ++ bx, tk' ++ tk⟩ rest) :
    HL P ops Q g n ⟨t, bx, tk⟩ (⟨some d, .call ⟨.value (.func f), args, ats⟩, ty, ps, af, gd⟩ :: rest) := xcallF c hf hnm hbd hargs (SubM.refl _ _) hwt hd h
/-- .. and makes no memory. -/
theorem xcall0 {d : Nat} {f : FuncId} {fn : Func} {args : Array Operand} {ats : Array TypeId} {ss : List Sd} {s : Sd} (c : Con P f ss [] [] (fun r bx tk => r = s ∧ bx = [] ∧ tk = []))
    (hf : P.funcs[f]? = some fn) (hnm : (fn.name == "runtime.NumGoroutine") = false) (hbd : fn.body.isSome = true) (hargs : EvL t args.toList ss) (hwt : want ops t gd = some true) (hd : Nat.blt d n = true) (h : HL P ops Q g n ⟨(d, s) :: t, bx, tk⟩ rest) :
    HL P ops Q g n ⟨t, bx, tk⟩ (⟨some d, .call ⟨.value (.func f), args, ats⟩, ty, ps, af, gd⟩ :: rest) := xcallP c hf hnm hbd hargs hwt hd (by rintro _ _ _ ⟨rfl, rfl, rfl⟩; exact h)
/-- What a function hands back that makes no memory. -/
abbrev Ret (s : Sd) : Sd → List Bx → List Tk → Prop := fun r bx tk => r = s ∧ bx = [] ∧ tk = []
end
/-- Data of a type, as cells. -/
class En (α : Type) where
  enc : α → List Sd
instance : En UInt8 := ⟨fun x => [.v (.int .u8 (x.toNat : Int))]⟩
instance : En Bool := ⟨fun x => [.v (.bool x)]⟩
instance : En Int := ⟨fun x => [.v (.int .i64 x)]⟩
instance : En ByteArray := ⟨fun x => [.v (.string x)]⟩
def eb (x : UInt8) : List Sd := [.v (.int .u8 (x.toNat : Int))]
theorem map_at {α β : Type} {f : α → β} {l : List α} {i : Nat} {x : α} (h : l[i]? = some x) : (l.map f)[i]? = some (f x) := by rw [List.getElem?_map, h]; rfl
/-- What holds in whatever order holds so in a round too. -/
theorem any_in {P : Program} {ops : Array Oper} {Q : Exit → Act → World → Prop} {rd : Option Nat} (hd : ∀ o ∈ ops, nodef o = true) (ho : ¬ LetsOut Q) : ∀ (fuel : Nat) (listed : Array Bool) (a : Act) (w : World), wpAny P .any ops Q fuel listed a w → wpAnyIn (fen rd) 0 P .any ops Q fuel listed a w := by
  intro fuel
  induction fuel with
  | zero => intro listed a w h; exact h
  | succ fuel ih =>
    rintro listed a w ⟨h1, h2⟩
    refine ⟨h1, fun i hi => ?_⟩
    have h3 := h2 i hi
    unfold wpOp at h3
    unfold wpOpIn
    cases ho' : ops[i]? with
    | none => rw [ho'] at h3; exact ih _ _ _ h3
    | some o =>
      rw [ho'] at h3
      dsimp only at h3 ⊢
      split
      · rename_i hw
        rw [if_pos hw] at h3
        rcases h3 with h3 | ⟨_, h3⟩
        · exact Oper.wpIn_mono (fun a w => ih _ a w) (oper_in (.inl (hd o (Array.mem_of_getElem? ho'))) h3)
        · exact absurd h3 ho
      · rename_i hw
        rw [if_neg hw] at h3
        exact ⟨fun _ _ => trivial, ih _ _ _ h3⟩
/-- What is left of a statement whose order is open. -/
structure HA (P : Program) (ops : Array Oper) (Q : Exit → Act → World → Prop) (g : Gh) (n : Nat) (σ : St) (fuel : Nat) (listed : Array Bool) : Prop where
  h : Hx g n σ (wpAny P .any ops Q fuel listed)
section
variable {P : Program} {ops : Array Oper} {Q : Exit → Act → World → Prop} {g : Gh} {n : Nat} {t : List (Nat × Sd)} {bx : List Bx} {tk : List Tk} {ty : TypeId} {ps : String} {af : Array Edge} {gd : Option (Nat × Bool)} {fuel : Nat} {listed : Array Bool}
theorem xregionD {σ : St} {id m : Nat} {l : List Oper} (hm : P.follows .mixedOrders = true) (hl : l.toArray.size = m) (h : HA P l.toArray (NoPan Q) g n σ m (Array.replicate m false)) (hnd : l.all nodef = true := by rfl) : HC P Q g n σ (.region id l.toArray true) := by
  subst hl
  refine ⟨fun a w ⟨R, hr⟩ => wpIn_mono (wpIn_region_any hm (any_in (fun o ho => List.all_eq_true.1 hnd o (by simpa using ho)) (fun ⟨_, _, h⟩ => h) _ _ _ _ (h.h a w.drew ⟨R, hr.drewN 1⟩))) fun e a' w' he => ?_⟩
  cases e <;> first | exact he | exact he.elim
theorem xpdone {σ : St} (hr : Region.ready .any ops listed = []) (h : HE Q g n σ .normal) : HA P ops (NoPan Q) g n σ fuel listed := ⟨fun a w hr' => pdone hr (h.h a w hr')⟩
theorem xpval (i : Nat) {d : Nat} {s : Sd} {op : Op} (ho : ops[i]? = some ⟨some d, op, ty, ps, af, gd⟩) (hv : Val P g n ⟨t, bx, tk⟩ ⟨some d, op, ty, ps, af, gd⟩ s) (hw : want ops t gd = some true) (hd : Nat.blt d n = true) (hs : Region.noSelect ops = true) (hf : Region.free .any ops listed i = true) (hr : (Region.ready .any ops listed).contains i = true)
    (hq : ∀ c (a : Act) w v, Q (.panic c) (a.put (some d) v) w → Q (.panic c) a w) (h : HA P ops Q g n ⟨(d, s) :: t, bx, tk⟩ fuel (listed.setIfInBounds i true)) : HA P ops Q g n ⟨t, bx, tk⟩ (fuel + 1) listed := by
  refine ⟨?_⟩
  rintro ⟨tmps, ds⟩ w ⟨R, hr'⟩
  obtain ⟨v, h1, h2⟩ := hv.h R _ w hr'
  exact ptake (v := v) ho rfl hs hf hr (fun c a w => hq c a w v) (hr'.want_ (o := ⟨some d, op, ty, ps, af, gd⟩) hw) h2 (h.h _ _ ⟨R, hr'.put (by simpa [Nat.blt_eq] using hd) h1⟩)
theorem xpvalE (i : Nat) (M : List Nat) {d : Nat} {s : Sd} {op : Op} (ho : ops[i]? = some ⟨some d, op, ty, ps, af, gd⟩) (hv : ValE P g n ⟨t, bx, tk⟩ ⟨some d, op, ty, ps, af, gd⟩ s) (hw : want ops t gd = some true) (hd : Nat.blt d n = true) (hs : Region.noSelect ops = true) (hf : safeB .any ops listed i M = true) (hr : (Region.ready .any ops listed).contains i = true)
    (hq : ∀ c (a : Act) w v, Q (.panic c) (a.put (some d) v) w → Q (.panic c) a w) (h : HA P ops Q g n ⟨(d, s) :: t, bx, tk⟩ fuel (listed.setIfInBounds i true)) : HA P ops Q g n ⟨t, bx, tk⟩ (fuel + 1) listed := by
  refine ⟨?_⟩
  rintro ⟨tmps, ds⟩ w ⟨R, hr'⟩
  obtain ⟨v, h1, h2⟩ := hv.h R _ w hr'
  exact ctake (v := v) M ho rfl hs hf hr (fun c a w => hq c a w v) (hr'.want_ (o := ⟨some d, op, ty, ps, af, gd⟩) hw) h2 (h.h _ _ ⟨R, hr'.put (by simpa [Nat.blt_eq] using hd) h1⟩)
theorem xpskip (i : Nat) {d : Nat} {op : Op} (ho : ops[i]? = some ⟨some d, op, ty, ps, af, gd⟩) (hw : want ops t gd = some false) (hd : Nat.blt d n = true) (hs : Region.noSelect ops = true) (hf : Region.free .any ops listed i = true) (hr : (Region.ready .any ops listed).contains i = true)
    (hq : ∀ c (a : Act) w v, Q (.panic c) (a.put (some d) v) w → Q (.panic c) a w) (h : HA P ops Q g n ⟨(d, .v undef) :: t, bx, tk⟩ fuel (listed.setIfInBounds i true)) : HA P ops Q g n ⟨t, bx, tk⟩ (fuel + 1) listed := by
  refine ⟨?_⟩
  rintro ⟨tmps, ds⟩ w ⟨R, hr'⟩
  exact pskip ho rfl hs hf hr (fun c a w => hq c a w undef) (hr'.want_ (o := ⟨some d, op, ty, ps, af, gd⟩) hw) (h.h _ _ ⟨R, hr'.put (by simpa [Nat.blt_eq] using hd) rfl⟩)
/-- An operation on the world, in its turn. -/
structure HW (P : Program) (ops : Array Oper) (Q : Exit → Act → World → Prop) (g : Gh) (n : Nat) (σ : St) (fuel : Nat) (listed : Array Bool) (o : Oper) : Prop where
  h : ∀ K : Act → World → Prop, (∀ a w, wpAny P .any ops Q fuel listed a w → K a w) → Hx g n σ (fun a w => if Region.wanted o (yielded ops a.tmps) = true then Oper.wp P o a w K Q else K (a.put o.dst undef) w)
theorem xpstep {σ : St} {i : Nat} {o : Oper} (hr : Region.ready .any ops listed = [i]) (ho : ops[i]? = some o) (h : HW P ops Q g n σ fuel (listed.setIfInBounds i true) o) : HA P ops Q g n σ (fuel + 1) listed :=
  ⟨fun a w hr' => pstep hr ho fun K hK => h.h K hK.out a w hr'⟩
theorem xpstepN {σ : St} {is : List Nat} (hr : Region.ready .any ops listed = is) (hne : is ≠ []) (h : ∀ i ∈ is, ∃ o, ops[i]? = some o ∧ HW P ops Q g n σ fuel (listed.setIfInBounds i true) o) : HA P ops Q g n σ (fuel + 1) listed :=
  ⟨fun a w hr' => pstepN hr hne fun i hi => by
    obtain ⟨o, h1, h2⟩ := h i hi
    exact ⟨o, h1, fun K hK => h2.h K hK.out a w hr'⟩⟩
theorem hw_ {o : Oper} (hw : want ops t o.guard = some true) (h : ∀ K : Act → World → Prop, (∀ a w, wpAny P .any ops Q fuel listed a w → K a w) → Hx g n ⟨t, bx, tk⟩ (fun a w => o.wp P a w K Q)) : HW P ops Q g n ⟨t, bx, tk⟩ fuel listed o :=
  ⟨fun K hK a w hr' => by
    obtain ⟨R, hr⟩ := id hr'
    rw [if_pos (hr.want_ (ops := ops) hw)]
    exact h K hK a w hr'⟩
theorem HA.k {σ : St} (h : HA P ops Q g n σ fuel listed) {K : Act → World → Prop} (hK : ∀ a w, wpAny P .any ops Q fuel listed a w → K a w) : Hx g n σ K := h.h.mono hK
theorem wval {d : Nat} {s : Sd} {op : Op} (hv : ValE P g n ⟨t, bx, tk⟩ ⟨some d, op, ty, ps, af, gd⟩ s) (hw : want ops t gd = some true) (hd : Nat.blt d n = true) (h : HA P ops Q g n ⟨(d, s) :: t, bx, tk⟩ fuel listed) : HW P ops Q g n ⟨t, bx, tk⟩ fuel listed ⟨some d, op, ty, ps, af, gd⟩ :=
  hw_ hw fun K hK => by
    rintro a w ⟨R, hr⟩
    obtain ⟨v, h1, h2⟩ := hv.h R a w hr
    unfold Oper.wp
    rw [h2 w (.refl _)]
    exact h.k hK _ _ ⟨R, hr.put (by simpa [Nat.blt_eq] using hd) h1⟩
theorem wvalP {d : Nat} {s : Sd} {op : Op} (hv : Val P g n ⟨t, bx, tk⟩ ⟨some d, op, ty, ps, af, gd⟩ s) (hw : want ops t gd = some true) (hd : Nat.blt d n = true) (h : HA P ops Q g n ⟨(d, s) :: t, bx, tk⟩ fuel listed) : HW P ops Q g n ⟨t, bx, tk⟩ fuel listed ⟨some d, op, ty, ps, af, gd⟩ := wval hv.e hw hd h
theorem walloc {d : Nat} {E : TypeId} {size bytes : Nat} {zero : List Value} (hi : Inf P E size bytes zero) (hw : want ops t gd = some true) (hd : Nat.blt d n = true)
    (h : ∀ b, HA P ops Q g n ⟨(d, .v (.pointer (some ⟨b, 0, none⟩))) :: t, ⟨b, E, zero.map .v⟩ :: bx, tk⟩ fuel listed) : HW P ops Q g n ⟨t, bx, tk⟩ fuel listed ⟨some d, .alloc E, ty, ps, af, gd⟩ :=
  hw_ hw fun _ hK => wp_alloc (σ := ⟨t, bx, tk⟩) hi hd fun b => (h b).k hK
theorem wstore {T E : TypeId} {x y : Operand} (i : Nat) {b o : Nat} {s : Sd} {cs : List Sd} {ag : Bool} {k : Nat} (hs : Shp P T ag k) (hx : ev t x = some (.v (.pointer (some ⟨b, o, none⟩)))) (hb : bx[i]? = some ⟨b, E, cs⟩) (hy : ev t y = some s) (h1 : oneS s = true) (hk : Nat.beq (cellsS s).length k = true)
    (hlen : Nat.ble (o + k) cs.length = true) (hw : want ops t gd = some true) (h : HA P ops Q g n ⟨t, bx.set i ⟨b, E, putC o (cellsS s) cs⟩, tk⟩ fuel listed) : HW P ops Q g n ⟨t, bx, tk⟩ fuel listed ⟨none, .store T x y, ty, ps, af, gd⟩ :=
  hw_ hw fun _ hK => wp_store (σ := ⟨t, bx, tk⟩) hs hx hy h1 (Nat.eq_of_beq_eq_true hk) hb (Nat.le_of_ble_eq_true hlen) (h.k hK)
theorem wcallF {d : Nat} {f : FuncId} {fn : Func} {args : Array Operand} {ats : Array TypeId} {ss : List Sd} {bx0 Fb : List Bx} {tk0 Ft : List Tk} {Rr : Sd → List Bx → List Tk → Prop} (c : Con P f ss bx0 tk0 Rr)
    (hf : P.funcs[f]? = some fn) (hnm : (fn.name == "runtime.NumGoroutine") = false) (hbd : fn.body.isSome = true) (hargs : EvL t args.toList ss) (hm : SubM bx tk (bx0 ++ Fb) (tk0 ++ Ft)) (hwt : want ops t gd = some true) (hd : Nat.blt d n = true)
    (h : ∀ r bx' tk', Rr r bx' tk' → HA P ops Q g n ⟨(d, r) :: t, bx' ++ Fb, tk' ++ Ft⟩ fuel listed) : HW P ops Q g n ⟨t, bx, tk⟩ fuel listed ⟨some d, .call ⟨.value (.func f), args, ats⟩, ty, ps, af, gd⟩ := by
  obtain ⟨ss', h1, h2⟩ := hargs.out
  exact hw_ hwt fun _ hK => wp_call (σ := ⟨t, bx, tk⟩) hf hnm hbd c (caps := #[]) rfl h1 (by simpa using h2) hm hd fun r b' t' hr => (h r b' t' hr).k hK
theorem wcall0 {d : Nat} {f : FuncId} {fn : Func} {args : Array Operand} {ats : Array TypeId} {ss : List Sd} {s : Sd} (c : Con P f ss [] [] (fun r bx tk => r = s ∧ bx = [] ∧ tk = []))
    (hf : P.funcs[f]? = some fn) (hnm : (fn.name == "runtime.NumGoroutine") = false) (hbd : fn.body.isSome = true) (hargs : EvL t args.toList ss) (hwt : want ops t gd = some true) (hd : Nat.blt d n = true) (h : HA P ops Q g n ⟨(d, s) :: t, bx, tk⟩ fuel listed) :
    HW P ops Q g n ⟨t, bx, tk⟩ fuel listed ⟨some d, .call ⟨.value (.func f), args, ats⟩, ty, ps, af, gd⟩ := wcallF c hf hnm hbd hargs (SubM.refl _ _) hwt hd (by rintro _ _ _ ⟨rfl, rfl, rfl⟩; exact h)
theorem xbuildSlice {rest : List Oper} {d : Nat} {T E : TypeId} {k bytes len : Nat} {zero : List Value} (hu : P.underlying T = some (.slice E)) (hi : Inf P E k bytes zero) (hk0 : Nat.blt 0 k = true) {parts : Array (Nat × Operand)} {ss : List Sd}
    (he : EvP t k 0 parts.toList ss) (hl : Nat.beq ss.length len = true) (hm : Nat.ble (len * k) 16777216 = true) (hw : want ops t gd = some true) (hd : Nat.blt d n = true) (h : ∀ b, HL P ops Q g n ⟨(d, .sl k (some (some (b, len))) (ss.map cellsS)) :: t, bx, ⟨some (b, len), E, k, len⟩ :: tk⟩ rest) :
    HL P ops Q g n ⟨t, bx, tk⟩ (⟨some d, .buildSlice T len parts, ty, ps, af, gd⟩ :: rest) := ⟨hx_world (σ := ⟨t, bx, tk⟩) hw (wp_buildSlice (σ := ⟨t, bx, tk⟩) hu hi hk0 he hl hm hd fun b => (h b).h)⟩
theorem wbuildSlice {d : Nat} {T E : TypeId} {k bytes len : Nat} {zero : List Value} (hu : P.underlying T = some (.slice E)) (hi : Inf P E k bytes zero) (hk0 : Nat.blt 0 k = true) {parts : Array (Nat × Operand)} {ss : List Sd}
    (he : EvP t k 0 parts.toList ss) (hl : Nat.beq ss.length len = true) (hm : Nat.ble (len * k) 16777216 = true) (hw : want ops t gd = some true) (hd : Nat.blt d n = true) (h : ∀ b, HA P ops Q g n ⟨(d, .sl k (some (some (b, len))) (ss.map cellsS)) :: t, bx, ⟨some (b, len), E, k, len⟩ :: tk⟩ fuel listed) :
    HW P ops Q g n ⟨t, bx, tk⟩ fuel listed ⟨some d, .buildSlice T len parts, ty, ps, af, gd⟩ := hw_ hw fun _ hK => wp_buildSlice (σ := ⟨t, bx, tk⟩) hu hi hk0 he hl hm hd fun b => (h b).k hK
theorem xmark {rest : List Oper} {d : Nat} {T E E' : TypeId} {x : Operand} (i : Nat) {b c k m : Nat} {rows : List (List Sd)} (hT : P.underlying T = some (.slice E)) (hE : P.underlying E = some (.int .u8)) (hx : ev t x = some (.sl k (some (some (b, c))) rows)) (htk : tk[i]? = some ⟨some (b, c), E', k, m⟩)
    (hw : want ops t gd = some true) (hd : Nat.blt d n = true) (h : HL P ops Q g n ⟨(d, .sl k none rows) :: t, bx, tk.eraseIdx i⟩ rest) : HL P ops Q g n ⟨t, bx, tk⟩ (⟨some d, .convert T T x, ty, ps, af, gd⟩ :: rest) :=
  ⟨hx_world (σ := ⟨t, bx, tk⟩) hw (wp_mark (σ := ⟨t, bx, tk⟩) hT hE hx htk hd h.h)⟩
/-- A call through a function value. -/
theorem xcallV {rest : List Oper} {d : Nat} {f : FuncId} {fn : Func} {x : Operand} {args : Array Operand} {ats : Array TypeId} {caps : Array Value} {ss : List Sd} {bx0 Fb : List Bx} {tk0 Ft : List Tk} {Rr : Sd → List Bx → List Tk → Prop} (c : Con P f ss bx0 tk0 Rr)
    (hf : P.funcs[f]? = some fn) (hnm : (fn.name == "runtime.NumGoroutine") = false) (hbd : fn.body.isSome = true) (hx : ev t x = some (.v (.func (.func f) #[] caps))) {sa : List Sd} (hargs : EvL t args.toList sa) (hss : sa ++ caps.toList.map .v = ss) (hm : SubM bx tk (bx0 ++ Fb) (tk0 ++ Ft)) (hwt : want ops t gd = some true) (hd : Nat.blt d n = true)
    (h : ∀ r bx' tk', Rr r bx' tk' → HL P ops Q g n ⟨(d, r) :: t, bx' ++ Fb, tk' ++ Ft⟩ rest) :
    HL P ops Q g n ⟨t, bx, tk⟩ (⟨some d, .call ⟨.value x, args, ats⟩, ty, ps, af, gd⟩ :: rest) := by
  obtain ⟨ss', h1, h2⟩ := hargs.out
  subst hss
  have app : ∀ {a b c : List Sd}, WkL a b → WkL (a ++ c) (b ++ c) := by
    intro a b c hab
    induction hab with
    | nil => exact WkL.refl c
    | cons h _ ih => exact .cons h ih
  exact xcall c hf hnm hbd hx h1 (app h2) hm hwt hd h
end
/-- A struct literal's parts, reckoned. -/
def evB (t : List (Nat × Sd)) : List (Nat × Operand) → Option (List (Nat × Sd))
  | [] => some []
  | (i, x) :: r => match ev t x with
    | none => none
    | some s => match evB t r with
      | none => none
      | some q => some ((i, s) :: q)
theorem evB_out {t : List (Nat × Sd)} : ∀ {xs : List (Nat × Operand)} {qs : List (Nat × Sd)}, evB t xs = some qs → EvB t xs qs
  | [], qs, h => by injection h with h; subst h; exact .nil
  | (i, x) :: r, qs, h => by
    simp only [evB] at h
    cases hx : ev t x with
    | none => rw [hx] at h; cases h
    | some s =>
      rw [hx] at h
      cases hr : evB t r with
      | none => rw [hr] at h; cases h
      | some q => rw [hr] at h; injection h with h; subst h; exact .cons hx (evB_out hr)
def evV (t : List (Nat × Sd)) : List Operand → Option (List Value)
  | [] => some []
  | x :: r => match ev t x with
    | some (.v u) => match evV t r with
      | none => none
      | some q => some (u :: q)
    | _ => none
theorem evV_out {t : List (Nat × Sd)} : ∀ {xs : List Operand} {us : List Value}, evV t xs = some us → EvV t xs us
  | [], qs, h => by injection h with h; subst h; exact .nil
  | x :: r, us, h => by
    simp only [evV] at h
    split at h
    · rename_i u hx
      cases hr : evV t r with
      | none => rw [hr] at h; cases h
      | some q => rw [hr] at h; injection h with h; subst h; exact .cons hx (evV_out hr)
    · cases h
section
variable {P : Program} {g : Gh} {n : Nat} {σ : St} {d : Option Nat} {ty : TypeId} {ps : String} {af : Array Edge} {gd : Option (Nat × Bool)}
theorem pv_buildC {t : TypeId} {parts : Array (Nat × Operand)} {pl : List (Nat × Nat)} {zero : List Value} {qs : List (Nat × Sd)} {cs : List Sd} (hs : StrF P t pl zero)
    (hq : evB σ.t parts.toList = some qs) (hf : fillS (fun i => pl[i]?) (zero.map .v) qs = some cs) : Val P g n σ ⟨d, .build t parts, ty, ps, af, gd⟩ (.agg cs) := pv_buildB hs (evB_out hq) hf
theorem pv_makeFuncC {f : FuncId} {caps : Array Operand} {us : List Value} (hc : evV σ.t caps.toList = some us) : Val P g n σ ⟨d, .makeFunc (.func f) #[] caps, ty, ps, af, gd⟩ (.v (.func (.func f) #[] us.toArray)) := pv_makeFuncV (evV_out hc)
end
def evP (t : List (Nat × Sd)) (k : Nat) : Nat → List (Nat × Operand) → Option (List Sd)
  | _, [] => some []
  | i, (j, x) :: r => match ev t x with
    | none => none
    | some s => match Nat.beq (cellsS s).length k && oneS s && Nat.beq j i with
      | false => none
      | true => match evP t k (i + 1) r with
        | none => none
        | some q => some (s :: q)
theorem evP_out {t : List (Nat × Sd)} {k : Nat} : ∀ {i : Nat} {xs : List (Nat × Operand)} {ss : List Sd}, evP t k i xs = some ss → EvP t k i xs ss
  | _, [], ss, h => by injection h with h; subst h; exact .nil
  | i, (j, x) :: r, ss, h => by
    simp only [evP] at h
    cases hx : ev t x with
    | none => rw [hx] at h; cases h
    | some s =>
      rw [hx] at h
      dsimp only at h
      split at h
      · cases h
      · rename_i hc
        simp only [Bool.and_eq_true] at hc
        cases hr : evP t k (i + 1) r with
        | none => rw [hr] at h; cases h
        | some q => rw [hr] at h; injection h with h; subst h; exact .cons hx hc.1.1 hc.1.2 hc.2 (evP_out hr)
section
variable {P : Program} {ops : Array Oper} {Q : Exit → Act → World → Prop} {g : Gh} {n : Nat} {t : List (Nat × Sd)} {bx : List Bx} {tk : List Tk} {ty : TypeId} {ps : String} {af : Array Edge} {gd : Option (Nat × Bool)} {fuel : Nat} {listed : Array Bool}
theorem xbuildSliceC {rest : List Oper} {d : Nat} {T E : TypeId} {k bytes len : Nat} {zero : List Value} (hu : P.underlying T = some (.slice E)) (hi : Inf P E k bytes zero) (hk0 : Nat.blt 0 k = true) {parts : Array (Nat × Operand)} {ss : List Sd}
    (he : evP t k 0 parts.toList = some ss) (hl : Nat.beq ss.length len = true) (hm : Nat.ble (len * k) 16777216 = true) (hw : want ops t gd = some true) (hd : Nat.blt d n = true) (h : ∀ b, HL P ops Q g n ⟨(d, .sl k (some (some (b, len))) (ss.map cellsS)) :: t, bx, ⟨some (b, len), E, k, len⟩ :: tk⟩ rest) :
    HL P ops Q g n ⟨t, bx, tk⟩ (⟨some d, .buildSlice T len parts, ty, ps, af, gd⟩ :: rest) := xbuildSlice hu hi hk0 (evP_out he) hl hm hw hd h
theorem wbuildSliceC {d : Nat} {T E : TypeId} {k bytes len : Nat} {zero : List Value} (hu : P.underlying T = some (.slice E)) (hi : Inf P E k bytes zero) (hk0 : Nat.blt 0 k = true) {parts : Array (Nat × Operand)} {ss : List Sd}
    (he : evP t k 0 parts.toList = some ss) (hl : Nat.beq ss.length len = true) (hm : Nat.ble (len * k) 16777216 = true) (hw : want ops t gd = some true) (hd : Nat.blt d n = true) (h : ∀ b, HA P ops Q g n ⟨(d, .sl k (some (some (b, len))) (ss.map cellsS)) :: t, bx, ⟨some (b, len), E, k, len⟩ :: tk⟩ fuel listed) :
    HW P ops Q g n ⟨t, bx, tk⟩ fuel listed ⟨some d, .buildSlice T len parts, ty, ps, af, gd⟩ := wbuildSlice hu hi hk0 (evP_out he) hl hm hw hd h
end
/-- Variables, fewer or described more weakly. -/
inductive SubB : List Bx → List Bx → Prop where
  | nil (l : List Bx) : SubB l []
  | keep {x x' : Bx} {l l' : List Bx} (hb : x.b = x'.b) (hE : x.E = x'.E) (hc : WkL x.cs x'.cs) (r : SubB l l') : SubB (x :: l) (x' :: l')
  | drop {x : Bx} {l l' : List Bx} (r : SubB l l') : SubB (x :: l) l'
theorem SubB.out {l l' : List Bx} (h : SubB l l') : (∀ x' ∈ l', ∃ x ∈ l, x.b = x'.b ∧ x.E = x'.E ∧ WkL x.cs x'.cs) ∧ (l'.filterMap bxb).Sublist (l.filterMap bxb) := by
  induction h with
  | nil l => exact ⟨by simp, List.nil_sublist _⟩
  | keep hb hE hc _ ih =>
    refine ⟨fun x' hx' => ?_, by
      rw [List.filterMap_cons, List.filterMap_cons, bxb_eq hb hc.length]
      split
      · exact ih.2
      · exact ih.2.cons_cons _⟩
    simp at hx'
    rcases hx' with rfl | hx'
    · exact ⟨_, by simp, hb, hE, hc⟩
    · obtain ⟨x, h1, h2⟩ := ih.1 x' hx'
      exact ⟨x, by simp [h1], h2⟩
  | drop _ ih =>
    refine ⟨fun x' hx' => ?_, by
      rw [List.filterMap_cons]
      split
      · exact ih.2
      · exact ih.2.cons _⟩
    obtain ⟨x, h1, h2⟩ := ih.1 x' hx'
    exact ⟨x, by simp [h1], h2⟩
/-- Rows, fewer, and nil ones. -/
inductive SubT : List Tk → List Tk → Prop where
  | nil (l : List Tk) : SubT l []
  | keep {x x' : Tk} {l l' : List Tk} (h : x = x') (r : SubT l l') : SubT (x :: l) (x' :: l')
  | drop {x : Tk} {l l' : List Tk} (r : SubT l l') : SubT (x :: l) l'
  | add {E : TypeId} {k n : Nat} {l l' : List Tk} (r : SubT l l') : SubT l (⟨none, E, k, n⟩ :: l')
theorem SubT.out {l l' : List Tk} (h : SubT l l') : (∀ x' ∈ l', x'.id = none ∨ x' ∈ l) ∧ (l'.filterMap tkb).Sublist (l.filterMap tkb) := by
  induction h with
  | nil l => exact ⟨by simp, List.nil_sublist _⟩
  | keep h _ ih =>
    subst h
    refine ⟨fun x' hx' => ?_, ?_⟩
    · simp at hx'
      rcases hx' with rfl | hx'
      · exact .inr (by simp)
      · exact (ih.1 x' hx').imp id fun h => by simp [h]
    · rw [List.filterMap_cons, List.filterMap_cons]
      split
      · exact ih.2
      · exact ih.2.cons_cons _
  | drop _ ih =>
    refine ⟨fun x' hx' => (ih.1 x' hx').imp id fun h => by simp [h], ?_⟩
    rw [List.filterMap_cons]
    split
    · exact ih.2
    · exact ih.2.cons _
  | add _ ih =>
    refine ⟨fun x' hx' => ?_, ?_⟩
    · simp at hx'
      rcases hx' with rfl | hx'
      · exact .inl rfl
      · exact ih.1 x' hx'
    · rw [List.filterMap_cons]; exact ih.2
theorem SubM.of {bx bx' : List Bx} {tk tk' : List Tk} (h1 : SubB bx bx') (h2 : SubT tk tk') : SubM bx tk bx' tk' := {
  mem R w h := ⟨h.lt, fun x' hx' hne0 => by
    obtain ⟨x, q1, q2, q3, q4⟩ := h1.out.1 x' hx'
    obtain ⟨⟨us, k1, k2, k3⟩, k4⟩ := h.box x q1 (fun e => hne0 (List.eq_nil_of_length_eq_zero (by rw [← q4.length, e]; rfl)))
    rw [q2, q3] at k1
    rw [q2] at k4
    exact ⟨⟨us, k1, q4.rep k2, k3⟩, k4⟩, fun t ht b c e => (h2.out.1 t ht).elim (fun hn => by rw [hn] at e; cases e) fun hm => h.own t hm b c e, h.nod.sublist (h1.out.2.append h2.out.2)⟩
  dm _ hb := (h1.out.2.append h2.out.2).subset hb }
theorem row_split {k i : Nat} {pre post : List Sd} {rows : List (List Sd)} {r : List Sd} (hk : ∀ r ∈ rows, r.length = k) (h : rows[i]? = some r) :
    ∃ X Y, pre ++ (rows.flatten ++ post) = X ++ (r ++ Y) ∧ X.length = pre.length + i * k ∧ ∀ r', pre ++ ((rows.set i r').flatten ++ post) = X ++ (r' ++ Y) := by
  have hlt := (List.getElem?_eq_some_iff.1 h).1
  have he := (List.getElem?_eq_some_iff.1 h).2
  refine ⟨pre ++ (rows.take i).flatten, (rows.drop (i + 1)).flatten ++ post, ?_, ?_, fun r' => ?_⟩
  · conv => lhs; rw [← List.take_append_drop i rows, List.drop_eq_getElem_cons hlt, he]
    simp
  · rw [List.length_append, flat_len fun r hr => hk r (List.mem_of_mem_take hr), List.length_take, Nat.min_eq_left (by omega)]
  · rw [List.set_eq_take_append_cons_drop, if_pos hlt]
    simp
/-- A part of an element. -/
theorem part_row {ag : Bool} {kk k i off o : Nat} {pre post : List Sd} {rows : List (List Sd)} {r : List Sd} {s : Sd} (hk : ∀ r ∈ rows, r.length = k) (h : rows[i]? = some r) (ho : o = pre.length + i * k + off) (hl : off + kk ≤ k) (hs : partS ag kk off r = some s) :
    partS ag kk o (pre ++ (rows.flatten ++ post)) = some s ∧ o + kk ≤ (pre ++ (rows.flatten ++ post)).length := by
  obtain ⟨X, Y, h1, h2, _⟩ := row_split (pre := pre) (post := post) hk h
  have hr := hk r (List.mem_of_getElem? h)
  rw [h1]
  subst ho
  rw [← h2]
  refine ⟨?_, by simp; omega⟩
  cases ag with
  | true =>
    injection hs with hs
    subst hs
    unfold partS
    simp only []
    rw [← List.drop_drop, List.drop_left, List.drop_append_of_le_length (by omega), List.take_append_of_le_length (by simp; omega)]
  | false =>
    unfold partS at hs ⊢
    simp only [] at hs ⊢
    rw [List.getElem?_append_right (by omega), Nat.add_sub_cancel_left, List.getElem?_append_left (List.getElem?_eq_some_iff.1 hs).1]
    exact hs
theorem put_row {k i off o : Nat} {pre post ss : List Sd} {rows : List (List Sd)} {r : List Sd} (hk : ∀ r ∈ rows, r.length = k) (h : rows[i]? = some r) (ho : o = pre.length + i * k + off) (hl : off + ss.length ≤ k) :
    putC o ss (pre ++ (rows.flatten ++ post)) = pre ++ ((rows.set i (putC off ss r)).flatten ++ post) ∧ o + ss.length ≤ (pre ++ (rows.flatten ++ post)).length := by
  obtain ⟨X, Y, h1, h2, h3⟩ := row_split (pre := pre) (post := post) hk h
  have hr := hk r (List.mem_of_getElem? h)
  rw [h3, h1]
  subst ho
  rw [← h2]
  refine ⟨?_, by simp; omega⟩
  unfold putC
  rw [List.take_length_add_append, Nat.add_assoc, ← List.drop_drop, List.drop_left, List.take_append_of_le_length (by omega), List.drop_append_of_le_length (by omega)]
  simp
section
variable {P : Program} {Q : Exit → Act → World → Prop} {ops : Array Oper} {g : Gh} {n : Nat} {σ : St} {t : List (Nat × Sd)} {bx : List Bx} {tk : List Tk} {rest : List Oper} {ty : TypeId} {ps : String} {af : Array Edge} {gd : Option (Nat × Bool)} {fuel : Nat} {listed : Array Bool}
theorem qv_loadR {d : Option Nat} {x : Operand} {T E : TypeId} {ag : Bool} {kk k b o i off : Nat} {pre post : List Sd} {rows : List (List Sd)} {r : List Sd} {s : Sd} (j : Nat) (h : Shp P T ag kk) (hx : ev σ.t x = some (.v (.pointer (some ⟨b, o, none⟩)))) (hb : σ.bx[j]? = some ⟨b, E, pre ++ (rows.flatten ++ post)⟩)
    (hk : ∀ r ∈ rows, r.length = k) (hi : rows[i]? = some r) (hs : partS ag kk off r = some s) (ho : o = pre.length + i * k + off) (hl : off + kk ≤ k) : ValE P g n σ ⟨d, .load T x, ty, ps, af, gd⟩ s :=
  pv_loadB h hx (List.mem_of_getElem? hb) (part_row hk hi ho hl hs).1 (part_row hk hi ho hl hs).2
theorem xstoreR {T E : TypeId} {x y : Operand} (j : Nat) {b o i k off kk : Nat} {s : Sd} {pre post : List Sd} {rows : List (List Sd)} {r : List Sd} {ag : Bool} (hs : Shp P T ag kk) (hx : ev t x = some (.v (.pointer (some ⟨b, o, none⟩)))) (hb : bx[j]? = some ⟨b, E, pre ++ (rows.flatten ++ post)⟩) (hy : ev t y = some s) (h1 : oneS s = true) (hc : Nat.beq (cellsS s).length kk = true)
    (hk : ∀ r ∈ rows, r.length = k) (hi : rows[i]? = some r) (ho : o = pre.length + i * k + off) (hl : off + kk ≤ k) (hw : want ops t gd = some true) (h : HL P ops Q g n ⟨t, bx.set j ⟨b, E, pre ++ ((rows.set i (putC off (cellsS s) r)).flatten ++ post)⟩, tk⟩ rest) : HL P ops Q g n ⟨t, bx, tk⟩ (⟨none, .store T x y, ty, ps, af, gd⟩ :: rest) := by
  have hc' := Nat.eq_of_beq_eq_true hc
  obtain ⟨p1, p2⟩ := put_row (post := post) (ss := cellsS s) hk hi ho (by omega)
  exact ⟨hx_world (σ := ⟨t, bx, tk⟩) hw (wp_store (σ := ⟨t, bx, tk⟩) hs hx hy h1 hc' hb (by omega) (by rw [p1]; exact h.h))⟩
theorem wstoreR {T E : TypeId} {x y : Operand} (j : Nat) {b o i k off kk : Nat} {s : Sd} {pre post : List Sd} {rows : List (List Sd)} {r : List Sd} {ag : Bool} (hs : Shp P T ag kk) (hx : ev t x = some (.v (.pointer (some ⟨b, o, none⟩)))) (hb : bx[j]? = some ⟨b, E, pre ++ (rows.flatten ++ post)⟩) (hy : ev t y = some s) (h1 : oneS s = true) (hc : Nat.beq (cellsS s).length kk = true)
    (hk : ∀ r ∈ rows, r.length = k) (hi : rows[i]? = some r) (ho : o = pre.length + i * k + off) (hl : off + kk ≤ k) (hw : want ops t gd = some true) (h : HA P ops Q g n ⟨t, bx.set j ⟨b, E, pre ++ ((rows.set i (putC off (cellsS s) r)).flatten ++ post)⟩, tk⟩ fuel listed) : HW P ops Q g n ⟨t, bx, tk⟩ fuel listed ⟨none, .store T x y, ty, ps, af, gd⟩ := by
  have hc' := Nat.eq_of_beq_eq_true hc
  obtain ⟨p1, p2⟩ := put_row (post := post) (ss := cellsS s) hk hi ho (by omega)
  exact hw_ hw fun _ hK => wp_store (σ := ⟨t, bx, tk⟩) hs hx hy h1 hc' hb (by omega) (by rw [p1]; exact h.k hK)
end
theorem WkL.app {a b c d : List Sd} (h : WkL a b) (k : WkL c d) : WkL (a ++ c) (b ++ d) := by
  induction h with
  | nil => exact k
  | cons h _ ih => exact .cons h ih
/-- An element said more weakly. -/
theorem WkL.rows {r1 r2 post : List Sd} (h : WkL r1 r2) : ∀ (rows : List (List Sd)) (i : Nat), WkL ((rows.set i r1).flatten ++ post) ((rows.set i r2).flatten ++ post)
  | [], _ => .refl _
  | r :: rs, 0 => by
    rw [List.set_cons_zero, List.set_cons_zero, List.flatten_cons, List.flatten_cons, List.append_assoc, List.append_assoc]
    exact h.app (.refl _)
  | r :: rs, i + 1 => by
    rw [List.set_cons_succ, List.set_cons_succ, List.flatten_cons, List.flatten_cons, List.append_assoc, List.append_assoc]
    exact (WkL.refl _).app (WkL.rows h rs i)
theorem SubB.refl : ∀ l : List Bx, SubB l l
  | [] => .nil _
  | _ :: l => .keep rfl rfl (.refl _) (SubB.refl l)
/-- Where ways meet. -/
def Meet (Mid : St → Prop) (g : Gh) (n : Nat) (a : Act) (w : World) : Prop := ∃ σ', Mid σ' ∧ Rel g n σ' a w
section
variable {P : Program} {Q : Exit → Act → World → Prop} {g : Gh} {n : Nat} {σ : St}
theorem xseqM {x y : Code} (Mid : St → Prop) (h1 : HC P (Exit.then (Meet Mid g n) Q) g n σ x) (h2 : ∀ σ', Mid σ' → HC P Q g n σ' y) : HC P Q g n σ (.seq x y) :=
  xseq ⟨fun a w hr => Code.wpIn_mono (fun e a' w' he => by
    cases e with
    | normal => obtain ⟨σ', hm, hr'⟩ := he; exact (h2 σ' hm).h a' w' hr'
    | _ => exact he) (h1.h a w hr)⟩
theorem xmeet {Mid : St → Prop} {σ' : St} (hm : Mid σ') (hi : Imp σ σ') : HE (Exit.then (Meet Mid g n) Q) g n σ .normal := ⟨fun _ _ ⟨_, hr⟩ => ⟨σ', hm, _, hr.imp hi⟩⟩
end
end Go.Proofs.Ytncnfohhjbadgaa
