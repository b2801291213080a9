/- The library's functions without a body: the first place of a byte. -/
import Derived.Test.YtpddiffpanihdaaEq
import Derived.Lib.BytesEntry
namespace Go.Proofs.Ytpddiffpanihdaa
/-- The first place of a byte; -1. -/
def idxB (l : List UInt8) (c : UInt8) : Int := Lib.indexByte l c
section
variable {P : Program} {ops : Array Oper} {Q : Exit → Act → World → Prop} {g : Gh} {n : Nat} {σ : St} {t : List (Nat × Sd)} {bx : List Bx} {tk : List Tk} {rest : List Oper} {d : Option Nat} {ty : TypeId} {ps : String} {af : Array Edge} {gd : Option (Nat × Bool)}
theorem run_ext {f : FuncId} {fn : Func} {e : Array Value → Sem Value} (hf : P.funcs[f]? = some fn) (hname : (fn.name == "runtime.NumGoroutine") = false) (hb : fn.body.isNone = true) (hn : Extern.findNext fn = none) (he : Extern.find fn = some e)
    {x y : Operand} {ats : Array TypeId} {a : Act} {W : World} {v : Value} (h : (e #[a.eval x, a.eval y]).run P W = .ok v W) : (execOp a.eval ⟨d, .call ⟨.value (.func f), #[x, y], ats⟩, ty, ps, af, gd⟩).run P W = .ok (.value v) W := by
  unfold execOp
  have e1 : a.eval (.func f) = .func (.func f) #[] #[] := rfl
  simp only [resolve, e1, Deferred.ofValue, invoke, Sem.run_bind, Sem.run_pure, Result.andThen_ok]
  have hrun := run_callFunc_extern hf hname hb hn he #[a.eval x, a.eval y] W
  rw [h, Result.andThen_ok] at hrun
  simpa using hrun
theorem toNat_u8 (c : UInt8) : (c.toNat : Int).toNat.toUInt8 = c := by
  rw [Int.toNat_natCast]
  exact UInt8.ofNat_toNat
theorem pv_idxS {f : FuncId} {fn : Func} {x y : Operand} {ats : Array TypeId} {s : ByteArray} {c : UInt8} (hf : P.funcs[f]? = some fn) (hname : (fn.name == "runtime.NumGoroutine") = false) (hb : fn.body.isNone = true) (hn : Extern.findNext fn = none) (he : Extern.find fn = some Extern.BytealgIndexByte.indexByte)
    (hx : ev σ.t x = some (.v (.string s))) (hy : ev σ.t y = some (.v (.int .u8 (c.toNat : Int)))) : Val P g n σ ⟨d, .call ⟨.value (.func f), #[x, y], ats⟩, ty, ps, af, gd⟩ (.v (.int .i64 (idxB s.data.toList c))) := by
  refine ⟨fun R a w hr => ⟨_, rfl, fun W => run_ext hf hname hb hn he ?_⟩⟩
  have h1 : a.eval x = _ := hr.ev hx
  have h2 : a.eval y = _ := hr.ev hy
  rw [h1, h2, Lib.run_indexByteString, toNat_u8]; rfl
theorem pv_idxB {f : FuncId} {fn : Func} {x y : Operand} {ats : Array TypeId} {l : List UInt8} {c : UInt8} {tok : Option (Option (Nat × Nat))} (hf : P.funcs[f]? = some fn) (hname : (fn.name == "runtime.NumGoroutine") = false) (hb : fn.body.isNone = true) (hn : Extern.findNext fn = none) (he : Extern.find fn = some Extern.BytealgIndexByte.indexByte)
    (hx : ev σ.t x = some (.sl 1 tok (l.map eb))) (hy : ev σ.t y = some (.v (.int .u8 (c.toNat : Int)))) : ValE P g n σ ⟨d, .call ⟨.value (.func f), #[x, y], ats⟩, ty, ps, af, gd⟩ (.v (.int .i64 (idxB l c))) := by
  refine ⟨fun R a w hr => ⟨_, rfl, fun W hW => run_ext hf hname hb hn he ?_⟩⟩
  obtain ⟨A, cp, h1, _, _, _, h4⟩ := hr.ev hx
  have h2 : a.eval y = _ := hr.ev hy
  rw [h1, h2, List.length_map]
  have hs := Lib.run_indexByteString (P := P) ⟨l.toArray⟩ (c.toNat : Int) W
  rw [toNat_u8] at hs
  have hload : (Extern.Bytes.bytesOf (.slice A l.length cp)).run P W = .ok ⟨l.toArray⟩ W := by
    rcases h4 with h4 | ⟨b, o, rfl, h4⟩
    · have hl0 : l = [] := List.map_eq_nil_iff.1 h4
      subst hl0
      cases A with
      | none => rfl
      | some A => rfl
    · have hl := Lib.run_loadBytesX (P := P) W (l.map fun y => (y.toNat : Int)) ⟨b, o, none⟩ .empty (fun j x hj => by
        rw [List.getElem?_map, Option.map_eq_some_iff] at hj
        obtain ⟨y, hy', rfl⟩ := hj
        obtain ⟨_, h5⟩ := h4.at_ (i := j) (r := eb y) (by rw [List.getElem?_map, hy']; rfl)
        obtain ⟨_, u, h6, _, h7⟩ := h5.at_ (i := 0) (s := .v (.int .u8 (y.toNat : Int))) rfl
        have h7' : u = _ := h7
        subst h7'
        rw [add_lit_, hW.cell b (o + j) (by rw [show o + j = o + j * 1 + 0 by omega, h6]; rfl), show o + j = o + j * 1 + 0 by omega, h6]
        try rfl)
      rw [List.length_map] at hl
      show (Extern.Bytes.loadBytes _ _ _).run P W = _
      rw [hl]
      congr 1
      apply ByteArray.ext
      simp only [Lib.bytesOf, List.map_map]
      have hid : (fun n : Int => n.toNat.toUInt8) ∘ (fun y : UInt8 => (y.toNat : Int)) = id := funext fun y => toNat_u8 y
      rw [hid, List.map_id]
      simp
  change Sem.run P (do
    let b ← Extern.Bytes.bytesOf (.slice A l.length cp)
    let c' ← Extern.Bytes.asByte (.int .u8 (c.toNat : Int))
    match (List.range b.size).find? fun i => b[i]! == c' with
    | some i => pure (goInt i)
    | none => pure (goInt (-1))) W = _
  change Sem.run P (do
    let b ← (pure ⟨l.toArray⟩ : Sem ByteArray)
    let c' ← Extern.Bytes.asByte (.int .u8 (c.toNat : Int))
    match (List.range b.size).find? fun i => b[i]! == c' with
    | some i => pure (goInt i)
    | none => pure (goInt (-1))) W = _ at hs
  rw [Sem.run_bind, hload, Result.andThen_ok]
  rw [Sem.run_bind, Sem.run_pure, Result.andThen_ok] at hs
  exact hs
end
section
variable {P : Program} {ops : Array Oper} {Q : Exit → Act → World → Prop} {g : Gh} {n : Nat} {t : List (Nat × Sd)} {bx : List Bx} {tk : List Tk} {ty : TypeId} {ps : String} {af : Array Edge} {gd : Option (Nat × Bool)} {fuel : Nat} {listed : Array Bool}
/-- A call of a function's value, in a statement whose order is open. -/
theorem wcallV {d : Nat} {f : FuncId} {fn : Func} {x : Operand} {args : Array Operand} {ats : Array TypeId} {caps : Array Value} {ss : List Sd} {bx0 Fb : List Bx} {tk0 Ft : List Tk} {Rr : Sd → List Bx → List Tk → Prop} (c : Con P f ss bx0 tk0 Rr)
    (hf : P.funcs[f]? = some fn) (hnm : (fn.name == "runtime.NumGoroutine") = false) (hbd : fn.body.isSome = true) (hx : ev t x = some (.v (.func (.func f) #[] caps))) {sa : List Sd} (hargs : EvL t args.toList sa) (hss : sa ++ caps.toList.map .v = ss) (hm : SubM bx tk (bx0 ++ Fb) (tk0 ++ Ft)) (hwt : want ops t gd = some true) (hd : Nat.blt d n = true)
    (h : ∀ r bx' tk', Rr r bx' tk' → HA P ops Q g n ⟨(d, r) :: t, bx' ++ Fb, tk' ++ Ft⟩ fuel listed) :
    HW P ops Q g n ⟨t, bx, tk⟩ fuel listed ⟨some d, .call ⟨.value x, args, ats⟩, ty, ps, af, gd⟩ := by
  obtain ⟨ss', h1, h2⟩ := hargs.out
  subst hss
  have app : ∀ {a b c : List Sd}, WkL a b → WkL (a ++ c) (b ++ c) := by
    intro a b c hab
    induction hab with
    | nil => exact WkL.refl c
    | cons h _ ih => exact .cons h ih
  exact hw_ hwt fun _ hK => wp_call (σ := ⟨t, bx, tk⟩) hf hnm hbd c hx h1 (app h2) hm hd fun r b' t' hr => (h r b' t' hr).k hK
end
section
variable {P : Program} {g : Gh} {n : Nat} {σ : St} {d : Option Nat} {ty : TypeId} {ps : String} {af : Array Edge} {gd : Option (Nat × Bool)}
theorem pv_min {x y : Operand} {ats : Array TypeId} {a b : Int} (hx : ev σ.t x = some (.v (.int .i64 a))) (hy : ev σ.t y = some (.v (.int .i64 b))) : Val P g n σ ⟨d, .call ⟨.builtin .min, #[x, y], ats⟩, ty, ps, af, gd⟩ (.v (.int .i64 (if b < a then b else a))) := by
  refine ⟨fun R ac w hr => ?_⟩
  have h1 : ac.eval x = _ := hr.ev hx
  have h2 : ac.eval y = _ := hr.ev hy
  refine ⟨_, rfl, fun W => ?_⟩
  simp [execOp, resolve, invoke, builtin, Builtin.min_, Builtin.min2, h1, h2]
end
section
variable {P : Program} {g : Gh} {n : Nat} {σ : St} {d : Option Nat} {ty : TypeId} {ps : String} {af : Array Edge} {gd : Option (Nat × Bool)}
theorem pv_sliceSHi {x y : Operand} {T : TypeId} {s : ByteArray} {z : Int} {ki : IntKind} (h : 0 ≤ z ∧ z ≤ (s.size : Int)) (hu : P.underlying T = some .string) (hx : ev σ.t x = some (.v (.string s))) (hy : ev σ.t y = some (.v (.int ki z))) :
    Val P g n σ ⟨d, .slice T x none (some y) none, ty, ps, af, gd⟩ (.v (.string (s.extract 0 z.toNat))) :=
  pv_sliceS (lo := none) hu hx rfl (Bd.int_ h.1 hy) (Nat.zero_le _) (by omega)
theorem pv_sliceSLo {x y : Operand} {T : TypeId} {s : ByteArray} {z : Int} {ki : IntKind} (h : 0 ≤ z ∧ z ≤ (s.size : Int)) (hu : P.underlying T = some .string) (hx : ev σ.t x = some (.v (.string s))) (hy : ev σ.t y = some (.v (.int ki z))) :
    Val P g n σ ⟨d, .slice T x (some y) none none, ty, ps, af, gd⟩ (.v (.string (s.extract z.toNat s.size))) :=
  pv_sliceS (hi := none) hu hx (Bd.int_ h.1 hy) rfl (by omega) (Nat.le_refl _)
theorem pv_sliceSLH {x y y' : Operand} {T : TypeId} {s : ByteArray} {z z' : Int} {ki ki' : IntKind} (h : 0 ≤ z ∧ z ≤ z' ∧ z' ≤ (s.size : Int)) (hu : P.underlying T = some .string) (hx : ev σ.t x = some (.v (.string s))) (hy : ev σ.t y = some (.v (.int ki z))) (hy' : ev σ.t y' = some (.v (.int ki' z'))) :
    Val P g n σ ⟨d, .slice T x (some y) (some y') none, ty, ps, af, gd⟩ (.v (.string (s.extract z.toNat z'.toNat))) :=
  pv_sliceS hu hx (Bd.int_ h.1 hy) (Bd.int_ (by omega) hy') (by omega) (by omega)
end
section
variable {P : Program} {g : Gh} {n : Nat} {σ : St} {d : Option Nat} {ty : TypeId} {ps : String} {af : Array Edge} {gd : Option (Nat × Bool)}
theorem pv_addS {x y : Operand} {T yt : TypeId} {s u : ByteArray} (h : InR ((s.size : Int) + (u.size : Int))) (hx : ev σ.t x = some (.v (.string s))) (hy : ev σ.t y = some (.v (.string u))) :
    Val P g n σ ⟨d, .binOp .add T x y yt, ty, ps, af, gd⟩ (.v (.string (s ++ u))) := by
  refine pv_bin hx hy fun W => ?_
  have h1 : ¬ (((s.size + u.size : Nat) : Int) > IntKind.i64.max) := by
    show ¬ (((s.size + u.size : Nat) : Int) > 9223372036854775807)
    have := h.2
    omega
  simp only [eqGuard, binOp, Op.stringOp, if_neg h1]
  rfl
end
section
variable {P : Program} {g : Gh} {n : Nat} {σ : St} {d : Option Nat} {ty : TypeId} {ps : String} {af : Array Edge} {gd : Option (Nat × Bool)}
/-- The text of a rune. -/
theorem pv_runeS {t t' : TypeId} {d' : TypeDesc} {x : Operand} {k : IntKind} {z : Int} (hu : P.underlying t = some d') (hu' : P.underlying t' = some .string) (hx : ev σ.t x = some (.v (.int k z))) :
    Val P g n σ ⟨d, .convert t t' x, ty, ps, af, gd⟩ (.v (.string (Utf8.encode z))) :=
  pv_conv hx fun W => by simp [convert, run_underlying hu, run_underlying hu', Conv.intToString]
end
end Go.Proofs.Ytpddiffpanihdaa
