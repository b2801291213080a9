/- Steps of a walk whose values are told as lists of data; what a function's text asks for, as a plain statement. -/
import Derived.Test.YtpddiffpanihdaaTy
namespace Go.Proofs.Ytpddiffpanihdaa
/-- In the range of an int. -/
def InR (z : Int) : Prop := -9223372036854775808 ≤ z ∧ z ≤ 9223372036854775807
/-- A loop: by what holds at its head. -/
def LoopR {S : Type} (F : (S → Prop) → S → Prop) (s0 : S) : Prop := ∃ Inv : S → Nat → Prop, (∃ m, Inv s0 m) ∧ ∀ s m, Inv s m → F (fun s' => ∃ m', m' < m ∧ Inv s' m') s
abbrev ei (x : Int) : List Sd := [.v (.int .i64 x)]
abbrev eB (x : Bool) : List Sd := [.v (.bool x)]
abbrev es (x : ByteArray) : List Sd := [.v (.string x)]
abbrev ew (x : UInt64) : List Sd := [.v (.int .u64 (x.toNat : Int))]
theorem w8 (c : UInt8) : (c.toNat : Int) = IntKind.i64.wrap (c.toNat : Int) := (IntWalk.i64_in _ (by have := c.toNat_lt; omega)).symm
theorem not_t {b : Bool} (h : b = false) : (!b) = true := by rw [h]; rfl
theorem not_f {b : Bool} (h : b = true) : (!b) = false := by rw [h]; rfl
theorem b_f {b : Bool} (h : ¬ (b = true)) : b = false := by cases b <;> simp_all
section
variable {P : Program} {ops : Array Oper} {Q : Exit → Act → World → Prop} {g : Gh} {n : Nat} {σ : St} {t : List (Nat × Sd)} {bx : List Bx} {tk : List Tk} {rest : List Oper} {ty : TypeId} {ps : String} {af : Array Edge} {gd : Option (Nat × Bool)} {fuel : Nat} {listed : Array Bool}
section
variable {d : Option Nat}
theorem pv_addI {T yt : TypeId} {x y : Operand} {a b : Int} (h : InR (a + b)) (hx : ev σ.t x = some (.v (.int .i64 a))) (hy : ev σ.t y = some (.v (.int .i64 b))) : Val P g n σ ⟨d, .binOp .add T x y yt, ty, ps, af, gd⟩ (.v (.int .i64 (a + b))) :=
  pv_bin2 hx hy (by show some (Value.int .i64 (IntKind.i64.wrap (a + b))) = _; rw [wrap_id h.1 h.2])
theorem pv_subI {T yt : TypeId} {x y : Operand} {a b : Int} (h : InR (a - b)) (hx : ev σ.t x = some (.v (.int .i64 a))) (hy : ev σ.t y = some (.v (.int .i64 b))) : Val P g n σ ⟨d, .binOp .sub T x y yt, ty, ps, af, gd⟩ (.v (.int .i64 (a - b))) :=
  pv_bin2 hx hy (by show some (Value.int .i64 (IntKind.i64.wrap (a - b))) = _; rw [wrap_id h.1 h.2])
theorem pv_mulI {T yt : TypeId} {x y : Operand} {a b : Int} (h : InR (a * b)) (hx : ev σ.t x = some (.v (.int .i64 a))) (hy : ev σ.t y = some (.v (.int .i64 b))) : Val P g n σ ⟨d, .binOp .mul T x y yt, ty, ps, af, gd⟩ (.v (.int .i64 (a * b))) :=
  pv_bin2 hx hy (by show some (Value.int .i64 (IntKind.i64.wrap (a * b))) = _; rw [wrap_id h.1 h.2])
theorem pv_wr {op : BinOp} {T yt : TypeId} {x y : Operand} {u v : Value} {k : IntKind} {z z' : Int} (e : z' = z) (hx : ev σ.t x = some (.v u)) (hy : ev σ.t y = some (.v v)) (h : sbin op u v = some (.int k z)) : Val P g n σ ⟨d, .binOp op T x y yt, ty, ps, af, gd⟩ (.v (.int k z')) := e ▸ pv_bin2 hx hy h
theorem pv_convW {T t' : TypeId} {d' : TypeDesc} {x : Operand} {k k' : IntKind} {z z' : Int} (e : z' = k'.wrap z) (hu : P.underlying T = some d') (hu' : P.underlying t' = some (.int k')) (hx : ev σ.t x = some (.v (.int k z))) : Val P g n σ ⟨d, .convert T t' x, ty, ps, af, gd⟩ (.v (.int k' z')) := e ▸ pv_convI hu hu' hx
theorem pv_lenM {α : Type} {f : α → List Sd} {l : List α} {x : Operand} {k : Nat} {tok : Option (Option (Nat × Nat))} {T E : TypeId} (hu : P.underlying T = some (.slice E)) (hx : ev σ.t x = some (.sl k tok (l.map f))) :
    Val P g n σ ⟨d, .call ⟨.builtin .len, #[x], #[T]⟩, ty, ps, af, gd⟩ (.v (.int .i64 (l.length : Int))) := by
  have := pv_len (P := P) (g := g) (n := n) (d := d) (ty := ty) (ps := ps) (af := af) (gd := gd) hu hx rfl
  rwa [List.length_map] at this
theorem pv_indexAddrM {α : Type} {f : α → List Sd} {l : List α} {x ix : Operand} {T E : TypeId} {ki : IntKind} {z : Int} {b : Bool} {k : Nat} {tok : Option (Option (Nat × Nat))} {r : α} (h0 : 0 ≤ z) (hl : l[z.toNat]? = some r) (hu : P.underlying T = some (.slice E)) (hs : Shp P E b k)
    (hx : ev σ.t x = some (.sl k tok (l.map f))) (hi : ev σ.t ix = some (.v (.int ki z))) : Val P g n σ ⟨d, .indexAddr T x ix, ty, ps, af, gd⟩ (.el (f r)) :=
  pv_indexAddr hu hs hx hi (Int.toNat_of_nonneg h0).symm (map_at hl)
theorem pv_sliceM {α : Type} {f : α → List Sd} {l : List α} {x : Operand} {T E : TypeId} {lo hi : Option Operand} {a b : Nat} {ag : Bool} {k : Nat} {tok : Option (Option (Nat × Nat))} (h1 : a ≤ b) (h2 : b ≤ l.length) (hu : P.underlying T = some (.slice E)) (hs : Shp P E ag k)
    (hx : ev σ.t x = some (.sl k tok (l.map f))) (hl : Bd σ.t 0 lo a) (hh : Bd σ.t l.length hi b) : Val P g n σ ⟨d, .slice T x lo hi none, ty, ps, af, gd⟩ (.sl k none (((l.take b).drop a).map f)) := by
  have := pv_slice (P := P) (g := g) (n := n) (d := d) (ty := ty) (ps := ps) (af := af) (gd := gd) hu hs hx hl (by rw [List.length_map]; exact hh) h1 (by rw [List.length_map]; exact h2)
  rwa [← List.map_take, ← List.map_drop] at this
theorem pv_sliceA {α : Type} {f : α → List Sd} {l : List α} {x : Operand} {T E : TypeId} {ag : Bool} {k : Nat} {tok : Option (Option (Nat × Nat))} (hu : P.underlying T = some (.slice E)) (hs : Shp P E ag k)
    (hx : ev σ.t x = some (.sl k tok (l.map f))) : Val P g n σ ⟨d, .slice T x none none none, ty, ps, af, gd⟩ (.sl k none (l.map f)) := by
  have := pv_sliceM (P := P) (g := g) (n := n) (d := d) (ty := ty) (ps := ps) (af := af) (gd := gd) (lo := none) (hi := none) (Nat.zero_le _) (Nat.le_refl _) hu hs hx rfl rfl
  rwa [List.take_length, List.drop_zero] at this
theorem Bd.int_ {t : List (Nat × Sd)} {dflt : Nat} {x : Operand} {k : IntKind} {z : Int} (h0 : 0 ≤ z) (h : ev t x = some (.v (.int k z))) : Bd t dflt (some x) z.toNat := .some_ h (Int.toNat_of_nonneg h0).symm
theorem pv_sliceHi {α : Type} {f : α → List Sd} {l : List α} {x y : Operand} {T E : TypeId} {ag : Bool} {k : Nat} {z : Int} {ki : IntKind} {tok : Option (Option (Nat × Nat))} (h : 0 ≤ z ∧ z ≤ (l.length : Int)) (hu : P.underlying T = some (.slice E)) (hs : Shp P E ag k)
    (hx : ev σ.t x = some (.sl k tok (l.map f))) (hy : ev σ.t y = some (.v (.int ki z))) : Val P g n σ ⟨d, .slice T x none (some y) none, ty, ps, af, gd⟩ (.sl k none ((l.take z.toNat).map f)) := by
  have := pv_sliceM (P := P) (g := g) (n := n) (d := d) (ty := ty) (ps := ps) (af := af) (gd := gd) (lo := none) (Nat.zero_le _) (show z.toNat ≤ l.length by omega) hu hs hx rfl (Bd.int_ h.1 hy)
  rwa [List.drop_zero] at this
theorem pv_sliceLo {α : Type} {f : α → List Sd} {l : List α} {x y : Operand} {T E : TypeId} {ag : Bool} {k : Nat} {z : Int} {ki : IntKind} {tok : Option (Option (Nat × Nat))} (h : 0 ≤ z ∧ z ≤ (l.length : Int)) (hu : P.underlying T = some (.slice E)) (hs : Shp P E ag k)
    (hx : ev σ.t x = some (.sl k tok (l.map f))) (hy : ev σ.t y = some (.v (.int ki z))) : Val P g n σ ⟨d, .slice T x (some y) none none, ty, ps, af, gd⟩ (.sl k none ((l.drop z.toNat).map f)) := by
  have := pv_sliceM (P := P) (g := g) (n := n) (d := d) (ty := ty) (ps := ps) (af := af) (gd := gd) (hi := none) (show z.toNat ≤ l.length by omega) (Nat.le_refl _) hu hs hx (Bd.int_ h.1 hy) rfl
  rwa [List.take_length] at this
theorem pv_sliceLH {α : Type} {f : α → List Sd} {l : List α} {x y y' : Operand} {T E : TypeId} {ag : Bool} {k : Nat} {z z' : Int} {ki ki' : IntKind} {tok : Option (Option (Nat × Nat))} (h : 0 ≤ z ∧ z ≤ z' ∧ z' ≤ (l.length : Int)) (hu : P.underlying T = some (.slice E)) (hs : Shp P E ag k)
    (hx : ev σ.t x = some (.sl k tok (l.map f))) (hy : ev σ.t y = some (.v (.int ki z))) (hy' : ev σ.t y' = some (.v (.int ki' z'))) : Val P g n σ ⟨d, .slice T x (some y) (some y') none, ty, ps, af, gd⟩ (.sl k none (((l.take z'.toNat).drop z.toNat).map f)) :=
  pv_sliceM (show z.toNat ≤ z'.toNat by omega) (show z'.toNat ≤ l.length by omega) hu hs hx (Bd.int_ h.1 hy) (Bd.int_ (by omega) hy')
end
theorem xre (d : Nat) {s s' : Sd} (hl : look t d = some s) (hw : Wk s s') (h : HL P ops Q g n ⟨(d, s') :: t, bx, tk⟩ rest) : HL P ops Q g n ⟨t, bx, tk⟩ rest :=
  ⟨hx_imp (σ' := ⟨(d, s') :: t, bx, tk⟩) ⟨ImpT.cons hl hw (ImpT.refl _), SubM.refl _ _⟩ h.h⟩
theorem pre_ (d : Nat) {s s' : Sd} (hl : look t d = some s) (hw : Wk s s') (h : HA P ops Q g n ⟨(d, s') :: t, bx, tk⟩ fuel listed) : HA P ops Q g n ⟨t, bx, tk⟩ fuel listed :=
  ⟨hx_imp (σ' := ⟨(d, s') :: t, bx, tk⟩) ⟨ImpT.cons hl hw (ImpT.refl _), SubM.refl _ _⟩ h.h⟩
theorem xsetB (d : Nat) {b b' : Bool} (hb : b = b') (hl : look t d = some (.v (.bool b))) (h : HL P ops Q g n ⟨(d, .v (.bool b')) :: t, bx, tk⟩ rest) : HL P ops Q g n ⟨t, bx, tk⟩ rest := xre d hl (.eq (by rw [hb])) h
theorem psetB (d : Nat) {b b' : Bool} (hb : b = b') (hl : look t d = some (.v (.bool b))) (h : HA P ops Q g n ⟨(d, .v (.bool b')) :: t, bx, tk⟩ fuel listed) : HA P ops Q g n ⟨t, bx, tk⟩ fuel listed := pre_ d hl (.eq (by rw [hb])) h
theorem xcondT' {c : Operand} {x y : Code} {b : Bool} (hb : b = true) (hc : ev σ.t c = some (.v (.bool b))) (h : HC P Q g n σ x) : HC P Q g n σ (.cond c x y) := xcondT (hb ▸ hc) h
theorem xcondF' {c : Operand} {x y : Code} {b : Bool} (hb : b = false) (hc : ev σ.t c = some (.v (.bool b))) (h : HC P Q g n σ y) : HC P Q g n σ (.cond c x y) := xcondF (hb ▸ hc) h
theorem wkR_of {a b : List (List Sd)} (h : a = b) : WkR a b := h ▸ WkR.refl _
theorem ImpT.consW {t t' : List (Nat × Sd)} {d : Nat} {s s' : Sd} (hw : Wk s s') (ht : ImpT t t') : ImpT ((d, s) :: t) ((d, s') :: t') := by
  intro e x hx
  unfold look at hx ⊢
  split at hx
  · injection hx with hx
    subst hx
    exact ⟨s, rfl, hw⟩
  · exact ht e x hx
/-- Room for so many. -/
def Room (n bytes : Nat) : Prop := n ≤ maxLen ∧ n * bytes ≤ 140737488355328
theorem xappendM {α : Type} {f : α → List Sd} {l l2 : List α} {d : Nat} {T E : TypeId} {k bytes : Nat} {zero : List Value} {x y : Operand} {id : Option (Nat × Nat)} {tok2 : Option (Option (Nat × Nat))} {s2 : Sd} (i : Nat) (hby : Room (l.length + l2.length) bytes) (ht : P.underlying T = some (.slice E)) (hi : Inf P E k bytes zero) (hk0 : Nat.blt 0 k = true)
    (hx : ev t x = some (.sl k (some id) (l.map f))) (hy : ev t y = some s2) (hw2 : Wk s2 (.sl k tok2 (l2.map f))) (htk : tk[i]? = some ⟨id, E, k, l.length⟩) (hw : want ops t gd = some true) (hd : Nat.blt d n = true)
    (h : ∀ id', HL P ops Q g n ⟨(d, .sl k (some id') ((l ++ l2).map f)) :: t, bx, tk.set i ⟨id', E, k, (l ++ l2).length⟩⟩ rest) :
    HL P ops Q g n ⟨t, bx, tk⟩ (⟨some d, .call ⟨.builtin .append, #[x, y], #[T, T]⟩, ty, ps, af, gd⟩ :: rest) :=
  xappend ht hi hk0 i hx hy hw2 htk (List.length_map _).symm hw hd (by rw [List.length_map, List.length_map]; exact hby) fun id' => by
    have := h id'
    rw [List.map_append] at this
    rwa [show (l.map f ++ l2.map f).length = (l ++ l2).length by simp]
theorem wappendM {α : Type} {f : α → List Sd} {l l2 : List α} {d : Nat} {T E : TypeId} {k bytes : Nat} {zero : List Value} {x y : Operand} {id : Option (Nat × Nat)} {tok2 : Option (Option (Nat × Nat))} {s2 : Sd} (i : Nat) (hby : Room (l.length + l2.length) bytes) (ht : P.underlying T = some (.slice E)) (hi : Inf P E k bytes zero) (hk0 : Nat.blt 0 k = true)
    (hx : ev t x = some (.sl k (some id) (l.map f))) (hy : ev t y = some s2) (hw2 : Wk s2 (.sl k tok2 (l2.map f))) (htk : tk[i]? = some ⟨id, E, k, l.length⟩) (hw : want ops t gd = some true) (hd : Nat.blt d n = true)
    (h : ∀ id', HA P ops Q g n ⟨(d, .sl k (some id') ((l ++ l2).map f)) :: t, bx, tk.set i ⟨id', E, k, (l ++ l2).length⟩⟩ fuel listed) :
    HW P ops Q g n ⟨t, bx, tk⟩ fuel listed ⟨some d, .call ⟨.builtin .append, #[x, y], #[T, T]⟩, ty, ps, af, gd⟩ :=
  wappend ht hi hk0 i hx hy hw2 htk (List.length_map _).symm hw hd (by rw [List.length_map, List.length_map]; exact hby) fun id' => by
    have := h id'
    rw [List.map_append] at this
    rwa [show (l.map f ++ l2.map f).length = (l ++ l2).length by simp]
theorem xappendNilM {α : Type} {f : α → List Sd} {l2 : List α} {d : Nat} {T E : TypeId} {k bytes : Nat} {zero : List Value} {x y : Operand} {tok2 : Option (Option (Nat × Nat))} {s2 : Sd} (hby : Room l2.length bytes) (ht : P.underlying T = some (.slice E)) (hi : Inf P E k bytes zero) (hk0 : Nat.blt 0 k = true)
    (hx : ev t x = some (.v (.slice none 0 0))) (hy : ev t y = some s2) (hw2 : Wk s2 (.sl k tok2 (l2.map f))) (hw : want ops t gd = some true) (hd : Nat.blt d n = true)
    (h : ∀ id', HL P ops Q g n ⟨(d, .sl k (some id') (l2.map f)) :: t, bx, ⟨id', E, k, l2.length⟩ :: tk⟩ rest) :
    HL P ops Q g n ⟨t, bx, tk⟩ (⟨some d, .call ⟨.builtin .append, #[x, y], #[T, T]⟩, ty, ps, af, gd⟩ :: rest) :=
  xappendNil ht hi hk0 hx hy hw2 hw hd (by rw [List.length_map]; exact hby) fun id' => by
    rw [List.length_map]; exact h id'
theorem wappendNilM {α : Type} {f : α → List Sd} {l2 : List α} {d : Nat} {T E : TypeId} {k bytes : Nat} {zero : List Value} {x y : Operand} {tok2 : Option (Option (Nat × Nat))} {s2 : Sd} (hby : Room l2.length bytes) (ht : P.underlying T = some (.slice E)) (hi : Inf P E k bytes zero) (hk0 : Nat.blt 0 k = true)
    (hx : ev t x = some (.v (.slice none 0 0))) (hy : ev t y = some s2) (hw2 : Wk s2 (.sl k tok2 (l2.map f))) (hw : want ops t gd = some true) (hd : Nat.blt d n = true)
    (h : ∀ id', HA P ops Q g n ⟨(d, .sl k (some id') (l2.map f)) :: t, bx, ⟨id', E, k, l2.length⟩ :: tk⟩ fuel listed) :
    HW P ops Q g n ⟨t, bx, tk⟩ fuel listed ⟨some d, .call ⟨.builtin .append, #[x, y], #[T, T]⟩, ty, ps, af, gd⟩ :=
  hw_ hw fun _ hK => wp_appendNil (σ := ⟨t, bx, tk⟩) ht hi hk0 hx (.sl hy hw2) hd (by rw [List.length_map]; exact hby) fun id' => by
    rw [List.length_map]; exact (h id').k hK
theorem xbuildSliceM {α : Type} {f : α → List Sd} (l : List α) {d : Nat} {T E : TypeId} {k bytes len : Nat} {zero : List Value} {parts : Array (Nat × Operand)} {ss : List Sd} (hu : P.underlying T = some (.slice E)) (hi : Inf P E k bytes zero) (hk0 : Nat.blt 0 k = true)
    (he : evP t k 0 parts.toList = some ss) (hm1 : WkR (ss.map cellsS) (l.map f)) (hl : Nat.beq l.length len = true) (hm : Nat.ble (len * k) 16777216 = true) (hw : want ops t gd = some true) (hd : Nat.blt d n = true)
    (h : ∀ b, HL P ops Q g n ⟨(d, .sl k (some (some (b, len))) (l.map f)) :: t, bx, ⟨some (b, len), E, k, l.length⟩ :: tk⟩ rest) :
    HL P ops Q g n ⟨t, bx, tk⟩ (⟨some d, .buildSlice T len parts, ty, ps, af, gd⟩ :: rest) := by
  have hlen : ss.length = l.length := by have := hm1.length; simpa using this
  refine xbuildSliceC hu hi hk0 he (by rw [hlen]; exact hl) hm hw hd fun b => ?_
  have := h b
  rw [Nat.eq_of_beq_eq_true hl] at this
  exact ⟨hx_imp (σ' := ⟨_, _, _⟩) ⟨ImpT.consW (Wk.rows hm1) (ImpT.refl _), SubM.refl _ _⟩ this.h⟩
theorem wbuildSliceM {α : Type} {f : α → List Sd} (l : List α) {d : Nat} {T E : TypeId} {k bytes len : Nat} {zero : List Value} {parts : Array (Nat × Operand)} {ss : List Sd} (hu : P.underlying T = some (.slice E)) (hi : Inf P E k bytes zero) (hk0 : Nat.blt 0 k = true)
    (he : evP t k 0 parts.toList = some ss) (hm1 : WkR (ss.map cellsS) (l.map f)) (hl : Nat.beq l.length len = true) (hm : Nat.ble (len * k) 16777216 = true) (hw : want ops t gd = some true) (hd : Nat.blt d n = true)
    (h : ∀ b, HA P ops Q g n ⟨(d, .sl k (some (some (b, len))) (l.map f)) :: t, bx, ⟨some (b, len), E, k, l.length⟩ :: tk⟩ fuel listed) :
    HW P ops Q g n ⟨t, bx, tk⟩ fuel listed ⟨some d, .buildSlice T len parts, ty, ps, af, gd⟩ := by
  have hlen : ss.length = l.length := by have := hm1.length; simpa using this
  refine wbuildSliceC hu hi hk0 he (by rw [hlen]; exact hl) hm hw hd fun b => ?_
  have := h b
  rw [Nat.eq_of_beq_eq_true hl] at this
  exact ⟨hx_imp (σ' := ⟨_, _, _⟩) ⟨ImpT.consW (Wk.rows hm1) (ImpT.refl _), SubM.refl _ _⟩ this.h⟩
/-- What a function hands back that makes a row of its own, as a list. -/
abbrev RetM {α : Type} (k : Nat) (E : TypeId) (f : α → List Sd) (l : List α) : Sd → List Bx → List Tk → Prop := fun r bx tk => ∃ id, r = .sl k (some id) (l.map f) ∧ bx = [] ∧ tk = [⟨id, E, k, l.length⟩]
theorem xcallM {α : Type} {f : α → List Sd} {l : List α} {d : Nat} {F : FuncId} {fn : Func} {args : Array Operand} {ats : Array TypeId} {ss : List Sd} {k : Nat} {E : TypeId} (c : Con P F ss [] [] (RetM k E f l))
    (hf : P.funcs[F]? = some fn) (hnm : (fn.name == "runtime.NumGoroutine") = false) (hbd : fn.body.isSome = true) (hargs : EvL t args.toList ss) (hwt : want ops t gd = some true) (hd : Nat.blt d n = true) (h : ∀ id, HL P ops Q g n ⟨(d, .sl k (some id) (l.map f)) :: t, bx, ⟨id, E, k, l.length⟩ :: tk⟩ rest) :
    HL P ops Q g n ⟨t, bx, tk⟩ (⟨some d, .call ⟨.value (.func F), args, ats⟩, ty, ps, af, gd⟩ :: rest) := xcallP c hf hnm hbd hargs hwt hd (by rintro _ _ _ ⟨id, rfl, rfl, rfl⟩; exact h id)
theorem wcallM {α : Type} {f : α → List Sd} {l : List α} {d : Nat} {F : FuncId} {fn : Func} {args : Array Operand} {ats : Array TypeId} {ss : List Sd} {k : Nat} {E : TypeId} (c : Con P F ss [] [] (RetM k E f l))
    (hf : P.funcs[F]? = some fn) (hnm : (fn.name == "runtime.NumGoroutine") = false) (hbd : fn.body.isSome = true) (hargs : EvL t args.toList ss) (hwt : want ops t gd = some true) (hd : Nat.blt d n = true) (h : ∀ id, HA P ops Q g n ⟨(d, .sl k (some id) (l.map f)) :: t, bx, ⟨id, E, k, l.length⟩ :: tk⟩ fuel listed) :
    HW P ops Q g n ⟨t, bx, tk⟩ fuel listed ⟨some d, .call ⟨.value (.func F), args, ats⟩, ty, ps, af, gd⟩ := wcallF c hf hnm hbd hargs (SubM.refl _ _) hwt hd (by rintro _ _ _ ⟨id, rfl, rfl, rfl⟩; exact h id)
end
theorem perm_front {α : Type} {l : List α} {i : Nat} (hi : i < l.length) : (l[i] :: l.eraseIdx i).Perm l := by
  rw [List.eraseIdx_eq_take_drop_succ]
  refine List.perm_middle.symm.trans ?_
  rw [← List.drop_eq_getElem_cons hi, List.take_append_drop]
/-- A variable, a row, moved to the front. -/
theorem SubM.mvB {bx : List Bx} {tk : List Tk} (i : Nat) {x : Bx} (h : bx[i]? = some x) : SubM bx tk (x :: bx.eraseIdx i) tk := by
  obtain ⟨hi, rfl⟩ := List.getElem?_eq_some_iff.1 h
  exact SubM.perm (perm_front hi).symm (List.Perm.refl _)
theorem SubM.mvT {bx : List Bx} {tk : List Tk} (i : Nat) {x : Tk} (h : tk[i]? = some x) : SubM bx tk bx (x :: tk.eraseIdx i) := by
  obtain ⟨hi, rfl⟩ := List.getElem?_eq_some_iff.1 h
  exact SubM.perm (List.Perm.refl _) (perm_front hi).symm
end Go.Proofs.Ytpddiffpanihdaa
