/- Operations that write nothing; a statement whose order is open, walked in one order. -/
import Derived.Deep.RegionHeld3
namespace Go.Proofs.Ytpddiffpanihdaa

/-- A run that never comes to its end. -/
def Dead (P : Program) {α : Type} (s : Sem α) : Prop := ∀ w x w', s.run P w ≠ .ok x w'
/-- The old blocks are as they were. -/
structure Ext (h h' : Array Obj) : Prop where
  size : h.size ≤ h'.size
  at_ : ∀ k, k < h.size → h'[k]? = h[k]?
theorem Ext.refl (h : Array Obj) : Ext h h := ⟨Nat.le_refl _, fun _ _ => rfl⟩
theorem Ext.trans {a b c : Array Obj} (h : Ext a b) (k : Ext b c) : Ext a c := ⟨Nat.le_trans h.size k.size, fun i hi => (k.at_ i (Nat.lt_of_lt_of_le hi h.size)).trans (h.at_ i hi)⟩
theorem Ext.push (h : Array Obj) (o : Obj) : Ext h (h.push o) := ⟨by simp, fun k hk => by rw [Array.getElem?_push_lt hk, Array.getElem?_eq_getElem hk]⟩
/-- What can be read of the old world is read of the new one. -/
theorem Ext.cell {w W : World} (h : Ext w.heap W.heap) (b o : Nat) (hs : (w.cell? ⟨b, o, none⟩).isSome = true) : W.cell? ⟨b, o, none⟩ = w.cell? ⟨b, o, none⟩ := by
  rcases Nat.lt_or_ge b w.heap.size with hb | hb
  · simp only [World.cell?, h.at_ b hb]
  · rw [show w.cell? ⟨b, o, none⟩ = none by simp [World.cell?, Array.getElem?_eq_none hb]] at hs
    cases hs
/-- A run that writes nothing that was there (it may draw, and make blocks). -/
inductive Calm (P : Program) {α : Type} : Sem α → Prop where
  | pure (a : α) : Calm P (.pure a)
  | load (m : Mode) (a : Addr) (k : Value → Sem α) (h : ∀ v, Calm P (k v)) : Calm P (.load m a k)
  | shape (r : Nat) (k : Option (TypeId × Nat) → Sem α) (h : ∀ v, Calm P (k v)) : Calm P (.shape r k)
  | frozen (a : Addr) (k : Bool → Sem α) (h : ∀ v, Calm P (k v)) : Calm P (.frozen a k)
  | getObj (r : Nat) (k : Obj → Sem α) (h : ∀ v, Calm P (k v)) : Calm P (.getObj r k)
  | choose (q : Question) (k : Nat → Sem α) (h : ∀ v, Calm P (k v)) : Calm P (.choose q k)
  | program (k : Program → Sem α) (h : Calm P (k P)) : Calm P (.program k)
  | mark (m : Mark) (k : Sem α) (h : Calm P k) : Calm P (.mark m k)
  | new (o : Obj) (k : Nat → Sem α) (h : ∀ v, Calm P (k v)) : Calm P (.new o k)
  | halt (h : Halt) : Calm P (.halt h)
  | dead (s : Sem α) (h : Dead P s) : Calm P s

section
variable {P : Program} {α β : Type}
theorem Calm.bind' {s : Sem α} (hs : Calm P s) : ∀ {f : α → Sem β}, (∀ a, Calm P (f a)) → Calm P (s.bind f) := by
  induction hs with
  | pure a => intro f hf; exact hf a
  | load m a k _ ih => intro f hf; exact .load _ _ _ fun v => ih v hf
  | shape r k _ ih => intro f hf; exact .shape _ _ fun v => ih v hf
  | frozen r k _ ih => intro f hf; exact .frozen _ _ fun v => ih v hf
  | getObj r k _ ih => intro f hf; exact .getObj _ _ fun v => ih v hf
  | choose r k _ ih => intro f hf; exact .choose _ _ fun v => ih v hf
  | program k _ ih => intro f hf; exact .program _ (ih hf)
  | mark m k _ ih => intro f hf; exact .mark _ _ (ih hf)
  | new o k _ ih => intro f hf; exact .new _ _ fun v => ih v hf
  | halt h => intro f _; exact .halt h
  | dead s h =>
    intro f _
    refine .dead _ fun w x w' hr => ?_
    rw [Sem.run_bind'] at hr
    cases hs : s.run P w with
    | ok a w1 => exact h _ _ _ hs
    | halt h w1 => rw [hs] at hr; simp [Result.andThen] at hr
theorem Calm.bind {s : Sem α} {f : α → Sem β} (hs : Calm P s) (hf : ∀ a, Calm P (f a)) : Calm P (s >>= f) := hs.bind' hf
theorem Calm.run {s : Sem α} (hs : Calm P s) : ∀ {w : World} {x : α} {w' : World}, s.run P w = .ok x w' → Ext w.heap w'.heap := by
  induction hs with
  | pure a => intro w x w' h; simp [Sem.run] at h; rw [h.2]; exact .refl _
  | load m a k _ ih =>
    intro w x w' h
    simp only [Sem.run] at h
    split at h
    · exact ih _ h
    · split at h
      · exact ih _ h
      · cases h
  | shape r k _ ih => intro w x w' h; simp only [Sem.run] at h; exact ih _ h
  | frozen r k _ ih => intro w x w' h; simp only [Sem.run] at h; exact ih _ h
  | getObj r k _ ih =>
    intro w x w' h
    simp only [Sem.run] at h
    split at h
    · cases h
    · exact ih _ h
    · cases h
  | choose r k _ ih =>
    intro w x w' h
    simp only [Sem.run] at h
    split at h
    · exact ih _ h
    · exact (ih _ h : _)
  | program k _ ih => intro w x w' h; simp only [Sem.run] at h; exact ih h
  | mark m k _ ih => intro w x w' h; simp only [Sem.run] at h; exact ih h
  | new o k _ ih =>
    intro w x w' h
    simp only [Sem.run] at h
    exact (Ext.push _ _).trans (ih _ h)
  | halt h => intro w x w' h; simp [Sem.run] at h
  | dead s h => intro w x w' hr; exact absurd hr (h _ _ _)

theorem calm_pure (a : α) : Calm P (Pure.pure a : Sem α) := .pure a
theorem calm_stuck (s : String) : Calm P (stuck s : Sem α) := .halt _
theorem calm_unsupported (u : Unsupported) : Calm P (unsupported u : Sem α) := .halt _
theorem calm_program : Calm P program := .program _ (.pure _)
theorem calm_load (a : Addr) (m : Mode) : Calm P (load a m) := .load _ _ _ fun _ => .pure _
theorem calm_shape (r : Nat) : Calm P (shape r) := .shape _ _ fun _ => .pure _
theorem calm_getObj (r : Nat) : Calm P (getObj r) := .getObj _ _ fun _ => .pure _
theorem calm_frozen (a : Addr) : Calm P (frozen a) := .frozen _ _ fun _ => .pure _
theorem calm_choose (q : Question) : Calm P (choose q) := .choose _ _ fun _ => .pure _
theorem calm_goPanic (v : Value) : Calm P (goPanic v : Sem α) := .halt _
theorem calm_typeInfo (t : TypeId) : Calm P (typeInfo t) := by
  refine Calm.bind calm_program fun p => ?_
  split
  · exact calm_pure _
  · exact calm_stuck _
theorem calm_underlying (t : TypeId) : Calm P (underlying t) := by
  refine Calm.bind calm_program fun p => ?_
  split
  · exact calm_pure _
  · exact calm_stuck _
theorem calm_sizeOf (t : TypeId) : Calm P (sizeOf t) := Calm.bind (calm_typeInfo t) fun _ => calm_pure _
theorem calm_zeroValue (t : TypeId) : Calm P (zeroValue t) := by
  refine Calm.bind (calm_typeInfo t) fun _ => ?_
  split
  · exact calm_pure _
  · exact calm_unsupported _
theorem calm_newRow (t : TypeId) (cs : Array Value) : Calm P (newRow t cs) := Calm.bind (Calm.new _ _ fun _ => .pure _) fun _ => calm_pure _
theorem calm_isAgg (t : TypeId) : Calm P (isAgg t) := by
  refine Calm.bind (calm_underlying t) fun p => ?_
  split <;> exact calm_pure _
theorem calm_loadCellsFrom (a : Addr) : ∀ (n i : Nat) (acc : Array Value), Calm P (loadCellsFrom a i n acc)
  | 0, _, _ => calm_pure _
  | n + 1, i, _ => Calm.bind (calm_load _ _) fun _ => calm_loadCellsFrom a n (i + 1) _
theorem calm_loadVar (t : TypeId) (a : Addr) : Calm P (loadVar t a) := by
  refine Calm.bind (calm_isAgg t) fun p => ?_
  split
  · exact Calm.bind (calm_sizeOf t) fun _ => Calm.bind (calm_loadCellsFrom _ _ _ _) fun _ => calm_pure _
  · exact calm_load _ _
theorem calm_asIntOf (v : Value) : Calm P (asIntOf v) := by
  unfold asIntOf; split
  · exact calm_pure _
  · exact calm_unsupported _
  · exact calm_stuck _
theorem calm_asBool (v : Value) : Calm P (asBool v) := by
  unfold asBool; split
  · exact calm_pure _
  · exact calm_stuck _
theorem calm_sureAddr (v : Value) : Calm P (Instr.sureAddr v) := by
  unfold Instr.sureAddr; split
  · exact calm_pure _
  · exact calm_stuck _
theorem dead_bind {s : Sem α} {f : α → Sem β} (hf : ∀ a, Dead P (f a)) : Dead P (s >>= f) := by
  intro w x w' hr
  rw [Sem.run_bind] at hr
  cases hs : s.run P w with
  | ok a w1 => rw [hs, Result.andThen_ok] at hr; exact hf _ _ _ _ hr
  | halt h w1 => rw [hs] at hr; simp [Result.andThen] at hr
theorem dead_goPanic (v : Value) : Dead P (goPanic v : Sem α) := fun w x w' hr => by simp [goPanic] at hr
theorem dead_runtimePanic (e : RuntimeError) : Dead P (runtimePanic e : Sem α) := by
  refine dead_bind fun p => ?_
  dsimp only
  split <;> first
    | exact dead_goPanic _
    | exact dead_bind fun _ => dead_bind fun _ => dead_goPanic _
theorem calm_runtimePanic (e : RuntimeError) : Calm P (runtimePanic e : Sem α) := .dead _ (dead_runtimePanic e)
theorem calm_boundsPanic (k : IntKind) (x y : Int) (c : BoundsCode) : Calm P (boundsPanic k x y c : Sem α) := by
  unfold boundsPanic
  dsimp only
  split
  · exact .dead _ (dead_bind fun _ => dead_runtimePanic _)
  · exact .dead _ (dead_bind fun _ => dead_runtimePanic _)
theorem calm_sliceBound (x : Value) (y : Nat) (c : BoundsCode) : Calm P (Instr.sliceBound x y c) := by
  refine Calm.bind (calm_asIntOf x) fun p => ?_
  dsimp only
  split
  · exact calm_pure _
  · exact calm_boundsPanic _ _ _ _
theorem calm_sliceBounds (b : Bool) (l c : Nat) (lo hi mx : Option Value) : Calm P (Instr.sliceBounds b l c lo hi mx) := by
  unfold Instr.sliceBounds
  dsimp only
  repeat' first
    | exact calm_pure _
    | exact calm_sliceBound _ _ _
    | exact calm_stuck _
    | (refine Calm.bind ?_ fun _ => ?_)
    | split
theorem calm_viewAt (r : Nat) : Calm P (viewAt r) := by
  unfold viewAt
  repeat' first
    | exact calm_pure _
    | exact calm_shape _
    | exact calm_getObj _
    | (refine Calm.bind ?_ fun _ => ?_)
    | split
    | (dsimp only; split)
theorem calm_numberAt (r : Nat) : Calm P (numberAt r) := by
  unfold numberAt
  repeat' first
    | exact calm_pure _
    | exact calm_shape _
    | exact calm_getObj _
    | (refine Calm.bind ?_ fun _ => ?_)
    | split
    | (dsimp only; split)
theorem calm_behindNumber (a : Addr) : Calm P (behindNumber a) := Calm.bind (calm_numberAt _) fun _ => calm_pure _
theorem calm_noView (a : Addr) : Calm P (noView a) := by
  refine Calm.bind (calm_viewAt _) fun _ => ?_
  split
  · exact calm_unsupported _
  · exact calm_pure _
theorem calm_byteOf (a : Addr) : Calm P (byteOf a) := by
  unfold byteOf
  repeat' first
    | exact calm_pure _
    | exact calm_program
    | exact calm_noView _
    | exact calm_shape _
    | exact calm_stuck _
    | (refine Calm.bind ?_ fun _ => ?_)
    | split
    | (dsimp only; split)
theorem calm_fieldPlace (a : Addr) (f : Field) : Calm P (fieldPlace a f) := by
  unfold fieldPlace partAt
  repeat' first
    | exact calm_pure _
    | exact calm_sizeOf _
    | exact calm_byteOf _
    | (refine Calm.bind ?_ fun _ => ?_)
    | split
    | (dsimp only; split)
theorem calm_part (t : TypeId) (cs : Array Value) (o : Nat) : Calm P (part t cs o) := by
  unfold part
  repeat' first
    | exact calm_pure _
    | exact calm_isAgg _
    | exact calm_sizeOf _
    | exact calm_stuck _
    | (refine Calm.bind ?_ fun _ => ?_)
    | split
    | (dsimp only; split)
theorem calm_followBlind : ∀ (l : List FieldStep) (t : TypeId) (x : Option Value), Calm P (followBlind l t x)
  | [], _, _ => calm_pure _
  | s :: rest, t, x => by
    have ih := fun t x => calm_followBlind rest t x
    unfold followBlind
    repeat' first
      | exact calm_pure _
      | exact ih _ _
      | exact calm_underlying _
      | exact calm_part _ _ _
      | exact calm_stuck _
      | (refine Calm.bind ?_ fun _ => ?_)
      | split
      | (dsimp only; split)
theorem calm_nilAhead : ∀ (n : Nat) (t : TypeId) (v : Value) (name : String), Calm P (nilAhead n t v name)
  | 0, _, _, _ => calm_pure _
  | n + 1, t, v, name => by
    have ih := fun t v => calm_nilAhead n t v name
    unfold nilAhead
    repeat' first
      | exact calm_pure _
      | exact ih _ _
      | exact calm_underlying _
      | exact calm_typeInfo _
      | exact calm_followBlind _ _ _
      | exact calm_stuck _
      | (refine Calm.bind ?_ fun _ => ?_)
      | split
      | (dsimp only; split)

/-- Kinds of operations that write nothing, whatever their operands hold. -/
def calmB (o : Oper) : Bool := match o.op with
  | .move _ | .assign _ | .pick .. | .extract .. | .load .. | .nilCheck _ | .fieldAddr .. | .indexAddr .. | .slice .. | .field .. => true
  | .alloc _ | .buildSlice .. => true
  | .call c => (match c.callee with | .builtin .len => true | _ => false)
  | _ => false
theorem calm_op {o : Oper} (h : calmB o = true) (ρ : Operand → Value) : Calm P (execOp ρ o) := by
  unfold calmB at h
  unfold execOp
  split at h
  all_goals (rename_i e; try rw [e])
  all_goals dsimp only
  · exact calm_pure _
  · exact calm_pure _
  · exact Calm.bind (calm_asBool _) fun _ => calm_pure _
  · refine Calm.bind ?_ fun _ => calm_pure _
    unfold Instr.extract
    repeat' first
      | exact calm_pure _
      | exact calm_stuck _
      | split
  · exact Calm.bind (Calm.bind (calm_sureAddr _) fun _ => calm_loadVar _ _) fun _ => calm_pure _
  · repeat' first
      | exact calm_pure _
      | exact calm_runtimePanic _
      | exact calm_program
      | exact calm_nilAhead _ _ _ _
      | exact calm_unsupported _
      | (refine Calm.bind ?_ fun _ => ?_)
      | split
      | (dsimp only; split)
  · refine Calm.bind ?_ fun _ => calm_pure _
    unfold Instr.fieldAt
    repeat' first
      | exact calm_pure _
      | exact calm_underlying _
      | exact calm_sureAddr _
      | exact calm_fieldPlace _ _
      | exact calm_stuck _
      | (refine Calm.bind ?_ fun _ => ?_)
      | split
      | (dsimp only; split)
  · refine Calm.bind ?_ fun _ => calm_pure _
    unfold Instr.indexAt
    repeat' first
      | exact calm_pure _
      | exact calm_underlying _
      | exact calm_sureAddr _
      | exact calm_asIntOf _
      | exact calm_sizeOf _
      | exact calm_boundsPanic _ _ _ _
      | exact calm_unsupported _
      | exact calm_stuck _
      | (refine Calm.bind ?_ fun _ => ?_)
      | split
      | (dsimp only; split)
  · refine Calm.bind ?_ fun _ => calm_pure _
    unfold Instr.sliceAt Instr.slice asAddr
    repeat' first
      | exact calm_pure _
      | exact calm_underlying _
      | exact calm_sureAddr _
      | exact calm_sliceBounds _ _ _ _ _ _
      | exact calm_sizeOf _
      | exact calm_runtimePanic _
      | exact calm_stuck _
      | (refine Calm.bind ?_ fun _ => ?_)
      | split
      | (dsimp only; split)
  · refine Calm.bind ?_ fun _ => calm_pure _
    unfold Instr.field asAgg
    repeat' first
      | exact calm_pure _
      | exact calm_underlying _
      | exact calm_part _ _ _
      | exact calm_stuck _
      | (refine Calm.bind ?_ fun _ => ?_)
      | split
      | (dsimp only; split)
  · refine Calm.bind ?_ fun _ => calm_pure _
    unfold Instr.alloc newVar
    exact Calm.bind (calm_zeroValue _) fun _ => Calm.bind (calm_newRow _ _) fun _ => calm_pure _
  · refine Calm.bind ?_ fun _ => calm_pure _
    unfold Instr.buildSlice
    repeat' first
      | exact calm_pure _
      | exact calm_underlying _
      | exact calm_sizeOf _
      | exact calm_zeroValue _
      | exact calm_newRow _ _
      | exact calm_unsupported _
      | exact calm_stuck _
      | (refine Calm.bind ?_ fun _ => ?_)
      | split
      | (dsimp only; split)
  · split at h
    · rename_i hc
      unfold resolve
      rw [hc]
      show Calm P (Builtin.len_ _ _ _ >>= fun x => Pure.pure (Next.value x))
      refine Calm.bind ?_ fun _ => calm_pure _
      unfold Builtin.len_
      repeat' first
        | exact calm_pure _
        | exact calm_underlying _
        | exact calm_getObj _
        | exact calm_stuck _
        | (refine Calm.bind ?_ fun _ => ?_)
        | split
        | (dsimp only; split)
    · cases h
  · cases h

/-- A run that ends, if it ends, in a value. -/
def Vals (P : Program) (s : Sem Next) : Prop := ∀ w n w', s.run P w = .ok n w' → ∃ v, n = .value v
theorem Vals.pure_ (v : Value) : Vals P (Pure.pure (Next.value v)) := fun w n w' h => by simp at h; exact ⟨v, h.1.symm⟩
theorem Vals.bind_ {s : Sem α} {f : α → Sem Next} (hf : ∀ a, Vals P (f a)) : Vals P (s >>= f) := by
  intro w n w' h
  rw [Sem.run_bind] at h
  cases hs : s.run P w with
  | ok a w1 => rw [hs, Result.andThen_ok] at h; exact hf _ _ _ _ h
  | halt h' w1 => rw [hs] at h; simp [Result.andThen] at h
theorem Vals.dead {s : Sem Next} (h : Dead P s) : Vals P s := fun _ _ _ hr => absurd hr (h _ _ _)
theorem vals_op {o : Oper} (h : calmB o = true) (ρ : Operand → Value) : Vals P (execOp ρ o) := by
  unfold calmB at h
  unfold execOp
  split at h
  all_goals (rename_i e; try rw [e])
  all_goals dsimp only
  · exact .pure_ _
  · exact .pure_ _
  · exact .bind_ fun _ => .pure_ _
  · exact .bind_ fun _ => .pure_ _
  · exact .bind_ fun _ => .pure_ _
  · repeat' first
      | exact .pure_ _
      | exact .dead (dead_runtimePanic _)
      | (refine .bind_ fun _ => ?_)
      | split
      | (dsimp only; split)
  · exact .bind_ fun _ => .pure_ _
  · exact .bind_ fun _ => .pure_ _
  · exact .bind_ fun _ => .pure_ _
  · exact .bind_ fun _ => .pure_ _
  · exact .bind_ fun _ => .pure_ _
  · exact .bind_ fun _ => .pure_ _
  · split at h
    · rename_i hc
      unfold resolve
      rw [hc]
      show Vals P (Builtin.len_ _ _ _ >>= fun x => Pure.pure (Next.value x))
      exact .bind_ fun _ => .pure_ _
    · cases h
  · cases h
end

section
variable {P : Program} {ops : Array Oper} {Q : Exit → Act → World → Prop} {md : Region.Mode}
/-- An operation that yields in every world of the same heap. -/
def YieldsE (P : Program) (ops : Array Oper) (o : Oper) (v : Value) (a : Act) (w : World) : Prop :=
  (Region.wanted o (yielded ops a.tmps) = true ∧ ∀ W : World, Ext w.heap W.heap → (execOp a.eval o).run P W = .ok (.value v) W) ∨
  (Region.wanted o (yielded ops a.tmps) = false ∧ v = undef)
theorem YieldsE.wpOp {i : Nat} {o : Oper} {v : Value} {a : Act} {w : World} (hi : ops[i]? = some o) (hy : YieldsE P ops o v a w)
    {K : Act → World → Prop} (h : K (a.put o.dst v) w) : wpOp P ops Q i K a w := by
  unfold Go.wpOp
  simp only [hi]
  rcases hy with ⟨hw, hv⟩ | ⟨hw, rfl⟩
  · simp only [hw, if_true, Oper.wp, hv w (.refl _), Oper.upon]; exact .inl h
  · simp only [hw, Bool.false_eq_true, if_false]; exact h
theorem YieldsE.of_same {o : Oper} {v : Value} {a a' : Act} {w w' : World} (hy : YieldsE P ops o v a w) (he : execOp a'.eval o = execOp a.eval o)
    (hw : Region.wanted o (yielded ops a'.tmps) = Region.wanted o (yielded ops a.tmps)) (hh : Ext w.heap w'.heap) : YieldsE P ops o v a' w' := by
  unfold YieldsE at *
  rw [he, hw]
  exact hy.imp (fun h => ⟨h.1, fun W hW => h.2 W (hh.trans hW)⟩) id
theorem wpOp_putH {j : Nat} {oi oj : Oper} {v : Value} (hj : ops[j]? = some oj) (hap : oi.apart ops oj = true) (hcalm : calmB oj = true)
    (hsi : ∀ cs b, oi.op ≠ .select cs b) (hsj : ∀ cs b, oj.op ≠ .select cs b)
    (hQ : ∀ c a w, Q (.panic c) (a.put oi.dst v) w → Q (.panic c) a w) {K : Act → World → Prop} {a : Act} {w : World}
    (hy : YieldsE P ops oi v a w) (h : wpOp P ops Q j K (a.put oi.dst v) w) :
    wpOp P ops Q j (fun a' w' => YieldsE P ops oi v a' w' ∧ K (a'.put oi.dst v) w') a w := by
  obtain ⟨h1, h2, h3⟩ := Oper.apart_spec hap
  have keep : ∀ u (w' : World), Ext w.heap w'.heap → YieldsE P ops oi v (a.put oj.dst u) w' := fun u w' hh =>
    hy.of_same (execOp_put oi hsi a oj.dst u h3) (wanted_put oi a oj.dst u h3) hh
  unfold wpOp at *
  simp only [hj] at *
  rw [wanted_put oj a oi.dst v h1] at h
  split
  · rename_i hw
    simp only [hw, if_true] at h
    rcases h with h | ⟨hasks, hlets⟩
    case inr => exact .inr ⟨by unfold Oper.asks at *; rw [execOp_put oj hsj a oi.dst v h1] at hasks; exact hasks, hlets⟩
    refine .inl ?_
    unfold Oper.wp at *
    rw [execOp_put oj hsj a oi.dst v h1] at h
    have hc := fun n w' => (calm_op (P := P) hcalm a.eval).run (w := w) (x := n) (w' := w')
    have hv := fun n w' => vals_op (P := P) hcalm a.eval w n w'
    generalize (execOp a.eval oj).run P w = r at *
    cases r with
    | ok n w' =>
      obtain ⟨u, rfl⟩ := hv _ _ rfl
      simp only [Oper.upon] at h ⊢
      exact ⟨keep u w' (hc _ _ rfl), by rw [← Act.put_comm a v u h2]; exact h⟩
    | halt x w' =>
      cases x <;> simp only [Oper.upon] at h ⊢
      case panic u => exact hQ _ _ _ h
  · rename_i hw
    simp only [hw] at h
    exact ⟨keep _ w (.refl _), by rw [← Act.put_comm a v undef h2]; exact h⟩

/-- M holds all that may come ahead of operation i, and all of it is calm. -/
def safeB (md : Region.Mode) (ops : Array Oper) (listed : Array Bool) (i : Nat) (M : List Nat) : Bool :=
  match ops[i]? with
  | none => false
  | some oi => !M.contains i && (List.range ops.size).all fun j => j == i || listed.getD j true || match ops[j]? with
    | none => true
    | some oj => if M.contains j then calmB oj && oi.apart ops oj else oj.after.any fun e => Region.binds md e && (e.on == i || (!listed.getD e.on false && !M.contains e.on))
theorem wpAny_firstC {i : Nat} {oi : Oper} {v : Value} {M : List Nat} {listed0 : Array Bool} (hi : ops[i]? = some oi) (hsel : ∀ (j : Nat) (o : Oper) cs b, ops[j]? = some o → o.op ≠ .select cs b)
    (hQ : ∀ c a w, Q (.panic c) (a.put oi.dst v) w → Q (.panic c) a w) (hiM : i ∉ M) (h0 : listed0.getD i false = false)
    (hM : ∀ j oj, ops[j]? = some oj → j ≠ i → listed0.getD j true = false → j ∈ M → calmB oj = true ∧ oi.apart ops oj = true)
    (hN : ∀ j oj, ops[j]? = some oj → j ≠ i → listed0.getD j true = false → j ∉ M → ∃ e ∈ oj.after, Region.binds md e = true ∧ (e.on = i ∨ (listed0.getD e.on false = false ∧ e.on ∉ M))) :
    ∀ (fuel : Nat) (listed : Array Bool) (a : Act) (w : World), listed.size = listed0.size →
      (∀ j, listed.getD j false = true → listed0.getD j false = true ∨ j ∈ M) → (∀ j, listed0.getD j false = true → listed.getD j false = true) →
      i ∈ Region.ready md ops listed → YieldsE P ops oi v a w →
      wpAny P md ops Q fuel (listed.setIfInBounds i true) (a.put oi.dst v) w → wpAny P md ops Q (fuel + 1) listed a w := by
  have key : ∀ (listed : Array Bool), listed.size = listed0.size → (∀ j, listed.getD j false = true → listed0.getD j false = true ∨ j ∈ M) → (∀ j, listed0.getD j false = true → listed.getD j false = true) →
      ∀ j, j ∈ Region.ready md ops listed → j ≠ i → listed0.getD j true = false ∧ j ∈ M := by
    intro listed hsz hl hl2 j hj hji
    obtain ⟨hjun, oj, hoj, hall⟩ := mem_ready.1 hj
    have hju : listed0.getD j true = false := by
        cases hb : listed0.getD j true with
        | false => rfl
        | true =>
          rcases Nat.lt_or_ge j listed0.size with hs | hs
          · have e1 : listed0.getD j false = true := by simpa [hs] using hb
            have e2 := hl2 j e1
            have hs' : j < listed.size := by omega
            simp [hs'] at e2 hjun
            rw [e2] at hjun; cases hjun
          · have hs' : listed.size ≤ j := by omega
            simp [Array.getElem?_eq_none hs'] at hjun
    refine ⟨hju, ?_⟩
    rcases Classical.em (j ∈ M) with h | h
    · exact h
    · obtain ⟨e, he, hb, h1⟩ := hN j oj hoj hji hju h
      have h2 := hl e.on (hall e he hb)
      rcases h1 with h1 | ⟨h1, h3⟩
      · rw [h1] at h2
        rcases h2 with h2 | h2
        · rw [h0] at h2; cases h2
        · exact absurd h2 hiM
      · rcases h2 with h2 | h2
        · rw [h1] at h2; cases h2
        · exact absurd h2 h3
  intro fuel
  induction fuel with
  | zero =>
    intro listed a w _ _ _ hr hy H
    refine ⟨fun h => (by rw [h] at hr; cases hr), fun j hj => ?_⟩
    by_cases hji : j = i
    · subst hji; exact hy.wpOp hi H
    · have := ready_mono hj hji
      rw [H.1] at this
      cases this
  | succ fuel ih =>
    intro listed a w hsz hl hl2 hr hy H
    refine ⟨fun h => (by rw [h] at hr; cases hr), fun j hj => ?_⟩
    by_cases hji : j = i
    · subst hji; exact hy.wpOp hi H
    · obtain ⟨hju, hjM⟩ := key listed hsz hl hl2 j hj hji
      have h1 := H.2 j (ready_mono hj hji)
      obtain ⟨hjun, oj, hoj, hall⟩ := mem_ready.1 hj
      obtain ⟨hc, hap⟩ := hM j oj hoj hji hju hjM
      have h2 := wpOp_putH hoj hap hc (fun cs b => hsel i oi cs b hi) (fun cs b => hsel j oj cs b hoj) hQ hy h1
      refine wpOp_mono (fun a' w' h3 => ih (listed.setIfInBounds j true) a' w' (by simpa using hsz) (fun k hk => ?_) (fun k hk => getD_set_true (hl2 k hk)) (ready_mono hr (Ne.symm hji)) h3.1 ?_) h2
      · by_cases hjk : j = k
        · subst hjk; exact .inr hjM
        · rw [getD_set_ne false hjk] at hk; exact hl k hk
      · rw [Array.setIfInBounds_comm _ _ hji]
        exact h3.2

/-- An operation whose value the heap at hand tells is taken first, though others that write nothing may come ahead of it. -/
theorem ctake {i d : Nat} {oi : Oper} {v : Value} {fuel : Nat} {listed : Array Bool} {tmps : Array Value} {ds : List Deferred} {w : World} (M : List Nat) (hi : ops[i]? = some oi) (hd : oi.dst = some d)
    (hs : Region.noSelect ops = true) (hf : safeB md ops listed i M = true) (hr : (Region.ready md ops listed).contains i = true)
    (hq : ∀ c (a : Act) w, Q (.panic c) (a.put oi.dst v) w → Q (.panic c) a w)
    (hg : Region.wanted oi (yielded ops tmps) = true) (hy : ∀ W : World, Ext w.heap W.heap → (execOp (Act.eval ⟨tmps, ds⟩) oi).run P W = .ok (.value v) W)
    (h : wpAny P md ops Q fuel (listed.setIfInBounds i true) ⟨tmps.setIfInBounds d v, ds⟩ w) : wpAny P md ops Q (fuel + 1) listed ⟨tmps, ds⟩ w := by
  have hr' : i ∈ Region.ready md ops listed := by simpa using hr
  have hun := (mem_ready.1 hr').1
  unfold safeB at hf
  simp only [hi, Bool.and_eq_true, Bool.not_eq_true', List.all_eq_true, List.mem_range] at hf
  obtain ⟨hf1, hf2⟩ := hf
  have hiM : i ∉ M := by simpa using hf1
  have h0 : listed.getD i false = false := by
    rcases Nat.lt_or_ge i listed.size with hs | hs
    · simpa [hs] using hun
    · simp [Array.getElem?_eq_none hs]
  refine wpAny_firstC (v := v) (M := M) (listed0 := listed) hi (Region.noSelect_spec hs) hq hiM h0 ?_ ?_ fuel listed ⟨tmps, ds⟩ w rfl (fun _ h => .inl h) (fun _ h => h) hr' (.inl ⟨hg, hy⟩) (by rw [hd]; exact h)
  · intro j oj hj hji hju hjM
    have hlt : j < ops.size := (Array.getElem?_eq_some_iff.1 hj).1
    have h1 := hf2 j hlt
    have e1 : (j == i) = false := by simpa using hji
    have e2 : M.contains j = true := by simpa using hjM
    rw [e1, hju] at h1
    simp only [Bool.false_or, hj, e2, if_true, Bool.and_eq_true] at h1
    exact h1
  · intro j oj hj hji hju hjM
    have hlt : j < ops.size := (Array.getElem?_eq_some_iff.1 hj).1
    have h1 := hf2 j hlt
    have e1 : (j == i) = false := by simpa using hji
    have e2 : M.contains j = false := by simpa using hjM
    rw [e1, hju] at h1
    simp only [Bool.false_or, hj, e2, Bool.false_eq_true, if_false] at h1
    obtain ⟨q, hq1, hq2⟩ := Array.any_eq_true.1 h1
    simp only [Bool.and_eq_true, Bool.or_eq_true, beq_iff_eq, Bool.not_eq_true'] at hq2
    refine ⟨oj.after[q], Array.getElem_mem hq1, hq2.1, ?_⟩
    rcases hq2.2 with h2 | ⟨h2, h3⟩
    · exact .inl h2
    · exact .inr ⟨h2, by simpa using h3⟩
/-- An operation that yields in every world is taken first. -/
theorem ptake {i d : Nat} {oi : Oper} {v : Value} {fuel : Nat} {listed : Array Bool} {tmps : Array Value} {ds : List Deferred} {w : World} (hi : ops[i]? = some oi) (hd : oi.dst = some d)
    (hs : Region.noSelect ops = true) (hf : Region.free md ops listed i = true) (hr : (Region.ready md ops listed).contains i = true)
    (hq : ∀ c (a : Act) w, Q (.panic c) (a.put oi.dst v) w → Q (.panic c) a w)
    (hg : Region.wanted oi (yielded ops tmps) = true) (hy : ∀ W : World, (execOp (Act.eval ⟨tmps, ds⟩) oi).run P W = .ok (.value v) W)
    (h : wpAny P md ops Q fuel (listed.setIfInBounds i true) ⟨tmps.setIfInBounds d v, ds⟩ w) : wpAny P md ops Q (fuel + 1) listed ⟨tmps, ds⟩ w :=
  wpAny_take hi hs hf hr hq (Or.inl ⟨hg, hy⟩) (by rw [hd]; exact h)
/-- An operation that its guard passes over. -/
theorem pskip {i d : Nat} {oi : Oper} {fuel : Nat} {listed : Array Bool} {tmps : Array Value} {ds : List Deferred} {w : World} (hi : ops[i]? = some oi) (hd : oi.dst = some d)
    (hs : Region.noSelect ops = true) (hf : Region.free md ops listed i = true) (hr : (Region.ready md ops listed).contains i = true)
    (hq : ∀ c (a : Act) w, Q (.panic c) (a.put oi.dst undef) w → Q (.panic c) a w)
    (hg : Region.wanted oi (yielded ops tmps) = false)
    (h : wpAny P md ops Q fuel (listed.setIfInBounds i true) ⟨tmps.setIfInBounds d undef, ds⟩ w) : wpAny P md ops Q (fuel + 1) listed ⟨tmps, ds⟩ w :=
  wpAny_take hi hs hf hr hq (Or.inr ⟨hg, rfl⟩) (by rw [hd]; exact h)
/-- The one operation that may come next. -/
theorem pstep {i : Nat} {o : Oper} {fuel : Nat} {listed : Array Bool} {a : Act} {w : World} (hr : Region.ready md ops listed = [i]) (ho : ops[i]? = some o)
    (h : ∀ K : Act → World → Prop, Shut (∀ a w, wpAny P md ops Q fuel (listed.setIfInBounds i true) a w → K a w) → if Region.wanted o (yielded ops a.tmps) = true then Oper.wp P o a w K Q else K (a.put o.dst undef) w) :
    wpAny P md ops Q (fuel + 1) listed a w :=
  wpAny_all hr (by simp) fun j hj => by
    simp at hj
    subst hj
    exact wpOp_step ho fun K hK => h K hK
/-- Two operations, either of which may come next. -/
theorem pstep2 {i j : Nat} {o u : Oper} {fuel : Nat} {listed : Array Bool} {a : Act} {w : World} (hr : Region.ready md ops listed = [i, j]) (ho : ops[i]? = some o) (hu : ops[j]? = some u)
    (h : ∀ K : Act → World → Prop, Shut (∀ a w, wpAny P md ops Q fuel (listed.setIfInBounds i true) a w → K a w) → if Region.wanted o (yielded ops a.tmps) = true then Oper.wp P o a w K Q else K (a.put o.dst undef) w)
    (h' : ∀ K : Act → World → Prop, Shut (∀ a w, wpAny P md ops Q fuel (listed.setIfInBounds j true) a w → K a w) → if Region.wanted u (yielded ops a.tmps) = true then Oper.wp P u a w K Q else K (a.put u.dst undef) w) :
    wpAny P md ops Q (fuel + 1) listed a w :=
  wpAny_all hr (by simp) fun k hk => by
    simp at hk
    rcases hk with rfl | rfl
    · exact wpOp_step ho fun K hK => h K hK
    · exact wpOp_step hu fun K hK => h' K hK
/-- Some operations, any of which may come next. -/
theorem pstepN {is : List Nat} {fuel : Nat} {listed : Array Bool} {a : Act} {w : World} (hr : Region.ready md ops listed = is) (hne : is ≠ [])
    (h : ∀ i ∈ is, ∃ o, ops[i]? = some o ∧ ∀ K : Act → World → Prop, Shut (∀ a w, wpAny P md ops Q fuel (listed.setIfInBounds i true) a w → K a w) → if Region.wanted o (yielded ops a.tmps) = true then Oper.wp P o a w K Q else K (a.put o.dst undef) w) :
    wpAny P md ops Q (fuel + 1) listed a w :=
  wpAny_all hr hne fun k hk => by
    obtain ⟨o, ho, h1⟩ := h k hk
    exact wpOp_step ho fun K hK => h1 K hK
theorem pbegin {id : Nat} {a : Act} {w : World} (hm : P.follows .mixedOrders = true) (h : wpAny P .any ops Q ops.size (Array.replicate ops.size false) a w.drew) : (Code.region id ops true).wp P Q a w :=
  wp_region_any hm h
/-- No operation panics. -/
def NoPan (Q : Exit → Act → World → Prop) : Exit → Act → World → Prop
  | .panic _, _, _ => False
  | .outgrown, _, _ => False
  | .normal, a, w => Q .normal a w
  | e, a, w => Q e a w
theorem pbeginD {id : Nat} {a : Act} {w : World} (hm : P.follows .mixedOrders = true) (h : wpAny P .any ops (NoPan Q) ops.size (Array.replicate ops.size false) a w.drew) : (Code.region id ops true).wp P Q a w := by
  refine Code.wp_mono (fun e a w h => ?_) (wp_region_any hm h)
  cases e <;> first | exact h | exact h.elim
theorem pdone {fuel : Nat} {listed : Array Bool} {a : Act} {w : World} (hr : Region.ready md ops listed = []) (h : Q .normal a w) : wpAny P md ops (NoPan Q) fuel listed a w := wpAny_done (Q := NoPan Q) hr h _
end
end Go.Proofs.Ytpddiffpanihdaa
