/- More steps: results out of memory, division, shifts, nil slices. -/
import Derived.Test.YtpddiffpanihdaaSeg
namespace Go.Proofs.Ytpddiffpanihdaa
section
variable {P : Program} {ops : Array Oper} {Q : Exit → Act → World → Prop} {g : Gh} {n : Nat} {σ : St} {t : List (Nat × Sd)} {bx : List Bx} {tk : List Tk} {rest : List Oper} {ty : TypeId} {ps : String} {af : Array Edge} {gd : Option (Nat × Bool)} {fuel : Nat} {listed : Array Bool}
section
variable {d : Option Nat}
theorem pv_quoW {T yt : TypeId} {x y : Operand} {k k' : IntKind} {a b z : Int} (h0 : b ≠ 0) (e : z = k.wrap (a.tdiv b)) (hk : k = k') (hx : ev σ.t x = some (.v (.int k a))) (hy : ev σ.t y = some (.v (.int k' b))) : Val P g n σ ⟨d, .binOp .quo T x y yt, ty, ps, af, gd⟩ (.v (.int k z)) := by
  subst hk; subst e
  exact pv_bin hx hy fun W => by simp [eqGuard, binOp, Op.intDiv, h0]
theorem pv_remW {T yt : TypeId} {x y : Operand} {k k' : IntKind} {a b z : Int} (h0 : b ≠ 0) (e : z = a.tmod b) (hk : k = k') (hx : ev σ.t x = some (.v (.int k a))) (hy : ev σ.t y = some (.v (.int k' b))) : Val P g n σ ⟨d, .binOp .rem T x y yt, ty, ps, af, gd⟩ (.v (.int k z)) := by
  subst hk; subst e
  exact pv_bin hx hy fun W => by simp [eqGuard, binOp, Op.intDiv, h0]
theorem pv_shlW {T yt : TypeId} {x y : Operand} {k k' : IntKind} {a b z : Int} (h0 : 0 ≤ b) (e : z = k.wrap (a * 2 ^ (min b.toNat k.bits))) (hx : ev σ.t x = some (.v (.int k a))) (hy : ev σ.t y = some (.v (.int k' b))) : Val P g n σ ⟨d, .binOp .shl T x y yt, ty, ps, af, gd⟩ (.v (.int k z)) := by
  subst e
  exact pv_bin hx hy fun W => by simp [eqGuard, binOp, Op.shift, show ¬ b < 0 by omega]
theorem pv_shrW {T yt : TypeId} {x y : Operand} {k k' : IntKind} {a b z : Int} (h0 : 0 ≤ b) (e : z = a.fdiv (2 ^ (min b.toNat k.bits))) (hx : ev σ.t x = some (.v (.int k a))) (hy : ev σ.t y = some (.v (.int k' b))) : Val P g n σ ⟨d, .binOp .shr T x y yt, ty, ps, af, gd⟩ (.v (.int k z)) := by
  subst e
  exact pv_bin hx hy fun W => by simp [eqGuard, binOp, Op.shift, show ¬ b < 0 by omega]
end
/-- Results, out of slots and out of memory. -/
inductive RetL (P : Program) (σ : St) : List ResultVar → List Sd → Prop where
  | nil : RetL P σ [] []
  | tmp {d : Nat} {s s' : Sd} {rs : List ResultVar} {ss : List Sd} (h : look σ.t d = some s) (hw : Wk s s') (r : RetL P σ rs ss) : RetL P σ (.tmp d :: rs) (s' :: ss)
  | cell {d : Nat} {T E : TypeId} {ag : Bool} {k b o : Nat} {cs : List Sd} {s s' : Sd} {rs : List ResultVar} {ss : List Sd} (i : Nat) (hs : Shp P T ag k) (h : look σ.t d = some (.v (.pointer (some ⟨b, o, none⟩)))) (hb : σ.bx[i]? = some ⟨b, E, cs⟩) (hp : partS ag k o cs = some s) (hl : o + k ≤ cs.length) (hw : Wk s s') (r : RetL P σ rs ss) : RetL P σ (.cell d T :: rs) (s' :: ss)
theorem load_box {R : Nat → Nat → Prop} {a : Act} {w : World} (hr : Rl R g n σ a w) {T E : TypeId} {ag : Bool} {k b o : Nat} {cs : List Sd} {s : Sd} (hb : ⟨b, E, cs⟩ ∈ σ.bx) (hs : Shp P T ag k) (hp : partS ag k o cs = some s) (hl : o + k ≤ cs.length) :
    ∃ v, RepS R w s v ∧ (loadVar T ⟨b, o, none⟩).run P w = .ok v w := by
  by_cases hcs : cs = []
  · subst hcs
    have hk0 : o = 0 ∧ k = 0 := by simp at hl; omega
    obtain ⟨rfl, rfl⟩ := hk0
    obtain ⟨v, k4, k5⟩ := load_run (b := b) (R := R) (w := w) hs (cs := []) (us := []) rfl (by simp) hp hl
    exact ⟨v, k4, k5 w fun j u hj => by simp at hj⟩
  · obtain ⟨⟨us, k1, k2, k3⟩, _⟩ := hr.mem.box _ hb hcs
    obtain ⟨v, k4, k5⟩ := load_run hs k2 k3 hp hl
    exact ⟨v, k4, k5 w fun j u hj => by rw [k1.cell j]; simpa using hj⟩
theorem RetL.run {rs : List ResultVar} {ss : List Sd} (h : RetL P σ rs ss) {R : Nat → Nat → Prop} {a : Act} {w : World} (hr : Rl R g n σ a w) :
    ∃ vs : List Value, RepL R w ss vs ∧ (rs.mapM (m := Sem) fun | .tmp t => pure (a.tmps.getD t undef) | .cell x t => do loadVar t (← asAddr (a.tmps.getD x undef))).run P w = .ok vs w := by
  induction h with
  | nil => exact ⟨[], rfl, by simp⟩
  | tmp h hw _ ih =>
    obtain ⟨vs, h1, h2⟩ := ih
    refine ⟨_ :: vs, ⟨_, _, rfl, hr.slot h hw, h1⟩, ?_⟩
    rw [List.mapM_cons]
    simp only [Sem.run_bind, Sem.run_pure, Result.andThen_ok, h2]
  | cell i hs h hb hp hl hw _ ih =>
    obtain ⟨vs, h1, h2⟩ := ih
    have h3 := hr.slot h (.refl _)
    obtain ⟨v, k4, k6⟩ := load_box hr (List.mem_of_getElem? hb) hs hp hl
    refine ⟨v :: vs, ⟨_, _, rfl, hw _ _ _ k4, h1⟩, ?_⟩
    have h4 : a.tmps.getD _ undef = _ := h3
    rw [List.mapM_cons]
    have ha : ∀ A : Addr, asAddr (.pointer (some A)) = pure A := fun _ => rfl
    simp only [h4, ha, Sem.run_bind, Sem.run_pure, Result.andThen_ok, k6, h2]
/-- A function's results as one value. -/
def tupS : List Sd → Sd
  | [s] => s
  | ss => .tup ss
theorem xretL {fn : Func} {bx0 bx' : List Bx} {tk0 tk' : List Tk} {R : Sd → List Bx → List Tk → Prop} {rs : List ResultVar} {ss : List Sd} (hg : GOk g bx0 tk0) (hr : fn.results = rs.toArray) (hl : RetL P σ rs ss) (hm : SubM σ.bx σ.tk bx' tk') (hR : R (tupS ss) bx' tk') : HE (bodyPost P fn (RP bx0 tk0 g.R g.w R)) g n σ .ret := by
  refine ⟨?_⟩
  rintro a w ⟨Rd, h⟩
  obtain ⟨vs, h1, h2⟩ := hl.run h
  have hres : (results fn a.tmps).run P w = .ok (if h : vs.toArray.size = 1 then vs.toArray[0] else .tuple vs.toArray) w := by
    unfold results
    rw [hr, List.mapM_toArray]
    rw [Sem.run_bind, map_eq_pure_bind, Sem.run_bind]
    erw [h2]
    rfl
  have hrep : RepS Rd w (tupS ss) (if h : vs.toArray.size = 1 then vs.toArray[0] else .tuple vs.toArray) := by
    have hlen := h1.length
    match ss, vs, h1 with
    | [], [], _ => exact ⟨_, rfl, rfl⟩
    | [s], [v], ⟨_, _, e, k1, _⟩ => injection e with e1 e2; subst e1; exact k1
    | s :: s' :: ss, v :: v' :: vs, h1 => exact ⟨(v :: v' :: vs).toArray, rfl, h1⟩
  exact bodyPost_ret hres (h.df.trans hg.ds) ⟨_, _, bx', tk', Rd, rfl, hR, hm.mem _ _ h.mem, hrep, by rw [← hg.d]; exact h.mv, fun b hb => by rw [← hg.d]; exact h.dm b (hm.dm b hb)⟩
/-- A slice's value, held; compared with nil. -/
theorem exact_ {Φ : Act → World → Prop} (d : Nat) {α : Type} {f : α → List Sd} {l : List α} {k : Nat} {tok : Option (Option (Nat × Nat))} (hl : look t d = some (.sl k tok (l.map f))) (h : ∀ A c, (l ≠ [] → A.isNone = false) → Hx g n ⟨(d, .v (.slice A l.length c)) :: t, bx, tk⟩ Φ) : Hx g n ⟨t, bx, tk⟩ Φ := by
  rintro a w ⟨R, hr⟩
  obtain ⟨v, h1, h2⟩ := hr.tm d _ hl
  have h2' := h2
  obtain ⟨A, c, e, _, _, _, h4⟩ := h2
  refine h A c (fun hn => ?_) a w ⟨R, ⟨hr.mem, hr.mv, hr.dm, hr.df, hr.sz, fun e' s hs => ?_⟩⟩
  · rcases h4 with h4 | ⟨b, o, rfl, _⟩
    · exact absurd (List.map_eq_nil_iff.1 h4) hn
    · rfl
  · unfold look at hs
    split at hs
    · rename_i he
      injection hs with hs
      subst hs
      have := Nat.eq_of_beq_eq_true he
      subst this
      exact ⟨v, h1, by rw [e, List.length_map]; rfl⟩
    · exact hr.tm e' s hs
theorem xexact (d : Nat) {α : Type} {f : α → List Sd} {l : List α} {k : Nat} {tok : Option (Option (Nat × Nat))} (hl : look t d = some (.sl k tok (l.map f))) (h : ∀ A c, (l ≠ [] → A.isNone = false) → HL P ops Q g n ⟨(d, .v (.slice A l.length c)) :: t, bx, tk⟩ rest) : HL P ops Q g n ⟨t, bx, tk⟩ rest :=
  ⟨exact_ d hl fun A c hA => (h A c hA).h⟩
theorem pv_eqNilV {d : Option Nat} {T E yt : TypeId} {x y : Operand} {A : Option Addr} {m c : Nat} (hu : P.underlying T = some (.slice E)) (hx : ev σ.t x = some (.v (.slice A m c))) (hy : ev σ.t y = some (.v (.slice none 0 0))) : Val P g n σ ⟨d, .binOp .eql T x y yt, ty, ps, af, gd⟩ (.v (.bool A.isNone)) :=
  pv_eqG hx hy (fun W => by cases A with
    | none => exact equal_run hu W rfl
    | some A => exact equal_run hu W rfl) fun W => by
  show Sem.run P (Op.equal T _ _ >>= fun q => pure (Value.bool q)) W = _
  rw [Sem.run_bind]; rfl
theorem pv_neNilV {d : Option Nat} {T E yt : TypeId} {x y : Operand} {A : Option Addr} {m c : Nat} (hu : P.underlying T = some (.slice E)) (hx : ev σ.t x = some (.v (.slice A m c))) (hy : ev σ.t y = some (.v (.slice none 0 0))) : Val P g n σ ⟨d, .binOp .neq T x y yt, ty, ps, af, gd⟩ (.v (.bool (!A.isNone))) :=
  pv_neG hx hy (fun W => by cases A with
    | none => exact equal_run hu W rfl
    | some A => exact equal_run hu W rfl) fun W => by
  show Sem.run P (Op.equal T _ _ >>= fun q => pure (Value.bool (!q))) W = _
  rw [Sem.run_bind]; rfl
end
end Go.Proofs.Ytpddiffpanihdaa
