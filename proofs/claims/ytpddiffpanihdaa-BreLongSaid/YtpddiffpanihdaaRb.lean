
/- Rows that are written in place: made, read, written, appended to; a row in place as what is appended. -/
import Derived.Test.YtpddiffpanihdaaExt
import Derived.Laws.MakeOwn
namespace Go.Proofs.Ytpddiffpanihdaa
open Go.RowKit
theorem madeCells_rep (z : Array Value) : ∀ c : Nat, (madeCells z (c * z.size)).toList = (List.replicate c z.toList).flatten
  | 0 => by simp [madeCells]
  | c + 1 => by
    have ih := madeCells_rep z c
    unfold madeCells at ih ⊢
    simp only [Array.toList_map, Array.toList_range] at ih ⊢
    rw [Nat.add_mul, Nat.one_mul, List.range_add, List.map_append, ih, List.replicate_succ', List.flatten_append]
    congr 1
    simp only [List.flatten_cons, List.flatten_nil, List.append_nil, List.map_map]
    apply List.ext_getElem?
    intro i
    rw [List.getElem?_map]
    rcases Nat.lt_or_ge i z.size with h | h
    · rw [List.getElem?_range h]
      simp only [Option.map_some, Function.comp]
      rw [Nat.mul_add_mod_self_right, Nat.mod_eq_of_lt h, Array.getElem?_toList, Array.getElem?_eq_getElem h, getElem!_pos z i h]
    · rw [List.getElem?_eq_none (by simpa using h), List.getElem?_eq_none (by simpa using h)]; rfl
theorem WkL.flat_rep {a b : List Sd} (h : WkL a b) : ∀ n : Nat, WkL (List.replicate n a).flatten (List.replicate n b).flatten
  | 0 => .nil
  | n + 1 => by rw [List.replicate_succ, List.replicate_succ, List.flatten_cons, List.flatten_cons]; exact h.app (WkL.flat_rep h n)
theorem rep_add {α : Type} (m n : Nat) (x : α) : List.replicate (m + n) x = List.replicate m x ++ List.replicate n x := by
  induction m with
  | zero => simp
  | succ m ih => rw [Nat.succ_add, List.replicate_succ, List.replicate_succ, List.cons_append, ih]
theorem SubT.refl : ∀ l : List Tk, SubT l l
  | [] => .nil _
  | _ :: l => .keep rfl (SubT.refl l)
theorem SubB.at_ {x x' : Bx} : ∀ {l : List Bx} (i : Nat), l[i]? = some x → x.b = x'.b → x.E = x'.E → WkL x.cs x'.cs → SubB l (l.set i x')
  | [], i, h, _, _, _ => by simp at h
  | y :: l, 0, h, hb, hE, hc => by
    simp at h; subst h
    exact .keep hb hE hc (SubB.refl l)
  | y :: l, i + 1, h, hb, hE, hc => .keep rfl rfl (.refl _) (SubB.at_ i (by simpa using h) hb hE hc)
theorem SubB.set_ {x x' : Bx} : ∀ (l : List Bx) (i : Nat), x.b = x'.b → x.E = x'.E → WkL x.cs x'.cs → SubB (l.set i x) (l.set i x')
  | [], _, _, _, _ => .nil _
  | y :: l, 0, hb, hE, hc => .keep hb hE hc (SubB.refl l)
  | y :: l, i + 1, hb, hE, hc => .keep rfl rfl (.refl _) (SubB.set_ l i hb hE hc)
/-- Elements of a slice that can be made. -/
def MakeOk (l c : Int) (bytes : Nat) : Prop := 0 ≤ l ∧ l ≤ c ∧ c ≤ 9223372036854775807 ∧ (bytes : Int) * c ≤ 281474976710656
section
variable {P : Program} {Q : Exit → Act → World → Prop} {ops : Array Oper} {g : Gh} {n : Nat} {σ : St} {t : List (Nat × Sd)} {bx : List Bx} {tk : List Tk} {rest : List Oper} {ty : TypeId} {ps : String} {af : Array Edge} {gd : Option (Nat × Bool)} {fuel : Nat} {listed : Array Bool} {K : Act → World → Prop}
theorem wp_makeRb {α : Type} {f : α → List Sd} {d : Nat} {T E : TypeId} {k bytes : Nat} {zero : List Value} {x y : Operand} {k1 k2 : IntKind} {l c : Int} (z0 : α) (hm : MakeOk l c bytes) (hu : P.underlying T = some (.slice E)) (hi : Inf P E k bytes zero) (hz : WkL (zero.map .v) (f z0)) (hl : ev σ.t x = some (.v (.int k1 l))) (hc : ev σ.t y = some (.v (.int k2 c))) (hd : Nat.blt d n = true)
    (h : ∀ id, Hx g n ⟨(d, .rb id (List.replicate l.toNat z0).length) :: σ.t, rbx id E k (List.map f (List.replicate l.toNat z0)) :: σ.bx, σ.tk⟩ K) :
    Hx g n σ (fun a w => Oper.wp P ⟨some d, .makeSlice T x y, ty, ps, af, gd⟩ a w K Q) := by
  rintro a w ⟨R, hr⟩
  obtain ⟨inf, z, e1, e2, e3, e4, e5⟩ := hi.info
  have hzs : z.cells.size = k := by rw [← hi.len, ← e3]; simp
  have hone : ∀ u ∈ z.cells.toList, u.oneCell' = true := by rw [e3]; exact List.all_eq_true.1 hi.one
  obtain ⟨h0, hlc, h63, hby⟩ := hm
  have ex : a.eval x = .int k1 l := hr.ev hl
  have ey : a.eval y = .int k2 c := hr.ev hc
  have hrun := run_make (P := P) w T E inf z hu e1 e2 k1 k2 l c h0 hlc (by rw [e5]; exact hby) h63
  unfold Oper.wp execOp
  simp only [ex, ey, Sem.run_bind, hrun, Result.andThen_ok, Sem.run_pure]
  have hcells : (madeCells z.cells (c.toNat * inf.size)).toList = (List.replicate c.toNat z.cells.toList).flatten := by rw [e4, ← hzs]; exact madeCells_rep _ _
  have hlt : l.toNat ≤ c.toNat := by omega
  have hrep : RepL R w ((List.map f (List.replicate l.toNat z0)).flatten ++ List.replicate ((c.toNat - (List.map f (List.replicate l.toNat z0)).length) * k) .any) (madeCells z.cells (c.toNat * inf.size)).toList := by
    rw [hcells, e3, ← Nat.add_sub_cancel' hlt, rep_add, List.flatten_append, List.map_replicate, List.length_replicate, Nat.add_sub_cancel' hlt]
    refine RepL.append ?_ ?_
    · have := (hz.flat_rep l.toNat).rep (R := R) (w := w) (us := (List.replicate l.toNat zero).flatten) (by
        have := repL_vals R w (List.replicate l.toNat zero).flatten
        rwa [List.map_flatten, List.map_replicate] at this)
      exact this
    · have := repL_any (R := R) (w := w) (List.replicate (c.toNat - l.toNat) zero).flatten
      rwa [List.length_flatten, List.map_replicate, List.sum_replicate_nat, hi.len] at this
  have hr2 := hr.newBx (us := madeCells z.cells (c.toNat * inf.size)) hrep (fun u hu => by
    rw [hcells, List.mem_flatten] at hu
    obtain ⟨q, hq, hu⟩ := hu
    rw [(List.mem_replicate.1 hq).2] at hu
    exact hone u hu) E
  have hmx : c.toNat ≤ maxLen := by simp only [maxLen]; omega
  exact h (some (w.heap.size, c.toNat)) _ _ ⟨R, hr2.put (s := .rb (some (w.heap.size, c.toNat)) (List.replicate l.toNat z0).length) (by simpa [Nat.blt_eq] using hd) ⟨by rw [List.length_replicate]; rfl, by rw [List.length_replicate]; exact ⟨hlt, hmx⟩⟩⟩
theorem xmakeRb {α : Type} {f : α → List Sd} {d : Nat} {T E : TypeId} {k bytes : Nat} {zero : List Value} {x y : Operand} {k1 k2 : IntKind} {l c : Int} (z0 : α) (hm : MakeOk l c bytes) (hu : P.underlying T = some (.slice E)) (hi : Inf P E k bytes zero) (hz : WkL (zero.map .v) (f z0)) (hl : ev t x = some (.v (.int k1 l))) (hc : ev t y = some (.v (.int k2 c))) (hw : want ops t gd = some true) (hd : Nat.blt d n = true)
    (h : ∀ id, HL P ops Q g n ⟨(d, .rb id (List.replicate l.toNat z0).length) :: t, rbx id E k (List.map f (List.replicate l.toNat z0)) :: bx, tk⟩ rest) :
    HL P ops Q g n ⟨t, bx, tk⟩ (⟨some d, .makeSlice T x y, ty, ps, af, gd⟩ :: rest) :=
  ⟨hx_world (σ := ⟨t, bx, tk⟩) hw (wp_makeRb (σ := ⟨t, bx, tk⟩) z0 hm hu hi hz hl hc hd fun id => (h id).h)⟩
theorem pv_indexAddrRbM {α : Type} {l : List α} {d : Option Nat} {x ix : Operand} {T E : TypeId} {ki : IntKind} {z : Int} {ag : Bool} {k : Nat} {id : Option (Nat × Nat)} {m : Nat} {y : α} (hm : m = l.length) (h0 : 0 ≤ z) (hy : l[z.toNat]? = some y) (hu : P.underlying T = some (.slice E)) (hs : Shp P E ag k) (hx : ev σ.t x = some (.rb id m)) (hi : ev σ.t ix = some (.v (.int ki z))) :
    Val P g n σ ⟨d, .indexAddr T x ix, ty, ps, af, gd⟩ (.v (.pointer (some ⟨idb id, z.toNat * k, none⟩))) :=
  pv_indexAddrRb (hm ▸ (List.getElem?_eq_some_iff.1 hy).1) (Int.toNat_of_nonneg h0).symm hu hs hx hi
theorem qv_loadRb {α : Type} {f : α → List Sd} {k : Nat} [EncLen f k] {l : List α} {y : α} {d : Option Nat} {x : Operand} {T E : TypeId} {ag : Bool} {kk o off i : Nat} {id : Option (Nat × Nat)} {s : Sd} (j : Nat) (hy : l[i]? = some y) (ho : o = i * k + off) (hl : off + kk ≤ k) (hs : partS ag kk off (f y) = some s)
    (h : Shp P T ag kk) (hx : ev σ.t x = some (.v (.pointer (some ⟨idb id, o, none⟩)))) (hb : σ.bx[j]? = some (rbx id E k (List.map f l))) : ValE P g n σ ⟨d, .load T x, ty, ps, af, gd⟩ s :=
  qv_loadR (pre := []) j h hx hb (enc_rows l) (map_at hy) hs (by simpa using ho) hl
theorem xstoreRb {α : Type} {f : α → List Sd} {k : Nat} [EncLen f k] {l : List α} {y : α} {T E : TypeId} {x v : Operand} {ag : Bool} {kk o off i : Nat} {id : Option (Nat × Nat)} {s : Sd} (j : Nat) (y' : α) (hy : l[i]? = some y) (ho : o = i * k + off) (hl : off + kk ≤ k) (hs : Shp P T ag kk) (hx : ev t x = some (.v (.pointer (some ⟨idb id, o, none⟩)))) (hb : bx[j]? = some (rbx id E k (List.map f l))) (hv : ev t v = some s)
    (h1 : oneS s = true) (hc : (cellsS s).length = kk) (hp : WkL (putC off (cellsS s) (f y)) (f y')) (hw : want ops t gd = some true) (h : HL P ops Q g n ⟨t, bx.set j (rbx id E k (List.map f (l.set i y'))), tk⟩ rest) : HL P ops Q g n ⟨t, bx, tk⟩ (⟨none, .store T x v, ty, ps, af, gd⟩ :: rest) := by
  refine xstoreR (pre := []) (post := List.replicate ((idc id - (List.map f l).length) * k) .any) j hs hx hb hv h1 (by rw [hc]; exact Nat.beq_refl _) (enc_rows l) (map_at hy) (by simpa using ho) hl hw ?_
  refine ⟨hx_imp (σ' := ⟨t, bx.set j (rbx id E k (List.map f (l.set i y'))), tk⟩) ⟨ImpT.refl _, SubM.of (SubB.set_ _ _ rfl rfl ?_) (SubT.refl _)⟩ h.h⟩
  have e : (List.map f (l.set i y')).length = (List.map f l).length := by simp
  show WkL ([] ++ (((List.map f l).set i (putC off (cellsS s) (f y))).flatten ++ List.replicate ((idc id - (List.map f l).length) * k) .any)) ((List.map f (l.set i y')).flatten ++ List.replicate ((idc id - (List.map f (l.set i y')).length) * k) .any)
  rw [e, ← map_set_, List.nil_append]
  exact WkL.rows hp _ _
/-- A row in place becomes data. -/
theorem xfreezeL {l0 : List Oper} {α : Type} {f : α → List Sd} {k : Nat} [EncLen f k] {l : List α} {m : Nat} (i dd : Nat) {id : Option (Nat × Nat)} {E : TypeId} (hm : m = l.length) (hk0 : Nat.blt 0 k = true) (hb : bx[i]? = some (rbx id E k (List.map f l))) (hl : look t dd = some (.rb id m))
    (h : HL P ops Q g n ⟨(dd, .sl k none (List.map f l)) :: t, bx.eraseIdx i, tk⟩ l0) : HL P ops Q g n ⟨t, bx, tk⟩ l0 := ⟨hx_freeze (σ := ⟨t, bx, tk⟩) (by simpa [Nat.blt_eq] using hk0) hb (enc_rows l) (by rw [List.length_map, ← hm]; exact hl) h.h⟩
/-- A row in place has as many elements as are asked for. -/
theorem WkL.rb_take {k : Nat} {id : Option (Nat × Nat)} {rows : List (List Sd)} (hk : ∀ r ∈ rows, r.length = k) (h : Nat) (hl : rows.length ≤ idc id) : WkL (rows.flatten ++ List.replicate ((idc id - rows.length) * k) .any) ((rows.take h).flatten ++ List.replicate ((idc id - (rows.take h).length) * k) .any) := by
  have e : rows.flatten = (rows.take h).flatten ++ (rows.drop h).flatten := by rw [← List.flatten_append, List.take_append_drop]
  rw [e, List.append_assoc]
  refine WkL.app (.refl _) ?_
  have h1 := flat_len (k := k) (rows := rows.drop h) fun r hr => hk r (List.mem_of_mem_drop hr)
  have h2 : (idc id - (rows.take h).length) * k = (rows.drop h).flatten.length + (idc id - rows.length) * k := by
    rw [h1, ← Nat.add_mul]; congr 1; rw [List.length_take, List.length_drop]; omega
  rw [h2, rep_add]
  refine WkL.app ?_ (.refl _)
  generalize (rows.drop h).flatten = q
  induction q with
  | nil => exact .nil
  | cons x q ih => rw [List.length_cons, List.replicate_succ]; exact .cons (Wk.any x) ih
theorem hx_takeRb {Φ : Act → World → Prop} {α : Type} {f : α → List Sd} {k : Nat} [EncLen f k] {l : List α} {i dd m m0 : Nat} {id : Option (Nat × Nat)} {E : TypeId} (h : Nat) (hm0 : m0 = l.length) (hb : σ.bx[i]? = some (rbx id E k (List.map f l))) (hl : look σ.t dd = some (.rb id m0)) (hm : look σ.t m = some (.rb id h)) (hle : h ≤ l.length)
    (hx : Hx g n ⟨(m, .rb id (l.take h).length) :: σ.t, σ.bx.set i (rbx id E k (List.map f (l.take h))), σ.tk⟩ Φ) : Hx g n σ Φ := by
  rintro a w ⟨R, hr⟩
  subst hm0
  obtain ⟨v, _, _, hok⟩ := hr.tm _ _ hl
  have hcap : (List.map f l).length ≤ idc id := by
    rw [List.length_map]
    cases id with
    | none => have : l.length = 0 := hok; omega
    | some q => exact hok.1
  have hw := WkL.rb_take (id := id) (enc_rows (f := f) l) h hcap
  rw [← List.map_take] at hw
  refine hx a w ⟨R, hr.imp ⟨ImpT.cons hm (.eq (by rw [List.length_take, Nat.min_eq_left hle])) (ImpT.refl _), SubM.of (SubB.at_ i hb rfl rfl hw) (SubT.refl _)⟩⟩
theorem xtakeRb {α : Type} {f : α → List Sd} {k : Nat} [EncLen f k] {l : List α} {m0 : Nat} {id : Option (Nat × Nat)} {E : TypeId} (i dd m h : Nat) (hm0 : m0 = l.length) (hle : h ≤ l.length) (hb : bx[i]? = some (rbx id E k (List.map f l))) (hl : look t dd = some (.rb id m0)) (hm : look t m = some (.rb id h))
    (hx : HL P ops Q g n ⟨(m, .rb id (l.take h).length) :: t, bx.set i (rbx id E k (List.map f (l.take h))), tk⟩ rest) : HL P ops Q g n ⟨t, bx, tk⟩ rest := ⟨hx_takeRb (σ := ⟨t, bx, tk⟩) h hm0 hb hl hm hle hx.h⟩
theorem pv_sliceRbHi {m : Nat} {d : Option Nat} {x : Operand} {T E : TypeId} {hi : Operand} {z : Int} {ki : IntKind} {ag : Bool} {k : Nat} {id : Option (Nat × Nat)} (h : 0 ≤ z ∧ z ≤ (m : Int)) (hu : P.underlying T = some (.slice E)) (hs : Shp P E ag k) (hx : ev σ.t x = some (.rb id m)) (hh : ev σ.t hi = some (.v (.int ki z))) :
    Val P g n σ ⟨d, .slice T x none (some hi) none, ty, ps, af, gd⟩ (.rb id z.toNat) := pv_sliceRb hu hs hx (Bd.int_ h.1 hh) (by omega)
theorem pv_lenVN {d : Option Nat} {x : Operand} {A : Option Addr} {m c : Nat} {T E : TypeId} (hu : P.underlying T = some (.slice E)) (hx : ev σ.t x = some (.v (.slice A m c))) : Val P g n σ ⟨d, .call ⟨.builtin .len, #[x], #[T]⟩, ty, ps, af, gd⟩ (.v (.int .i64 (m : Int))) := by
  refine ⟨fun R a w hr => ?_⟩
  have h1 : a.eval x = _ := hr.ev hx
  exact ⟨_, rfl, fun W => by simp [execOp, resolve, invoke, builtin, Builtin.len_, h1, goInt, run_underlying hu]⟩
theorem pv_indexAddrVN {d : Option Nat} {x ix : Operand} {T E : TypeId} {ki : IntKind} {z : Int} {ag : Bool} {k b o m c : Nat} (h : 0 ≤ z ∧ z < (m : Int)) (hu : P.underlying T = some (.slice E)) (hs : Shp P E ag k) (hx : ev σ.t x = some (.v (.slice (some ⟨b, o, none⟩) m c))) (hi : ev σ.t ix = some (.v (.int ki z))) :
    Val P g n σ ⟨d, .indexAddr T x ix, ty, ps, af, gd⟩ (.v (.pointer (some ⟨b, o + z.toNat * k, none⟩))) := by
  refine ⟨fun R a w hr => ?_⟩
  obtain ⟨i, rfl⟩ : ∃ i : Nat, z = (i : Int) := ⟨z.toNat, (Int.toNat_of_nonneg h.1).symm⟩
  have hl : i < m := by omega
  have h1 : a.eval x = _ := hr.ev hx
  have h6 : a.eval ix = .int ki i := hr.ev hi
  exact ⟨_, rfl, fun W => by simp [execOp, Instr.indexAt, run_underlying hu, h1, h6, asIntOf, hl, hs.run_size, add_lit_]⟩
/-- A slice of an array in a variable. -/
theorem pv_sliceArr {d : Option Nat} {x : Operand} {T E : TypeId} {lo hi : Option Operand} {l h len : Nat} {ag : Bool} {k b o : Nat} (hq : l ≤ h ∧ h ≤ len ∧ l < len) (hu : P.underlying T = some (.array len E)) (hs : Shp P E ag k) (hx : ev σ.t x = some (.v (.pointer (some ⟨b, o, none⟩)))) (hl : Bd σ.t 0 lo l) (hh : Bd σ.t len hi h) :
    Val P g n σ ⟨d, .slice T x lo hi none, ty, ps, af, gd⟩ (.v (.slice (some ⟨b, o + l * k, none⟩) (h - l) (len - l))) := by
  refine ⟨fun R a w hr => ?_⟩
  have e : a.eval x = _ := hr.ev hx
  have hb := fun W => bounds_run (P := P) (b := false) hr hl hh hq.1 hq.2.1 W
  have hne : len ≠ l := by omega
  refine ⟨_, rfl, fun W => ?_⟩
  simp [execOp, Instr.sliceAt, run_underlying hu, e, Instr.sureAddr, hb, hs.run_size, hne, add_lit_]
end
end Go.Proofs.Ytpddiffpanihdaa
