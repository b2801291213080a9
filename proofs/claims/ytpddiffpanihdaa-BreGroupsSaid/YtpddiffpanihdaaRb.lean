/- Rows that are written in place: made, read, written, appended to; a row in place as what is appended. -/
import Derived.Test.YtpddiffpanihdaaExt
import Derived.Laws.MakeOwn
namespace Go.Proofs.Ytpddiffpanihdaa
open Go.RowKit
theorem madeCells_rep (z : Array Value) : ∀ c : Nat, (madeCells z (c * z.size)).toList = (List.replicate c z.toList).flatten
  | 0 => by simp [madeCells]
  | c + 1 => by
    have ih := madeCells_rep z c
    unfold madeCells at ih ⊢
    simp only [Array.toList_map, Array.toList_range] at ih ⊢
    rw [Nat.add_mul, Nat.one_mul, List.range_add, List.map_append, ih, List.replicate_succ', List.flatten_append]
    congr 1
    simp only [List.flatten_cons, List.flatten_nil, List.append_nil, List.map_map]
    apply List.ext_getElem?
    intro i
    rw [List.getElem?_map]
    rcases Nat.lt_or_ge i z.size with h | h
    · rw [List.getElem?_range h]
      simp only [Option.map_some, Function.comp]
      rw [Nat.mul_add_mod_self_right, Nat.mod_eq_of_lt h, Array.getElem?_toList, Array.getElem?_eq_getElem h, getElem!_pos z i h]
    · rw [List.getElem?_eq_none (by simpa using h), List.getElem?_eq_none (by simpa using h)]; rfl
theorem WkL.flat_rep {a b : List Sd} (h : WkL a b) : ∀ n : Nat, WkL (List.replicate n a).flatten (List.replicate n b).flatten
  | 0 => .nil
  | n + 1 => by rw [List.replicate_succ, List.replicate_succ, List.flatten_cons, List.flatten_cons]; exact h.app (WkL.flat_rep h n)
theorem rep_add {α : Type} (m n : Nat) (x : α) : List.replicate (m + n) x = List.replicate m x ++ List.replicate n x := by
  induction m with
  | zero => simp
  | succ m ih => rw [Nat.succ_add, List.replicate_succ, List.replicate_succ, List.cons_append, ih]
theorem SubT.refl : ∀ l : List Tk, SubT l l
  | [] => .nil _
  | _ :: l => .keep rfl (SubT.refl l)
theorem SubB.at_ {x x' : Bx} : ∀ {l : List Bx} (i : Nat), l[i]? = some x → x.b = x'.b → x.E = x'.E → WkL x.cs x'.cs → SubB l (l.set i x')
  | [], i, h, _, _, _ => by simp at h
  | y :: l, 0, h, hb, hE, hc => by
    simp at h; subst h
    exact .keep hb hE hc (SubB.refl l)
  | y :: l, i + 1, h, hb, hE, hc => .keep rfl rfl (.refl _) (SubB.at_ i (by simpa using h) hb hE hc)
theorem SubB.set_ {x x' : Bx} : ∀ (l : List Bx) (i : Nat), x.b = x'.b → x.E = x'.E → WkL x.cs x'.cs → SubB (l.set i x) (l.set i x')
  | [], _, _, _, _ => .nil _
  | y :: l, 0, hb, hE, hc => .keep hb hE hc (SubB.refl l)
  | y :: l, i + 1, hb, hE, hc => .keep rfl rfl (.refl _) (SubB.set_ l i hb hE hc)
/-- Elements of a slice that can be made. -/
def MakeOk (l c : Int) (bytes : Nat) : Prop := 0 ≤ l ∧ l ≤ c ∧ c ≤ 9223372036854775807 ∧ (bytes : Int) * c ≤ 281474976710656
section
variable {P : Program} {Q : Exit → Act → World → Prop} {ops : Array Oper} {g : Gh} {n : Nat} {σ : St} {t : List (Nat × Sd)} {bx : List Bx} {tk : List Tk} {rest : List Oper} {ty : TypeId} {ps : String} {af : Array Edge} {gd : Option (Nat × Bool)} {fuel : Nat} {listed : Array Bool} {K : Act → World → Prop}
theorem wp_makeRb {α : Type} {f : α → List Sd} {d : Nat} {T E : TypeId} {k bytes : Nat} {zero : List Value} {x y : Operand} {k1 k2 : IntKind} {l c : Int} (z0 : α) (hm : MakeOk l c bytes) (hu : P.underlying T = some (.slice E)) (hi : Inf P E k bytes zero) (hz : WkL (zero.map .v) (f z0)) (hl : ev σ.t x = some (.v (.int k1 l))) (hc : ev σ.t y = some (.v (.int k2 c))) (hd : Nat.blt d n = true)
    (h : ∀ id, Hx g n ⟨(d, .rb id (List.replicate l.toNat z0).length) :: σ.t, rbx id E k (List.map f (List.replicate l.toNat z0)) :: σ.bx, σ.tk⟩ K) :
    Hx g n σ (fun a w => Oper.wp P ⟨some d, .makeSlice T x y, ty, ps, af, gd⟩ a w K Q) := by
  rintro a w ⟨R, hr⟩
  obtain ⟨inf, z, e1, e2, e3, e4, e5⟩ := hi.info
  have hzs : z.cells.size = k := by rw [← hi.len, ← e3]; simp
  have hone : ∀ u ∈ z.cells.toList, u.oneCell' = true := by rw [e3]; exact List.all_eq_true.1 hi.one
  obtain ⟨h0, hlc, h63, hby⟩ := hm
  have ex : a.eval x = .int k1 l := hr.ev hl
  have ey : a.eval y = .int k2 c := hr.ev hc
  have hrun := run_make (P := P) w T E inf z hu e1 e2 k1 k2 l c h0 hlc (by rw [e5]; exact hby) h63
  unfold Oper.wp execOp
  simp only [ex, ey, Sem.run_bind, hrun, Result.andThen_ok, Sem.run_pure]
  have hcells : (madeCells z.cells (c.toNat * inf.size)).toList = (List.replicate c.toNat z.cells.toList).flatten := by rw [e4, ← hzs]; exact madeCells_rep _ _
  have hlt : l.toNat ≤ c.toNat := by omega
  have hrep : RepL R w ((List.map f (List.replicate l.toNat z0)).flatten ++ List.replicate ((c.toNat - (List.map f (List.replicate l.toNat z0)).length) * k) .any) (madeCells z.cells (c.toNat * inf.size)).toList := by
    rw [hcells, e3, ← Nat.add_sub_cancel' hlt, rep_add, List.flatten_append, List.map_replicate, List.length_replicate, Nat.add_sub_cancel' hlt]
    refine RepL.append ?_ ?_
    · have := (hz.flat_rep l.toNat).rep (R := R) (w := w) (us := (List.replicate l.toNat zero).flatten) (by
        have := repL_vals R w (List.replicate l.toNat zero).flatten
        rwa [List.map_flatten, List.map_replicate] at this)
      exact this
    · have := repL_any (R := R) (w := w) (List.replicate (c.toNat - l.toNat) zero).flatten
      rwa [List.length_flatten, List.map_replicate, List.sum_replicate_nat, hi.len] at this
  have hr2 := hr.newBx (us := madeCells z.cells (c.toNat * inf.size)) hrep (fun u hu => by
    rw [hcells, List.mem_flatten] at hu
    obtain ⟨q, hq, hu⟩ := hu
    rw [(List.mem_replicate.1 hq).2] at hu
    exact hone u hu) E
  have hmx : c.toNat ≤ maxLen := by simp only [maxLen]; omega
  exact h (some (w.heap.size, c.toNat)) _ _ ⟨R, hr2.put (s := .rb (some (w.heap.size, c.toNat)) (List.replicate l.toNat z0).length) (by simpa [Nat.blt_eq] using hd) ⟨by rw [List.length_replicate]; rfl, by rw [List.length_replicate]; exact ⟨hlt, hmx⟩⟩⟩
theorem xmakeRb {α : Type} {f : α → List Sd} {d : Nat} {T E : TypeId} {k bytes : Nat} {zero : List Value} {x y : Operand} {k1 k2 : IntKind} {l c : Int} (z0 : α) (hm : MakeOk l c bytes) (hu : P.underlying T = some (.slice E)) (hi : Inf P E k bytes zero) (hz : WkL (zero.map .v) (f z0)) (hl : ev t x = some (.v (.int k1 l))) (hc : ev t y = some (.v (.int k2 c))) (hw : want ops t gd = some true) (hd : Nat.blt d n = true)
    (h : ∀ id, HL P ops Q g n ⟨(d, .rb id (List.replicate l.toNat z0).length) :: t, rbx id E k (List.map f (List.replicate l.toNat z0)) :: bx, tk⟩ rest) :
    HL P ops Q g n ⟨t, bx, tk⟩ (⟨some d, .makeSlice T x y, ty, ps, af, gd⟩ :: rest) :=
  ⟨hx_world (σ := ⟨t, bx, tk⟩) hw (wp_makeRb (σ := ⟨t, bx, tk⟩) z0 hm hu hi hz hl hc hd fun id => (h id).h)⟩
theorem wmakeRb {α : Type} {f : α → List Sd} {d : Nat} {T E : TypeId} {k bytes : Nat} {zero : List Value} {x y : Operand} {k1 k2 : IntKind} {l c : Int} (z0 : α) (hm : MakeOk l c bytes) (hu : P.underlying T = some (.slice E)) (hi : Inf P E k bytes zero) (hz : WkL (zero.map .v) (f z0)) (hl : ev t x = some (.v (.int k1 l))) (hc : ev t y = some (.v (.int k2 c))) (hw : want ops t gd = some true) (hd : Nat.blt d n = true)
    (h : ∀ id, HA P ops Q g n ⟨(d, .rb id (List.replicate l.toNat z0).length) :: t, rbx id E k (List.map f (List.replicate l.toNat z0)) :: bx, tk⟩ fuel listed) :
    HW P ops Q g n ⟨t, bx, tk⟩ fuel listed ⟨some d, .makeSlice T x y, ty, ps, af, gd⟩ :=
  hw_ hw fun _ hK => wp_makeRb (σ := ⟨t, bx, tk⟩) z0 hm hu hi hz hl hc hd fun id => (h id).k hK
/-- A row that is nil yet: nothing lies there. -/
theorem SubM.addRb (bx : List Bx) (tk : List Tk) (E : TypeId) (k : Nat) : SubM bx tk (rbx Option.none E k [] :: bx) tk := by
  have e : (rbx Option.none E k []).cs = [] := by simp [idc]
  exact ⟨fun R w h => ⟨h.lt, fun x hx hne => by
      rcases List.mem_cons.1 hx with rfl | hx
      · exact absurd e hne
      · exact h.box x hx hne, h.own, by rw [List.filterMap_cons, bxb_none e]; exact h.nod⟩,
    fun b hb => by unfold dom at *; rw [List.filterMap_cons, bxb_none e] at hb; exact hb⟩
/-- A nil slice in a variable as a row in place that is nil yet. -/
theorem Wk.nil_rb : Wk (.v (.slice none 0 0)) (.rb none 0) := fun _ _ _ h => ⟨h, rfl⟩
theorem Wk.own_nil (k : Nat) : Wk (.sl k (some none) []) (.v (.slice none 0 0)) := fun _ _ _ ⟨A, c, e, _, h2, _, _⟩ => by obtain ⟨rfl, rfl⟩ := h2 rfl; exact e
theorem xaddRb {α : Type} (f : α → List Sd) (E : TypeId) (k : Nat) (h : HL P ops Q g n ⟨t, rbx none E k (List.map f []) :: bx, tk⟩ rest) : HL P ops Q g n ⟨t, bx, tk⟩ rest :=
  ⟨hx_imp (σ := ⟨t, bx, tk⟩) (σ' := ⟨t, rbx none E k (List.map f []) :: bx, tk⟩) ⟨ImpT.refl _, SubM.addRb bx tk E k⟩ h.h⟩
theorem paddRb {α : Type} (f : α → List Sd) (E : TypeId) (k : Nat) (h : HA P ops Q g n ⟨t, rbx none E k (List.map f []) :: bx, tk⟩ fuel listed) : HA P ops Q g n ⟨t, bx, tk⟩ fuel listed :=
  ⟨hx_imp (σ := ⟨t, bx, tk⟩) (σ' := ⟨t, rbx none E k (List.map f []) :: bx, tk⟩) ⟨ImpT.refl _, SubM.addRb bx tk E k⟩ h.h⟩
theorem pv_indexAddrRbM {α : Type} {l : List α} {d : Option Nat} {x ix : Operand} {T E : TypeId} {ki : IntKind} {z : Int} {ag : Bool} {k : Nat} {id : Option (Nat × Nat)} {m : Nat} {y : α} (hm : m = l.length) (h0 : 0 ≤ z) (hy : l[z.toNat]? = some y) (hu : P.underlying T = some (.slice E)) (hs : Shp P E ag k) (hx : ev σ.t x = some (.rb id m)) (hi : ev σ.t ix = some (.v (.int ki z))) :
    Val P g n σ ⟨d, .indexAddr T x ix, ty, ps, af, gd⟩ (.v (.pointer (some ⟨idb id, z.toNat * k, none⟩))) :=
  pv_indexAddrRb (hm ▸ (List.getElem?_eq_some_iff.1 hy).1) (Int.toNat_of_nonneg h0).symm hu hs hx hi
theorem qv_loadRb {α : Type} {f : α → List Sd} {k : Nat} [EncLen f k] {l : List α} {y : α} {d : Option Nat} {x : Operand} {T E : TypeId} {ag : Bool} {kk o off i : Nat} {id : Option (Nat × Nat)} {s : Sd} (j : Nat) (hy : l[i]? = some y) (ho : o = i * k + off) (hl : off + kk ≤ k) (hs : partS ag kk off (f y) = some s)
    (h : Shp P T ag kk) (hx : ev σ.t x = some (.v (.pointer (some ⟨idb id, o, none⟩)))) (hb : σ.bx[j]? = some (rbx id E k (List.map f l))) : ValE P g n σ ⟨d, .load T x, ty, ps, af, gd⟩ s :=
  qv_loadR (pre := []) j h hx hb (enc_rows l) (map_at hy) hs (by simpa using ho) hl
theorem xstoreRb {α : Type} {f : α → List Sd} {k : Nat} [EncLen f k] {l : List α} {y : α} {T E : TypeId} {x v : Operand} {ag : Bool} {kk o off i : Nat} {id : Option (Nat × Nat)} {s : Sd} (j : Nat) (y' : α) (hy : l[i]? = some y) (ho : o = i * k + off) (hl : off + kk ≤ k) (hs : Shp P T ag kk) (hx : ev t x = some (.v (.pointer (some ⟨idb id, o, none⟩)))) (hb : bx[j]? = some (rbx id E k (List.map f l))) (hv : ev t v = some s)
    (h1 : oneS s = true) (hc : (cellsS s).length = kk) (hp : WkL (putC off (cellsS s) (f y)) (f y')) (hw : want ops t gd = some true) (h : HL P ops Q g n ⟨t, bx.set j (rbx id E k (List.map f (l.set i y'))), tk⟩ rest) : HL P ops Q g n ⟨t, bx, tk⟩ (⟨none, .store T x v, ty, ps, af, gd⟩ :: rest) := by
  refine xstoreR (pre := []) (post := List.replicate ((idc id - (List.map f l).length) * k) .any) j hs hx hb hv h1 (by rw [hc]; exact Nat.beq_refl _) (enc_rows l) (map_at hy) (by simpa using ho) hl hw ?_
  refine ⟨hx_imp (σ' := ⟨t, bx.set j (rbx id E k (List.map f (l.set i y'))), tk⟩) ⟨ImpT.refl _, SubM.of (SubB.set_ _ _ rfl rfl ?_) (SubT.refl _)⟩ h.h⟩
  have e : (List.map f (l.set i y')).length = (List.map f l).length := by simp
  show WkL ([] ++ (((List.map f l).set i (putC off (cellsS s) (f y))).flatten ++ List.replicate ((idc id - (List.map f l).length) * k) .any)) ((List.map f (l.set i y')).flatten ++ List.replicate ((idc id - (List.map f (l.set i y')).length) * k) .any)
  rw [e, ← map_set_, List.nil_append]
  exact WkL.rows hp _ _
theorem wstoreRb {α : Type} {f : α → List Sd} {k : Nat} [EncLen f k] {l : List α} {y : α} {T E : TypeId} {x v : Operand} {ag : Bool} {kk o off i : Nat} {id : Option (Nat × Nat)} {s : Sd} (j : Nat) (y' : α) (hy : l[i]? = some y) (ho : o = i * k + off) (hl : off + kk ≤ k) (hs : Shp P T ag kk) (hx : ev t x = some (.v (.pointer (some ⟨idb id, o, none⟩)))) (hb : bx[j]? = some (rbx id E k (List.map f l))) (hv : ev t v = some s)
    (h1 : oneS s = true) (hc : (cellsS s).length = kk) (hp : WkL (putC off (cellsS s) (f y)) (f y')) (hw : want ops t gd = some true) (h : HA P ops Q g n ⟨t, bx.set j (rbx id E k (List.map f (l.set i y'))), tk⟩ fuel listed) : HW P ops Q g n ⟨t, bx, tk⟩ fuel listed ⟨none, .store T x v, ty, ps, af, gd⟩ := by
  refine wstoreR (pre := []) (post := List.replicate ((idc id - (List.map f l).length) * k) .any) j hs hx hb hv h1 (by rw [hc]; exact Nat.beq_refl _) (enc_rows l) (map_at hy) (by simpa using ho) hl hw ?_
  refine ⟨hx_imp (σ' := ⟨t, bx.set j (rbx id E k (List.map f (l.set i y'))), tk⟩) ⟨ImpT.refl _, SubM.of (SubB.set_ _ _ rfl rfl ?_) (SubT.refl _)⟩ h.h⟩
  have e : (List.map f (l.set i y')).length = (List.map f l).length := by simp
  show WkL ([] ++ (((List.map f l).set i (putC off (cellsS s) (f y))).flatten ++ List.replicate ((idc id - (List.map f l).length) * k) .any)) ((List.map f (l.set i y')).flatten ++ List.replicate ((idc id - (List.map f (l.set i y')).length) * k) .any)
  rw [e, ← map_set_, List.nil_append]
  exact WkL.rows hp _ _
/-- A part of an array's element within an element of a row in place. -/
theorem putA_ {α β : Type} {f : α → List Sd} {fi : β → List Sd} {K ki m i off o : Nat} [EncLen f K] [EncLen fi ki] {a : Arr m β} {y y' : α} {z z' : β} {ss pre post : List Sd} (hz : a.l[i]? = some z) (hf : f y = pre ++ ((List.map fi a.l).flatten ++ post)) (hf' : f y' = pre ++ ((List.map fi (a.set i z').l).flatten ++ post)) (ho : o = pre.length + i * ki + off) (hl : off + ss.length ≤ ki) (hp : putC off ss (fi z) = fi z') : putC o ss (f y) = f y' ∧ o + ss.length ≤ K := by
  have hk : (f y).length = K := EncLen.h (f := f) y
  obtain ⟨p1, p2⟩ := put_row (pre := pre) (post := post) (ss := ss) (enc_rows (f := fi) a.l) (map_at hz) ho hl
  rw [← hf] at p1 p2
  rw [hp, map_set_] at p1
  exact ⟨p1.trans hf'.symm, hk ▸ p2⟩
theorem xstoreRbA {α β : Type} {f : α → List Sd} {fi : β → List Sd} {K ki m : Nat} [EncLen f K] [EncLen fi ki] {l : List α} {y : α} {a : Arr m β} {z : β} {T E : TypeId} {x v : Operand} {ag : Bool} {kk o off i ix : Nat} {id : Option (Nat × Nat)} {s : Sd} (j : Nat) (pre post : List Sd) (y' : α) (z' : β) (hy : l[i]? = some y) (hz : a.l[ix]? = some z) (hf : f y = pre ++ ((List.map fi a.l).flatten ++ post)) (hf' : f y' = pre ++ ((List.map fi (a.set ix z').l).flatten ++ post)) (ho : o = i * K + (pre.length + ix * ki + off)) (hl : off + kk ≤ ki) (hs : Shp P T ag kk) (hx : ev t x = some (.v (.pointer (some ⟨idb id, o, none⟩)))) (hb : bx[j]? = some (rbx id E K (List.map f l))) (hv : ev t v = some s)
    (h1 : oneS s = true) (hc : (cellsS s).length = kk) (hp : putC off (cellsS s) (fi z) = fi z') (hw : want ops t gd = some true) (h : HL P ops Q g n ⟨t, bx.set j (rbx id E K (List.map f (l.set i y'))), tk⟩ rest) : HL P ops Q g n ⟨t, bx, tk⟩ (⟨none, .store T x v, ty, ps, af, gd⟩ :: rest) := by
  obtain ⟨p1, p2⟩ := putA_ (f := f) (K := K) hz hf hf' rfl (by rw [hc]; exact hl) hp
  exact xstoreRb j y' hy ho (by rw [hc] at p2; exact p2) hs hx hb hv h1 hc (by rw [p1]; exact .refl _) hw h
theorem wstoreRbA {α β : Type} {f : α → List Sd} {fi : β → List Sd} {K ki m : Nat} [EncLen f K] [EncLen fi ki] {l : List α} {y : α} {a : Arr m β} {z : β} {T E : TypeId} {x v : Operand} {ag : Bool} {kk o off i ix : Nat} {id : Option (Nat × Nat)} {s : Sd} (j : Nat) (pre post : List Sd) (y' : α) (z' : β) (hy : l[i]? = some y) (hz : a.l[ix]? = some z) (hf : f y = pre ++ ((List.map fi a.l).flatten ++ post)) (hf' : f y' = pre ++ ((List.map fi (a.set ix z').l).flatten ++ post)) (ho : o = i * K + (pre.length + ix * ki + off)) (hl : off + kk ≤ ki) (hs : Shp P T ag kk) (hx : ev t x = some (.v (.pointer (some ⟨idb id, o, none⟩)))) (hb : bx[j]? = some (rbx id E K (List.map f l))) (hv : ev t v = some s)
    (h1 : oneS s = true) (hc : (cellsS s).length = kk) (hp : putC off (cellsS s) (fi z) = fi z') (hw : want ops t gd = some true) (h : HA P ops Q g n ⟨t, bx.set j (rbx id E K (List.map f (l.set i y'))), tk⟩ fuel listed) : HW P ops Q g n ⟨t, bx, tk⟩ fuel listed ⟨none, .store T x v, ty, ps, af, gd⟩ := by
  obtain ⟨p1, p2⟩ := putA_ (f := f) (K := K) hz hf hf' rfl (by rw [hc]; exact hl) hp
  exact wstoreRb j y' hy ho (by rw [hc] at p2; exact p2) hs hx hb hv h1 hc (by rw [p1]; exact .refl _) hw h
/-- A row in place is what is appended. -/
theorem SrcOf.rb {α : Type} {f : α → List Sd} {k : Nat} [EncLen f k] {l : List α} {m : Nat} {y : Operand} {E : TypeId} {id : Option (Nat × Nat)} (j : Nat) (hm : m = l.length) (hy : ev σ.t y = some (.rb id m)) (hb : σ.bx[j]? = some (rbx id E k (List.map f l))) : SrcOf g n σ y k (List.map f l) := by
  intro R a w hr
  subst hm
  obtain ⟨e, hok⟩ : a.eval y = _ ∧ _ := hr.ev hy
  rw [e]
  have hk := enc_rows (f := f) l
  cases id with
  | none =>
    have h0 : l.length = 0 := hok
    obtain rfl := List.eq_nil_of_length_eq_zero h0
    exact ⟨none, 0, rfl, by simp, .inl rfl⟩
  | some q =>
    refine ⟨some ⟨q.1, 0, none⟩, q.2, by rw [List.length_map]; rfl, hk, ?_⟩
    by_cases hcs : (rbx (some q) E k (List.map f l)).cs = []
    · have h1 : (List.map f l).flatten = [] := (List.append_eq_nil_iff.1 hcs).1
      have h2 := flat_len hk
      rw [h1] at h2
      rcases Nat.mul_eq_zero.1 h2.symm with h3 | h3
      · exact .inl (List.eq_nil_of_length_eq_zero h3)
      · by_cases hl0 : List.map f l = []
        · exact .inl hl0
        · exact .inr ⟨q.1, 0, [], rfl, by rw [h1]; rfl, by simp, by simp⟩
    · obtain ⟨⟨us, k1, k2, k3⟩, _⟩ := hr.mem.box _ (List.mem_of_getElem? hb) hcs
      have hfl := flat_len hk
      refine .inr ⟨q.1, 0, us.toList.take ((List.map f l).length * k), rfl, ?_, fun u hu => k3 u (List.mem_of_mem_take hu), fun j u hj => ?_⟩
      · have := k2.take ((List.map f l).length * k)
        rwa [← hfl, List.take_left, hfl] at this
      · rw [List.getElem?_take] at hj
        split at hj
        · have hjj : us[j]? = some u := by rw [← Array.getElem?_toList]; exact hj
          rw [Nat.zero_add]; exact (k1.cell j).trans hjj
        · cases hj
theorem xappendMS {α : Type} {f : α → List Sd} {l l2 : List α} {d : Nat} {T E : TypeId} {k bytes : Nat} {zero : List Value} {x y : Operand} {id : Option (Nat × Nat)} (i : Nat) (hby : Room (l.length + l2.length) bytes) (ht : P.underlying T = some (.slice E)) (hi : Inf P E k bytes zero) (hk0 : Nat.blt 0 k = true)
    (hx : ev t x = some (.sl k (some id) (l.map f))) (hs : SrcOf g n ⟨t, bx, tk⟩ y k (l2.map f)) (htk : tk[i]? = some ⟨id, E, k, l.length⟩) (hw : want ops t gd = some true) (hd : Nat.blt d n = true)
    (h : ∀ id', HL P ops Q g n ⟨(d, .sl k (some id') ((l ++ l2).map f)) :: t, bx, tk.set i ⟨id', E, k, (l ++ l2).length⟩⟩ rest) :
    HL P ops Q g n ⟨t, bx, tk⟩ (⟨some d, .call ⟨.builtin .append, #[x, y], #[T, T]⟩, ty, ps, af, gd⟩ :: rest) :=
  ⟨hx_world (σ := ⟨t, bx, tk⟩) hw (wp_append (σ := ⟨t, bx, tk⟩) ht hi hk0 hx hs (by rw [List.length_map]; exact htk) hd (by rw [List.length_map, List.length_map]; exact hby) fun id' => by
    have := h id'
    rw [List.map_append] at this
    rw [show (l.map f ++ l2.map f).length = (l ++ l2).length by simp]; exact this.h)⟩
theorem wappendMS {α : Type} {f : α → List Sd} {l l2 : List α} {d : Nat} {T E : TypeId} {k bytes : Nat} {zero : List Value} {x y : Operand} {id : Option (Nat × Nat)} (i : Nat) (hby : Room (l.length + l2.length) bytes) (ht : P.underlying T = some (.slice E)) (hi : Inf P E k bytes zero) (hk0 : Nat.blt 0 k = true)
    (hx : ev t x = some (.sl k (some id) (l.map f))) (hs : SrcOf g n ⟨t, bx, tk⟩ y k (l2.map f)) (htk : tk[i]? = some ⟨id, E, k, l.length⟩) (hw : want ops t gd = some true) (hd : Nat.blt d n = true)
    (h : ∀ id', HA P ops Q g n ⟨(d, .sl k (some id') ((l ++ l2).map f)) :: t, bx, tk.set i ⟨id', E, k, (l ++ l2).length⟩⟩ fuel listed) :
    HW P ops Q g n ⟨t, bx, tk⟩ fuel listed ⟨some d, .call ⟨.builtin .append, #[x, y], #[T, T]⟩, ty, ps, af, gd⟩ :=
  hw_ hw fun _ hK => wp_append (σ := ⟨t, bx, tk⟩) ht hi hk0 hx hs (by rw [List.length_map]; exact htk) hd (by rw [List.length_map, List.length_map]; exact hby) fun id' => by
    have := h id'
    rw [List.map_append] at this
    rw [show (l.map f ++ l2.map f).length = (l ++ l2).length by simp]; exact this.k hK
theorem xappendNilMS {α : Type} {f : α → List Sd} {l2 : List α} {d : Nat} {T E : TypeId} {k bytes : Nat} {zero : List Value} {x y : Operand} (hby : Room l2.length bytes) (ht : P.underlying T = some (.slice E)) (hi : Inf P E k bytes zero) (hk0 : Nat.blt 0 k = true)
    (hx : ev t x = some (.v (.slice none 0 0))) (hs : SrcOf g n ⟨t, bx, tk⟩ y k (l2.map f)) (hw : want ops t gd = some true) (hd : Nat.blt d n = true)
    (h : ∀ id', HL P ops Q g n ⟨(d, .sl k (some id') (l2.map f)) :: t, bx, ⟨id', E, k, l2.length⟩ :: tk⟩ rest) :
    HL P ops Q g n ⟨t, bx, tk⟩ (⟨some d, .call ⟨.builtin .append, #[x, y], #[T, T]⟩, ty, ps, af, gd⟩ :: rest) :=
  ⟨hx_world (σ := ⟨t, bx, tk⟩) hw (wp_appendNil (σ := ⟨t, bx, tk⟩) ht hi hk0 hx hs hd (by rw [List.length_map]; exact hby) fun id' => by
    rw [List.length_map]; exact (h id').h)⟩
theorem wappendNilMS {α : Type} {f : α → List Sd} {l2 : List α} {d : Nat} {T E : TypeId} {k bytes : Nat} {zero : List Value} {x y : Operand} (hby : Room l2.length bytes) (ht : P.underlying T = some (.slice E)) (hi : Inf P E k bytes zero) (hk0 : Nat.blt 0 k = true)
    (hx : ev t x = some (.v (.slice none 0 0))) (hs : SrcOf g n ⟨t, bx, tk⟩ y k (l2.map f)) (hw : want ops t gd = some true) (hd : Nat.blt d n = true)
    (h : ∀ id', HA P ops Q g n ⟨(d, .sl k (some id') (l2.map f)) :: t, bx, ⟨id', E, k, l2.length⟩ :: tk⟩ fuel listed) :
    HW P ops Q g n ⟨t, bx, tk⟩ fuel listed ⟨some d, .call ⟨.builtin .append, #[x, y], #[T, T]⟩, ty, ps, af, gd⟩ :=
  hw_ hw fun _ hK => wp_appendNil (σ := ⟨t, bx, tk⟩) ht hi hk0 hx hs hd (by rw [List.length_map]; exact hby) fun id' => by
    rw [List.length_map]; exact (h id').k hK
theorem xappendRb {α : Type} {f : α → List Sd} {k : Nat} [EncLen f k] {l l2 : List α} {d : Nat} {T E : TypeId} {bytes : Nat} {zero : List Value} {x y : Operand} {id : Option (Nat × Nat)} {m : Nat} (i : Nat) (hm : m = l.length) (hby : Room (l.length + l2.length) bytes) (ht : P.underlying T = some (.slice E)) (hi : Inf P E k bytes zero) (hk0 : Nat.blt 0 k = true)
    {sx : Sd} (hx : ev t x = some sx) (hwx : Wk sx (.rb id m)) (hs : SrcOf g n ⟨t, bx, tk⟩ y k (l2.map f)) (hb : bx[i]? = some (rbx id E k (List.map f l))) (hw : want ops t gd = some true) (hd : Nat.blt d n = true)
    (h : ∀ id', HL P ops Q g n ⟨(d, .rb id' (l ++ l2).length) :: t, bx.set i (rbx id' E k (List.map f (l ++ l2))), tk⟩ rest) :
    HL P ops Q g n ⟨t, bx, tk⟩ (⟨some d, .call ⟨.builtin .append, #[x, y], #[T, T]⟩, ty, ps, af, gd⟩ :: rest) :=
  ⟨hx_world (σ := ⟨t, bx, tk⟩) hw (wp_appendRb (σ := ⟨t, bx, tk⟩) ht hi hx (by rw [List.length_map, ← hm]; exact hwx) hs (by simpa [Nat.blt_eq] using hk0) hb (enc_rows l) hd (by rw [List.length_map, List.length_map]; exact hby) fun id' => by
    have := h id'
    rw [List.map_append] at this
    rw [show (l.map f ++ l2.map f).length = (l ++ l2).length by simp]; exact this.h)⟩
theorem wappendRb {α : Type} {f : α → List Sd} {k : Nat} [EncLen f k] {l l2 : List α} {d : Nat} {T E : TypeId} {bytes : Nat} {zero : List Value} {x y : Operand} {id : Option (Nat × Nat)} {m : Nat} (i : Nat) (hm : m = l.length) (hby : Room (l.length + l2.length) bytes) (ht : P.underlying T = some (.slice E)) (hi : Inf P E k bytes zero) (hk0 : Nat.blt 0 k = true)
    {sx : Sd} (hx : ev t x = some sx) (hwx : Wk sx (.rb id m)) (hs : SrcOf g n ⟨t, bx, tk⟩ y k (l2.map f)) (hb : bx[i]? = some (rbx id E k (List.map f l))) (hw : want ops t gd = some true) (hd : Nat.blt d n = true)
    (h : ∀ id', HA P ops Q g n ⟨(d, .rb id' (l ++ l2).length) :: t, bx.set i (rbx id' E k (List.map f (l ++ l2))), tk⟩ fuel listed) :
    HW P ops Q g n ⟨t, bx, tk⟩ fuel listed ⟨some d, .call ⟨.builtin .append, #[x, y], #[T, T]⟩, ty, ps, af, gd⟩ :=
  hw_ hw fun _ hK => wp_appendRb (σ := ⟨t, bx, tk⟩) ht hi hx (by rw [List.length_map, ← hm]; exact hwx) hs (by simpa [Nat.blt_eq] using hk0) hb (enc_rows l) hd (by rw [List.length_map, List.length_map]; exact hby) fun id' => by
    have := h id'
    rw [List.map_append] at this
    rw [show (l.map f ++ l2.map f).length = (l ++ l2).length by simp]; exact this.k hK
/-- A row in place becomes data. -/
theorem xfreezeL {l0 : List Oper} {α : Type} {f : α → List Sd} {k : Nat} [EncLen f k] {l : List α} {m : Nat} (i dd : Nat) {id : Option (Nat × Nat)} {E : TypeId} (hm : m = l.length) (hk0 : Nat.blt 0 k = true) (hb : bx[i]? = some (rbx id E k (List.map f l))) (hl : look t dd = some (.rb id m))
    (h : HL P ops Q g n ⟨(dd, .sl k none (List.map f l)) :: t, bx.eraseIdx i, tk⟩ l0) : HL P ops Q g n ⟨t, bx, tk⟩ l0 := ⟨hx_freeze (σ := ⟨t, bx, tk⟩) (by simpa [Nat.blt_eq] using hk0) hb (enc_rows l) (by rw [List.length_map, ← hm]; exact hl) h.h⟩
theorem pfreezeL {α : Type} {f : α → List Sd} {k : Nat} [EncLen f k] {l : List α} {m : Nat} (i dd : Nat) {id : Option (Nat × Nat)} {E : TypeId} (hm : m = l.length) (hk0 : Nat.blt 0 k = true) (hb : bx[i]? = some (rbx id E k (List.map f l))) (hl : look t dd = some (.rb id m))
    (h : HA P ops Q g n ⟨(dd, .sl k none (List.map f l)) :: t, bx.eraseIdx i, tk⟩ fuel listed) : HA P ops Q g n ⟨t, bx, tk⟩ fuel listed := ⟨hx_freeze (σ := ⟨t, bx, tk⟩) (by simpa [Nat.blt_eq] using hk0) hb (enc_rows l) (by rw [List.length_map, ← hm]; exact hl) h.h⟩
theorem xfreezeE {e : Exit} {α : Type} {f : α → List Sd} {k : Nat} [EncLen f k] {l : List α} {m : Nat} (i dd : Nat) {id : Option (Nat × Nat)} {E : TypeId} (hm : m = l.length) (hk0 : Nat.blt 0 k = true) (hb : bx[i]? = some (rbx id E k (List.map f l))) (hl : look t dd = some (.rb id m))
    (h : HE Q g n ⟨(dd, .sl k none (List.map f l)) :: t, bx.eraseIdx i, tk⟩ e) : HE Q g n ⟨t, bx, tk⟩ e := ⟨hx_freeze (σ := ⟨t, bx, tk⟩) (by simpa [Nat.blt_eq] using hk0) hb (enc_rows l) (by rw [List.length_map, ← hm]; exact hl) h.h⟩
/-- A row in place has as many elements as are asked for. -/
theorem WkL.rb_take {k : Nat} {id : Option (Nat × Nat)} {rows : List (List Sd)} (hk : ∀ r ∈ rows, r.length = k) (h : Nat) (hl : rows.length ≤ idc id) : WkL (rows.flatten ++ List.replicate ((idc id - rows.length) * k) .any) ((rows.take h).flatten ++ List.replicate ((idc id - (rows.take h).length) * k) .any) := by
  have e : rows.flatten = (rows.take h).flatten ++ (rows.drop h).flatten := by rw [← List.flatten_append, List.take_append_drop]
  rw [e, List.append_assoc]
  refine WkL.app (.refl _) ?_
  have h1 := flat_len (k := k) (rows := rows.drop h) fun r hr => hk r (List.mem_of_mem_drop hr)
  have h2 : (idc id - (rows.take h).length) * k = (rows.drop h).flatten.length + (idc id - rows.length) * k := by
    rw [h1, ← Nat.add_mul]; congr 1; rw [List.length_take, List.length_drop]; omega
  rw [h2, rep_add]
  refine WkL.app ?_ (.refl _)
  generalize (rows.drop h).flatten = q
  induction q with
  | nil => exact .nil
  | cons x q ih => rw [List.length_cons, List.replicate_succ]; exact .cons (Wk.any x) ih
theorem hx_takeRb {Φ : Act → World → Prop} {α : Type} {f : α → List Sd} {k : Nat} [EncLen f k] {l : List α} {i dd m m0 : Nat} {id : Option (Nat × Nat)} {E : TypeId} (h : Nat) (hm0 : m0 = l.length) (hb : σ.bx[i]? = some (rbx id E k (List.map f l))) (hl : look σ.t dd = some (.rb id m0)) (hm : look σ.t m = some (.rb id h)) (hle : h ≤ l.length)
    (hx : Hx g n ⟨(m, .rb id (l.take h).length) :: σ.t, σ.bx.set i (rbx id E k (List.map f (l.take h))), σ.tk⟩ Φ) : Hx g n σ Φ := by
  rintro a w ⟨R, hr⟩
  subst hm0
  obtain ⟨v, _, _, hok⟩ := hr.tm _ _ hl
  have hcap : (List.map f l).length ≤ idc id := by
    rw [List.length_map]
    cases id with
    | none => have : l.length = 0 := hok; omega
    | some q => exact hok.1
  have hw := WkL.rb_take (id := id) (enc_rows (f := f) l) h hcap
  rw [← List.map_take] at hw
  refine hx a w ⟨R, hr.imp ⟨ImpT.cons hm (.eq (by rw [List.length_take, Nat.min_eq_left hle])) (ImpT.refl _), SubM.of (SubB.at_ i hb rfl rfl hw) (SubT.refl _)⟩⟩
theorem xtakeRb {α : Type} {f : α → List Sd} {k : Nat} [EncLen f k] {l : List α} {m0 : Nat} {id : Option (Nat × Nat)} {E : TypeId} (i dd m h : Nat) (hm0 : m0 = l.length) (hle : h ≤ l.length) (hb : bx[i]? = some (rbx id E k (List.map f l))) (hl : look t dd = some (.rb id m0)) (hm : look t m = some (.rb id h))
    (hx : HL P ops Q g n ⟨(m, .rb id (l.take h).length) :: t, bx.set i (rbx id E k (List.map f (l.take h))), tk⟩ rest) : HL P ops Q g n ⟨t, bx, tk⟩ rest := ⟨hx_takeRb (σ := ⟨t, bx, tk⟩) h hm0 hb hl hm hle hx.h⟩
theorem ptakeRb {α : Type} {f : α → List Sd} {k : Nat} [EncLen f k] {l : List α} {m0 : Nat} {id : Option (Nat × Nat)} {E : TypeId} (i dd m h : Nat) (hm0 : m0 = l.length) (hle : h ≤ l.length) (hb : bx[i]? = some (rbx id E k (List.map f l))) (hl : look t dd = some (.rb id m0)) (hm : look t m = some (.rb id h))
    (hx : HA P ops Q g n ⟨(m, .rb id (l.take h).length) :: t, bx.set i (rbx id E k (List.map f (l.take h))), tk⟩ fuel listed) : HA P ops Q g n ⟨t, bx, tk⟩ fuel listed := ⟨hx_takeRb (σ := ⟨t, bx, tk⟩) h hm0 hb hl hm hle hx.h⟩
theorem pv_sliceRbHi {m : Nat} {d : Option Nat} {x : Operand} {T E : TypeId} {hi : Operand} {z : Int} {ki : IntKind} {ag : Bool} {k : Nat} {id : Option (Nat × Nat)} (h : 0 ≤ z ∧ z ≤ (m : Int)) (hu : P.underlying T = some (.slice E)) (hs : Shp P E ag k) (hx : ev σ.t x = some (.rb id m)) (hh : ev σ.t hi = some (.v (.int ki z))) :
    Val P g n σ ⟨d, .slice T x none (some hi) none, ty, ps, af, gd⟩ (.rb id z.toNat) := pv_sliceRb hu hs hx (Bd.int_ h.1 hh) (by omega)
/-- A variable's contents, said more weakly. -/
theorem xwkB (i : Nat) {b : Nat} {E : TypeId} {cs : List Sd} (cs' : List Sd) (hb : bx[i]? = some ⟨b, E, cs⟩) (hw : WkL cs cs') (h : HL P ops Q g n ⟨t, bx.set i ⟨b, E, cs'⟩, tk⟩ rest) : HL P ops Q g n ⟨t, bx, tk⟩ rest :=
  ⟨hx_imp (σ := ⟨t, bx, tk⟩) (σ' := ⟨t, bx.set i ⟨b, E, cs'⟩, tk⟩) ⟨ImpT.refl _, SubM.of (SubB.at_ i hb rfl rfl hw) (SubT.refl _)⟩ h.h⟩
theorem pwkB (i : Nat) {b : Nat} {E : TypeId} {cs : List Sd} (cs' : List Sd) (hb : bx[i]? = some ⟨b, E, cs⟩) (hw : WkL cs cs') (h : HA P ops Q g n ⟨t, bx.set i ⟨b, E, cs'⟩, tk⟩ fuel listed) : HA P ops Q g n ⟨t, bx, tk⟩ fuel listed :=
  ⟨hx_imp (σ := ⟨t, bx, tk⟩) (σ' := ⟨t, bx.set i ⟨b, E, cs'⟩, tk⟩) ⟨ImpT.refl _, SubM.of (SubB.at_ i hb rfl rfl hw) (SubT.refl _)⟩ h.h⟩
theorem pv_lenVN {d : Option Nat} {x : Operand} {A : Option Addr} {m c : Nat} {T E : TypeId} (hu : P.underlying T = some (.slice E)) (hx : ev σ.t x = some (.v (.slice A m c))) : Val P g n σ ⟨d, .call ⟨.builtin .len, #[x], #[T]⟩, ty, ps, af, gd⟩ (.v (.int .i64 (m : Int))) := by
  refine ⟨fun R a w hr => ?_⟩
  have h1 : a.eval x = _ := hr.ev hx
  exact ⟨_, rfl, fun W => by simp [execOp, resolve, invoke, builtin, Builtin.len_, h1, goInt, run_underlying hu]⟩
theorem pv_indexAddrVN {d : Option Nat} {x ix : Operand} {T E : TypeId} {ki : IntKind} {z : Int} {ag : Bool} {k b o m c : Nat} (h : 0 ≤ z ∧ z < (m : Int)) (hu : P.underlying T = some (.slice E)) (hs : Shp P E ag k) (hx : ev σ.t x = some (.v (.slice (some ⟨b, o, none⟩) m c))) (hi : ev σ.t ix = some (.v (.int ki z))) :
    Val P g n σ ⟨d, .indexAddr T x ix, ty, ps, af, gd⟩ (.v (.pointer (some ⟨b, o + z.toNat * k, none⟩))) := by
  refine ⟨fun R a w hr => ?_⟩
  obtain ⟨i, rfl⟩ : ∃ i : Nat, z = (i : Int) := ⟨z.toNat, (Int.toNat_of_nonneg h.1).symm⟩
  have hl : i < m := by omega
  have h1 : a.eval x = _ := hr.ev hx
  have h6 : a.eval ix = .int ki i := hr.ev hi
  exact ⟨_, rfl, fun W => by simp [execOp, Instr.indexAt, run_underlying hu, h1, h6, asIntOf, hl, hs.run_size, add_lit_]⟩
/-- A slice of an array in a variable. -/
theorem pv_sliceArr {d : Option Nat} {x : Operand} {T E : TypeId} {lo hi : Option Operand} {l h len : Nat} {ag : Bool} {k b o : Nat} (hq : l ≤ h ∧ h ≤ len ∧ l < len) (hu : P.underlying T = some (.array len E)) (hs : Shp P E ag k) (hx : ev σ.t x = some (.v (.pointer (some ⟨b, o, none⟩)))) (hl : Bd σ.t 0 lo l) (hh : Bd σ.t len hi h) :
    Val P g n σ ⟨d, .slice T x lo hi none, ty, ps, af, gd⟩ (.v (.slice (some ⟨b, o + l * k, none⟩) (h - l) (len - l))) := by
  refine ⟨fun R a w hr => ?_⟩
  have e : a.eval x = _ := hr.ev hx
  have hb := fun W => bounds_run (P := P) (b := false) hr hl hh hq.1 hq.2.1 W
  have hne : len ≠ l := by omega
  refine ⟨_, rfl, fun W => ?_⟩
  simp [execOp, Instr.sliceAt, run_underlying hu, e, Instr.sureAddr, hb, hs.run_size, hne, add_lit_]
theorem eqNil_rb {id : Option (Nat × Nat)} {m : Nat} {T E : TypeId} (hu : P.underlying T = some (.slice E)) (W : World) : (Op.equal T (rbV id m) (.slice none 0 0)).run P W = .ok id.isNone W := by
  cases id with
  | none => exact equal_run hu W rfl
  | some q => exact equal_run hu W rfl
/-- What is known of a row in place. -/
theorem xrbok (d : Nat) {id : Option (Nat × Nat)} {m : Nat} (hl : look t d = some (.rb id m)) (h : (0 < m → id.isNone = false) → HL P ops Q g n ⟨(d, .v (rbV id m)) :: t, bx, tk⟩ rest) : HL P ops Q g n ⟨t, bx, tk⟩ rest := by
  refine ⟨?_⟩
  rintro a w ⟨R, hr⟩
  obtain ⟨v, hv, e, hok⟩ := hr.tm _ _ hl
  have hq : 0 < m → id.isNone = false := fun hm => by
    obtain ⟨b, c, rfl, _⟩ := hok.some_ hm; rfl
  exact (h hq).h a w ⟨R, hr.imp (σ' := ⟨(d, .v (rbV id m)) :: t, bx, tk⟩) ⟨ImpT.cons hl (fun _ _ _ h => h.1) (ImpT.refl _), SubM.refl _ _⟩⟩
theorem pv_eqNilRb {d : Option Nat} {T E yt : TypeId} {x y : Operand} {id : Option (Nat × Nat)} {m : Nat} (hu : P.underlying T = some (.slice E)) (hx : ev σ.t x = some (.v (rbV id m))) (hy : ev σ.t y = some (.v (.slice none 0 0))) : Val P g n σ ⟨d, .binOp .eql T x y yt, ty, ps, af, gd⟩ (.v (.bool id.isNone)) :=
  pv_eqG hx hy (fun W => eqNil_rb hu W) fun W => by
    cases id with
    | none => show Sem.run P (Op.equal T _ _ >>= fun q => pure (Value.bool q)) W = _; rw [Sem.run_bind]; rfl
    | some q => show Sem.run P (Op.equal T _ _ >>= fun q => pure (Value.bool q)) W = _; rw [Sem.run_bind]; rfl
/-- A row of the call's own that has no room yet, from now on written in place. -/
theorem hx_thaw {Φ : Act → World → Prop} {i dd k : Nat} {id : Option (Nat × Nat)} {E : TypeId} (hz : idc id = 0) (htk : σ.tk[i]? = some ⟨id, E, k, 0⟩) (hl : look σ.t dd = some (.sl k (some id) [])) (h : Hx g n ⟨(dd, .rb id 0) :: σ.t, rbx id E k [] :: σ.bx, σ.tk.eraseIdx i⟩ Φ) : Hx g n σ Φ := by
  rintro a w ⟨R, hr⟩
  obtain ⟨v, hv, A, c, rfl, ⟨_, hc⟩, hnone, hsome, _⟩ := hr.tm _ _ hl
  have hsub : (σ.tk.eraseIdx i).Sublist σ.tk := List.eraseIdx_sublist _ _
  have hcs : (rbx id E k []).cs = [] := by simp [hz]
  have hd1 : ∀ b, dom σ.bx (σ.tk.eraseIdx i) b → dom σ.bx σ.tk b := fun b hb => ((List.Sublist.refl _).append (hsub.filterMap _)).subset hb
  refine h a w ⟨R, ⟨hr.mem.lt, fun x hx hne => ?_, fun t ht => hr.mem.own t (hsub.subset ht), ?_⟩, hr.mv, fun b hb => hr.dm b ?_, hr.df, hr.sz, fun d s hd => ?_⟩
  · rcases List.mem_cons.1 hx with rfl | hx
    · exact absurd hcs hne
    · exact hr.mem.box x hx hne
  · rw [List.filterMap_cons, bxb_none hcs]; exact hr.mem.nod.sublist ((List.Sublist.refl _).append (hsub.filterMap _))
  · unfold dom at hb; rw [List.filterMap_cons, bxb_none hcs] at hb; exact hd1 b hb
  · unfold look at hd
    cases hbd : Nat.beq dd d with
    | true =>
      rw [hbd] at hd
      obtain rfl := Nat.eq_of_beq_eq_true hbd
      obtain rfl := Option.some.inj hd
      refine ⟨_, hv, ?_⟩
      cases id with
      | none => obtain ⟨rfl, rfl⟩ := hnone rfl; exact ⟨rfl, rfl⟩
      | some q => obtain ⟨rfl, rfl⟩ := hsome q.1 q.2 rfl; exact ⟨rfl, Nat.zero_le _, hc⟩
    | false => rw [hbd] at hd; exact hr.tm d s hd
theorem xthaw (i dd : Nat) {k : Nat} {id : Option (Nat × Nat)} {E : TypeId} (hz : idc id = 0) (htk : tk[i]? = some ⟨id, E, k, 0⟩) (hl : look t dd = some (.sl k (some id) [])) (h : HL P ops Q g n ⟨(dd, .rb id 0) :: t, rbx id E k [] :: bx, tk.eraseIdx i⟩ rest) : HL P ops Q g n ⟨t, bx, tk⟩ rest := ⟨hx_thaw (σ := ⟨t, bx, tk⟩) hz htk hl h.h⟩
theorem pv_sliceNilZ {d : Option Nat} {x hi : Operand} {T E : TypeId} {z : Int} {ki : IntKind} {ag : Bool} {k : Nat} (h : z = 0) (hu : P.underlying T = some (.slice E)) (hs : Shp P E ag k) (hx : ev σ.t x = some (.v (.slice none 0 0))) (hh : ev σ.t hi = some (.v (.int ki z))) :
    Val P g n σ ⟨d, .slice T x none (some hi) none, ty, ps, af, gd⟩ (.v (.slice none 0 0)) := by
  subst h
  exact pv_sliceNil hu hs hx Bd.none_ ⟨ki, hh⟩
end
def FlatL (l : List Sd) : Prop := ∀ s ∈ l, ∃ x, s = .v x
theorem flat_nil : FlatL [] := fun s h => by cases h
theorem flat_cons {x : Value} {l : List Sd} (h : FlatL l) : FlatL (.v x :: l) := fun s hs => by
  rcases List.mem_cons.1 hs with rfl | hs
  · exact ⟨_, rfl⟩
  · exact h s hs
theorem flat_app {l l2 : List Sd} (h : FlatL l) (h2 : FlatL l2) : FlatL (l ++ l2) := fun s hs => (List.mem_append.1 hs).elim (h s) (h2 s)
theorem flat_map {α : Type} {f : α → List Sd} {l : List α} (h : ∀ y, FlatL (f y)) : FlatL (l.map f).flatten := fun s hs => by
  obtain ⟨r, hr, hs⟩ := List.mem_flatten.1 hs
  obtain ⟨y, _, rfl⟩ := List.mem_map.1 hr
  exact h y s hs
/-- A row of its own that a call hands back, elements without slices: taken at once as a row in place. -/
theorem con_take {P : Program} {f : FuncId} {ss : List Sd} {α : Type} {fe : α → List Sd} {k : Nat} [EncLen fe k] {E : TypeId} {l : List α} (c : Con P f ss [] [] (RetM k E fe l)) (hv : ∀ y : α, FlatL (fe y) := by intro y; repeat (first | exact flat_nil | refine flat_cons ?_ | refine flat_app ?_ ?_ | (refine flat_map ?_; intro _))) :
    Con P f ss [] [] (fun r bx tk => ∃ id, r = .rb id l.length ∧ bx = [rbx id E k (l.map fe)] ∧ tk = []) := fun Rd w vals hl hm hr =>
  (c Rd w vals hl hm hr).mono fun e w' ⟨v, r, bx', tk', Rd', e1, ⟨id, e2, e3, e4⟩, h1, h2, h3, h4⟩ => by
    subst e2 e3 e4
    have hk : ∀ r ∈ l.map fe, r.length = k := enc_rows (f := fe) l
    obtain ⟨A, c, rfl, ⟨hc1, hc2⟩, hn, hid, hrr⟩ := h2
    rw [List.length_map] at hc1
    cases id with
    | none =>
      obtain ⟨rfl, rfl⟩ := hn rfl
      have hl0 : l = [] := List.eq_nil_of_length_eq_zero (by omega)
      subst hl0
      exact ⟨_, _, _, _, Rd', e1, ⟨none, rfl, rfl, rfl⟩, ⟨h1.lt, fun x hx hne => by simp at hx; subst hx; exact absurd (by simp [idc]) hne, fun t ht => by simp at ht, by simp [bxb, idc]⟩, ⟨rfl, rfl⟩, h3, fun b hb => by simp [dom, bxb, idc] at hb⟩
    | some q =>
      obtain ⟨b, m⟩ := q
      obtain ⟨rfl, rfl⟩ := hid b m rfl
      obtain ⟨⟨us, k1, k2, k3⟩, k4, k5⟩ := h1.own _ (List.mem_singleton.2 rfl) b c rfl
      have hb0 : w.heap.size ≤ b := by
        rcases h4 b (by simp [dom, tkb]) with hb | hb
        · simp [dom] at hb
        · exact hb
      have hold : ∀ b' o, Rd b' o → b' ≠ b := fun b' o hb e => by have := hm.lt b' o hb; omega
      have hR0 : RepR Rd' w' b 0 k (l.map fe) := by
        rcases hrr with e | ⟨b', o', e, hh⟩
        · rw [e]; trivial
        · injection e with e; injection e with e1 e2; subst e1 e2; exact hh
      obtain ⟨g1, g2⟩ := hR0.flat
      obtain ⟨us1, y2, y3, y4⟩ := g1.vals
      have hl1 := y2.length
      have hsp : ∀ s ∈ (l.map fe).flatten, ∃ x, s = .v x := fun s hs => by
        obtain ⟨r, hr, hs⟩ := List.mem_flatten.1 hs
        obtain ⟨y, _, rfl⟩ := List.mem_map.1 hr
        exact hv y s hs
      have flat : ∀ (ss : List Sd) (vs : List Value) (R1 R2 : Nat → Nat → Prop) (w1 w2 : World), (∀ s ∈ ss, ∃ x, s = .v x) → RepL R1 w1 ss vs → RepL R2 w2 ss vs := by
        intro ss
        induction ss with
        | nil => intro vs _ _ _ _ _ h; exact h
        | cons s ss ih =>
          rintro vs R1 R2 w1 w2 hs ⟨u, r, e, p1, p2⟩
          obtain ⟨x, rfl⟩ := hs s (by simp)
          exact ⟨u, r, e, p1, ih r R1 R2 w1 w2 (fun s h => hs s (by simp [h])) p2⟩
      have hus : us.toList = us1 ++ us.toList.drop us1.length := by
        have : us.toList.take us1.length = us1 := by
          apply List.ext_getElem?
          intro j
          rw [List.getElem?_take]
          split
          · rename_i hj
            obtain ⟨u, hu⟩ : ∃ u, us1[j]? = some u := ⟨_, List.getElem?_eq_getElem hj⟩
            have := (y4 j u hu).2
            rw [Nat.zero_add, k1.cell] at this
            rw [hu, Array.getElem?_toList, this]
          · rename_i hj
            rw [List.getElem?_eq_none (by omega)]
        rw [← List.take_append_drop us1.length us.toList, this, List.drop_append, List.drop_length, Nat.sub_self]
        simp
      refine ⟨_, _, _, _, fun b' o => Rd' b' o ∧ b' ≠ b, e1, ⟨some (b, c), rfl, rfl, rfl⟩, ⟨fun b' o hb => h1.lt b' o hb.1, fun x hx hne => ?_, fun t ht => by simp at ht, ?_⟩, ⟨by rw [List.length_map]; rfl, hc1, hc2⟩, ?_, ?_⟩
      · simp at hx
        subst hx
        refine ⟨⟨us, k1, ?_, k3⟩, fun o ho => ho.2 rfl⟩
        rw [hus]
        refine (flat _ _ _ _ _ _ hsp y2).append ?_
        have hlen : (us.toList.drop us1.length).length = (idc (some (b, c)) - (l.map fe).length) * k := by
          rw [List.length_drop, Array.length_toList, k2, hl1, g2, Nat.sub_mul]; rfl
        rw [← hlen]
        exact repL_any _
      · simp only [List.filterMap_cons, List.filterMap_nil, List.append_nil]
        split <;> simp
      · exact ⟨h3.os, h3.tape, h3.output, h3.size, h3.block, fun b' o hb => ⟨⟨(h3.keep b' o hb).1, hold b' o hb⟩, (h3.keep b' o hb).2⟩, fun b' o hb => h3.new b' o hb.1⟩
      · intro b' hb
        have : b' = b := by
          simp only [dom, List.filterMap_cons, List.filterMap_nil, List.append_nil] at hb
          split at hb
          · simp at hb
          · rename_i q hq
            have := (bxb_of hq).2
            simp at hb; subst hb; exact this.symm
        subst this
        exact .inr hb0
end Go.Proofs.Ytpddiffpanihdaa
