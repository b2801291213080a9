/- Arrays as lists: their parts in variables, in values, behind pointers. -/
import Derived.Test.YtpddiffpanihdaaGen
import Derived.Test.YtpddiffpanihdaaArg
namespace Go.Proofs.Ytpddiffpanihdaa
def Arr.set {n : Nat} {α : Type} (a : Arr n α) (i : Nat) (x : α) : Arr n α := ⟨a.l.set i x, by rw [List.length_set]; exact a.len⟩
def Arr.rep {α : Type} (n : Nat) (x : α) : Arr n α := ⟨List.replicate n x, List.length_replicate⟩
theorem Arr.ext {n : Nat} {α : Type} : ∀ {a b : Arr n α}, a.l = b.l → a = b
  | ⟨_, _⟩, ⟨_, _⟩, rfl => rfl
class EncLen {α : Type} (f : α → List Sd) (k : outParam Nat) : Prop where
  h : ∀ x, (f x).length = k
instance : EncLen eb 1 := ⟨fun _ => rfl⟩
instance : EncLen ei 1 := ⟨fun _ => rfl⟩
instance : EncLen eB 1 := ⟨fun _ => rfl⟩
instance : EncLen ew 1 := ⟨fun _ => rfl⟩
instance : EncLen es 1 := ⟨fun _ => rfl⟩
theorem enc_rows {α : Type} {f : α → List Sd} {k : Nat} [h : EncLen f k] (l : List α) : ∀ r ∈ l.map f, r.length = k := fun r hr => by obtain ⟨p, _, rfl⟩ := List.mem_map.1 hr; exact h.h p
theorem seg_len {α : Type} {f : α → List Sd} {n k : Nat} [EncLen f k] (a : Arr n α) : (List.map f a.l).flatten.length = n * k := by rw [flat_len (enc_rows a.l), List.length_map, a.len]
theorem seg_lenE {α : Type} {f : α → List Sd} {n k m : Nat} [EncLen f k] {a : Arr n α} (h : n * k = m) : (List.map f a.l).flatten.length = m := (seg_len a).trans h
theorem len_app {α : Type} {a b : List α} {n m k : Nat} (h1 : a.length = n) (h2 : b.length = m) (h : n + m = k) : (a ++ b).length = k := by rw [List.length_append, h1, h2, h]
theorem part_all {cs : List Sd} {k : Nat} (h : cs.length = k) : partS true k 0 cs = some (.agg cs) := by
  show some (Sd.agg ((cs.drop 0).take k)) = _
  rw [List.drop_zero, List.take_of_length_le (by omega)]
section
variable {P : Program} {ops : Array Oper} {Q : Exit → Act → World → Prop} {g : Gh} {n : Nat} {σ : St} {t : List (Nat × Sd)} {bx : List Bx} {tk : List Tk} {rest : List Oper} {ty : TypeId} {ps : String} {af : Array Edge} {gd : Option (Nat × Bool)} {fuel : Nat} {listed : Array Bool}
theorem part_mid {ag : Bool} {k o : Nat} {pre mid post : List Sd} {s : Sd} (ho : pre.length = o) (hm : mid.length = k) (hs : partS ag k 0 mid = some s) : partS ag k o (pre ++ (mid ++ post)) = some s := by
  cases ag with
  | true =>
    show some (Sd.agg (((pre ++ (mid ++ post)).drop o).take k)) = _
    rw [← ho, List.drop_left, ← hm, List.take_left, ← part_all rfl, hm]; exact hs
  | false =>
    show (pre ++ (mid ++ post))[o]? = _
    have h1 : mid[0]? = some s := hs
    have h2 : 0 < mid.length := (List.getElem?_eq_some_iff.1 h1).1
    rw [← ho, List.getElem?_append_right (Nat.le_refl _), Nat.sub_self, List.getElem?_append_left h2, h1]
theorem part_midE {ag : Bool} {k o : Nat} {cs pre mid post : List Sd} {s : Sd} (hcs : cs = pre ++ (mid ++ post)) (ho : pre.length = o) (hm : mid.length = k) (hs : partS ag k 0 mid = some s) : partS ag k o cs = some s := hcs ▸ part_mid ho hm hs
theorem len_midE {k o : Nat} {cs pre mid post : List Sd} (hcs : cs = pre ++ (mid ++ post)) (ho : pre.length = o) (hm : mid.length = k) : o + k ≤ cs.length := by rw [hcs, List.length_append, List.length_append]; omega
section
variable {d : Option Nat}
theorem qv_loadP {x : Operand} {T E : TypeId} {ag : Bool} {k b o : Nat} {cs : List Sd} {s : Sd} (i : Nat) (pre mid post : List Sd) (hcs : cs = pre ++ (mid ++ post)) (ho : pre.length = o) (hm : mid.length = k) (hs : partS ag k 0 mid = some s) (h : Shp P T ag k) (hx : ev σ.t x = some (.v (.pointer (some ⟨b, o, none⟩)))) (hb : σ.bx[i]? = some ⟨b, E, cs⟩) :
    ValE P g n σ ⟨d, .load T x, ty, ps, af, gd⟩ s := by
  subst hcs
  exact pv_loadB h hx (List.mem_of_getElem? hb) (part_mid ho hm hs) (by rw [List.length_append, List.length_append]; omega)
theorem qv_loadEP {x : Operand} {T : TypeId} {ag : Bool} {k : Nat} {cs : List Sd} {s : Sd} (mid post : List Sd) (hcs : cs = mid ++ post) (hm : mid.length = k) (hs : partS ag k 0 mid = some s) (h : Shp P T ag k) (hx : ev σ.t x = some (.el cs)) : ValE P g n σ ⟨d, .load T x, ty, ps, af, gd⟩ s := by
  subst hcs
  exact pv_load h hx (part_mid (pre := []) rfl hm hs) (by rw [List.length_append]; omega)
theorem qv_fieldAddrEP {x : Operand} {T : TypeId} {f off : Nat} {ag : Bool} {k : Nat} {cs : List Sd} (pre post : List Sd) (hcs : cs = pre ++ post) (ho : pre.length = off) (hF : Fld P T f off ag (k + 1)) (hx : ev σ.t x = some (.el cs)) : Val P g n σ ⟨d, .fieldAddr T x f, ty, ps, af, gd⟩ (.el post) := by
  have := qv_fieldAddrE (n := n) (g := g) (d := d) (ty := ty) (ps := ps) (af := af) (gd := gd) hF hx
  rwa [hcs, ← ho, List.drop_left] at this
theorem qv_fieldP {x : Operand} {T : TypeId} {f off : Nat} {b : Bool} {k : Nat} {cs : List Sd} {s : Sd} (pre mid post : List Sd) (hcs : cs = pre ++ (mid ++ post)) (ho : pre.length = off) (hm : mid.length = k) (hs : partS b k 0 mid = some s) (hF : Fld P T f off b k) (hx : ev σ.t x = some (.agg cs)) : Val P g n σ ⟨d, .field T x f, ty, ps, af, gd⟩ s :=
  qv_field hF hx (hcs ▸ part_mid ho hm hs)
/-- An element's address: in a variable's array, in an array that nobody changes; an element of an array by value. -/
theorem pv_indexAddrBA {x ix : Operand} {T E : TypeId} {len : Nat} {ki : IntKind} {z : Int} {ag : Bool} {k b o : Nat} (h : 0 ≤ z ∧ z < (len : Int)) (hu : P.underlying T = some (.array len E)) (hs : Shp P E ag k)
    (hx : ev σ.t x = some (.v (.pointer (some ⟨b, o, none⟩)))) (hi : ev σ.t ix = some (.v (.int ki z))) : Val P g n σ ⟨d, .indexAddr T x ix, ty, ps, af, gd⟩ (.v (.pointer (some ⟨b, o + z.toNat * k, none⟩))) :=
  pv_indexAddrB hu hs hx hi (Int.toNat_of_nonneg h.1).symm (by omega)
theorem wk_elTake {cs : List Sd} (k : Nat) : Wk (.el cs) (.el (cs.take k)) := fun _ _ _ ⟨b, o, e, h⟩ => ⟨b, o, e, h.take k⟩
theorem Val.wk {o : Oper} {s s' : Sd} (h : Val P g n σ o s) (hw : Wk s s') : Val P g n σ o s' := ⟨fun R a w hr => by
  obtain ⟨v, h1, h2⟩ := h.h R a w hr
  exact ⟨v, hw _ _ _ h1, h2⟩⟩
theorem flat_at {α : Type} {f : α → List Sd} {k i : Nat} [EncLen f k] {l : List α} {y : α} (hy : l[i]? = some y) (post : List Sd) : (((List.map f l).flatten ++ post).drop (i * k)).take k = f y := by
  have := (row_at (sp := post) (enc_rows (f := f) l) (map_at hy)).1
  exact this
theorem pv_indexAddrEA {α : Type} {f : α → List Sd} {m k : Nat} [EncLen f k] {a : Arr m α} {y : α} {x ix : Operand} {T E : TypeId} {len : Nat} {ki : IntKind} {z : Int} {ag : Bool} {cs : List Sd} (post : List Sd) (h : 0 ≤ z ∧ z < (len : Int)) (hy : a.l[z.toNat]? = some y) (hcs : cs = (List.map f a.l).flatten ++ post) (hu : P.underlying T = some (.array len E)) (hs : Shp P E ag k)
    (hx : ev σ.t x = some (.el cs)) (hi : ev σ.t ix = some (.v (.int ki z))) : Val P g n σ ⟨d, .indexAddr T x ix, ty, ps, af, gd⟩ (.el (f y)) := by
  have := (pv_indexAddrE (n := n) (g := g) (d := d) (ty := ty) (ps := ps) (af := af) (gd := gd) hu hs hx hi (Int.toNat_of_nonneg h.1).symm (by omega)).wk (wk_elTake k)
  rwa [hcs, flat_at hy] at this
theorem pv_indexAA {α : Type} {f : α → List Sd} {m k : Nat} [hk : EncLen f k] {a : Arr m α} {y : α} {x ix : Operand} {T E : TypeId} {len : Nat} {ki : IntKind} {z : Int} {ag : Bool} {cs : List Sd} {s : Sd} (post : List Sd) (h : 0 ≤ z ∧ z < (len : Int)) (hy : a.l[z.toNat]? = some y) (hcs : cs = (List.map f a.l).flatten ++ post) (hp : partS ag k 0 (f y) = some s) (hu : P.underlying T = some (.array len E)) (hs : Shp P E ag k)
    (hx : ev σ.t x = some (.agg cs)) (hi : ev σ.t ix = some (.v (.int ki z))) : Val P g n σ ⟨d, .index T x ix, ty, ps, af, gd⟩ s := by
  refine pv_indexA hu hs hx hi (Int.toNat_of_nonneg h.1).symm (by omega) ?_
  subst hcs
  have hr := row_split (pre := []) (post := post) (enc_rows (f := f) a.l) (map_at hy)
  obtain ⟨X, Y, e1, e2, _⟩ := hr
  rw [show (List.map f a.l).flatten ++ post = [] ++ ((List.map f a.l).flatten ++ post) from rfl, e1]
  exact part_mid (by simpa using e2) (hk.h y) hp
/-- A part of an element of an array in a variable. -/
theorem qv_loadA {α : Type} {f : α → List Sd} {m k : Nat} [EncLen f k] {a : Arr m α} {y : α} {x : Operand} {T E : TypeId} {ag : Bool} {kk b o off i : Nat} {cs : List Sd} {s : Sd} (j : Nat) (pre post : List Sd) (hy : a.l[i]? = some y) (hcs : cs = pre ++ ((List.map f a.l).flatten ++ post)) (ho : o = pre.length + i * k + off) (hl : off + kk ≤ k) (hs : partS ag kk off (f y) = some s)
    (h : Shp P T ag kk) (hx : ev σ.t x = some (.v (.pointer (some ⟨b, o, none⟩)))) (hb : σ.bx[j]? = some ⟨b, E, cs⟩) : ValE P g n σ ⟨d, .load T x, ty, ps, af, gd⟩ s := by
  subst hcs
  exact qv_loadR j h hx hb (enc_rows a.l) (map_at hy) hs ho hl
end
theorem pv_indexSM {d : Option Nat} {x ix : Operand} {T : TypeId} {ki : IntKind} {z : Int} {s : ByteArray} {c : UInt8} (h0 : 0 ≤ z) (hc : s[z.toNat]? = some c) (hu : P.underlying T = some .string)
    (hx : ev σ.t x = some (.v (.string s))) (hi : ev σ.t ix = some (.v (.int ki z))) : Val P g n σ ⟨d, .index T x ix, ty, ps, af, gd⟩ (.v (.int .u8 (c.toNat : Int))) := pv_indexS hu hx hi (Int.toNat_of_nonneg h0).symm hc
/-- An array's literal. -/
theorem pv_buildAC {d : Option Nat} {T E : TypeId} {len size bytes k : Nat} {ag : Bool} {zero : List Value} {parts : Array (Nat × Operand)} {qs : List (Nat × Sd)} {cs : List Sd} (hu : P.underlying T = some (.array len E)) (hs : Shp P E ag k) (hi : Inf P T size bytes zero)
    (hq : evB σ.t parts.toList = some qs) (hf : fillS (fun i => some (i * k, k)) (zero.map .v) qs = some cs) : Val P g n σ ⟨d, .build T parts, ty, ps, af, gd⟩ (.agg cs) := by
  refine ⟨fun R a w hr => ?_⟩
  obtain ⟨i, z, e3, e4, e5, _, _⟩ := hi.info
  have hq' := (evB_out hq).out
  have h1 : parts.toList.map (·.1) = qs.map (·.1) := by
    have := congrArg (List.map (·.1)) hq'
    simpa [List.map_map, Function.comp_def] using this
  have h2 : (parts.toList.map (·.2)).map (ev σ.t) = (qs.map (·.2)).map some := by
    have := congrArg (List.map (·.2)) hq'
    simpa [List.map_map, Function.comp_def] using this
  have h3 := hr.evs h2
  obtain ⟨us', k1, k2, k3⟩ := fill_run (R := R) (w := w) (fun i => some (i * k, k)) qs (parts.toList.map fun p => (p.1, a.eval p.2)) (zero.map .v) z.cells cs (by rw [← h1]; simp [Function.comp_def]) (by simpa [List.map_map, Function.comp_def] using h3) (by rw [e5]; exact repL_vals R w zero) (by rw [e5]; exact fun u hu => List.all_eq_true.1 hi.one u hu) hf
  refine ⟨.agg us', ⟨us', rfl, k2, k3⟩, fun W => ?_⟩
  have e7 : Instr.fill (fun i => some (i * k, k)) z.cells (parts.map fun (i, x) => (i, a.eval x)).toList = some us' := by
    rw [Array.toList_map]
    exact k1
  have e8 := hs.run_size W
  simp only [Array.toList_map] at e7
  simp only [execOp, Instr.build, zeroValue, typeInfo, Sem.run_bind, run_underlying hu]
  simp [e3, e4]
  rw [e8]
  simp [e7]
theorem map_set_ {α : Type} {f : α → List Sd} (l : List α) (i : Nat) (y : α) : (List.map f l).set i (f y) = List.map f (l.set i y) := (List.map_set).symm
theorem xstoreA {α : Type} {f : α → List Sd} {m k : Nat} [EncLen f k] {a : Arr m α} {y : α} {T E : TypeId} {x v : Operand} {ag : Bool} {kk b o off i : Nat} {cs : List Sd} {s : Sd} (j : Nat) (pre post : List Sd) (y' : α) (hy : a.l[i]? = some y) (hcs : cs = pre ++ ((List.map f a.l).flatten ++ post)) (ho : o = pre.length + i * k + off) (hl : off + kk ≤ k) (hs : Shp P T ag kk) (hx : ev t x = some (.v (.pointer (some ⟨b, o, none⟩)))) (hb : bx[j]? = some ⟨b, E, cs⟩) (hv : ev t v = some s)
    (h1 : oneS s = true) (hc : (cellsS s).length = kk) (hp : putC off (cellsS s) (f y) = f y') (hw : want ops t gd = some true) (h : HL P ops Q g n ⟨t, bx.set j ⟨b, E, pre ++ ((List.map f (a.set i y').l).flatten ++ post)⟩, tk⟩ rest) : HL P ops Q g n ⟨t, bx, tk⟩ (⟨none, .store T x v, ty, ps, af, gd⟩ :: rest) := by
  subst hcs
  refine xstoreR j hs hx hb hv h1 (by rw [hc]; exact Nat.beq_refl _) (enc_rows a.l) (map_at hy) ho hl hw ?_
  rw [hp, map_set_]; exact h
theorem wstoreA {α : Type} {f : α → List Sd} {m k : Nat} [EncLen f k] {a : Arr m α} {y : α} {T E : TypeId} {x v : Operand} {ag : Bool} {kk b o off i : Nat} {cs : List Sd} {s : Sd} (j : Nat) (pre post : List Sd) (y' : α) (hy : a.l[i]? = some y) (hcs : cs = pre ++ ((List.map f a.l).flatten ++ post)) (ho : o = pre.length + i * k + off) (hl : off + kk ≤ k) (hs : Shp P T ag kk) (hx : ev t x = some (.v (.pointer (some ⟨b, o, none⟩)))) (hb : bx[j]? = some ⟨b, E, cs⟩) (hv : ev t v = some s)
    (h1 : oneS s = true) (hc : (cellsS s).length = kk) (hp : putC off (cellsS s) (f y) = f y') (hw : want ops t gd = some true) (h : HA P ops Q g n ⟨t, bx.set j ⟨b, E, pre ++ ((List.map f (a.set i y').l).flatten ++ post)⟩, tk⟩ fuel listed) : HW P ops Q g n ⟨t, bx, tk⟩ fuel listed ⟨none, .store T x v, ty, ps, af, gd⟩ := by
  subst hcs
  refine wstoreR j hs hx hb hv h1 (by rw [hc]; exact Nat.beq_refl _) (enc_rows a.l) (map_at hy) ho hl hw ?_
  rw [hp, map_set_]; exact h
theorem put_mid {o : Nat} {pre mid post ss : List Sd} (ho : pre.length = o) (hm : mid.length = ss.length) : putC o ss (pre ++ (mid ++ post)) = pre ++ (ss ++ post) := by
  unfold putC
  rw [← ho, List.take_left, ← hm, ← List.drop_drop, List.drop_left, List.drop_left, List.append_assoc]
theorem xstoreP {T E : TypeId} {x v : Operand} {ag : Bool} {k b o : Nat} {cs : List Sd} {s : Sd} (j : Nat) (pre mid post : List Sd) (hcs : cs = pre ++ (mid ++ post)) (ho : pre.length = o) (hm : mid.length = k) (hs : Shp P T ag k) (hx : ev t x = some (.v (.pointer (some ⟨b, o, none⟩)))) (hb : bx[j]? = some ⟨b, E, cs⟩) (hv : ev t v = some s)
    (h1 : oneS s = true) (hc : (cellsS s).length = k) (hw : want ops t gd = some true) (h : HL P ops Q g n ⟨t, bx.set j ⟨b, E, pre ++ (cellsS s ++ post)⟩, tk⟩ rest) : HL P ops Q g n ⟨t, bx, tk⟩ (⟨none, .store T x v, ty, ps, af, gd⟩ :: rest) := by
  subst hcs
  exact ⟨hx_world (σ := ⟨t, bx, tk⟩) hw (wp_storeR (σ := ⟨t, bx, tk⟩) hs hx hv h1 hc hb (by rw [List.length_append, List.length_append]; omega) (put_mid ho (by omega)) h.h)⟩
theorem wstoreP {T E : TypeId} {x v : Operand} {ag : Bool} {k b o : Nat} {cs : List Sd} {s : Sd} (j : Nat) (pre mid post : List Sd) (hcs : cs = pre ++ (mid ++ post)) (ho : pre.length = o) (hm : mid.length = k) (hs : Shp P T ag k) (hx : ev t x = some (.v (.pointer (some ⟨b, o, none⟩)))) (hb : bx[j]? = some ⟨b, E, cs⟩) (hv : ev t v = some s)
    (h1 : oneS s = true) (hc : (cellsS s).length = k) (hw : want ops t gd = some true) (h : HA P ops Q g n ⟨t, bx.set j ⟨b, E, pre ++ (cellsS s ++ post)⟩, tk⟩ fuel listed) : HW P ops Q g n ⟨t, bx, tk⟩ fuel listed ⟨none, .store T x v, ty, ps, af, gd⟩ := by
  subst hcs
  exact hw_ hw fun _ hK => wp_storeR (σ := ⟨t, bx, tk⟩) hs hx hv h1 hc hb (by rw [List.length_append, List.length_append]; omega) (put_mid ho (by omega)) (h.k hK)
/-- A variable's cells, said in another way. -/
theorem List.set_getElem?_self_ {α : Type} {l : List α} {i : Nat} {x : α} (h : l[i]? = some x) : l.set i x = l := by
  obtain ⟨hi, rfl⟩ := List.getElem?_eq_some_iff.1 h
  exact List.set_getElem_self hi
theorem xreb (i : Nat) {b : Nat} {E : TypeId} {cs : List Sd} (cs' : List Sd) (hb : bx[i]? = some ⟨b, E, cs⟩) (e : cs = cs') (h : HL P ops Q g n ⟨t, bx.set i ⟨b, E, cs'⟩, tk⟩ rest) : HL P ops Q g n ⟨t, bx, tk⟩ rest := by
  subst e
  rwa [List.set_getElem?_self_ hb] at h
theorem preb (i : Nat) {b : Nat} {E : TypeId} {cs : List Sd} (cs' : List Sd) (hb : bx[i]? = some ⟨b, E, cs⟩) (e : cs = cs') (h : HA P ops Q g n ⟨t, bx.set i ⟨b, E, cs'⟩, tk⟩ fuel listed) : HA P ops Q g n ⟨t, bx, tk⟩ fuel listed := by
  subst e
  rwa [List.set_getElem?_self_ hb] at h
theorem fill_step {place : Nat → Option (Nat × Nat)} {cs : List Sd} {i off size : Nat} {s : Sd} {qs : List (Nat × Sd)} {r : List Sd} (pre mid post : List Sd) (hcs : cs = pre ++ (mid ++ post)) (ho : pre.length = off) (hm : mid.length = size) (hs : (cellsS s).length = size) (hp : place i = some (off, size)) (h1 : oneS s = true)
    (h : fillS place (pre ++ (cellsS s ++ post)) qs = some r) : fillS place cs ((i, s) :: qs) = some r := by
  subst hcs
  simp only [fillS, hp]
  rw [hs, h1, show Nat.beq size size = true from Nat.beq_refl size, show Nat.ble (off + size) (pre ++ (mid ++ post)).length = true from Nat.ble_eq_true_of_le (by rw [List.length_append, List.length_append]; omega), put_mid ho (by omega)]
  exact h
theorem xbuildSliceME {α : Type} {f : α → List Sd} (l : List α) {d : Nat} {T E : TypeId} {k bytes len : Nat} {zero : List Value} {parts : Array (Nat × Operand)} {ss : List Sd} (hu : P.underlying T = some (.slice E)) (hi : Inf P E k bytes zero) (hk0 : Nat.blt 0 k = true)
    (he : EvP t k 0 parts.toList ss) (hm1 : WkR (ss.map cellsS) (l.map f)) (hl : Nat.beq l.length len = true) (hm : Nat.ble (len * k) 16777216 = true) (hw : want ops t gd = some true) (hd : Nat.blt d n = true)
    (h : ∀ b, HL P ops Q g n ⟨(d, .sl k (some (some (b, len))) (l.map f)) :: t, bx, ⟨some (b, len), E, k, l.length⟩ :: tk⟩ rest) :
    HL P ops Q g n ⟨t, bx, tk⟩ (⟨some d, .buildSlice T len parts, ty, ps, af, gd⟩ :: rest) := by
  have hlen : ss.length = l.length := by have := hm1.length; simpa using this
  refine xbuildSlice hu hi hk0 he (by rw [hlen]; exact hl) hm hw hd fun b => ?_
  have := h b
  rw [Nat.eq_of_beq_eq_true hl] at this
  exact ⟨hx_imp (σ' := ⟨_, _, _⟩) ⟨ImpT.consW (Wk.rows hm1) (ImpT.refl _), SubM.refl _ _⟩ this.h⟩
theorem wbuildSliceME {α : Type} {f : α → List Sd} (l : List α) {d : Nat} {T E : TypeId} {k bytes len : Nat} {zero : List Value} {parts : Array (Nat × Operand)} {ss : List Sd} (hu : P.underlying T = some (.slice E)) (hi : Inf P E k bytes zero) (hk0 : Nat.blt 0 k = true)
    (he : EvP t k 0 parts.toList ss) (hm1 : WkR (ss.map cellsS) (l.map f)) (hl : Nat.beq l.length len = true) (hm : Nat.ble (len * k) 16777216 = true) (hw : want ops t gd = some true) (hd : Nat.blt d n = true)
    (h : ∀ b, HA P ops Q g n ⟨(d, .sl k (some (some (b, len))) (l.map f)) :: t, bx, ⟨some (b, len), E, k, l.length⟩ :: tk⟩ fuel listed) :
    HW P ops Q g n ⟨t, bx, tk⟩ fuel listed ⟨some d, .buildSlice T len parts, ty, ps, af, gd⟩ := by
  have hlen : ss.length = l.length := by have := hm1.length; simpa using this
  refine wbuildSlice hu hi hk0 he (by rw [hlen]; exact hl) hm hw hd fun b => ?_
  have := h b
  rw [Nat.eq_of_beq_eq_true hl] at this
  exact ⟨hx_imp (σ' := ⟨_, _, _⟩) ⟨ImpT.consW (Wk.rows hm1) (ImpT.refl _), SubM.refl _ _⟩ this.h⟩
theorem xpcut {σ : St} (F : Nat) (L : Array Bool) (Mid : St → Prop) (h2 : ∀ σ', Mid σ' → HA P ops Q g n σ' F L) (h1 : (∀ σ', Mid σ' → HA P ops Q g n σ' F L) → HA P ops Q g n σ fuel listed) : HA P ops Q g n σ fuel listed := h1 h2
theorem xpuse {σ σ' : St} {F : Nat} {L : Array Bool} {Mid : St → Prop} (key : ∀ σ', Mid σ' → HA P ops Q g n σ' F L) (hm : Mid σ') (hi : Imp σ σ') (hF : fuel = F) (hL : listed = L) : HA P ops Q g n σ fuel listed := by
  subst hF; subst hL
  exact ⟨hx_imp hi (key _ hm).h⟩
theorem beq_of {a b : Nat} (h : a = b) : Nat.beq a b = true := h ▸ Nat.beq_refl _
end
end Go.Proofs.Ytpddiffpanihdaa
