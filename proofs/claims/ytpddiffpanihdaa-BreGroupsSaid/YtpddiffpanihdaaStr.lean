/- The bytes of a string appended. -/
import Derived.Test.YtpddiffpanihdaaExt
import Derived.Lib.AppendStr
namespace Go.Proofs.Ytpddiffpanihdaa
theorem strCells_eb (R : Nat → Nat → Prop) (w : World) (s : ByteArray) : RepL R w (s.data.toList.map eb).flatten (Lib.strCells s) := by
  unfold Lib.strCells
  generalize s.data.toList = l
  induction l with
  | nil => rfl
  | cons c l ih => exact ⟨_, _, rfl, rfl, ih⟩
theorem size_list (s : ByteArray) : s.data.toList.length = s.size := by rw [Array.length_toList]; rfl
section
variable {P : Program} {Q : Exit → Act → World → Prop} {R : Nat → Nat → Prop} {g : Gh} {n : Nat} {σ : St} {K : Act → World → Prop}
theorem app_zeroS {t u E : TypeId} {i : TypeInfo} (ht : P.underlying t = some (.slice E)) (hu : P.underlying u = some .string) (hi : P.info? E = some i) (ty : TypeId) (A : Option Addr) (m c : Nat) (hmc : m ≤ c) (s : ByteArray) (hs : s.size = 0) (W : World) :
    (Builtin.append_ #[t, u] ty #[.slice A m c, .string s]).run P W = .ok (.slice A m c) W := by
  have hd : s.data = #[] := Array.eq_empty_of_size_eq_zero hs
  have : s = ⟨#[]⟩ := ByteArray.ext hd
  subst this
  have hz : ({ data := #[] } : ByteArray).size = 0 := rfl
  cases A <;> simp [hz, Builtin.append_, run_underlying ht, run_underlying hu, sizeOf, typeInfo, hi, Builtin.lenOf, Builtin.firstCells, hmc, storeCells]
theorem run_append_room_stringR (w : World) (t u ty e : TypeId) (i : TypeInfo) (ht : P.underlying t = some (.slice e)) (hu : P.underlying u = some .string) (hi : P.info? e = some i) (hs1 : i.size = 1)
    (g sLen sCap : Nat) (cur : Array Value) (hg : RowA w g cur e) (s : ByteArray) (hroom : sLen + s.size ≤ sCap) (hfit : sLen + s.size ≤ cur.size) :
    (Builtin.append_ #[t, u] ty #[.slice (some ⟨g, 0, none⟩) sLen sCap, .string s]).run P w =
      .ok (.slice (some ⟨g, 0, none⟩) (sLen + s.size) sCap) (w.setRow g (cur.toList.take sLen ++ Lib.strCells s ++ cur.toList.drop (sLen + s.size)).toArray) := by
  have hf := Lib.run_firstCells_string (P := P) w 1 s
  have hst := run_storeRow P g sLen e (Lib.strCells s) cur w hg (by simpa [Lib.strCells_length] using hfit) (Lib.strCells_oneCell s)
  simp only [Nat.add_zero, Lib.strCells_length] at hst
  simp [Builtin.append_, run_underlying ht, run_underlying hu, sizeOf, typeInfo, hi, hs1, Builtin.lenOf, hroom, hf, Addr.add_lit, hst]
/-- append of a string's bytes, whatever room there is. -/
theorem app_coreS {a : Act} {w : World} (h : Rl R g n σ a w) {t tS E : TypeId} {bytes : Nat} {zero : List Value} (ht : P.underlying t = some (.slice E)) (hS : P.underlying tS = some .string) (hi : Inf P E 1 bytes zero) (ty : TypeId) {i : Nat} {id : Option (Nat × Nat)} {rows : List (List Sd)} {s : ByteArray} {u : Value}
    (hu : RepS R w (.sl 1 (some id) rows) u) (htk : σ.tk[i]? = some ⟨id, E, 1, rows.length⟩) (h63 : rows.length + s.size ≤ maxLen) (hby : (rows.length + s.size) * bytes ≤ 140737488355328) :
    ∃ v' w' id' R', (Builtin.append_ #[t, tS] ty #[u, .string s]).run P w = .ok v' w' ∧ RepS R' w' (.sl 1 (some id') (rows ++ s.data.toList.map eb)) v' ∧ Rl R' g n ⟨σ.t, σ.bx, σ.tk.set i ⟨id', E, 1, (rows ++ s.data.toList.map eb).length⟩⟩ a w' := by
  obtain ⟨inf, z, e1, e2, e3, e4, e5⟩ := hi.info
  have hzs : z.cells.size = 1 := by rw [← hi.len, ← e3]; simp
  subst e5
  obtain ⟨A, c, rfl, ⟨hc1, hc2⟩, hn, hid, hrr⟩ := hu
  have hlen2 : (s.data.toList.map eb).length = s.size := by rw [List.length_map, size_list]
  have hsetself : σ.tk.set i ⟨id, E, 1, rows.length⟩ = σ.tk := by
    apply List.ext_getElem?
    intro j
    rw [List.getElem?_set]
    split
    · rename_i hij; subst hij
      split
      · exact htk.symm
      · rename_i hlt; rw [List.getElem?_eq_none (by omega)]
    · rfl
  by_cases hr0 : s.size = 0
  · have hnil : s.data.toList.map eb = [] := List.eq_nil_of_length_eq_zero (by omega)
    rw [hnil]
    refine ⟨_, w, id, R, app_zeroS ht hS e1 ty A rows.length c hc1 s hr0 w, ?_, ?_⟩
    · rw [List.append_nil]; exact ⟨A, c, rfl, ⟨hc1, hc2⟩, hn, hid, hrr⟩
    · rw [List.append_nil, hsetself]; exact h
  · have hpos : 0 < s.size := by omega
    have v2 := strCells_eb R w s
    have v3 := Lib.strCells_oneCell s
    have hl2 : (Lib.strCells s).length = s.size := Lib.strCells_length s
    have hk2 : ∀ r ∈ s.data.toList.map eb, r.length = 1 := enc_rows (f := eb) _
    have hcap0 := fun old => grownCap_ge w (rows.length + s.size) old E
    have hcap1 := fun old => grownCap_le_maxLen w (rows.length + s.size) old E h63
    have hsm : rows.length + s.size ≤ 9223372036854775807 := by simp only [maxLen] at h63; omega
    have fin : ∀ (us1 : List Value) (cap : Nat) (v' : Value) (w' : World), RepL R w rows.flatten us1 → (∀ u ∈ us1, u.oneCell' = true) → (∀ r ∈ rows, r.length = 1) → cap ≤ maxLen → rows.length + s.size ≤ cap → us1.length = rows.length →
        v' = .slice (some ⟨w.heap.size, 0, none⟩) (rows.length + s.size) cap → w' = w.drew.alloc (.cells (us1.toArray ++ (Lib.strCells s).toArray ++ Builtin.zeroCells z.cells (cap - (rows.length + s.size))) E) →
        ∃ id' R', RepS R' w' (.sl 1 (some id') (rows ++ s.data.toList.map eb)) v' ∧ Rl R' g n ⟨σ.t, σ.bx, σ.tk.set i ⟨id', E, 1, (rows ++ s.data.toList.map eb).length⟩⟩ a w' := by
      rintro us1 cap v' w' k1 k2 k3 k4 k5 k6 rfl rfl
      have hd : Rl R g n σ a w.drew := h.drewN 1
      have hkd : Kp R w R w.drew := fun _ _ hb => ⟨hb, rfl⟩
      obtain ⟨R', q1, q2⟩ := hd.newTk (rows := rows ++ s.data.toList.map eb) (k := 1) (cap := cap) (us1 := us1 ++ Lib.strCells s) (us := us1.toArray ++ (Lib.strCells s).toArray ++ Builtin.zeroCells z.cells (cap - (rows.length + s.size)))
        (by rw [List.flatten_append]; exact (k1.mono hkd).append (v2.mono hkd)) (fun r hr => (List.mem_append.1 hr).elim (k3 r) (hk2 r)) (fun u hu => (List.mem_append.1 hu).elim (k2 u) (v3 u))
        (by simp only [Array.toList_append]; exact List.take_left) E (by simp only [Array.size_append, List.size_toArray, size_zeroCells, hzs, k6, hl2]; omega) (by rw [List.length_append, hlen2]; exact k5) k4 (one_app (fun u hu => by simpa [← e3] using List.all_eq_true.1 hi.one u (by rw [← e3]; exact hu)) k2 v3 _)
      refine ⟨some (w.heap.size, cap), R', by rw [List.length_append, hlen2] at q2; exact q2, q1.imp ⟨ImpT.refl _, SubM.setTk _ _ _ _⟩⟩
    cases id with
    | none =>
      obtain ⟨rfl, rfl⟩ := hn rfl
      have hrows : rows = [] := List.eq_nil_of_length_eq_zero (by omega)
      subst hrows
      have hby' := hby
      simp only [List.length_nil, Nat.zero_add] at hby' hsm
      have hrun := run_append_nil_string (P := P) w t tS ty E inf z ht hS e1 e2 s hpos (by omega) (by omega)
      have hx : ([] : List (List Sd)).length + s.size = s.size := Nat.zero_add _
      obtain ⟨id', R', q1, q2⟩ := fin [] (grownCap w s.size 0 E) _ _ rfl (by simp) (by simp) (by rw [← hx]; exact hcap1 0) (by rw [hx]; have := hcap0 0; rwa [hx] at this) (by simp) rfl rfl
      have hm : (List.map (fun b : UInt8 => Value.int .u8 (b.toNat : Int)) s.data.toList).toArray = Array.map (fun b : UInt8 => Value.int .u8 (b.toNat : Int)) s.data := by apply Array.ext'; simp
      refine ⟨_, _, id', R', hrun, ?_, ?_⟩
      · simpa [Lib.strCells, hm] using q1
      · simpa [Lib.strCells, hm] using q2
    | some q =>
      obtain ⟨b, m⟩ := q
      obtain ⟨rfl, rfl⟩ := hid b m rfl
      obtain ⟨⟨us, k0, k2⟩, k3, k4⟩ := h.mem.own _ (List.mem_of_getElem? htk) b c rfl
      obtain ⟨fr, k1, kfr⟩ := id k0
      have k2 : us.size = c * 1 := k2.1
      have hR0 : RepR R w b 0 1 rows := by
        rcases hrr with rfl | ⟨b', o', e, hh⟩
        · trivial
        · injection e with e; injection e with e1 e2; subst e1 e2; exact hh
      by_cases hroom : rows.length + s.size ≤ c
      · have hrun := run_append_room_stringR (P := P) w t tS ty E inf ht hS e1 e4 b rows.length c us k0 s hroom (by rw [k2]; omega)
        obtain ⟨R', q1, q2⟩ := h.roomTk (rows2 := s.data.toList.map eb) htk k1 kfr k2 hR0 v2 hk2 v3 (by rw [hlen2]; exact hroom) hc2
        rw [hl2, Nat.mul_one] at q1 q2
        rw [hlen2] at q2
        exact ⟨_, _, some (b, c), R', hrun, q2, q1⟩
      · obtain ⟨g1, g2⟩ := hR0.flat
        obtain ⟨us1, y2, y3, y4⟩ := g1.vals
        have hl1 := y2.length
        have holds : ∀ j x, us1[j]? = some x → w.cell? ((⟨b, 0, none⟩ : Addr).add j) = some x := fun j x hx => by rw [add_lit_]; exact (y4 j x hx).2
        have hrun := Lib.run_append_grow_string (P := P) w t tS ty E inf z ht hS e1 e2 ⟨b, 0, none⟩ rows.length c us1 (by rw [hl1, g2, e4]) holds s (by omega) (by omega) (growslice_fits (by omega) hby)
        obtain ⟨id', R', q1, q2⟩ := fin us1 (grownCap w (rows.length + s.size) c E) _ _ y2 y3 hR0.len (hcap1 c) (hcap0 c) (by rw [hl1, g2, Nat.mul_one]) rfl rfl
        exact ⟨_, _, id', R', hrun, q1, q2⟩
end
section
variable {P : Program} {ops : Array Oper} {Q : Exit → Act → World → Prop} {g : Gh} {n : Nat} {t : List (Nat × Sd)} {bx : List Bx} {tk : List Tk} {rest : List Oper} {ty : TypeId} {ps : String} {af : Array Edge} {gd : Option (Nat × Bool)} {fuel : Nat} {listed : Array Bool}
theorem wp_appendS {σ : St} {K : Act → World → Prop} {d : Nat} {T tS E : TypeId} {bytes : Nat} {zero : List Value} (ht : P.underlying T = some (.slice E)) (hS : P.underlying tS = some .string) (hi : Inf P E 1 bytes zero) {x y : Operand} {i : Nat} {id : Option (Nat × Nat)} {l : List UInt8} {s : ByteArray}
    (hx : ev σ.t x = some (.sl 1 (some id) (l.map eb))) (hy : ev σ.t y = some (.v (.string s))) (htk : σ.tk[i]? = some ⟨id, E, 1, l.length⟩) (hd : Nat.blt d n = true) (hby : Room (l.length + s.data.toList.length) bytes)
    (h : ∀ id', Hx g n ⟨(d, .sl 1 (some id') ((l ++ s.data.toList).map eb)) :: σ.t, σ.bx, σ.tk.set i ⟨id', E, 1, (l ++ s.data.toList).length⟩⟩ K) :
    Hx g n σ (fun a w => Oper.wp P ⟨some d, .call ⟨.builtin .append, #[x, y], #[T, tS]⟩, ty, ps, af, gd⟩ a w K Q) := by
  rintro a w ⟨R, hr⟩
  have hev : a.eval y = .string s := hr.ev hy
  have hby' := hby
  rw [size_list] at hby'
  obtain ⟨v', w', id', R', hrun, h1, h2⟩ := app_coreS (s := s) hr ht hS hi ty (hr.ev hx) (by rw [List.length_map]; exact htk) (by rw [List.length_map]; exact hby'.1) (by rw [List.length_map]; exact hby'.2)
  rw [← hev] at hrun
  unfold Oper.wp execOp
  simp only [resolve, invoke, builtin, Sem.run_bind, Sem.run_pure, Result.andThen_ok, List.map_toArray, List.map_cons, List.map_nil, hrun]
  rw [← List.map_append] at h1 h2
  rw [List.length_map] at h2
  exact h id' _ _ ⟨R', h2.put (by simpa [Nat.blt_eq] using hd) h1⟩
theorem wp_appendNilS {σ : St} {K : Act → World → Prop} {d : Nat} {T tS E : TypeId} {bytes : Nat} {zero : List Value} (ht : P.underlying T = some (.slice E)) (hS : P.underlying tS = some .string) (hi : Inf P E 1 bytes zero) {x y : Operand} {s : ByteArray}
    (hx : ev σ.t x = some (.v (.slice none 0 0))) (hy : ev σ.t y = some (.v (.string s))) (hd : Nat.blt d n = true) (hby : Room s.data.toList.length bytes)
    (h : ∀ id', Hx g n ⟨(d, .sl 1 (some id') (s.data.toList.map eb)) :: σ.t, σ.bx, ⟨id', E, 1, s.data.toList.length⟩ :: σ.tk⟩ K) :
    Hx g n σ (fun a w => Oper.wp P ⟨some d, .call ⟨.builtin .append, #[x, y], #[T, tS]⟩, ty, ps, af, gd⟩ a w K Q) := by
  rintro a w ⟨R, hr⟩
  have hev : a.eval y = .string s := hr.ev hy
  have hby' := hby
  rw [size_list] at hby'
  have hr' := hr.imp (σ' := ⟨σ.t, σ.bx, ⟨none, E, 1, 0⟩ :: σ.tk⟩) ⟨ImpT.refl _, SubM.addNil _ _ _ _ _⟩
  obtain ⟨v', w', id', R', hrun, h1, h2⟩ := app_coreS (i := 0) (rows := []) (s := s) hr' ht hS hi ty (Wk.nil_own 1 _ _ _ (hr.ev hx)) rfl (by simpa using hby'.1) (by simpa using hby'.2)
  rw [← hev] at hrun
  unfold Oper.wp execOp
  simp only [resolve, invoke, builtin, Sem.run_bind, Sem.run_pure, Result.andThen_ok, List.map_toArray, List.map_cons, List.map_nil, hrun]
  rw [List.nil_append] at h1 h2
  rw [List.length_map] at h2
  exact h id' _ _ ⟨R', h2.put (by simpa [Nat.blt_eq] using hd) h1⟩
theorem xappendSM {d : Nat} {T tS E : TypeId} {bytes : Nat} {zero : List Value} {x y : Operand} {id : Option (Nat × Nat)} {l : List UInt8} {s : ByteArray} (i : Nat) (hby : Room (l.length + s.data.toList.length) bytes) (ht : P.underlying T = some (.slice E)) (hS : P.underlying tS = some .string) (hi : Inf P E 1 bytes zero)
    (hx : ev t x = some (.sl 1 (some id) (l.map eb))) (hy : ev t y = some (.v (.string s))) (htk : tk[i]? = some ⟨id, E, 1, l.length⟩) (hw : want ops t gd = some true) (hd : Nat.blt d n = true)
    (h : ∀ id', HL P ops Q g n ⟨(d, .sl 1 (some id') ((l ++ s.data.toList).map eb)) :: t, bx, tk.set i ⟨id', E, 1, (l ++ s.data.toList).length⟩⟩ rest) :
    HL P ops Q g n ⟨t, bx, tk⟩ (⟨some d, .call ⟨.builtin .append, #[x, y], #[T, tS]⟩, ty, ps, af, gd⟩ :: rest) :=
  ⟨hx_world (σ := ⟨t, bx, tk⟩) hw (wp_appendS (σ := ⟨t, bx, tk⟩) ht hS hi hx hy htk hd hby fun id => (h id).h)⟩
theorem wappendSM {d : Nat} {T tS E : TypeId} {bytes : Nat} {zero : List Value} {x y : Operand} {id : Option (Nat × Nat)} {l : List UInt8} {s : ByteArray} (i : Nat) (hby : Room (l.length + s.data.toList.length) bytes) (ht : P.underlying T = some (.slice E)) (hS : P.underlying tS = some .string) (hi : Inf P E 1 bytes zero)
    (hx : ev t x = some (.sl 1 (some id) (l.map eb))) (hy : ev t y = some (.v (.string s))) (htk : tk[i]? = some ⟨id, E, 1, l.length⟩) (hw : want ops t gd = some true) (hd : Nat.blt d n = true)
    (h : ∀ id', HA P ops Q g n ⟨(d, .sl 1 (some id') ((l ++ s.data.toList).map eb)) :: t, bx, tk.set i ⟨id', E, 1, (l ++ s.data.toList).length⟩⟩ fuel listed) :
    HW P ops Q g n ⟨t, bx, tk⟩ fuel listed ⟨some d, .call ⟨.builtin .append, #[x, y], #[T, tS]⟩, ty, ps, af, gd⟩ :=
  hw_ hw fun _ hK => wp_appendS (σ := ⟨t, bx, tk⟩) ht hS hi hx hy htk hd hby fun id => (h id).k hK
theorem xappendNilSM {d : Nat} {T tS E : TypeId} {bytes : Nat} {zero : List Value} {x y : Operand} {s : ByteArray} (hby : Room s.data.toList.length bytes) (ht : P.underlying T = some (.slice E)) (hS : P.underlying tS = some .string) (hi : Inf P E 1 bytes zero)
    (hx : ev t x = some (.v (.slice none 0 0))) (hy : ev t y = some (.v (.string s))) (hw : want ops t gd = some true) (hd : Nat.blt d n = true)
    (h : ∀ id', HL P ops Q g n ⟨(d, .sl 1 (some id') (s.data.toList.map eb)) :: t, bx, ⟨id', E, 1, s.data.toList.length⟩ :: tk⟩ rest) :
    HL P ops Q g n ⟨t, bx, tk⟩ (⟨some d, .call ⟨.builtin .append, #[x, y], #[T, tS]⟩, ty, ps, af, gd⟩ :: rest) :=
  ⟨hx_world (σ := ⟨t, bx, tk⟩) hw (wp_appendNilS (σ := ⟨t, bx, tk⟩) ht hS hi hx hy hd hby fun id => (h id).h)⟩
theorem wappendNilSM {d : Nat} {T tS E : TypeId} {bytes : Nat} {zero : List Value} {x y : Operand} {s : ByteArray} (hby : Room s.data.toList.length bytes) (ht : P.underlying T = some (.slice E)) (hS : P.underlying tS = some .string) (hi : Inf P E 1 bytes zero)
    (hx : ev t x = some (.v (.slice none 0 0))) (hy : ev t y = some (.v (.string s))) (hw : want ops t gd = some true) (hd : Nat.blt d n = true)
    (h : ∀ id', HA P ops Q g n ⟨(d, .sl 1 (some id') (s.data.toList.map eb)) :: t, bx, ⟨id', E, 1, s.data.toList.length⟩ :: tk⟩ fuel listed) :
    HW P ops Q g n ⟨t, bx, tk⟩ fuel listed ⟨some d, .call ⟨.builtin .append, #[x, y], #[T, tS]⟩, ty, ps, af, gd⟩ :=
  hw_ hw fun _ hK => wp_appendNilS (σ := ⟨t, bx, tk⟩) ht hS hi hx hy hd hby fun id => (h id).k hK
end
end Go.Proofs.Ytpddiffpanihdaa
