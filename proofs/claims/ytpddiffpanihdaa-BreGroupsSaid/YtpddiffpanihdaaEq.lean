/- Comparing structs and arrays. -/
import Derived.Test.YtpddiffpanihdaaMore
import Derived.Laws.StructEq
import Derived.ChangeKeysEq
namespace Go.Proofs.Ytpddiffpanihdaa
def mkS (ag : Bool) (cs : List Sd) : Sd := match ag with
  | true => .agg cs
  | false => cs.headD .any
/-- Values of a type, as data, are compared as their data. -/
class EqC (P : Program) (t : TypeId) {α : Type} [DecidableEq α] (f : α → List Sd) (ag : outParam Bool) (D : outParam Nat) : Prop where
  h : ∀ d, D ≤ d → ∀ (x y : α) (R : Nat → Nat → Prop) (w : World) (u v : Value), RepS R w (mkS ag (f x)) u → RepS R w (mkS ag (f y)) v → ∀ W : World, (Op.equalIn d t u v).run P W = .ok (decide (x = y)) W
section
variable {P : Program}
theorem d_succ {d D : Nat} (h : D + 1 ≤ d) : ∃ d', d = d' + 1 ∧ D ≤ d' := ⟨d - 1, by omega, by omega⟩
instance eqC_int {t : TypeId} [hu : UndC P t (.int .i64)] : EqC P t ei false 1 := ⟨by
  rintro d hd x y R w _ _ rfl rfl W
  obtain ⟨d, rfl, _⟩ := d_succ hd
  rw [run_equalIn_int _ _ _ _ _ _ _ hu.h]; rfl⟩
instance eqC_u8 {t : TypeId} [hu : UndC P t (.int .u8)] : EqC P t eb false 1 := ⟨by
  rintro d hd x y R w _ _ rfl rfl W
  obtain ⟨d, rfl, _⟩ := d_succ hd
  rw [run_equalIn_int _ _ _ _ _ _ _ hu.h]
  congr 1
  show decide ((x.toNat : Int) = (y.toNat : Int)) = _
  rw [decide_eq_decide, Int.ofNat_inj, UInt8.toNat_inj]⟩
instance eqC_u64 {t : TypeId} [hu : UndC P t (.int .u64)] : EqC P t ew false 1 := ⟨by
  rintro d hd x y R w _ _ rfl rfl W
  obtain ⟨d, rfl, _⟩ := d_succ hd
  rw [run_equalIn_int _ _ _ _ _ _ _ hu.h]
  congr 1
  show decide ((x.toNat : Int) = (y.toNat : Int)) = _
  rw [decide_eq_decide, Int.ofNat_inj, UInt64.toNat_inj]⟩
instance eqC_bool {t : TypeId} [hu : UndC P t .bool] : EqC P t eB false 1 := ⟨by
  rintro d hd x y R w _ _ rfl rfl W
  obtain ⟨d, rfl, _⟩ := d_succ hd
  rw [run_equalIn_bool' _ _ _ _ _ hu.h]
  cases x <;> cases y <;> rfl⟩
/-- The fields, one by one. -/
theorem eqF_nil (d : Nat) (us vs : Array Value) (W : World) : (Op.eqFields d us vs []).run P W = .ok true W := rfl
theorem eqF_cons {d : Nat} {us vs : Array Value} {fd : Field} {fs : List Field} {r : Bool} {R : Nat → Nat → Prop} {w W : World} {cs cs' : List Sd} {α : Type} [DecidableEq α] {f : α → List Sd} {ag : Bool} {k D : Nat} {x y : α} (hu : RepL R w cs us.toList) (hu1 : ∀ x ∈ us.toList, x.oneCell' = true) (hv : RepL R w cs' vs.toList) (hv1 : ∀ x ∈ vs.toList, x.oneCell' = true)
    (hn : fd.name ≠ "_") (hs : Shp P fd.type ag k) (he : EqC P fd.type f ag D) (hd : D ≤ d) (hx : partS ag k fd.offset cs = some (mkS ag (f x))) (hy : partS ag k fd.offset cs' = some (mkS ag (f y))) (h : (Op.eqFields d us vs fs).run P W = .ok r W) : (Op.eqFields d us vs (fd :: fs)).run P W = .ok (decide (x = y) && r) W := by
  obtain ⟨a, a1, a2⟩ := part_run hs hu hu1 hx
  obtain ⟨b, b1, b2⟩ := part_run hs hv hv1 hy
  simp only [Op.eqFields]
  rw [if_pos hn]
  simp only [Sem.run_bind, a2, b2, he.h d hd x y R w a b a1 b1, Result.andThen_ok]
  by_cases hxy : x = y
  · rw [decide_eq_true hxy]; simpa using h
  · rw [decide_eq_false hxy]; rfl
/-- The elements, one by one. -/
theorem eqI {d k : Nat} {e : TypeId} {us vs : Array Value} {R : Nat → Nat → Prop} {w W : World} {α : Type} [DecidableEq α] {f : α → List Sd} [hl : EncLen f k] {ag : Bool} {D : Nat} {xs ys : List α} (hlen : xs.length = ys.length) (hu : RepL R w (xs.map f).flatten us.toList) (hu1 : ∀ x ∈ us.toList, x.oneCell' = true) (hv : RepL R w (ys.map f).flatten vs.toList) (hv1 : ∀ x ∈ vs.toList, x.oneCell' = true)
    (hs : Shp P e ag k) (he : EqC P e f ag D) (hd : D ≤ d) (hp : ∀ z, partS ag k 0 (f z) = some (mkS ag (f z))) : ∀ (m i : Nat), i + m = xs.length → (Op.eqItems d e k us vs (List.range' i m)).run P W = .ok (decide (xs.drop i = ys.drop i)) W
  | 0, i, hi => by
    rw [List.drop_eq_nil_of_le (by omega), List.drop_eq_nil_of_le (by omega)]
    rfl
  | m + 1, i, hi => by
    have h1 : i < xs.length := by omega
    have h2 : i < ys.length := by omega
    have px : partS ag k (i * k) (xs.map f).flatten = some (mkS ag (f xs[i])) := by
      obtain ⟨X, Y, e1, e2, _⟩ := row_split (pre := []) (post := []) (enc_rows (f := f) xs) (map_at (List.getElem?_eq_getElem h1))
      rw [show (xs.map f).flatten = [] ++ ((xs.map f).flatten ++ []) by simp, e1]
      exact part_mid (by simpa using e2) (hl.h _) (hp _)
    have py : partS ag k (i * k) (ys.map f).flatten = some (mkS ag (f ys[i])) := by
      obtain ⟨X, Y, e1, e2, _⟩ := row_split (pre := []) (post := []) (enc_rows (f := f) ys) (map_at (List.getElem?_eq_getElem h2))
      rw [show (ys.map f).flatten = [] ++ ((ys.map f).flatten ++ []) by simp, e1]
      exact part_mid (by simpa using e2) (hl.h _) (hp _)
    obtain ⟨a, a1, a2⟩ := part_run hs hu hu1 px
    obtain ⟨b, b1, b2⟩ := part_run hs hv hv1 py
    have ih := eqI (W := W) hlen hu hu1 hv hv1 hs he hd hp m (i + 1) (by omega)
    rw [List.range'_succ]
    simp only [Op.eqItems, Sem.run_bind, a2, b2, he.h d hd _ _ R w a b a1 b1, Result.andThen_ok]
    rw [List.drop_eq_getElem_cons h1]
    by_cases hxy : xs[i] = ys[i]
    · rw [decide_eq_true hxy]
      simp only [Bool.not_true, Bool.false_eq_true, if_false, ih]
      congr 1
      rw [hxy]
      rw [decide_eq_decide, List.drop_eq_getElem_cons h2, List.cons.injEq]
      exact ⟨fun h => ⟨rfl, h⟩, fun h => h.2⟩
    · rw [decide_eq_false hxy]
      simp only [Bool.not_false, if_true, Sem.run_pure]
      congr 1
      symm
      rw [decide_eq_false_iff_not]
      intro hc
      rw [List.drop_eq_getElem_cons h2] at hc
      exact hxy (List.cons.inj hc).1
instance {n : Nat} {α : Type} [DecidableEq α] : DecidableEq (Arr n α) := fun a b => match decEq a.l b.l with
  | isTrue h => isTrue (Arr.ext h)
  | isFalse h => isFalse fun e => h (e ▸ rfl)
theorem eqC_arr {t e : TypeId} {n k : Nat} {α : Type} [DecidableEq α] {f : α → List Sd} [EncLen f k] {ag : Bool} {D : Nat} (hu : P.underlying t = some (.array n e)) (hs : Shp P e ag k) (hc : P.cellsOf e = k) (he : EqC P e f ag D) (hp : ∀ z, partS ag k 0 (f z) = some (mkS ag (f z))) : EqC P t (fun x : Arr n α => (x.l.map f).flatten) true (D + 1) := ⟨by
  rintro d hd x y R w u v ⟨us, rfl, hu', hu1⟩ ⟨vs, rfl, hv, hv1⟩ W
  obtain ⟨d, rfl, hd'⟩ := d_succ hd
  obtain ⟨i, hi, _⟩ := hs.size
  rw [run_equalIn_array _ d us vs hu hi, hc, List.range_eq_range', eqI (by rw [x.len, y.len]) hu' hu1 hv hv1 hs he hd' hp n 0 (by rw [x.len, Nat.zero_add])]
  congr 1
  rw [decide_eq_decide]
  exact ⟨fun h => Arr.ext h, fun h => by rw [h]⟩⟩
section
variable {g : Gh} {n : Nat} {σ : St} {d : Option Nat} {ty : TypeId} {ps : String} {af : Array Edge} {gd : Option (Nat × Bool)}
theorem pv_eqAgg {T yt : TypeId} {α : Type} [DecidableEq α] {f : α → List Sd} {D : Nat} {a b : α} {x y : Operand} (he : EqC P T f true D) (hD : Nat.ble D 10000 = true) (hm : P.eqGuardType P.depth T = false) (hx : ev σ.t x = some (.agg (f a))) (hy : ev σ.t y = some (.agg (f b))) : Val P g n σ ⟨d, .binOp .eql T x y yt, ty, ps, af, gd⟩ (.v (.bool (decide (a = b)))) := by
  refine ⟨fun R a' w hr => ?_⟩
  obtain ⟨us, e1, h1, h2⟩ := hr.ev hx
  obtain ⟨vs, e2, h3, h4⟩ := hr.ev hy
  refine ⟨_, rfl, fun W => ?_⟩
  have h5 := he.h 10000 (Nat.le_of_ble_eq_true hD) a b R w (.agg us) (.agg vs) ⟨us, rfl, h1, h2⟩ ⟨vs, rfl, h3, h4⟩ W
  have h6 := run_eqGuard_agg (P := P) W .eql T x y us vs hm
  simp only [execOp, Sem.run_bind, e1, e2, h6, Result.andThen_ok, run_eql_struct, h5]
  rfl
theorem pv_neAgg {T yt : TypeId} {α : Type} [DecidableEq α] {f : α → List Sd} {D : Nat} {a b : α} {x y : Operand} (he : EqC P T f true D) (hD : Nat.ble D 10000 = true) (hm : P.eqGuardType P.depth T = false) (hx : ev σ.t x = some (.agg (f a))) (hy : ev σ.t y = some (.agg (f b))) : Val P g n σ ⟨d, .binOp .neq T x y yt, ty, ps, af, gd⟩ (.v (.bool (!decide (a = b)))) := by
  refine ⟨fun R a' w hr => ?_⟩
  obtain ⟨us, e1, h1, h2⟩ := hr.ev hx
  obtain ⟨vs, e2, h3, h4⟩ := hr.ev hy
  refine ⟨_, rfl, fun W => ?_⟩
  have h5 := he.h 10000 (Nat.le_of_ble_eq_true hD) a b R w (.agg us) (.agg vs) ⟨us, rfl, h1, h2⟩ ⟨vs, rfl, h3, h4⟩ W
  have h6 := run_eqGuard_agg (P := P) W .neq T x y us vs hm
  simp only [execOp, Sem.run_bind, e1, e2, h6, Result.andThen_ok, run_neq_struct, h5]
  rfl
theorem pv_xorU {T : TypeId} {x : Operand} {z z' : Int} (e : z' = IntKind.u64.wrap (BitVec.ofInt IntKind.u64.bits IntKind.u64.max ^^^ BitVec.ofInt IntKind.u64.bits z).toNat) (hx : ev σ.t x = some (.v (.int .u64 z))) : Val P g n σ ⟨d, .unOp .xor T x, ty, ps, af, gd⟩ (.v (.int .u64 z')) := by
  subst e
  exact pv_un hx fun W => by
    show Sem.run P (Op.intBits .xor .u64 (if IntKind.u64.signed = true then -1 else IntKind.u64.max) z) W = _
    rw [if_neg (by decide)]
    simp [Op.intBits]
theorem pv_negI {T : TypeId} {x : Operand} {z : Int} (h : InR (-z)) (hx : ev σ.t x = some (.v (.int .i64 z))) : Val P g n σ ⟨d, .unOp .neg T x, ty, ps, af, gd⟩ (.v (.int .i64 (-z))) :=
  pv_un hx fun W => by
    show Sem.run P (Op.intArith .sub .i64 0 z) W = _
    simp [Op.intArith, wrap_id h.1 h.2]
end
end
end Go.Proofs.Ytpddiffpanihdaa
