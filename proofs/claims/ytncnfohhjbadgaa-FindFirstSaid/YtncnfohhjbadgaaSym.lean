
/- What a walk knows, as data: slots, variables, rows of its own, and what nobody changes; the steps on it. -/
import Derived.Below
import Derived.Laws.OwnMore
import Derived.Maps.AppendAt
import Derived.Deep.Draws
import Derived.Laws.Rows
import Derived.OwnWalk
import Derived.WalkKit
import Derived.Deep.RegionHeld3
import Derived.TacticsIn
import Derived.OrdersIn
import Derived.RangeFuncLeaves
import Derived.RangeFuncSeq
import Derived.Test.YtncnfohhjbadgaaCalm
namespace Go.Proofs.Ytncnfohhjbadgaa
open Go.RowKit
/-- A value as data: a plain one, a slice by its rows, a struct or array by its cells, results, a pointer to cells that nobody changes. -/
inductive Sd where
  | v (x : Value)
  | sl (k : Nat) (tok : Option (Option (Nat × Nat))) (rows : List (List Sd))
  | agg (cs : List Sd)
  | tup (ss : List Sd)
  | el (cs : List Sd)
  | pt (z : Bool) (cs : List Sd)
  | any
  | rb (id : Option (Nat × Nat)) (m : Nat)
  deriving Inhabited

/-- A row in place, or none yet. -/
def rbV (id : Option (Nat × Nat)) (m : Nat) : Value := match id with
  | none => .slice none m 0
  | some (b, c) => .slice (some ⟨b, 0, none⟩) m c
def RbOk (id : Option (Nat × Nat)) (m : Nat) : Prop := match id with
  | none => m = 0
  | some (_, c) => m ≤ c ∧ c ≤ maxLen
mutual
def RepS (R : Nat → Nat → Prop) (w : World) : Sd → Value → Prop
  | .v x, u => u = x
  | .any, _ => True
  | .rb id m, u => u = rbV id m ∧ RbOk id m
  | .agg cs, u => ∃ us, u = .agg us ∧ RepL R w cs us.toList ∧ ∀ x ∈ us.toList, x.oneCell' = true
  | .tup cs, u => ∃ us, u = .tuple us ∧ RepL R w cs us.toList
  | .el cs, u => ∃ b o, u = .pointer (some ⟨b, o, none⟩) ∧ RepC R w b o cs
  | .pt true _, u => u = .pointer none
  | .pt false cs, u => ∃ b o, u = .pointer (some ⟨b, o, none⟩) ∧ RepC R w b o cs
  | .sl k tok rows, u => ∃ A c, u = .slice A rows.length c ∧ (rows.length ≤ c ∧ c ≤ maxLen) ∧
      (tok = some none → A = none ∧ c = 0) ∧ (∀ b m, tok = some (some (b, m)) → A = some ⟨b, 0, none⟩ ∧ c = m) ∧
      (rows = [] ∨ ∃ b o, A = some ⟨b, o, none⟩ ∧ RepR R w b o k rows)
def RepL (R : Nat → Nat → Prop) (w : World) : List Sd → List Value → Prop
  | [], us => us = []
  | s :: ss, us => ∃ u r, us = u :: r ∧ RepS R w s u ∧ RepL R w ss r
def RepC (R : Nat → Nat → Prop) (w : World) (b o : Nat) : List Sd → Prop
  | [] => True
  | s :: ss => R b o ∧ (∃ u, w.cell? ⟨b, o, none⟩ = some u ∧ u.oneCell' = true ∧ RepS R w s u) ∧ RepC R w b (o + 1) ss
def RepR (R : Nat → Nat → Prop) (w : World) (b o k : Nat) : List (List Sd) → Prop
  | [] => True
  | r :: rs => r.length = k ∧ RepC R w b o r ∧ RepR R w b (o + k) k rs
end

/-- What is readable stays so. -/
def Kp (R : Nat → Nat → Prop) (w : World) (R' : Nat → Nat → Prop) (w' : World) : Prop := ∀ b o, R b o → R' b o ∧ w'.cell? ⟨b, o, none⟩ = w.cell? ⟨b, o, none⟩
theorem Kp.refl (R : Nat → Nat → Prop) (w : World) : Kp R w R w := fun _ _ h => ⟨h, rfl⟩
theorem Kp.trans {R R' R'' : Nat → Nat → Prop} {w w' w'' : World} (h : Kp R w R' w') (k : Kp R' w' R'' w'') : Kp R w R'' w'' := fun b o hr => ⟨(k b o (h b o hr).1).1, (k b o (h b o hr).1).2.trans (h b o hr).2⟩

mutual
theorem RepS.mono {R R' : Nat → Nat → Prop} {w w' : World} (h : Kp R w R' w') : ∀ {s : Sd} {u : Value}, RepS R w s u → RepS R' w' s u
  | .v _, _, hr => hr
  | .any, _, _ => trivial
  | .rb _ _, _, hr => hr
  | .agg _, _, ⟨us, e, hl, h1⟩ => ⟨us, e, RepL.mono h hl, h1⟩
  | .tup _, _, ⟨us, e, hl⟩ => ⟨us, e, RepL.mono h hl⟩
  | .el _, _, ⟨b, o, e, hl⟩ => ⟨b, o, e, RepC.mono h hl⟩
  | .pt true _, _, hr => hr
  | .pt false _, _, ⟨b, o, e, hl⟩ => ⟨b, o, e, RepC.mono h hl⟩
  | .sl _ _ _, _, ⟨A, c, e, h1, h2, h3, hl⟩ => ⟨A, c, e, h1, h2, h3, hl.imp id fun ⟨b, o, e, hr⟩ => ⟨b, o, e, RepR.mono h hr⟩⟩
theorem RepL.mono {R R' : Nat → Nat → Prop} {w w' : World} (h : Kp R w R' w') : ∀ {ss : List Sd} {us : List Value}, RepL R w ss us → RepL R' w' ss us
  | [], _, hr => hr
  | _ :: _, _, ⟨u, r, e, h1, h2⟩ => ⟨u, r, e, RepS.mono h h1, RepL.mono h h2⟩
theorem RepC.mono {R R' : Nat → Nat → Prop} {w w' : World} (h : Kp R w R' w') {b : Nat} : ∀ {ss : List Sd} {o : Nat}, RepC R w b o ss → RepC R' w' b o ss
  | [], _, _ => trivial
  | _ :: _, o, ⟨h0, ⟨u, h1, h1', h2⟩, h3⟩ => ⟨(h b o h0).1, ⟨u, (h b o h0).2.trans h1, h1', RepS.mono h h2⟩, RepC.mono h h3⟩
theorem RepR.mono {R R' : Nat → Nat → Prop} {w w' : World} (h : Kp R w R' w') {b k : Nat} : ∀ {ss : List (List Sd)} {o : Nat}, RepR R w b o k ss → RepR R' w' b o k ss
  | [], _, _ => trivial
  | _ :: _, _, ⟨h0, h1, h2⟩ => ⟨h0, RepC.mono h h1, RepR.mono h h2⟩
end
section
variable {R : Nat → Nat → Prop} {w : World}
theorem RepL.length : ∀ {ss : List Sd} {us : List Value}, RepL R w ss us → us.length = ss.length
  | [], _, h => by rw [show _ = [] from h]; rfl
  | _ :: _, _, ⟨u, r, e, _, h⟩ => by rw [e, List.length_cons, List.length_cons, h.length]
theorem RepL.at_ : ∀ {ss : List Sd} {us : List Value}, RepL R w ss us → ∀ {i : Nat} {s : Sd}, ss[i]? = some s → ∃ u, us[i]? = some u ∧ RepS R w s u
  | [], _, _, i, s, hi => by simp at hi
  | s0 :: ss, _, ⟨u, r, e, h1, h2⟩, 0, s, hi => by simp at hi; subst hi; exact ⟨u, by rw [e]; rfl, h1⟩
  | s0 :: ss, _, ⟨u, r, e, h1, h2⟩, i + 1, s, hi => by
    obtain ⟨u', hu, hr⟩ := h2.at_ (i := i) (s := s) (by simpa using hi)
    exact ⟨u', by rw [e]; simpa using hu, hr⟩
theorem RepL.append : ∀ {ss ts : List Sd} {us vs : List Value}, RepL R w ss us → RepL R w ts vs → RepL R w (ss ++ ts) (us ++ vs)
  | [], _, _, _, h, k => by rw [show _ = [] from h]; exact k
  | _ :: _, _, _, _, ⟨u, r, e, h1, h2⟩, k => ⟨u, _, by rw [e]; rfl, h1, h2.append k⟩
theorem RepL.drop : ∀ {ss : List Sd} {us : List Value} (n : Nat), RepL R w ss us → RepL R w (ss.drop n) (us.drop n)
  | _, _, 0, h => h
  | [], _, n + 1, h => by rw [show _ = [] from h]; rfl
  | _ :: _, _, n + 1, ⟨u, r, e, h1, h2⟩ => by rw [e]; exact h2.drop n
theorem RepL.take : ∀ {ss : List Sd} {us : List Value} (n : Nat), RepL R w ss us → RepL R w (ss.take n) (us.take n)
  | _, _, 0, h => by simp [RepL]
  | [], _, n + 1, h => by rw [show _ = [] from h]; rfl
  | _ :: _, _, n + 1, ⟨u, r, e, h1, h2⟩ => by rw [e]; exact ⟨u, _, rfl, h1, h2.take n⟩
theorem RepC.at_ {b : Nat} : ∀ {ss : List Sd} {o : Nat}, RepC R w b o ss → ∀ {i : Nat} {s : Sd}, ss[i]? = some s → R b (o + i) ∧ ∃ u, w.cell? ⟨b, o + i, none⟩ = some u ∧ u.oneCell' = true ∧ RepS R w s u
  | [], _, _, i, s, hi => by simp at hi
  | s0 :: ss, o, ⟨h0, h1, h2⟩, 0, s, hi => by simp at hi; subst hi; exact ⟨h0, h1⟩
  | s0 :: ss, o, ⟨h0, h1, h2⟩, i + 1, s, hi => by
    have := h2.at_ (i := i) (s := s) (by simpa using hi)
    rwa [show o + 1 + i = o + (i + 1) by omega] at this
theorem RepC.drop {b : Nat} : ∀ {ss : List Sd} {o : Nat} (n : Nat), RepC R w b o ss → RepC R w b (o + n) (ss.drop n)
  | _, _, 0, h => h
  | [], _, n + 1, h => trivial
  | _ :: _, o, n + 1, ⟨_, _, h2⟩ => by have := h2.drop n; rwa [show o + 1 + n = o + (n + 1) by omega] at this
theorem RepC.take {b : Nat} : ∀ {ss : List Sd} {o : Nat} (n : Nat), RepC R w b o ss → RepC R w b o (ss.take n)
  | _, _, 0, _ => by simp [RepC]
  | [], _, n + 1, _ => trivial
  | _ :: _, _, n + 1, ⟨h0, h1, h2⟩ => ⟨h0, h1, h2.take n⟩
/-- The values of cells. -/
theorem RepC.vals {b : Nat} : ∀ {ss : List Sd} {o : Nat}, RepC R w b o ss → ∃ us : List Value, RepL R w ss us ∧ (∀ u ∈ us, u.oneCell' = true) ∧ ∀ j u, us[j]? = some u → R b (o + j) ∧ w.cell? ⟨b, o + j, none⟩ = some u
  | [], _, _ => ⟨[], rfl, by simp, fun j u h => by simp at h⟩
  | s :: ss, o, ⟨h0, ⟨u, h1, h1', h2⟩, h3⟩ => by
    obtain ⟨us, k1, k2, k3⟩ := h3.vals
    refine ⟨u :: us, ⟨u, us, rfl, h2, k1⟩, fun x hx => ?_, fun j x hj => ?_⟩
    · simp at hx; rcases hx with rfl | hx
      · exact h1'
      · exact k2 x hx
    · cases j with
      | zero => simp at hj; subst hj; exact ⟨h0, h1⟩
      | succ j => have := k3 j x (by simpa using hj); rwa [show o + 1 + j = o + (j + 1) by omega] at this
theorem RepC.of_vals {b : Nat} : ∀ {ss : List Sd} {us : List Value} {o : Nat}, RepL R w ss us → (∀ u ∈ us, u.oneCell' = true) → (∀ j u, us[j]? = some u → R b (o + j) ∧ w.cell? ⟨b, o + j, none⟩ = some u) → RepC R w b o ss
  | [], _, _, _, _, _ => trivial
  | s :: ss, _, o, ⟨u, r, e, h1, h2⟩, h3, h4 => by
    subst e
    refine ⟨(h4 0 u rfl).1, ⟨u, (h4 0 u rfl).2, h3 u (by simp), h1⟩, RepC.of_vals h2 (fun x hx => h3 x (by simp [hx])) fun j x hj => ?_⟩
    have := h4 (j + 1) x (by simpa using hj)
    rwa [show o + (j + 1) = o + 1 + j by omega] at this
theorem RepR.flat {b k : Nat} : ∀ {rows : List (List Sd)} {o : Nat}, RepR R w b o k rows → RepC R w b o rows.flatten ∧ rows.flatten.length = rows.length * k
  | [], _, _ => ⟨trivial, by simp⟩
  | r :: rs, o, ⟨h0, h1, h2⟩ => by
    obtain ⟨k1, k2⟩ := h2.flat
    refine ⟨?_, by rw [List.flatten_cons, List.length_append, h0, k2, List.length_cons, Nat.add_mul]; omega⟩
    rw [List.flatten_cons]
    have app : ∀ (xs ys : List Sd) (o : Nat), RepC R w b o xs → RepC R w b (o + xs.length) ys → RepC R w b o (xs ++ ys) := by
      intro xs
      induction xs with
      | nil => intro ys o _ h; exact h
      | cons x xs ih => intro ys o ⟨h0, h1, h2⟩ h; exact ⟨h0, h1, ih ys (o + 1) h2 (by rwa [List.length_cons, show o + (xs.length + 1) = o + 1 + xs.length by omega] at h)⟩
    exact app _ _ _ h1 (by rw [h0]; exact k1)
theorem RepR.of_flat {b k : Nat} : ∀ {rows : List (List Sd)} {o : Nat}, (∀ r ∈ rows, r.length = k) → RepC R w b o rows.flatten → RepR R w b o k rows
  | [], _, _, _ => trivial
  | r :: rs, o, h0, h1 => by
    rw [List.flatten_cons] at h1
    have hr := h0 r (by simp)
    have h2 := h1.take r.length
    have h3 := h1.drop r.length
    rw [List.take_left] at h2
    rw [List.drop_left, hr] at h3
    exact ⟨hr, h2, RepR.of_flat (fun r hr => h0 r (by simp [hr])) h3⟩
theorem RepR.len {b k : Nat} : ∀ {rows : List (List Sd)} {o : Nat}, RepR R w b o k rows → ∀ r ∈ rows, r.length = k
  | [], _, _, r, hr => by simp at hr
  | _ :: _, _, ⟨h0, _, h2⟩, r, hr => by
    simp at hr
    rcases hr with rfl | hr
    · exact h0
    · exact h2.len r hr
theorem RepR.at_ {b k : Nat} : ∀ {rows : List (List Sd)} {o : Nat}, RepR R w b o k rows → ∀ {i : Nat} {r : List Sd}, rows[i]? = some r → r.length = k ∧ RepC R w b (o + i * k) r
  | [], _, _, i, r, hi => by simp at hi
  | r0 :: rs, o, ⟨h0, h1, h2⟩, 0, r, hi => by simp at hi; subst hi; exact ⟨h0, by simpa using h1⟩
  | r0 :: rs, o, ⟨h0, h1, h2⟩, i + 1, r, hi => by
    have := h2.at_ (i := i) (r := r) (by simpa using hi)
    rwa [show o + k + i * k = o + (i + 1) * k by rw [Nat.add_mul]; omega] at this
theorem RepR.drop {b k : Nat} : ∀ {rows : List (List Sd)} {o : Nat} (n : Nat), RepR R w b o k rows → RepR R w b (o + n * k) k (rows.drop n)
  | _, _, 0, h => by simpa using h
  | [], _, n + 1, h => trivial
  | _ :: _, o, n + 1, ⟨_, _, h2⟩ => by have := h2.drop n; rwa [show o + k + n * k = o + (n + 1) * k by rw [Nat.add_mul]; omega] at this
theorem RepR.take {b k : Nat} : ∀ {rows : List (List Sd)} {o : Nat} (n : Nat), RepR R w b o k rows → RepR R w b o k (rows.take n)
  | _, _, 0, _ => by simp [RepR]
  | [], _, n + 1, _ => trivial
  | _ :: _, _, n + 1, ⟨h0, h1, h2⟩ => ⟨h0, h1, h2.take n⟩
end
/-- A variable's block; a row of the call's own, none where the slice is nil. -/
structure Bx where
  b : Nat
  E : TypeId
  cs : List Sd
def bxb (x : Bx) : Option Nat := match x.cs with
  | [] => none
  | _ :: _ => some x.b
theorem bxb_some {x : Bx} (h : x.cs ≠ []) : bxb x = some x.b := by
  unfold bxb
  cases hc : x.cs with
  | nil => exact absurd hc h
  | cons _ _ => rfl
theorem bxb_none {x : Bx} (h : x.cs = []) : bxb x = none := by
  unfold bxb; rw [h]
theorem bxb_of {x : Bx} {b : Nat} (h : bxb x = some b) : x.cs ≠ [] ∧ x.b = b := by
  unfold bxb at h
  cases hc : x.cs with
  | nil => rw [hc] at h; cases h
  | cons _ _ => rw [hc] at h; injection h with h; exact ⟨by simp, h⟩
theorem bxb_eq {x y : Bx} (hb : x.b = y.b) (hl : x.cs.length = y.cs.length) : bxb x = bxb y := by
  by_cases h : x.cs = []
  · rw [bxb_none h, bxb_none (List.eq_nil_of_length_eq_zero (by rw [← hl, h]; rfl))]
  · have h2 : y.cs ≠ [] := fun e => h (List.eq_nil_of_length_eq_zero (by rw [hl, e]; rfl))
    rw [bxb_some h, bxb_some h2, hb]
structure Tk where
  id : Option (Nat × Nat)
  E : TypeId
  k : Nat
  n : Nat
/-- What a walk knows: slots, variables, rows. -/
structure St where
  t : List (Nat × Sd)
  bx : List Bx
  tk : List Tk
def look : List (Nat × Sd) → Nat → Option Sd
  | [], _ => none
  | (k, s) :: r, d => match Nat.beq k d with
    | true => some s
    | false => look r d
def tkb (t : Tk) : Option Nat := t.id.map (·.1)
structure MemOk (R : Nat → Nat → Prop) (bx : List Bx) (tk : List Tk) (w : World) : Prop where
  lt : ∀ b o, R b o → b < w.heap.size
  box : ∀ x ∈ bx, x.cs ≠ [] → (∃ us, w.heap[x.b]? = some (.cells us x.E (0, 0)) ∧ RepL R w x.cs us.toList ∧ ∀ u ∈ us.toList, u.oneCell' = true) ∧ ∀ o, ¬ R x.b o
  own : ∀ t ∈ tk, ∀ b c, t.id = some (b, c) → (∃ us, w.heap[b]? = some (.cells us t.E (0, 0)) ∧ us.size = c * t.k) ∧ (t.n ≤ c ∧ c ≤ maxLen) ∧ ∀ o, t.n * t.k ≤ o → ¬ R b o
  nod : (bx.filterMap bxb ++ tk.filterMap tkb).Nodup
def dom (bx : List Bx) (tk : List Tk) (b : Nat) : Prop := b ∈ bx.filterMap bxb ++ tk.filterMap tkb
/-- From one memory to a later one: D may change. -/
structure Mv (D : Nat → Prop) (R : Nat → Nat → Prop) (w : World) (R' : Nat → Nat → Prop) (w' : World) : Prop where
  os : w'.os = w.os
  tape : w'.tape = w.tape
  output : w'.output = w.output
  size : w.heap.size ≤ w'.heap.size
  block : ∀ k, k < w.heap.size → ¬ D k → w'.heap[k]? = w.heap[k]?
  keep : Kp R w R' w'
  new : ∀ b o, R' b o → R b o ∨ w.heap.size ≤ b ∨ D b
theorem Mv.refl (D : Nat → Prop) (R : Nat → Nat → Prop) (w : World) : Mv D R w R w := ⟨rfl, rfl, rfl, Nat.le_refl _, fun _ _ _ => rfl, Kp.refl R w, fun _ _ h => .inl h⟩
theorem Mv.trans {D D' : Nat → Prop} {R R' R'' : Nat → Nat → Prop} {w w' w'' : World} (h : Mv D R w R' w') (k : Mv D' R' w' R'' w'') (hD : ∀ b, D' b → D b ∨ w.heap.size ≤ b) : Mv D R w R'' w'' := {
  os := k.os.trans h.os
  tape := k.tape.trans h.tape
  output := k.output.trans h.output
  size := Nat.le_trans h.size k.size
  block i hi hd := (k.block i (Nat.lt_of_lt_of_le hi h.size) fun e => (hD i e).elim hd (fun h => by omega)).trans (h.block i hi hd)
  keep := h.keep.trans k.keep
  new b o hr := by
    rcases k.new b o hr with h1 | h1 | h1
    · exact h.new b o h1
    · exact .inr (.inl (Nat.le_trans h.size h1))
    · exact .inr ((hD b h1).symm) }
/-- What was there at the entry. -/
theorem cell_lt {w : World} {a : Addr} {v : Value} (h : w.cell? a = some v) : a.block < w.heap.size := by
  rcases Nat.lt_or_ge a.block w.heap.size with h1 | h1
  · exact h1
  · unfold World.cell? at h; rw [Array.getElem?_eq_none h1] at h; simp at h
/-- Variables of the program's own (numbers, whatever they are), which a function of the library reads. -/
def glb : List Nat := []
def Glo (R : Nat → Nat → Prop) (w : World) : Prop := ∀ b ∈ glb, R b 0 ∧ ∃ m : Int, w.cell? ⟨b, 0, none⟩ = some (.int .i64 m)
theorem Glo.keep {R R' : Nat → Nat → Prop} {w w' : World} (h : Glo R w) (k : Kp R w R' w') : Glo R' w' := fun b hb => by
  obtain ⟨h1, m, h2⟩ := h b hb
  obtain ⟨h3, h4⟩ := k b 0 h1
  exact ⟨h3, m, h4.trans h2⟩
structure Gh where
  w : World
  R : Nat → Nat → Prop
  D : Nat → Prop
  gl : Glo R w
  ds : List Deferred
  rd : Option Nat
/-- Frame and memory are as they are known, with R the readable places. -/
structure Rl (R : Nat → Nat → Prop) (g : Gh) (n : Nat) (σ : St) (a : Act) (w : World) : Prop where
  mem : MemOk R σ.bx σ.tk w
  mv : Mv g.D g.R g.w R w
  dm : ∀ b, dom σ.bx σ.tk b → g.D b ∨ g.w.heap.size ≤ b
  df : a.defers = g.ds
  sz : a.tmps.size = n
  tm : ∀ d s, look σ.t d = some s → ∃ v, a.tmps[d]? = some v ∧ RepS R w s v
def Rel (g : Gh) (n : Nat) (σ : St) (a : Act) (w : World) : Prop := ∃ R, Rl R g n σ a w
def Hx (g : Gh) (n : Nat) (σ : St) (Φ : Act → World → Prop) : Prop := ∀ a w, Rel g n σ a w → Φ a w
theorem Hx.mono {g : Gh} {n : Nat} {σ : St} {Φ Ψ : Act → World → Prop} (h : Hx g n σ Φ) (hk : ∀ a w, Φ a w → Ψ a w) : Hx g n σ Ψ := fun a w hr => hk a w (h a w hr)

/-- A constant as data. -/
def ofV : Value → Sd
  | .agg cs => match cs.toList.all (·.oneCell') with
    | true => .agg (cs.toList.map .v)
    | false => .v (.agg cs)
  | u => .v u
def ev (t : List (Nat × Sd)) : Operand → Option Sd
  | .tmp d => look t d
  | .const u => some (ofV u)
  | .global g => some (.v (.pointer (some ⟨g, 0, none⟩)))
  | .func f => some (.v (.func (.func f) #[] #[]))
theorem repL_vals (R : Nat → Nat → Prop) (w : World) : ∀ us : List Value, RepL R w (us.map .v) us
  | [] => rfl
  | u :: us => ⟨u, us, rfl, rfl, repL_vals R w us⟩
theorem rep_ofV (R : Nat → Nat → Prop) (w : World) (u : Value) : RepS R w (ofV u) u := by
  unfold ofV
  split
  · split
    · rename_i h; exact ⟨_, rfl, repL_vals R w _, fun x hx => List.all_eq_true.1 h x hx⟩
    · rfl
  · rfl
section
variable {R : Nat → Nat → Prop} {g : Gh} {n : Nat} {σ : St} {a : Act} {w : World}
theorem Rl.ev (h : Rl R g n σ a w) {x : Operand} {s : Sd} (hx : ev σ.t x = some s) : RepS R w s (a.eval x) := by
  cases x with
  | tmp d =>
    obtain ⟨v, h1, h2⟩ := h.tm d s hx
    rw [show a.eval (.tmp d) = v by simp [Act.eval, h1]]
    exact h2
  | const u => injection hx with hx; subst hx; exact rep_ofV R w u
  | global g => injection hx with hx; subst hx; rfl
  | func f => injection hx with hx; subst hx; rfl
theorem Rl.evs (h : Rl R g n σ a w) : ∀ {xs : List Operand} {ss : List Sd}, xs.map (Proofs.Ytncnfohhjbadgaa.ev σ.t) = ss.map some → RepL R w ss (xs.map a.eval)
  | [], [], _ => rfl
  | x :: xs, s :: ss, e => by
    rw [List.map_cons, List.map_cons] at e
    injection e with e1 e2
    exact ⟨_, _, rfl, h.ev e1, h.evs e2⟩
  | [], _ :: _, e => by simp at e
  | _ :: _, [], e => by simp at e
theorem Rl.put (h : Rl R g n σ a w) {d : Nat} {s : Sd} {v : Value} (hd : d < n) (hv : RepS R w s v) : Rl R g n ⟨(d, s) :: σ.t, σ.bx, σ.tk⟩ (a.put (some d) v) w := {
  mem := h.mem
  mv := h.mv
  dm := h.dm
  df := h.df
  sz := by rw [show (a.put (some d) v).tmps = a.tmps.setIfInBounds d v from rfl, Array.size_setIfInBounds]; exact h.sz
  tm e s' hs := by
    rw [show (a.put (some d) v).tmps = a.tmps.setIfInBounds d v from rfl]
    have hds : d < a.tmps.size := by rw [h.sz]; exact hd
    simp only [look] at hs
    by_cases hde : d = e
    · subst hde
      rw [Nat.beq_refl] at hs
      injection hs with hs
      subst hs
      exact ⟨v, by simp [hds], hv⟩
    · rw [show Nat.beq d e = false by cases hq : Nat.beq d e with | false => rfl | true => exact absurd (Nat.eq_of_beq_eq_true hq) hde] at hs
      obtain ⟨u, h1, h2⟩ := h.tm e s' hs
      exact ⟨u, by rw [Array.getElem?_setIfInBounds_ne hde]; exact h1, h2⟩ }
/-- The memory moves on, the slots stay. -/
theorem Rl.move (h : Rl R g n σ a w) {R' : Nat → Nat → Prop} {w' : World} {D : Nat → Prop} {bx : List Bx} {tk : List Tk} (hm : MemOk R' bx tk w') (hv : Mv D R w R' w') (hD : ∀ b, D b → dom σ.bx σ.tk b ∨ w.heap.size ≤ b)
    (hdm : ∀ b, dom bx tk b → dom σ.bx σ.tk b ∨ w.heap.size ≤ b) : Rl R' g n ⟨σ.t, bx, tk⟩ a w' := {
  mem := hm
  mv := h.mv.trans hv fun b hb => (hD b hb).elim (h.dm b) (fun hb => .inr (Nat.le_trans h.mv.size hb))
  dm b hb := (hdm b hb).elim (h.dm b) (fun hb => .inr (Nat.le_trans h.mv.size hb))
  df := h.df
  sz := h.sz
  tm e s hs := by
    obtain ⟨u, h1, h2⟩ := h.tm e s hs
    exact ⟨u, h1, h2.mono hv.keep⟩ }
theorem kp_drewN (R : Nat → Nat → Prop) (w : World) (k : Nat) : Kp R w R (w.drewN k) := fun _ _ hr => ⟨hr, rfl⟩
theorem Rl.drewN (h : Rl R g n σ a w) (k : Nat) : Rl R g n σ a (w.drewN k) := {
  mem := ⟨h.mem.lt, fun x hx hne => (h.mem.box x hx hne).imp (fun ⟨us, h1, h2, h3⟩ => ⟨us, h1, h2.mono (kp_drewN R w k), h3⟩) id, h.mem.own, h.mem.nod⟩
  mv := h.mv.trans (⟨rfl, rfl, rfl, Nat.le_refl _, fun _ _ _ => rfl, fun _ _ hr => ⟨hr, rfl⟩, fun _ _ hr => .inl hr⟩ : Mv (fun _ => False) R w R (w.drewN k)) fun _ hb => hb.elim
  dm := h.dm
  df := h.df
  sz := h.sz
  tm e s hs := by
    obtain ⟨u, h1, h2⟩ := h.tm e s hs
    exact ⟨u, h1, h2.mono (kp_drewN R w k)⟩ }
end
/-- Is an operation carried out? By what its guard's operation yielded. -/
def want (ops : Array Oper) (t : List (Nat × Sd)) : Option (Nat × Bool) → Option Bool
  | none => some true
  | some (j, b) => match (ops[j]?).bind (·.dst) with
    | none => none
    | some d => match look t d with
      | some (.v (.bool c)) => some (c == b)
      | some (.v (.tuple _)) => some false
      | _ => none
/-- The fence of a frame: of a function's activation, or of a round of a loop over a function. -/
def fen (rd : Option Nat) : Fence := { Fence.wide with round := rd }
/-- What is left of a statement's operations; of code. -/
abbrev lwp (rd : Option Nat) (P : Program) (ops : Array Oper) (Q : Exit → Act → World → Prop) (l : List Oper) : Act → World → Prop := wpListIn (fen rd) 0 P ops Q l
abbrev cwp (rd : Option Nat) (P : Program) (c : Code) (Q : Exit → Act → World → Prop) : Act → World → Prop := c.wpIn (fen rd) 0 P Q
theorem fen_steps {rd : Option Nat} {P : Program} {m m' : Machine} : StepsIn (Machine.fenced P (fen rd)) P m m' ↔ Steps P m m' := stepsIn_wide
theorem fen_calls {rd : Option Nat} {k : Nat} {P : Program} {f : FuncId} {args : Array Value} {w : World} {R : Ending → World → Prop} : CallsIn (fen rd) k P f args w R ↔ Calls P f args w R := callsIn_wide (n := k)
theorem fen_room {rd : Option Nat} (n : Nat) : (fen rd).room n := fun _ h => by simp [fen, Fence.wide] at h
def nodef (o : Oper) : Bool := match o.op with
  | .defer _ => false
  | _ => true
theorem nodef_out {o : Oper} (h : nodef o = true) : ∀ c, o.op ≠ .defer c := fun c e => by simp [nodef, e] at h
theorem oper_in {rd : Option Nat} {P : Program} {Q : Exit → Act → World → Prop} {o : Oper} {a : Act} {w : World} {K : Act → World → Prop} (hd : nodef o = true ∨ rd = none) (h : o.wp P a w K Q) : o.wpIn (fen rd) 0 P a w K Q := by
  have hs : Oper.semAt rd a.eval o = execOp a.eval o := by
    rcases hd with hd | rfl
    · exact Oper.semAt_eq _ _ _ (nodef_out hd)
    · rfl
  refine ⟨fun _ _ => trivial, ?_⟩
  rw [show (fen rd).round = rd from rfl, hs]
  unfold Oper.wp at h
  generalize (execOp a.eval o).run P w = r at h ⊢
  cases r with
  | ok n w' =>
    cases n with
    | enter f args => exact ⟨fun h => (by cases h), fen_calls.2 h⟩
    | row row args => exact ⟨fun h => (by cases h), fun c cs _ => let ⟨v, w', r, s⟩ := h c cs; ⟨v, w', r, fen_steps.2 s⟩⟩
    | _ => first | exact h | exact h.elim
  | halt x w' => cases x <;> first | exact h | exact h.elim
theorem val_nodef {P : Program} {o : Oper} {ρ : Operand → Value} {w w' : World} {v : Value} (h : (execOp ρ o).run P w = .ok (.value v) w') : nodef o = true := by
  cases hn : nodef o with
  | true => rfl
  | false =>
    exfalso
    have : ∃ c, o.op = .defer c := by
      unfold nodef at hn
      split at hn
      · rename_i c e; exact ⟨c, e⟩
      · cases hn
    obtain ⟨c, e⟩ := this
    unfold execOp at h
    rw [e] at h
    simp only [Sem.run_bind] at h
    cases hs : (resolve ρ c o.type).run P w with
    | ok d w1 => rw [hs, Result.andThen_ok] at h; simp at h
    | halt x w1 => rw [hs] at h; simp [Result.andThen] at h
section
variable {P : Program} {ops : Array Oper} {Q : Exit → Act → World → Prop} {R : Nat → Nat → Prop} {g : Gh} {n : Nat} {σ : St} {rest : List Oper} {o : Oper} {K : Act → World → Prop}
theorem Rl.want_ {a : Act} {w : World} (h : Rl R g n σ a w) {o : Oper} {c : Bool} (hw : want ops σ.t o.guard = some c) : Region.wanted o (yielded ops a.tmps) = c := by
  unfold Region.wanted
  cases hg : o.guard with
  | none => rw [hg] at hw; injection hw
  | some q =>
    obtain ⟨j, b⟩ := q
    rw [hg] at hw
    simp only [want] at hw
    unfold yielded; dsimp only
    cases hd : (ops[j]?).bind (·.dst) with
    | none => rw [hd] at hw; cases hw
    | some d =>
      rw [hd] at hw
      dsimp only at hw
      cases hl : look σ.t d with
      | none => rw [hl] at hw; cases hw
      | some s =>
        rw [hl] at hw
        obtain ⟨v, h1, h2⟩ := h.tm d s hl
        rw [Option.bind_some, h1]
        cases s with
        | v x =>
          cases x with
          | bool e =>
            injection hw with hw
            rw [show v = .bool e from h2, ← hw]
            cases e <;> cases b <;> rfl
          | tuple us =>
            injection hw with hw
            rw [show v = .tuple us from h2, ← hw]
            rfl
          | _ => cases hw
        | _ => cases hw
/-- The operation yields s, whatever has been laid into new blocks meanwhile. -/
structure Val (P : Program) (g : Gh) (n : Nat) (σ : St) (o : Oper) (s : Sd) : Prop where
  h : ∀ R a w, Rl R g n σ a w → ∃ v, RepS R w s v ∧ ∀ W : World, (execOp a.eval o).run P W = .ok (.value v) W
/-- The same, of an operation that reads memory. -/
structure ValE (P : Program) (g : Gh) (n : Nat) (σ : St) (o : Oper) (s : Sd) : Prop where
  h : ∀ R a w, Rl R g n σ a w → ∃ v, RepS R w s v ∧ ∀ W : World, Ext w.heap W.heap → (execOp a.eval o).run P W = .ok (.value v) W
theorem Val.e {s : Sd} (h : Val P g n σ o s) : ValE P g n σ o s := ⟨fun R a w hr => let ⟨v, h1, h2⟩ := h.h R a w hr; ⟨v, h1, fun W _ => h2 W⟩⟩

theorem hx_nil (h : Hx g n σ (Q .normal)) : Hx g n σ (lwp g.rd P ops Q []) := h
theorem hx_val {d : Nat} {s : Sd} {op : Op} {ty : TypeId} {ps : String} {af : Array Edge} {gd : Option (Nat × Bool)} (hw : want ops σ.t gd = some true) (hv : ValE P g n σ ⟨some d, op, ty, ps, af, gd⟩ s) (hd : Nat.blt d n = true)
    (h : Hx g n ⟨(d, s) :: σ.t, σ.bx, σ.tk⟩ (lwp g.rd P ops Q rest)) : Hx g n σ (lwp g.rd P ops Q (⟨some d, op, ty, ps, af, gd⟩ :: rest)) := by
  rintro a w ⟨R, hr⟩
  obtain ⟨v, h1, h2⟩ := hv.h R a w hr
  unfold lwp wpListIn
  rw [if_pos (hr.want_ (o := ⟨some d, op, ty, ps, af, gd⟩) hw)]
  refine oper_in (.inl (val_nodef (h2 w (.refl _)))) ?_
  unfold Oper.wp
  rw [h2 w (.refl _)]
  exact h _ _ ⟨R, hr.put (by simpa [Nat.blt_eq] using hd) h1⟩
theorem hx_skip {d : Nat} {op : Op} {ty : TypeId} {ps : String} {af : Array Edge} {gd : Option (Nat × Bool)} (hw : want ops σ.t gd = some false) (hd : Nat.blt d n = true)
    (h : Hx g n ⟨(d, .v undef) :: σ.t, σ.bx, σ.tk⟩ (lwp g.rd P ops Q rest)) : Hx g n σ (lwp g.rd P ops Q (⟨some d, op, ty, ps, af, gd⟩ :: rest)) := by
  rintro a w ⟨R, hr⟩
  unfold lwp wpListIn
  rw [if_neg (by rw [hr.want_ (o := ⟨some d, op, ty, ps, af, gd⟩) hw]; simp)]
  exact ⟨fun _ _ => trivial, h _ _ ⟨R, hr.put (by simpa [Nat.blt_eq] using hd) rfl⟩⟩
theorem hx_world (hw : want ops σ.t o.guard = some true) (h : Hx g n σ (fun a w => o.wp P a w (lwp g.rd P ops Q rest) Q)) (hnd : nodef o = true ∨ g.rd = none := by exact .inl rfl) : Hx g n σ (lwp g.rd P ops Q (o :: rest)) := by
  rintro a w ⟨R, hr⟩
  unfold lwp wpListIn
  rw [if_pos (hr.want_ hw)]
  exact oper_in hnd (h _ _ ⟨R, hr⟩)

-- operations that yield whatever the world is
section
variable {d : Option Nat} {ty : TypeId} {ps : String} {af : Array Edge} {gd : Option (Nat × Bool)}
theorem pv_move {x : Operand} {s : Sd} (hx : ev σ.t x = some s) : Val P g n σ ⟨d, .move x, ty, ps, af, gd⟩ s := ⟨fun _ _ _ hr => ⟨_, hr.ev hx, fun _ => rfl⟩⟩
theorem pv_assign {x : Operand} {s : Sd} (hx : ev σ.t x = some s) : Val P g n σ ⟨d, .assign x, ty, ps, af, gd⟩ s := ⟨fun _ _ _ hr => ⟨_, hr.ev hx, fun _ => rfl⟩⟩
theorem pv_pick {c x y : Operand} {b : Bool} {s : Sd} (hc : ev σ.t c = some (.v (.bool b))) (hx : ev σ.t (cond b x y) = some s) : Val P g n σ ⟨d, .pick c x y, ty, ps, af, gd⟩ s := by
  refine ⟨fun R a w hr => ?_⟩
  have h1 : a.eval c = .bool b := hr.ev hc
  refine ⟨_, hr.ev hx, fun W => ?_⟩
  cases b <;> simp [execOp, h1, asBool]
theorem pv_nilCheck {x : Operand} {A : Addr} (hx : ev σ.t x = some (.v (.pointer (some A)))) : Val P g n σ ⟨d, .nilCheck x, ty, ps, af, gd⟩ (.v (.pointer (some A))) := by
  refine ⟨fun R a w hr => ?_⟩
  have h1 : a.eval x = .pointer (some A) := hr.ev hx
  exact ⟨_, rfl, fun W => by simp [execOp, h1]⟩
theorem pv_bin {op : BinOp} {t yt : TypeId} {x y : Operand} {u v r : Value} (hx : ev σ.t x = some (.v u)) (hy : ev σ.t y = some (.v v))
    (h : ∀ W : World, (do eqGuard op t x y u v; binOp op t u v : Sem Value).run P W = .ok r W) : Val P g n σ ⟨d, .binOp op t x y yt, ty, ps, af, gd⟩ (.v r) := by
  refine ⟨fun R a w hr => ?_⟩
  have h1 : a.eval x = u := hr.ev hx
  have h2 : a.eval y = v := hr.ev hy
  refine ⟨r, rfl, fun W => ?_⟩
  have h3 := h W
  simp only [Sem.run_bind] at h3
  simp only [execOp, Sem.run_bind, h1, h2]
  cases hq : Sem.run P (eqGuard op t x y u v) W with
  | ok q w' => rw [hq] at h3; simp only [Result.andThen_ok] at h3 ⊢; rw [h3]; rfl
  | halt q w' => rw [hq] at h3; cases h3
theorem pv_un {op : UnOp} {t : TypeId} {x : Operand} {u r : Value} (hx : ev σ.t x = some (.v u)) (h : ∀ W : World, (Op.unary op u).run P W = .ok r W) : Val P g n σ ⟨d, .unOp op t x, ty, ps, af, gd⟩ (.v r) := by
  refine ⟨fun R a w hr => ?_⟩
  have h1 : a.eval x = u := hr.ev hx
  exact ⟨r, rfl, fun W => by simp [execOp, h1, h W]⟩
theorem pv_extract {x : Operand} {i : Nat} {ss : List Sd} {s : Sd} (hx : ev σ.t x = some (.tup ss)) (hs : ss[i]? = some s) : Val P g n σ ⟨d, .extract x i, ty, ps, af, gd⟩ s := by
  refine ⟨fun R a w hr => ?_⟩
  obtain ⟨us, h1, h2⟩ := hr.ev hx
  obtain ⟨u, h3, h4⟩ := h2.at_ hs
  refine ⟨u, h4, fun W => ?_⟩
  have h5 : us[i]? = some u := by simpa using h3
  simp [execOp, h1, Instr.extract, h5]
theorem pv_makeFunc {f : FuncId} {caps : Array Operand} {us : List Value} (hc : caps.toList.map (ev σ.t) = us.map (fun u => some (.v u))) : Val P g n σ ⟨d, .makeFunc (.func f) #[] caps, ty, ps, af, gd⟩ (.v (.func (.func f) #[] us.toArray)) := by
  refine ⟨fun R a w hr => ?_⟩
  have h1 := hr.evs (ss := us.map .v) (by rw [hc, List.map_map]; rfl)
  have h2 : caps.toList.map a.eval = us := by
    have : ∀ (us vs : List Value), RepL R w (us.map .v) vs → vs = us := by
      intro us
      induction us with
      | nil => intro vs h; exact h
      | cons u us ih => intro vs ⟨u', r, e, h1, h2⟩; rw [e, ih r h2, show u' = u from h1]
    exact this us _ h1
  refine ⟨_, rfl, fun W => ?_⟩
  have h3 : caps.map a.eval = us.toArray := by apply Array.ext'; rw [Array.toList_map]; exact h2
  simp [execOp, Instr.makeFunc, h3]
/-- A slice as rows. -/
def slOf : Sd → Option (Option (Option (Nat × Nat)) × List (List Sd))
  | .sl _ tok rows => some (tok, rows)
  | .v (.slice none 0 0) => some (some none, [])
  | _ => none
theorem rep_slOf {w : World} {s : Sd} {tok : Option (Option (Nat × Nat))} {rows : List (List Sd)} {u : Value} (h : slOf s = some (tok, rows)) (hr : RepS R w s u) : ∃ k, RepS R w (.sl k tok rows) u ∧ (rows = [] ∨ s = .sl k tok rows) := by
  unfold slOf at h
  split at h
  · injection h with h; injection h with h1 h2; subst h1 h2; exact ⟨_, hr, .inr rfl⟩
  · injection h with h; injection h with h1 h2; subst h1 h2
    exact ⟨0, ⟨none, 0, hr, ⟨Nat.le_refl _, by simp [maxLen]⟩, fun _ => ⟨rfl, rfl⟩, fun b m h => (by cases h), .inl rfl⟩, .inl rfl⟩
  · cases h
theorem pv_len {x : Operand} {s : Sd} {tok : Option (Option (Nat × Nat))} {rows : List (List Sd)} {t E : TypeId} (hu : P.underlying t = some (.slice E)) (hx : ev σ.t x = some s) (hs : slOf s = some (tok, rows)) :
    Val P g n σ ⟨d, .call ⟨.builtin .len, #[x], #[t]⟩, ty, ps, af, gd⟩ (.v (.int .i64 (rows.length : Int))) := by
  refine ⟨fun R a w hr => ?_⟩
  obtain ⟨k, h1, _⟩ := rep_slOf hs (hr.ev hx)
  obtain ⟨A, c, h2, _⟩ := h1
  refine ⟨_, rfl, fun W => ?_⟩
  simp [execOp, resolve, invoke, builtin, Builtin.len_, h2, goInt, run_underlying hu]
/-- Part of a struct or an array. -/
def partS (agg : Bool) (size off : Nat) (cs : List Sd) : Option Sd := match agg with
  | true => some (.agg ((cs.drop off).take size))
  | false => cs[off]?
def isAggB : TypeDesc → Bool
  | .struct _ | .array _ _ => true
  | _ => false
/-- A type's shape: is it a struct or an array; how many cells it has. -/
structure Shp (P : Program) (t : TypeId) (agg : Bool) (size : Nat) : Prop where
  agg : ∃ d, P.underlying t = some d ∧ agg = isAggB d
  size : ∃ i, P.info? t = some i ∧ i.size = size
theorem Shp.run_isAgg {t : TypeId} {b : Bool} {k : Nat} (h : Shp P t b k) (w : World) : (isAgg t).run P w = .ok b w := by
  obtain ⟨d, h1, h2⟩ := h.agg
  unfold isAgg
  rw [Sem.run_bind, run_underlying h1, h2]
  cases d <;> simp [isAggB]
theorem Shp.run_size {t : TypeId} {b : Bool} {k : Nat} (h : Shp P t b k) (w : World) : (sizeOf t).run P w = .ok k w := by
  obtain ⟨i, h1, h2⟩ := h.size
  simp [sizeOf, typeInfo, h1, h2]
theorem part_run {t : TypeId} {b : Bool} {k off : Nat} (h : Shp P t b k) {R : Nat → Nat → Prop} {w : World} {cs : List Sd} {us : Array Value} (hr : RepL R w cs us.toList) (h1 : ∀ x ∈ us.toList, x.oneCell' = true) {s : Sd} (hs : partS b k off cs = some s) :
    ∃ v, RepS R w s v ∧ ∀ W : World, (part t us off).run P W = .ok v W := by
  cases b with
  | true =>
    injection hs with hs
    subst hs
    refine ⟨_, ⟨us.extract off (off + k), rfl, ?_, fun x hx => h1 x ?_⟩, fun W => by simp [part, h.run_isAgg, h.run_size]⟩
    · rw [Array.toList_extract, List.extract_eq_take_drop, Nat.add_sub_cancel_left]
      exact (hr.drop off).take k
    · rw [Array.toList_extract, List.extract_eq_take_drop] at hx
      exact List.mem_of_mem_drop (List.mem_of_mem_take hx)
  | false =>
    obtain ⟨u, h1, h2⟩ := hr.at_ hs
    have h3 : us[off]? = some u := by simpa using h1
    exact ⟨u, h2, fun W => by simp [part, h.run_isAgg, h3]⟩
/-- The address of an element of a slice. -/
theorem pv_indexAddr {x ix : Operand} {t E : TypeId} {i : Nat} {ki : IntKind} {z : Int} {b : Bool} {k : Nat} {tok : Option (Option (Nat × Nat))} {rows : List (List Sd)} {r : List Sd} (hu : P.underlying t = some (.slice E)) (hs : Shp P E b k)
    (hx : ev σ.t x = some (.sl k tok rows)) (hi : ev σ.t ix = some (.v (.int ki z))) (hz : z = (i : Int)) (hl : rows[i]? = some r) : Val P g n σ ⟨d, .indexAddr t x ix, ty, ps, af, gd⟩ (.el r) := by
  refine ⟨fun R a w hr => ?_⟩
  subst hz
  obtain ⟨A, c, h1, h2, h3, h4, h5⟩ := hr.ev hx
  have h6 : a.eval ix = .int ki i := hr.ev hi
  have hlt : i < rows.length := (List.getElem?_eq_some_iff.1 hl).1
  rcases h5 with rfl | ⟨bb, o, rfl, hrr⟩
  · simp at hl
  · have h7 := (hrr.at_ hl).2
    refine ⟨_, ⟨bb, o + i * k, rfl, h7⟩, fun W => ?_⟩
    have h8 : (⟨bb, o, none⟩ : Addr).add (i * k) = ⟨bb, o + i * k, none⟩ := by unfold Addr.add; split <;> simp_all
    simp [execOp, Instr.indexAt, run_underlying hu, h1, h6, asIntOf, hlt, hs.run_size, h8]
end
end
section
variable {P : Program} {ops : Array Oper} {Q : Exit → Act → World → Prop} {R : Nat → Nat → Prop} {g : Gh} {n : Nat} {σ : St} {rest : List Oper} {o : Oper} {K : Act → World → Prop}
  {d : Option Nat} {ty : TypeId} {ps : String} {af : Array Edge} {gd : Option (Nat × Bool)}
theorem add_lit_ (b o i : Nat) : (⟨b, o, none⟩ : Addr).add i = ⟨b, o + i, none⟩ := by unfold Addr.add; split <;> simp_all
/-- A part of cells that lie in memory, loaded. -/
theorem load_run {t : TypeId} {ag : Bool} {k b o : Nat} (h : Shp P t ag k) {R : Nat → Nat → Prop} {w : World} {cs : List Sd} {us : List Value} (hr : RepL R w cs us) (h1 : ∀ u ∈ us, u.oneCell' = true) {s : Sd} (hs : partS ag k o cs = some s) (hlen : o + k ≤ cs.length) :
    ∃ v, RepS R w s v ∧ ∀ W : World, (∀ j u, us[j]? = some u → W.cell? ⟨b, j, none⟩ = some u) → (loadVar t ⟨b, o, none⟩).run P W = .ok v W := by
  cases ag with
  | true =>
    injection hs with hs
    subst hs
    refine ⟨.agg ((us.drop o).take k).toArray, ⟨_, rfl, (hr.drop o).take k, fun x hx => h1 x (List.mem_of_mem_drop (List.mem_of_mem_take hx))⟩, fun W hW => ?_⟩
    have hl : ((us.drop o).take k).length = k := by rw [List.length_take, List.length_drop, hr.length]; omega
    have := run_loadCells_list (P := P) W ⟨b, o, none⟩ ((us.drop o).take k) fun j u hj => by
      rw [add_lit_]
      apply hW
      rw [List.getElem?_take] at hj
      split at hj
      · rwa [List.getElem?_drop] at hj
      · cases hj
    rw [hl] at this
    simp [loadVar, h.run_isAgg, h.run_size, this]
  | false =>
    obtain ⟨u, h3, h4⟩ := hr.at_ hs
    refine ⟨u, h4, fun W hW => ?_⟩
    have := hW o u h3
    simp [loadVar, h.run_isAgg, Go.load, Sem.run, this]
theorem pv_load {x : Operand} {t : TypeId} {ag : Bool} {k : Nat} {cs : List Sd} {s : Sd} (h : Shp P t ag k) (hx : ev σ.t x = some (.el cs)) (hs : partS ag k 0 cs = some s) (hlen : k ≤ cs.length) : ValE P g n σ ⟨d, .load t x, ty, ps, af, gd⟩ s := by
  refine ⟨fun R a w hr => ?_⟩
  obtain ⟨b, o, h1, h2⟩ := hr.ev hx
  obtain ⟨us, k1, k2, k3⟩ := h2.vals
  -- the cells from o on, as a list whose place o + j is j
  cases ag with
  | true =>
    injection hs with hs
    subst hs
    refine ⟨.agg (us.take k).toArray, ⟨_, rfl, by simpa using k1.take k, fun x hx => k2 x (List.mem_of_mem_take hx)⟩, fun W hW => ?_⟩
    have hl : (us.take k).length = k := by rw [List.length_take, k1.length]; omega
    have := run_loadCells_list (P := P) W ⟨b, o, none⟩ (us.take k) fun j u hj => by
      rw [add_lit_]
      rw [List.getElem?_take] at hj
      split at hj
      · have h5 := (k3 j u hj).2
        rw [hW.cell b (o + j) (by rw [h5]; rfl)]; exact h5
      · cases hj
    rw [hl] at this
    simp [execOp, Instr.loadAt, h1, Instr.sureAddr, loadVar, h.run_isAgg, h.run_size, this]
  | false =>
    obtain ⟨u, h3, h4⟩ := k1.at_ hs
    refine ⟨u, h4, fun W hW => ?_⟩
    have h5 := (k3 0 u h3).2
    have h6 : W.cell? ⟨b, o, none⟩ = some u := by rw [hW.cell b o (by rw [Nat.add_zero] at h5; rw [h5]; rfl)]; exact h5
    simp [execOp, Instr.loadAt, h1, Instr.sureAddr, loadVar, h.run_isAgg, Go.load, Sem.run, h6]
theorem pv_loadB {x : Operand} {t E : TypeId} {ag : Bool} {k b o : Nat} {cs : List Sd} {s : Sd} (h : Shp P t ag k) (hx : ev σ.t x = some (.v (.pointer (some ⟨b, o, none⟩)))) (hb : ⟨b, E, cs⟩ ∈ σ.bx) (hs : partS ag k o cs = some s) (hlen : o + k ≤ cs.length) :
    ValE P g n σ ⟨d, .load t x, ty, ps, af, gd⟩ s := by
  refine ⟨fun R a w hr => ?_⟩
  have h1 : a.eval x = _ := hr.ev hx
  by_cases hcs : cs = []
  · subst hcs
    have hk0 : o = 0 ∧ k = 0 := by simp at hlen; omega
    obtain ⟨rfl, rfl⟩ := hk0
    obtain ⟨v, k4, k5⟩ := load_run (b := b) (R := R) (w := w) h (cs := []) (us := []) rfl (by simp) hs hlen
    refine ⟨v, k4, fun W hW => ?_⟩
    have := k5 W fun j u hj => by simp at hj
    simp [execOp, Instr.loadAt, h1, Instr.sureAddr, this]
  obtain ⟨⟨us, k1, k2, k3⟩, _⟩ := hr.mem.box _ hb hcs
  obtain ⟨v, k4, k5⟩ := load_run (b := b) h k2 k3 hs hlen
  refine ⟨v, k4, fun W hW => ?_⟩
  have := k5 W fun j u hj => by
    have h5 : w.cell? ⟨b, j, none⟩ = some u := by rw [cell_of_row w b j us E (0, 0) k1]; simpa using hj
    rw [hW.cell b j (by rw [h5]; rfl)]; exact h5
  simp [execOp, Instr.loadAt, h1, Instr.sureAddr, this]
theorem pv_fieldAddrE {x : Operand} {t : TypeId} {f : Nat} {fs : Array Field} {fd : Field} {ag : Bool} {k : Nat} {cs : List Sd} (hu : P.underlying t = some (.struct fs)) (hf : fs[f]? = some fd) (hs : Shp P fd.type ag (k + 1)) (hx : ev σ.t x = some (.el cs)) :
    Val P g n σ ⟨d, .fieldAddr t x f, ty, ps, af, gd⟩ (.el (cs.drop fd.offset)) := by
  refine ⟨fun R a w hr => ?_⟩
  obtain ⟨b, o, h1, h2⟩ := hr.ev hx
  exact ⟨_, ⟨b, o + fd.offset, rfl, h2.drop _⟩, fun W => by simp [execOp, Instr.fieldAt, run_underlying hu, hf, h1, Instr.sureAddr, fieldPlace, hs.run_size, add_lit_]⟩
theorem pv_fieldAddrB {x : Operand} {t : TypeId} {f : Nat} {fs : Array Field} {fd : Field} {ag : Bool} {k b o : Nat} (hu : P.underlying t = some (.struct fs)) (hf : fs[f]? = some fd) (hs : Shp P fd.type ag (k + 1))
    (hx : ev σ.t x = some (.v (.pointer (some ⟨b, o, none⟩)))) : Val P g n σ ⟨d, .fieldAddr t x f, ty, ps, af, gd⟩ (.v (.pointer (some ⟨b, o + fd.offset, none⟩))) := by
  refine ⟨fun R a w hr => ?_⟩
  have h1 : a.eval x = _ := hr.ev hx
  exact ⟨_, rfl, fun W => by simp [execOp, Instr.fieldAt, run_underlying hu, hf, h1, Instr.sureAddr, fieldPlace, hs.run_size, add_lit_]⟩
/-- The address of an element of an array in a variable. -/
theorem pv_indexAddrB {x ix : Operand} {t E : TypeId} {len i : Nat} {ki : IntKind} {z : Int} {ag : Bool} {k b o : Nat} (hu : P.underlying t = some (.array len E)) (hs : Shp P E ag k)
    (hx : ev σ.t x = some (.v (.pointer (some ⟨b, o, none⟩)))) (hi : ev σ.t ix = some (.v (.int ki z))) (hz : z = (i : Int)) (hl : i < len) : Val P g n σ ⟨d, .indexAddr t x ix, ty, ps, af, gd⟩ (.v (.pointer (some ⟨b, o + i * k, none⟩))) := by
  refine ⟨fun R a w hr => ?_⟩
  subst hz
  have h1 : a.eval x = _ := hr.ev hx
  have h6 : a.eval ix = .int ki i := hr.ev hi
  exact ⟨_, rfl, fun W => by simp [execOp, Instr.indexAt, run_underlying hu, h1, h6, asIntOf, hl, hs.run_size, add_lit_, Instr.sureAddr]⟩
theorem pv_indexAddrE {x ix : Operand} {t E : TypeId} {len i : Nat} {ki : IntKind} {z : Int} {ag : Bool} {k : Nat} {cs : List Sd} (hu : P.underlying t = some (.array len E)) (hs : Shp P E ag k)
    (hx : ev σ.t x = some (.el cs)) (hi : ev σ.t ix = some (.v (.int ki z))) (hz : z = (i : Int)) (hl : i < len) : Val P g n σ ⟨d, .indexAddr t x ix, ty, ps, af, gd⟩ (.el (cs.drop (i * k))) := by
  refine ⟨fun R a w hr => ?_⟩
  subst hz
  obtain ⟨b, o, h1, h2⟩ := hr.ev hx
  have h6 : a.eval ix = .int ki i := hr.ev hi
  exact ⟨_, ⟨b, o + i * k, rfl, h2.drop _⟩, fun W => by simp [execOp, Instr.indexAt, run_underlying hu, h1, h6, asIntOf, hl, hs.run_size, add_lit_, Instr.sureAddr]⟩
end
/-- Operators on numbers of one kind, on texts. -/
def sbin : BinOp → Value → Value → Option Value
  | .add, .int k a, .int k' b => match decide (k = k') with | true => some (.int k (k.wrap (a + b))) | false => none
  | .sub, .int k a, .int k' b => match decide (k = k') with | true => some (.int k (k.wrap (a - b))) | false => none
  | .mul, .int k a, .int k' b => match decide (k = k') with | true => some (.int k (k.wrap (a * b))) | false => none
  | .eql, .int k a, .int k' b => match decide (k = k') with | true => some (.bool (decide (a = b))) | false => none
  | .neq, .int k a, .int k' b => match decide (k = k') with | true => some (.bool (!decide (a = b))) | false => none
  | .lss, .int k a, .int k' b => match decide (k = k') with | true => some (.bool (decide (a < b))) | false => none
  | .leq, .int k a, .int k' b => match decide (k = k') with | true => some (.bool (decide (a ≤ b))) | false => none
  | .gtr, .int k a, .int k' b => match decide (k = k') with | true => some (.bool (decide (b < a))) | false => none
  | .geq, .int k a, .int k' b => match decide (k = k') with | true => some (.bool (decide (b ≤ a))) | false => none
  | .and, .int k a, .int k' b => match decide (k = k') with | true => some (.int k (k.wrap (BitVec.ofInt k.bits a &&& BitVec.ofInt k.bits b).toNat)) | false => none
  | .or, .int k a, .int k' b => match decide (k = k') with | true => some (.int k (k.wrap (BitVec.ofInt k.bits a ||| BitVec.ofInt k.bits b).toNat)) | false => none
  | .xor, .int k a, .int k' b => match decide (k = k') with | true => some (.int k (k.wrap (BitVec.ofInt k.bits a ^^^ BitVec.ofInt k.bits b).toNat)) | false => none
  | .eql, .string a, .string b => some (.bool (a.toList == b.toList))
  | .neq, .string a, .string b => some (.bool (!(a.toList == b.toList)))
  | _, _, _ => none
section
variable {P : Program} {g : Gh} {n : Nat} {σ : St} {d : Option Nat} {ty : TypeId} {ps : String} {af : Array Edge} {gd : Option (Nat × Bool)}
theorem sbin_run {op : BinOp} {u v r : Value} (h : sbin op u v = some r) (t : TypeId) (x y : Operand) (W : World) : (do eqGuard op t x y u v; binOp op t u v : Sem Value).run P W = .ok r W := by
  unfold sbin at h
  split at h <;> first
    | (split at h
       · rename_i hk
         have hk := of_decide_eq_true hk
         subst hk
         injection h with h
         subst h
         simp [eqGuard, binOp, Op.intArith, Op.intCmp, Op.intBits, bne, BEq.beq]
       · cases h)
    | (injection h with h; subst h; simp [eqGuard, binOp, Op.stringOp])
    | cases h
theorem pv_bin2 {op : BinOp} {t yt : TypeId} {x y : Operand} {u v r : Value} (hx : ev σ.t x = some (.v u)) (hy : ev σ.t y = some (.v v)) (h : sbin op u v = some r) : Val P g n σ ⟨d, .binOp op t x y yt, ty, ps, af, gd⟩ (.v r) := pv_bin hx hy (sbin_run h t x y)
theorem wrap_id {z : Int} (h1 : -9223372036854775808 ≤ z) (h2 : z ≤ 9223372036854775807) : IntKind.i64.wrap z = z := by
  exact IntWalk.i64_in z ⟨h1, h2⟩
theorem pv_not {t : TypeId} {x : Operand} {b : Bool} (hx : ev σ.t x = some (.v (.bool b))) : Val P g n σ ⟨d, .unOp .not t x, ty, ps, af, gd⟩ (.v (.bool (!b))) := pv_un hx fun W => by simp [Op.unary]
theorem equal_run {t : TypeId} {d' : TypeDesc} {x y : Value} {b : Bool} (hu : P.underlying t = some d') (W : World) (h : match d', x, y with
    | .bool, .bool a, .bool c => b = (a == c)
    | .pointer _, .pointer none, .pointer q => b = q.isNone
    | .pointer _, .pointer (some _), .pointer none => b = false
    | .func _ _ _, .nilFunc, .nilFunc => b = true
    | .func _ _ _, .nilFunc, .func _ _ _ => b = false
    | .func _ _ _, .func _ _ _, .nilFunc => b = false
    | .slice _, .slice none _ _, .slice q _ _ => b = q.isNone
    | .slice _, .slice (some _) _ _, .slice none _ _ => b = false
    | _, _, _ => False) : (Op.equal t x y).run P W = .ok b W := by
  unfold Op.equal
  rw [show Op.maxDepth = 9999 + 1 from rfl, Op.equalIn, Sem.run_bind, run_underlying hu, Result.andThen_ok]
  split at h <;> first | (subst h; rfl) | exact h.elim
theorem pv_eqG {t yt : TypeId} {x y : Operand} {u v : Value} {b : Bool} (hx : ev σ.t x = some (.v u)) (hy : ev σ.t y = some (.v v)) (h : ∀ W : World, (Op.equal t u v).run P W = .ok b W)
    (hk : ∀ W : World, (do eqGuard .eql t x y u v; binOp .eql t u v : Sem Value).run P W = ((Op.equal t u v).run P W).andThen fun b W => .ok (.bool b) W) : Val P g n σ ⟨d, .binOp .eql t x y yt, ty, ps, af, gd⟩ (.v (.bool b)) :=
  pv_bin hx hy fun W => by rw [hk W, h W]; rfl
theorem pv_eqB {t yt : TypeId} {x y : Operand} {a b : Bool} (hu : P.underlying t = some .bool) (hx : ev σ.t x = some (.v (.bool a))) (hy : ev σ.t y = some (.v (.bool b))) : Val P g n σ ⟨d, .binOp .eql t x y yt, ty, ps, af, gd⟩ (.v (.bool (a == b))) :=
  pv_eqG hx hy (fun W => equal_run hu W rfl) fun W => by
  show Sem.run P (Op.equal t _ _ >>= fun q => pure (Value.bool q)) W = _
  rw [Sem.run_bind]; rfl
/-- A bound of a slice expression. -/
def Bd (t : List (Nat × Sd)) (dflt : Nat) (o : Option Operand) (v : Nat) : Prop := match o with
  | none => v = dflt
  | some x => ∃ k, ev t x = some (.v (.int k (v : Int)))
theorem Bd.none_ {t : List (Nat × Sd)} {dflt : Nat} : Bd t dflt none dflt := rfl
theorem Bd.some_ {t : List (Nat × Sd)} {dflt : Nat} {x : Operand} {k : IntKind} {z : Int} {v : Nat} (h : ev t x = some (.v (.int k z))) (hz : z = (v : Int)) : Bd t dflt (some x) v := by subst hz; exact ⟨k, h⟩
end

section
variable {P : Program} {g : Gh} {n : Nat} {σ : St} {d : Option Nat} {ty : TypeId} {ps : String} {af : Array Edge} {gd : Option (Nat × Bool)}
theorem Bd.eval {R : Nat → Nat → Prop} {a : Act} {w : World} (hr : Rl R g n σ a w) {dflt v : Nat} {o : Option Operand} (h : Bd σ.t dflt o v) : (o = none ∧ v = dflt) ∨ ∃ x k, o = some x ∧ a.eval x = .int k (v : Int) := by
  cases o with
  | none => exact .inl ⟨rfl, h⟩
  | some x =>
    obtain ⟨k, hk⟩ := h
    exact .inr ⟨x, k, rfl, hr.ev hk⟩
theorem bounds_run {R : Nat → Nat → Prop} {a : Act} {w : World} (hr : Rl R g n σ a w) {b : Bool} {len cap l h : Nat} {lo hi : Option Operand} (hl : Bd σ.t 0 lo l) (hh : Bd σ.t len hi h) (h1 : l ≤ h) (h2 : h ≤ cap) (W : World) :
    (Instr.sliceBounds b len cap (lo.map a.eval) (hi.map a.eval) none).run P W = .ok (l, h, cap) W := by
  have h3 : (l : Int) ≤ (h : Int) := by omega
  have h4 : (h : Int) ≤ (cap : Int) := by omega
  rcases hl.eval hr with ⟨rfl, rfl⟩ | ⟨x, k, rfl, e1⟩ <;> rcases hh.eval hr with ⟨rfl, rfl⟩ | ⟨x', k', rfl, e2⟩ <;> simp [Instr.sliceBounds, Instr.sliceBound, asIntOf, *]
theorem pv_slice {x : Operand} {t E : TypeId} {lo hi : Option Operand} {l h : Nat} {ag : Bool} {k : Nat} {tok : Option (Option (Nat × Nat))} {rows : List (List Sd)} (hu : P.underlying t = some (.slice E)) (hs : Shp P E ag k) (hx : ev σ.t x = some (.sl k tok rows))
    (hl : Bd σ.t 0 lo l) (hh : Bd σ.t rows.length hi h) (h1 : l ≤ h) (h2 : h ≤ rows.length) : Val P g n σ ⟨d, .slice t x lo hi none, ty, ps, af, gd⟩ (.sl k none ((rows.take h).drop l)) := by
  refine ⟨fun R a w hr => ?_⟩
  obtain ⟨A, c, e, h3, _, _, h5⟩ := hr.ev hx
  have hb := fun W => bounds_run (P := P) (b := true) hr hl hh h1 (Nat.le_trans h2 h3.1) W
  have hlen : ((rows.take h).drop l).length = h - l := by rw [List.length_drop, List.length_take]; omega
  refine ⟨.slice (if c = l then A else A.map (·.add (l * k))) (h - l) (c - l), ?_, fun W => by simp [execOp, Instr.sliceAt, Instr.slice, run_underlying hu, e, hb, hs.run_size]⟩
  refine ⟨_, _, by rw [hlen], ⟨by omega, by omega⟩, fun e => (by cases e), fun b m e => (by cases e), ?_⟩
  rcases h5 with rfl | ⟨b, o, rfl, hrr⟩
  · left; simp
  · right
    by_cases hc : c = l
    · rw [if_pos hc]
      refine ⟨b, o, rfl, ?_⟩
      have : (rows.take h).drop l = [] := List.eq_nil_of_length_eq_zero (by omega)
      rw [this]; trivial
    · rw [if_neg hc]
      exact ⟨b, o + l * k, by simp [add_lit_], (hrr.take h).drop l⟩
end
/-- One description of a value follows from another one. -/
def Wk (s s' : Sd) : Prop := ∀ R w u, RepS R w s u → RepS R w s' u
theorem Wk.refl (s : Sd) : Wk s s := fun _ _ _ h => h
theorem Wk.eq {s s' : Sd} (h : s = s') : Wk s s' := h ▸ Wk.refl s
theorem Wk.nil_own (k : Nat) : Wk (.v (.slice none 0 0)) (.sl k (some none) []) := fun _ _ _ h => ⟨none, 0, h, ⟨Nat.le_refl _, by simp [maxLen]⟩, fun _ => ⟨rfl, rfl⟩, fun _ _ e => (by cases e), .inl rfl⟩
theorem Wk.tok (k : Nat) (tok : Option (Option (Nat × Nat))) (rows : List (List Sd)) : Wk (.sl k tok rows) (.sl k none rows) := fun _ _ _ ⟨A, c, e, h1, _, _, h4⟩ => ⟨A, c, e, h1, fun e => (by cases e), fun _ _ e => (by cases e), h4⟩
inductive WkL : List Sd → List Sd → Prop where
  | nil : WkL [] []
  | cons {s s' : Sd} {ss ss' : List Sd} (h : Wk s s') (t : WkL ss ss') : WkL (s :: ss) (s' :: ss')
theorem WkL.rep {ss ss' : List Sd} (h : WkL ss ss') : ∀ {R : Nat → Nat → Prop} {w : World} {us : List Value}, RepL R w ss us → RepL R w ss' us := by
  induction h with
  | nil => intro R w us h; exact h
  | cons h _ ih => rintro R w _ ⟨u, r, e, h1, h2⟩; exact ⟨u, r, e, h _ _ _ h1, ih h2⟩
theorem WkL.refl : ∀ ss : List Sd, WkL ss ss
  | [] => .nil
  | s :: ss => .cons (.refl s) (WkL.refl ss)
theorem Wk.agg {ss ss' : List Sd} (h : WkL ss ss') : Wk (.agg ss) (.agg ss') := fun _ _ _ ⟨us, e, h1, h2⟩ => ⟨us, e, h.rep h1, h2⟩
/-- A description of memory follows from another one. -/
structure SubM (bx : List Bx) (tk : List Tk) (bx' : List Bx) (tk' : List Tk) : Prop where
  mem : ∀ R w, MemOk R bx tk w → MemOk R bx' tk' w
  dm : ∀ b, dom bx' tk' b → dom bx tk b
theorem SubM.refl (bx : List Bx) (tk : List Tk) : SubM bx tk bx tk := ⟨fun _ _ h => h, fun _ h => h⟩
theorem SubM.trans {b1 b2 b3 : List Bx} {t1 t2 t3 : List Tk} (h : SubM b1 t1 b2 t2) (k : SubM b2 t2 b3 t3) : SubM b1 t1 b3 t3 := ⟨fun R w x => k.mem R w (h.mem R w x), fun b x => h.dm b (k.dm b x)⟩
theorem SubM.of_sub {bx bx' : List Bx} {tk tk' : List Tk} (h1 : bx'.Sublist bx) (h2 : tk'.Sublist tk) : SubM bx tk bx' tk' := {
  mem _ _ h := ⟨h.lt, fun x hx => h.box x (h1.subset hx), fun t ht => h.own t (h2.subset ht), h.nod.sublist ((h1.filterMap _).append (h2.filterMap _))⟩
  dm _ hb := ((h1.filterMap _).append (h2.filterMap _)).subset hb }
theorem SubM.perm {bx bx' : List Bx} {tk tk' : List Tk} (h1 : bx.Perm bx') (h2 : tk.Perm tk') : SubM bx tk bx' tk' := {
  mem _ _ h := ⟨h.lt, fun x hx => h.box x (h1.mem_iff.2 hx), fun t ht => h.own t (h2.mem_iff.2 ht), ((h1.filterMap _).append (h2.filterMap _)).nodup_iff.1 h.nod⟩
  dm _ hb := ((h1.filterMap _).append (h2.filterMap _)).mem_iff.2 hb }
def ImpT (t t' : List (Nat × Sd)) : Prop := ∀ d s', look t' d = some s' → ∃ s, look t d = some s ∧ Wk s s'
theorem ImpT.nil (t : List (Nat × Sd)) : ImpT t [] := fun _ _ h => by cases h
theorem ImpT.refl (t : List (Nat × Sd)) : ImpT t t := fun _ s h => ⟨s, h, .refl s⟩
theorem ImpT.cons {t t' : List (Nat × Sd)} {d : Nat} {s s' : Sd} (h : look t d = some s) (hw : Wk s s') (ht : ImpT t t') : ImpT t ((d, s') :: t') := fun e s'' h' => by
  simp only [look] at h'
  cases hq : Nat.beq d e with
  | true =>
    rw [hq] at h'
    injection h' with h'
    subst h'
    have := Nat.eq_of_beq_eq_true hq
    subst this
    exact ⟨s, h, hw⟩
  | false => rw [hq] at h'; exact ht e s'' h'
structure Imp (σ σ' : St) : Prop where
  t : ImpT σ.t σ'.t
  m : SubM σ.bx σ.tk σ'.bx σ'.tk
theorem Rl.imp {R : Nat → Nat → Prop} {g : Gh} {n : Nat} {σ σ' : St} {a : Act} {w : World} (h : Rl R g n σ a w) (hi : Imp σ σ') : Rl R g n σ' a w := {
  mem := hi.m.mem R w h.mem
  mv := h.mv
  dm b hb := h.dm b (hi.m.dm b hb)
  df := h.df
  sz := h.sz
  tm d s' hs := by
    obtain ⟨s, h1, h2⟩ := hi.t d s' hs
    obtain ⟨v, h3, h4⟩ := h.tm d s h1
    exact ⟨v, h3, h2 R w v h4⟩ }
theorem hx_imp {g : Gh} {n : Nat} {σ σ' : St} {Φ : Act → World → Prop} (hi : Imp σ σ') (h : Hx g n σ' Φ) : Hx g n σ Φ := fun a w ⟨R, hr⟩ => h a w ⟨R, hr.imp hi⟩

section
variable {P : Program} {Q : Exit → Act → World → Prop} {R : Nat → Nat → Prop} {g : Gh} {n : Nat} {σ : St} {K : Act → World → Prop}
theorem hx_seq {x y : Code} (h : Hx g n σ (cwp g.rd P x (Exit.then (cwp g.rd P y Q) Q))) : Hx g n σ (cwp g.rd P (.seq x y) Q) := fun a w hr => wpIn_seq (h a w hr)
theorem hx_region {id : Nat} {l : List Oper} (h : Hx g n σ (lwp g.rd P l.toArray Q l)) : Hx g n σ (cwp g.rd P (.region id l.toArray false) Q) := fun a w hr => wpIn_region_lit (h a w hr)
theorem hx_skipc (h : Hx g n σ (Q .normal)) : Hx g n σ (cwp g.rd P .skip Q) := fun a w hr => wpIn_skip (h a w hr)
theorem hx_block {id : Nat} {c : Code} (h : Hx g n σ (cwp g.rd P c (Exit.inBlock id Q))) : Hx g n σ (cwp g.rd P (.block id c) Q) := fun a w hr => wpIn_block (h a w hr)
theorem hx_exit {id : Nat} (h : Hx g n σ (Q (.exit id))) : Hx g n σ (cwp g.rd P (.exit id) Q) := fun a w hr => wpIn_exit (h a w hr)
theorem hx_retc (h : Hx g n σ (Q .ret)) : Hx g n σ (cwp g.rd P .ret Q) := fun a w hr => wpIn_ret (h a w hr)
theorem hx_cond {c : Operand} {x y : Code} {b : Bool} (hc : ev σ.t c = some (.v (.bool b))) (h : Hx g n σ (cwp g.rd P (cond b x y) Q)) : Hx g n σ (cwp g.rd P (.cond c x y) Q) := fun a w hr => by
  obtain ⟨R, hr'⟩ := id hr
  have h1 : a.eval c = .bool b := hr'.ev hc
  refine wpIn_cond h1 ?_
  have := h a w hr
  cases b <;> exact this
theorem hx_in_same {id : Nat} (h : Hx g n σ (Q .normal)) : Hx g n σ (Exit.inBlock id Q (.exit id)) := by unfold Exit.inBlock; simpa using h
theorem hx_in_other {id i : Nat} (hne : Nat.beq i id = false) (h : Hx g n σ (Q (.exit i))) : Hx g n σ (Exit.inBlock id Q (.exit i)) := by
  have : i ≠ id := fun e => by subst e; rw [Nat.beq_refl] at hne; cases hne
  unfold Exit.inBlock; simpa [this] using h
theorem hx_loop {c : Code} (Inv : St → Nat → Prop) (h0 : ∃ σ0 m, Inv σ0 m ∧ Imp σ σ0)
    (round : ∀ σ m, Inv σ m → Hx g n σ (cwp g.rd P c (Exit.then (fun a w => ∃ σ' m', Inv σ' m' ∧ m' < m ∧ Rel g n σ' a w) Q))) : Hx g n σ (cwp g.rd P (.loop c) Q) := by
  rintro a w ⟨R, hr⟩ b k cs hro hb hrm
  obtain ⟨σ0, m0, hI0, hi0⟩ := h0
  have key : ∀ m σ a w, Inv σ m → Rel g n σ a w → ∃ e a' w', Q e a' w' ∧ ArrivesIn (Machine.fenced P (fen g.rd)) P (lone (b.atR a (.code c :: .inLoop c :: k)) cs w) b k cs e a' w' := by
    intro m
    induction m using Nat.strongRecOn with
    | _ m ih =>
      intro σ a w hI hr
      obtain ⟨e, a₁, w₁, hq, harr⟩ := round σ m hI a w hr b (.inLoop c :: k) cs hro hb hrm
      cases e with
      | normal =>
        obtain ⟨σ', m', hI', hm', hr'⟩ := hq
        obtain ⟨e₂, a₂, w₂, hq₂, harr₂⟩ := ih m' hm' σ' a₁ w₁ hI' hr'
        exact ⟨e₂, a₂, w₂, hq₂, .of_steps (StepsIn.trans harr (.one (fenced_calm hb hrm rfl) stepR_inLoop)) harr₂⟩
      | exit id => exact ⟨_, a₁, w₁, hq, .pass (x := .inLoop c) rfl (fun _ _ => .inl (by simp)) harr⟩
      | goto l => exact ⟨_, a₁, w₁, hq, .pass (x := .inLoop c) rfl (fun _ _ => .inl (by simp)) harr⟩
      | ret => exact ⟨_, a₁, w₁, hq, .pass (x := .inLoop c) rfl (fun _ _ => .inl (by simp)) harr⟩
      | panic ch => exact ⟨_, a₁, w₁, hq, .pass (x := .inLoop c) rfl (fun _ _ => .inl (by simp)) harr⟩
      | outgrown => exact ⟨_, a₁, w₁, hq, .pass (x := .inLoop c) rfl (fun _ _ => .inl (by simp)) harr⟩
  obtain ⟨e, a', w', hq, harr⟩ := key m0 σ0 a w hI0 ⟨R, hr.imp hi0⟩
  exact ⟨e, a', w', hq, .of_steps (.one (fenced_calm hb hrm rfl) stepR_loop) harr⟩
theorem hx_again {Inv : St → Nat → Prop} {m : Nat} (σ' : St) (m' : Nat) (hI : Inv σ' m') (hm : m' < m) (hi : Imp σ σ') : Hx g n σ (fun a w => ∃ σ' m', Inv σ' m' ∧ m' < m ∧ Rel g n σ' a w) := fun _ _ ⟨R, hr⟩ => ⟨σ', m', hI, hm, R, hr.imp hi⟩

/-- What a call hands back, and to what memory. -/
def RP (bx : List Bx) (tk : List Tk) (R0 : Nat → Nat → Prop) (w0 : World) (R : Sd → List Bx → List Tk → Prop) : Ending → World → Prop := fun e w' =>
  ∃ v r bx' tk' Rd', e = .returned v ∧ R r bx' tk' ∧ MemOk Rd' bx' tk' w' ∧ RepS Rd' w' r v ∧ Mv (dom bx tk) R0 w0 Rd' w' ∧ ∀ b, dom bx' tk' b → dom bx tk b ∨ w0.heap.size ≤ b
/-- A contract. -/
def Con (P : Program) (f : FuncId) (ss : List Sd) (bx : List Bx) (tk : List Tk) (R : Sd → List Bx → List Tk → Prop) : Prop :=
  ∀ Rd w vals, Glo Rd w → MemOk Rd bx tk w → RepL Rd w ss vals → Calls P f vals.toArray w (RP bx tk Rd w R)
def slots : Nat → List Sd → List (Nat × Sd)
  | _, [] => []
  | i, s :: ss => (i, s) :: slots (i + 1) ss
theorem slots_look : ∀ (i : Nat) (ss : List Sd) (d : Nat) (s : Sd), look (slots i ss) d = some s → i ≤ d ∧ ss[d - i]? = some s
  | _, [], _, _, h => by cases h
  | i, s0 :: ss, d, s, h => by
    simp only [slots, look] at h
    cases hq : Nat.beq i d with
    | true =>
      rw [hq] at h
      have := Nat.eq_of_beq_eq_true hq
      subst this
      injection h with h
      subst h
      exact ⟨Nat.le_refl _, by simp⟩
    | false =>
      rw [hq] at h
      obtain ⟨h1, h2⟩ := slots_look (i + 1) ss d s h
      refine ⟨by omega, ?_⟩
      rw [show d - i = (d - (i + 1)) + 1 by omega]
      simpa using h2
/-- The ghost of a function that has put off nothing. -/
structure GOk (g : Gh) (bx : List Bx) (tk : List Tk) : Prop where
  d : g.D = dom bx tk
  ds : g.ds = []
  rd : g.rd = none
theorem con_body {f : FuncId} {fn : Func} {c : Code} {ss : List Sd} {bx : List Bx} {tk : List Tk} {R : Sd → List Bx → List Tk → Prop} (hf : P.funcs[f]? = some fn) (hb : fn.body = some c) (hn : Nat.ble ss.length fn.ntmps = true)
    (h : ∀ g : Gh, GOk g bx tk → Hx g fn.ntmps ⟨slots 0 ss, bx, tk⟩ (cwp g.rd P c (bodyPost P fn (RP bx tk g.R g.w R)))) : Con P f ss bx tk R := by
  intro Rd w vals hgl hm hv
  have hl := hv.length
  have hn := Nat.le_of_ble_eq_true hn
  refine calls_of_wp hf hb (wpIn_wide (n := 0) |>.1 <| h ⟨w, Rd, dom bx tk, hgl, [], none⟩ ⟨rfl, rfl, rfl⟩ _ _ ⟨Rd, ⟨hm, .refl _ _ _, fun b hb => .inl hb, rfl, by simp; omega, fun d s hs => ?_⟩⟩)
  obtain ⟨_, h2⟩ := slots_look 0 ss d s hs
  obtain ⟨u, h3, h4⟩ := hv.at_ h2
  refine ⟨u, ?_, h4⟩
  have hd : d < vals.length := (List.getElem?_eq_some_iff.1 h3).1
  rw [Array.getElem?_append_left (by simpa using hd)]
  simpa using h3
theorem hx_ret1 {fn : Func} {bx bx' : List Bx} {tk tk' : List Tk} {R : Sd → List Bx → List Tk → Prop} {t : Nat} {s r : Sd} (hg : GOk g bx tk) (hr : fn.results = #[.tmp t]) (hl : look σ.t t = some s) (hw : Wk s r) (hm : SubM σ.bx σ.tk bx' tk') (hR : R r bx' tk') :
    Hx g n σ (bodyPost P fn (RP bx tk g.R g.w R) .ret) := by
  rintro a w ⟨Rd, h⟩
  obtain ⟨v, h1, h2⟩ := h.tm t s hl
  refine bodyPost_ret (results_tmp hr _ _ _) (h.df.trans hg.ds) ⟨_, r, bx', tk', Rd, rfl, hR, hm.mem _ _ h.mem, hw _ _ _ (by simpa [h1] using h2), by rw [← hg.d]; exact h.mv, fun b hb => by rw [← hg.d]; exact h.dm b (hm.dm b hb)⟩
theorem hx_ret0 {fn : Func} {bx bx' : List Bx} {tk tk' : List Tk} {R : Sd → List Bx → List Tk → Prop} (hg : GOk g bx tk) (hr : fn.results = #[]) (hm : SubM σ.bx σ.tk bx' tk') (hR : R (.tup []) bx' tk') (e : Exit) (he : e = .ret ∨ e = .normal) :
    Hx g n σ (bodyPost P fn (RP bx tk g.R g.w R) e) := by
  rintro a w ⟨Rd, h⟩
  have hres : (results fn a.tmps).run P w = .ok (.tuple #[]) w := by simp [results, hr]
  have hRP : RP bx tk g.R g.w R (.returned (.tuple #[])) w := ⟨_, .tup [], bx', tk', Rd, rfl, hR, hm.mem _ _ h.mem, ⟨_, rfl, rfl⟩, by rw [← hg.d]; exact h.mv, fun b hb => by rw [← hg.d]; exact h.dm b (hm.dm b hb)⟩
  rcases he with rfl | rfl
  · exact bodyPost_ret hres (h.df.trans hg.ds) hRP
  · exact bodyPost_end hres (h.df.trans hg.ds) hRP
theorem Rl.slot {R : Nat → Nat → Prop} {a : Act} {w : World} (h : Rl R g n σ a w) {t : Nat} {s r : Sd} (hl : look σ.t t = some s) (hw : Wk s r) : RepS R w r (a.tmps.getD t undef) := by
  obtain ⟨v, h1, h2⟩ := h.tm t s hl
  exact hw _ _ _ (by simpa [h1] using h2)
end
/-- A type's cells, bytes, zero value. -/
structure Inf (P : Program) (t : TypeId) (size bytes : Nat) (zero : List Value) : Prop where
  info : ∃ i z, P.info? t = some i ∧ i.zero = some z ∧ z.cells.toList = zero ∧ i.size = size ∧ i.bytes = bytes
  len : zero.length = size
  one : zero.all (·.oneCell') = true
section
variable {P : Program} {ops : Array Oper} {Q : Exit → Act → World → Prop} {R : Nat → Nat → Prop} {g : Gh} {n : Nat} {σ : St} {rest : List Oper} {o : Oper} {K : Act → World → Prop}
  {d : Nat} {ty : TypeId} {ps : String} {af : Array Edge} {gd : Option (Nat × Bool)}
/-- A new variable. -/
theorem Rl.newBx {a : Act} {w : World} (h : Rl R g n σ a w) {cs : List Sd} {us : Array Value} (hr : RepL R w cs us.toList) (h1 : ∀ u ∈ us.toList, u.oneCell' = true) (E : TypeId) : Rl R g n ⟨σ.t, ⟨w.heap.size, E, cs⟩ :: σ.bx, σ.tk⟩ a (w.alloc (.cells us E)) := by
  have kp : Kp R w R (w.alloc (.cells us E)) := fun b o hb => ⟨hb, World.cell?_alloc_past _ _ _ (h.mem.lt b o hb)⟩
  have hold : ∀ k, k < w.heap.size → (w.alloc (.cells us E)).heap[k]? = w.heap[k]? := fun k hk => Below.heap_alloc w _ k hk
  have hlt : ∀ b, dom σ.bx σ.tk b → b < w.heap.size := by
    intro b hb
    unfold dom at hb
    rcases List.mem_append.1 hb with hb | hb
    · obtain ⟨x, hx, hxb⟩ := List.mem_filterMap.1 hb
      obtain ⟨hne, rfl⟩ := bxb_of hxb
      obtain ⟨⟨us, k1, _⟩, _⟩ := h.mem.box x hx hne
      exact (Array.getElem?_eq_some_iff.1 k1).1
    · obtain ⟨t, ht, e⟩ := List.mem_filterMap.1 hb
      unfold tkb at e
      cases hq : t.id with
      | none => rw [hq] at e; cases e
      | some q =>
        rw [hq] at e
        injection e with e
        subst e
        obtain ⟨⟨us, k1, _⟩, _⟩ := h.mem.own t ht q.1 q.2 hq
        exact (Array.getElem?_eq_some_iff.1 k1).1
  refine h.move (D := fun _ => False) ⟨fun b o hb => by have := h.mem.lt b o hb; simp; omega, fun x hx hne => ?_, fun t ht b c e => ?_, ?_⟩
    ⟨rfl, rfl, rfl, by simp, fun k hk _ => hold k hk, kp, fun b o hb => .inl hb⟩ (fun _ hb => hb.elim) fun b hb => ?_
  · simp at hx
    rcases hx with rfl | hx
    · exact ⟨⟨us, heap_alloc_new w _, hr.mono kp, h1⟩, fun o hb => Nat.lt_irrefl _ (h.mem.lt _ o hb)⟩
    · obtain ⟨⟨us', k1, k2, k3⟩, k4⟩ := h.mem.box x hx hne
      exact ⟨⟨us', (hold _ (Array.getElem?_eq_some_iff.1 k1).1).trans k1, k2.mono kp, k3⟩, k4⟩
  · obtain ⟨⟨us', k1, k2⟩, k3⟩ := h.mem.own t ht b c e
    exact ⟨⟨us', (hold _ (Array.getElem?_eq_some_iff.1 k1).1).trans k1, k2⟩, k3⟩
  · by_cases hcs : cs = []
    · rw [List.filterMap_cons, bxb_none hcs]; exact h.mem.nod
    · rw [List.filterMap_cons, bxb_some (x := ⟨_, _, cs⟩) hcs]
      exact List.nodup_cons.2 ⟨fun hm => Nat.lt_irrefl _ (hlt _ hm), h.mem.nod⟩
  · unfold dom at hb
    by_cases hcs : cs = []
    · rw [List.filterMap_cons, bxb_none hcs] at hb; exact .inl hb
    · rw [List.filterMap_cons, bxb_some (x := ⟨_, _, cs⟩) hcs] at hb
      rcases List.mem_cons.1 hb with rfl | hb
      · exact .inr (Nat.le_refl _)
      · exact .inl hb
theorem Rl.dom_lt {a : Act} {w : World} (h : Rl R g n σ a w) : ∀ b, dom σ.bx σ.tk b → b < w.heap.size := by
  intro b hb
  unfold dom at hb
  rcases List.mem_append.1 hb with hb | hb
  · obtain ⟨x, hx, hxb⟩ := List.mem_filterMap.1 hb
    obtain ⟨hne, rfl⟩ := bxb_of hxb
    obtain ⟨⟨us, k1, _⟩, _⟩ := h.mem.box x hx hne
    exact (Array.getElem?_eq_some_iff.1 k1).1
  · obtain ⟨t, ht, e⟩ := List.mem_filterMap.1 hb
    unfold tkb at e
    cases hq : t.id with
    | none => rw [hq] at e; cases e
    | some q =>
      rw [hq] at e
      injection e with e
      subst e
      obtain ⟨⟨us, k1, _⟩, _⟩ := h.mem.own t ht q.1 q.2 hq
      exact (Array.getElem?_eq_some_iff.1 k1).1
theorem wp_alloc {E : TypeId} {size bytes : Nat} {zero : List Value} (hi : Inf P E size bytes zero) (hd : Nat.blt d n = true) (h : ∀ b, Hx g n ⟨(d, .v (.pointer (some ⟨b, 0, none⟩))) :: σ.t, ⟨b, E, zero.map .v⟩ :: σ.bx, σ.tk⟩ K) :
    Hx g n σ (fun a w => Oper.wp P ⟨some d, .alloc E, ty, ps, af, gd⟩ a w K Q) := by
  rintro a w ⟨R, hr⟩
  obtain ⟨i, z, e1, e2, e3, _, _⟩ := hi.info
  have hrun : (execOp a.eval ⟨some d, .alloc E, ty, ps, af, gd⟩).run P w = .ok (.value (.pointer (some ⟨w.heap.size, 0, none⟩))) (w.alloc (.cells z.cells E)) := by
    simp [execOp, Instr.alloc, zeroValue, typeInfo, e1, e2, newVar, newRow]
  unfold Oper.wp
  rw [hrun]
  refine h w.heap.size _ _ ⟨R, Rl.put (hr.newBx (cs := zero.map .v) (us := z.cells) (by rw [e3]; exact repL_vals R w zero) (fun u hu => ?_) E) (by simpa [Nat.blt_eq] using hd) rfl⟩
  rw [e3] at hu
  exact List.all_eq_true.1 hi.one u hu
/-- The cells of a value. -/
def cellsS : Sd → List Sd
  | .agg ss => ss
  | s => [s]
def oneS : Sd → Bool
  | .v x => x.oneCell'
  | .agg _ => true
  | .tup _ => false
  | .any => false
  | _ => true
theorem rep_cells {w : World} {s : Sd} {u : Value} (h : RepS R w s u) (h1 : oneS s = true) : RepL R w (cellsS s) u.cells.toList ∧ ∀ x ∈ u.cells.toList, x.oneCell' = true := by
  cases s with
  | agg ss => obtain ⟨us, rfl, k1, k2⟩ := h; exact ⟨k1, k2⟩
  | v x =>
    obtain rfl : u = x := h
    have : u.cells = #[u] := by cases u <;> first | rfl | cases h1
    rw [this]
    exact ⟨⟨u, [], rfl, rfl, rfl⟩, fun x hx => by simp at hx; subst hx; exact h1⟩
  | sl k tok rows => have h0 := h; obtain ⟨A, c, rfl, _⟩ := h; exact ⟨⟨_, [], rfl, h0, rfl⟩, by simp [Value.cells, Value.oneCell']⟩
  | el cs => have h0 := h; obtain ⟨b, o, rfl, _⟩ := h; exact ⟨⟨_, [], rfl, h0, rfl⟩, by simp [Value.cells, Value.oneCell']⟩
  | pt z cs =>
    have h0 := h
    cases z with
    | true => obtain rfl : u = .pointer none := h; exact ⟨⟨_, [], rfl, h0, rfl⟩, by simp [Value.cells, Value.oneCell']⟩
    | false => obtain ⟨b, o, rfl, _⟩ := h; exact ⟨⟨_, [], rfl, h0, rfl⟩, by simp [Value.cells, Value.oneCell']⟩
  | tup ss => cases h1
  | any => cases h1
  | rb id m =>
    obtain ⟨rfl, hok⟩ := h
    cases id with
    | none => exact ⟨⟨_, [], rfl, ⟨rfl, hok⟩, rfl⟩, by simp [rbV, Value.cells, Value.oneCell']⟩
    | some q => exact ⟨⟨_, [], rfl, ⟨rfl, hok⟩, rfl⟩, by simp [rbV, Value.cells, Value.oneCell']⟩
theorem wp_box {E : TypeId} {x : Operand} {s : Sd} (hx : ev σ.t x = some s) (h1 : oneS s = true) (hd : Nat.blt d n = true) (h : ∀ b, Hx g n ⟨(d, .v (.pointer (some ⟨b, 0, none⟩))) :: σ.t, ⟨b, E, cellsS s⟩ :: σ.bx, σ.tk⟩ K) :
    Hx g n σ (fun a w => Oper.wp P ⟨some d, .box E x, ty, ps, af, gd⟩ a w K Q) := by
  rintro a w ⟨R, hr⟩
  have hrun : (execOp a.eval ⟨some d, .box E x, ty, ps, af, gd⟩).run P w = .ok (.value (.pointer (some ⟨w.heap.size, 0, none⟩))) (w.alloc (.cells (a.eval x).cells E)) := by
    simp [execOp, Instr.box, newVar, newRow]
  unfold Oper.wp
  rw [hrun]
  obtain ⟨k1, k2⟩ := rep_cells (hr.ev hx) h1
  exact h w.heap.size _ _ ⟨R, Rl.put (hr.newBx k1 k2 E) (by simpa [Nat.blt_eq] using hd) rfl⟩
/-- A variable's cells, some of them written. -/
def putC (o : Nat) (ss cs : List Sd) : List Sd := cs.take o ++ ss ++ cs.drop (o + ss.length)
theorem fm_inj {α β : Type} {f : α → Option β} {l : List α} {i j : Nat} {x y : α} {b : β} (h1 : l[i]? = some x) (h2 : l[j]? = some y) (h3 : f x = some b) (h4 : f y = some b) (hn : (l.filterMap f).Nodup) : i = j := by
  induction l generalizing i j with
  | nil => simp at h1
  | cons t0 l ih =>
    cases i with
    | zero =>
      simp at h1; subst h1
      cases j with
      | zero => rfl
      | succ j =>
        rw [List.filterMap_cons, h3] at hn
        exact absurd (List.mem_filterMap.2 ⟨y, List.mem_of_getElem? (by simpa using h2), h4⟩) (List.nodup_cons.1 hn).1
    | succ i =>
      cases j with
      | zero =>
        simp at h2; subst h2
        rw [List.filterMap_cons, h4] at hn
        exact absurd (List.mem_filterMap.2 ⟨x, List.mem_of_getElem? (by simpa using h1), h3⟩) (List.nodup_cons.1 hn).1
      | succ j =>
        have h6 : (l.filterMap f).Nodup := by
          rw [List.filterMap_cons] at hn
          split at hn
          · exact hn
          · exact (List.nodup_cons.1 hn).2
        have e := ih (i := i) (j := j) (by simpa using h1) (by simpa using h2) h6
        omega
theorem Rl.setBx {a : Act} {w : World} (h : Rl R g n σ a w) {i b o : Nat} {E : TypeId} {cs ss : List Sd} {us vs : List Value} (hb : σ.bx[i]? = some ⟨b, E, cs⟩) (hh : w.heap[b]? = some (.cells us.toArray E (0, 0))) (hu : RepL R w cs us) (hu1 : ∀ u ∈ us, u.oneCell' = true)
    (hv : RepL R w ss vs) (hv1 : ∀ u ∈ vs, u.oneCell' = true) (hcs : cs ≠ []) (hfit : o + ss.length ≤ cs.length) : Rl R g n ⟨σ.t, σ.bx.set i ⟨b, E, putC o ss cs⟩, σ.tk⟩ a (w.setRow b (us.take o ++ vs ++ us.drop (o + vs.length)).toArray) := by
  have hmem := List.mem_of_getElem? hb
  have hnb := (h.mem.box _ hmem hcs).2
  have hlp : (putC o ss cs).length = cs.length := by unfold putC; simp; omega
  have kp : Kp R w R (w.setRow b (us.take o ++ vs ++ us.drop (o + vs.length)).toArray) := fun b' o' hb' => ⟨hb', cell_setRow_other _ _ _ _ fun e => hnb o' (by rw [← e]; exact hb')⟩
  have hmap0 : (σ.bx.set i ⟨b, E, putC o ss cs⟩).map bxb = σ.bx.map bxb := by
    rw [List.map_set]
    apply List.ext_getElem?
    intro j
    rw [List.getElem?_set]
    split
    · rename_i hij
      subst hij
      split
      · rw [List.getElem?_map, hb]; exact congrArg some (bxb_eq rfl hlp)
      · rename_i hlt; rw [List.getElem?_eq_none (by omega)]
    · rfl
  have hmap : (σ.bx.set i ⟨b, E, putC o ss cs⟩).filterMap bxb = σ.bx.filterMap bxb := by
    have e : ∀ l : List Bx, l.filterMap bxb = (l.map bxb).filterMap id := fun l => by rw [List.filterMap_map]; rfl
    rw [e (σ.bx.set i ⟨b, E, putC o ss cs⟩), e σ.bx, hmap0]
  have hnod := h.mem.nod
  refine h.move (D := fun k => k = b) ⟨fun b o hb => by have := h.mem.lt b o hb; simpa using this, fun x hx hne0 => ?_, fun t ht b' c e => ?_, by rw [hmap]; exact hnod⟩
    ⟨rfl, rfl, rfl, by simp, fun k _ hk => setRow_other _ _ _ _ hk, kp, fun _ _ hb => .inl hb⟩ (fun k hk => .inl ?_) fun k hk => .inl ?_
  · rw [List.mem_iff_getElem?] at hx
    obtain ⟨j, hj⟩ := hx
    rw [List.getElem?_set] at hj
    split at hj
    · split at hj
      · injection hj with hj
        subst hj
        refine ⟨⟨_, setRow_heap w b _ _ E (0, 0) hh, ?_, fun u hu' => ?_⟩, hnb⟩
        · have hl := hv.length
          unfold putC
          rw [← hl]
          exact (((hu.take o).append hv).append (hu.drop _)).mono kp
        · simp at hu'
          rcases hu' with hu' | hu' | hu'
          · exact hu1 u (List.mem_of_mem_take hu')
          · exact hv1 u hu'
          · exact hu1 u (List.mem_of_mem_drop hu')
      · cases hj
    · rename_i hij
      have hxm := List.mem_of_getElem? hj
      obtain ⟨⟨us', k1, k2, k3⟩, k4⟩ := h.mem.box x hxm hne0
      have hne : x.b ≠ b := fun e => hij (fm_inj (l := σ.bx) (f := bxb) hb hj (bxb_some (x := ⟨b, E, cs⟩) hcs) (by rw [bxb_some hne0, e]) (List.nodup_append.1 hnod).1)
      exact ⟨⟨us', (setRow_other _ _ _ _ hne).trans k1, k2.mono kp, k3⟩, k4⟩
  · obtain ⟨⟨us', k1, k2⟩, k3⟩ := h.mem.own t ht b' c e
    have hne : b' ≠ b := by
      intro e'
      have := (List.nodup_append.1 hnod).2.2
      exact this b (List.mem_filterMap.2 ⟨_, hmem, bxb_some (x := ⟨b, E, cs⟩) hcs⟩) b' (List.mem_filterMap.2 ⟨t, ht, by simp [tkb, e]⟩) e'.symm
    exact ⟨⟨us', (setRow_other _ _ _ _ hne).trans k1, k2⟩, k3⟩
  · subst hk; exact List.mem_append.2 (.inl (List.mem_filterMap.2 ⟨_, hmem, bxb_some (x := ⟨_, E, cs⟩) hcs⟩))
  · unfold dom at hk; rw [hmap] at hk; exact hk
theorem wp_store {t E : TypeId} {x y : Operand} {i b o : Nat} {s : Sd} {cs : List Sd} {ag : Bool} {k : Nat} (hs : Shp P t ag k) (hx : ev σ.t x = some (.v (.pointer (some ⟨b, o, none⟩)))) (hy : ev σ.t y = some s) (h1 : oneS s = true) (hk : (cellsS s).length = k)
    (hb : σ.bx[i]? = some ⟨b, E, cs⟩) (hlen : o + k ≤ cs.length) (h : Hx g n ⟨σ.t, σ.bx.set i ⟨b, E, putC o (cellsS s) cs⟩, σ.tk⟩ K) :
    Hx g n σ (fun a w => Oper.wp P ⟨none, .store t x y, ty, ps, af, gd⟩ a w K Q) := by
  rintro a w ⟨R, hr⟩
  have e1 : a.eval x = _ := hr.ev hx
  by_cases hcs : cs = []
  · subst hcs
    obtain ⟨v1, v2⟩ := rep_cells (hr.ev hy) h1
    have hk0 : k = 0 := by simp at hlen; omega
    have hsz : (a.eval y).cells.size = 0 := by rw [← hk0, ← hk, ← v1.length]; simp
    have hnil : cellsS s = [] := List.eq_nil_of_length_eq_zero (by rw [hk, hk0])
    have hrun : (execOp a.eval ⟨none, .store t x y, ty, ps, af, gd⟩).run P w = .ok .skip w := by
      simp only [execOp, Instr.storeAt, e1, Instr.sureAddr, Sem.run_bind, Sem.run_pure, Result.andThen_ok, storeVar, hs.run_size, hsz, hk0]
      have : (a.eval y).cells = #[] := Array.eq_empty_of_size_eq_zero hsz
      simp [this, storeCells]
    unfold Oper.wp
    rw [hrun]
    refine h _ _ ⟨R, ?_⟩
    have hset : σ.bx.set i ⟨b, E, putC o (cellsS s) []⟩ = σ.bx := by
      rw [hnil]
      apply List.ext_getElem?
      intro j
      rw [List.getElem?_set]
      split
      · rename_i hij; subst hij
        split
        · rw [hb]; simp [putC]
        · rename_i hlt; rw [List.getElem?_eq_none (by omega)]
      · rfl
    rw [hset]; exact hr
  obtain ⟨⟨us, k1, k2, k3⟩, k4⟩ := hr.mem.box _ (List.mem_of_getElem? hb) hcs
  obtain ⟨v1, v2⟩ := rep_cells (hr.ev hy) h1
  have hl1 := v1.length
  have hl2 := k2.length
  have hst := run_storeCells_at P b o E (a.eval y).cells.toList 0 us w k1 (by simp at hl2 hl1 hlen ⊢; omega) v2
  have hrun : (execOp a.eval ⟨none, .store t x y, ty, ps, af, gd⟩).run P w = .ok .skip (w.setRow b (us.toList.take o ++ (a.eval y).cells.toList ++ us.toList.drop (o + (a.eval y).cells.toList.length)).toArray) := by
    have hsz : (a.eval y).cells.size = k := by rw [← hk, ← hl1]; simp
    simp only [Nat.add_zero] at hst
    simp only [execOp, Instr.storeAt, e1, Instr.sureAddr, Sem.run_bind, Sem.run_pure, Result.andThen_ok, storeVar, hs.run_size, hsz]
    simp [hst]
  unfold Oper.wp
  rw [hrun]
  exact h _ _ ⟨R, hr.setBx hb (by simpa using k1) k2 k3 v1 v2 hcs (by omega)⟩
end
section
variable {P : Program} {Q : Exit → Act → World → Prop} {R : Nat → Nat → Prop} {g : Gh} {n : Nat} {σ : St} {K : Act → World → Prop}
theorem set_perm {α : Type} (l : List α) (i : Nat) (x : α) (h : i < l.length) : (l.set i x).Perm (x :: (l.take i ++ l.drop (i + 1))) := by
  rw [List.set_eq_take_append_cons_drop, if_pos h]
  exact List.perm_middle
theorem erase_sub {α : Type} (l : List α) (i : Nat) : (l.take i ++ l.drop (i + 1)).Sublist l := by
  have h1 : (l.drop (i + 1)).Sublist (l.drop i) := by rw [← List.drop_drop]; exact List.drop_sublist _ _
  have := (List.Sublist.refl (l.take i)).append h1
  rwa [List.take_append_drop] at this
theorem SubM.setTk (bx : List Bx) (tk : List Tk) (i : Nat) (x : Tk) : SubM bx (x :: tk) bx (tk.set i x) := by
  rcases Nat.lt_or_ge i tk.length with h | h
  · exact SubM.trans (.of_sub (List.Sublist.refl _) ((erase_sub tk i).cons_cons x)) (.perm (List.Perm.refl _) (set_perm tk i x h).symm)
  · rw [List.set_eq_of_length_le h]
    exact .of_sub (List.Sublist.refl _) ((List.Sublist.refl tk).cons x)
/-- A new row of the call's own. -/
theorem Rl.newTk {a : Act} {w : World} (h : Rl R g n σ a w) {rows : List (List Sd)} {k cap : Nat} {us1 : List Value} {us : Array Value} (hr : RepL R w rows.flatten us1) (hk : ∀ r ∈ rows, r.length = k) (h1 : ∀ u ∈ us1, u.oneCell' = true) (ht : us.toList.take us1.length = us1) (E : TypeId)
    (hs : us.size = cap * k) (hc : rows.length ≤ cap) (hm : cap ≤ maxLen) :
    ∃ R', Rl R' g n ⟨σ.t, σ.bx, ⟨some (w.heap.size, cap), E, k, rows.length⟩ :: σ.tk⟩ a (w.alloc (.cells us E)) ∧ RepS R' (w.alloc (.cells us E)) (.sl k (some (some (w.heap.size, cap))) rows) (.slice (some ⟨w.heap.size, 0, none⟩) rows.length cap) := by
  have hfl : rows.flatten.length = rows.length * k := by
    clear hr hs hc
    induction rows with
    | nil => simp
    | cons r rs ih => rw [List.flatten_cons, List.length_append, hk r (by simp), ih fun r hr => hk r (by simp [hr]), List.length_cons, Nat.add_mul]; omega
  have hl1 := hr.length
  have kp : Kp R w (fun b o => R b o ∨ (b = w.heap.size ∧ o < rows.length * k)) (w.alloc (.cells us E)) := fun b o hb => ⟨.inl hb, World.cell?_alloc_past _ _ _ (h.mem.lt b o hb)⟩
  have hold : ∀ k, k < w.heap.size → (w.alloc (.cells us E)).heap[k]? = w.heap[k]? := fun k hk => Below.heap_alloc w _ k hk
  have hlt := h.dom_lt
  have hnew : (w.alloc (.cells us E)).heap[w.heap.size]? = some (.cells us E) := heap_alloc_new w _
  refine ⟨fun b o => R b o ∨ (b = w.heap.size ∧ o < rows.length * k), ?_, ?_⟩
  · refine h.move (D := fun _ => False) ⟨fun b o hb => ?_, fun x hx hne0 => ?_, fun t ht b c e => ?_, ?_⟩
      ⟨rfl, rfl, rfl, by simp, fun k hk _ => hold k hk, kp, fun b o hb => ?_⟩ (fun _ hb => hb.elim) fun b hb => ?_
    · rcases hb with hb | ⟨rfl, _⟩
      · have := h.mem.lt b o hb; simp; omega
      · simp
    · obtain ⟨⟨us', k1, k2, k3⟩, k4⟩ := h.mem.box x hx hne0
      have hx' := (Array.getElem?_eq_some_iff.1 k1).1
      exact ⟨⟨us', (hold _ hx').trans k1, k2.mono kp, k3⟩, fun o hb => hb.elim (k4 o) fun ⟨e, _⟩ => by omega⟩
    · simp at ht
      rcases ht with rfl | ht
      · injection e with e
        injection e with e1 e2
        subst e1 e2
        exact ⟨⟨us, hnew, hs⟩, ⟨hc, hm⟩, fun o ho hb => hb.elim (fun hb => Nat.lt_irrefl _ (h.mem.lt _ o hb)) fun ⟨_, h2⟩ => Nat.lt_irrefl _ (Nat.lt_of_lt_of_le h2 ho)⟩
      · obtain ⟨⟨us', k1, k2⟩, k3, k4⟩ := h.mem.own t ht b c e
        have hx' := (Array.getElem?_eq_some_iff.1 k1).1
        exact ⟨⟨us', (hold _ hx').trans k1, k2⟩, k3, fun o ho hb => hb.elim (k4 o ho) fun ⟨e, _⟩ => by omega⟩
    · rw [List.filterMap_cons]
      show (σ.bx.filterMap bxb ++ w.heap.size :: σ.tk.filterMap tkb).Nodup
      exact List.perm_middle.nodup_iff.2 (List.nodup_cons.2 ⟨fun hm => Nat.lt_irrefl _ (hlt _ hm), h.mem.nod⟩)
    · rcases hb with hb | ⟨rfl, _⟩
      · exact .inl hb
      · exact .inr (.inl (Nat.le_refl _))
    · unfold dom at hb
      rw [List.filterMap_cons] at hb
      have hb : b ∈ σ.bx.filterMap bxb ++ w.heap.size :: σ.tk.filterMap tkb := hb
      rcases List.mem_append.1 hb with hb | hb
      · exact .inl (List.mem_append.2 (.inl hb))
      · rcases List.mem_cons.1 hb with rfl | hb
        · exact .inr (Nat.le_refl _)
        · exact .inl (List.mem_append.2 (.inr hb))
  · refine ⟨_, _, rfl, ⟨hc, hm⟩, fun e => (by cases e), fun b m e => by injection e with e; injection e with e; injection e with e1 e2; subst e1 e2; exact ⟨rfl, rfl⟩, .inr ⟨_, _, rfl, RepR.of_flat hk (RepC.of_vals (hr.mono kp) h1 fun j u hj => ?_)⟩⟩
    have hj' := (List.getElem?_eq_some_iff.1 hj).1
    refine ⟨.inr ⟨rfl, by omega⟩, ?_⟩
    rw [Nat.zero_add, cell_of_row _ _ _ _ _ _ hnew]
    have h9 : (us.toList.take us1.length)[j]? = some u := by rw [ht]; exact hj
    rw [List.getElem?_take, if_pos hj'] at h9
    simpa using h9
/-- A row of the call's own, with room, grown in place. -/
theorem Rl.roomTk {a : Act} {w : World} (h : Rl R g n σ a w) {i b cap k : Nat} {E : TypeId} {rows rows2 : List (List Sd)} {us : Array Value} {us2 : List Value} (htk : σ.tk[i]? = some ⟨some (b, cap), E, k, rows.length⟩) (hh : w.heap[b]? = some (.cells us E (0, 0))) (hs : us.size = cap * k)
    (hrr : RepR R w b 0 k rows) (hr : RepL R w rows2.flatten us2) (hk : ∀ r ∈ rows2, r.length = k) (h1 : ∀ u ∈ us2, u.oneCell' = true) (hc : rows.length + rows2.length ≤ cap) (hm : cap ≤ maxLen) :
    ∃ R', Rl R' g n ⟨σ.t, σ.bx, σ.tk.set i ⟨some (b, cap), E, k, (rows ++ rows2).length⟩⟩ a (w.setRow b (us.toList.take (rows.length * k) ++ us2 ++ us.toList.drop (rows.length * k + us2.length)).toArray) ∧
      RepS R' (w.setRow b (us.toList.take (rows.length * k) ++ us2 ++ us.toList.drop (rows.length * k + us2.length)).toArray) (.sl k (some (some (b, cap))) (rows ++ rows2)) (.slice (some ⟨b, 0, none⟩) (rows.length + rows2.length) cap) := by
  have hfl : rows2.flatten.length = rows2.length * k := by
    clear hr hc hs
    induction rows2 with
    | nil => simp
    | cons r rs ih => rw [List.flatten_cons, List.length_append, hk r (by simp), ih fun r hr => hk r (by simp [hr]), List.length_cons, Nat.add_mul]; omega
  have hl2 := hr.length
  have hle : rows.length * k + us2.length ≤ us.size := by rw [hl2, hfl, hs, ← Nat.add_mul]; exact Nat.mul_le_mul_right _ hc
  have hmem := List.mem_of_getElem? htk
  obtain ⟨⟨us', k1, k2⟩, k3, k4⟩ := h.mem.own _ hmem b cap rfl
  generalize hrow : (us.toList.take (rows.length * k) ++ us2 ++ us.toList.drop (rows.length * k + us2.length)).toArray = row
  have hsz : row.size = us.size := by rw [← hrow]; simp; omega
  have hnew : (w.setRow b row).heap[b]? = some (.cells row E (0, 0)) := setRow_heap w b us row E (0, 0) hh
  have hlow : ∀ o, o < rows.length * k → row[o]? = us[o]? := fun o ho => by
    rw [← hrow, ← Array.getElem?_toList]
    simp only []
    rw [List.append_assoc, List.getElem?_append_left (by simp; omega), List.getElem?_take, if_pos ho, Array.getElem?_toList]
  have hblt := (Array.getElem?_eq_some_iff.1 hh).1
  have kp : Kp R w (fun b' o => R b' o ∨ (b' = b ∧ o < (rows.length + rows2.length) * k)) (w.setRow b row) := fun b' o hb => by
    refine ⟨.inl hb, ?_⟩
    by_cases e : b' = b
    · subst e
      have ho : o < rows.length * k := Nat.lt_of_not_ge fun hge => k4 o hge hb
      rw [cell_of_row _ _ _ _ _ _ hnew, cell_of_row _ _ _ _ _ _ hh, hlow o ho]
    · exact cell_setRow_other _ _ _ _ e
  have hnod := h.mem.nod
  have hids : (σ.tk.set i ⟨some (b, cap), E, k, (rows ++ rows2).length⟩).map tkb = σ.tk.map tkb := by
    rw [List.map_set]
    apply List.ext_getElem?
    intro j
    rw [List.getElem?_set]
    split
    · rename_i hij
      subst hij
      split
      · rw [List.getElem?_map, htk]; rfl
      · rename_i hlt; rw [List.getElem?_eq_none (by omega)]
    · rfl
  have hfm : (σ.tk.set i ⟨some (b, cap), E, k, (rows ++ rows2).length⟩).filterMap tkb = σ.tk.filterMap tkb := by
    have e : ∀ l : List Tk, l.filterMap tkb = (l.map tkb).filterMap id := fun l => by rw [List.filterMap_map]; rfl
    rw [e, e, hids]
  refine ⟨fun b' o => R b' o ∨ (b' = b ∧ o < (rows.length + rows2.length) * k), ?_, ?_⟩
  · refine h.move (D := fun k => k = b) ⟨fun b' o hb => ?_, fun x hx hne0 => ?_, fun t ht b' c e => ?_, by rw [hfm]; exact hnod⟩
      ⟨rfl, rfl, rfl, by simp, fun k _ hk => setRow_other _ _ _ _ hk, kp, fun b' o hb => ?_⟩ (fun k hk => .inl ?_) fun k hk => .inl ?_
    · rcases hb with hb | ⟨rfl, _⟩
      · have := h.mem.lt b' o hb; simpa using this
      · simpa using hblt
    · obtain ⟨⟨us', k1, k2, k3⟩, k4⟩ := h.mem.box x hx hne0
      have hne : x.b ≠ b := fun e => (List.nodup_append.1 hnod).2.2 x.b (List.mem_filterMap.2 ⟨x, hx, bxb_some hne0⟩) b (List.mem_filterMap.2 ⟨_, hmem, rfl⟩) e
      exact ⟨⟨us', (setRow_other _ _ _ _ hne).trans k1, k2.mono kp, k3⟩, fun o hb => hb.elim (k4 o) fun ⟨e, _⟩ => hne e⟩
    · rw [List.mem_iff_getElem?] at ht
      obtain ⟨j, hj⟩ := ht
      rw [List.getElem?_set] at hj
      split at hj
      · split at hj
        · injection hj with hj
          subst hj
          injection e with e
          injection e with e1 e2
          subst e1 e2
          refine ⟨⟨row, hnew, by rw [hsz]; exact hs⟩, ⟨by simpa using hc, hm⟩, fun o ho hb => ?_⟩
          rcases hb with hb | ⟨_, hb⟩
          · exact k4 o (Nat.le_trans (Nat.mul_le_mul_right _ (by simp)) ho) hb
          · have ho : (rows ++ rows2).length * k ≤ o := ho
            rw [List.length_append] at ho; omega
        · cases hj
      · rename_i hij
        have htm := List.mem_of_getElem? hj
        obtain ⟨⟨us'', q1, q2⟩, q3, q4⟩ := h.mem.own t htm b' c e
        have hne : b' ≠ b := by
          intro e'
          subst e'
          have hn2 := (List.nodup_append.1 hnod).2.1
          have key : ∀ (l : List Tk) (i j : Nat) (x y : Tk), l[i]? = some x → l[j]? = some y → tkb x = some b' → tkb y = some b' → (l.filterMap tkb).Nodup → i = j := by
            intro l
            induction l with
            | nil => intro i j x y h1; simp at h1
            | cons t0 l ih =>
              intro i j x y h1 h2 h3 h4 h5
              cases i with
              | zero =>
                simp at h1; subst h1
                cases j with
                | zero => rfl
                | succ j =>
                  rw [List.filterMap_cons, h3] at h5
                  exact absurd (List.mem_filterMap.2 ⟨y, List.mem_of_getElem? (by simpa using h2), h4⟩) (List.nodup_cons.1 h5).1
              | succ i =>
                cases j with
                | zero =>
                  simp at h2; subst h2
                  rw [List.filterMap_cons, h4] at h5
                  exact absurd (List.mem_filterMap.2 ⟨x, List.mem_of_getElem? (by simpa using h1), h3⟩) (List.nodup_cons.1 h5).1
                | succ j =>
                  have h6 : (l.filterMap tkb).Nodup := by
                    rw [List.filterMap_cons] at h5
                    split at h5
                    · exact h5
                    · exact (List.nodup_cons.1 h5).2
                  rw [ih i j x y (by simpa using h1) (by simpa using h2) h3 h4 h6]
          exact hij (key σ.tk i j _ t htk hj rfl (by simp [tkb, e]) hn2)
        exact ⟨⟨us'', (setRow_other _ _ _ _ hne).trans q1, q2⟩, q3, fun o ho hb => hb.elim (q4 o ho) fun ⟨e, _⟩ => hne e⟩
    · rcases hb with hb | ⟨rfl, _⟩
      · exact .inl hb
      · exact .inr (.inr rfl)
    · subst hk; exact List.mem_append.2 (.inr (List.mem_filterMap.2 ⟨_, hmem, rfl⟩))
    · unfold dom at hk; rw [hfm] at hk; exact hk
  · refine ⟨_, _, by rw [List.length_append], ⟨by simpa using hc, hm⟩, fun e => (by cases e), fun b m e => by injection e with e; injection e with e; injection e with e1 e2; subst e1 e2; exact ⟨rfl, rfl⟩, .inr ⟨_, _, rfl, ?_⟩⟩
    obtain ⟨f1, f2⟩ := hrr.flat
    obtain ⟨v1, v2, v3, v4⟩ := f1.vals
    refine RepR.of_flat (fun r hr => ?_) ?_
    · rcases List.mem_append.1 hr with hr | hr
      · exact hrr.len r hr
      · exact hk r hr
    · rw [List.flatten_append]
      refine RepC.of_vals ((v2.mono kp).append (hr.mono kp)) (fun u hu => (List.mem_append.1 hu).elim (v3 u) (h1 u)) fun j u hj => ?_
      have hl1 := v2.length
      rw [Nat.zero_add, cell_of_row _ _ _ _ _ _ hnew]
      rcases Nat.lt_or_ge j v1.length with hlt | hge
      · rw [List.getElem?_append_left hlt] at hj
        refine ⟨.inr ⟨rfl, by rw [Nat.add_mul]; omega⟩, ?_⟩
        have := (v4 j u hj).2
        rw [Nat.zero_add, cell_of_row _ _ _ _ _ _ hh] at this
        rw [hlow j (by omega)]; exact this
      · rw [List.getElem?_append_right hge] at hj
        have hj2 := (List.getElem?_eq_some_iff.1 hj).1
        refine ⟨.inr ⟨rfl, by rw [Nat.add_mul]; omega⟩, ?_⟩
        rw [← hrow, ← Array.getElem?_toList]
        simp only []
        rw [List.append_assoc, List.getElem?_append_right (by simp; omega), List.getElem?_append_left (by simp; omega)]
        rw [← hj]
        congr 1
        simp; omega
theorem app_zero {t E : TypeId} {i : TypeInfo} (ht : P.underlying t = some (.slice E)) (hi : P.info? E = some i) (ty : TypeId) (A B : Option Addr) (m c c2 : Nat) (hmc : m ≤ c) (W : World) :
    (Builtin.append_ #[t, t] ty #[.slice A m c, .slice B 0 c2]).run P W = .ok (.slice A m c) W := by
  cases A <;> cases B <;> simp [Builtin.append_, run_underlying ht, sizeOf, typeInfo, hi, Builtin.lenOf, Builtin.firstCells, hmc, loadCells, loadCellsFrom, storeCells]
/-- What is appended: a slice whose elements are known now. -/
def SrcAt (R : Nat → Nat → Prop) (w : World) (k : Nat) (rows2 : List (List Sd)) (v : Value) : Prop :=
  ∃ B c2, v = .slice B rows2.length c2 ∧ (∀ r ∈ rows2, r.length = k) ∧ (rows2 = [] ∨ ∃ b2 o2 us2, B = some ⟨b2, o2, none⟩ ∧ RepL R w rows2.flatten us2 ∧ (∀ u ∈ us2, u.oneCell' = true) ∧ ∀ j u, us2[j]? = some u → w.cell? ⟨b2, o2 + j, none⟩ = some u)
theorem SrcAt.of_sl {R : Nat → Nat → Prop} {w : World} {k : Nat} {tok2 : Option (Option (Nat × Nat))} {rows2 : List (List Sd)} {v : Value} (h : RepS R w (.sl k tok2 rows2) v) : SrcAt R w k rows2 v := by
  obtain ⟨B, c2, rfl, _, _, _, h3⟩ := h
  refine ⟨B, c2, rfl, ?_, ?_⟩
  · rcases h3 with rfl | ⟨b, o, _, hr⟩
    · simp
    · exact hr.len
  · refine h3.imp id fun ⟨b, o, e, hr⟩ => ?_
    obtain ⟨f1, _⟩ := hr.flat
    obtain ⟨us2, v2, v3, v4⟩ := f1.vals
    exact ⟨b, o, us2, e, v2, v3, fun j u hj => (v4 j u hj).2⟩
theorem flat_len0 {k : Nat} : ∀ {rows : List (List Sd)}, (∀ r ∈ rows, r.length = k) → rows.flatten.length = rows.length * k
  | [], _ => by simp
  | r :: rs, h => by rw [List.flatten_cons, List.length_append, h r (by simp), flat_len0 fun r hr => h r (by simp [hr]), List.length_cons, Nat.add_mul]; omega
/-- append, whatever room there is. -/
theorem app_core {a : Act} {w : World} (h : Rl R g n σ a w) {t E : TypeId} {k bytes : Nat} {zero : List Value} (ht : P.underlying t = some (.slice E)) (hi : Inf P E k bytes zero) (hk0 : 0 < k) (ty : TypeId) {i : Nat} {id : Option (Nat × Nat)} {rows rows2 : List (List Sd)} {u v : Value}
    (hu : RepS R w (.sl k (some id) rows) u) (hv : SrcAt R w k rows2 v) (htk : σ.tk[i]? = some ⟨id, E, k, rows.length⟩) (h63 : rows.length + rows2.length ≤ maxLen) (hby : (rows.length + rows2.length) * bytes ≤ 140737488355328) :
    ∃ v' w' id' R', (Builtin.append_ #[t, t] ty #[u, v]).run P w = .ok v' w' ∧ RepS R' w' (.sl k (some id') (rows ++ rows2)) v' ∧ Rl R' g n ⟨σ.t, σ.bx, σ.tk.set i ⟨id', E, k, (rows ++ rows2).length⟩⟩ a w' := by
  obtain ⟨inf, z, e1, e2, e3, e4, e5⟩ := hi.info
  have hzs : z.cells.size = k := by rw [← hi.len, ← e3]; simp
  subst e4 e5
  obtain ⟨A, c, rfl, ⟨hc1, hc2⟩, hn, hid, hrr⟩ := hu
  obtain ⟨B, c2, rfl, hkk, hrr3⟩ := hv
  have hsetself : σ.tk.set i ⟨id, E, inf.size, rows.length⟩ = σ.tk := by
    apply List.ext_getElem?
    intro j
    rw [List.getElem?_set]
    split
    · rename_i hij; subst hij
      split
      · exact htk.symm
      · rename_i hlt; rw [List.getElem?_eq_none (by omega)]
    · rfl
  by_cases hr0 : rows2 = []
  · subst hr0
    refine ⟨_, w, id, R, app_zero ht e1 ty A B rows.length c c2 hc1 w, ?_, ?_⟩
    · rw [List.append_nil]; exact ⟨A, c, rfl, ⟨hc1, hc2⟩, hn, hid, hrr⟩
    · rw [List.append_nil, hsetself]; exact h
  · obtain ⟨b2, o2, us2, rfl, v2, v3, v4⟩ := hrr3.resolve_left hr0
    have hpos : 0 < rows2.length := List.length_pos_iff.2 hr0
    have f2 := flat_len0 hkk
    have hl2 := v2.length
    have hnews : ∀ j x, us2[j]? = some x → w.cell? ((⟨b2, o2, none⟩ : Addr).add j) = some x := fun j x hx => by rw [add_lit_]; exact v4 j x hx
    have hcap0 := fun old => grownCap_ge w (rows.length + rows2.length) old E
    have hcap1 := fun old => grownCap_le_maxLen w (rows.length + rows2.length) old E h63
    have hsm : rows.length + rows2.length ≤ 9223372036854775807 := by simp only [maxLen] at h63; omega
    have fin : ∀ (us1 : List Value) (cap : Nat) (v' : Value) (w' : World), RepL R w rows.flatten us1 → (∀ u ∈ us1, u.oneCell' = true) → (∀ r ∈ rows, r.length = inf.size) → cap ≤ maxLen → rows.length + rows2.length ≤ cap → us1.length = rows.length * inf.size →
        v' = .slice (some ⟨w.heap.size, 0, none⟩) (rows.length + rows2.length) cap → w' = w.drew.alloc (.cells (us1.toArray ++ us2.toArray ++ Builtin.zeroCells z.cells (cap - (rows.length + rows2.length))) E) →
        ∃ id' R', RepS R' w' (.sl inf.size (some id') (rows ++ rows2)) v' ∧ Rl R' g n ⟨σ.t, σ.bx, σ.tk.set i ⟨id', E, inf.size, (rows ++ rows2).length⟩⟩ a w' := by
      rintro us1 cap v' w' k1 k2 k3 k4 k5 k6 rfl rfl
      have hd : Rl R g n σ a w.drew := h.drewN 1
      have hkd : Kp R w R w.drew := fun _ _ hb => ⟨hb, rfl⟩
      obtain ⟨R', q1, q2⟩ := hd.newTk (rows := rows ++ rows2) (k := inf.size) (cap := cap) (us1 := us1 ++ us2) (us := us1.toArray ++ us2.toArray ++ Builtin.zeroCells z.cells (cap - (rows.length + rows2.length)))
        (by rw [List.flatten_append]; exact (k1.mono hkd).append (v2.mono hkd)) (fun r hr => (List.mem_append.1 hr).elim (k3 r) (hkk r)) (fun u hu => (List.mem_append.1 hu).elim (k2 u) (v3 u))
        (by simp only [Array.toList_append]; exact List.take_left) E (by simp only [Array.size_append, List.size_toArray, size_zeroCells, hzs, k6, hl2, f2, ← Nat.add_mul]; congr 1; omega) (by simpa using k5) k4
      refine ⟨some (w.heap.size, cap), R', by rw [List.length_append] at q2; exact q2, q1.imp ⟨ImpT.refl _, SubM.setTk _ _ _ _⟩⟩
    cases id with
    | none =>
      obtain ⟨rfl, rfl⟩ := hn rfl
      have hrows : rows = [] := List.eq_nil_of_length_eq_zero (by omega)
      subst hrows
      have hby' := hby
      simp only [List.length_nil, Nat.zero_add] at hby' hsm
      have hrun := run_append_nil (P := P) w t ty E inf z ht e1 e2 ⟨b2, o2, none⟩ rows2.length c2 us2 (by rw [hl2, f2]) hnews hpos (by omega) (by omega)
      have hx : ([] : List (List Sd)).length + rows2.length = rows2.length := Nat.zero_add _
      obtain ⟨id', R', q1, q2⟩ := fin [] (grownCap w rows2.length 0 E) _ _ rfl (by simp) (by simp) (by rw [← hx]; exact hcap1 0) (by rw [hx]; have := hcap0 0; rwa [hx] at this) (by simp) rfl rfl
      refine ⟨_, _, id', R', hrun, ?_, ?_⟩
      · simpa using q1
      · simpa using q2
    | some q =>
      obtain ⟨b, m⟩ := q
      obtain ⟨rfl, rfl⟩ := hid b m rfl
      obtain ⟨⟨us, k1, k2⟩, k3, k4⟩ := h.mem.own _ (List.mem_of_getElem? htk) b c rfl
      have hR0 : RepR R w b 0 inf.size rows := by
        rcases hrr with rfl | ⟨b', o', e, hh⟩
        · trivial
        · injection e with e; injection e with e1 e2; subst e1 e2; exact hh
      by_cases hroom : rows.length + rows2.length ≤ c
      · have hfit : rows.length * inf.size + us2.length ≤ us.size := by rw [hl2, f2, k2, ← Nat.add_mul]; exact Nat.mul_le_mul_right _ hroom
        have hrun := run_append_room (P := P) w t ty E inf ht e1 b rows.length c us k1 ⟨b2, o2, none⟩ rows2.length c2 us2 (by rw [hl2, f2]) hnews v3 hroom hfit
        obtain ⟨R', q1, q2⟩ := h.roomTk htk k1 k2 hR0 v2 hkk v3 hroom hc2
        exact ⟨_, _, some (b, c), R', hrun, q2, q1⟩
      · obtain ⟨g1, g2⟩ := hR0.flat
        obtain ⟨us1, y2, y3, y4⟩ := g1.vals
        have hl1 := y2.length
        have holds : ∀ j x, us1[j]? = some x → w.cell? ((⟨b, 0, none⟩ : Addr).add j) = some x := fun j x hx => by rw [add_lit_]; exact (y4 j x hx).2
        have hrun := run_append_grow (P := P) w t ty E inf z ht e1 e2 ⟨b, 0, none⟩ rows.length c us1 (by rw [hl1, g2]) holds ⟨b2, o2, none⟩ rows2.length c2 us2 (by rw [hl2, f2]) hnews (by omega) (by omega) (growslice_fits (by omega) hby)
        obtain ⟨id', R', q1, q2⟩ := fin us1 (grownCap w (rows.length + rows2.length) c E) _ _ y2 y3 hR0.len (hcap1 c) (hcap0 c) (by rw [hl1, g2]) rfl rfl
        exact ⟨_, _, id', R', hrun, q1, q2⟩
/-- An operand that is a slice whose elements are known now. -/
def SrcOf (g : Gh) (n : Nat) (σ : St) (y : Operand) (k : Nat) (rows2 : List (List Sd)) : Prop := ∀ R a w, Rl R g n σ a w → SrcAt R w k rows2 (a.eval y)
theorem SrcOf.sl {g : Gh} {n : Nat} {σ : St} {y : Operand} {k : Nat} {rows2 : List (List Sd)} {s2 : Sd} {tok2 : Option (Option (Nat × Nat))} (hy : Proofs.Ytncnfohhjbadgaa.ev σ.t y = some s2) (hw : Wk s2 (.sl k tok2 rows2)) : SrcOf g n σ y k rows2 := fun _ _ _ hr => .of_sl (hw _ _ _ (hr.ev hy))
theorem wp_append {d : Nat} {ty : TypeId} {ps : String} {af : Array Edge} {gd : Option (Nat × Bool)} {t E : TypeId} {k bytes : Nat} {zero : List Value} (ht : P.underlying t = some (.slice E)) (hi : Inf P E k bytes zero) (hk0 : Nat.blt 0 k = true) {x y : Operand} {i : Nat} {id : Option (Nat × Nat)} {rows rows2 : List (List Sd)}
    (hx : ev σ.t x = some (.sl k (some id) rows)) (hs : SrcOf g n σ y k rows2) (htk : σ.tk[i]? = some ⟨id, E, k, rows.length⟩) (hd : Nat.blt d n = true) (hby : rows.length + rows2.length ≤ maxLen ∧ (rows.length + rows2.length) * bytes ≤ 140737488355328)
    (h : ∀ id', Hx g n ⟨(d, .sl k (some id') (rows ++ rows2)) :: σ.t, σ.bx, σ.tk.set i ⟨id', E, k, (rows ++ rows2).length⟩⟩ K) :
    Hx g n σ (fun a w => Oper.wp P ⟨some d, .call ⟨.builtin .append, #[x, y], #[t, t]⟩, ty, ps, af, gd⟩ a w K Q) := by
  rintro a w ⟨R, hr⟩
  obtain ⟨v', w', id', R', hrun, h1, h2⟩ := app_core hr ht hi (by simpa [Nat.blt_eq] using hk0) ty (hr.ev hx) (hs _ _ _ hr) htk hby.1 hby.2
  unfold Oper.wp execOp
  simp only [resolve, invoke, builtin, Sem.run_bind, Sem.run_pure, Result.andThen_ok, List.map_toArray, List.map_cons, List.map_nil, hrun]
  exact h id' _ _ ⟨R', h2.put (by simpa [Nat.blt_eq] using hd) h1⟩
end
section
variable {P : Program} {Q : Exit → Act → World → Prop} {R : Nat → Nat → Prop} {g : Gh} {n : Nat} {σ : St} {K : Act → World → Prop}
theorem MemOk.dom_lt {R : Nat → Nat → Prop} {bx : List Bx} {tk : List Tk} {w : World} (h : MemOk R bx tk w) : ∀ b, dom bx tk b → b < w.heap.size := by
  intro b hb
  unfold dom at hb
  rcases List.mem_append.1 hb with hb | hb
  · obtain ⟨x, hx, hxb⟩ := List.mem_filterMap.1 hb
    obtain ⟨hne, rfl⟩ := bxb_of hxb
    obtain ⟨⟨us, k1, _⟩, _⟩ := h.box x hx hne
    exact (Array.getElem?_eq_some_iff.1 k1).1
  · obtain ⟨t, ht, e⟩ := List.mem_filterMap.1 hb
    unfold tkb at e
    cases hq : t.id with
    | none => rw [hq] at e; cases e
    | some q =>
      rw [hq] at e
      injection e with e
      subst e
      obtain ⟨⟨us, k1, _⟩, _⟩ := h.own t ht q.1 q.2 hq
      exact (Array.getElem?_eq_some_iff.1 k1).1
/-- What a call leaves alone stays. -/
theorem MemOk.frame {R R' : Nat → Nat → Prop} {bx bx' Fb : List Bx} {tk tk' Ft : List Tk} {w w' : World} (h : MemOk R (bx ++ Fb) (tk ++ Ft) w) (h' : MemOk R' bx' tk' w') (hm : Mv (dom bx tk) R w R' w') (hd : ∀ b, dom bx' tk' b → dom bx tk b ∨ w.heap.size ≤ b) :
    MemOk R' (bx' ++ Fb) (tk' ++ Ft) w' ∧ ∀ b, dom (bx' ++ Fb) (tk' ++ Ft) b → dom (bx ++ Fb) (tk ++ Ft) b ∨ w.heap.size ≤ b := by
  have hlt := h.dom_lt
  have perm : ∀ (x y : List Bx) (s t : List Tk), ((x ++ y).filterMap bxb ++ (s ++ t).filterMap tkb).Perm ((x.filterMap bxb ++ s.filterMap tkb) ++ (y.filterMap bxb ++ t.filterMap tkb)) := by
    intro x y s t
    rw [List.filterMap_append, List.filterMap_append, List.append_assoc, List.append_assoc]
    refine List.Perm.append_left _ ?_
    rw [← List.append_assoc, ← List.append_assoc]
    exact List.Perm.append_right _ List.perm_append_comm
  have hnod := (perm bx Fb tk Ft).nodup_iff.1 h.nod
  obtain ⟨hn1, hn2, hn3⟩ := List.nodup_append.1 hnod
  have hFd : ∀ b, b ∈ Fb.filterMap bxb ++ Ft.filterMap tkb → ¬ dom bx tk b ∧ b < w.heap.size := fun b hb => ⟨fun hb' => hn3 b hb' b hb rfl, hlt b ((perm bx Fb tk Ft).mem_iff.2 (List.mem_append.2 (.inr hb)))⟩
  have hno : ∀ b, b ∈ Fb.filterMap bxb ++ Ft.filterMap tkb → ∀ o, R' b o → R b o := fun b hb o hr => by
    rcases hm.new b o hr with h1 | h1 | h1
    · exact h1
    · exact absurd (hFd b hb).2 (by omega)
    · exact absurd h1 (hFd b hb).1
  refine ⟨⟨h'.lt, fun x hx hne0 => ?_, fun t ht b c e => ?_, ?_⟩, fun b hb => ?_⟩
  · rcases List.mem_append.1 hx with hx | hx
    · exact h'.box x hx hne0
    · obtain ⟨⟨us, k1, k2, k3⟩, k4⟩ := h.box x (List.mem_append.2 (.inr hx)) hne0
      have hf := List.mem_append.2 (Or.inl (List.mem_filterMap.2 ⟨x, hx, bxb_some hne0⟩) : x.b ∈ Fb.filterMap bxb ∨ x.b ∈ Ft.filterMap tkb)
      exact ⟨⟨us, (hm.block _ (hFd _ hf).2 (hFd _ hf).1).trans k1, k2.mono hm.keep, k3⟩, fun o hr => k4 o (hno _ hf o hr)⟩
  · rcases List.mem_append.1 ht with ht | ht
    · exact h'.own t ht b c e
    · obtain ⟨⟨us, k1, k2⟩, k3, k4⟩ := h.own t (List.mem_append.2 (.inr ht)) b c e
      have hf := List.mem_append.2 (Or.inr (List.mem_filterMap.2 ⟨t, ht, by simp [tkb, e]⟩) : b ∈ Fb.filterMap bxb ∨ b ∈ Ft.filterMap tkb)
      exact ⟨⟨us, (hm.block _ (hFd _ hf).2 (hFd _ hf).1).trans k1, k2⟩, k3, fun o ho hr => k4 o ho (hno _ hf o hr)⟩
  · refine (perm bx' Fb tk' Ft).nodup_iff.2 (List.nodup_append.2 ⟨h'.nod, hn2, fun b hb b' hb' e => ?_⟩)
    subst e
    rcases hd b hb with h1 | h1
    · exact (hFd b hb').1 h1
    · have := (hFd b hb').2; omega
  · rcases List.mem_append.1 ((perm bx' Fb tk' Ft).mem_iff.1 hb) with h1 | h1
    · exact (hd b h1).imp (fun h => (perm bx Fb tk Ft).mem_iff.2 (List.mem_append.2 (.inl h))) id
    · exact .inl ((perm bx Fb tk Ft).mem_iff.2 (List.mem_append.2 (.inr h1)))
theorem perm_dom (bx Fb : List Bx) (tk Ft : List Tk) (b : Nat) (h : dom bx tk b) : dom (bx ++ Fb) (tk ++ Ft) b := by
  unfold dom at *
  rw [List.filterMap_append, List.filterMap_append]
  rcases List.mem_append.1 h with h | h
  · exact List.mem_append.2 (.inl (List.mem_append.2 (.inl h)))
  · exact List.mem_append.2 (.inr (List.mem_append.2 (.inl h)))
theorem run_call {f : FuncId} {fn : Func} (hf : P.funcs[f]? = some fn) (hnm : (fn.name == "runtime.NumGoroutine") = false) (hbd : fn.body.isSome = true) (args : Array Value) (w : World) : (callFunc f args).run P w = .ok (.enter f args) w := by
  have h1 : fn.body ≠ none := fun e => by rw [e] at hbd; cases hbd
  have h2 : fn.name ≠ "runtime.NumGoroutine" := by simpa using hnm
  simp [callFunc, program, Sem.run, hf, h1, h2]
theorem wp_call {d : Nat} {ty : TypeId} {ps : String} {af : Array Edge} {gd : Option (Nat × Bool)} {f : FuncId} {fn : Func} (hf : P.funcs[f]? = some fn) (hnm : (fn.name == "runtime.NumGoroutine") = false) (hbd : fn.body.isSome = true)
    {x : Operand} {args : Array Operand} {ats : Array TypeId} {caps : Array Value} {ss' ss : List Sd} {bx Fb : List Bx} {tk Ft : List Tk} {Rr : Sd → List Bx → List Tk → Prop} (c : Con P f ss bx tk Rr) (hx : ev σ.t x = some (.v (.func (.func f) #[] caps)))
    (hargs : args.toList.map (ev σ.t) = ss'.map some) (hw : WkL (ss' ++ caps.toList.map .v) ss) (hm : SubM σ.bx σ.tk (bx ++ Fb) (tk ++ Ft)) (hd : Nat.blt d n = true)
    (h : ∀ r bx' tk', Rr r bx' tk' → Hx g n ⟨(d, r) :: σ.t, bx' ++ Fb, tk' ++ Ft⟩ K) :
    Hx g n σ (fun a w => Oper.wp P ⟨some d, .call ⟨.value x, args, ats⟩, ty, ps, af, gd⟩ a w K Q) := by
  rintro a w ⟨R, hr⟩
  have hr1 := hr.imp (σ' := ⟨σ.t, bx ++ Fb, tk ++ Ft⟩) ⟨ImpT.refl _, hm⟩
  have e1 : a.eval x = _ := hr.ev hx
  have hv : RepL R w ss (args.toList.map a.eval ++ caps.toList) := hw.rep ((hr.evs hargs).append (repL_vals R w caps.toList))
  have hmem := (SubM.of_sub (List.sublist_append_left bx Fb) (List.sublist_append_left tk Ft)).mem R w hr1.mem
  have hc := c R w _ (g.gl.keep hr.mv.keep) hmem hv
  have harr : (args.toList.map a.eval ++ caps.toList).toArray = args.map a.eval ++ caps := by
    apply Array.ext'; simp
  rw [harr] at hc
  unfold Oper.wp execOp
  simp only [resolve, e1, Deferred.ofValue, invoke, Sem.run_bind, Sem.run_pure, Result.andThen_ok]
  have hrun := run_call hf hnm hbd (args.map a.eval ++ caps) w
  simp only [Array.empty_append, hrun, Oper.upon_enter]
  refine hc.mono ?_
  rintro e w' ⟨v, r, bx', tk', R', rfl, k1, k2, k3, k4, k5⟩
  obtain ⟨q1, q2⟩ := hr1.mem.frame k2 k4 k5
  have hdl := (perm_dom bx Fb tk Ft)
  exact h r bx' tk' k1 _ _ ⟨R', (hr1.move q1 k4 (fun b hb => .inl (hdl b hb)) q2).put (by simpa [Nat.blt_eq] using hd) k3⟩
end
theorem fold_set (off : Nat) : ∀ (vs : List Value) (j : Nat) (cells : Array Value), off + j + vs.length ≤ cells.size →
    ((vs.zipIdx j).foldl (fun cs (c, j) => cs.setIfInBounds (off + j) c) cells).toList = cells.toList.take (off + j) ++ vs ++ cells.toList.drop (off + j + vs.length)
  | [], j, cells, _ => by simp
  | v :: vs, j, cells, h => by
    rw [List.zipIdx_cons, List.foldl_cons]
    have ih := fold_set off vs (j + 1) (cells.setIfInBounds (off + j) v) (by simp at h ⊢; omega)
    rw [ih]
    have e := list_seg_step cells.toList (off + j) v vs (by simp at h ⊢; omega)
    simpa [Array.toList_setIfInBounds, Nat.add_assoc] using e
theorem fold_set_arr (off : Nat) (vs : Array Value) (cells : Array Value) (h : off + vs.size ≤ cells.size) :
    (vs.zipIdx.foldl (fun cs (c, j) => cs.setIfInBounds (off + j) c) cells).toList = cells.toList.take off ++ vs.toList ++ cells.toList.drop (off + vs.size) := by
  have h1 := fold_set off vs.toList 0 cells (by simpa using h)
  rw [← Array.foldl_toList, Array.toList_zipIdx]
  simpa using h1
/-- Parts of a struct, an array. -/
def fillS (place : Nat → Option (Nat × Nat)) : List Sd → List (Nat × Sd) → Option (List Sd)
  | cs, [] => some cs
  | cs, (i, s) :: rest => match place i with
    | none => none
    | some (off, size) => match Nat.beq (cellsS s).length size && oneS s && Nat.ble (off + size) cs.length with
      | true => fillS place (putC off (cellsS s) cs) rest
      | false => none
section
variable {P : Program} {Q : Exit → Act → World → Prop} {R : Nat → Nat → Prop} {g : Gh} {n : Nat} {σ : St} {K : Act → World → Prop} {w : World}
theorem fill_run (place : Nat → Option (Nat × Nat)) : ∀ (ps : List (Nat × Sd)) (vs : List (Nat × Value)) (cs : List Sd) (us : Array Value) (cs' : List Sd), ps.map (·.1) = vs.map (·.1) → RepL R w (ps.map (·.2)) (vs.map (·.2)) → RepL R w cs us.toList → (∀ u ∈ us.toList, u.oneCell' = true) →
    fillS place cs ps = some cs' → ∃ us', Instr.fill place us vs = some us' ∧ RepL R w cs' us'.toList ∧ ∀ u ∈ us'.toList, u.oneCell' = true
  | [], [], cs, us, cs', _, _, h, h1, e => by injection e with e; subst e; exact ⟨us, rfl, h, h1⟩
  | (i, s) :: ps, (i', v) :: vs, cs, us, cs', hi, ⟨u0, r0, e0, hv, hvs⟩, h, h1, e => by
    simp only [List.map_cons, List.cons.injEq] at hi e0
    obtain ⟨rfl, hi⟩ := hi
    obtain ⟨rfl, rfl⟩ := e0
    simp only [fillS] at e
    cases hp : place i with
    | none => rw [hp] at e; cases e
    | some q =>
      obtain ⟨off, size⟩ := q
      rw [hp] at e
      dsimp only at e
      split at e
      · rename_i hc
        simp only [Bool.and_eq_true] at hc
        obtain ⟨⟨hc1, hc2⟩, hc3⟩ := hc
        have hc1 := Nat.eq_of_beq_eq_true hc1
        have hc3 := Nat.le_of_ble_eq_true hc3
        obtain ⟨q1, q2⟩ := rep_cells hv hc2
        have hl := q1.length
        have hl2 := h.length
        have hsz : v.cells.size = size := by rw [← hc1, ← hl]; simp
        have hfit : off + v.cells.size ≤ us.size := by simp at hl2; omega
        have hfs := fold_set_arr off v.cells us hfit
        have hrep : RepL R w (putC off (cellsS s) cs) (v.cells.zipIdx.foldl (fun cs (c, j) => cs.setIfInBounds (off + j) c) us).toList := by
          rw [hfs]
          unfold putC
          rw [hc1, ← hsz]
          exact ((h.take off).append q1).append (h.drop _)
        obtain ⟨us', k1, k2, k3⟩ := fill_run place ps vs _ _ cs' hi hvs hrep (fun u hu => by
          rw [hfs] at hu
          rcases List.mem_append.1 hu with hu | hu
          · rcases List.mem_append.1 hu with hu | hu
            · exact h1 u (List.mem_of_mem_take hu)
            · exact q2 u hu
          · exact h1 u (List.mem_of_mem_drop hu)) e
        refine ⟨us', ?_, k2, k3⟩
        simp only [Instr.fill, hp]
        rw [if_neg (by simp [hsz]; omega)]
        exact k1
      · cases e
  | [], _ :: _, _, _, _, hi, _, _, _, _ => by simp at hi
  | _ :: _, [], _, _, _, hi, _, _, _, _ => by simp at hi
/-- A struct's places. -/
structure StrF (P : Program) (t : TypeId) (pl : List (Nat × Nat)) (zero : List Value) : Prop where
  places : ∃ fs, P.underlying t = some (.struct fs) ∧ ∀ W : World, (fs.mapM (m := Sem) fun f => do pure (f.offset, ← sizeOf f.type)).run P W = .ok pl.toArray W
  zr : ∃ i z, P.info? t = some i ∧ i.zero = some z ∧ z.cells.toList = zero
  one : zero.all (·.oneCell') = true
theorem pv_build {d : Option Nat} {ty : TypeId} {ps : String} {af : Array Edge} {gd : Option (Nat × Bool)} {t : TypeId} {parts : Array (Nat × Operand)} {pl : List (Nat × Nat)} {zero : List Value} {qs : List (Nat × Sd)} {cs : List Sd} (hs : StrF P t pl zero)
    (hq : parts.toList.map (fun p => (p.1, ev σ.t p.2)) = qs.map fun q => (q.1, some q.2)) (hf : fillS (fun i => pl[i]?) (zero.map .v) qs = some cs) : Val P g n σ ⟨d, .build t parts, ty, ps, af, gd⟩ (.agg cs) := by
  refine ⟨fun R a w hr => ?_⟩
  obtain ⟨fs, e1, e2⟩ := hs.places
  obtain ⟨i, z, e3, e4, e5⟩ := hs.zr
  have h1 : parts.toList.map (·.1) = qs.map (·.1) := by
    have := congrArg (List.map (·.1)) hq
    simpa [List.map_map, Function.comp_def] using this
  have h2 : (parts.toList.map (·.2)).map (ev σ.t) = (qs.map (·.2)).map some := by
    have := congrArg (List.map (·.2)) hq
    simpa [List.map_map, Function.comp_def] using this
  have h3 := hr.evs h2
  obtain ⟨us', k1, k2, k3⟩ := fill_run (R := R) (w := w) (fun i => pl[i]?) qs (parts.toList.map fun p => (p.1, a.eval p.2)) (zero.map .v) z.cells cs (by rw [← h1]; simp [Function.comp_def]) (by simpa [List.map_map, Function.comp_def] using h3) (by rw [e5]; exact repL_vals R w zero) (by rw [e5]; exact fun u hu => List.all_eq_true.1 hs.one u hu) hf
  refine ⟨.agg us', ⟨us', rfl, k2, k3⟩, fun W => ?_⟩
  have e6 := e2 W
  have e7 : Instr.fill (fun i => pl.toArray[i]?) z.cells (parts.map fun (i, x) => (i, a.eval x)).toList = some us' := by
    rw [Array.toList_map]
    simpa using k1
  simp only [execOp, Instr.build, zeroValue, typeInfo, Sem.run_bind, run_underlying e1, program, Sem.run, e3, e4, Result.andThen_ok, Sem.run_pure, e6, e7]
end
theorem cells_one {ss : List Sd} {k : Nat} (hk : ∀ s ∈ ss, (cellsS s).length = k) : (ss.map cellsS).flatten.length = ss.length * k := by
  induction ss with
  | nil => simp
  | cons s ss ih => rw [List.map_cons, List.flatten_cons, List.length_append, hk s (by simp), ih fun x hx => hk x (by simp [hx]), List.length_cons, Nat.add_mul]; omega
/-- Parts that come in order fill a row. -/
theorem fill_rows {k : Nat} : ∀ (ss : List Sd) (j : Nat) (done zs : List Sd), (∀ s ∈ ss, (cellsS s).length = k ∧ oneS s = true) → done.length = j * k → zs.length = ss.length * k →
    fillS (fun i => some (i * k, k)) (done ++ zs) ((ss.zipIdx j).map fun q => (q.2, q.1)) = some (done ++ (ss.map cellsS).flatten)
  | [], j, done, zs, _, _, hz => by
    have : zs = [] := List.eq_nil_of_length_eq_zero (by simpa using hz)
    subst this; rfl
  | s :: ss, j, done, zs, hs, hd, hz => by
    obtain ⟨h1, h2⟩ := hs s (by simp)
    rw [List.length_cons, Nat.add_mul] at hz
    have e1 : Nat.beq (cellsS s).length k = true := by rw [h1]; exact Nat.beq_refl k
    have e2 : Nat.ble (j * k + k) (done ++ zs).length = true := Nat.ble_eq_true_of_le (by rw [List.length_append]; omega)
    rw [List.zipIdx_cons, List.map_cons]
    simp only [fillS, e1, h2, e2, Bool.and_self]
    have e3 : putC (j * k) (cellsS s) (done ++ zs) = (done ++ cellsS s) ++ zs.drop k := by
      unfold putC
      rw [← hd, List.take_left, ← List.drop_drop, List.drop_left, h1]
    rw [e3, fill_rows ss (j + 1) (done ++ cellsS s) (zs.drop k) (fun x hx => hs x (by simp [hx])) (by rw [List.length_append, h1, Nat.add_mul]; omega) (by rw [List.length_drop]; omega), List.map_cons, List.flatten_cons, List.append_assoc]
/-- A literal's elements, in order. -/
inductive EvP (t : List (Nat × Sd)) (k : Nat) : Nat → List (Nat × Operand) → List Sd → Prop where
  | nil {i : Nat} : EvP t k i [] []
  | cons {i j : Nat} {x : Operand} {s : Sd} {xs : List (Nat × Operand)} {ss : List Sd} (h : ev t x = some s) (hk : Nat.beq (cellsS s).length k = true) (h1 : oneS s = true) (hj : Nat.beq j i = true) (r : EvP t k (i + 1) xs ss) : EvP t k i ((j, x) :: xs) (s :: ss)
theorem EvP.out {t : List (Nat × Sd)} {k i : Nat} {xs : List (Nat × Operand)} {ss : List Sd} (h : EvP t k i xs ss) : xs.map (·.1) = (ss.zipIdx i).map (·.2) ∧ (xs.map (·.2)).map (ev t) = ss.map some ∧ ∀ s ∈ ss, (cellsS s).length = k ∧ oneS s = true := by
  induction h with
  | nil => exact ⟨rfl, rfl, by simp⟩
  | cons h hk h1 hj _ ih =>
    obtain ⟨i1, i2, i3⟩ := ih
    have hj := Nat.eq_of_beq_eq_true hj
    subst hj
    refine ⟨by rw [List.map_cons, i1, List.zipIdx_cons, List.map_cons], by rw [List.map_cons, List.map_cons, i2, h, List.map_cons], fun s hs => ?_⟩
    simp at hs
    rcases hs with rfl | hs
    · exact ⟨Nat.eq_of_beq_eq_true hk, h1⟩
    · exact i3 s hs
section
variable {P : Program} {Q : Exit → Act → World → Prop} {R : Nat → Nat → Prop} {g : Gh} {n : Nat} {σ : St} {K : Act → World → Prop}
theorem wp_buildSlice {d : Nat} {ty : TypeId} {ps : String} {af : Array Edge} {gd : Option (Nat × Bool)} {t E : TypeId} {k bytes len : Nat} {zero : List Value} (hu : P.underlying t = some (.slice E)) (hi : Inf P E k bytes zero) (hk0 : Nat.blt 0 k = true) {parts : Array (Nat × Operand)} {ss : List Sd}
    (he : EvP σ.t k 0 parts.toList ss) (hl : Nat.beq ss.length len = true) (hm : Nat.ble (len * k) 16777216 = true) (hd : Nat.blt d n = true) (h : ∀ b, Hx g n ⟨(d, .sl k (some (some (b, len))) (ss.map cellsS)) :: σ.t, σ.bx, ⟨some (b, len), E, k, len⟩ :: σ.tk⟩ K) :
    Hx g n σ (fun a w => Oper.wp P ⟨some d, .buildSlice t len parts, ty, ps, af, gd⟩ a w K Q) := by
  rintro a w ⟨R, hr⟩
  have hl := Nat.eq_of_beq_eq_true hl
  have hm := Nat.le_of_ble_eq_true hm
  have hk0 : 0 < k := by simpa [Nat.blt_eq] using hk0
  obtain ⟨inf, z, e1, e2, e3, e4, e5⟩ := hi.info
  obtain ⟨p1, p2, p3⟩ := he.out
  have hzs : z.cells.size = k := by rw [← hi.len, ← e3]; simp
  have h3 := hr.evs p2
  generalize hzz : (if len * k = 0 then (#[] : Array Value) else z.cells) = zz
  generalize hin : (Array.range (len * k)).map (fun i => zz[i % zz.size]!) = init
  have hisz : init.size = len * k := by rw [← hin]; simp
  have hone : ∀ u ∈ init.toList, u.oneCell' = true := by
    intro u hu'
    rw [← hin] at hu'
    simp only [Array.toList_map, List.mem_map] at hu'
    obtain ⟨i, hi', rfl⟩ := hu'
    have hlt : i < len * k := by simpa using hi'
    have hz1 : zz = z.cells := by rw [← hzz, if_neg (by omega)]
    rw [hz1, hzs]
    have hlt2 : i % k < z.cells.size := by rw [hzs]; exact Nat.mod_lt _ hk0
    rw [getElem!_pos z.cells (i % k) hlt2]
    exact List.all_eq_true.1 hi.one _ (by rw [← e3]; exact Array.getElem_mem_toList hlt2)
  have hfill := fill_rows (k := k) ss 0 [] (init.toList.map .v) p3 (by simp) (by simp [hisz, hl])
  rw [List.nil_append, List.nil_append] at hfill
  obtain ⟨us', k1, k2, k3⟩ := fill_run (R := R) (w := w) (fun i => some (i * k, k)) ((ss.zipIdx 0).map fun q => (q.2, q.1)) (parts.toList.map fun p => (p.1, a.eval p.2)) (init.toList.map .v) init _
    (by rw [List.map_map, List.map_map]; exact p1.symm) (by
      have e : ((ss.zipIdx 0).map fun q => (q.2, q.1)).map (·.2) = ss := by rw [List.map_map]; exact List.zipIdx_map_fst 0 ss
      rw [e]; simpa [List.map_map, Function.comp_def] using h3) (repL_vals R w _) hone hfill
  have hfl := cells_one (ss := ss) (k := k) fun s hs => (p3 s hs).1
  have hl2 := k2.length
  rw [hfl] at hl2
  have hrun : (execOp a.eval ⟨some d, .buildSlice t len parts, ty, ps, af, gd⟩).run P w = .ok (.value (.slice (some ⟨w.heap.size, 0, none⟩) len len)) (w.alloc (.cells us' E)) := by
    have e7 : Instr.fill (fun i => some (i * k, k)) init (parts.map fun (i, x) => (i, a.eval x)).toList = some us' := by rw [Array.toList_map]; exact k1
    simp only [execOp, Instr.buildSlice, Sem.run_bind, run_underlying hu, Result.andThen_ok, sizeOf, typeInfo, program, Sem.run, e1, Sem.run_pure, e4]
    rw [if_neg (by omega)]
    by_cases hz : len * k = 0
    · rw [if_pos hz] at hzz
      rw [hz] at hin
      simp [hz, hzz]
      rw [hin, k1]
      simp [newRow]
    · rw [if_neg hz] at hzz
      rw [if_neg hz]
      simp only [zeroValue, typeInfo, Sem.run_bind, program, Sem.run, e1, e2, Sem.run_pure, Result.andThen_ok]
      rw [hzz, hin, e7]
      simp [newRow]
  have hmax : len ≤ maxLen := by
    have : len ≤ len * k := Nat.le_mul_of_pos_right _ hk0
    simp only [maxLen]; omega
  obtain ⟨R', q1, q2⟩ := hr.newTk (rows := ss.map cellsS) (k := k) (cap := len) (us1 := us'.toList) (us := us') k2 (fun r hr => by obtain ⟨s, hs, rfl⟩ := List.mem_map.1 hr; exact (p3 s hs).1) k3 (List.take_of_length_le (Nat.le_refl _)) E (by rw [← Array.length_toList, hl2, hl]) (by rw [List.length_map, hl]; exact Nat.le_refl _) hmax
  rw [List.length_map, hl] at q1 q2
  unfold Oper.wp
  rw [hrun]
  exact h w.heap.size _ _ ⟨R', q1.put (by simpa [Nat.blt_eq] using hd) q2⟩
end
/-- Rows, weaker. -/
theorem WkL.repC {R : Nat → Nat → Prop} {w : World} {b : Nat} {ss ss' : List Sd} (h : WkL ss ss') : ∀ {o : Nat}, RepC R w b o ss → RepC R w b o ss' := by
  induction h with
  | nil => intro o h; exact h
  | cons h _ ih => intro o ⟨h0, ⟨u, h1, h1', h2⟩, h3⟩; exact ⟨h0, ⟨u, h1, h1', h _ _ _ h2⟩, ih h3⟩
theorem WkL.length {ss ss' : List Sd} (h : WkL ss ss') : ss.length = ss'.length := by
  induction h with
  | nil => rfl
  | cons _ _ ih => rw [List.length_cons, List.length_cons, ih]
inductive WkR : List (List Sd) → List (List Sd) → Prop where
  | nil : WkR [] []
  | cons {r r' : List Sd} {rs rs' : List (List Sd)} (h : WkL r r') (t : WkR rs rs') : WkR (r :: rs) (r' :: rs')
theorem WkR.refl : ∀ rs : List (List Sd), WkR rs rs
  | [] => .nil
  | r :: rs => .cons (.refl r) (WkR.refl rs)
theorem WkR.rep {R : Nat → Nat → Prop} {w : World} {b k : Nat} {rs rs' : List (List Sd)} (h : WkR rs rs') : ∀ {o : Nat}, RepR R w b o k rs → RepR R w b o k rs' := by
  induction h with
  | nil => intro o h; exact h
  | cons h _ ih => intro o ⟨h0, h1, h2⟩; exact ⟨by rw [← h.length]; exact h0, h.repC h1, ih h2⟩
theorem WkR.length {rs rs' : List (List Sd)} (h : WkR rs rs') : rs.length = rs'.length := by
  induction h with
  | nil => rfl
  | cons _ _ ih => rw [List.length_cons, List.length_cons, ih]
theorem Wk.rows {k : Nat} {tok : Option (Option (Nat × Nat))} {rs rs' : List (List Sd)} (h : WkR rs rs') : Wk (.sl k tok rs) (.sl k tok rs') := by
  rintro R w u ⟨A, c, e, h1, h2, h3, h4⟩
  rw [h.length] at e h1
  refine ⟨A, c, e, h1, h2, h3, ?_⟩
  rcases h4 with rfl | ⟨b, o, e, hr⟩
  · cases h; exact .inl rfl
  · exact .inr ⟨b, o, e, h.rep hr⟩
section
variable {P : Program} {Q : Exit → Act → World → Prop} {g : Gh} {n : Nat} {σ : St} {K : Act → World → Prop}
/-- string(b). -/
theorem pv_str {d : Option Nat} {ty : TypeId} {ps : String} {af : Array Edge} {gd : Option (Nat × Bool)} {T E S : TypeId} {x : Operand} {s : Sd} {tok : Option (Option (Nat × Nat))} {rows : List (List Sd)} {bs : List UInt8} (hT : P.underlying T = some (.slice E)) (hE : P.underlying E = some (.int .u8)) (hS : P.underlying S = some .string)
    (hx : ev σ.t x = some s) (hs : slOf s = some (tok, rows)) (hb : rows = bs.map fun y => [.v (.int .u8 (y.toNat : Int))]) (hk : ∀ k, s = .sl k tok rows → k = 1) : ValE P g n σ ⟨d, .convert T S x, ty, ps, af, gd⟩ (.v (.string ⟨bs.toArray⟩)) := by
  refine ⟨fun R a w hr => ?_⟩
  obtain ⟨k, ⟨A, c, e, h1, h2, h3, h4⟩, h5⟩ := rep_slOf hs (hr.ev hx)
  refine ⟨_, rfl, fun W hW => ?_⟩
  rcases h4 with h4 | ⟨b, o, rfl, h4⟩
  · subst h4
    have : bs = [] := by cases bs with | nil => rfl | cons _ _ => cases hb
    subst this
    have hrun : (convert T S (.slice A 0 c)).run P W = .ok (.string ⟨#[]⟩) W := by
      cases A with
      | none =>
        simp only [convert, Sem.run_bind, run_underlying hT, run_underlying hE, run_underlying hS, Result.andThen_ok]
        rfl
      | some ad => exact run_convert_bytes_back W _ _ _ ad c [] hT hE hS fun j hj => by simp at hj
    simp [execOp, e, hrun]
  · have hk1 : rows = [] ∨ k = 1 := h5.imp id (hk k)
    have hlen : rows.length = bs.length := by rw [hb, List.length_map]
    have hrun : (convert T S (.slice (some ⟨b, o, none⟩) bs.length c)).run P W = .ok (.string ⟨bs.toArray⟩) W := by
      refine run_convert_bytes_back W _ _ _ _ c bs hT hE hS fun j hj => ?_
      have hrj : rows[j]? = some [.v (.int .u8 ((bs[j]).toNat : Int))] := by rw [hb, List.getElem?_map, List.getElem?_eq_getElem hj]; rfl
      have hk1 : k = 1 := hk1.resolve_left fun e => by rw [e] at hrj; simp at hrj
      subst hk1
      obtain ⟨_, hc⟩ := (h4.at_ hrj)
      obtain ⟨_, ⟨u, q1, _, q2⟩, _⟩ := hc
      have q2 : u = _ := q2
      subst q2
      rw [add_lit_]
      rw [Nat.mul_one] at q1
      rw [hW.cell b (o + j) (by rw [q1]; rfl)]
      exact q1
    rw [hlen] at e
    simp [execOp, e, hrun]
theorem freeze_heap (w : World) (b n m : Nat) (us : Array Value) (E : TypeId) (hb : w.heap[b]? = some (.cells us E (0, 0))) (hn : n ≠ 0) : (w.freeze ⟨b, m, none⟩ n).heap[b]? = some (.cells us E (m, m + n)) := by
  have hlt := (Array.getElem?_eq_some_iff.1 hb).1
  have hv := (Array.getElem?_eq_some_iff.1 hb).2
  unfold World.freeze
  rw [if_neg hn]
  simp [Array.getElem?_modify, hb]
theorem freeze_other (w : World) (b n m k : Nat) (hk : k ≠ b) : (w.freeze ⟨b, m, none⟩ n).heap[k]? = w.heap[k]? := by
  unfold World.freeze
  split
  · rfl
  · simp [Array.getElem?_modify, Ne.symm hk]
/-- []byte of a constant text: the row is marked, nothing is put behind it any more. -/
theorem wp_mark {d : Nat} {ty : TypeId} {ps : String} {af : Array Edge} {gd : Option (Nat × Bool)} {T E : TypeId} {x : Operand} {i b c : Nat} {E' : TypeId} {k m : Nat} {rows : List (List Sd)} (hT : P.underlying T = some (.slice E)) (hE : P.underlying E = some (.int .u8))
    (hx : ev σ.t x = some (.sl k (some (some (b, c))) rows)) (htk : σ.tk[i]? = some ⟨some (b, c), E', k, m⟩) (hd : Nat.blt d n = true) (h : Hx g n ⟨(d, .sl k none rows) :: σ.t, σ.bx, σ.tk.eraseIdx i⟩ K) :
    Hx g n σ (fun a w => Oper.wp P ⟨some d, .convert T T x, ty, ps, af, gd⟩ a w K Q) := by
  rintro a w ⟨R, hr⟩
  have hv := hr.ev hx
  obtain ⟨A, c', e, h1, h2, h3, h4⟩ := id hv
  obtain ⟨rfl, rfl⟩ := h3 b c rfl
  obtain ⟨⟨us, k1, k2⟩, k3, k4⟩ := hr.mem.own _ (List.mem_of_getElem? htk) b c' rfl
  have hrun : (execOp a.eval ⟨some d, .convert T T x, ty, ps, af, gd⟩).run P w = .ok (.value (a.eval x)) (w.freeze ⟨b, us.size, none⟩ 1) := by
    rw [e]
    simp [execOp, convert, run_underlying hT, run_underlying hE, e, markStringish, shape, Sem.run, World.shape?, k1]
  have hsub : (σ.tk.eraseIdx i).Sublist σ.tk := List.eraseIdx_sublist _ _
  have hmem := List.mem_of_getElem? htk
  have kp : Kp R w R (w.freeze ⟨b, us.size, none⟩ 1) := fun b' o hb => ⟨hb, by
    by_cases e' : b' = b
    · subst e'
      rw [World.cell?, World.cell?, freeze_heap w b' 1 us.size us E' k1 (by simp), k1]
    · simp only [World.cell?, freeze_other w b 1 us.size b' e']⟩
  have hnod := hr.mem.nod
  have hnotin : b ∉ (σ.tk.eraseIdx i).filterMap tkb := by
    have h5 : (σ.tk.filterMap tkb).Nodup := (List.nodup_append.1 hnod).2.1
    have h6 : σ.tk = σ.tk.take i ++ ⟨some (b, c'), E', k, m⟩ :: σ.tk.drop (i + 1) := by
      have hlt := (List.getElem?_eq_some_iff.1 htk).1
      have he := (List.getElem?_eq_some_iff.1 htk).2
      rw [← he, ← List.drop_eq_getElem_cons hlt, List.take_append_drop]
    rw [h6, List.filterMap_append, List.filterMap_cons] at h5
    have h7 : ((σ.tk.take i).filterMap tkb ++ b :: (σ.tk.drop (i + 1)).filterMap tkb).Nodup := h5
    have h8 := (List.perm_middle.nodup_iff.1 h7)
    rw [List.eraseIdx_eq_take_drop_succ, List.filterMap_append]
    exact (List.nodup_cons.1 h8).1
  have hrl : Rl R g n ⟨σ.t, σ.bx, σ.tk.eraseIdx i⟩ a (w.freeze ⟨b, us.size, none⟩ 1) := by
    refine hr.move (D := fun q => q = b) ⟨fun b' o hb => ?_, fun x hx hne0 => ?_, fun t ht b' c2 e2 => ?_, hnod.sublist ((List.Sublist.refl _).append (hsub.filterMap _))⟩
      ⟨?_, ?_, ?_, ?_, fun k _ hk => freeze_other _ _ _ _ _ hk, kp, fun _ _ hb => .inl hb⟩ (fun q hq => .inl ?_) fun q hq => .inl (((List.Sublist.refl _).append (hsub.filterMap _)).subset hq)
    · have := hr.mem.lt b' o hb
      unfold World.freeze; split
      · exact this
      · simpa using this
    · obtain ⟨⟨us', q1, q2, q3⟩, q4⟩ := hr.mem.box x hx hne0
      have hne : x.b ≠ b := fun e => (List.nodup_append.1 hnod).2.2 x.b (List.mem_filterMap.2 ⟨x, hx, bxb_some hne0⟩) b (List.mem_filterMap.2 ⟨_, hmem, rfl⟩) e
      exact ⟨⟨us', (freeze_other _ _ _ _ _ hne).trans q1, q2.mono kp, q3⟩, q4⟩
    · obtain ⟨⟨us', q1, q2⟩, q3⟩ := hr.mem.own t (hsub.subset ht) b' c2 e2
      have hne : b' ≠ b := fun e => hnotin (List.mem_filterMap.2 ⟨t, ht, by rw [← e]; simp [tkb, e2]⟩)
      exact ⟨⟨us', (freeze_other _ _ _ _ _ hne).trans q1, q2⟩, q3⟩
    · unfold World.freeze; split <;> rfl
    · unfold World.freeze; split <;> rfl
    · unfold World.freeze; split <;> rfl
    · unfold World.freeze; split <;> simp
    · subst hq; exact List.mem_append.2 (.inr (List.mem_filterMap.2 ⟨_, hmem, rfl⟩))
  unfold Oper.wp
  rw [hrun]
  exact h _ _ ⟨R, hrl.put (by simpa [Nat.blt_eq] using hd) (Wk.tok k _ rows _ _ _ (hv.mono kp))⟩
/-- Plain values. -/
inductive EvV (t : List (Nat × Sd)) : List Operand → List Value → Prop where
  | nil : EvV t [] []
  | cons {x : Operand} {u : Value} {xs : List Operand} {us : List Value} (h : ev t x = some (.v u)) (r : EvV t xs us) : EvV t (x :: xs) (u :: us)
theorem EvV.out {t : List (Nat × Sd)} {xs : List Operand} {us : List Value} (h : EvV t xs us) : xs.map (ev t) = us.map fun u => some (.v u) := by
  induction h with
  | nil => rfl
  | cons h _ ih => rw [List.map_cons, List.map_cons, h, ih]
theorem pv_makeFuncV {d : Option Nat} {ty : TypeId} {ps : String} {af : Array Edge} {gd : Option (Nat × Bool)} {f : FuncId} {caps : Array Operand} {us : List Value} (hc : EvV σ.t caps.toList us) : Val P g n σ ⟨d, .makeFunc (.func f) #[] caps, ty, ps, af, gd⟩ (.v (.func (.func f) #[] us.toArray)) := pv_makeFunc hc.out
/-- A struct literal's parts. -/
inductive EvB (t : List (Nat × Sd)) : List (Nat × Operand) → List (Nat × Sd) → Prop where
  | nil : EvB t [] []
  | cons {i : Nat} {x : Operand} {s : Sd} {xs : List (Nat × Operand)} {qs : List (Nat × Sd)} (h : ev t x = some s) (r : EvB t xs qs) : EvB t ((i, x) :: xs) ((i, s) :: qs)
theorem EvB.out {t : List (Nat × Sd)} {xs : List (Nat × Operand)} {qs : List (Nat × Sd)} (h : EvB t xs qs) : xs.map (fun p => (p.1, ev t p.2)) = qs.map fun q => (q.1, some q.2) := by
  induction h with
  | nil => rfl
  | cons h _ ih => rw [List.map_cons, List.map_cons, h, ih]
theorem pv_buildB {d : Option Nat} {ty : TypeId} {ps : String} {af : Array Edge} {gd : Option (Nat × Bool)} {t : TypeId} {parts : Array (Nat × Operand)} {pl : List (Nat × Nat)} {zero : List Value} {qs : List (Nat × Sd)} {cs : List Sd} (hs : StrF P t pl zero)
    (hq : EvB σ.t parts.toList qs) (hf : fillS (fun i => pl[i]?) (zero.map .v) qs = some cs) : Val P g n σ ⟨d, .build t parts, ty, ps, af, gd⟩ (.agg cs) := pv_build hs hq.out hf
end
class UndC (P : Program) (t : TypeId) (d : outParam TypeDesc) : Prop where
  h : P.underlying t = some d
class InfC (P : Program) (t : TypeId) (size : outParam Nat) (bytes : outParam Nat) (zero : outParam (List Value)) : Prop where
  h : Inf P t size bytes zero
class ShpC (P : Program) (t : TypeId) (ag : outParam Bool) (k : outParam Nat) : Prop where
  h : Shp P t ag k
class StrC (P : Program) (t : TypeId) (pl : outParam (List (Nat × Nat))) (zero : outParam (List Value)) : Prop where
  h : StrF P t pl zero
section
variable {P : Program} {t : TypeId}
theorem inf_of {size bytes : Nat} {zero : List Value} (h : (P.info? t).bind (fun i => i.zero.map fun z => (z.cells.toList, i.size, i.bytes)) = some (zero, size, bytes)) (hl : zero.length = size) (h1 : zero.all (·.oneCell') = true) : Inf P t size bytes zero := by
  refine ⟨?_, hl, h1⟩
  cases hi : P.info? t with
  | none => rw [hi] at h; cases h
  | some i =>
    rw [hi] at h
    cases hz : i.zero with
    | none => simp [hz] at h
    | some z =>
      simp only [Option.bind_some, hz, Option.map_some, Option.some.injEq, Prod.mk.injEq] at h
      exact ⟨i, z, rfl, hz, h.1, h.2.1, h.2.2⟩
theorem shp_of {d : TypeDesc} {size bytes : Nat} {zero : List Value} {ag : Bool} (hd : P.underlying t = some d) (hi : Inf P t size bytes zero) (hag : ag = isAggB d) : Shp P t ag size :=
  ⟨⟨d, hd, hag⟩, let ⟨i, _, h1, _, _, h2, _⟩ := hi.info; ⟨i, h1, h2⟩⟩
theorem str_of {fs : Array Field} {pl : List (Nat × Nat)} {size bytes : Nat} {zero : List Value} (hu : P.underlying t = some (.struct fs)) (hi : Inf P t size bytes zero) (hp : ∀ W : World, (fs.mapM (m := Sem) fun f => do pure (f.offset, ← sizeOf f.type)).run P W = .ok pl.toArray W) : StrF P t pl zero :=
  ⟨⟨fs, hu, hp⟩, let ⟨i, z, h1, h2, h3, _, _⟩ := hi.info; ⟨i, z, h1, h2, h3⟩, hi.one⟩
end
theorem Wk.any (s : Sd) : Wk s .any := fun _ _ _ _ => trivial
def idb : Option (Nat × Nat) → Nat
  | none => 0
  | some q => q.1
def idc : Option (Nat × Nat) → Nat
  | none => 0
  | some q => q.2
/-- A row that is written in place: its elements, and room behind them; nothing where it is nil. -/
abbrev rbx (id : Option (Nat × Nat)) (E : TypeId) (k : Nat) (rows : List (List Sd)) : Bx := ⟨idb id, E, rows.flatten ++ List.replicate ((idc id - rows.length) * k) .any⟩
theorem repL_any {R : Nat → Nat → Prop} {w : World} : ∀ us : List Value, RepL R w (List.replicate us.length .any) us
  | [] => rfl
  | u :: us => ⟨u, us, rfl, trivial, repL_any us⟩
theorem flat_len {k : Nat} : ∀ {rows : List (List Sd)}, (∀ r ∈ rows, r.length = k) → rows.flatten.length = rows.length * k
  | [], _ => by simp
  | r :: rs, h => by rw [List.flatten_cons, List.length_append, h r (by simp), flat_len fun r hr => h r (by simp [hr]), List.length_cons, Nat.add_mul]; omega
theorem flat_drop {k : Nat} : ∀ {rows : List (List Sd)} (i : Nat), (∀ r ∈ rows, r.length = k) → rows.flatten.drop (i * k) = (rows.drop i).flatten
  | _, 0, _ => by simp
  | [], i + 1, _ => by simp
  | r :: rs, i + 1, h => by
    rw [List.flatten_cons, List.drop_succ_cons, ← flat_drop i fun r hr => h r (by simp [hr]), Nat.add_mul, Nat.one_mul, Nat.add_comm, ← List.drop_drop, ← h r (by simp), List.drop_left]
/-- The cells of an element. -/
theorem row_at {k i : Nat} {rows : List (List Sd)} {sp : List Sd} {r : List Sd} (hk : ∀ r ∈ rows, r.length = k) (h : rows[i]? = some r) : ((rows.flatten ++ sp).drop (i * k)).take k = r ∧ ∀ j s, r[j]? = some s → (rows.flatten ++ sp)[i * k + j]? = some s := by
  have hlt := (List.getElem?_eq_some_iff.1 h).1
  have hr := hk r (List.mem_of_getElem? h)
  have hfl := flat_len hk
  have hle : i * k ≤ rows.flatten.length := by rw [hfl]; exact Nat.mul_le_mul_right _ (by omega)
  have hd : (rows.flatten ++ sp).drop (i * k) = r ++ ((rows.drop (i + 1)).flatten ++ sp) := by
    rw [List.drop_append, flat_drop i hk, List.drop_eq_getElem_cons hlt, (List.getElem?_eq_some_iff.1 h).2, List.flatten_cons, List.append_assoc, Nat.sub_eq_zero_of_le hle, List.drop_zero]
  refine ⟨by rw [hd, ← hr, List.take_left], fun j s hj => ?_⟩
  have h2 : ((rows.flatten ++ sp).drop (i * k))[j]? = some s := by rw [hd, List.getElem?_append_left (List.getElem?_eq_some_iff.1 hj).1]; exact hj
  rwa [List.getElem?_drop] at h2
section
variable {P : Program} {Q : Exit → Act → World → Prop} {g : Gh} {n : Nat} {σ : St} {K : Act → World → Prop} {d : Option Nat} {ty : TypeId} {ps : String} {af : Array Edge} {gd : Option (Nat × Bool)}
theorem pv_lenRb {x : Operand} {id : Option (Nat × Nat)} {m : Nat} {t E : TypeId} (hu : P.underlying t = some (.slice E)) (hx : ev σ.t x = some (.rb id m)) : Val P g n σ ⟨d, .call ⟨.builtin .len, #[x], #[t]⟩, ty, ps, af, gd⟩ (.v (.int .i64 (m : Int))) := by
  refine ⟨fun R a w hr => ?_⟩
  have h1 : a.eval x = _ := (hr.ev hx).1
  refine ⟨_, rfl, fun W => ?_⟩
  cases id <;> simp [execOp, resolve, invoke, builtin, Builtin.len_, h1, goInt, run_underlying hu, rbV]
theorem RbOk.some_ {id : Option (Nat × Nat)} {m : Nat} (h : RbOk id m) (hm : 0 < m) : ∃ b c, id = some (b, c) ∧ m ≤ c ∧ c ≤ maxLen := by
  cases id with
  | none => exact absurd h (by unfold RbOk; omega)
  | some q => exact ⟨q.1, q.2, rfl, h⟩
theorem pv_indexAddrRb {x ix : Operand} {t E : TypeId} {i : Nat} {ki : IntKind} {z : Int} {ag : Bool} {k m : Nat} {id : Option (Nat × Nat)} (hl : i < m) (hz : z = (i : Int)) (hu : P.underlying t = some (.slice E)) (hs : Shp P E ag k) (hx : ev σ.t x = some (.rb id m)) (hi : ev σ.t ix = some (.v (.int ki z))) :
    Val P g n σ ⟨d, .indexAddr t x ix, ty, ps, af, gd⟩ (.v (.pointer (some ⟨idb id, i * k, none⟩))) := by
  refine ⟨fun R a w hr => ?_⟩
  subst hz
  obtain ⟨h1, hok⟩ : a.eval x = _ ∧ _ := hr.ev hx
  have h6 : a.eval ix = .int ki i := hr.ev hi
  obtain ⟨b, c, rfl, _⟩ := hok.some_ (by omega)
  refine ⟨_, rfl, fun W => ?_⟩
  simp [execOp, Instr.indexAt, run_underlying hu, h1, h6, asIntOf, rbV, hl, hs.run_size, add_lit_, idb]
theorem pv_sliceRb {x : Operand} {t E : TypeId} {hi : Option Operand} {h : Nat} {ag : Bool} {k m : Nat} {id : Option (Nat × Nat)} (hu : P.underlying t = some (.slice E)) (hs : Shp P E ag k) (hx : ev σ.t x = some (.rb id m)) (hh : Bd σ.t m hi h) (h2 : h ≤ m) :
    Val P g n σ ⟨d, .slice t x none hi none, ty, ps, af, gd⟩ (.rb id h) := by
  refine ⟨fun R a w hr => ?_⟩
  obtain ⟨e, hok⟩ : a.eval x = _ ∧ _ := hr.ev hx
  refine ⟨rbV id h, ⟨rfl, ?_⟩, fun W => ?_⟩
  · cases id with
    | none => have : m = 0 := hok; show h = 0; omega
    | some q => exact ⟨Nat.le_trans h2 hok.1, hok.2⟩
  · cases id with
    | none =>
      have hm : m = 0 := hok
      obtain rfl : h = 0 := by omega
      have hb := bounds_run (P := P) (b := true) hr (Bd.none_ : Bd σ.t 0 none 0) hh (Nat.zero_le _) (Nat.le_refl 0) W
      simp only [Option.map_none] at hb
      simp [execOp, Instr.sliceAt, Instr.slice, run_underlying hu, e, hb, hs.run_size, rbV]
    | some q =>
      have h3 : h ≤ q.2 := Nat.le_trans h2 hok.1
      have hb := bounds_run (P := P) (b := true) hr (Bd.none_ : Bd σ.t 0 none 0) hh (Nat.zero_le _) h3 W
      simp only [Option.map_none] at hb
      by_cases hc : q.2 = 0
      · obtain ⟨qb, qc⟩ := q
        simp only at hc h3; subst hc
        simp [execOp, Instr.sliceAt, Instr.slice, run_underlying hu, e, hb, hs.run_size, rbV]
      · simp [execOp, Instr.sliceAt, Instr.slice, run_underlying hu, e, hb, hs.run_size, hc, Addr.add, rbV]
/-- A store, what it makes of the cells said outright. -/
theorem wp_storeR {t E : TypeId} {x y : Operand} {i b o : Nat} {s : Sd} {cs cs' : List Sd} {ag : Bool} {k : Nat} (hs : Shp P t ag k) (hx : ev σ.t x = some (.v (.pointer (some ⟨b, o, none⟩)))) (hy : ev σ.t y = some s) (h1 : oneS s = true) (hk : (cellsS s).length = k)
    (hb : σ.bx[i]? = some ⟨b, E, cs⟩) (hlen : o + k ≤ cs.length) (hcs : putC o (cellsS s) cs = cs') (h : Hx g n ⟨σ.t, σ.bx.set i ⟨b, E, cs'⟩, σ.tk⟩ K) :
    Hx g n σ (fun a w => Oper.wp P ⟨none, .store t x y, ty, ps, af, gd⟩ a w K Q) := wp_store hs hx hy h1 hk hb hlen (by rw [hcs]; exact h)
theorem mem_zeroCells {zero : Array Value} {m : Nat} {u : Value} (hu : u ∈ (Builtin.zeroCells zero m).toList) : u ∈ zero.toList := by
  unfold Builtin.zeroCells at hu
  simp only [Array.toList_map, List.mem_map] at hu
  obtain ⟨i, hi, rfl⟩ := hu
  have hlt : i < m * zero.size := by simpa using hi
  have h0 : 0 < zero.size := Nat.pos_of_ne_zero fun h => by rw [h] at hlt; omega
  have h2 : i % zero.size < zero.size := Nat.mod_lt _ h0
  rw [getElem!_pos zero _ h2]
  exact Array.getElem_mem_toList h2
/-- append onto a row in place; what lay behind its length is gone. -/
theorem SubM.setBx (bx : List Bx) (tk : List Tk) (i : Nat) (x : Bx) : SubM (x :: bx) tk (bx.set i x) tk := by
  rcases Nat.lt_or_ge i bx.length with h | h
  · exact SubM.trans (.of_sub ((erase_sub bx i).cons_cons x) (List.Sublist.refl _)) (.perm (set_perm bx i x h).symm (List.Perm.refl _))
  · rw [List.set_eq_of_length_le h]
    exact .of_sub ((List.Sublist.refl bx).cons x) (List.Sublist.refl _)
theorem wp_appendRb {d : Nat} {t E : TypeId} {k bytes : Nat} {zero : List Value} (ht : P.underlying t = some (.slice E)) (hi : Inf P E k bytes zero) {x y : Operand} {i : Nat} {id : Option (Nat × Nat)} {rows rows2 : List (List Sd)} {sx : Sd}
    (hx : ev σ.t x = some sx) (hwx : Wk sx (.rb id rows.length)) (hsr : SrcOf g n σ y k rows2) (hk0 : 0 < k) (hb : σ.bx[i]? = some (rbx id E k rows)) (hk : ∀ r ∈ rows, r.length = k) (hd : Nat.blt d n = true)
    (hby : rows.length + rows2.length ≤ maxLen ∧ (rows.length + rows2.length) * bytes ≤ 140737488355328)
    (h : ∀ id', Hx g n ⟨(d, .rb id' (rows ++ rows2).length) :: σ.t, σ.bx.set i (rbx id' E k (rows ++ rows2)), σ.tk⟩ K) :
    Hx g n σ (fun a w => Oper.wp P ⟨some d, .call ⟨.builtin .append, #[x, y], #[t, t]⟩, ty, ps, af, gd⟩ a w K Q) := by
  rintro a w ⟨R, hr⟩
  obtain ⟨inf, z, e1, e2, e3, e4, e5⟩ := hi.info
  have hzs : z.cells.size = k := by rw [← hi.len, ← e3]; simp
  have hone : ∀ u ∈ z.cells.toList, u.oneCell' = true := by rw [e3]; exact List.all_eq_true.1 hi.one
  subst e4 e5
  obtain ⟨B, c2, hv0, hkk, hrr3⟩ := hsr _ _ _ hr
  obtain ⟨hu0, hok⟩ : a.eval x = rbV id rows.length ∧ RbOk id rows.length := hwx _ _ _ (hr.ev hx)
  have hd' : d < n := by simpa [Nat.blt_eq] using hd
  have hself : σ.bx.set i (rbx id E inf.size rows) = σ.bx := by
    apply List.ext_getElem?
    intro j
    rw [List.getElem?_set]
    split
    · rename_i hij; subst hij
      split
      · exact hb.symm
      · rename_i hlt; rw [List.getElem?_eq_none (by omega)]
    · rfl
  unfold Oper.wp execOp
  simp only [resolve, invoke, builtin, Sem.run_bind, Sem.run_pure, Result.andThen_ok, List.map_toArray, List.map_cons, List.map_nil, hu0, hv0]
  by_cases hr0 : rows2 = []
  · subst hr0
    have hrun : ∀ W, (Builtin.append_ #[t, t] ty #[rbV id rows.length, .slice B ([] : List (List Sd)).length c2]).run P W = .ok (rbV id rows.length) W := fun W => by
      cases id with
      | none => exact app_zero ht e1 ty none B rows.length 0 c2 (by rw [show rows.length = 0 from hok]; exact Nat.le_refl _) W
      | some q => exact app_zero ht e1 ty _ B rows.length q.2 c2 hok.1 W
    rw [hrun]
    have h := h id
    rw [List.append_nil, hself] at h
    exact h _ _ ⟨R, hr.put (s := .rb id rows.length) (v := rbV id rows.length) hd' ⟨rfl, hok⟩⟩
  · obtain ⟨b2, o2, us2, rfl, v2, v3, v4⟩ := hrr3.resolve_left hr0
    have hpos : 0 < rows2.length := List.length_pos_iff.2 hr0
    have f2 := flat_len hkk
    have hl2 := v2.length
    have hfl := flat_len hk
    have hnews : ∀ j x, us2[j]? = some x → w.cell? ((⟨b2, o2, none⟩ : Addr).add j) = some x := fun j x hx => by rw [add_lit_]; exact v4 j x hx
    have hcap0 := fun old => grownCap_ge w (rows.length + rows2.length) old E
    have hcap1 := fun old => grownCap_le_maxLen w (rows.length + rows2.length) old E hby.1
    have hsm : rows.length + rows2.length ≤ 9223372036854775807 := by have := hby.1; simp only [maxLen] at this; omega
    -- a new block
    have fin : ∀ (us1 : List Value) (cap : Nat) (v' : Value), RepL R w rows.flatten us1 → (∀ u ∈ us1, u.oneCell' = true) → cap ≤ maxLen → rows.length + rows2.length ≤ cap →
        v' = .slice (some ⟨w.heap.size, 0, none⟩) (rows.length + rows2.length) cap →
        K (a.put (some d) v') (w.drew.alloc (.cells (us1.toArray ++ us2.toArray ++ Builtin.zeroCells z.cells (cap - (rows.length + rows2.length))) E)) := by
      rintro us1 cap v' k1 k2 k4 k5 rfl
      have hd0 : Rl R g n σ a w.drew := hr.drewN 1
      have hkd : Kp R w R w.drew := fun _ _ hb => ⟨hb, rfl⟩
      have hrow : RepL R w.drew ((rows ++ rows2).flatten ++ List.replicate ((cap - (rows ++ rows2).length) * inf.size) .any) (us1.toArray ++ us2.toArray ++ Builtin.zeroCells z.cells (cap - (rows.length + rows2.length))).toList := by
        rw [Array.toList_append, Array.toList_append, List.flatten_append]
        refine ((k1.mono hkd).append (v2.mono hkd)).append ?_
        have := repL_any (R := R) (w := w.drew) (Builtin.zeroCells z.cells (cap - (rows.length + rows2.length))).toList
        rw [Array.length_toList, size_zeroCells, hzs] at this
        rw [List.length_append (as := rows)]
        exact this
      have q1 := hd0.newBx hrow (fun u hu => by
        rw [Array.toList_append, Array.toList_append] at hu
        rcases List.mem_append.1 hu with hu | hu
        · rcases List.mem_append.1 hu with hu | hu
          · exact k2 u hu
          · exact v3 u hu
        · exact hone u (mem_zeroCells hu)) E
      have q2 : Rl R g n ⟨σ.t, σ.bx.set i (rbx (some (w.heap.size, cap)) E inf.size (rows ++ rows2)), σ.tk⟩ a _ := q1.imp ⟨ImpT.refl _, SubM.setBx σ.bx σ.tk i (rbx (some (w.heap.size, cap)) E inf.size (rows ++ rows2))⟩
      exact h (some (w.heap.size, cap)) _ _ ⟨R, q2.put (s := .rb (some (w.heap.size, cap)) (rows ++ rows2).length) hd' ⟨by rw [List.length_append]; rfl, by rw [List.length_append]; exact k5, k4⟩⟩
    cases id with
    | none =>
      obtain rfl : rows = [] := List.eq_nil_of_length_eq_zero hok
      have hrun := run_append_nil (P := P) w t ty E inf z ht e1 e2 ⟨b2, o2, none⟩ rows2.length c2 us2 (by rw [hl2, f2]) hnews hpos (by simp at hsm; omega) (by have := hby.2; simp at this; omega)
      have hx : ([] : List (List Sd)).length + rows2.length = rows2.length := Nat.zero_add _
      have := fin [] (grownCap w rows2.length 0 E) _ rfl (by simp) (by have := hcap1 0; rwa [hx] at this) (by have := hcap0 0; rwa [hx] at this ⊢) rfl
      unfold rbV
      simp only [List.length_nil]
      rw [hrun]
      show K _ _
      simpa using this
    | some q =>
      obtain ⟨b, c⟩ := q
      have hc : rows.length ≤ c ∧ c ≤ maxLen := hok
      have hlow0 : ∃ us : Array Value, RepL R w (rows.flatten ++ List.replicate ((c - rows.length) * inf.size) .any) us.toList ∧ (∀ u ∈ us.toList, u.oneCell' = true) ∧ (us.toList ≠ [] → w.heap[b]? = some (.cells us E (0, 0))) := by
        by_cases hcs : rows.flatten ++ List.replicate ((c - rows.length) * inf.size) .any = []
        · exact ⟨#[], by rw [hcs]; rfl, by simp, by simp⟩
        · obtain ⟨⟨us, k1, k2, k3⟩, k4⟩ := hr.mem.box _ (List.mem_of_getElem? hb) hcs
          exact ⟨us, k2, k3, fun _ => k1⟩
      obtain ⟨us, k2, k3, k1⟩ := hlow0
      have hlen := k2.length
      have hul : us.size = c * inf.size := by
        rw [← Array.length_toList, hlen, List.length_append, hfl, List.length_replicate, ← Nat.add_mul]; congr 1; have := hc.1; omega
      by_cases hroom : rows.length + rows2.length ≤ c
      · have hfit : rows.length * inf.size + us2.length ≤ us.size := by rw [hl2, f2, hul, ← Nat.add_mul]; exact Nat.mul_le_mul_right _ hroom
        have hne : us.toList ≠ [] := fun e => by
          have h0 : us.size = 0 := by rw [← Array.length_toList, e]; rfl
          rw [hul] at h0
          rcases Nat.mul_eq_zero.1 h0 with h0 | h0 <;> omega
        have k1 := k1 hne
        have hcs : rows.flatten ++ List.replicate ((c - rows.length) * inf.size) .any ≠ [] := fun e => hne (by rw [e] at k2; exact k2)
        have hrun := run_append_room (P := P) w t ty E inf ht e1 b rows.length c us k1 ⟨b2, o2, none⟩ rows2.length c2 us2 (by rw [hl2, f2]) hnews v3 hroom hfit
        have q1 := hr.setBx (o := rows.length * inf.size) (b := b) (cs := rows.flatten ++ List.replicate ((c - rows.length) * inf.size) .any) (us := us.toList) hb (by simpa using k1) k2 k3 v2 v3 hcs (by have h9 := hfit; rw [← Array.length_toList, hlen, hl2] at h9; exact h9)
        have hput : putC (rows.length * inf.size) rows2.flatten (rows.flatten ++ List.replicate ((c - rows.length) * inf.size) .any) = (rows ++ rows2).flatten ++ List.replicate ((c - (rows ++ rows2).length) * inf.size) .any := by
          unfold putC
          rw [← hfl, List.take_left, List.flatten_append, List.drop_append, List.drop_of_length_le (by omega), List.nil_append, List.drop_replicate, f2, List.length_append]
          congr 2
          rw [hfl, Nat.add_sub_cancel_left, ← Nat.mul_sub_right_distrib]
          congr 1; omega
        rw [hput] at q1
        have := h (some (b, c)) _ _ ⟨R, q1.put (s := .rb (some (b, c)) (rows ++ rows2).length) (v := rbV (some (b, c)) (rows ++ rows2).length) hd' ⟨rfl, by rw [List.length_append]; exact hroom, hc.2⟩⟩
        unfold rbV
        simp only []
        rw [hrun]
        show K _ _
        simpa [rbV, List.length_append] using this
      · have hlow : ∀ j x, (us.toList.take (rows.length * inf.size))[j]? = some x → w.cell? ((⟨b, 0, none⟩ : Addr).add j) = some x := fun j x hx => by
          rw [List.getElem?_take] at hx
          split at hx
          · rw [add_lit_, Nat.zero_add]
            have hxx : us[j]? = some x := by rw [← Array.getElem?_toList]; exact hx
            have k1 := k1 (fun e => by rw [e] at hx; simp at hx)
            simp [World.cell?, k1, hxx]
          · cases hx
        have hy2 : RepL R w rows.flatten (us.toList.take (rows.length * inf.size)) := by
          have := k2.take (rows.length * inf.size)
          rwa [← hfl, List.take_left, hfl] at this
        have hrun := run_append_grow (P := P) w t ty E inf z ht e1 e2 ⟨b, 0, none⟩ rows.length c (us.toList.take (rows.length * inf.size)) (by rw [hy2.length, hfl]) hlow ⟨b2, o2, none⟩ rows2.length c2 us2 (by rw [hl2, f2]) hnews (by omega) (by omega) (growslice_fits (by omega) hby.2)
        have := fin _ (grownCap w (rows.length + rows2.length) c E) _ hy2 (fun u hu => k3 u (List.mem_of_mem_take hu)) (hcap1 c) (hcap0 c) rfl
        unfold rbV
        simp only []
        rw [hrun]
        exact this
end
end Go.Proofs.Ytncnfohhjbadgaa
