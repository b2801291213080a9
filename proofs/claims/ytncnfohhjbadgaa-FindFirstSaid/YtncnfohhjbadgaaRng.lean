
/- Loops over functions: the loop's rounds, the function that is ranged over, the statement. -/
import Derived.RangeFuncRecord
import Derived.Test.YtncnfohhjbadgaaEv
namespace Go.Proofs.Ytncnfohhjbadgaa
open Go.RowKit
/-- No row of cells. -/
def nocells (o : Obj) : Bool := match o with
  | .cells .. => false
  | _ => true
theorem cell_nocells {w : World} {l o : Nat} {x : Obj} (h : w.heap[l]? = some x) (hx : nocells x = true) : w.cell? ⟨l, o, none⟩ = none := by
  unfold World.cell?
  rw [show w.heap[(⟨l, o, none⟩ : Addr).block]? = some x from h]
  cases x <;> first | rfl | (cases hx)
theorem cell_putObj {w : World} {l b o : Nat} {x y : Obj} (h : w.heap[l]? = some x) (hx : nocells x = true) (hy : nocells y = true) : (w.putObj l y).cell? ⟨b, o, none⟩ = w.cell? ⟨b, o, none⟩ := by
  by_cases e : b = l
  · subst e
    rw [cell_nocells h hx, cell_nocells (World.putObj_heap_same (Array.getElem?_eq_some_iff.1 h).1) hy]
  · unfold World.cell?
    rw [show (w.putObj l y).heap[(⟨b, o, none⟩ : Addr).block]? = w.heap[(⟨b, o, none⟩ : Addr).block]? from World.putObj_heap_other e]
theorem MemOk.not_dom {R : Nat → Nat → Prop} {bx : List Bx} {tk : List Tk} {w : World} (h : MemOk R bx tk w) {l : Nat} {x : Obj} (hl : w.heap[l]? = some x) (hx : nocells x = true) : ¬ dom bx tk l := by
  intro hb
  unfold dom at hb
  rcases List.mem_append.1 hb with hb | hb
  · obtain ⟨y, hy, hyb⟩ := List.mem_filterMap.1 hb
    obtain ⟨hne, rfl⟩ := bxb_of hyb
    obtain ⟨⟨us, k1, _⟩, _⟩ := h.box y hy hne
    rw [hl] at k1
    injection k1 with k1
    subst k1
    cases hx
  · obtain ⟨t, ht, e⟩ := List.mem_filterMap.1 hb
    unfold tkb at e
    cases hq : t.id with
    | none => rw [hq] at e; cases e
    | some q =>
      rw [hq] at e
      injection e with e
      subst e
      obtain ⟨⟨us, k1, _⟩, _⟩ := h.own t ht q.1 q.2 hq
      rw [hl] at k1
      injection k1 with k1
      subst k1
      cases hx
theorem kp_putObj {R : Nat → Nat → Prop} {w : World} {l : Nat} {x y : Obj} (h : w.heap[l]? = some x) (hx : nocells x = true) (hy : nocells y = true) : Kp R w R (w.putObj l y) := fun _ _ hr => ⟨hr, cell_putObj h hx hy⟩
theorem MemOk.putObj {R : Nat → Nat → Prop} {bx : List Bx} {tk : List Tk} {w : World} (h : MemOk R bx tk w) {l : Nat} {x y : Obj} (hl : w.heap[l]? = some x) (hx : nocells x = true) (hy : nocells y = true) : MemOk R bx tk (w.putObj l y) := by
  have hk : ∀ (b : Nat) us E f, w.heap[b]? = some (Obj.cells us E f) → (w.putObj l y).heap[b]? = some (Obj.cells us E f) := fun b us E f e => by
    by_cases hb : b = l
    · subst hb; rw [hl] at e; injection e with e; subst e; cases hx
    · rw [World.putObj_heap_other hb]; exact e
  refine ⟨fun b o hr => by rw [World.putObj_size]; exact h.lt b o hr, fun z hz hne => ?_, fun t ht b c e => ?_, h.nod⟩
  · obtain ⟨⟨us, k1, k2, k3⟩, k4⟩ := h.box z hz hne
    exact ⟨⟨us, hk _ _ _ _ k1, k2.mono (kp_putObj hl hx hy), k3⟩, k4⟩
  · obtain ⟨⟨us, k1, k2⟩, k3⟩ := h.own t ht b c e
    exact ⟨⟨us, hk _ _ _ _ k1, k2⟩, k3⟩
/-- A block that is no cells turns, at the start and now. -/
theorem Mv.putObj {D : Nat → Prop} {R R' : Nat → Nat → Prop} {w w' : World} (h : Mv D R w R' w') {l : Nat} {x x' y : Obj} (h1 : w.heap[l]? = some x) (hx : nocells x = true) (h2 : w'.heap[l]? = some x') (hx' : nocells x' = true) (hy : nocells y = true) : Mv D R (w.putObj l y) R' (w'.putObj l y) := {
  os := h.os
  tape := h.tape
  output := h.output
  size := by rw [World.putObj_size, World.putObj_size]; exact h.size
  block k hk hd := by
    rw [World.putObj_size] at hk
    by_cases e : k = l
    · subst e; rw [World.putObj_heap_same (Array.getElem?_eq_some_iff.1 h2).1, World.putObj_heap_same hk]
    · rw [World.putObj_heap_other e, World.putObj_heap_other e]; exact h.block k hk hd
  keep b o hr := ⟨(h.keep b o hr).1, by rw [cell_putObj h2 hx' hy, cell_putObj h1 hx hy]; exact (h.keep b o hr).2⟩
  new b o hr := by rw [World.putObj_size]; exact h.new b o hr }
theorem Glo.putObj {R : Nat → Nat → Prop} {w : World} (h : Glo R w) {l : Nat} {x y : Obj} (hl : w.heap[l]? = some x) (hx : nocells x = true) (hy : nocells y = true) : Glo R (w.putObj l y) := h.keep (kp_putObj hl hx hy)
theorem putObj_id {w : World} {l : Nat} {x : Obj} (h : w.heap[l]? = some x) : w.putObj l x = w := by
  have : w.heap.setIfInBounds l x = w.heap := by
    refine Array.ext_getElem? fun i => ?_
    by_cases e : l = i
    · subst e; rw [Array.getElem?_setIfInBounds_self_of_lt (Array.getElem?_eq_some_iff.1 h).1]; exact h.symm
    · exact Array.getElem?_setIfInBounds_ne e
  unfold World.putObj
  rw [this]
theorem putObj_putObj (w : World) (l : Nat) (x y : Obj) : (w.putObj l x).putObj l y = w.putObj l y := by
  unfold World.putObj
  congr 1
  exact Array.setIfInBounds_setIfInBounds _
/-- The ghost with a block turned at the start. -/
structure Tn (g : Gh) (l : Nat) (o : Obj) : Prop where
  y : ∃ x, g.w.heap[l]? = some x ∧ nocells x = true
  o : nocells o = true
abbrev Gh.turn (g : Gh) (l : Nat) (o : Obj) (h : Tn g l o) : Gh := ⟨g.w.putObj l o, g.R, g.D, (let ⟨_, h1, h2⟩ := h.y; g.gl.putObj h1 h2 h.o), g.ds, g.rd⟩
theorem Rl.turn {R : Nat → Nat → Prop} {g : Gh} {n : Nat} {σ : St} {a : Act} {w : World} (hr : Rl R g n σ a w) {l : Nat} {x' o : Obj} (h : Tn g l o) (h2 : w.heap[l]? = some x') (hx' : nocells x' = true) : Rl R (g.turn l o h) n σ a (w.putObj l o) := {
  mem := hr.mem.putObj h2 hx' h.o
  mv := let ⟨_, h1, hx⟩ := h.y; hr.mv.putObj h1 hx h2 hx' h.o
  dm b hb := by rw [World.putObj_size]; exact hr.dm b hb
  df := hr.df
  sz := hr.sz
  tm d s hs := by
    obtain ⟨v, h3, h4⟩ := hr.tm d s hs
    exact ⟨v, h3, h4.mono (kp_putObj h2 hx' h.o)⟩ }
theorem Rl.still {R : Nat → Nat → Prop} {g : Gh} {n : Nat} {σ : St} {a : Act} {w : World} (hr : Rl R g n σ a w) {l : Nat} {x : Obj} (h : g.w.heap[l]? = some x) (hd : ¬ g.D l) : w.heap[l]? = some x :=
  (hr.mv.block l (Array.getElem?_eq_some_iff.1 h).1 hd).trans h
/-- A loop over a function, as its record keeps it. -/
structure Lp where
  l : Nat
  n : Nat
  t : List (Nat × Sd)
  ps : Array Tmp
  ac : Code
  bc : Code
structure LpOk (L : Lp) (r : Loop) (R : Nat → Nat → Prop) (w : World) : Prop where
  at_ : w.heap[L.l]? = some (.loop r)
  st : r.state = .ready
  pe : r.pending = none
  ps : r.params = L.ps
  ac : r.assign = L.ac
  bc : r.body = L.bc
  sz : r.tmps.size = L.n
  tm : ∀ d s, look L.t d = some s → ∃ v, r.tmps[d]? = some v ∧ RepS R w s v
theorem LpOk.keep {L : Lp} {r : Loop} {R R' : Nat → Nat → Prop} {w w' : World} (h : LpOk L r R w) (k : Kp R w R' w') (hl : w'.heap[L.l]? = some (.loop r)) : LpOk L r R' w' :=
  ⟨hl, h.st, h.pe, h.ps, h.ac, h.bc, h.sz, fun d s hs => let ⟨v, h1, h2⟩ := h.tm d s hs; ⟨v, h1, h2.mono k⟩⟩
/-- The record when a round has left the loop by a jump. -/
def stop (r : Loop) (c : Code) : Obj := .loop { r with state := .done, pending := some c }
def after (w : World) (l : Nat) (r : Loop) : Option Code → World
  | none => w
  | some c => w.putObj l (stop r c)
def jmp (c : Code) : Bool → Option Code
  | true => none
  | false => some c
/-- What is left behind: the memory, and how the loop stands. -/
def RQ (l : Nat) (r : Loop) (bx : List Bx) (tk : List Tk) (R0 : Nat → Nat → Prop) (w0 : World) (Rr : Option Code → List Bx → List Tk → Prop) (j : Option Code) (w' : World) : Prop :=
  ∃ w1 bx' tk' R', Rr j bx' tk' ∧ MemOk R' bx' tk' w1 ∧ Mv (dom bx tk) R0 w0 R' w1 ∧ (∀ b, dom bx' tk' b → dom bx tk b ∨ w0.heap.size ≤ b) ∧ w' = after w1 l r j
/-- A round's contract; that of the function that is ranged over. -/
def YCon (P : Program) (L : Lp) (ss : List Sd) (bx : List Bx) (tk : List Tk) (Rr : Option Code → List Bx → List Tk → Prop) : Prop :=
  ∀ r Rd w vals, Glo Rd w → MemOk Rd bx tk w → LpOk L r Rd w → RepL Rd w ss vals →
    ∃ tmps, (Instr.yield L.l vals.toArray).run P w = .ok (.round L.l r.fn tmps r.assign r.body) w ∧
      RoundIn (fen none) 0 P L.l r.fn tmps r.assign r.body w (fun e w' => ∃ j, e = .returned (.bool j.isNone) ∧ RQ L.l r bx tk Rd w Rr j w')
def ConL (P : Program) (f : FuncId) (ss : List Sd) (bx : List Bx) (tk : List Tk) (L : Lp) (Rr : Option Code → List Bx → List Tk → Prop) : Prop :=
  ∀ r Rd w vals, Glo Rd w → MemOk Rd bx tk w → LpOk L r Rd w → RepL Rd w ss vals →
    Calls P f vals.toArray w (fun e w' => ∃ v j, e = .returned v ∧ RQ L.l r bx tk Rd w Rr j w')
-- ---- a round
def pslots : List Nat → List Sd → List (Nat × Sd) → List (Nat × Sd)
  | p :: ps, s :: ss, t => pslots ps ss ((p, s) :: t)
  | _, _, t => t
theorem pslots_ok {R : Nat → Nat → Prop} {w : World} {n : Nat} : ∀ (ps : List Nat) (ss : List Sd) (vals : List Value) (t : List (Nat × Sd)) (tmps : Array Value), ps.all (Nat.blt · n) = true → ps.length = ss.length → RepL R w ss vals → tmps.size = n →
    (∀ d s, look t d = some s → ∃ v, tmps[d]? = some v ∧ RepS R w s v) →
    ((ps.zip vals).foldl (fun tmps (t, a) => tmps.setIfInBounds t a) tmps).size = n ∧ ∀ d s, look (pslots ps ss t) d = some s → ∃ v, ((ps.zip vals).foldl (fun tmps (t, a) => tmps.setIfInBounds t a) tmps)[d]? = some v ∧ RepS R w s v
  | [], ss, vals, t, tmps, _, _, _, hsz, ht => ⟨hsz, ht⟩
  | p :: ps, [], _, _, _, _, hl, _, _, _ => by cases hl
  | p :: ps, s :: ss, _, t, tmps, hp, hl, ⟨u, r, e, h1, h2⟩, hsz, ht => by
    subst e
    rw [List.all_cons, Bool.and_eq_true] at hp
    rw [List.zip_cons_cons, List.foldl_cons]
    have hpn : p < n := by simpa [Nat.blt_eq] using hp.1
    refine pslots_ok ps ss r ((p, s) :: t) (tmps.setIfInBounds p u) hp.2 (by simpa using hl) h2 (by simpa using hsz) fun d s' hs => ?_
    simp only [look] at hs
    by_cases hde : p = d
    · subst hde
      rw [Nat.beq_refl] at hs
      injection hs with hs
      subst hs
      exact ⟨u, by simp [hsz, hpn], h1⟩
    · rw [show Nat.beq p d = false by cases hq : Nat.beq p d with | false => rfl | true => exact absurd (Nat.eq_of_beq_eq_true hq) hde] at hs
      obtain ⟨v, h3, h4⟩ := ht d s' hs
      exact ⟨v, by rw [Array.getElem?_setIfInBounds_ne hde]; exact h3, h4⟩
structure GRnd (g : Gh) (bx : List Bx) (tk : List Tk) (L : Lp) (r : Loop) : Prop where
  d : g.D = dom bx tk
  ds : g.ds = []
  rd : g.rd = some L.l
  lp : LpOk L r g.R g.w
  nd : ¬ g.D L.l
def busy (r : Loop) : Obj := .loop { r with state := .busy }
theorem GRnd.tn {g : Gh} {bx : List Bx} {tk : List Tk} {L : Lp} {r : Loop} (h : GRnd g bx tk L r) : Tn g L.l (busy r) := ⟨⟨_, h.lp.at_, rfl⟩, rfl⟩
def jmpOf : Exit → Option (Option Code)
  | .normal => some none
  | .ret => some (some .ret)
  | .exit i => some (some (.exit i))
  | _ => none
/-- What a round's body must achieve. -/
def postY (bx : List Bx) (tk : List Tk) (Rr : Option Code → List Bx → List Tk → Prop) (R0 : Nat → Nat → Prop) (w0 : World) : Exit → Act → World → Prop := fun e _ w =>
  ∃ j, jmpOf e = some j ∧ ∃ bx' tk' R', Rr j bx' tk' ∧ MemOk R' bx' tk' w ∧ Mv (dom bx tk) R0 w0 R' w ∧ ∀ b, dom bx' tk' b → dom bx tk b ∨ w0.heap.size ≤ b
def Begin (P : Program) (l : Nat) (K : Act → World → Prop) : Act → World → Prop := fun a w => ∃ w2, (Instr.beginRound l).run P w = .ok () w2 ∧ K a w2
def Never : Exit → Act → World → Prop := fun _ _ _ => False
section
variable {P : Program} {Q : Exit → Act → World → Prop} {g : Gh} {n : Nat} {σ : St}
theorem xbegin {bx : List Bx} {tk : List Tk} {L : Lp} {r : Loop} {c : Code} {Q0 : Exit → Act → World → Prop} (hg : GRnd g bx tk L r) (h : HC P Q0 (g.turn L.l (busy r) hg.tn) n σ c) : HE (Exit.then (Begin P L.l (cwp g.rd P c Q0)) Q) g n σ .normal := by
  refine ⟨?_⟩
  rintro a w ⟨R, hr⟩
  have h1 := hr.still hg.lp.at_ hg.nd
  exact ⟨_, run_beginRound h1 hg.lp.st, h.h _ _ ⟨R, hr.turn hg.tn h1 rfl⟩⟩
theorem xyret {bx bx' : List Bx} {tk tk' : List Tk} {L : Lp} {r : Loop} {Rr : Option Code → List Bx → List Tk → Prop} {e : Exit} {j : Option Code} (hg : GRnd g bx tk L r) (hj : jmpOf e = some j) (hm : SubM σ.bx σ.tk bx' tk') (hR : Rr j bx' tk') :
    HE (postY bx tk Rr g.R (g.w.putObj L.l (busy r))) (g.turn L.l (busy r) hg.tn) n σ e := by
  refine ⟨?_⟩
  rintro a w ⟨R, hr⟩
  refine ⟨j, hj, bx', tk', R, hR, hm.mem R w hr.mem, ?_, fun b hb => ?_⟩
  · rw [← hg.d]; exact hr.mv
  · rw [← hg.d]; exact hr.dm b (hm.dm b hb)
theorem xround {l : Nat} {t : List (Nat × Sd)} {psl : List Nat} {ac bc : Code} {ss : List Sd} {bx : List Bx} {tk : List Tk} {Rr : Option Code → List Bx → List Tk → Prop} (hps : psl.length = ss.length) (hn : psl.all (Nat.blt · n) = true)
    (h : ∀ (g : Gh) (r : Loop) (hg : GRnd g bx tk ⟨l, n, t, psl.toArray, ac, bc⟩ r), HC P (Exit.then (Begin P l (cwp g.rd P bc (postY bx tk Rr g.R (g.w.putObj l (busy r))))) Never) g n ⟨pslots psl ss t, bx, tk⟩ ac) : YCon P ⟨l, n, t, psl.toArray, ac, bc⟩ ss bx tk Rr := by
  intro r Rd w vals hgl hm hlp hv
  have hlen := hv.length
  have hnd := hm.not_dom hlp.at_ rfl
  refine ⟨_, run_yield hlp.at_ (by rw [hlp.ps]; simp [hlen, hps]), ?_⟩
  have hg : GRnd ⟨w, Rd, dom bx tk, hgl, [], some l⟩ bx tk ⟨l, n, t, psl.toArray, ac, bc⟩ r := ⟨rfl, rfl, rfl, hlp, hnd⟩
  obtain ⟨q1, q2⟩ := pslots_ok psl ss vals t r.tmps hn hps hv hlp.sz hlp.tm
  have e1 : (r.params.zip vals.toArray).foldl (fun tmps (t, a) => tmps.setIfInBounds t a) r.tmps = (psl.zip vals).foldl (fun tmps (t, a) => tmps.setIfInBounds t a) r.tmps := by
    rw [hlp.ps, ← Array.foldl_toList]; simp
  rw [e1, hlp.ac, hlp.bc]
  have hb := (h _ r hg).h ⟨_, []⟩ w ⟨Rd, ⟨hm, .refl _ _ _, fun b hb => .inl hb, rfl, q1, q2⟩⟩
  refine roundIn_of_wpIn (F := fen none) trivial (wpIn_mono hb fun e a w' he => ?_)
  cases e with
  | normal =>
    obtain ⟨w2, k1, k2⟩ := he
    refine ⟨w2, k1, wpIn_mono k2 fun e a w3 he => ?_⟩
    obtain ⟨j, hj, bx', tk', R', c1, c2, c3, c4⟩ := he
    have hl3 : w3.heap[l]? = some (busy r) := (c3.block l (by rw [World.putObj_size]; exact (Array.getElem?_eq_some_iff.1 hlp.at_).1) hnd).trans (World.putObj_heap_same (Array.getElem?_eq_some_iff.1 hlp.at_).1)
    have c3' : Mv (dom bx tk) Rd w R' (w3.putObj l (.loop r)) := by
      have := c3.putObj (y := .loop r) (World.putObj_heap_same (Array.getElem?_eq_some_iff.1 hlp.at_).1) rfl hl3 rfl rfl
      rwa [putObj_putObj, putObj_id hlp.at_] at this
    have c4' : ∀ b, dom bx' tk' b → dom bx tk b ∨ w.heap.size ≤ b := fun b hb => by simpa using c4 b hb
    have e0 : (Obj.loop { state := LoopState.ready, pending := none, fn := r.fn, tmps := r.tmps, params := r.params, assign := r.assign, body := r.body, defers := r.defers } : Obj) = .loop r := by
      have h1 := hlp.st; have h2 := hlp.pe
      cases r; simp at h1 h2; subst h1; subst h2; rfl
    cases e with
    | normal =>
      injection hj with hj
      subst hj
      refine ⟨_, _, run_endRound none hl3, none, rfl, w3.putObj l (.loop r), bx', tk', R', c1, c2.putObj hl3 rfl rfl, c3', c4', ?_⟩
      simp only [Option.isNone_none, if_true, after]
      rw [e0]
    | ret =>
      injection hj with hj
      subst hj
      refine ⟨_, _, run_endRound (some .ret) hl3, some .ret, rfl, w3.putObj l (.loop r), bx', tk', R', c1, c2.putObj hl3 rfl rfl, c3', c4', ?_⟩
      simp only [after, putObj_putObj]
      rfl
    | exit i =>
      injection hj with hj
      subst hj
      refine ⟨_, _, run_endRound (some (.exit i)) hl3, some (.exit i), rfl, w3.putObj l (.loop r), bx', tk', R', c1, c2.putObj hl3 rfl rfl, c3', c4', ?_⟩
      simp only [after, putObj_putObj]
      rfl
    | _ => cases hj
  | _ => exact he
end
-- ---- the function that is ranged over
section
variable {P : Program} {Q : Exit → Act → World → Prop} {g : Gh} {n : Nat} {σ : St}
structure GLp (g : Gh) (L : Lp) (r : Loop) : Prop where
  lp : LpOk L r g.R g.w
  nd : ¬ g.D L.l
theorem GLp.tn {L : Lp} {r : Loop} {c : Code} (h : GLp g L r) : Tn g L.l (stop r c) := ⟨⟨_, h.lp.at_, rfl⟩, rfl⟩
def RL (L : Lp) (r : Loop) (bx : List Bx) (tk : List Tk) (R0 : Nat → Nat → Prop) (w0 : World) (Rr : Option Code → List Bx → List Tk → Prop) : Ending → World → Prop := fun e w' => ∃ v j, e = .returned v ∧ RQ L.l r bx tk R0 w0 Rr j w'
theorem xenterL {f : FuncId} {fn : Func} {c : Code} {ss : List Sd} {bx : List Bx} {tk : List Tk} {L : Lp} {Rr : Option Code → List Bx → List Tk → Prop} (hf : P.funcs[f]? = some fn) (hb : fn.body = some c) (hn : Nat.ble ss.length fn.ntmps = true)
    (h : ∀ (g : Gh) (r : Loop), GOk g bx tk → GLp g L r → HC P (bodyPost P fn (RL L r bx tk g.R g.w Rr)) g fn.ntmps ⟨slots 0 ss, bx, tk⟩ c) : ConL P f ss bx tk L Rr := by
  intro r Rd w vals hgl hm hlp hv
  have hl := hv.length
  have hn := Nat.le_of_ble_eq_true hn
  refine calls_of_wp hf hb (wpIn_wide (n := 0) |>.1 <| (h ⟨w, Rd, dom bx tk, hgl, [], none⟩ r ⟨rfl, rfl, rfl⟩ ⟨hlp, hm.not_dom hlp.at_ rfl⟩).h _ _ ⟨Rd, ⟨hm, .refl _ _ _, fun b hb => .inl hb, rfl, by simp; omega, fun d s hs => ?_⟩⟩)
  obtain ⟨_, h2⟩ := slots_look 0 ss d s hs
  obtain ⟨u, h3, h4⟩ := hv.at_ h2
  refine ⟨u, ?_, h4⟩
  have hd : d < vals.length := (List.getElem?_eq_some_iff.1 h3).1
  rw [Array.getElem?_append_left (by simpa using hd)]
  simpa using h3
/-- It returns, and no round has left the loop. -/
theorem xretLn {fn : Func} {bx : List Bx} {tk : List Tk} {L : Lp} {r : Loop} {Rr : Option Code → List Bx → List Tk → Prop} {e : Exit} (he : e = .ret ∨ e = .normal) (h : HE (bodyPost P fn (RP bx tk g.R g.w (fun _ bx tk => Rr none bx tk))) g n σ e) : HE (bodyPost P fn (RL L r bx tk g.R g.w Rr)) g n σ e := by
  refine ⟨?_⟩
  intro a w hr
  have h1 := h.h a w hr
  rcases he with rfl | rfl
  all_goals
    obtain ⟨k1, v, k2, v', rr, bx', tk', R', e1, c1, c2, _, c3, c4⟩ := h1
    injection e1 with e1
    subst e1
    exact ⟨k1, _, k2, _, none, rfl, w, bx', tk', R', c1, c2, c3, c4, rfl⟩
end
section
variable {P : Program} {ops : Array Oper} {Q : Exit → Act → World → Prop} {g : Gh} {n : Nat} {t : List (Nat × Sd)} {bx : List Bx} {tk : List Tk} {rest : List Oper} {ty : TypeId} {ps : String} {af : Array Edge} {gd : Option (Nat × Bool)}
/-- A call of yield: a round goes on, or leaves the loop. -/
theorem xyield {d : Nat} {x : Operand} {args : Array Operand} {ats : Array TypeId} {ss : List Sd} {bx0 Fb : List Bx} {tk0 Ft : List Tk} {L : Lp} {r : Loop} {Rr : Option Code → List Bx → List Tk → Prop} (c : YCon P L ss bx0 tk0 Rr) (hL : GLp g L r)
    (hx : ev t x = some (.v (.func (.yield L.l) #[] #[]))) (hargs : EvL t args.toList ss) (hm : SubM bx tk (bx0 ++ Fb) (tk0 ++ Ft)) (hwt : want ops t gd = some true) (hd : Nat.blt d n = true)
    (h : ∀ j bx' tk', Rr j bx' tk' → (j = none → HL P ops Q g n ⟨(d, .v (.bool true)) :: t, bx' ++ Fb, tk' ++ Ft⟩ rest) ∧ (∀ c, j = some c → HL P ops Q (g.turn L.l (stop r c) hL.tn) n ⟨(d, .v (.bool false)) :: t, bx' ++ Fb, tk' ++ Ft⟩ rest)) :
    HL P ops Q g n ⟨t, bx, tk⟩ (⟨some d, .call ⟨.value x, args, ats⟩, ty, ps, af, gd⟩ :: rest) := by
  refine ⟨?_⟩
  rintro a w ⟨R, hr⟩
  unfold lwp wpListIn
  rw [if_pos (hr.want_ (o := ⟨some d, .call ⟨.value x, args, ats⟩, ty, ps, af, gd⟩) hwt)]
  have hr1 := hr.imp (σ' := ⟨t, bx0 ++ Fb, tk0 ++ Ft⟩) ⟨ImpT.refl _, hm⟩
  have e1 : a.eval x = _ := hr.ev hx
  obtain ⟨ss', h1, h2⟩ := hargs.out
  have hv : RepL R w ss (args.toList.map a.eval) := h2.rep (hr.evs h1)
  have hmem := (SubM.of_sub (List.sublist_append_left bx0 Fb) (List.sublist_append_left tk0 Ft)).mem R w hr1.mem
  have hlw := hr.still hL.lp.at_ hL.nd
  obtain ⟨tmps, q1, q2⟩ := c r R w _ (g.gl.keep hr.mv.keep) hmem (hL.lp.keep hr.mv.keep hlw) hv
  have harr : (args.toList.map a.eval).toArray = args.map a.eval := by apply Array.ext'; simp
  rw [harr] at q1
  refine ⟨fun _ _ => trivial, ?_⟩
  rw [show (fen g.rd).round = g.rd from rfl, Oper.semAt_eq _ _ _ (fun c e => by cases e)]
  unfold execOp
  simp only [resolve, e1, Deferred.ofValue, invoke, Sem.run_bind, Sem.run_pure, Result.andThen_ok, Array.empty_append, q1, Oper.uponIn_round]
  refine ⟨fun h => (by cases h), q2.1, fun cf cs hroom => ?_⟩
  obtain ⟨e, w', ⟨j, rfl, w1, bx', tk', R', c1, c2, c3, c4, c5⟩, s⟩ := q2.2 cf cs (fen_room _)
  refine ⟨.returned (.bool j.isNone), w', ?_, s⟩
  obtain ⟨p1, p2⟩ := hr1.mem.frame c2 c3 c4
  have hdl := (perm_dom bx0 Fb tk0 Ft)
  have hr2 := hr1.move p1 c3 (fun b hb => .inl (hdl b hb)) p2
  obtain ⟨k1, k2⟩ := h j bx' tk' c1
  cases j with
  | none =>
    rw [show w' = w1 from c5]
    exact (k1 rfl).h _ _ ⟨R', hr2.put (by simpa [Nat.blt_eq] using hd) rfl⟩
  | some cj =>
    rw [show w' = w1.putObj L.l (stop r cj) from c5]
    have hr3 := hr2.turn (hL.tn (c := cj)) (hr2.still hL.lp.at_ hL.nd) rfl
    exact (k2 cj rfl).h _ _ ⟨R', hr3.put (by simpa [Nat.blt_eq] using hd) rfl⟩
end
-- ---- the statement
section
variable {P : Program} {Q : Exit → Act → World → Prop} {g : Gh} {n : Nat} {σ : St}
theorem xthenR {rd : Option Nat} {c : Code} {Q0 : Exit → Act → World → Prop} (e : g.rd = rd) (h : HC P Q0 g n σ c) : HE (Exit.then (cwp rd P c Q0) Q) g n σ .normal := by
  subst e
  exact ⟨h.h⟩
abbrev Gh.based (g : Gh) (w : World) (R : Nat → Nat → Prop) (D : Nat → Prop) (gl : Glo R w) (ds : List Deferred) : Gh := ⟨w, R, D, gl, ds, g.rd⟩
/-- Behind a loop over a function: a block for its rounds' deferred calls is left. -/
structure Marked (g g' : Gh) (D : Nat) : Prop where
  ds : g'.ds = [{ target := .collected D, args := #[] }]
  at_ : g'.w.heap[D]? = some (.deferred (some []))
  lt : g.w.heap.size ≤ D
  nd : ¬ g'.D D
  mv : Mv g.D g.R g.w g'.R g'.w
  dm : ∀ b, g'.D b → g.D b ∨ g.w.heap.size ≤ b
theorem MemOk.alloc {R : Nat → Nat → Prop} {bx : List Bx} {tk : List Tk} {w : World} (h : MemOk R bx tk w) (o : Obj) : MemOk R bx tk (w.alloc o) := by
  have hk : ∀ (b : Nat) (x : Obj), w.heap[b]? = some x → (w.alloc o).heap[b]? = some x := fun b x e => (Below.heap_alloc w o b (Array.getElem?_eq_some_iff.1 e).1).trans e
  have kp : Kp R w R (w.alloc o) := fun b o' hb => ⟨hb, World.cell?_alloc_past _ _ _ (h.lt b o' hb)⟩
  refine ⟨fun b o' hr => by have := h.lt b o' hr; simp; omega, fun z hz hne => ?_, fun t ht b c e => ?_, h.nod⟩
  · obtain ⟨⟨us, k1, k2, k3⟩, k4⟩ := h.box z hz hne
    exact ⟨⟨us, hk _ _ k1, k2.mono kp, k3⟩, k4⟩
  · obtain ⟨⟨us, k1, k2⟩, k3⟩ := h.own t ht b c e
    exact ⟨⟨us, hk _ _ k1, k2⟩, k3⟩
theorem Mv.alloc {R : Nat → Nat → Prop} {w : World} (hlt : ∀ b o, R b o → b < w.heap.size) (D : Nat → Prop) (o : Obj) : Mv D R w R (w.alloc o) :=
  ⟨rfl, rfl, rfl, by simp, fun k hk _ => Below.heap_alloc w o k hk, fun b o' hb => ⟨hb, World.cell?_alloc_past _ _ _ (hlt b o' hb)⟩, fun b o' hb => .inl hb⟩
theorem Rl.alloc {R : Nat → Nat → Prop} {a : Act} {w : World} (hr : Rl R g n σ a w) (o : Obj) : Rl R g n σ a (w.alloc o) := {
  mem := hr.mem.alloc o
  mv := hr.mv.trans (Mv.alloc hr.mem.lt (fun _ => False) o) fun _ hb => hb.elim
  dm := hr.dm
  df := hr.df
  sz := hr.sz
  tm d s hs := by
    obtain ⟨v, h1, h2⟩ := hr.tm d s hs
    exact ⟨v, h1, h2.mono fun b o' hb => ⟨hb, World.cell?_alloc_past _ _ _ (hr.mem.lt b o' hb)⟩⟩ }
theorem Mv.put_new {D : Nat → Prop} {R R' : Nat → Nat → Prop} {w w' : World} (h : Mv D R w R' w') {l : Nat} {x y : Obj} (hl : w'.heap[l]? = some x) (hx : nocells x = true) (hy : nocells y = true) (hn : w.heap.size ≤ l) : Mv D R w R' (w'.putObj l y) := {
  os := h.os
  tape := h.tape
  output := h.output
  size := by rw [World.putObj_size]; exact h.size
  block k hk hd := by rw [World.putObj_heap_other (by omega)]; exact h.block k hk hd
  keep b o hr := ⟨(h.keep b o hr).1, by rw [cell_putObj hl hx hy]; exact (h.keep b o hr).2⟩
  new := h.new }
theorem xrange {gop : Operand} {ps : Array Tmp} {ac bc : Code} {f : FuncId} {fn : Func} {caps : Array Value} {bx0 Fb : List Bx} {tk0 Ft : List Tk} {Rr : Option Code → List Bx → List Tk → Prop} (Yc : Lp → Prop) (hrd : g.rd = none) (hds : g.ds = [])
    (c : ∀ L, Yc L → ConL P f (.v (.func (.yield L.l) #[] #[]) :: caps.toList.map .v) bx0 tk0 L Rr)
    (hf : P.funcs[f]? = some fn) (hnm : (fn.name == "runtime.NumGoroutine") = false) (hbd : fn.body.isSome = true) (hx : ev σ.t gop = some (.v (.func (.func f) #[] caps)))
    (hm : SubM σ.bx σ.tk (bx0 ++ Fb) (tk0 ++ Ft)) (hY : ∀ l, Yc ⟨l, n, σ.t, ps, ac, bc⟩)
    (h : ∀ j bx' tk' w1 R1 D1 gl1 ds1 D, Rr j bx' tk' → Marked g (g.based w1 R1 D1 gl1 ds1) D → (j = none → HE Q (g.based w1 R1 D1 gl1 ds1) n ⟨σ.t, bx' ++ Fb, tk' ++ Ft⟩ .normal) ∧ (∀ c, j = some c → HC P Q (g.based w1 R1 D1 gl1 ds1) n ⟨σ.t, bx' ++ Fb, tk' ++ Ft⟩ c)) :
    HC P Q g n σ (.rangeFunc gop ps ac bc) := by
  refine ⟨?_⟩
  rintro a w ⟨R, hr⟩
  have hr1 := hr.imp (σ' := ⟨σ.t, bx0 ++ Fb, tk0 ++ Ft⟩) ⟨ImpT.refl _, hm⟩
  have e1 : a.eval gop = _ := hr.ev hx
  show (Code.rangeFunc gop ps ac bc).wpIn (fen g.rd) 0 P Q a w
  rw [hrd]
  refine wpIn_rangeFunc fun fn0 _ => ?_
  let r : Loop := { state := .ready, pending := none, fn := fn0, tmps := a.tmps, params := ps, assign := ac, body := bc, defers := w.heap.size }
  have hrA := (hr1.alloc (.deferred (some []))).alloc (.loop r)
  have hl1 : ((w.alloc (.deferred (some []))).alloc (.loop r)).heap[w.heap.size + 1]? = some (.loop r) := by
    have := World.alloc_heap_new (w.alloc (.deferred (some []))) (.loop r)
    simpa using this
  have hD1 : ((w.alloc (.deferred (some []))).alloc (.loop r)).heap[w.heap.size]? = some (.deferred (some [])) :=
    (Below.heap_alloc _ _ _ (by simp)).trans (World.alloc_heap_new w _)
  have hlp : LpOk ⟨w.heap.size + 1, n, σ.t, ps, ac, bc⟩ r R ((w.alloc (.deferred (some []))).alloc (.loop r)) := ⟨hl1, rfl, rfl, rfl, rfl, rfl, hr.sz, hrA.tm⟩
  have hmem := (SubM.of_sub (List.sublist_append_left bx0 Fb) (List.sublist_append_left tk0 Ft)).mem R _ hrA.mem
  have hc := c _ (hY (w.heap.size + 1)) r R _ (.func (.yield (w.heap.size + 1)) #[] #[] :: caps.toList) (g.gl.keep hrA.mv.keep) hmem hlp ⟨_, _, rfl, rfl, repL_vals R _ caps.toList⟩
  refine ⟨w.heap.size + 1, _, (w.alloc (.deferred (some []))).alloc (.loop r), ⟨.fn (.func f) caps, #[.func (.yield (w.heap.size + 1)) #[] #[]]⟩, (w.alloc (.deferred (some []))).alloc (.loop r), f, #[.func (.yield (w.heap.size + 1)) #[] #[]] ++ caps, (w.alloc (.deferred (some []))).alloc (.loop r), run_enterLoop_outer _ _ _ _ _, ?_, fun _ _ => trivial, ?_, fun h => (by cases h), ?_⟩
  · have e2 : a.eval (.const (.func (.yield (w.heap.size + 1)) #[] #[])) = .func (.yield (w.heap.size + 1)) #[] #[] := rfl
    simp only [rangeCall, resolve, e1, Deferred.ofValue, Sem.run_bind, Sem.run_pure, Result.andThen_ok, List.map_toArray, List.map_cons, List.map_nil, e2, Array.empty_append]
  · have hrun := run_call hf hnm hbd (#[.func (.yield (w.heap.size + 1)) #[] #[]] ++ caps)
    simpa [invoke] using hrun _
  refine fen_calls.2 ?_
  have harr : (Value.func (.yield (w.heap.size + 1)) #[] #[] :: caps.toList).toArray = #[.func (.yield (w.heap.size + 1)) #[] #[]] ++ caps := by apply Array.ext'; simp
  rw [harr] at hc
  refine hc.mono ?_
  rintro e w3 ⟨v, j, rfl, w1, bx', tk', R', c1, c2, c3, c4, c5⟩
  obtain ⟨p1, p2⟩ := hrA.mem.frame c2 c3 c4
  have hdl := (perm_dom bx0 Fb tk0 Ft)
  have hr2 := hrA.move p1 c3 (fun b hb => .inl (hdl b hb)) p2
  have hgs : g.w.heap.size ≤ w.heap.size := hr.mv.size
  have hl2 : w1.heap[w.heap.size + 1]? = some (.loop r) := (c3.block _ (by simp) (hmem.not_dom hl1 rfl)).trans hl1
  have hD2 : w1.heap[w.heap.size]? = some (.deferred (some [])) := (c3.block _ (by simp; omega) (hmem.not_dom hD1 rfl)).trans hD1
  have hend : ∃ r3 : Loop, w3.heap[w.heap.size + 1]? = some (.loop r3) ∧ r3.state ≠ .busy ∧ r3.pending = j ∧ w3.putObj (w.heap.size + 1) (.loop { r3 with state := .exhausted }) = w1.putObj (w.heap.size + 1) (.loop { r3 with state := .exhausted }) := by
    cases j with
    | none => rw [show w3 = w1 from c5]; exact ⟨r, hl2, by simp [r], rfl, rfl⟩
    | some cj =>
      rw [show w3 = w1.putObj (w.heap.size + 1) (stop r cj) from c5]
      exact ⟨_, World.putObj_heap_same (Array.getElem?_eq_some_iff.1 hl2).1, by simp, rfl, putObj_putObj _ _ _ _⟩
  obtain ⟨r3, q1, q2, q3, q4⟩ := hend
  have hend2 := run_endLoop (P := P) q1 q2
  rw [q4, q3] at hend2
  obtain ⟨o4, ho4, hn4⟩ : ∃ o : Obj, o = .loop { r3 with state := .exhausted } ∧ nocells o = true := ⟨_, rfl, rfl⟩
  rw [show (Obj.loop { state := LoopState.exhausted, pending := j, fn := r3.fn, tmps := r3.tmps, params := r3.params, assign := r3.assign, body := r3.body, defers := r3.defers }) = o4 by rw [ho4, q3]] at hend2
  refine ⟨_, _, hend2, ?_⟩
  have hm4 := p1.putObj hl2 rfl hn4
  have hkp4 : Kp R' w1 R' (w1.putObj (w.heap.size + 1) o4) := kp_putObj hl2 rfl hn4
  have hgl4 : Glo R' (w1.putObj (w.heap.size + 1) o4) := (g.gl.keep hr2.mv.keep).keep hkp4
  have hdD : ∀ b, dom (bx' ++ Fb) (tk' ++ Ft) b → g.D b ∨ g.w.heap.size ≤ b := hr2.dm
  have hD4 : (w1.putObj (w.heap.size + 1) o4).heap[w.heap.size]? = some (.deferred (some [])) := by
    rw [World.putObj_heap_other (by omega)]; exact hD2
  have hM : Marked g (g.based (w1.putObj (w.heap.size + 1) o4) R' (dom (bx' ++ Fb) (tk' ++ Ft)) hgl4 ([{ target := .collected w.heap.size, args := #[] }] ++ g.ds)) w.heap.size :=
    ⟨by rw [hds]; rfl, hD4, hgs, p1.not_dom hD2 rfl, hr2.mv.put_new hl2 rfl hn4 (by omega), hdD⟩
  obtain ⟨k1, k2⟩ := h j bx' tk' _ _ _ _ _ _ c1 hM
  have hrel : Rel (g.based (w1.putObj (w.heap.size + 1) o4) R' (dom (bx' ++ Fb) (tk' ++ Ft)) hgl4 ([{ target := .collected w.heap.size, args := #[] }] ++ g.ds)) n ⟨σ.t, bx' ++ Fb, tk' ++ Ft⟩ { tmps := a.tmps, defers := [{ target := .collected w.heap.size, args := #[] }] ++ a.defers } (w1.putObj (w.heap.size + 1) o4) := by
    refine ⟨R', hm4, .refl _ _ _, fun b hb => .inl hb, congrArg _ hr.df, hr.sz, fun d s hs => ?_⟩
    obtain ⟨v, h3, h4⟩ := hr2.tm d s hs
    exact ⟨v, h3, h4.mono hkp4⟩
  cases j with
  | none => exact (k1 rfl).h _ _ hrel
  | some cj =>
    have := (k2 cj rfl).h _ _ hrel
    have hrd' : ∀ W R D gl ds, (g.based W R D gl ds).rd = none := fun _ _ _ _ _ => hrd
    rw [hrd'] at this
    exact this
-- ---- the function that holds the statement
def postM (P : Program) (fn : Func) (R : Ending → World → Prop) : Exit → Act → World → Prop := bodyPostM (fen none) 0 P fn R
theorem xenterM {f : FuncId} {fn : Func} {c : Code} {ss : List Sd} {bx : List Bx} {tk : List Tk} {R : Sd → List Bx → List Tk → Prop} (hf : P.funcs[f]? = some fn) (hb : fn.body = some c) (hn : Nat.ble ss.length fn.ntmps = true)
    (h : ∀ g : Gh, GOk g bx tk → HC P (postM P fn (RP bx tk g.R g.w R)) g fn.ntmps ⟨slots 0 ss, bx, tk⟩ c) : Con P f ss bx tk R := by
  intro Rd w vals hgl hm hv
  have hl := hv.length
  have hn := Nat.le_of_ble_eq_true hn
  refine fen_calls.1 (callsIn_of_wp_marks (F := fen none) (n := 0) hf hb trivial ((h ⟨w, Rd, dom bx tk, hgl, [], none⟩ ⟨rfl, rfl, rfl⟩).h _ _ ⟨Rd, ⟨hm, .refl _ _ _, fun b hb => .inl hb, rfl, by simp; omega, fun d s hs => ?_⟩⟩))
  obtain ⟨_, h2⟩ := slots_look 0 ss d s hs
  obtain ⟨u, h3, h4⟩ := hv.at_ h2
  refine ⟨u, ?_, h4⟩
  have hd : d < vals.length := (List.getElem?_eq_some_iff.1 h3).1
  rw [Array.getElem?_append_left (by simpa using hd)]
  simpa using h3
theorem xretMk {g' : Gh} {D : Nat} {fn : Func} {bx : List Bx} {tk : List Tk} {R : Sd → List Bx → List Tk → Prop} (hg : GOk g bx tk) (hM : Marked g g' D) (h : HE (bodyPost P fn (RP bx tk g.R g.w R)) g n σ .ret) : HE (postM P fn (RP bx tk g.R g.w R)) g' n σ .ret := by
  refine ⟨?_⟩
  rintro a w ⟨Rd, hr⟩
  have hD := hr.still hM.at_ hM.nd
  show LeavesInM _ _ P fn a.tmps _ a.defers .returning w
  rw [hr.df, hM.ds]
  refine ⟨by simp, .inl ⟨D, _, rfl, run_takeDeferred hD, ?_⟩⟩
  have hrel : Rl Rd g n σ ⟨a.tmps, []⟩ (w.putObj D (.deferred none)) := by
    refine ⟨hr.mem.putObj hD rfl rfl, (hM.mv.trans hr.mv hM.dm).put_new hD rfl rfl hM.lt, fun b hb => ?_, hg.ds.symm, hr.sz, fun d s hs => ?_⟩
    · rcases hr.dm b hb with k | k
      · exact hM.dm b k
      · exact .inr (Nat.le_trans hM.mv.size k)
    · obtain ⟨v, h3, h4⟩ := hr.tm d s hs
      exact ⟨v, h3, h4.mono (kp_putObj hD rfl rfl)⟩
  exact (h.h _ _ ⟨Rd, hrel⟩).2
end
section
variable {P : Program} {g : Gh} {n : Nat} {σ : St} {d : Option Nat} {ty : TypeId} {ps : String} {af : Array Edge} {gd : Option (Nat × Bool)}
end
end Go.Proofs.Ytncnfohhjbadgaa
