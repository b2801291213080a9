
/- Loops over functions: the loop's rounds, the function that is ranged over, the statement. -/
import Derived.RangeFuncRecord
import Derived.Test.YtpddiffpanihdaaEv
namespace Go.Proofs.Ytpddiffpanihdaa
open Go.RowKit
/-- No row of cells. -/
def nocells (o : Obj) : Bool := match o with
  | .cells .. => false
  | _ => true
/-- The ghost with a block turned at the start. -/
structure Tn (g : Gh) (l : Nat) (o : Obj) : Prop where
  y : ∃ x, g.w.heap[l]? = some x ∧ nocells x = true
  o : nocells o = true
/-- A loop over a function, as its record keeps it. -/
structure Lp where
  l : Nat
  n : Nat
  t : List (Nat × Sd)
  ps : Array Tmp
  ac : Code
  bc : Code
structure LpOk (L : Lp) (r : Loop) (R : Nat → Nat → Prop) (w : World) : Prop where
  at_ : w.heap[L.l]? = some (.loop r)
  st : r.state = .ready
  pe : r.pending = none
  ps : r.params = L.ps
  ac : r.assign = L.ac
  bc : r.body = L.bc
  sz : r.tmps.size = L.n
  tm : ∀ d s, look L.t d = some s → ∃ v, r.tmps[d]? = some v ∧ RepS R w s v
structure GRnd (g : Gh) (bx : List Bx) (tk : List Tk) (L : Lp) (r : Loop) : Prop where
  d : g.D = dom bx tk
  ds : g.ds = []
  rd : g.rd = some L.l
  lp : LpOk L r g.R g.w
  nd : ¬ g.D L.l
section
variable {P : Program} {Q : Exit → Act → World → Prop} {g : Gh} {n : Nat} {σ : St}
end
-- ---- the function that is ranged over
section
variable {P : Program} {Q : Exit → Act → World → Prop} {g : Gh} {n : Nat} {σ : St}
structure GLp (g : Gh) (L : Lp) (r : Loop) : Prop where
  lp : LpOk L r g.R g.w
  nd : ¬ g.D L.l
end
section
variable {P : Program} {ops : Array Oper} {Q : Exit → Act → World → Prop} {g : Gh} {n : Nat} {t : List (Nat × Sd)} {bx : List Bx} {tk : List Tk} {rest : List Oper} {ty : TypeId} {ps : String} {af : Array Edge} {gd : Option (Nat × Bool)}
end
-- ---- the statement
section
variable {P : Program} {Q : Exit → Act → World → Prop} {g : Gh} {n : Nat} {σ : St}
/-- Behind a loop over a function: a block for its rounds' deferred calls is left. -/
structure Marked (g g' : Gh) (D : Nat) : Prop where
  ds : g'.ds = [{ target := .collected D, args := #[] }]
  at_ : g'.w.heap[D]? = some (.deferred (some []))
  lt : g.w.heap.size ≤ D
  nd : ¬ g'.D D
  mv : Mv g.D g.R g.w g'.R g'.w
  dm : ∀ b, g'.D b → g.D b ∨ g.w.heap.size ≤ b
end
section
variable {P : Program} {g : Gh} {n : Nat} {σ : St} {d : Option Nat} {ty : TypeId} {ps : String} {af : Array Edge} {gd : Option (Nat × Bool)}
end
end Go.Proofs.Ytpddiffpanihdaa
