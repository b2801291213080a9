/- A statement whose order is open, walked by hand: what is taken first, what the guard passes over. -/
import Derived.Deep.RegionHeld3
namespace Go.Proofs.Ytamlifoakcoikaa

section
variable {P : Program} {ops : Array Oper} {Q : Exit → Act → World → Prop} {md : Region.Mode} {S : World → Prop}
/-- An operation that yields in whatever order is taken first. -/
theorem rtake {i d : Nat} {oi : Oper} {v : Value} {fuel : Nat} {listed : Array Bool} {tmps : Array Value} {ds : List Deferred} {w : World} (hi : ops[i]? = some oi) (hd : oi.dst = some d)
    (hs : Region.noSelect ops = true) (hf : Region.free md ops listed i = true) (hr : (Region.ready md ops listed).contains i = true)
    (hq : ∀ c (a : Act) w, Q (.panic c) (a.put oi.dst v) w → Q (.panic c) a w)
    (hg : Region.wanted oi (yielded ops tmps) = true) (hy : ∀ w, S w → (execOp (Act.eval ⟨tmps, ds⟩) oi).run P w = .ok (.value v) w) (hS : S w)
    (h : wpAnyH P md ops Q S fuel (listed.setIfInBounds i true) ⟨tmps.setIfInBounds d v, ds⟩ w) : wpAnyH P md ops Q S (fuel + 1) listed ⟨tmps, ds⟩ w :=
  wpAnyH_take hi hs hf hr hq (Or.inl ⟨hg, hy⟩) hS (by rw [hd]; exact h)
/-- An operation that its guard passes over. -/
theorem rskip {i d : Nat} {oi : Oper} {fuel : Nat} {listed : Array Bool} {tmps : Array Value} {ds : List Deferred} {w : World} (hi : ops[i]? = some oi) (hd : oi.dst = some d)
    (hs : Region.noSelect ops = true) (hf : Region.free md ops listed i = true) (hr : (Region.ready md ops listed).contains i = true)
    (hq : ∀ c (a : Act) w, Q (.panic c) (a.put oi.dst undef) w → Q (.panic c) a w)
    (hg : Region.wanted oi (yielded ops tmps) = false) (hS : S w)
    (h : wpAnyH P md ops Q S fuel (listed.setIfInBounds i true) ⟨tmps.setIfInBounds d undef, ds⟩ w) : wpAnyH P md ops Q S (fuel + 1) listed ⟨tmps, ds⟩ w :=
  wpAnyH_take hi hs hf hr hq (Or.inr ⟨hg, rfl⟩) hS (by rw [hd]; exact h)
end
end Go.Proofs.Ytamlifoakcoikaa
