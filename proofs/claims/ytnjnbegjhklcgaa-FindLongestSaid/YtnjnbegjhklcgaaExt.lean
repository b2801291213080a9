
/- The library's functions without a body: the first place of a byte. -/
import Derived.Test.YtnjnbegjhklcgaaEq
import Derived.Lib.BytesEntry
namespace Go.Proofs.Ytnjnbegjhklcgaa
section
variable {P : Program} {ops : Array Oper} {Q : Exit → Act → World → Prop} {g : Gh} {n : Nat} {σ : St} {t : List (Nat × Sd)} {bx : List Bx} {tk : List Tk} {rest : List Oper} {d : Option Nat} {ty : TypeId} {ps : String} {af : Array Edge} {gd : Option (Nat × Bool)}
end
section
variable {P : Program} {ops : Array Oper} {Q : Exit → Act → World → Prop} {g : Gh} {n : Nat} {t : List (Nat × Sd)} {bx : List Bx} {tk : List Tk} {ty : TypeId} {ps : String} {af : Array Edge} {gd : Option (Nat × Bool)} {fuel : Nat} {listed : Array Bool}
end
section
variable {P : Program} {g : Gh} {n : Nat} {σ : St} {d : Option Nat} {ty : TypeId} {ps : String} {af : Array Edge} {gd : Option (Nat × Bool)}
theorem pv_min {x y : Operand} {ats : Array TypeId} {a b : Int} (hx : ev σ.t x = some (.v (.int .i64 a))) (hy : ev σ.t y = some (.v (.int .i64 b))) : Val P g n σ ⟨d, .call ⟨.builtin .min, #[x, y], ats⟩, ty, ps, af, gd⟩ (.v (.int .i64 (if b < a then b else a))) := by
  refine ⟨fun R ac w hr => ?_⟩
  have h1 : ac.eval x = _ := hr.ev hx
  have h2 : ac.eval y = _ := hr.ev hy
  refine ⟨_, rfl, fun W => ?_⟩
  simp [execOp, resolve, invoke, builtin, Builtin.min_, Builtin.min2, h1, h2]
end
section
variable {P : Program} {g : Gh} {n : Nat} {σ : St} {d : Option Nat} {ty : TypeId} {ps : String} {af : Array Edge} {gd : Option (Nat × Bool)}
end
section
variable {P : Program} {g : Gh} {n : Nat} {σ : St} {d : Option Nat} {ty : TypeId} {ps : String} {af : Array Edge} {gd : Option (Nat × Bool)}
end
section
variable {P : Program} {g : Gh} {n : Nat} {σ : St} {d : Option Nat} {ty : TypeId} {ps : String} {af : Array Edge} {gd : Option (Nat × Bool)}
end
end Go.Proofs.Ytnjnbegjhklcgaa
