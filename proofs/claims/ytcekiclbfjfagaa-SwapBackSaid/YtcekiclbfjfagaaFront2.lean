/- More steps of a walk. -/
import Derived.Test.YtcekiclbfjfagaaFront
namespace Go.Proofs.Ytcekiclbfjfagaa
open Go.RowKit
theorem pv_bin3 {P : Program} {g : Gh} {n : Nat} {σ : St} {d : Option Nat} {ty : TypeId} {ps : String} {af : Array Edge} {gd : Option (Nat × Bool)} {op : BinOp} {t yt : TypeId} {x y : Operand} {u v r : Value} (r' : Value) (hx : ev σ.t x = some (.v u)) (hy : ev σ.t y = some (.v v)) (h : sbin op u v = some r) (hr : r = r') :
    Val P g n σ ⟨d, .binOp op t x y yt, ty, ps, af, gd⟩ (.v r') := hr ▸ pv_bin2 hx hy h
end Go.Proofs.Ytcekiclbfjfagaa
