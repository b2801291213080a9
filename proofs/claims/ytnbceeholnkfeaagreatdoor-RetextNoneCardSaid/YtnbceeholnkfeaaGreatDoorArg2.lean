/- Words as arguments. -/
import Derived.Test.YtnbceeholnkfeaaGreatDoorGen
namespace Go.Proofs.YtnbceeholnkfeaaGreatDoor
open Go.RowKit Go.WideShapes
instance:Rp UInt64:={
 size:=1
 rep _ _ cs x:=cs=[.int .u64 x.toNat]
 len:=by rintro _ _ _ _ rfl;rfl
 one:=by rintro _ _ _ _ rfl u hu;simp at hu;subst hu;rfl
 keep h _:=h
 sub h _:=h }
instance:bV UInt64:=⟨ew,fun _=>True,by rintro w cs x (rfl:cs=_);exact ⟨⟨_,[],rfl,rfl,rfl⟩,trivial⟩⟩
end Go.Proofs.YtnbceeholnkfeaaGreatDoor
