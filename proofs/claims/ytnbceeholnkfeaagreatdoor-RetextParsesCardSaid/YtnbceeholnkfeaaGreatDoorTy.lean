/- Facts of the types. -/
import Derived.Test.YtnbceeholnkfeaaGreatDoorProg
import Derived.Test.YtnbceeholnkfeaaGreatDoorFront
namespace Go.Proofs.YtnbceeholnkfeaaGreatDoor
instance CR : ah Tryz.prog 3 (.int .i64):=⟨Tryz.underlying3⟩
theorem zB : Inf Tryz.prog 3 1 8 [.int .i64 0]:=cQ (by kernel_rfl) rfl rfl
instance CS : aq Tryz.prog 3 1 8 [.int .i64 0]:=⟨zB⟩
theorem gO : Shp Tryz.prog 3 false 1:=dV Tryz.underlying3 zB rfl
instance CT : ae Tryz.prog 3 false 1:=⟨gO⟩
instance CU : ah Tryz.prog 4 (.bool):=⟨Tryz.underlying4⟩
theorem Bz : Inf Tryz.prog 4 1 1 [.bool false]:=cQ (by kernel_rfl) rfl rfl
theorem tR : Shp Tryz.prog 4 false 1:=dV Tryz.underlying4 Bz rfl
instance CV : ae Tryz.prog 4 false 1:=⟨tR⟩
instance CW : ah Tryz.prog 5 (.int .u8):=⟨Tryz.underlying5⟩
theorem zC : Inf Tryz.prog 5 1 1 [.int .u8 0]:=cQ (by kernel_rfl) rfl rfl
instance CX : aq Tryz.prog 5 1 1 [.int .u8 0]:=⟨zC⟩
theorem zD : Shp Tryz.prog 5 false 1:=dV Tryz.underlying5 zC rfl
instance CY : ae Tryz.prog 5 false 1:=⟨zD⟩
instance CZ : ah Tryz.prog 9 (.string):=⟨Tryz.underlying9⟩
theorem zE : Inf Tryz.prog 9 1 16 [.string ⟨#[]⟩]:=cQ (by kernel_rfl) rfl rfl
instance C0 : aq Tryz.prog 9 1 16 [.string ⟨#[]⟩]:=⟨zE⟩
theorem BA : Shp Tryz.prog 9 false 1:=dV Tryz.underlying9 zE rfl
instance C1 : ae Tryz.prog 9 false 1:=⟨BA⟩
instance C2 : ah Tryz.prog 22 (.slice 5):=⟨Tryz.underlying22⟩
theorem Aj : Inf Tryz.prog 22 1 24 [.slice none 0 0]:=cQ (by kernel_rfl) rfl rfl
theorem qz : Shp Tryz.prog 22 false 1:=dV Tryz.underlying22 Aj rfl
instance C3 : ae Tryz.prog 22 false 1:=⟨qz⟩
instance C4 : ah Tryz.prog 24 (.slice 43):=⟨Tryz.underlying24⟩
theorem Ak : Inf Tryz.prog 24 1 24 [.slice none 0 0]:=cQ (by kernel_rfl) rfl rfl
theorem qA : Shp Tryz.prog 24 false 1:=dV Tryz.underlying24 Ak rfl
instance C5 : ae Tryz.prog 24 false 1:=⟨qA⟩
theorem tS : Inf Tryz.prog 26 2 32 [.slice none 0 0,.int .i64 0]:=cQ (by kernel_rfl) rfl rfl
instance C6 : aq Tryz.prog 26 2 32 [.slice none 0 0,.int .i64 0]:=⟨tS⟩
theorem Al : Shp Tryz.prog 26 true 2:=dV Tryz.underlying26 tS rfl
instance C7 : ae Tryz.prog 26 true 2:=⟨Al⟩
instance C8 : bm Tryz.prog 26 0 0 false 1:=⟨⟨_,_,Tryz.underlying26,rfl,rfl,qA⟩⟩
instance C9 : bm Tryz.prog 26 1 1 false 1:=⟨⟨_,_,Tryz.underlying26,rfl,rfl,gO⟩⟩
instance Da : aM Tryz.prog 26 [(0,1),(1,1)] [.slice none 0 0,.int .i64 0]:=⟨jG Tryz.underlying26 tS fun W=>by kernel_rfl⟩
theorem Am : Inf Tryz.prog 27 1 8 [.int .i64 0]:=cQ (by kernel_rfl) rfl rfl
theorem tT : Shp Tryz.prog 27 false 1:=dV Tryz.underlying27 Am rfl
instance Db : ae Tryz.prog 27 false 1:=⟨tT⟩
instance BJ : ah Tryz.prog 39 (.int .u64):=⟨Tryz.underlying39⟩
theorem An : Inf Tryz.prog 39 1 8 [.int .u64 0]:=cQ (by kernel_rfl) rfl rfl
theorem Ao : Shp Tryz.prog 39 false 1:=dV Tryz.underlying39 An rfl
instance BK : ae Tryz.prog 39 false 1:=⟨Ao⟩
instance BL : ah Tryz.prog 41 (.array 4 39):=⟨Tryz.underlying41⟩
theorem wX : Inf Tryz.prog 41 4 32 [.int .u64 0,.int .u64 0,.int .u64 0,.int .u64 0]:=cQ (by kernel_rfl) rfl rfl
instance BM : aq Tryz.prog 41 4 32 [.int .u64 0,.int .u64 0,.int .u64 0,.int .u64 0]:=⟨wX⟩
theorem tU : Shp Tryz.prog 41 true 4:=dV Tryz.underlying41 wX rfl
instance BN : ae Tryz.prog 41 true 4:=⟨tU⟩
theorem tV : Inf Tryz.prog 43 10 80 [.int .i64 0,.int .i64 0,.int .i64 0,.int .i64 0,.int .i64 0,.int .i64 0,.int .u64 0,.int .u64 0,.int .u64 0,.int .u64 0]:=cQ (by kernel_rfl) rfl rfl
instance BO : aq Tryz.prog 43 10 80 [.int .i64 0,.int .i64 0,.int .i64 0,.int .i64 0,.int .i64 0,.int .i64 0,.int .u64 0,.int .u64 0,.int .u64 0,.int .u64 0]:=⟨tV⟩
theorem Ap : Shp Tryz.prog 43 true 10:=dV Tryz.underlying43 tV rfl
instance BP : ae Tryz.prog 43 true 10:=⟨Ap⟩
instance BQ : bm Tryz.prog 43 0 0 false 1:=⟨⟨_,_,Tryz.underlying43,rfl,rfl,gO⟩⟩
instance BR : bm Tryz.prog 43 1 1 false 1:=⟨⟨_,_,Tryz.underlying43,rfl,rfl,gO⟩⟩
instance BS : bm Tryz.prog 43 2 2 false 1:=⟨⟨_,_,Tryz.underlying43,rfl,rfl,gO⟩⟩
instance BT : bm Tryz.prog 43 3 3 false 1:=⟨⟨_,_,Tryz.underlying43,rfl,rfl,gO⟩⟩
instance BU : bm Tryz.prog 43 4 4 false 1:=⟨⟨_,_,Tryz.underlying43,rfl,rfl,gO⟩⟩
instance BV : bm Tryz.prog 43 5 5 false 1:=⟨⟨_,_,Tryz.underlying43,rfl,rfl,gO⟩⟩
instance BW : bm Tryz.prog 43 6 6 true 4:=⟨⟨_,_,Tryz.underlying43,rfl,rfl,tU⟩⟩
instance BX : aM Tryz.prog 43 [(0,1),(1,1),(2,1),(3,1),(4,1),(5,1),(6,4)] [.int .i64 0,.int .i64 0,.int .i64 0,.int .i64 0,.int .i64 0,.int .i64 0,.int .u64 0,.int .u64 0,.int .u64 0,.int .u64 0]:=⟨jG Tryz.underlying43 tV fun W=>by kernel_rfl⟩
theorem tW : Inf Tryz.prog 49 1 1 [.bool false]:=cQ (by kernel_rfl) rfl rfl
instance BY : aq Tryz.prog 49 1 1 [.bool false]:=⟨tW⟩
theorem Aq : Shp Tryz.prog 49 true 1:=dV Tryz.underlying49 tW rfl
instance BZ : ae Tryz.prog 49 true 1:=⟨Aq⟩
instance B0 : bm Tryz.prog 49 0 0 false 1:=⟨⟨_,_,Tryz.underlying49,rfl,rfl,tR⟩⟩
instance B1 : aM Tryz.prog 49 [(0,1)] [.bool false]:=⟨jG Tryz.underlying49 tW fun W=>by kernel_rfl⟩
instance B2 : ah Tryz.prog 50 (.slice 9):=⟨Tryz.underlying50⟩
instance B3 : ah Tryz.prog 53 (.slice 3):=⟨Tryz.underlying53⟩
theorem Ar : Inf Tryz.prog 56 2 32 [.slice none 0 0,.int .i64 0]:=cQ (by kernel_rfl) rfl rfl
theorem wY : Shp Tryz.prog 56 true 2:=dV Tryz.underlying56 Ar rfl
instance B4 : bm Tryz.prog 56 0 0 false 1:=⟨⟨_,_,Tryz.underlying56,rfl,rfl,qA⟩⟩
instance B5 : bm Tryz.prog 56 1 1 false 1:=⟨⟨_,_,Tryz.underlying56,rfl,rfl,gO⟩⟩
instance B6 : ah Tryz.prog 57 (.array 10 4):=⟨Tryz.underlying57⟩
theorem As : Inf Tryz.prog 57 10 10 [.bool false,.bool false,.bool false,.bool false,.bool false,.bool false,.bool false,.bool false,.bool false,.bool false]:=cQ (by kernel_rfl) rfl rfl
theorem tX : Shp Tryz.prog 57 true 10:=dV Tryz.underlying57 As rfl
theorem Au : Inf Tryz.prog 59 15 88 [.slice none 0 0,.int .i64 0,.slice none 0 0,.int .i64 0,.int .i64 0,.bool false,.bool false,.bool false,.bool false,.bool false,.bool false,.bool false,.bool false,.bool false,.bool false]:=cQ (by kernel_rfl) rfl rfl
instance B7 : bm Tryz.prog 59 0 0 true 2:=⟨⟨_,_,Tryz.underlying59,rfl,rfl,wY⟩⟩
instance B8 : bm Tryz.prog 59 1 2 false 1:=⟨⟨_,_,Tryz.underlying59,rfl,rfl,qz⟩⟩
instance B9 : bm Tryz.prog 59 2 3 false 1:=⟨⟨_,_,Tryz.underlying59,rfl,rfl,gO⟩⟩
instance Ca : bm Tryz.prog 59 3 4 false 1:=⟨⟨_,_,Tryz.underlying59,rfl,rfl,tT⟩⟩
instance Cb : bm Tryz.prog 59 4 5 true 10:=⟨⟨_,_,Tryz.underlying59,rfl,rfl,tX⟩⟩
instance Cc : aM Tryz.prog 59 [(0,2),(2,1),(3,1),(4,1),(5,10)] [.slice none 0 0,.int .i64 0,.slice none 0 0,.int .i64 0,.int .i64 0,.bool false,.bool false,.bool false,.bool false,.bool false,.bool false,.bool false,.bool false,.bool false,.bool false]:=⟨jG Tryz.underlying59 Au fun W=>by kernel_rfl⟩
theorem Av : Inf Tryz.prog 66 14 80 [.slice none 0 0,.int .i64 0,.slice none 0 0,.int .i64 0,.bool false,.bool false,.bool false,.bool false,.bool false,.bool false,.bool false,.bool false,.bool false,.bool false]:=cQ (by kernel_rfl) rfl rfl
instance Cd : bm Tryz.prog 66 0 0 true 2:=⟨⟨_,_,Tryz.underlying66,rfl,rfl,wY⟩⟩
instance Ce : bm Tryz.prog 66 1 2 false 1:=⟨⟨_,_,Tryz.underlying66,rfl,rfl,qz⟩⟩
instance Cf : bm Tryz.prog 66 2 3 false 1:=⟨⟨_,_,Tryz.underlying66,rfl,rfl,gO⟩⟩
instance Cg : bm Tryz.prog 66 3 4 true 10:=⟨⟨_,_,Tryz.underlying66,rfl,rfl,tX⟩⟩
instance Ch : aM Tryz.prog 66 [(0,2),(2,1),(3,1),(4,10)] [.slice none 0 0,.int .i64 0,.slice none 0 0,.int .i64 0,.bool false,.bool false,.bool false,.bool false,.bool false,.bool false,.bool false,.bool false,.bool false,.bool false]:=⟨jG Tryz.underlying66 Av fun W=>by kernel_rfl⟩
instance Ci : ah Tryz.prog 67 (.pointer 71):=⟨Tryz.underlying67⟩
theorem Aw : Inf Tryz.prog 71 2 16 [.int .i64 0,.int .i64 0]:=cQ (by kernel_rfl) rfl rfl
instance Cj : bm Tryz.prog 71 0 0 false 1:=⟨⟨_,_,Tryz.underlying71,rfl,rfl,gO⟩⟩
instance Ck : bm Tryz.prog 71 1 1 false 1:=⟨⟨_,_,Tryz.underlying71,rfl,rfl,tT⟩⟩
instance Cl : aM Tryz.prog 71 [(0,1),(1,1)] [.int .i64 0,.int .i64 0]:=⟨jG Tryz.underlying71 Aw fun W=>by kernel_rfl⟩
theorem Ax : Inf Tryz.prog 74 2 32 [.slice none 0 0,.int .i64 0]:=cQ (by kernel_rfl) rfl rfl
theorem Ay : Shp Tryz.prog 74 true 2:=dV Tryz.underlying74 Ax rfl
instance Cm : bm Tryz.prog 74 0 0 false 1:=⟨⟨_,_,Tryz.underlying74,rfl,rfl,qA⟩⟩
instance Co : bm Tryz.prog 74 1 1 false 1:=⟨⟨_,_,Tryz.underlying74,rfl,rfl,gO⟩⟩
theorem Az : Inf Tryz.prog 76 15 88 [.slice none 0 0,.int .i64 0,.int .i64 0,.slice none 0 0,.int .i64 0,.bool false,.bool false,.bool false,.bool false,.bool false,.bool false,.bool false,.bool false,.bool false,.bool false]:=cQ (by kernel_rfl) rfl rfl
instance Cp : bm Tryz.prog 76 0 0 false 1:=⟨⟨_,_,Tryz.underlying76,rfl,rfl,qz⟩⟩
instance Cq : bm Tryz.prog 76 1 1 false 1:=⟨⟨_,_,Tryz.underlying76,rfl,rfl,gO⟩⟩
instance Cr : bm Tryz.prog 76 2 2 false 1:=⟨⟨_,_,Tryz.underlying76,rfl,rfl,gO⟩⟩
instance Cs : bm Tryz.prog 76 3 3 true 2:=⟨⟨_,_,Tryz.underlying76,rfl,rfl,Ay⟩⟩
instance Ct : bm Tryz.prog 76 4 5 true 10:=⟨⟨_,_,Tryz.underlying76,rfl,rfl,tX⟩⟩
instance Cu : aM Tryz.prog 76 [(0,1),(1,1),(2,1),(3,2),(5,10)] [.slice none 0 0,.int .i64 0,.int .i64 0,.slice none 0 0,.int .i64 0,.bool false,.bool false,.bool false,.bool false,.bool false,.bool false,.bool false,.bool false,.bool false,.bool false]:=⟨jG Tryz.underlying76 Az fun W=>by kernel_rfl⟩
instance Cv : ah Tryz.prog 79 (.array 10 3):=⟨Tryz.underlying79⟩
theorem AA : Inf Tryz.prog 79 10 80 [.int .i64 0,.int .i64 0,.int .i64 0,.int .i64 0,.int .i64 0,.int .i64 0,.int .i64 0,.int .i64 0,.int .i64 0,.int .i64 0]:=cQ (by kernel_rfl) rfl rfl
instance Cw : aq Tryz.prog 79 10 80 [.int .i64 0,.int .i64 0,.int .i64 0,.int .i64 0,.int .i64 0,.int .i64 0,.int .i64 0,.int .i64 0,.int .i64 0,.int .i64 0]:=⟨AA⟩
instance Cx : ah Tryz.prog 146 (.array 256 4):=⟨Tryz.underlying146⟩
set_option maxRecDepth 100000 in
theorem uY : Inf Tryz.prog 146 256 256 [.bool false,.bool false,.bool false,.bool false,.bool false,.bool false,.bool false,.bool false,.bool false,.bool false,.bool false,.bool false,.bool false,.bool false,.bool false,.bool false,.bool false,.bool false,.bool false,.bool false,.bool false,.bool false,.bool false,.bool false,.bool false,.bool false,.bool false,.bool false,.bool false,.bool false,.bool false,.bool false,.bool false,.bool false,.bool false,.bool false,.bool false,.bool false,.bool false,.bool false,.bool false,.bool false,.bool false,.bool false,.bool false,.bool false,.bool false,.bool false,.bool false,.bool false,.bool false,.bool false,.bool false,.bool false,.bool false,.bool false,.bool false,.bool false,.bool false,.bool false,.bool false,.bool false,.bool false,.bool false,.bool false,.bool false,.bool false,.bool false,.bool false,.bool false,.bool false,.bool false,.bool false,.bool false,.bool false,.bool false,.bool false,.bool false,.bool false,.bool false,.bool false,.bool false,.bool false,.bool false,.bool false,.bool false,.bool false,.bool false,.bool false,.bool false,.bool false,.bool false,.bool false,.bool false,.bool false,.bool false,.bool false,.bool false,.bool false,.bool false,.bool false,.bool false,.bool false,.bool false,.bool false,.bool false,.bool false,.bool false,.bool false,.bool false,.bool false,.bool false,.bool false,.bool false,.bool false,.bool false,.bool false,.bool false,.bool false,.bool false,.bool false,.bool false,.bool false,.bool false,.bool false,.bool false,.bool false,.bool false,.bool false,.bool false,.bool false,.bool false,.bool false,.bool false,.bool false,.bool false,.bool false,.bool false,.bool false,.bool false,.bool false,.bool false,.bool false,.bool false,.bool false,.bool false,.bool false,.bool false,.bool false,.bool false,.bool false,.bool false,.bool false,.bool false,.bool false,.bool false,.bool false,.bool false,.bool false,.bool false,.bool false,.bool false,.bool false,.bool false,.bool false,.bool false,.bool false,.bool false,.bool false,.bool false,.bool false,.bool false,.bool false,.bool false,.bool false,.bool false,.bool false,.bool false,.bool false,.bool false,.bool false,.bool false,.bool false,.bool false,.bool false,.bool false,.bool false,.bool false,.bool false,.bool false,.bool false,.bool false,.bool false,.bool false,.bool false,.bool false,.bool false,.bool false,.bool false,.bool false,.bool false,.bool false,.bool false,.bool false,.bool false,.bool false,.bool false,.bool false,.bool false,.bool false,.bool false,.bool false,.bool false,.bool false,.bool false,.bool false,.bool false,.bool false,.bool false,.bool false,.bool false,.bool false,.bool false,.bool false,.bool false,.bool false,.bool false,.bool false,.bool false,.bool false,.bool false,.bool false,.bool false,.bool false,.bool false,.bool false,.bool false,.bool false,.bool false,.bool false,.bool false,.bool false,.bool false,.bool false,.bool false,.bool false,.bool false,.bool false,.bool false,.bool false,.bool false,.bool false,.bool false,.bool false,.bool false,.bool false]:=cQ (by kernel_rfl) rfl rfl
instance Cy : aq Tryz.prog 146 256 256 [.bool false,.bool false,.bool false,.bool false,.bool false,.bool false,.bool false,.bool false,.bool false,.bool false,.bool false,.bool false,.bool false,.bool false,.bool false,.bool false,.bool false,.bool false,.bool false,.bool false,.bool false,.bool false,.bool false,.bool false,.bool false,.bool false,.bool false,.bool false,.bool false,.bool false,.bool false,.bool false,.bool false,.bool false,.bool false,.bool false,.bool false,.bool false,.bool false,.bool false,.bool false,.bool false,.bool false,.bool false,.bool false,.bool false,.bool false,.bool false,.bool false,.bool false,.bool false,.bool false,.bool false,.bool false,.bool false,.bool false,.bool false,.bool false,.bool false,.bool false,.bool false,.bool false,.bool false,.bool false,.bool false,.bool false,.bool false,.bool false,.bool false,.bool false,.bool false,.bool false,.bool false,.bool false,.bool false,.bool false,.bool false,.bool false,.bool false,.bool false,.bool false,.bool false,.bool false,.bool false,.bool false,.bool false,.bool false,.bool false,.bool false,.bool false,.bool false,.bool false,.bool false,.bool false,.bool false,.bool false,.bool false,.bool false,.bool false,.bool false,.bool false,.bool false,.bool false,.bool false,.bool false,.bool false,.bool false,.bool false,.bool false,.bool false,.bool false,.bool false,.bool false,.bool false,.bool false,.bool false,.bool false,.bool false,.bool false,.bool false,.bool false,.bool false,.bool false,.bool false,.bool false,.bool false,.bool false,.bool false,.bool false,.bool false,.bool false,.bool false,.bool false,.bool false,.bool false,.bool false,.bool false,.bool false,.bool false,.bool false,.bool false,.bool false,.bool false,.bool false,.bool false,.bool false,.bool false,.bool false,.bool false,.bool false,.bool false,.bool false,.bool false,.bool false,.bool false,.bool false,.bool false,.bool false,.bool false,.bool false,.bool false,.bool false,.bool false,.bool false,.bool false,.bool false,.bool false,.bool false,.bool false,.bool false,.bool false,.bool false,.bool false,.bool false,.bool false,.bool false,.bool false,.bool false,.bool false,.bool false,.bool false,.bool false,.bool false,.bool false,.bool false,.bool false,.bool false,.bool false,.bool false,.bool false,.bool false,.bool false,.bool false,.bool false,.bool false,.bool false,.bool false,.bool false,.bool false,.bool false,.bool false,.bool false,.bool false,.bool false,.bool false,.bool false,.bool false,.bool false,.bool false,.bool false,.bool false,.bool false,.bool false,.bool false,.bool false,.bool false,.bool false,.bool false,.bool false,.bool false,.bool false,.bool false,.bool false,.bool false,.bool false,.bool false,.bool false,.bool false,.bool false,.bool false,.bool false,.bool false,.bool false,.bool false,.bool false,.bool false,.bool false,.bool false,.bool false,.bool false,.bool false,.bool false,.bool false,.bool false,.bool false,.bool false,.bool false,.bool false,.bool false,.bool false,.bool false,.bool false,.bool false,.bool false,.bool false,.bool false]:=⟨uY⟩
theorem uZ : Shp Tryz.prog 146 true 256:=dV Tryz.underlying146 uY rfl
instance Cz : ae Tryz.prog 146 true 256:=⟨uZ⟩
set_option maxRecDepth 100000 in
theorem rS : Inf Tryz.prog 148 260 288 [.int .i64 0,.bool false,.bool false,.bool false,.bool false,.bool false,.bool false,.bool false,.bool false,.bool false,.bool false,.bool false,.bool false,.bool false,.bool false,.bool false,.bool false,.bool false,.bool false,.bool false,.bool false,.bool false,.bool false,.bool false,.bool false,.bool false,.bool false,.bool false,.bool false,.bool false,.bool false,.bool false,.bool false,.bool false,.bool false,.bool false,.bool false,.bool false,.bool false,.bool false,.bool false,.bool false,.bool false,.bool false,.bool false,.bool false,.bool false,.bool false,.bool false,.bool false,.bool false,.bool false,.bool false,.bool false,.bool false,.bool false,.bool false,.bool false,.bool false,.bool false,.bool false,.bool false,.bool false,.bool false,.bool false,.bool false,.bool false,.bool false,.bool false,.bool false,.bool false,.bool false,.bool false,.bool false,.bool false,.bool false,.bool false,.bool false,.bool false,.bool false,.bool false,.bool false,.bool false,.bool false,.bool false,.bool false,.bool false,.bool false,.bool false,.bool false,.bool false,.bool false,.bool false,.bool false,.bool false,.bool false,.bool false,.bool false,.bool false,.bool false,.bool false,.bool false,.bool false,.bool false,.bool false,.bool false,.bool false,.bool false,.bool false,.bool false,.bool false,.bool false,.bool false,.bool false,.bool false,.bool false,.bool false,.bool false,.bool false,.bool false,.bool false,.bool false,.bool false,.bool false,.bool false,.bool false,.bool false,.bool false,.bool false,.bool false,.bool false,.bool false,.bool false,.bool false,.bool false,.bool false,.bool false,.bool false,.bool false,.bool false,.bool false,.bool false,.bool false,.bool false,.bool false,.bool false,.bool false,.bool false,.bool false,.bool false,.bool false,.bool false,.bool false,.bool false,.bool false,.bool false,.bool false,.bool false,.bool false,.bool false,.bool false,.bool false,.bool false,.bool false,.bool false,.bool false,.bool false,.bool false,.bool false,.bool false,.bool false,.bool false,.bool false,.bool false,.bool false,.bool false,.bool false,.bool false,.bool false,.bool false,.bool false,.bool false,.bool false,.bool false,.bool false,.bool false,.bool false,.bool false,.bool false,.bool false,.bool false,.bool false,.bool false,.bool false,.bool false,.bool false,.bool false,.bool false,.bool false,.bool false,.bool false,.bool false,.bool false,.bool false,.bool false,.bool false,.bool false,.bool false,.bool false,.bool false,.bool false,.bool false,.bool false,.bool false,.bool false,.bool false,.bool false,.bool false,.bool false,.bool false,.bool false,.bool false,.bool false,.bool false,.bool false,.bool false,.bool false,.bool false,.bool false,.bool false,.bool false,.bool false,.bool false,.bool false,.bool false,.bool false,.bool false,.bool false,.bool false,.bool false,.bool false,.bool false,.bool false,.bool false,.bool false,.bool false,.bool false,.bool false,.bool false,.bool false,.bool false,.bool false,.bool false,.bool false,.bool false,.bool false,.bool false,.bool false,.int .i64 0,.int .i64 0]:=cQ (by kernel_rfl) rfl rfl
instance CA : aq Tryz.prog 148 260 288 [.int .i64 0,.bool false,.bool false,.bool false,.bool false,.bool false,.bool false,.bool false,.bool false,.bool false,.bool false,.bool false,.bool false,.bool false,.bool false,.bool false,.bool false,.bool false,.bool false,.bool false,.bool false,.bool false,.bool false,.bool false,.bool false,.bool false,.bool false,.bool false,.bool false,.bool false,.bool false,.bool false,.bool false,.bool false,.bool false,.bool false,.bool false,.bool false,.bool false,.bool false,.bool false,.bool false,.bool false,.bool false,.bool false,.bool false,.bool false,.bool false,.bool false,.bool false,.bool false,.bool false,.bool false,.bool false,.bool false,.bool false,.bool false,.bool false,.bool false,.bool false,.bool false,.bool false,.bool false,.bool false,.bool false,.bool false,.bool false,.bool false,.bool false,.bool false,.bool false,.bool false,.bool false,.bool false,.bool false,.bool false,.bool false,.bool false,.bool false,.bool false,.bool false,.bool false,.bool false,.bool false,.bool false,.bool false,.bool false,.bool false,.bool false,.bool false,.bool false,.bool false,.bool false,.bool false,.bool false,.bool false,.bool false,.bool false,.bool false,.bool false,.bool false,.bool false,.bool false,.bool false,.bool false,.bool false,.bool false,.bool false,.bool false,.bool false,.bool false,.bool false,.bool false,.bool false,.bool false,.bool false,.bool false,.bool false,.bool false,.bool false,.bool false,.bool false,.bool false,.bool false,.bool false,.bool false,.bool false,.bool false,.bool false,.bool false,.bool false,.bool false,.bool false,.bool false,.bool false,.bool false,.bool false,.bool false,.bool false,.bool false,.bool false,.bool false,.bool false,.bool false,.bool false,.bool false,.bool false,.bool false,.bool false,.bool false,.bool false,.bool false,.bool false,.bool false,.bool false,.bool false,.bool false,.bool false,.bool false,.bool false,.bool false,.bool false,.bool false,.bool false,.bool false,.bool false,.bool false,.bool false,.bool false,.bool false,.bool false,.bool false,.bool false,.bool false,.bool false,.bool false,.bool false,.bool false,.bool false,.bool false,.bool false,.bool false,.bool false,.bool false,.bool false,.bool false,.bool false,.bool false,.bool false,.bool false,.bool false,.bool false,.bool false,.bool false,.bool false,.bool false,.bool false,.bool false,.bool false,.bool false,.bool false,.bool false,.bool false,.bool false,.bool false,.bool false,.bool false,.bool false,.bool false,.bool false,.bool false,.bool false,.bool false,.bool false,.bool false,.bool false,.bool false,.bool false,.bool false,.bool false,.bool false,.bool false,.bool false,.bool false,.bool false,.bool false,.bool false,.bool false,.bool false,.bool false,.bool false,.bool false,.bool false,.bool false,.bool false,.bool false,.bool false,.bool false,.bool false,.bool false,.bool false,.bool false,.bool false,.bool false,.bool false,.bool false,.bool false,.bool false,.bool false,.bool false,.bool false,.bool false,.bool false,.bool false,.bool false,.bool false,.bool false,.bool false,.int .i64 0,.int .i64 0]:=⟨rS⟩
theorem zF : Shp Tryz.prog 148 true 260:=dV Tryz.underlying148 rS rfl
instance CB : ae Tryz.prog 148 true 260:=⟨zF⟩
instance CC : bm Tryz.prog 148 0 0 false 1:=⟨⟨_,_,Tryz.underlying148,rfl,rfl,gO⟩⟩
instance CD : bm Tryz.prog 148 1 1 true 256:=⟨⟨_,_,Tryz.underlying148,rfl,rfl,uZ⟩⟩
instance CE : bm Tryz.prog 148 2 257 false 1:=⟨⟨_,_,Tryz.underlying148,rfl,rfl,tR⟩⟩
instance CF : bm Tryz.prog 148 3 258 false 1:=⟨⟨_,_,Tryz.underlying148,rfl,rfl,gO⟩⟩
instance CG : bm Tryz.prog 148 4 259 false 1:=⟨⟨_,_,Tryz.underlying148,rfl,rfl,gO⟩⟩
instance CH : aM Tryz.prog 148 [(0,1),(1,256),(257,1),(258,1),(259,1)] [.int .i64 0,.bool false,.bool false,.bool false,.bool false,.bool false,.bool false,.bool false,.bool false,.bool false,.bool false,.bool false,.bool false,.bool false,.bool false,.bool false,.bool false,.bool false,.bool false,.bool false,.bool false,.bool false,.bool false,.bool false,.bool false,.bool false,.bool false,.bool false,.bool false,.bool false,.bool false,.bool false,.bool false,.bool false,.bool false,.bool false,.bool false,.bool false,.bool false,.bool false,.bool false,.bool false,.bool false,.bool false,.bool false,.bool false,.bool false,.bool false,.bool false,.bool false,.bool false,.bool false,.bool false,.bool false,.bool false,.bool false,.bool false,.bool false,.bool false,.bool false,.bool false,.bool false,.bool false,.bool false,.bool false,.bool false,.bool false,.bool false,.bool false,.bool false,.bool false,.bool false,.bool false,.bool false,.bool false,.bool false,.bool false,.bool false,.bool false,.bool false,.bool false,.bool false,.bool false,.bool false,.bool false,.bool false,.bool false,.bool false,.bool false,.bool false,.bool false,.bool false,.bool false,.bool false,.bool false,.bool false,.bool false,.bool false,.bool false,.bool false,.bool false,.bool false,.bool false,.bool false,.bool false,.bool false,.bool false,.bool false,.bool false,.bool false,.bool false,.bool false,.bool false,.bool false,.bool false,.bool false,.bool false,.bool false,.bool false,.bool false,.bool false,.bool false,.bool false,.bool false,.bool false,.bool false,.bool false,.bool false,.bool false,.bool false,.bool false,.bool false,.bool false,.bool false,.bool false,.bool false,.bool false,.bool false,.bool false,.bool false,.bool false,.bool false,.bool false,.bool false,.bool false,.bool false,.bool false,.bool false,.bool false,.bool false,.bool false,.bool false,.bool false,.bool false,.bool false,.bool false,.bool false,.bool false,.bool false,.bool false,.bool false,.bool false,.bool false,.bool false,.bool false,.bool false,.bool false,.bool false,.bool false,.bool false,.bool false,.bool false,.bool false,.bool false,.bool false,.bool false,.bool false,.bool false,.bool false,.bool false,.bool false,.bool false,.bool false,.bool false,.bool false,.bool false,.bool false,.bool false,.bool false,.bool false,.bool false,.bool false,.bool false,.bool false,.bool false,.bool false,.bool false,.bool false,.bool false,.bool false,.bool false,.bool false,.bool false,.bool false,.bool false,.bool false,.bool false,.bool false,.bool false,.bool false,.bool false,.bool false,.bool false,.bool false,.bool false,.bool false,.bool false,.bool false,.bool false,.bool false,.bool false,.bool false,.bool false,.bool false,.bool false,.bool false,.bool false,.bool false,.bool false,.bool false,.bool false,.bool false,.bool false,.bool false,.bool false,.bool false,.bool false,.bool false,.bool false,.bool false,.bool false,.bool false,.bool false,.bool false,.bool false,.bool false,.bool false,.bool false,.bool false,.bool false,.bool false,.bool false,.bool false,.bool false,.bool false,.bool false,.bool false,.bool false,.int .i64 0,.int .i64 0]:=⟨jG Tryz.underlying148 rS fun W=>by kernel_rfl⟩
theorem rT : Inf Tryz.prog 162 7 56 [.int .u8 0,.int .u64 0,.int .u64 0,.int .u64 0,.int .u64 0,.bool false,.int .i64 0]:=cQ (by kernel_rfl) rfl rfl
instance CI : aq Tryz.prog 162 7 56 [.int .u8 0,.int .u64 0,.int .u64 0,.int .u64 0,.int .u64 0,.bool false,.int .i64 0]:=⟨rT⟩
theorem zG : Shp Tryz.prog 162 true 7:=dV Tryz.underlying162 rT rfl
instance CJ : ae Tryz.prog 162 true 7:=⟨zG⟩
instance CK : bm Tryz.prog 162 0 0 false 1:=⟨⟨_,_,Tryz.underlying162,rfl,rfl,zD⟩⟩
instance CL : bm Tryz.prog 162 1 1 true 4:=⟨⟨_,_,Tryz.underlying162,rfl,rfl,tU⟩⟩
instance CM : bm Tryz.prog 162 2 5 false 1:=⟨⟨_,_,Tryz.underlying162,rfl,rfl,tR⟩⟩
instance CN : bm Tryz.prog 162 3 6 false 1:=⟨⟨_,_,Tryz.underlying162,rfl,rfl,gO⟩⟩
instance CO : aM Tryz.prog 162 [(0,1),(1,4),(5,1),(6,1)] [.int .u8 0,.int .u64 0,.int .u64 0,.int .u64 0,.int .u64 0,.bool false,.int .i64 0]:=⟨jG Tryz.underlying162 rT fun W=>by kernel_rfl⟩
instance CP : ah Tryz.prog 167 (.slice 41):=⟨Tryz.underlying167⟩
end Go.Proofs.YtnbceeholnkfeaaGreatDoor
