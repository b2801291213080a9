/- Facts of the types. -/
import Derived.Test.YtnbceeholnkfeaaGreatDoorProg
import Derived.Test.YtnbceeholnkfeaaGreatDoorFront
namespace Go.Proofs.YtnbceeholnkfeaaGreatDoor
instance H4:ai Tryz.prog 3 (.int .i64):=⟨Tryz.underlying3⟩
theorem Ev:Inf Tryz.prog 3 1 8 [.int .i64 0]:=dw (by kernel_rfl) rfl rfl
instance H5:ar Tryz.prog 3 1 8 [.int .i64 0]:=⟨Ev⟩
theorem iT:Shp Tryz.prog 3 false 1:=eO Tryz.underlying3 Ev rfl
instance H6:ae Tryz.prog 3 false 1:=⟨iT⟩
instance H7:ai Tryz.prog 4 (.bool):=⟨Tryz.underlying4⟩
theorem GG:Inf Tryz.prog 4 1 1 [.bool false]:=dw (by kernel_rfl) rfl rfl
theorem xY:Shp Tryz.prog 4 false 1:=eO Tryz.underlying4 GG rfl
instance H8:ae Tryz.prog 4 false 1:=⟨xY⟩
instance H9:ai Tryz.prog 5 (.int .u8):=⟨Tryz.underlying5⟩
theorem Ew:Inf Tryz.prog 5 1 1 [.int .u8 0]:=dw (by kernel_rfl) rfl rfl
instance Ia:ar Tryz.prog 5 1 1 [.int .u8 0]:=⟨Ew⟩
theorem Ex:Shp Tryz.prog 5 false 1:=eO Tryz.underlying5 Ew rfl
instance Ib:ae Tryz.prog 5 false 1:=⟨Ex⟩
instance Ic:ai Tryz.prog 9 (.string):=⟨Tryz.underlying9⟩
theorem Ey:Inf Tryz.prog 9 1 16 [.string ⟨#[]⟩]:=dw (by kernel_rfl) rfl rfl
instance Id:ar Tryz.prog 9 1 16 [.string ⟨#[]⟩]:=⟨Ey⟩
theorem GH:Shp Tryz.prog 9 false 1:=eO Tryz.underlying9 Ey rfl
instance Ie:ae Tryz.prog 9 false 1:=⟨GH⟩
instance If:ai Tryz.prog 22 (.slice 5):=⟨Tryz.underlying22⟩
theorem Fg:Inf Tryz.prog 22 1 24 [.slice none 0 0]:=dw (by kernel_rfl) rfl rfl
theorem un:Shp Tryz.prog 22 false 1:=eO Tryz.underlying22 Fg rfl
instance Ig:ae Tryz.prog 22 false 1:=⟨un⟩
instance Ih:ai Tryz.prog 24 (.slice 43):=⟨Tryz.underlying24⟩
theorem Fh:Inf Tryz.prog 24 1 24 [.slice none 0 0]:=dw (by kernel_rfl) rfl rfl
theorem uo:Shp Tryz.prog 24 false 1:=eO Tryz.underlying24 Fh rfl
instance Ii:ae Tryz.prog 24 false 1:=⟨uo⟩
theorem xZ:Inf Tryz.prog 26 2 32 [.slice none 0 0,.int .i64 0]:=dw (by kernel_rfl) rfl rfl
instance Ij:ar Tryz.prog 26 2 32 [.slice none 0 0,.int .i64 0]:=⟨xZ⟩
theorem Fi:Shp Tryz.prog 26 true 2:=eO Tryz.underlying26 xZ rfl
instance Ik:ae Tryz.prog 26 true 2:=⟨Fi⟩
instance Il:bE Tryz.prog 26 0 0 false 1:=⟨⟨_,_,Tryz.underlying26,rfl,rfl,uo⟩⟩
instance Im:bE Tryz.prog 26 1 1 false 1:=⟨⟨_,_,Tryz.underlying26,rfl,rfl,iT⟩⟩
instance In:aQ Tryz.prog 26 [(0,1),(1,1)] [.slice none 0 0,.int .i64 0]:=⟨lq Tryz.underlying26 xZ fun W=>by kernel_rfl⟩
theorem Fj:Inf Tryz.prog 27 1 8 [.int .i64 0]:=dw (by kernel_rfl) rfl rfl
theorem x9:Shp Tryz.prog 27 false 1:=eO Tryz.underlying27 Fj rfl
instance Io:ae Tryz.prog 27 false 1:=⟨x9⟩
instance GP:ai Tryz.prog 39 (.int .u64):=⟨Tryz.underlying39⟩
theorem Fk:Inf Tryz.prog 39 1 8 [.int .u64 0]:=dw (by kernel_rfl) rfl rfl
theorem Fm:Shp Tryz.prog 39 false 1:=eO Tryz.underlying39 Fk rfl
instance GQ:ae Tryz.prog 39 false 1:=⟨Fm⟩
instance GR:ai Tryz.prog 41 (.array 4 39):=⟨Tryz.underlying41⟩
theorem B8:Inf Tryz.prog 41 4 32 [.int .u64 0,.int .u64 0,.int .u64 0,.int .u64 0]:=dw (by kernel_rfl) rfl rfl
instance GS:ar Tryz.prog 41 4 32 [.int .u64 0,.int .u64 0,.int .u64 0,.int .u64 0]:=⟨B8⟩
theorem ya:Shp Tryz.prog 41 true 4:=eO Tryz.underlying41 B8 rfl
instance GT:ae Tryz.prog 41 true 4:=⟨ya⟩
theorem yb:Inf Tryz.prog 43 10 80 [.int .i64 0,.int .i64 0,.int .i64 0,.int .i64 0,.int .i64 0,.int .i64 0,.int .u64 0,.int .u64 0,.int .u64 0,.int .u64 0]:=dw (by kernel_rfl) rfl rfl
instance GU:ar Tryz.prog 43 10 80 [.int .i64 0,.int .i64 0,.int .i64 0,.int .i64 0,.int .i64 0,.int .i64 0,.int .u64 0,.int .u64 0,.int .u64 0,.int .u64 0]:=⟨yb⟩
theorem Fn:Shp Tryz.prog 43 true 10:=eO Tryz.underlying43 yb rfl
instance GV:ae Tryz.prog 43 true 10:=⟨Fn⟩
instance GW:bE Tryz.prog 43 0 0 false 1:=⟨⟨_,_,Tryz.underlying43,rfl,rfl,iT⟩⟩
instance GX:bE Tryz.prog 43 1 1 false 1:=⟨⟨_,_,Tryz.underlying43,rfl,rfl,iT⟩⟩
instance GY:bE Tryz.prog 43 2 2 false 1:=⟨⟨_,_,Tryz.underlying43,rfl,rfl,iT⟩⟩
instance GZ:bE Tryz.prog 43 3 3 false 1:=⟨⟨_,_,Tryz.underlying43,rfl,rfl,iT⟩⟩
instance G0:bE Tryz.prog 43 4 4 false 1:=⟨⟨_,_,Tryz.underlying43,rfl,rfl,iT⟩⟩
instance G1:bE Tryz.prog 43 5 5 false 1:=⟨⟨_,_,Tryz.underlying43,rfl,rfl,iT⟩⟩
instance G2:bE Tryz.prog 43 6 6 true 4:=⟨⟨_,_,Tryz.underlying43,rfl,rfl,ya⟩⟩
instance G3:aQ Tryz.prog 43 [(0,1),(1,1),(2,1),(3,1),(4,1),(5,1),(6,4)] [.int .i64 0,.int .i64 0,.int .i64 0,.int .i64 0,.int .i64 0,.int .i64 0,.int .u64 0,.int .u64 0,.int .u64 0,.int .u64 0]:=⟨lq Tryz.underlying43 yb fun W=>by kernel_rfl⟩
theorem yc:Inf Tryz.prog 49 1 1 [.bool false]:=dw (by kernel_rfl) rfl rfl
instance G4:ar Tryz.prog 49 1 1 [.bool false]:=⟨yc⟩
theorem Fo:Shp Tryz.prog 49 true 1:=eO Tryz.underlying49 yc rfl
instance G5:ae Tryz.prog 49 true 1:=⟨Fo⟩
instance G6:bE Tryz.prog 49 0 0 false 1:=⟨⟨_,_,Tryz.underlying49,rfl,rfl,xY⟩⟩
instance G7:aQ Tryz.prog 49 [(0,1)] [.bool false]:=⟨lq Tryz.underlying49 yc fun W=>by kernel_rfl⟩
instance G8:ai Tryz.prog 50 (.slice 9):=⟨Tryz.underlying50⟩
instance G9:ai Tryz.prog 53 (.slice 3):=⟨Tryz.underlying53⟩
theorem Fp:Inf Tryz.prog 56 2 32 [.slice none 0 0,.int .i64 0]:=dw (by kernel_rfl) rfl rfl
theorem B9:Shp Tryz.prog 56 true 2:=eO Tryz.underlying56 Fp rfl
instance Ha:bE Tryz.prog 56 0 0 false 1:=⟨⟨_,_,Tryz.underlying56,rfl,rfl,uo⟩⟩
instance Hb:bE Tryz.prog 56 1 1 false 1:=⟨⟨_,_,Tryz.underlying56,rfl,rfl,iT⟩⟩
instance Hc:ai Tryz.prog 57 (.array 10 4):=⟨Tryz.underlying57⟩
theorem Fq:Inf Tryz.prog 57 10 10 [.bool false,.bool false,.bool false,.bool false,.bool false,.bool false,.bool false,.bool false,.bool false,.bool false]:=dw (by kernel_rfl) rfl rfl
theorem yd:Shp Tryz.prog 57 true 10:=eO Tryz.underlying57 Fq rfl
theorem Fr:Inf Tryz.prog 59 15 88 [.slice none 0 0,.int .i64 0,.slice none 0 0,.int .i64 0,.int .i64 0,.bool false,.bool false,.bool false,.bool false,.bool false,.bool false,.bool false,.bool false,.bool false,.bool false]:=dw (by kernel_rfl) rfl rfl
instance Hd:bE Tryz.prog 59 0 0 true 2:=⟨⟨_,_,Tryz.underlying59,rfl,rfl,B9⟩⟩
instance He:bE Tryz.prog 59 1 2 false 1:=⟨⟨_,_,Tryz.underlying59,rfl,rfl,un⟩⟩
instance Hf:bE Tryz.prog 59 2 3 false 1:=⟨⟨_,_,Tryz.underlying59,rfl,rfl,iT⟩⟩
instance Hg:bE Tryz.prog 59 3 4 false 1:=⟨⟨_,_,Tryz.underlying59,rfl,rfl,x9⟩⟩
instance Hh:bE Tryz.prog 59 4 5 true 10:=⟨⟨_,_,Tryz.underlying59,rfl,rfl,yd⟩⟩
instance Hi:aQ Tryz.prog 59 [(0,2),(2,1),(3,1),(4,1),(5,10)] [.slice none 0 0,.int .i64 0,.slice none 0 0,.int .i64 0,.int .i64 0,.bool false,.bool false,.bool false,.bool false,.bool false,.bool false,.bool false,.bool false,.bool false,.bool false]:=⟨lq Tryz.underlying59 Fr fun W=>by kernel_rfl⟩
theorem Fs:Inf Tryz.prog 66 14 80 [.slice none 0 0,.int .i64 0,.slice none 0 0,.int .i64 0,.bool false,.bool false,.bool false,.bool false,.bool false,.bool false,.bool false,.bool false,.bool false,.bool false]:=dw (by kernel_rfl) rfl rfl
instance Hj:bE Tryz.prog 66 0 0 true 2:=⟨⟨_,_,Tryz.underlying66,rfl,rfl,B9⟩⟩
instance Hk:bE Tryz.prog 66 1 2 false 1:=⟨⟨_,_,Tryz.underlying66,rfl,rfl,un⟩⟩
instance Hl:bE Tryz.prog 66 2 3 false 1:=⟨⟨_,_,Tryz.underlying66,rfl,rfl,iT⟩⟩
instance Hm:bE Tryz.prog 66 3 4 true 10:=⟨⟨_,_,Tryz.underlying66,rfl,rfl,yd⟩⟩
instance Hn:aQ Tryz.prog 66 [(0,2),(2,1),(3,1),(4,10)] [.slice none 0 0,.int .i64 0,.slice none 0 0,.int .i64 0,.bool false,.bool false,.bool false,.bool false,.bool false,.bool false,.bool false,.bool false,.bool false,.bool false]:=⟨lq Tryz.underlying66 Fs fun W=>by kernel_rfl⟩
instance Ho:ai Tryz.prog 67 (.pointer 71):=⟨Tryz.underlying67⟩
theorem Fv:Inf Tryz.prog 71 2 16 [.int .i64 0,.int .i64 0]:=dw (by kernel_rfl) rfl rfl
instance Hp:bE Tryz.prog 71 0 0 false 1:=⟨⟨_,_,Tryz.underlying71,rfl,rfl,iT⟩⟩
instance Hq:bE Tryz.prog 71 1 1 false 1:=⟨⟨_,_,Tryz.underlying71,rfl,rfl,x9⟩⟩
instance Hr:aQ Tryz.prog 71 [(0,1),(1,1)] [.int .i64 0,.int .i64 0]:=⟨lq Tryz.underlying71 Fv fun W=>by kernel_rfl⟩
theorem Fw:Inf Tryz.prog 74 2 32 [.slice none 0 0,.int .i64 0]:=dw (by kernel_rfl) rfl rfl
theorem Fx:Shp Tryz.prog 74 true 2:=eO Tryz.underlying74 Fw rfl
instance Hs:bE Tryz.prog 74 0 0 false 1:=⟨⟨_,_,Tryz.underlying74,rfl,rfl,uo⟩⟩
instance Ht:bE Tryz.prog 74 1 1 false 1:=⟨⟨_,_,Tryz.underlying74,rfl,rfl,iT⟩⟩
theorem Fy:Inf Tryz.prog 76 15 88 [.slice none 0 0,.int .i64 0,.int .i64 0,.slice none 0 0,.int .i64 0,.bool false,.bool false,.bool false,.bool false,.bool false,.bool false,.bool false,.bool false,.bool false,.bool false]:=dw (by kernel_rfl) rfl rfl
instance Hu:bE Tryz.prog 76 0 0 false 1:=⟨⟨_,_,Tryz.underlying76,rfl,rfl,un⟩⟩
instance Hv:bE Tryz.prog 76 1 1 false 1:=⟨⟨_,_,Tryz.underlying76,rfl,rfl,iT⟩⟩
instance Hw:bE Tryz.prog 76 2 2 false 1:=⟨⟨_,_,Tryz.underlying76,rfl,rfl,iT⟩⟩
instance Hy:bE Tryz.prog 76 3 3 true 2:=⟨⟨_,_,Tryz.underlying76,rfl,rfl,Fx⟩⟩
instance Hz:bE Tryz.prog 76 4 5 true 10:=⟨⟨_,_,Tryz.underlying76,rfl,rfl,yd⟩⟩
instance HB:aQ Tryz.prog 76 [(0,1),(1,1),(2,1),(3,2),(5,10)] [.slice none 0 0,.int .i64 0,.int .i64 0,.slice none 0 0,.int .i64 0,.bool false,.bool false,.bool false,.bool false,.bool false,.bool false,.bool false,.bool false,.bool false,.bool false]:=⟨lq Tryz.underlying76 Fy fun W=>by kernel_rfl⟩
instance HD:ai Tryz.prog 79 (.array 10 3):=⟨Tryz.underlying79⟩
theorem Fz:Inf Tryz.prog 79 10 80 [.int .i64 0,.int .i64 0,.int .i64 0,.int .i64 0,.int .i64 0,.int .i64 0,.int .i64 0,.int .i64 0,.int .i64 0,.int .i64 0]:=dw (by kernel_rfl) rfl rfl
instance HF:ar Tryz.prog 79 10 80 [.int .i64 0,.int .i64 0,.int .i64 0,.int .i64 0,.int .i64 0,.int .i64 0,.int .i64 0,.int .i64 0,.int .i64 0,.int .i64 0]:=⟨Fz⟩
instance HG:ai Tryz.prog 146 (.array 256 4):=⟨Tryz.underlying146⟩
set_option maxRecDepth 100000 in
theorem zI:Inf Tryz.prog 146 256 256 [.bool false,.bool false,.bool false,.bool false,.bool false,.bool false,.bool false,.bool false,.bool false,.bool false,.bool false,.bool false,.bool false,.bool false,.bool false,.bool false,.bool false,.bool false,.bool false,.bool false,.bool false,.bool false,.bool false,.bool false,.bool false,.bool false,.bool false,.bool false,.bool false,.bool false,.bool false,.bool false,.bool false,.bool false,.bool false,.bool false,.bool false,.bool false,.bool false,.bool false,.bool false,.bool false,.bool false,.bool false,.bool false,.bool false,.bool false,.bool false,.bool false,.bool false,.bool false,.bool false,.bool false,.bool false,.bool false,.bool false,.bool false,.bool false,.bool false,.bool false,.bool false,.bool false,.bool false,.bool false,.bool false,.bool false,.bool false,.bool false,.bool false,.bool false,.bool false,.bool false,.bool false,.bool false,.bool false,.bool false,.bool false,.bool false,.bool false,.bool false,.bool false,.bool false,.bool false,.bool false,.bool false,.bool false,.bool false,.bool false,.bool false,.bool false,.bool false,.bool false,.bool false,.bool false,.bool false,.bool false,.bool false,.bool false,.bool false,.bool false,.bool false,.bool false,.bool false,.bool false,.bool false,.bool false,.bool false,.bool false,.bool false,.bool false,.bool false,.bool false,.bool false,.bool false,.bool false,.bool false,.bool false,.bool false,.bool false,.bool false,.bool false,.bool false,.bool false,.bool false,.bool false,.bool false,.bool false,.bool false,.bool false,.bool false,.bool false,.bool false,.bool false,.bool false,.bool false,.bool false,.bool false,.bool false,.bool false,.bool false,.bool false,.bool false,.bool false,.bool false,.bool false,.bool false,.bool false,.bool false,.bool false,.bool false,.bool false,.bool false,.bool false,.bool false,.bool false,.bool false,.bool false,.bool false,.bool false,.bool false,.bool false,.bool false,.bool false,.bool false,.bool false,.bool false,.bool false,.bool false,.bool false,.bool false,.bool false,.bool false,.bool false,.bool false,.bool false,.bool false,.bool false,.bool false,.bool false,.bool false,.bool false,.bool false,.bool false,.bool false,.bool false,.bool false,.bool false,.bool false,.bool false,.bool false,.bool false,.bool false,.bool false,.bool false,.bool false,.bool false,.bool false,.bool false,.bool false,.bool false,.bool false,.bool false,.bool false,.bool false,.bool false,.bool false,.bool false,.bool false,.bool false,.bool false,.bool false,.bool false,.bool false,.bool false,.bool false,.bool false,.bool false,.bool false,.bool false,.bool false,.bool false,.bool false,.bool false,.bool false,.bool false,.bool false,.bool false,.bool false,.bool false,.bool false,.bool false,.bool false,.bool false,.bool false,.bool false,.bool false,.bool false,.bool false,.bool false,.bool false,.bool false,.bool false,.bool false,.bool false,.bool false,.bool false,.bool false,.bool false,.bool false,.bool false,.bool false,.bool false,.bool false,.bool false,.bool false,.bool false]:=dw (by kernel_rfl) rfl rfl
instance HH:ar Tryz.prog 146 256 256 [.bool false,.bool false,.bool false,.bool false,.bool false,.bool false,.bool false,.bool false,.bool false,.bool false,.bool false,.bool false,.bool false,.bool false,.bool false,.bool false,.bool false,.bool false,.bool false,.bool false,.bool false,.bool false,.bool false,.bool false,.bool false,.bool false,.bool false,.bool false,.bool false,.bool false,.bool false,.bool false,.bool false,.bool false,.bool false,.bool false,.bool false,.bool false,.bool false,.bool false,.bool false,.bool false,.bool false,.bool false,.bool false,.bool false,.bool false,.bool false,.bool false,.bool false,.bool false,.bool false,.bool false,.bool false,.bool false,.bool false,.bool false,.bool false,.bool false,.bool false,.bool false,.bool false,.bool false,.bool false,.bool false,.bool false,.bool false,.bool false,.bool false,.bool false,.bool false,.bool false,.bool false,.bool false,.bool false,.bool false,.bool false,.bool false,.bool false,.bool false,.bool false,.bool false,.bool false,.bool false,.bool false,.bool false,.bool false,.bool false,.bool false,.bool false,.bool false,.bool false,.bool false,.bool false,.bool false,.bool false,.bool false,.bool false,.bool false,.bool false,.bool false,.bool false,.bool false,.bool false,.bool false,.bool false,.bool false,.bool false,.bool false,.bool false,.bool false,.bool false,.bool false,.bool false,.bool false,.bool false,.bool false,.bool false,.bool false,.bool false,.bool false,.bool false,.bool false,.bool false,.bool false,.bool false,.bool false,.bool false,.bool false,.bool false,.bool false,.bool false,.bool false,.bool false,.bool false,.bool false,.bool false,.bool false,.bool false,.bool false,.bool false,.bool false,.bool false,.bool false,.bool false,.bool false,.bool false,.bool false,.bool false,.bool false,.bool false,.bool false,.bool false,.bool false,.bool false,.bool false,.bool false,.bool false,.bool false,.bool false,.bool false,.bool false,.bool false,.bool false,.bool false,.bool false,.bool false,.bool false,.bool false,.bool false,.bool false,.bool false,.bool false,.bool false,.bool false,.bool false,.bool false,.bool false,.bool false,.bool false,.bool false,.bool false,.bool false,.bool false,.bool false,.bool false,.bool false,.bool false,.bool false,.bool false,.bool false,.bool false,.bool false,.bool false,.bool false,.bool false,.bool false,.bool false,.bool false,.bool false,.bool false,.bool false,.bool false,.bool false,.bool false,.bool false,.bool false,.bool false,.bool false,.bool false,.bool false,.bool false,.bool false,.bool false,.bool false,.bool false,.bool false,.bool false,.bool false,.bool false,.bool false,.bool false,.bool false,.bool false,.bool false,.bool false,.bool false,.bool false,.bool false,.bool false,.bool false,.bool false,.bool false,.bool false,.bool false,.bool false,.bool false,.bool false,.bool false,.bool false,.bool false,.bool false,.bool false,.bool false,.bool false,.bool false,.bool false,.bool false,.bool false,.bool false,.bool false,.bool false,.bool false,.bool false,.bool false,.bool false]:=⟨zI⟩
theorem zJ:Shp Tryz.prog 146 true 256:=eO Tryz.underlying146 zI rfl
instance HI:ae Tryz.prog 146 true 256:=⟨zJ⟩
set_option maxRecDepth 100000 in
theorem vN:Inf Tryz.prog 148 260 288 [.int .i64 0,.bool false,.bool false,.bool false,.bool false,.bool false,.bool false,.bool false,.bool false,.bool false,.bool false,.bool false,.bool false,.bool false,.bool false,.bool false,.bool false,.bool false,.bool false,.bool false,.bool false,.bool false,.bool false,.bool false,.bool false,.bool false,.bool false,.bool false,.bool false,.bool false,.bool false,.bool false,.bool false,.bool false,.bool false,.bool false,.bool false,.bool false,.bool false,.bool false,.bool false,.bool false,.bool false,.bool false,.bool false,.bool false,.bool false,.bool false,.bool false,.bool false,.bool false,.bool false,.bool false,.bool false,.bool false,.bool false,.bool false,.bool false,.bool false,.bool false,.bool false,.bool false,.bool false,.bool false,.bool false,.bool false,.bool false,.bool false,.bool false,.bool false,.bool false,.bool false,.bool false,.bool false,.bool false,.bool false,.bool false,.bool false,.bool false,.bool false,.bool false,.bool false,.bool false,.bool false,.bool false,.bool false,.bool false,.bool false,.bool false,.bool false,.bool false,.bool false,.bool false,.bool false,.bool false,.bool false,.bool false,.bool false,.bool false,.bool false,.bool false,.bool false,.bool false,.bool false,.bool false,.bool false,.bool false,.bool false,.bool false,.bool false,.bool false,.bool false,.bool false,.bool false,.bool false,.bool false,.bool false,.bool false,.bool false,.bool false,.bool false,.bool false,.bool false,.bool false,.bool false,.bool false,.bool false,.bool false,.bool false,.bool false,.bool false,.bool false,.bool false,.bool false,.bool false,.bool false,.bool false,.bool false,.bool false,.bool false,.bool false,.bool false,.bool false,.bool false,.bool false,.bool false,.bool false,.bool false,.bool false,.bool false,.bool false,.bool false,.bool false,.bool false,.bool false,.bool false,.bool false,.bool false,.bool false,.bool false,.bool false,.bool false,.bool false,.bool false,.bool false,.bool false,.bool false,.bool false,.bool false,.bool false,.bool false,.bool false,.bool false,.bool false,.bool false,.bool false,.bool false,.bool false,.bool false,.bool false,.bool false,.bool false,.bool false,.bool false,.bool false,.bool false,.bool false,.bool false,.bool false,.bool false,.bool false,.bool false,.bool false,.bool false,.bool false,.bool false,.bool false,.bool false,.bool false,.bool false,.bool false,.bool false,.bool false,.bool false,.bool false,.bool false,.bool false,.bool false,.bool false,.bool false,.bool false,.bool false,.bool false,.bool false,.bool false,.bool false,.bool false,.bool false,.bool false,.bool false,.bool false,.bool false,.bool false,.bool false,.bool false,.bool false,.bool false,.bool false,.bool false,.bool false,.bool false,.bool false,.bool false,.bool false,.bool false,.bool false,.bool false,.bool false,.bool false,.bool false,.bool false,.bool false,.bool false,.bool false,.bool false,.bool false,.bool false,.bool false,.bool false,.bool false,.bool false,.bool false,.bool false,.bool false,.bool false,.bool false,.bool false,.bool false,.int .i64 0,.int .i64 0]:=dw (by kernel_rfl) rfl rfl
instance HJ:ar Tryz.prog 148 260 288 [.int .i64 0,.bool false,.bool false,.bool false,.bool false,.bool false,.bool false,.bool false,.bool false,.bool false,.bool false,.bool false,.bool false,.bool false,.bool false,.bool false,.bool false,.bool false,.bool false,.bool false,.bool false,.bool false,.bool false,.bool false,.bool false,.bool false,.bool false,.bool false,.bool false,.bool false,.bool false,.bool false,.bool false,.bool false,.bool false,.bool false,.bool false,.bool false,.bool false,.bool false,.bool false,.bool false,.bool false,.bool false,.bool false,.bool false,.bool false,.bool false,.bool false,.bool false,.bool false,.bool false,.bool false,.bool false,.bool false,.bool false,.bool false,.bool false,.bool false,.bool false,.bool false,.bool false,.bool false,.bool false,.bool false,.bool false,.bool false,.bool false,.bool false,.bool false,.bool false,.bool false,.bool false,.bool false,.bool false,.bool false,.bool false,.bool false,.bool false,.bool false,.bool false,.bool false,.bool false,.bool false,.bool false,.bool false,.bool false,.bool false,.bool false,.bool false,.bool false,.bool false,.bool false,.bool false,.bool false,.bool false,.bool false,.bool false,.bool false,.bool false,.bool false,.bool false,.bool false,.bool false,.bool false,.bool false,.bool false,.bool false,.bool false,.bool false,.bool false,.bool false,.bool false,.bool false,.bool false,.bool false,.bool false,.bool false,.bool false,.bool false,.bool false,.bool false,.bool false,.bool false,.bool false,.bool false,.bool false,.bool false,.bool false,.bool false,.bool false,.bool false,.bool false,.bool false,.bool false,.bool false,.bool false,.bool false,.bool false,.bool false,.bool false,.bool false,.bool false,.bool false,.bool false,.bool false,.bool false,.bool false,.bool false,.bool false,.bool false,.bool false,.bool false,.bool false,.bool false,.bool false,.bool false,.bool false,.bool false,.bool false,.bool false,.bool false,.bool false,.bool false,.bool false,.bool false,.bool false,.bool false,.bool false,.bool false,.bool false,.bool false,.bool false,.bool false,.bool false,.bool false,.bool false,.bool false,.bool false,.bool false,.bool false,.bool false,.bool false,.bool false,.bool false,.bool false,.bool false,.bool false,.bool false,.bool false,.bool false,.bool false,.bool false,.bool false,.bool false,.bool false,.bool false,.bool false,.bool false,.bool false,.bool false,.bool false,.bool false,.bool false,.bool false,.bool false,.bool false,.bool false,.bool false,.bool false,.bool false,.bool false,.bool false,.bool false,.bool false,.bool false,.bool false,.bool false,.bool false,.bool false,.bool false,.bool false,.bool false,.bool false,.bool false,.bool false,.bool false,.bool false,.bool false,.bool false,.bool false,.bool false,.bool false,.bool false,.bool false,.bool false,.bool false,.bool false,.bool false,.bool false,.bool false,.bool false,.bool false,.bool false,.bool false,.bool false,.bool false,.bool false,.bool false,.bool false,.bool false,.bool false,.bool false,.bool false,.bool false,.bool false,.bool false,.bool false,.int .i64 0,.int .i64 0]:=⟨vN⟩
theorem Ez:Shp Tryz.prog 148 true 260:=eO Tryz.underlying148 vN rfl
instance HK:ae Tryz.prog 148 true 260:=⟨Ez⟩
instance HM:bE Tryz.prog 148 0 0 false 1:=⟨⟨_,_,Tryz.underlying148,rfl,rfl,iT⟩⟩
instance HN:bE Tryz.prog 148 1 1 true 256:=⟨⟨_,_,Tryz.underlying148,rfl,rfl,zJ⟩⟩
instance HP:bE Tryz.prog 148 2 257 false 1:=⟨⟨_,_,Tryz.underlying148,rfl,rfl,xY⟩⟩
instance HQ:bE Tryz.prog 148 3 258 false 1:=⟨⟨_,_,Tryz.underlying148,rfl,rfl,iT⟩⟩
instance HR:bE Tryz.prog 148 4 259 false 1:=⟨⟨_,_,Tryz.underlying148,rfl,rfl,iT⟩⟩
instance HS:aQ Tryz.prog 148 [(0,1),(1,256),(257,1),(258,1),(259,1)] [.int .i64 0,.bool false,.bool false,.bool false,.bool false,.bool false,.bool false,.bool false,.bool false,.bool false,.bool false,.bool false,.bool false,.bool false,.bool false,.bool false,.bool false,.bool false,.bool false,.bool false,.bool false,.bool false,.bool false,.bool false,.bool false,.bool false,.bool false,.bool false,.bool false,.bool false,.bool false,.bool false,.bool false,.bool false,.bool false,.bool false,.bool false,.bool false,.bool false,.bool false,.bool false,.bool false,.bool false,.bool false,.bool false,.bool false,.bool false,.bool false,.bool false,.bool false,.bool false,.bool false,.bool false,.bool false,.bool false,.bool false,.bool false,.bool false,.bool false,.bool false,.bool false,.bool false,.bool false,.bool false,.bool false,.bool false,.bool false,.bool false,.bool false,.bool false,.bool false,.bool false,.bool false,.bool false,.bool false,.bool false,.bool false,.bool false,.bool false,.bool false,.bool false,.bool false,.bool false,.bool false,.bool false,.bool false,.bool false,.bool false,.bool false,.bool false,.bool false,.bool false,.bool false,.bool false,.bool false,.bool false,.bool false,.bool false,.bool false,.bool false,.bool false,.bool false,.bool false,.bool false,.bool false,.bool false,.bool false,.bool false,.bool false,.bool false,.bool false,.bool false,.bool false,.bool false,.bool false,.bool false,.bool false,.bool false,.bool false,.bool false,.bool false,.bool false,.bool false,.bool false,.bool false,.bool false,.bool false,.bool false,.bool false,.bool false,.bool false,.bool false,.bool false,.bool false,.bool false,.bool false,.bool false,.bool false,.bool false,.bool false,.bool false,.bool false,.bool false,.bool false,.bool false,.bool false,.bool false,.bool false,.bool false,.bool false,.bool false,.bool false,.bool false,.bool false,.bool false,.bool false,.bool false,.bool false,.bool false,.bool false,.bool false,.bool false,.bool false,.bool false,.bool false,.bool false,.bool false,.bool false,.bool false,.bool false,.bool false,.bool false,.bool false,.bool false,.bool false,.bool false,.bool false,.bool false,.bool false,.bool false,.bool false,.bool false,.bool false,.bool false,.bool false,.bool false,.bool false,.bool false,.bool false,.bool false,.bool false,.bool false,.bool false,.bool false,.bool false,.bool false,.bool false,.bool false,.bool false,.bool false,.bool false,.bool false,.bool false,.bool false,.bool false,.bool false,.bool false,.bool false,.bool false,.bool false,.bool false,.bool false,.bool false,.bool false,.bool false,.bool false,.bool false,.bool false,.bool false,.bool false,.bool false,.bool false,.bool false,.bool false,.bool false,.bool false,.bool false,.bool false,.bool false,.bool false,.bool false,.bool false,.bool false,.bool false,.bool false,.bool false,.bool false,.bool false,.bool false,.bool false,.bool false,.bool false,.bool false,.bool false,.bool false,.bool false,.bool false,.bool false,.bool false,.bool false,.bool false,.bool false,.bool false,.bool false,.bool false,.bool false,.bool false,.bool false,.int .i64 0,.int .i64 0]:=⟨lq Tryz.underlying148 vN fun W=>by kernel_rfl⟩
theorem vO:Inf Tryz.prog 162 7 56 [.int .u8 0,.int .u64 0,.int .u64 0,.int .u64 0,.int .u64 0,.bool false,.int .i64 0]:=dw (by kernel_rfl) rfl rfl
instance HT:ar Tryz.prog 162 7 56 [.int .u8 0,.int .u64 0,.int .u64 0,.int .u64 0,.int .u64 0,.bool false,.int .i64 0]:=⟨vO⟩
theorem EA:Shp Tryz.prog 162 true 7:=eO Tryz.underlying162 vO rfl
instance HU:ae Tryz.prog 162 true 7:=⟨EA⟩
instance HV:bE Tryz.prog 162 0 0 false 1:=⟨⟨_,_,Tryz.underlying162,rfl,rfl,Ex⟩⟩
instance HX:bE Tryz.prog 162 1 1 true 4:=⟨⟨_,_,Tryz.underlying162,rfl,rfl,ya⟩⟩
instance HY:bE Tryz.prog 162 2 5 false 1:=⟨⟨_,_,Tryz.underlying162,rfl,rfl,xY⟩⟩
instance HZ:bE Tryz.prog 162 3 6 false 1:=⟨⟨_,_,Tryz.underlying162,rfl,rfl,iT⟩⟩
instance H1:aQ Tryz.prog 162 [(0,1),(1,4),(5,1),(6,1)] [.int .u8 0,.int .u64 0,.int .u64 0,.int .u64 0,.int .u64 0,.bool false,.int .i64 0]:=⟨lq Tryz.underlying162 vO fun W=>by kernel_rfl⟩
instance H2:ai Tryz.prog 167 (.slice 41):=⟨Tryz.underlying167⟩
end Go.Proofs.YtnbceeholnkfeaaGreatDoor
