/- Facts of the types. -/
import Derived.Test.YtnbceeholnkfeaaGreatDoorProg
import Derived.Test.YtnbceeholnkfeaaGreatDoorFront
namespace Go.Proofs.YtnbceeholnkfeaaGreatDoor
instance Fq : ah Tryz.prog 3 (.int .i64):=⟨Tryz.underlying3⟩
theorem Cb : Inf Tryz.prog 3 1 8 [.int .i64 0]:=db (by kernel_rfl) rfl rfl
instance Fr : ar Tryz.prog 3 1 8 [.int .i64 0]:=⟨Cb⟩
theorem iw : Shp Tryz.prog 3 false 1:=eh Tryz.underlying3 Cb rfl
instance Fs : ae Tryz.prog 3 false 1:=⟨iw⟩
instance Fv : ah Tryz.prog 4 (.bool):=⟨Tryz.underlying4⟩
theorem D7 : Inf Tryz.prog 4 1 1 [.bool false]:=db (by kernel_rfl) rfl rfl
theorem wa : Shp Tryz.prog 4 false 1:=eh Tryz.underlying4 D7 rfl
instance Fw : ae Tryz.prog 4 false 1:=⟨wa⟩
instance Fx : ah Tryz.prog 5 (.int .u8):=⟨Tryz.underlying5⟩
theorem Cc : Inf Tryz.prog 5 1 1 [.int .u8 0]:=db (by kernel_rfl) rfl rfl
instance Fy : ar Tryz.prog 5 1 1 [.int .u8 0]:=⟨Cc⟩
theorem Cd : Shp Tryz.prog 5 false 1:=eh Tryz.underlying5 Cc rfl
instance Fz : ae Tryz.prog 5 false 1:=⟨Cd⟩
instance FD : ah Tryz.prog 9 (.string):=⟨Tryz.underlying9⟩
theorem Ce : Inf Tryz.prog 9 1 16 [.string ⟨#[]⟩]:=db (by kernel_rfl) rfl rfl
instance FF : ar Tryz.prog 9 1 16 [.string ⟨#[]⟩]:=⟨Ce⟩
theorem D8 : Shp Tryz.prog 9 false 1:=eh Tryz.underlying9 Ce rfl
instance FG : ae Tryz.prog 9 false 1:=⟨D8⟩
instance FH : ah Tryz.prog 22 (.slice 5):=⟨Tryz.underlying22⟩
theorem CV : Inf Tryz.prog 22 1 24 [.slice none 0 0]:=db (by kernel_rfl) rfl rfl
theorem sJ : Shp Tryz.prog 22 false 1:=eh Tryz.underlying22 CV rfl
instance FI : ae Tryz.prog 22 false 1:=⟨sJ⟩
instance FJ : ah Tryz.prog 24 (.slice 43):=⟨Tryz.underlying24⟩
theorem CW : Inf Tryz.prog 24 1 24 [.slice none 0 0]:=db (by kernel_rfl) rfl rfl
theorem sK : Shp Tryz.prog 24 false 1:=eh Tryz.underlying24 CW rfl
instance FK : ae Tryz.prog 24 false 1:=⟨sK⟩
theorem wb : Inf Tryz.prog 26 2 32 [.slice none 0 0,.int .i64 0]:=db (by kernel_rfl) rfl rfl
instance FM : ar Tryz.prog 26 2 32 [.slice none 0 0,.int .i64 0]:=⟨wb⟩
theorem CX : Shp Tryz.prog 26 true 2:=eh Tryz.underlying26 wb rfl
instance FN : ae Tryz.prog 26 true 2:=⟨CX⟩
instance FO : bq Tryz.prog 26 0 0 false 1:=⟨⟨_,_,Tryz.underlying26,rfl,rfl,sK⟩⟩
instance FQ : bq Tryz.prog 26 1 1 false 1:=⟨⟨_,_,Tryz.underlying26,rfl,rfl,iw⟩⟩
instance FR : aO Tryz.prog 26 [(0,1),(1,1)] [.slice none 0 0,.int .i64 0]:=⟨kC Tryz.underlying26 wb fun W=>by kernel_rfl⟩
theorem CY : Inf Tryz.prog 27 1 8 [.int .i64 0]:=db (by kernel_rfl) rfl rfl
theorem wc : Shp Tryz.prog 27 false 1:=eh Tryz.underlying27 CY rfl
instance FSq : ae Tryz.prog 27 false 1:=⟨wc⟩
instance Ef : ah Tryz.prog 39 (.int .u64):=⟨Tryz.underlying39⟩
theorem CZ : Inf Tryz.prog 39 1 8 [.int .u64 0]:=db (by kernel_rfl) rfl rfl
theorem C0 : Shp Tryz.prog 39 false 1:=eh Tryz.underlying39 CZ rfl
instance Eg : ae Tryz.prog 39 false 1:=⟨C0⟩
instance Eh : ah Tryz.prog 41 (.array 4 39):=⟨Tryz.underlying41⟩
theorem zI : Inf Tryz.prog 41 4 32 [.int .u64 0,.int .u64 0,.int .u64 0,.int .u64 0]:=db (by kernel_rfl) rfl rfl
instance Ei : ar Tryz.prog 41 4 32 [.int .u64 0,.int .u64 0,.int .u64 0,.int .u64 0]:=⟨zI⟩
theorem wd : Shp Tryz.prog 41 true 4:=eh Tryz.underlying41 zI rfl
instance Ej : ae Tryz.prog 41 true 4:=⟨wd⟩
theorem we : Inf Tryz.prog 43 10 80 [.int .i64 0,.int .i64 0,.int .i64 0,.int .i64 0,.int .i64 0,.int .i64 0,.int .u64 0,.int .u64 0,.int .u64 0,.int .u64 0]:=db (by kernel_rfl) rfl rfl
instance Ek : ar Tryz.prog 43 10 80 [.int .i64 0,.int .i64 0,.int .i64 0,.int .i64 0,.int .i64 0,.int .i64 0,.int .u64 0,.int .u64 0,.int .u64 0,.int .u64 0]:=⟨we⟩
theorem C1 : Shp Tryz.prog 43 true 10:=eh Tryz.underlying43 we rfl
instance El : ae Tryz.prog 43 true 10:=⟨C1⟩
instance Em : bq Tryz.prog 43 0 0 false 1:=⟨⟨_,_,Tryz.underlying43,rfl,rfl,iw⟩⟩
instance Eo : bq Tryz.prog 43 1 1 false 1:=⟨⟨_,_,Tryz.underlying43,rfl,rfl,iw⟩⟩
instance Ep : bq Tryz.prog 43 2 2 false 1:=⟨⟨_,_,Tryz.underlying43,rfl,rfl,iw⟩⟩
instance Er : bq Tryz.prog 43 3 3 false 1:=⟨⟨_,_,Tryz.underlying43,rfl,rfl,iw⟩⟩
instance Es : bq Tryz.prog 43 4 4 false 1:=⟨⟨_,_,Tryz.underlying43,rfl,rfl,iw⟩⟩
instance Et : bq Tryz.prog 43 5 5 false 1:=⟨⟨_,_,Tryz.underlying43,rfl,rfl,iw⟩⟩
instance Eu : bq Tryz.prog 43 6 6 true 4:=⟨⟨_,_,Tryz.underlying43,rfl,rfl,wd⟩⟩
instance Ev : aO Tryz.prog 43 [(0,1),(1,1),(2,1),(3,1),(4,1),(5,1),(6,4)] [.int .i64 0,.int .i64 0,.int .i64 0,.int .i64 0,.int .i64 0,.int .i64 0,.int .u64 0,.int .u64 0,.int .u64 0,.int .u64 0]:=⟨kC Tryz.underlying43 we fun W=>by kernel_rfl⟩
theorem wg : Inf Tryz.prog 49 1 1 [.bool false]:=db (by kernel_rfl) rfl rfl
instance Ew : ar Tryz.prog 49 1 1 [.bool false]:=⟨wg⟩
theorem C2 : Shp Tryz.prog 49 true 1:=eh Tryz.underlying49 wg rfl
instance Ex : ae Tryz.prog 49 true 1:=⟨C2⟩
instance Ey : bq Tryz.prog 49 0 0 false 1:=⟨⟨_,_,Tryz.underlying49,rfl,rfl,wa⟩⟩
instance Ez : aO Tryz.prog 49 [(0,1)] [.bool false]:=⟨kC Tryz.underlying49 wg fun W=>by kernel_rfl⟩
instance EA : ah Tryz.prog 50 (.slice 9):=⟨Tryz.underlying50⟩
instance EB : ah Tryz.prog 53 (.slice 3):=⟨Tryz.underlying53⟩
theorem C3 : Inf Tryz.prog 56 2 32 [.slice none 0 0,.int .i64 0]:=db (by kernel_rfl) rfl rfl
theorem zJ : Shp Tryz.prog 56 true 2:=eh Tryz.underlying56 C3 rfl
instance EC : bq Tryz.prog 56 0 0 false 1:=⟨⟨_,_,Tryz.underlying56,rfl,rfl,sK⟩⟩
instance ED : bq Tryz.prog 56 1 1 false 1:=⟨⟨_,_,Tryz.underlying56,rfl,rfl,iw⟩⟩
instance EE : ah Tryz.prog 57 (.array 10 4):=⟨Tryz.underlying57⟩
theorem C4 : Inf Tryz.prog 57 10 10 [.bool false,.bool false,.bool false,.bool false,.bool false,.bool false,.bool false,.bool false,.bool false,.bool false]:=db (by kernel_rfl) rfl rfl
theorem wh : Shp Tryz.prog 57 true 10:=eh Tryz.underlying57 C4 rfl
theorem C5 : Inf Tryz.prog 59 15 88 [.slice none 0 0,.int .i64 0,.slice none 0 0,.int .i64 0,.int .i64 0,.bool false,.bool false,.bool false,.bool false,.bool false,.bool false,.bool false,.bool false,.bool false,.bool false]:=db (by kernel_rfl) rfl rfl
instance EF : bq Tryz.prog 59 0 0 true 2:=⟨⟨_,_,Tryz.underlying59,rfl,rfl,zJ⟩⟩
instance EG : bq Tryz.prog 59 1 2 false 1:=⟨⟨_,_,Tryz.underlying59,rfl,rfl,sJ⟩⟩
instance EH : bq Tryz.prog 59 2 3 false 1:=⟨⟨_,_,Tryz.underlying59,rfl,rfl,iw⟩⟩
instance EI : bq Tryz.prog 59 3 4 false 1:=⟨⟨_,_,Tryz.underlying59,rfl,rfl,wc⟩⟩
instance EJ : bq Tryz.prog 59 4 5 true 10:=⟨⟨_,_,Tryz.underlying59,rfl,rfl,wh⟩⟩
instance EK : aO Tryz.prog 59 [(0,2),(2,1),(3,1),(4,1),(5,10)] [.slice none 0 0,.int .i64 0,.slice none 0 0,.int .i64 0,.int .i64 0,.bool false,.bool false,.bool false,.bool false,.bool false,.bool false,.bool false,.bool false,.bool false,.bool false]:=⟨kC Tryz.underlying59 C5 fun W=>by kernel_rfl⟩
theorem C6 : Inf Tryz.prog 66 14 80 [.slice none 0 0,.int .i64 0,.slice none 0 0,.int .i64 0,.bool false,.bool false,.bool false,.bool false,.bool false,.bool false,.bool false,.bool false,.bool false,.bool false]:=db (by kernel_rfl) rfl rfl
instance EL : bq Tryz.prog 66 0 0 true 2:=⟨⟨_,_,Tryz.underlying66,rfl,rfl,zJ⟩⟩
instance EM : bq Tryz.prog 66 1 2 false 1:=⟨⟨_,_,Tryz.underlying66,rfl,rfl,sJ⟩⟩
instance EN : bq Tryz.prog 66 2 3 false 1:=⟨⟨_,_,Tryz.underlying66,rfl,rfl,iw⟩⟩
instance EO : bq Tryz.prog 66 3 4 true 10:=⟨⟨_,_,Tryz.underlying66,rfl,rfl,wh⟩⟩
instance EP : aO Tryz.prog 66 [(0,2),(2,1),(3,1),(4,10)] [.slice none 0 0,.int .i64 0,.slice none 0 0,.int .i64 0,.bool false,.bool false,.bool false,.bool false,.bool false,.bool false,.bool false,.bool false,.bool false,.bool false]:=⟨kC Tryz.underlying66 C6 fun W=>by kernel_rfl⟩
instance EQ : ah Tryz.prog 67 (.pointer 71):=⟨Tryz.underlying67⟩
theorem C7 : Inf Tryz.prog 71 2 16 [.int .i64 0,.int .i64 0]:=db (by kernel_rfl) rfl rfl
instance ER : bq Tryz.prog 71 0 0 false 1:=⟨⟨_,_,Tryz.underlying71,rfl,rfl,iw⟩⟩
instance ES : bq Tryz.prog 71 1 1 false 1:=⟨⟨_,_,Tryz.underlying71,rfl,rfl,wc⟩⟩
instance ET : aO Tryz.prog 71 [(0,1),(1,1)] [.int .i64 0,.int .i64 0]:=⟨kC Tryz.underlying71 C7 fun W=>by kernel_rfl⟩
theorem C8 : Inf Tryz.prog 74 2 32 [.slice none 0 0,.int .i64 0]:=db (by kernel_rfl) rfl rfl
theorem C9 : Shp Tryz.prog 74 true 2:=eh Tryz.underlying74 C8 rfl
instance EU : bq Tryz.prog 74 0 0 false 1:=⟨⟨_,_,Tryz.underlying74,rfl,rfl,sK⟩⟩
instance EV : bq Tryz.prog 74 1 1 false 1:=⟨⟨_,_,Tryz.underlying74,rfl,rfl,iw⟩⟩
theorem Da : Inf Tryz.prog 76 15 88 [.slice none 0 0,.int .i64 0,.int .i64 0,.slice none 0 0,.int .i64 0,.bool false,.bool false,.bool false,.bool false,.bool false,.bool false,.bool false,.bool false,.bool false,.bool false]:=db (by kernel_rfl) rfl rfl
instance EW : bq Tryz.prog 76 0 0 false 1:=⟨⟨_,_,Tryz.underlying76,rfl,rfl,sJ⟩⟩
instance EX : bq Tryz.prog 76 1 1 false 1:=⟨⟨_,_,Tryz.underlying76,rfl,rfl,iw⟩⟩
instance EY : bq Tryz.prog 76 2 2 false 1:=⟨⟨_,_,Tryz.underlying76,rfl,rfl,iw⟩⟩
instance EZ : bq Tryz.prog 76 3 3 true 2:=⟨⟨_,_,Tryz.underlying76,rfl,rfl,C9⟩⟩
instance E0 : bq Tryz.prog 76 4 5 true 10:=⟨⟨_,_,Tryz.underlying76,rfl,rfl,wh⟩⟩
instance E1 : aO Tryz.prog 76 [(0,1),(1,1),(2,1),(3,2),(5,10)] [.slice none 0 0,.int .i64 0,.int .i64 0,.slice none 0 0,.int .i64 0,.bool false,.bool false,.bool false,.bool false,.bool false,.bool false,.bool false,.bool false,.bool false,.bool false]:=⟨kC Tryz.underlying76 Da fun W=>by kernel_rfl⟩
instance E2 : ah Tryz.prog 79 (.array 10 3):=⟨Tryz.underlying79⟩
theorem Db : Inf Tryz.prog 79 10 80 [.int .i64 0,.int .i64 0,.int .i64 0,.int .i64 0,.int .i64 0,.int .i64 0,.int .i64 0,.int .i64 0,.int .i64 0,.int .i64 0]:=db (by kernel_rfl) rfl rfl
instance E3 : ar Tryz.prog 79 10 80 [.int .i64 0,.int .i64 0,.int .i64 0,.int .i64 0,.int .i64 0,.int .i64 0,.int .i64 0,.int .i64 0,.int .i64 0,.int .i64 0]:=⟨Db⟩
instance E4 : ah Tryz.prog 146 (.array 256 4):=⟨Tryz.underlying146⟩
set_option maxRecDepth 100000 in
theorem xo : Inf Tryz.prog 146 256 256 [.bool false,.bool false,.bool false,.bool false,.bool false,.bool false,.bool false,.bool false,.bool false,.bool false,.bool false,.bool false,.bool false,.bool false,.bool false,.bool false,.bool false,.bool false,.bool false,.bool false,.bool false,.bool false,.bool false,.bool false,.bool false,.bool false,.bool false,.bool false,.bool false,.bool false,.bool false,.bool false,.bool false,.bool false,.bool false,.bool false,.bool false,.bool false,.bool false,.bool false,.bool false,.bool false,.bool false,.bool false,.bool false,.bool false,.bool false,.bool false,.bool false,.bool false,.bool false,.bool false,.bool false,.bool false,.bool false,.bool false,.bool false,.bool false,.bool false,.bool false,.bool false,.bool false,.bool false,.bool false,.bool false,.bool false,.bool false,.bool false,.bool false,.bool false,.bool false,.bool false,.bool false,.bool false,.bool false,.bool false,.bool false,.bool false,.bool false,.bool false,.bool false,.bool false,.bool false,.bool false,.bool false,.bool false,.bool false,.bool false,.bool false,.bool false,.bool false,.bool false,.bool false,.bool false,.bool false,.bool false,.bool false,.bool false,.bool false,.bool false,.bool false,.bool false,.bool false,.bool false,.bool false,.bool false,.bool false,.bool false,.bool false,.bool false,.bool false,.bool false,.bool false,.bool false,.bool false,.bool false,.bool false,.bool false,.bool false,.bool false,.bool false,.bool false,.bool false,.bool false,.bool false,.bool false,.bool false,.bool false,.bool false,.bool false,.bool false,.bool false,.bool false,.bool false,.bool false,.bool false,.bool false,.bool false,.bool false,.bool false,.bool false,.bool false,.bool false,.bool false,.bool false,.bool false,.bool false,.bool false,.bool false,.bool false,.bool false,.bool false,.bool false,.bool false,.bool false,.bool false,.bool false,.bool false,.bool false,.bool false,.bool false,.bool false,.bool false,.bool false,.bool false,.bool false,.bool false,.bool false,.bool false,.bool false,.bool false,.bool false,.bool false,.bool false,.bool false,.bool false,.bool false,.bool false,.bool false,.bool false,.bool false,.bool false,.bool false,.bool false,.bool false,.bool false,.bool false,.bool false,.bool false,.bool false,.bool false,.bool false,.bool false,.bool false,.bool false,.bool false,.bool false,.bool false,.bool false,.bool false,.bool false,.bool false,.bool false,.bool false,.bool false,.bool false,.bool false,.bool false,.bool false,.bool false,.bool false,.bool false,.bool false,.bool false,.bool false,.bool false,.bool false,.bool false,.bool false,.bool false,.bool false,.bool false,.bool false,.bool false,.bool false,.bool false,.bool false,.bool false,.bool false,.bool false,.bool false,.bool false,.bool false,.bool false,.bool false,.bool false,.bool false,.bool false,.bool false,.bool false,.bool false,.bool false,.bool false,.bool false,.bool false,.bool false,.bool false,.bool false,.bool false,.bool false,.bool false,.bool false,.bool false,.bool false,.bool false,.bool false]:=db (by kernel_rfl) rfl rfl
instance E5 : ar Tryz.prog 146 256 256 [.bool false,.bool false,.bool false,.bool false,.bool false,.bool false,.bool false,.bool false,.bool false,.bool false,.bool false,.bool false,.bool false,.bool false,.bool false,.bool false,.bool false,.bool false,.bool false,.bool false,.bool false,.bool false,.bool false,.bool false,.bool false,.bool false,.bool false,.bool false,.bool false,.bool false,.bool false,.bool false,.bool false,.bool false,.bool false,.bool false,.bool false,.bool false,.bool false,.bool false,.bool false,.bool false,.bool false,.bool false,.bool false,.bool false,.bool false,.bool false,.bool false,.bool false,.bool false,.bool false,.bool false,.bool false,.bool false,.bool false,.bool false,.bool false,.bool false,.bool false,.bool false,.bool false,.bool false,.bool false,.bool false,.bool false,.bool false,.bool false,.bool false,.bool false,.bool false,.bool false,.bool false,.bool false,.bool false,.bool false,.bool false,.bool false,.bool false,.bool false,.bool false,.bool false,.bool false,.bool false,.bool false,.bool false,.bool false,.bool false,.bool false,.bool false,.bool false,.bool false,.bool false,.bool false,.bool false,.bool false,.bool false,.bool false,.bool false,.bool false,.bool false,.bool false,.bool false,.bool false,.bool false,.bool false,.bool false,.bool false,.bool false,.bool false,.bool false,.bool false,.bool false,.bool false,.bool false,.bool false,.bool false,.bool false,.bool false,.bool false,.bool false,.bool false,.bool false,.bool false,.bool false,.bool false,.bool false,.bool false,.bool false,.bool false,.bool false,.bool false,.bool false,.bool false,.bool false,.bool false,.bool false,.bool false,.bool false,.bool false,.bool false,.bool false,.bool false,.bool false,.bool false,.bool false,.bool false,.bool false,.bool false,.bool false,.bool false,.bool false,.bool false,.bool false,.bool false,.bool false,.bool false,.bool false,.bool false,.bool false,.bool false,.bool false,.bool false,.bool false,.bool false,.bool false,.bool false,.bool false,.bool false,.bool false,.bool false,.bool false,.bool false,.bool false,.bool false,.bool false,.bool false,.bool false,.bool false,.bool false,.bool false,.bool false,.bool false,.bool false,.bool false,.bool false,.bool false,.bool false,.bool false,.bool false,.bool false,.bool false,.bool false,.bool false,.bool false,.bool false,.bool false,.bool false,.bool false,.bool false,.bool false,.bool false,.bool false,.bool false,.bool false,.bool false,.bool false,.bool false,.bool false,.bool false,.bool false,.bool false,.bool false,.bool false,.bool false,.bool false,.bool false,.bool false,.bool false,.bool false,.bool false,.bool false,.bool false,.bool false,.bool false,.bool false,.bool false,.bool false,.bool false,.bool false,.bool false,.bool false,.bool false,.bool false,.bool false,.bool false,.bool false,.bool false,.bool false,.bool false,.bool false,.bool false,.bool false,.bool false,.bool false,.bool false,.bool false,.bool false,.bool false,.bool false,.bool false,.bool false,.bool false,.bool false,.bool false,.bool false]:=⟨xo⟩
theorem xp : Shp Tryz.prog 146 true 256:=eh Tryz.underlying146 xo rfl
instance E6 : ae Tryz.prog 146 true 256:=⟨xp⟩
set_option maxRecDepth 100000 in
theorem uh : Inf Tryz.prog 148 260 288 [.int .i64 0,.bool false,.bool false,.bool false,.bool false,.bool false,.bool false,.bool false,.bool false,.bool false,.bool false,.bool false,.bool false,.bool false,.bool false,.bool false,.bool false,.bool false,.bool false,.bool false,.bool false,.bool false,.bool false,.bool false,.bool false,.bool false,.bool false,.bool false,.bool false,.bool false,.bool false,.bool false,.bool false,.bool false,.bool false,.bool false,.bool false,.bool false,.bool false,.bool false,.bool false,.bool false,.bool false,.bool false,.bool false,.bool false,.bool false,.bool false,.bool false,.bool false,.bool false,.bool false,.bool false,.bool false,.bool false,.bool false,.bool false,.bool false,.bool false,.bool false,.bool false,.bool false,.bool false,.bool false,.bool false,.bool false,.bool false,.bool false,.bool false,.bool false,.bool false,.bool false,.bool false,.bool false,.bool false,.bool false,.bool false,.bool false,.bool false,.bool false,.bool false,.bool false,.bool false,.bool false,.bool false,.bool false,.bool false,.bool false,.bool false,.bool false,.bool false,.bool false,.bool false,.bool false,.bool false,.bool false,.bool false,.bool false,.bool false,.bool false,.bool false,.bool false,.bool false,.bool false,.bool false,.bool false,.bool false,.bool false,.bool false,.bool false,.bool false,.bool false,.bool false,.bool false,.bool false,.bool false,.bool false,.bool false,.bool false,.bool false,.bool false,.bool false,.bool false,.bool false,.bool false,.bool false,.bool false,.bool false,.bool false,.bool false,.bool false,.bool false,.bool false,.bool false,.bool false,.bool false,.bool false,.bool false,.bool false,.bool false,.bool false,.bool false,.bool false,.bool false,.bool false,.bool false,.bool false,.bool false,.bool false,.bool false,.bool false,.bool false,.bool false,.bool false,.bool false,.bool false,.bool false,.bool false,.bool false,.bool false,.bool false,.bool false,.bool false,.bool false,.bool false,.bool false,.bool false,.bool false,.bool false,.bool false,.bool false,.bool false,.bool false,.bool false,.bool false,.bool false,.bool false,.bool false,.bool false,.bool false,.bool false,.bool false,.bool false,.bool false,.bool false,.bool false,.bool false,.bool false,.bool false,.bool false,.bool false,.bool false,.bool false,.bool false,.bool false,.bool false,.bool false,.bool false,.bool false,.bool false,.bool false,.bool false,.bool false,.bool false,.bool false,.bool false,.bool false,.bool false,.bool false,.bool false,.bool false,.bool false,.bool false,.bool false,.bool false,.bool false,.bool false,.bool false,.bool false,.bool false,.bool false,.bool false,.bool false,.bool false,.bool false,.bool false,.bool false,.bool false,.bool false,.bool false,.bool false,.bool false,.bool false,.bool false,.bool false,.bool false,.bool false,.bool false,.bool false,.bool false,.bool false,.bool false,.bool false,.bool false,.bool false,.bool false,.bool false,.bool false,.bool false,.bool false,.bool false,.bool false,.bool false,.bool false,.bool false,.bool false,.bool false,.bool false,.int .i64 0,.int .i64 0]:=db (by kernel_rfl) rfl rfl
instance E7 : ar Tryz.prog 148 260 288 [.int .i64 0,.bool false,.bool false,.bool false,.bool false,.bool false,.bool false,.bool false,.bool false,.bool false,.bool false,.bool false,.bool false,.bool false,.bool false,.bool false,.bool false,.bool false,.bool false,.bool false,.bool false,.bool false,.bool false,.bool false,.bool false,.bool false,.bool false,.bool false,.bool false,.bool false,.bool false,.bool false,.bool false,.bool false,.bool false,.bool false,.bool false,.bool false,.bool false,.bool false,.bool false,.bool false,.bool false,.bool false,.bool false,.bool false,.bool false,.bool false,.bool false,.bool false,.bool false,.bool false,.bool false,.bool false,.bool false,.bool false,.bool false,.bool false,.bool false,.bool false,.bool false,.bool false,.bool false,.bool false,.bool false,.bool false,.bool false,.bool false,.bool false,.bool false,.bool false,.bool false,.bool false,.bool false,.bool false,.bool false,.bool false,.bool false,.bool false,.bool false,.bool false,.bool false,.bool false,.bool false,.bool false,.bool false,.bool false,.bool false,.bool false,.bool false,.bool false,.bool false,.bool false,.bool false,.bool false,.bool false,.bool false,.bool false,.bool false,.bool false,.bool false,.bool false,.bool false,.bool false,.bool false,.bool false,.bool false,.bool false,.bool false,.bool false,.bool false,.bool false,.bool false,.bool false,.bool false,.bool false,.bool false,.bool false,.bool false,.bool false,.bool false,.bool false,.bool false,.bool false,.bool false,.bool false,.bool false,.bool false,.bool false,.bool false,.bool false,.bool false,.bool false,.bool false,.bool false,.bool false,.bool false,.bool false,.bool false,.bool false,.bool false,.bool false,.bool false,.bool false,.bool false,.bool false,.bool false,.bool false,.bool false,.bool false,.bool false,.bool false,.bool false,.bool false,.bool false,.bool false,.bool false,.bool false,.bool false,.bool false,.bool false,.bool false,.bool false,.bool false,.bool false,.bool false,.bool false,.bool false,.bool false,.bool false,.bool false,.bool false,.bool false,.bool false,.bool false,.bool false,.bool false,.bool false,.bool false,.bool false,.bool false,.bool false,.bool false,.bool false,.bool false,.bool false,.bool false,.bool false,.bool false,.bool false,.bool false,.bool false,.bool false,.bool false,.bool false,.bool false,.bool false,.bool false,.bool false,.bool false,.bool false,.bool false,.bool false,.bool false,.bool false,.bool false,.bool false,.bool false,.bool false,.bool false,.bool false,.bool false,.bool false,.bool false,.bool false,.bool false,.bool false,.bool false,.bool false,.bool false,.bool false,.bool false,.bool false,.bool false,.bool false,.bool false,.bool false,.bool false,.bool false,.bool false,.bool false,.bool false,.bool false,.bool false,.bool false,.bool false,.bool false,.bool false,.bool false,.bool false,.bool false,.bool false,.bool false,.bool false,.bool false,.bool false,.bool false,.bool false,.bool false,.bool false,.bool false,.bool false,.bool false,.bool false,.bool false,.bool false,.bool false,.bool false,.int .i64 0,.int .i64 0]:=⟨uh⟩
theorem Cf : Shp Tryz.prog 148 true 260:=eh Tryz.underlying148 uh rfl
instance E8 : ae Tryz.prog 148 true 260:=⟨Cf⟩
instance E9 : bq Tryz.prog 148 0 0 false 1:=⟨⟨_,_,Tryz.underlying148,rfl,rfl,iw⟩⟩
instance Fa : bq Tryz.prog 148 1 1 true 256:=⟨⟨_,_,Tryz.underlying148,rfl,rfl,xp⟩⟩
instance Fc : bq Tryz.prog 148 2 257 false 1:=⟨⟨_,_,Tryz.underlying148,rfl,rfl,wa⟩⟩
instance Fd : bq Tryz.prog 148 3 258 false 1:=⟨⟨_,_,Tryz.underlying148,rfl,rfl,iw⟩⟩
instance Fe : bq Tryz.prog 148 4 259 false 1:=⟨⟨_,_,Tryz.underlying148,rfl,rfl,iw⟩⟩
instance Ff : aO Tryz.prog 148 [(0,1),(1,256),(257,1),(258,1),(259,1)] [.int .i64 0,.bool false,.bool false,.bool false,.bool false,.bool false,.bool false,.bool false,.bool false,.bool false,.bool false,.bool false,.bool false,.bool false,.bool false,.bool false,.bool false,.bool false,.bool false,.bool false,.bool false,.bool false,.bool false,.bool false,.bool false,.bool false,.bool false,.bool false,.bool false,.bool false,.bool false,.bool false,.bool false,.bool false,.bool false,.bool false,.bool false,.bool false,.bool false,.bool false,.bool false,.bool false,.bool false,.bool false,.bool false,.bool false,.bool false,.bool false,.bool false,.bool false,.bool false,.bool false,.bool false,.bool false,.bool false,.bool false,.bool false,.bool false,.bool false,.bool false,.bool false,.bool false,.bool false,.bool false,.bool false,.bool false,.bool false,.bool false,.bool false,.bool false,.bool false,.bool false,.bool false,.bool false,.bool false,.bool false,.bool false,.bool false,.bool false,.bool false,.bool false,.bool false,.bool false,.bool false,.bool false,.bool false,.bool false,.bool false,.bool false,.bool false,.bool false,.bool false,.bool false,.bool false,.bool false,.bool false,.bool false,.bool false,.bool false,.bool false,.bool false,.bool false,.bool false,.bool false,.bool false,.bool false,.bool false,.bool false,.bool false,.bool false,.bool false,.bool false,.bool false,.bool false,.bool false,.bool false,.bool false,.bool false,.bool false,.bool false,.bool false,.bool false,.bool false,.bool false,.bool false,.bool false,.bool false,.bool false,.bool false,.bool false,.bool false,.bool false,.bool false,.bool false,.bool false,.bool false,.bool false,.bool false,.bool false,.bool false,.bool false,.bool false,.bool false,.bool false,.bool false,.bool false,.bool false,.bool false,.bool false,.bool false,.bool false,.bool false,.bool false,.bool false,.bool false,.bool false,.bool false,.bool false,.bool false,.bool false,.bool false,.bool false,.bool false,.bool false,.bool false,.bool false,.bool false,.bool false,.bool false,.bool false,.bool false,.bool false,.bool false,.bool false,.bool false,.bool false,.bool false,.bool false,.bool false,.bool false,.bool false,.bool false,.bool false,.bool false,.bool false,.bool false,.bool false,.bool false,.bool false,.bool false,.bool false,.bool false,.bool false,.bool false,.bool false,.bool false,.bool false,.bool false,.bool false,.bool false,.bool false,.bool false,.bool false,.bool false,.bool false,.bool false,.bool false,.bool false,.bool false,.bool false,.bool false,.bool false,.bool false,.bool false,.bool false,.bool false,.bool false,.bool false,.bool false,.bool false,.bool false,.bool false,.bool false,.bool false,.bool false,.bool false,.bool false,.bool false,.bool false,.bool false,.bool false,.bool false,.bool false,.bool false,.bool false,.bool false,.bool false,.bool false,.bool false,.bool false,.bool false,.bool false,.bool false,.bool false,.bool false,.bool false,.bool false,.bool false,.bool false,.bool false,.bool false,.bool false,.bool false,.bool false,.bool false,.bool false,.bool false,.bool false,.int .i64 0,.int .i64 0]:=⟨kC Tryz.underlying148 uh fun W=>by kernel_rfl⟩
theorem ui : Inf Tryz.prog 162 7 56 [.int .u8 0,.int .u64 0,.int .u64 0,.int .u64 0,.int .u64 0,.bool false,.int .i64 0]:=db (by kernel_rfl) rfl rfl
instance Fg : ar Tryz.prog 162 7 56 [.int .u8 0,.int .u64 0,.int .u64 0,.int .u64 0,.int .u64 0,.bool false,.int .i64 0]:=⟨ui⟩
theorem Cg : Shp Tryz.prog 162 true 7:=eh Tryz.underlying162 ui rfl
instance Fh : ae Tryz.prog 162 true 7:=⟨Cg⟩
instance Fi : bq Tryz.prog 162 0 0 false 1:=⟨⟨_,_,Tryz.underlying162,rfl,rfl,Cd⟩⟩
instance Fj : bq Tryz.prog 162 1 1 true 4:=⟨⟨_,_,Tryz.underlying162,rfl,rfl,wd⟩⟩
instance Fk : bq Tryz.prog 162 2 5 false 1:=⟨⟨_,_,Tryz.underlying162,rfl,rfl,wa⟩⟩
instance Fm : bq Tryz.prog 162 3 6 false 1:=⟨⟨_,_,Tryz.underlying162,rfl,rfl,iw⟩⟩
instance Fn : aO Tryz.prog 162 [(0,1),(1,4),(5,1),(6,1)] [.int .u8 0,.int .u64 0,.int .u64 0,.int .u64 0,.int .u64 0,.bool false,.int .i64 0]:=⟨kC Tryz.underlying162 ui fun W=>by kernel_rfl⟩
instance Fo : ah Tryz.prog 167 (.slice 41):=⟨Tryz.underlying167⟩
end Go.Proofs.YtnbceeholnkfeaaGreatDoor
