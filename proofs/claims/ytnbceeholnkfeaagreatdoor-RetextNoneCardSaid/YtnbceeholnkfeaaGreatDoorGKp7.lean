/- What functions' texts ask for, and the walks that show it (printed by a program). -/
import Derived.Test.YtnbceeholnkfeaaGreatDoorGKp6
namespace Go.Proofs.YtnbceeholnkfeaaGreatDoor
def iC (x1849:List Int) (y2763:Int×T2t) (ag8:(Int×Int×(List UInt8)×Int×Int×(List T4t)×Int×T5t)→Prop) (x2863:Int) (x2864:Int) (f2865:List UInt8) (f2866:Int) (f2867:Int) (f2868:List T4t) (f2870:Int) (f2871:Arr 10 (Bool)) (r:Int×T2t):Prop:=
 ((x2864<(((x1849++[y2763.1])).length:Int)→0≤(x2864:Int)∧∃ y2890:Int,((x1849++[y2763.1]))[(x2864:Int).toNat]? =some y2890∧∃ y2893:Int×T2t,ap (f2865,f2866,f2867,(f2868,f2870),f2871) (3,x2863,y2890,0,0,0,(Arr.rep 4 (0:UInt64))) y2893∧InR (x2864+1)∧ag8 (y2893.1,(x2864+1),y2893.2.1,y2893.2.2.1,y2893.2.2.2.1,y2893.2.2.2.2.1.1,y2893.2.2.2.2.1.2,y2893.2.2.2.2.2))∧(¬ (x2864<(((x1849++[y2763.1])).length:Int))→r=(x2863,(f2865,f2866,f2867,(f2868,f2870),f2871))))
def cH (x1849:List Int) (y2763:Int×T2t) (f2789:Int) (r:Int×T2t):Prop:=
 0≤(0:Int)∧∃ y2804:Int,((x1849++[y2763.1]))[(0:Int).toNat]? =some y2804∧ba (fun ag8 s=>iC x1849 y2763 ag8 s.1 s.2.1 s.2.2.1 s.2.2.2.1 s.2.2.2.2.1 s.2.2.2.2.2.1 s.2.2.2.2.2.2.1 s.2.2.2.2.2.2.2 r) (y2804,1,y2763.2.1,y2763.2.2.1,f2789,y2763.2.2.2.2.1.1,y2763.2.2.2.2.1.2,y2763.2.2.2.2.2)
def bt (x1849:List Int) (y2763:Int×T2t) (x2796:Bool) (r:Int×T2t):Prop:=
 ((x2796=true→cH x1849 y2763 14 r)∧(¬ (x2796=true)→cH x1849 y2763 y2763.2.2.2.1 r))
def fl (f2596:List UInt8) (f2597:Int) (f2599:List T4t) (f2601:Int) (f2602:Arr 10 (Bool)) (x2594:List Int) (x1849:List Int) (x3:Bool) (ag1:ra→Prop) (f2747:Int) (r:Int×T2t):Prop:=
 ((¬ (f2747=0)→r=(0,(f2596,f2597,f2747,(f2599,f2601),f2602)))∧(¬ (¬ (f2747=0))→∃ y2763:Int×T2t,cL (f2596,f2597,f2747,(f2599,f2601),f2602) x2594 y2763∧ef (x1849.length+([y2763.1]).length) 8∧∃ y2772:Int,ak y2763.2 0 y2772∧((¬ (y2772=124)→((x3=true→((y2763.2.2.2.1=0→∃ y2801:Int,ak y2763.2 0 y2801∧bt x1849 y2763 (decide (y2801<0)) r)∧(¬ (y2763.2.2.2.1=0)→bt x1849 y2763 false r)))∧(¬ (x3=true)→bt x1849 y2763 false r)))∧(¬ (¬ (y2772=124))→InR (y2763.2.2.1+1)∧ag1 ((x1849++[y2763.1]),y2763.2.1,(y2763.2.2.1+1),y2763.2.2.2.1,y2763.2.2.2.2.1.1,y2763.2.2.2.2.1.2,y2763.2.2.2.2.2)))))
def dK (f2596:List UInt8) (f2597:Int) (f2599:List T4t) (f2601:Int) (f2602:Arr 10 (Bool)) (x2594:List Int) (x1849:List Int) (x3:Bool) (ag1:ra→Prop) (f2598:Int) (x2752:Bool) (r:Int×T2t):Prop:=
 ((x2752=true→fl f2596 f2597 f2599 f2601 f2602 x2594 x1849 x3 ag1 15 r)∧(¬ (x2752=true)→fl f2596 f2597 f2599 f2601 f2602 x2594 x1849 x3 ag1 f2598 r))
def bu (c_q10q:T2t→(Bool)→(Int×T2t)→Prop) (f2596:List UInt8) (f2597:Int) (f2598:Int) (f2599:List T4t) (f2601:Int) (f2602:Arr 10 (Bool)) (x2594:List Int) (ag2:ra→Prop) (x1849:List Int) (x3:Bool) (ag1:ra→Prop) (x2714:Bool) (r:Int×T2t):Prop:=
 ((x2714=true→∃ y2733:Int×T2t,c_q10q (f2596,f2597,f2598,(f2599,f2601),f2602) (decide ((x2594.length:Int)=0)) y2733∧ef (x2594.length+([y2733.1]).length) 8∧ag2 ((x2594++[y2733.1]),y2733.2.1,y2733.2.2.1,y2733.2.2.2.1,y2733.2.2.2.2.1.1,y2733.2.2.2.2.1.2,y2733.2.2.2.2.2))∧(¬ (x2714=true)→dK f2596 f2597 f2599 f2601 f2602 x2594 x1849 x3 ag1 f2598 ((decide (f2598=0)) && (decide ((x2594.length:Int)=0))) r))
def iD (x3:Bool) (c_q10q:T2t→(Bool)→(Int×T2t)→Prop) (x1849:List Int) (ag1:ra→Prop) (ag2:ra→Prop) (x2594:List Int) (f2596:List UInt8) (f2597:Int) (f2598:Int) (f2599:List T4t) (f2601:Int) (f2602:Arr 10 (Bool)) (r:Int×T2t):Prop:=
 ((f2598=0→∃ y2718:Int,ak (f2596,f2597,f2598,(f2599,f2601),f2602) 0 y2718∧((0≤y2718→∃ y2722:Int,ak (f2596,f2597,f2598,(f2599,f2601),f2602) 0 y2722∧((¬ (y2722=124)→((x3=true→∃ y2727:Int,ak (f2596,f2597,f2598,(f2599,f2601),f2602) 0 y2727∧bu c_q10q f2596 f2597 f2598 f2599 f2601 f2602 x2594 ag2 x1849 x3 ag1 (!(decide (y2727=41))) r)∧(¬ (x3=true)→bu c_q10q f2596 f2597 f2598 f2599 f2601 f2602 x2594 ag2 x1849 x3 ag1 true r)))∧(¬ (¬ (y2722=124))→bu c_q10q f2596 f2597 f2598 f2599 f2601 f2602 x2594 ag2 x1849 x3 ag1 false r)))∧(¬ (0≤y2718)→bu c_q10q f2596 f2597 f2598 f2599 f2601 f2602 x2594 ag2 x1849 x3 ag1 false r)))∧(¬ (f2598=0)→bu c_q10q f2596 f2597 f2598 f2599 f2601 f2602 x2594 ag2 x1849 x3 ag1 false r))
def fm (x3:Bool) (c_q10q:T2t→(Bool)→(Int×T2t)→Prop) (ag1:ra→Prop) (x1849:List Int) (f1851:List UInt8) (f1852:Int) (f1853:Int) (f1854:List T4t) (f1856:Int) (f1857:Arr 10 (Bool)) (r:Int×T2t):Prop:=
 ba (fun ag2 s=>iD x3 c_q10q x1849 ag1 ag2 s.1 s.2.1 s.2.2.1 s.2.2.2.1 s.2.2.2.2.1 s.2.2.2.2.2.1 s.2.2.2.2.2.2 r) (([]:List Int),f1851,f1852,f1853,f1854,f1856,f1857)
def dU (_c_q11q:T2t→(Bool)→(Int×T2t)→Prop) (c_q10q:T2t→(Bool)→(Int×T2t)→Prop) (_c_q12q:T2t→(Int)→(Bool)→(Int×T2t)→Prop) (_c_q13q:T2t→(Bool)→(Int×T2t)→Prop) (_c_q14q:T2t→(Bool)→(Int×T2t)→Prop) (o1:(List UInt8)×Int×Int×T0t×T5t) (x3:Bool) (r:Int×T2t):Prop:=
 ba (fun ag1 s=>fm x3 c_q10q ag1 s.1 s.2.1 s.2.2.1 s.2.2.2.1 s.2.2.2.2.1 s.2.2.2.2.2.1 s.2.2.2.2.2.2 r) (([]:List Int),o1.1,o1.2.1,o1.2.2.1,o1.2.2.2.1.1,o1.2.2.2.1.2,o1.2.2.2.2)
def dY (o1:(List UInt8)×Int×Int×T0t×T5t) (f70:Int) (r:Int×T2t):Prop:=
 ∃ y74:Int×T2t,ap (o1.1,(o1.2.1+1),o1.2.2.1,o1.2.2.2.1,o1.2.2.2.2) (f70,0,0,0,0,0,(Arr.rep 4 (0:UInt64))) y74∧r=(y74.1,y74.2)
def bM (f641:List UInt8) (f643:Int) (f644:List T4t) (f646:Int) (f647:Arr 10 (Bool)) (x640:Int) (ag6:rc→Prop) (x835:Int) (f836:Int) (f837:Int) (_r:Int×T2t):Prop:=
 ∃ y888:Int×T2t,ap (f641,x835,f643,(f644,f646),f647) (4,x640,0,f836,f837,0,(Arr.rep 4 (0:UInt64))) y888∧ag6 (y888.1,y888.2.1,y888.2.2.1,y888.2.2.2.1,y888.2.2.2.2.1.1,y888.2.2.2.2.1.2,y888.2.2.2.2.2)
def aZ (x640:Int) (f641:List UInt8) (f642:Int) (f644:List T4t) (f646:Int) (f647:Arr 10 (Bool)) (y842:Int×Int×Int×Bool) (f643:Int) (ag6:rc→Prop) (x866:Bool) (r:Int×T2t):Prop:=
 ((x866=true→r=(x640,(f641,f642,13,(f644,f646),f647)))∧(¬ (x866=true)→InR (y842.2.2.1+1)∧bM f641 f643 f644 f646 f647 x640 ag6 (y842.2.2.1+1) y842.1 y842.2.1 r))
def dZ (f642:Int) (y774:Int) (f641:List UInt8) (f643:Int) (f644:List T4t) (f646:Int) (f647:Arr 10 (Bool)) (x640:Int) (ag6:rc→Prop) (f777:Int) (f782:Int) (r:Int×T2t):Prop:=
 InR (f642+1)∧((y774=123→InR (f642+1)∧∃ y842:Int×Int×Int×Bool,cP (f641,f642,f643,(f644,f646),f647) (f642+1) y842∧((¬ (y842.2.2.2=true)→aZ x640 f641 f642 f644 f646 f647 y842 f643 ag6 true r)∧(¬ (¬ (y842.2.2.2=true))→(((f641.length:Int)≤y842.2.2.1→aZ x640 f641 f642 f644 f646 f647 y842 f643 ag6 true r)∧(¬ ((f641.length:Int)≤y842.2.2.1)→0≤(y842.2.2.1:Int)∧∃ y871:UInt8,f641[(y842.2.2.1:Int).toNat]? =some y871∧aZ x640 f641 f642 f644 f646 f647 y842 f643 ag6 (!(decide ((y871.toNat:Int)=125))) r)))))∧(¬ (y774=123)→((¬ (y774=42)→((¬ (y774=43)→((¬ (y774=63)→r=(x640,(f641,f642,f643,(f644,f646),f647)))∧(¬ (¬ (y774=63))→bM f641 f643 f644 f646 f647 x640 ag6 (f642+1) f777 f782 r)))∧(¬ (¬ (y774=43))→bM f641 f643 f644 f646 f647 x640 ag6 (f642+1) f777 f782 r)))∧(¬ (¬ (y774=42))→bM f641 f643 f644 f646 f647 x640 ag6 (f642+1) f777 f782 r))))
def d6 (y774:Int) (f642:Int) (f641:List UInt8) (f643:Int) (f644:List T4t) (f646:Int) (f647:Arr 10 (Bool)) (x640:Int) (ag6:rc→Prop) (f777:Int) (r:Int×T2t):Prop:=
 ((y774=63→dZ f642 y774 f641 f643 f644 f646 f647 x640 ag6 f777 1 r)∧(¬ (y774=63)→dZ f642 y774 f641 f643 f644 f646 f647 x640 ag6 f777 (-1) r))
def f8 (ag6:rc→Prop) (x640:Int) (f641:List UInt8) (f642:Int) (f643:Int) (f644:List T4t) (f646:Int) (f647:Arr 10 (Bool)) (r:Int×T2t):Prop:=
 ((f643=0→∃ y774:Int,ak (f641,f642,f643,(f644,f646),f647) 0 y774∧((y774=43→d6 y774 f642 f641 f643 f644 f646 f647 x640 ag6 1 r)∧(¬ (y774=43)→d6 y774 f642 f641 f643 f644 f646 f647 x640 ag6 0 r)))∧(¬ (f643=0)→r=(x640,(f641,f642,f643,(f644,f646),f647))))
def bN (x108:Int) (f109:List UInt8) (f110:Int) (f111:Int) (f112:List T4t) (f114:Int) (f115:Arr 10 (Bool)) (r:Int×T2t):Prop:=
 ba (fun ag6 s=>f8 ag6 s.1 s.2.1 s.2.2.1 s.2.2.2.1 s.2.2.2.2.1 s.2.2.2.2.2.1 s.2.2.2.2.2.2 r) (x108,f109,f110,f111,f112,f114,f115)
def d7 (o1:(List UInt8)×Int×Int×T0t×T5t) (f139:Arr 4 (UInt64)) (r:Int×T2t):Prop:=
 InR (o1.2.1+1)∧∃ y146:Int×T2t,ap (o1.1,(o1.2.1+1),o1.2.2.1,o1.2.2.2.1,o1.2.2.2.2) (1,0,0,0,0,0,f139) y146∧bN y146.1 y146.2.1 y146.2.2.1 y146.2.2.2.1 y146.2.2.2.2.1.1 y146.2.2.2.2.1.2 y146.2.2.2.2.2 r
def cf (o1:(List UInt8)×Int×Int×T0t×T5t) (y5:Int) (c_q12q:T2t→(Int)→(Bool)→(Int×T2t)→Prop) (x62:Bool) (r:Int×T2t):Prop:=
 ((x62=true→InR (o1.2.1+1)∧((y5=36→dY o1 8 r)∧(¬ (y5=36)→dY o1 7 r)))∧(¬ (x62=true)→((y5=40→∃ y119:Int×T2t,c_q12q o1 1 false y119∧bN y119.1 y119.2.1 y119.2.2.1 y119.2.2.2.1 y119.2.2.2.2.1.1 y119.2.2.2.2.1.2 y119.2.2.2.2.2 r)∧(¬ (y5=40)→((y5=92→∃ y124:Int×T2t,a8 o1 y124∧bN y124.1 y124.2.1 y124.2.2.1 y124.2.2.2.1 y124.2.2.2.2.1.1 y124.2.2.2.2.1.2 y124.2.2.2.2.2 r)∧(¬ (y5=92)→((y5=91→∃ y129:Int×T2t,cr o1 y129∧bN y129.1 y129.2.1 y129.2.2.1 y129.2.2.2.1 y129.2.2.2.2.1.1 y129.2.2.2.2.1.2 y129.2.2.2.2.2 r)∧(¬ (y5=91)→∃ c132:UInt8,(c132.toNat:Int)=IntKind.u8.wrap y5∧∃ y134:T7t,cX c132 y134∧((y5=46→∃ y143:T7t,gj y143∧d7 o1 y143 r)∧(¬ (y5=46)→d7 o1 y134 r))))))))))
def d8 (o1:(List UInt8)×Int×Int×T0t×T5t) (y5:Int) (c_q12q:T2t→(Int)→(Bool)→(Int×T2t)→Prop) (x29:Bool) (r:Int×T2t):Prop:=
 ((x29=true→r=(0,(o1.1,o1.2.1,13,o1.2.2.2.1,o1.2.2.2.2)))∧(¬ (x29=true)→((y5=41→r=(0,(o1.1,o1.2.1,14,o1.2.2.2.1,o1.2.2.2.2)))∧(¬ (y5=41)→cf o1 y5 c_q12q ((decide (y5=94)) || (decide (y5=36))) r))))
def cQ (_c_q11q:T2t→(Bool)→(Int×T2t)→Prop) (_c_q10q:T2t→(Bool)→(Int×T2t)→Prop) (c_q12q:T2t→(Int)→(Bool)→(Int×T2t)→Prop) (_c_q13q:T2t→(Bool)→(Int×T2t)→Prop) (_c_q14q:T2t→(Bool)→(Int×T2t)→Prop) (o1:(List UInt8)×Int×Int×T0t×T5t) (_x3:Bool) (r:Int×T2t):Prop:=
 ∃ y5:Int,ak o1 0 y5∧d8 o1 y5 c_q12q ((decide (y5=42)) || ((decide (y5=43)) || ((decide (y5=63)) || (decide (y5=123))))) r
def cy (x3:Int) (o1:(List UInt8)×Int×Int×T0t×T5t) (x18:Int) (f19:List UInt8) (f20:Int) (f21:Int) (f22:List T4t) (f24:Int) (f25:Arr 10 (Bool)) (r:Int×T2t):Prop:=
 ((¬ (f21=0)→r=(0,(f19,f20,f21,(f22,f24),f25)))∧(¬ (¬ (f21=0))→InR (f20+x3)∧(0≤((o1.2.2.2.1.2+1):Int)∧((o1.2.2.2.1.2+1):Int)<10)∧∃ y39:Bool,f25.l[((o1.2.2.2.1.2+1):Int).toNat]? =some y39∧∃ y41:Int×T2t,ap (f19,(f20+x3),f21,(f22,f24),(Arr.set f25 ((o1.2.2.2.1.2+1):Int).toNat true)) (5,x18,0,0,0,(o1.2.2.2.1.2+1),(Arr.rep 4 (0:UInt64))) y41∧r=(y41.1,y41.2)))
def dB (c_q11q:T2t→(Bool)→(Int×T2t)→Prop) (_c_q10q:T2t→(Bool)→(Int×T2t)→Prop) (_c_q12q:T2t→(Int)→(Bool)→(Int×T2t)→Prop) (c_q13q:T2t→(Bool)→(Int×T2t)→Prop) (_c_q14q:T2t→(Bool)→(Int×T2t)→Prop) (o1:(List UInt8)×Int×Int×T0t×T5t) (x3:Int) (x4:Bool) (r:Int×T2t):Prop:=
 ((9≤o1.2.2.2.1.2→r=(0,(o1.1,o1.2.1,17,o1.2.2.2.1,o1.2.2.2.2)))∧(¬ (9≤o1.2.2.2.1.2)→InR (o1.2.2.2.1.2+1)∧InR (o1.2.1+x3)∧((x4=true→∃ y28:Int×T2t,c_q13q (o1.1,(o1.2.1+x3),o1.2.2.1,(o1.2.2.2.1.1,(o1.2.2.2.1.2+1)),o1.2.2.2.2) true y28∧cy x3 o1 y28.1 y28.2.1 y28.2.2.1 y28.2.2.2.1 y28.2.2.2.2.1.1 y28.2.2.2.2.1.2 y28.2.2.2.2.2 r)∧(¬ (x4=true)→∃ y31:Int×T2t,c_q11q (o1.1,(o1.2.1+x3),o1.2.2.1,(o1.2.2.2.1.1,(o1.2.2.2.1.2+1)),o1.2.2.2.2) true y31∧cy x3 o1 y31.1 y31.2.1 y31.2.2.1 y31.2.2.2.1 y31.2.2.2.2.1.1 y31.2.2.2.2.1.2 y31.2.2.2.2.2 r))))
def bz (c_q14q:T2t→(Bool)→(Int×T2t)→Prop) (f298:List UInt8) (f299:Int) (f300:Int) (f301:List T4t) (f303:Int) (f304:Arr 10 (Bool)) (x297:Int) (x295:List Int) (ag2:((List Int)×Int×(List UInt8)×Int×Int×(List T4t)×Int×T5t)→Prop) (x3:Bool) (x409:Bool) (r:Int×T2t):Prop:=
 ((x409=true→∃ y426:Int×T2t,c_q14q (f298,f299,f300,(f301,f303),f304) (decide (x297=0)) y426∧ef (x295.length+([y426.1]).length) 8∧InR (x297+1)∧ag2 ((x295++[y426.1]),(x297+1),y426.2.1,y426.2.2.1,y426.2.2.2.1,y426.2.2.2.2.1.1,y426.2.2.2.2.1.2,y426.2.2.2.2.2))∧(¬ (x409=true)→((¬ (f300=0)→r=(0,(f298,f299,f300,(f301,f303),f304)))∧(¬ (¬ (f300=0))→∃ y441:Int,ak (f298,f299,f300,(f301,f303),f304) 0 y441∧((¬ ((x3==(decide (0≤y441)))=true)→r=(0,(f298,f299,14,(f301,f303),f304)))∧(¬ (¬ ((x3==(decide (0≤y441)))=true))→∃ y446:Int×T2t,cL (f298,f299,f300,(f301,f303),f304) x295 y446∧r=(y446.1,y446.2)))))))
def gJ (c_q14q:T2t→(Bool)→(Int×T2t)→Prop) (x3:Bool) (ag2:((List Int)×Int×(List UInt8)×Int×Int×(List T4t)×Int×T5t)→Prop) (x295:List Int) (x297:Int) (f298:List UInt8) (f299:Int) (f300:Int) (f301:List T4t) (f303:Int) (f304:Arr 10 (Bool)) (r:Int×T2t):Prop:=
 ((f300=0→∃ y413:Int,ak (f298,f299,f300,(f301,f303),f304) 0 y413∧((0≤y413→∃ y417:Int,ak (f298,f299,f300,(f301,f303),f304) 0 y417∧((y417=92→∃ y421:Int,ak (f298,f299,f300,(f301,f303),f304) 1 y421∧bz c_q14q f298 f299 f300 f301 f303 f304 x297 x295 ag2 x3 (!(decide (y421=41))) r)∧(¬ (y417=92)→bz c_q14q f298 f299 f300 f301 f303 f304 x297 x295 ag2 x3 true r)))∧(¬ (0≤y413)→bz c_q14q f298 f299 f300 f301 f303 f304 x297 x295 ag2 x3 false r)))∧(¬ (f300=0)→bz c_q14q f298 f299 f300 f301 f303 f304 x297 x295 ag2 x3 false r))
def ez (c_q14q:T2t→(Bool)→(Int×T2t)→Prop) (x3:Bool) (x14:List Int) (f16:List UInt8) (f17:Int) (f18:Int) (f19:List T4t) (f21:Int) (f22:Arr 10 (Bool)) (r:Int×T2t):Prop:=
 ba (fun ag2 s=>gJ c_q14q x3 ag2 s.1 s.2.1 s.2.2.1 s.2.2.2.1 s.2.2.2.2.1 s.2.2.2.2.2.1 s.2.2.2.2.2.2.1 s.2.2.2.2.2.2.2 r) (x14,0,f16,f17,f18,f19,f21,f22)
def dk (_c_q11q:T2t→(Bool)→(Int×T2t)→Prop) (_c_q10q:T2t→(Bool)→(Int×T2t)→Prop) (_c_q12q:T2t→(Int)→(Bool)→(Int×T2t)→Prop) (_c_q13q:T2t→(Bool)→(Int×T2t)→Prop) (c_q14q:T2t→(Bool)→(Int×T2t)→Prop) (o1:(List UInt8)×Int×Int×T0t×T5t) (x3:Bool) (r:Int×T2t):Prop:=
 ∃ y24:Int,ak o1 0 y24∧((y24=94→∃ y28:Int×T2t,ap o1 (7,0,0,0,0,0,(Arr.rep 4 (0:UInt64))) y28∧ef (([y28.1]).length) 8∧InR (y28.2.2.1+1)∧ez c_q14q x3 ([y28.1]) y28.2.1 (y28.2.2.1+1) y28.2.2.2.1 y28.2.2.2.2.1.1 y28.2.2.2.2.1.2 y28.2.2.2.2.2 r)∧(¬ (y24=94)→ez c_q14q x3 ([]:List Int) o1.1 o1.2.1 o1.2.2.1 o1.2.2.2.1.1 o1.2.2.2.1.2 o1.2.2.2.2 r))
def cz (x589:Int) (f590:List UInt8) (f591:Int) (f592:Int) (f593:List T4t) (f595:Int) (f596:Arr 10 (Bool)) (r:Int×T2t):Prop:=
 r=(x589,(f590,f591,f592,(f593,f595),f596))
def aV (x710:Int) (f711:List UInt8) (f712:Int) (f714:List T4t) (f716:Int) (f717:Arr 10 (Bool)) (y883:Int×Int×Int×Bool) (f713:Int) (ag8:rc→Prop) (x925:Bool) (r:Int×T2t):Prop:=
 ((x925=true→cz x710 f711 f712 13 f714 f716 f717 r)∧(¬ (x925=true)→InR (y883.2.2.1+2)∧∃ y942:Int×T2t,ap (f711,(y883.2.2.1+2),f713,(f714,f716),f717) (4,x710,0,y883.1,y883.2.1,0,(Arr.rep 4 (0:UInt64))) y942∧ag8 (y942.1,y942.2.1,y942.2.2.1,y942.2.2.2.1,y942.2.2.2.2.1.1,y942.2.2.2.2.1.2,y942.2.2.2.2.2)))
def gX (ag8:rc→Prop) (x710:Int) (f711:List UInt8) (f712:Int) (f713:Int) (f714:List T4t) (f716:Int) (f717:Arr 10 (Bool)) (r:Int×T2t):Prop:=
 ((f713=0→∃ y844:Int,ak (f711,f712,f713,(f714,f716),f717) 0 y844∧((y844=42→InR (f712+1)∧∃ y849:Int×T2t,ap (f711,(f712+1),f713,(f714,f716),f717) (4,x710,0,0,(-1),0,(Arr.rep 4 (0:UInt64))) y849∧ag8 (y849.1,y849.2.1,y849.2.2.1,y849.2.2.2.1,y849.2.2.2.2.1.1,y849.2.2.2.2.1.2,y849.2.2.2.2.2))∧(¬ (y844=42)→∃ y874:Int,ak (f711,f712,f713,(f714,f716),f717) 0 y874∧((¬ (y874=92)→cz x710 f711 f712 f713 f714 f716 f717 r)∧(¬ (¬ (y874=92))→∃ y878:Int,ak (f711,f712,f713,(f714,f716),f717) 1 y878∧((¬ (y878=123)→cz x710 f711 f712 f713 f714 f716 f717 r)∧(¬ (¬ (y878=123))→InR (f712+2)∧∃ y883:Int×Int×Int×Bool,cP (f711,f712,f713,(f714,f716),f717) (f712+2) y883∧((¬ (y883.2.2.2=true)→aV x710 f711 f712 f714 f716 f717 y883 f713 ag8 true r)∧(¬ (¬ (y883.2.2.2=true))→InR (y883.2.2.1+1)∧(((f711.length:Int)≤(y883.2.2.1+1)→aV x710 f711 f712 f714 f716 f717 y883 f713 ag8 true r)∧(¬ ((f711.length:Int)≤(y883.2.2.1+1))→0≤(y883.2.2.1:Int)∧∃ y931:UInt8,f711[(y883.2.2.1:Int).toNat]? =some y931∧((¬ ((y931.toNat:Int)=92)→aV x710 f711 f712 f714 f716 f717 y883 f713 ag8 true r)∧(¬ (¬ ((y931.toNat:Int)=92))→InR (y883.2.2.1+1)∧0≤((y883.2.2.1+1):Int)∧∃ y936:UInt8,f711[((y883.2.2.1+1):Int).toNat]? =some y936∧aV x710 f711 f712 f714 f716 f717 y883 f713 ag8 (!(decide ((y936.toNat:Int)=125))) r)))))))))))))∧(¬ (f713=0)→cz x710 f711 f712 f713 f714 f716 f717 r))
def bF (x134:Int) (f135:List UInt8) (f136:Int) (f137:Int) (f138:List T4t) (f140:Int) (f141:Arr 10 (Bool)) (r:Int×T2t):Prop:=
 ba (fun ag8 s=>gX ag8 s.1 s.2.1 s.2.2.1 s.2.2.2.1 s.2.2.2.2.1 s.2.2.2.2.2.1 s.2.2.2.2.2.2 r) (x134,f135,f136,f137,f138,f140,f141)
def cA (o1:(List UInt8)×Int×Int×T0t×T5t) (f208:Int) (f209:Arr 4 (UInt64)) (r:Int×T2t):Prop:=
 InR (o1.2.1+1)∧∃ y240:Int×T2t,ap (o1.1,(o1.2.1+1),o1.2.2.1,o1.2.2.2.1,o1.2.2.2.2) (f208,0,0,0,0,0,f209) y240∧bF y240.1 y240.2.1 y240.2.2.1 y240.2.2.2.1 y240.2.2.2.2.1.1 y240.2.2.2.2.1.2 y240.2.2.2.2.2 r
def bW (o1:(List UInt8)×Int×Int×T0t×T5t) (f175:Arr 4 (UInt64)) (x223:Bool) (r:Int×T2t):Prop:=
 ((x223=true→cA o1 8 (Arr.rep 4 (0:UInt64)) r)∧(¬ (x223=true)→cA o1 1 f175 r))
def bG (y5:Int) (o1:(List UInt8)×Int×Int×T0t×T5t) (f175:Arr 4 (UInt64)) (r:Int×T2t):Prop:=
 ((y5=36→∃ y227:Int,ak o1 1 y227∧((y227<0→bW o1 f175 true r)∧(¬ (y227<0)→∃ y231:Int,ak o1 1 y231∧((y231=92→∃ y235:Int,ak o1 2 y235∧bW o1 f175 (decide (y235=41)) r)∧(¬ (y231=92)→bW o1 f175 false r)))))∧(¬ (y5=36)→bW o1 f175 false r))
def dl (c_q12q:T2t→(Int)→(Bool)→(Int×T2t)→Prop) (o1:(List UInt8)×Int×Int×T0t×T5t) (y5:Int) (x147:Bool) (r:Int×T2t):Prop:=
 ((x147=true→∃ y155:Int×T2t,c_q12q o1 2 true y155∧bF y155.1 y155.2.1 y155.2.2.1 y155.2.2.2.1 y155.2.2.2.2.1.1 y155.2.2.2.2.1.2 y155.2.2.2.2.2 r)∧(¬ (x147=true)→((y5=92→∃ y160:Int×T2t,a8 o1 y160∧bF y160.1 y160.2.1 y160.2.2.1 y160.2.2.2.1 y160.2.2.2.2.1.1 y160.2.2.2.2.1.2 y160.2.2.2.2.2 r)∧(¬ (y5=92)→((y5=91→∃ y165:Int×T2t,cr o1 y165∧bF y165.1 y165.2.1 y165.2.2.1 y165.2.2.2.1 y165.2.2.2.2.1.1 y165.2.2.2.2.1.2 y165.2.2.2.2.2 r)∧(¬ (y5=91)→∃ c168:UInt8,(c168.toNat:Int)=IntKind.u8.wrap y5∧∃ y170:T7t,cX c168 y170∧((y5=46→∃ y179:T7t,gj y179∧bG y5 o1 y179 r)∧(¬ (y5=46)→bG y5 o1 y170 r))))))))
def bH (o1:(List UInt8)×Int×Int×T0t×T5t) (y5:Int) (c_q12q:T2t→(Int)→(Bool)→(Int×T2t)→Prop) (x26:Bool) (r:Int×T2t):Prop:=
 ((x26=true→r=(0,(o1.1,o1.2.1,13,o1.2.2.2.1,o1.2.2.2.2)))∧(¬ (x26=true)→((y5=92→∃ y151:Int,ak o1 1 y151∧dl c_q12q o1 y5 (decide (y151=40)) r)∧(¬ (y5=92)→dl c_q12q o1 y5 false r))))
def dC (_c_q11q:T2t→(Bool)→(Int×T2t)→Prop) (_c_q10q:T2t→(Bool)→(Int×T2t)→Prop) (c_q12q:T2t→(Int)→(Bool)→(Int×T2t)→Prop) (_c_q13q:T2t→(Bool)→(Int×T2t)→Prop) (_c_q14q:T2t→(Bool)→(Int×T2t)→Prop) (o1:(List UInt8)×Int×Int×T0t×T5t) (x3:Bool) (r:Int×T2t):Prop:=
 ∃ y5:Int,ak o1 0 y5∧((y5=92→∃ y30:Int,ak o1 1 y30∧bH o1 y5 c_q12q ((decide (y30=123)) && x3) r)∧(¬ (y5=92)→bH o1 y5 c_q12q false r))
def dg (S1:Nat→T2t→(Bool)→(Int×T2t)→Prop) (S2:Nat→T2t→(Bool)→(Int×T2t)→Prop) (S3:Nat→T2t→(Int)→(Bool)→(Int×T2t)→Prop) (S4:Nat→T2t→(Bool)→(Int×T2t)→Prop) (S5:Nat→T2t→(Bool)→(Int×T2t)→Prop):Prop:=
 (∀ (m:Nat) (o1:(List UInt8)×Int×Int×T0t×T5t) (x3:Bool) (r:Int×T2t),S1 m o1 x3 r→dU (fun a0 a1 r=>∃ m',m'<m∧S1 m' a0 a1 r) (fun a0 a1 r=>∃ m',m'<m∧S2 m' a0 a1 r) (fun a0 a1 a2 r=>∃ m',m'<m∧S3 m' a0 a1 a2 r) (fun a0 a1 r=>∃ m',m'<m∧S4 m' a0 a1 r) (fun a0 a1 r=>∃ m',m'<m∧S5 m' a0 a1 r) o1 x3 r)∧(∀ (m:Nat) (o1:(List UInt8)×Int×Int×T0t×T5t) (x3:Bool) (r:Int×T2t),S2 m o1 x3 r→cQ (fun a0 a1 r=>∃ m',m'<m∧S1 m' a0 a1 r) (fun a0 a1 r=>∃ m',m'<m∧S2 m' a0 a1 r) (fun a0 a1 a2 r=>∃ m',m'<m∧S3 m' a0 a1 a2 r) (fun a0 a1 r=>∃ m',m'<m∧S4 m' a0 a1 r) (fun a0 a1 r=>∃ m',m'<m∧S5 m' a0 a1 r) o1 x3 r)∧(∀ (m:Nat) (o1:(List UInt8)×Int×Int×T0t×T5t) (x3:Int) (x4:Bool) (r:Int×T2t),S3 m o1 x3 x4 r→dB (fun a0 a1 r=>∃ m',m'<m∧S1 m' a0 a1 r) (fun a0 a1 r=>∃ m',m'<m∧S2 m' a0 a1 r) (fun a0 a1 a2 r=>∃ m',m'<m∧S3 m' a0 a1 a2 r) (fun a0 a1 r=>∃ m',m'<m∧S4 m' a0 a1 r) (fun a0 a1 r=>∃ m',m'<m∧S5 m' a0 a1 r) o1 x3 x4 r)∧(∀ (m:Nat) (o1:(List UInt8)×Int×Int×T0t×T5t) (x3:Bool) (r:Int×T2t),S4 m o1 x3 r→dk (fun a0 a1 r=>∃ m',m'<m∧S1 m' a0 a1 r) (fun a0 a1 r=>∃ m',m'<m∧S2 m' a0 a1 r) (fun a0 a1 a2 r=>∃ m',m'<m∧S3 m' a0 a1 a2 r) (fun a0 a1 r=>∃ m',m'<m∧S4 m' a0 a1 r) (fun a0 a1 r=>∃ m',m'<m∧S5 m' a0 a1 r) o1 x3 r)∧(∀ (m:Nat) (o1:(List UInt8)×Int×Int×T0t×T5t) (x3:Bool) (r:Int×T2t),S5 m o1 x3 r→dC (fun a0 a1 r=>∃ m',m'<m∧S1 m' a0 a1 r) (fun a0 a1 r=>∃ m',m'<m∧S2 m' a0 a1 r) (fun a0 a1 a2 r=>∃ m',m'<m∧S3 m' a0 a1 a2 r) (fun a0 a1 r=>∃ m',m'<m∧S4 m' a0 a1 r) (fun a0 a1 r=>∃ m',m'<m∧S5 m' a0 a1 r) o1 x3 r)
def jb (o1:(List UInt8)×Int×Int×T0t×T5t) (x3:Bool) (r:Int×T2t):Prop:=∃ (S1:Nat→T2t→(Bool)→(Int×T2t)→Prop) (S2:Nat→T2t→(Bool)→(Int×T2t)→Prop) (S3:Nat→T2t→(Int)→(Bool)→(Int×T2t)→Prop) (S4:Nat→T2t→(Bool)→(Int×T2t)→Prop) (S5:Nat→T2t→(Bool)→(Int×T2t)→Prop),dg S1 S2 S3 S4 S5∧∃ m:Nat,S1 m o1 x3 r
def gY (o1:(List UInt8)×Int×Int×T0t×T5t) (x3:Bool) (r:Int×T2t):Prop:=∃ (S1:Nat→T2t→(Bool)→(Int×T2t)→Prop) (S2:Nat→T2t→(Bool)→(Int×T2t)→Prop) (S3:Nat→T2t→(Int)→(Bool)→(Int×T2t)→Prop) (S4:Nat→T2t→(Bool)→(Int×T2t)→Prop) (S5:Nat→T2t→(Bool)→(Int×T2t)→Prop),dg S1 S2 S3 S4 S5∧∃ m:Nat,S4 m o1 x3 r
abbrev bD (c:T2t→(Bool)→(Int×T2t)→Prop):Prop:=∀ ⦃o1:(List UInt8)×Int×Int×T0t×T5t⦄ ⦃x3:Bool⦄ ⦃r:Int×T2t⦄,c o1 x3 r→∀ (bx0:Nat) (ia2:Option (Nat×Nat)),Cn Tryz.prog 29 [pw bx0,bv x3] [⟨bx0,76,([sb o1.1,iv o1.2.1,iv o1.2.2.1,.sl 10 (some ia2) (List.map aa o1.2.2.2.1.1),iv o1.2.2.2.1.2]++(List.map eB o1.2.2.2.2.l).flatten)⟩] [⟨ia2,43,10,o1.2.2.2.1.1.length⟩] fun rr bx tk=>∃ j1,rr=iv r.1∧bx=[⟨bx0,76,([sb r.2.1,iv r.2.2.1,iv r.2.2.2.1,.sl 10 (some j1) (List.map aa r.2.2.2.2.1.1),iv r.2.2.2.2.1.2]++(List.map eB r.2.2.2.2.2.l).flatten)⟩]∧tk=[⟨j1,43,10,r.2.2.2.2.1.1.length⟩]
abbrev br (c:T2t→(Bool)→(Int×T2t)→Prop):Prop:=∀ ⦃o1:(List UInt8)×Int×Int×T0t×T5t⦄ ⦃x3:Bool⦄ ⦃r:Int×T2t⦄,c o1 x3 r→∀ (bx0:Nat) (ia2:Option (Nat×Nat)),Cn Tryz.prog 53 [pw bx0,bv x3] [⟨bx0,76,([sb o1.1,iv o1.2.1,iv o1.2.2.1,.sl 10 (some ia2) (List.map aa o1.2.2.2.1.1),iv o1.2.2.2.1.2]++(List.map eB o1.2.2.2.2.l).flatten)⟩] [⟨ia2,43,10,o1.2.2.2.1.1.length⟩] fun rr bx tk=>∃ j1,rr=iv r.1∧bx=[⟨bx0,76,([sb r.2.1,iv r.2.2.1,iv r.2.2.2.1,.sl 10 (some j1) (List.map aa r.2.2.2.2.1.1),iv r.2.2.2.2.1.2]++(List.map eB r.2.2.2.2.2.l).flatten)⟩]∧tk=[⟨j1,43,10,r.2.2.2.2.1.1.length⟩]
abbrev bO (c:T2t→(Int)→(Bool)→(Int×T2t)→Prop):Prop:=∀ ⦃o1:(List UInt8)×Int×Int×T0t×T5t⦄ ⦃x3:Int⦄ ⦃x4:Bool⦄ ⦃r:Int×T2t⦄,c o1 x3 x4 r→∀ (bx0:Nat) (ia2:Option (Nat×Nat)),Cn Tryz.prog 71 [pw bx0,iv x3,bv x4] [⟨bx0,76,([sb o1.1,iv o1.2.1,iv o1.2.2.1,.sl 10 (some ia2) (List.map aa o1.2.2.2.1.1),iv o1.2.2.2.1.2]++(List.map eB o1.2.2.2.2.l).flatten)⟩] [⟨ia2,43,10,o1.2.2.2.1.1.length⟩] fun rr bx tk=>∃ j1,rr=iv r.1∧bx=[⟨bx0,76,([sb r.2.1,iv r.2.2.1,iv r.2.2.2.1,.sl 10 (some j1) (List.map aa r.2.2.2.2.1.1),iv r.2.2.2.2.1.2]++(List.map eB r.2.2.2.2.2.l).flatten)⟩]∧tk=[⟨j1,43,10,r.2.2.2.2.1.1.length⟩]
abbrev bi (c:T2t→(Bool)→(Int×T2t)→Prop):Prop:=∀ ⦃o1:(List UInt8)×Int×Int×T0t×T5t⦄ ⦃x3:Bool⦄ ⦃r:Int×T2t⦄,c o1 x3 r→∀ (bx0:Nat) (ia2:Option (Nat×Nat)),Cn Tryz.prog 30 [pw bx0,bv x3] [⟨bx0,76,([sb o1.1,iv o1.2.1,iv o1.2.2.1,.sl 10 (some ia2) (List.map aa o1.2.2.2.1.1),iv o1.2.2.2.1.2]++(List.map eB o1.2.2.2.2.l).flatten)⟩] [⟨ia2,43,10,o1.2.2.2.1.1.length⟩] fun rr bx tk=>∃ j1,rr=iv r.1∧bx=[⟨bx0,76,([sb r.2.1,iv r.2.2.1,iv r.2.2.2.1,.sl 10 (some j1) (List.map aa r.2.2.2.2.1.1),iv r.2.2.2.2.1.2]++(List.map eB r.2.2.2.2.2.l).flatten)⟩]∧tk=[⟨j1,43,10,r.2.2.2.2.1.1.length⟩]
abbrev bP (c:T2t→(Bool)→(Int×T2t)→Prop):Prop:=∀ ⦃o1:(List UInt8)×Int×Int×T0t×T5t⦄ ⦃x3:Bool⦄ ⦃r:Int×T2t⦄,c o1 x3 r→∀ (bx0:Nat) (ia2:Option (Nat×Nat)),Cn Tryz.prog 55 [pw bx0,bv x3] [⟨bx0,76,([sb o1.1,iv o1.2.1,iv o1.2.2.1,.sl 10 (some ia2) (List.map aa o1.2.2.2.1.1),iv o1.2.2.2.1.2]++(List.map eB o1.2.2.2.2.l).flatten)⟩] [⟨ia2,43,10,o1.2.2.2.1.1.length⟩] fun rr bx tk=>∃ j1,rr=iv r.1∧bx=[⟨bx0,76,([sb r.2.1,iv r.2.2.1,iv r.2.2.2.1,.sl 10 (some j1) (List.map aa r.2.2.2.2.1.1),iv r.2.2.2.2.1.2]++(List.map eB r.2.2.2.2.2.l).flatten)⟩]∧tk=[⟨j1,43,10,r.2.2.2.2.1.1.length⟩]
set_option maxHeartbeats 4000000 in
theorem lu {c_q11q} {c_q10q} {c_q12q} {c_q13q} {c_q14q} (_kc_palinoderef08_Reader_Alt: bD c_q11q) (kc_palinoderef08_Reader_extended: br c_q10q) (_kc_palinoderef08_Reader_Group: bO c_q12q) (_kc_palinoderef08_Reader_branch: bi c_q13q) (_kc_palinoderef08_Reader_piece: bP c_q14q) : bD (dU c_q11q c_q10q c_q12q c_q13q c_q14q) := by
 intro o1 x3 r h bx0 ia2;refine al Tryz.func29 rfl rfl (by kernel_rfl) fun g hg=>?_;simp only [Tryz.ntmps29,av];refine wn_ 12 h fun h=>?_;obtain ⟨Inv,⟨m0,hI⟩,hS⟩ := lq_ h;refine lp_ hI (fun σ m=>∃ x1849 f1851 f1852 f1853 f1854 f1856 f1857 i1850 i1855, Inv (x1849, f1851, f1852, f1853, f1854, f1856, f1857) m ∧ σ=⟨[(0, pw bx0), (1, bv x3), (5, .sl 1 (some i1850) (List.map ei x1849))], [⟨bx0, 76, ([sb f1851, iv f1852, iv f1853, .sl 10 (some i1855) (List.map aa f1854), iv f1856] ++ (List.map eB f1857.l).flatten)⟩], [⟨i1855, 43, 10, f1854.length⟩, ⟨i1850, 3, 1, x1849.length⟩]⟩) ?_
 rintro _ m ⟨x1849,f1851,f1852,f1853,f1854,f1856,f1857,i1850,i1855,hI,rfl⟩;obtain ⟨ag1,hag1,h⟩ := cu hS hI;refine wn_ 8 h fun h=>?_;obtain ⟨Inv,⟨m0,hI⟩,hS⟩ := lq_ h;refine lp_ hI (fun σ m=>∃ x2594 f2596 f2597 f2598 f2599 f2601 f2602 i2595 i2600, Inv (x2594, f2596, f2597, f2598, f2599, f2601, f2602) m ∧ σ=⟨[(0, pw bx0), (1, bv x3), (5, .sl 1 (some i1850) (List.map ei x1849)), (6, .sl 1 (some i2595) (List.map ei x2594))], [⟨bx0, 76, ([sb f2596, iv f2597, iv f2598, .sl 10 (some i2600) (List.map aa f2599), iv f2601] ++ (List.map eB f2602.l).flatten)⟩], [⟨i2595, 3, 1, x2594.length⟩, ⟨i2600, 43, 10, f2599.length⟩, ⟨i1850, 3, 1, x1849.length⟩]⟩) ?_
 rintro _ m ⟨x2594,f2596,f2597,f2598,f2599,f2601,f2602,i2595,i2600,hI,rfl⟩;obtain ⟨ag2,hag2,h⟩ := cu hS hI;refine fh ?_;refine ax (fun σ=>∃ x2714, bu c_q10q f2596 f2597 f2598 f2599 f2601 f2602 x2594 ag2 x1849 x3 ag1 x2714 r ∧ σ=⟨[(0, pw bx0), (1, bv x3), (5, .sl 1 (some i1850) (List.map ei x1849)), (6, .sl 1 (some i2595) (List.map ei x2594)), (32, bv x2714)], [⟨bx0, 76, ([sb f2596, iv f2597, iv f2598, .sl 10 (some i2600) (List.map aa f2599), iv f2601] ++ (List.map eB f2602.l).flatten)⟩], [⟨i2600, 43, 10, f2599.length⟩, ⟨i2595, 3, 1, x2594.length⟩, ⟨i1850, 3, 1, x1849.length⟩]⟩) ?_ ?_
 ·refine is_ 14 h (fun h=>?_) fun h=>?_
  ·refine c0_ eJ h fun y2718 h=>?_;refine is_ 19 h (fun h=>?_) fun h=>?_
   ·refine c0_ eJ h fun y2722 h=>?_;refine is_ 24 h (fun h=>?_) fun h=>?_
    ·refine is_ 26 h (fun h=>?_) fun h=>?_
     ·refine c0_ eJ h fun y2727 h=>?_;exact m_ h
     exact m_ h
    exact m_ h
   exact m_ h
  refine wn_ 19 h fun h=>?_;exact rZ ⟨false, h, rfl⟩ ⟨lk_, by refine SubM.trans (SubM.mvT 2 rfl) ?_; refine SubM.trans (SubM.mvT 1 rfl) ?_; refine SubM.trans (SubM.mvT 2 rfl) ?_; (simp only [List.eraseIdx]); exact sm_⟩
 rintro _ ⟨x2714,h,rfl⟩;refine i_ h (fun h=>?_) fun h=>?_
 ·refine c1_ kc_palinoderef08_Reader_extended h fun y2733 i2734 h=>?_;refine aM (f := ei) [y2733.1] ai.h ar.h rfl rfl wr_ rfl rfl rfl rfl fun s39 => ?_;obtain ⟨h2735, h⟩ := h;refine dv (l := x2594) (l2 := [y2733.1]) 2 h2735 ai.h ar.h rfl rfl rfl (.refl _) rfl rfl rfl fun i2736 => ?_;refine wn_ 3 h fun h=>?_;obtain ⟨m', hm, hI⟩ := hag2 _ h;exact jW ⟨(x2594 ++ [y2733.1]), y2733.2.1, y2733.2.2.1, y2733.2.2.2.1, y2733.2.2.2.2.1.1, y2733.2.2.2.2.1.2, y2733.2.2.2.2.2, i2736, i2734, hI, rfl⟩ hm ⟨lk_, by refine SubM.trans (SubM.mvT 3 rfl) ?_; refine SubM.trans (SubM.mvT 2 rfl) ?_; refine SubM.trans (SubM.mvT 3 rfl) ?_; (simp only [List.eraseIdx]); exact sm_⟩
 refine wn_ 5 h fun h=>?_;refine ax (fun σ=>∃ f2747, fl f2596 f2597 f2599 f2601 f2602 x2594 x1849 x3 ag1 f2747 r ∧ σ=⟨[(0, pw bx0), (1, bv x3), (5, .sl 1 (some i1850) (List.map ei x1849)), (6, .sl 1 (some i2595) (List.map ei x2594))], [⟨bx0, 76, ([sb f2596, iv f2597, iv f2747, .sl 10 (some i2600) (List.map aa f2599), iv f2601] ++ (List.map eB f2602.l).flatten)⟩], [⟨i2600, 43, 10, f2599.length⟩, ⟨i2595, 3, 1, x2594.length⟩, ⟨i1850, 3, 1, x1849.length⟩]⟩) ?_ ?_
 ·refine ax (fun σ=>∃ x2752, dK f2596 f2597 f2599 f2601 f2602 x2594 x1849 x3 ag1 f2598 x2752 r ∧ σ=⟨[(0, pw bx0), (1, bv x3), (5, .sl 1 (some i1850) (List.map ei x1849)), (6, .sl 1 (some i2595) (List.map ei x2594)), (50, bv x2752)], [⟨bx0, 76, ([sb f2596, iv f2597, iv f2598, .sl 10 (some i2600) (List.map aa f2599), iv f2601] ++ (List.map eB f2602.l).flatten)⟩], [⟨i2600, 43, 10, f2599.length⟩, ⟨i2595, 3, 1, x2594.length⟩, ⟨i1850, 3, 1, x1849.length⟩]⟩) ?_ ?_
  ·refine ks_ 46 h (fun h=>?_) fun h=>?_
   ·exact m_ h
   exact m_ h
  rintro _ ⟨x2752,h,rfl⟩;refine i_ h (fun h=>?_) fun h=>?_
  ·exact m_ h
  exact m_ h
 rintro _ ⟨f2747,h,rfl⟩;refine i_ h (fun h=>?_) fun h=>?_
 ·exact r_ h hg
 refine c1_ BP h fun y2763 i2764 h=>?_;refine aM (f := ei) [y2763.1] ai.h ar.h rfl rfl wr_ rfl rfl rfl rfl fun s63 => ?_;obtain ⟨h2765, h⟩ := h;refine dv (l := x1849) (l2 := [y2763.1]) 3 h2765 ai.h ar.h rfl rfl rfl (.refl _) rfl rfl rfl fun i2766 => ?_;refine c0_ eJ h fun y2772 h=>?_;refine i_ h (fun h=>?_) fun h=>?_
 ·refine wn_ 6 h fun h=>?_;refine ax (fun σ=>∃ f2789, cH x1849 y2763 f2789 r ∧ σ=⟨[(0, pw bx0), (5, .sl 1 (some i2766) (List.map ei ((x1849 ++ [y2763.1]))))], [⟨bx0, 76, ([sb y2763.2.1, iv y2763.2.2.1, iv f2789, .sl 10 (some i2764) (List.map aa y2763.2.2.2.2.1.1), iv y2763.2.2.2.2.1.2] ++ (List.map eB y2763.2.2.2.2.2.l).flatten)⟩], [⟨i2764, 43, 10, y2763.2.2.2.2.1.1.length⟩, ⟨i2766, 3, 1, ((x1849 ++ [y2763.1])).length⟩]⟩) ?_ ?_
  ·refine ax (fun σ=>∃ x2796, bt x1849 y2763 x2796 r ∧ σ=⟨[(0, pw bx0), (5, .sl 1 (some i2766) (List.map ei ((x1849 ++ [y2763.1])))), (88, bv x2796)], [⟨bx0, 76, ([sb y2763.2.1, iv y2763.2.2.1, iv y2763.2.2.2.1, .sl 10 (some i2764) (List.map aa y2763.2.2.2.2.1.1), iv y2763.2.2.2.2.1.2] ++ (List.map eB y2763.2.2.2.2.2.l).flatten)⟩], [⟨i2764, 43, 10, y2763.2.2.2.2.1.1.length⟩, ⟨i2766, 3, 1, ((x1849 ++ [y2763.1])).length⟩]⟩) ?_ ?_
   ·refine is_ 77 h (fun h=>?_) fun h=>?_
    ·refine is_ 84 h (fun h=>?_) fun h=>?_
     ·refine c0_ eJ h fun y2801 h=>?_;exact m_ h
     exact m_ h
    exact m_ h
   rintro _ ⟨x2796,h,rfl⟩;refine i_ h (fun h=>?_) fun h=>?_
   ·exact m_ h
   exact m_ h
  rintro _ ⟨f2789,h,rfl⟩;refine x_ h fun y2804 h=>?_;refine wn_ 11 h fun h=>?_;obtain ⟨Inv,⟨m0,hI⟩,hS⟩ := lq_ h;refine lp_ hI (fun σ m=>∃ x2863 x2864 f2865 f2866 f2867 f2868 f2870 f2871 i2869, Inv (x2863, x2864, f2865, f2866, f2867, f2868, f2870, f2871) m ∧ σ=⟨[(0, pw bx0), (5, .sl 1 (some i2766) (List.map ei ((x1849 ++ [y2763.1])))), (7, iv x2863), (8, iv x2864)], [⟨bx0, 76, ([sb f2865, iv f2866, iv f2867, .sl 10 (some i2869) (List.map aa f2868), iv f2870] ++ (List.map eB f2871.l).flatten)⟩], [⟨i2869, 43, 10, f2868.length⟩, ⟨i2766, 3, 1, ((x1849 ++ [y2763.1])).length⟩]⟩) ?_
  rintro _ m ⟨x2863,x2864,f2865,f2866,f2867,f2868,f2870,f2871,i2869,hI,rfl⟩;obtain ⟨ag8,hag8,h⟩ := cu hS hI;refine i_ h (fun h=>?_) fun h=>?_
  ·refine x_ h fun y2890 h=>?_;refine v_ (cU ae.h rfl rfl rfl) ?_;refine vp_ (aw (cs := ([iv 3, iv x2863, iv y2890, iv 0, iv 0, iv 0] ++ (List.map ew ((Arr.rep 4 (0 : UInt64))).l).flatten)) aQ.h rfl (by refine ao [] [iv 0] ([iv 0, iv 0, iv 0, iv 0, iv 0] ++ (List.map ew ((Arr.rep 4 (0 : UInt64))).l).flatten) sq_ sl_ sl_ sl_ rfl rfl ?_; refine ao [iv 3] [iv 0] ([iv 0, iv 0, iv 0, iv 0] ++ (List.map ew ((Arr.rep 4 (0 : UInt64))).l).flatten) sq_ sl_ sl_ sl_ rfl rfl ?_; refine ao [iv 3, iv x2863] [iv 0] ([iv 0, iv 0, iv 0] ++ (List.map ew ((Arr.rep 4 (0 : UInt64))).l).flatten) sq_ sl_ sl_ sl_ rfl rfl ?_; exact congrArg some sq_)) ?_
   refine c1_ iQ h fun y2893 i2894 h=>?_;exact g_ h hag8
  exact r_ h hg
 exact g_ h hag1
set_option maxHeartbeats 4000000 in
theorem jU {c_q11q} {c_q10q} {c_q12q} {c_q13q} {c_q14q} (_kc_palinoderef08_Reader_Alt: bD c_q11q) (_kc_palinoderef08_Reader_extended: br c_q10q) (kc_palinoderef08_Reader_Group: bO c_q12q) (_kc_palinoderef08_Reader_branch: bi c_q13q) (_kc_palinoderef08_Reader_piece: bP c_q14q) : br (cQ c_q11q c_q10q c_q12q c_q13q c_q14q) := by
 intro o1 x3 r h bx0 ia2;refine al Tryz.func53 rfl rfl (by kernel_rfl) fun g hg=>?_;simp only [Tryz.ntmps53,av];refine c0_ eJ h fun y5 h=>?_;refine wn_ 9 h fun h=>?_;refine ax (fun σ=>∃ x29, d8 o1 y5 c_q12q x29 r ∧ σ=⟨[(0, pw bx0), (5, iv y5), (30, bv x29)], [⟨bx0, 76, ([sb o1.1, iv o1.2.1, iv o1.2.2.1, .sl 10 (some ia2) (List.map aa o1.2.2.2.1.1), iv o1.2.2.2.1.2] ++ (List.map eB o1.2.2.2.2.l).flatten)⟩], [⟨ia2, 43, 10, o1.2.2.2.1.1.length⟩]⟩) ?_ ?_
 ·refine ks_ 19 h (fun h=>?_) fun h=>?_
  ·exact m_ h
  refine ks_ 23 h (fun h=>?_) fun h=>?_
  ·exact m_ h
  refine ks_ 27 h (fun h=>?_) fun h=>?_
  ·exact m_ h
  exact m_ h
 rintro _ ⟨x29,h,rfl⟩;refine i_ h (fun h=>?_) fun h=>?_
 ·exact r_ h hg
 refine i_ h (fun h=>?_) fun h=>?_
 ·exact r_ h hg
 refine wn_ 3 h fun h=>?_;refine ax (fun σ=>∃ x62, cf o1 y5 c_q12q x62 r ∧ σ=⟨[(0, pw bx0), (5, iv y5), (44, bv x62)], [⟨bx0, 76, ([sb o1.1, iv o1.2.1, iv o1.2.2.1, .sl 10 (some ia2) (List.map aa o1.2.2.2.1.1), iv o1.2.2.2.1.2] ++ (List.map eB o1.2.2.2.2.l).flatten)⟩], [⟨ia2, 43, 10, o1.2.2.2.1.1.length⟩]⟩) ?_ ?_
 ·refine ks_ 41 h (fun h=>?_) fun h=>?_
  ·exact m_ h
  exact m_ h
 rintro _ ⟨x62,h,rfl⟩;refine i_ h (fun h=>?_) fun h=>?_
 ·refine wn_ 15 h fun h=>?_;refine vp_ (aw (cs := ([iv 7, iv 0, iv 0, iv 0, iv 0, iv 0] ++ (List.map ew ((Arr.rep 4 (0 : UInt64))).l).flatten)) aQ.h rfl (by refine ao [] [iv 0] ([iv 0, iv 0, iv 0, iv 0, iv 0] ++ (List.map ew ((Arr.rep 4 (0 : UInt64))).l).flatten) sq_ sl_ sl_ sl_ rfl rfl ?_; exact congrArg some sq_)) ?_
  refine aN ar.h rfl rfl fun b7 => ?_;refine bA 0 ([iv 0, iv 0, iv 0, iv 0, iv 0, iv 0] ++ (List.map ew ((Arr.rep 4 (0 : UInt64))).l).flatten) rfl rfl ?_;refine aC 0 [] ([iv 0, iv 0, iv 0, iv 0, iv 0, iv 0] ++ (List.map ew ((Arr.rep 4 (0 : UInt64))).l).flatten) [] ([iv 7, iv 0, iv 0, iv 0, iv 0, iv 0] ++ (List.map ew ((Arr.rep 4 (0 : UInt64))).l).flatten) ae.h rfl rfl rfl rfl rfl ?_
  refine wn_ 2 h fun h=>?_;refine ax (fun σ=>∃ f70, dY o1 f70 r ∧ σ=⟨[(0, pw bx0), (7, pw b7)], [⟨b7, 43, ([iv f70, iv 0, iv 0, iv 0, iv 0, iv 0] ++ (List.map ew ((Arr.rep 4 (0 : UInt64))).l).flatten)⟩, ⟨bx0, 76, ([sb o1.1, iv ((o1.2.1 + 1)), iv o1.2.2.1, .sl 10 (some ia2) (List.map aa o1.2.2.2.1.1), iv o1.2.2.2.1.2] ++ (List.map eB o1.2.2.2.2.l).flatten)⟩], [⟨ia2, 43, 10, o1.2.2.2.1.1.length⟩]⟩) ?_ ?_
  ·refine i_ h (fun h=>?_) fun h=>?_
   ·exact m_ h
   exact m_ h
  rintro _ ⟨f70,h,rfl⟩;refine wn_ 3 h fun h=>?_;refine v_ (an 0 [] ([iv f70, iv 0, iv 0, iv 0, iv 0, iv 0] ++ (List.map ew ((Arr.rep 4 (0 : UInt64))).l).flatten) [] sq_ sl_ sl_ (aq sl_) ae.h rfl rfl) ?_;refine c1_ iQ h fun y74 i75 h=>?_;exact r_ h hg
 refine wn_ 2 h fun h=>?_;refine ax (fun σ=>∃ x108 f109 f110 f111 f112 f114 f115 i113, bN x108 f109 f110 f111 f112 f114 f115 r ∧ σ=⟨[(0, pw bx0), (6, iv x108)], [⟨bx0, 76, ([sb f109, iv f110, iv f111, .sl 10 (some i113) (List.map aa f112), iv f114] ++ (List.map eB f115.l).flatten)⟩], [⟨i113, 43, 10, f112.length⟩]⟩) ?_ ?_
 ·refine i_ h (fun h=>?_) fun h=>?_
  ·refine c1_ kc_palinoderef08_Reader_Group h fun y119 i120 h=>?_;exact m_ h
  refine i_ h (fun h=>?_) fun h=>?_
  ·refine c1_ BQ h fun y124 i125 h=>?_;exact m_ h
  refine i_ h (fun h=>?_) fun h=>?_
  ·refine c1_ BT h fun y129 i130 h=>?_;exact m_ h
  refine wn_ 3 h fun h=>?_;obtain ⟨c132, h131, h⟩ := h;refine vp_ (eU h131 ai.h ai.h rfl) ?_;refine z0_ k0_ h fun y134 h=>?_;refine vp_ (aw (cs := ([iv 1, iv 0, iv 0, iv 0, iv 0, iv 0] ++ (List.map ew y134.l).flatten)) aQ.h rfl (by refine ao [] [iv 0] ([iv 0, iv 0, iv 0, iv 0, iv 0] ++ (List.map ew ((Arr.rep 4 (0 : UInt64))).l).flatten) sq_ sl_ sl_ sl_ rfl rfl ?_; refine ao [iv 1, iv 0, iv 0, iv 0, iv 0, iv 0] ((List.map ew ((Arr.rep 4 (0 : UInt64))).l).flatten) [] sq_ sl_ sl_ sl_ rfl rfl ?_; exact congrArg some sq_)) ?_
  refine aN ar.h rfl rfl fun b8 => ?_;refine bA 0 ([iv 0, iv 0, iv 0, iv 0, iv 0, iv 0] ++ (List.map ew ((Arr.rep 4 (0 : UInt64))).l).flatten) rfl rfl ?_;refine aC 0 [] ([iv 0, iv 0, iv 0, iv 0, iv 0, iv 0] ++ (List.map ew ((Arr.rep 4 (0 : UInt64))).l).flatten) [] ([iv 1, iv 0, iv 0, iv 0, iv 0, iv 0] ++ (List.map ew y134.l).flatten) ae.h rfl rfl rfl rfl rfl ?_
  refine wn_ 2 h fun h=>?_;refine ax (fun σ=>∃ f139, d7 o1 f139 r ∧ σ=⟨[(0, pw bx0), (8, pw b8)], [⟨b8, 43, ([iv 1, iv 0, iv 0, iv 0, iv 0, iv 0] ++ (List.map ew f139.l).flatten)⟩, ⟨bx0, 76, ([sb o1.1, iv o1.2.1, iv o1.2.2.1, .sl 10 (some ia2) (List.map aa o1.2.2.2.1.1), iv o1.2.2.2.1.2] ++ (List.map eB o1.2.2.2.2.l).flatten)⟩], [⟨ia2, 43, 10, o1.2.2.2.1.1.length⟩]⟩) ?_ ?_
  ·refine i_ h (fun h=>?_) fun h=>?_
   ·refine z0_ BU h fun y143 h=>?_;refine vp_ (cd bE.h rfl) ?_;refine aC 0 [iv 1, iv 0, iv 0, iv 0, iv 0, iv 0] ((List.map ew y134.l).flatten) [] ([iv 1, iv 0, iv 0, iv 0, iv 0, iv 0] ++ (List.map ew y143.l).flatten) ae.h rfl rfl rfl rfl rfl ?_
    exact m_ h
   exact m_ h
  rintro _ ⟨f139,h,rfl⟩;refine wn_ 15 h fun h=>?_;refine v_ (an 0 [] ([iv 1, iv 0, iv 0, iv 0, iv 0, iv 0] ++ (List.map ew f139.l).flatten) [] sq_ sl_ sl_ (aq sl_) ae.h rfl rfl) ?_;refine c1_ iQ h fun y146 i147 h=>?_;exact m_ h
 rintro _ ⟨x108,f109,f110,f111,f112,f114,f115,i113,h,rfl⟩;refine wn_ 2 h fun h=>?_;obtain ⟨Inv,⟨m0,hI⟩,hS⟩ := lq_ h;refine lp_ hI (fun σ m=>∃ x640 f641 f642 f643 f644 f646 f647 i645, Inv (x640, f641, f642, f643, f644, f646, f647) m ∧ σ=⟨[(0, pw bx0), (6, iv x640)], [⟨bx0, 76, ([sb f641, iv f642, iv f643, .sl 10 (some i645) (List.map aa f644), iv f646] ++ (List.map eB f647.l).flatten)⟩], [⟨i645, 43, 10, f644.length⟩]⟩) ?_
 rintro _ m ⟨x640,f641,f642,f643,f644,f646,f647,i645,hI,rfl⟩;obtain ⟨ag6,hag6,h⟩ := cu hS hI;refine i_ h (fun h=>?_) fun h=>?_
 ·refine wn_ 6 h fun h=>?_;refine vp_ (aw (cs := ([iv 4, iv x640, iv 0, iv 0, iv ((-1)), iv 0] ++ (List.map ew ((Arr.rep 4 (0 : UInt64))).l).flatten)) aQ.h rfl (by refine ao [] [iv 0] ([iv 0, iv 0, iv 0, iv 0, iv 0] ++ (List.map ew ((Arr.rep 4 (0 : UInt64))).l).flatten) sq_ sl_ sl_ sl_ rfl rfl ?_; refine ao [iv 4] [iv 0] ([iv 0, iv 0, iv 0, iv 0] ++ (List.map ew ((Arr.rep 4 (0 : UInt64))).l).flatten) sq_ sl_ sl_ sl_ rfl rfl ?_; refine ao [iv 4, iv x640, iv 0, iv 0] [iv 0] ([iv 0] ++ (List.map ew ((Arr.rep 4 (0 : UInt64))).l).flatten) sq_ sl_ sl_ sl_ rfl rfl ?_; exact congrArg some sq_)) ?_
  refine aN ar.h rfl rfl fun b9 => ?_;refine bA 0 ([iv 0, iv 0, iv 0, iv 0, iv 0, iv 0] ++ (List.map ew ((Arr.rep 4 (0 : UInt64))).l).flatten) rfl rfl ?_;refine aC 0 [] ([iv 0, iv 0, iv 0, iv 0, iv 0, iv 0] ++ (List.map ew ((Arr.rep 4 (0 : UInt64))).l).flatten) [] ([iv 4, iv x640, iv 0, iv 0, iv ((-1)), iv 0] ++ (List.map ew ((Arr.rep 4 (0 : UInt64))).l).flatten) ae.h rfl rfl rfl rfl rfl ?_
  refine c0_ eJ h fun y774 h=>?_;refine wn_ 3 h fun h=>?_;refine ax (fun σ=>∃ f777, d6 y774 f642 f641 f643 f644 f646 f647 x640 ag6 f777 r ∧ σ=⟨[(0, pw bx0), (5, iv y774), (6, iv x640), (9, pw b9)], [⟨bx0, 76, ([sb f641, iv f642, iv f643, .sl 10 (some i645) (List.map aa f644), iv f646] ++ (List.map eB f647.l).flatten)⟩, ⟨b9, 43, ([iv 4, iv x640, iv 0, iv f777, iv ((-1)), iv 0] ++ (List.map ew ((Arr.rep 4 (0 : UInt64))).l).flatten)⟩], [⟨i645, 43, 10, f644.length⟩]⟩) ?_ ?_
  ·refine i_ h (fun h=>?_) fun h=>?_
   ·exact m_ h
   exact m_ h
  rintro _ ⟨f777,h,rfl⟩;refine ax (fun σ=>∃ f782, dZ f642 y774 f641 f643 f644 f646 f647 x640 ag6 f777 f782 r ∧ σ=⟨[(0, pw bx0), (5, iv y774), (6, iv x640), (9, pw b9)], [⟨bx0, 76, ([sb f641, iv f642, iv f643, .sl 10 (some i645) (List.map aa f644), iv f646] ++ (List.map eB f647.l).flatten)⟩, ⟨b9, 43, ([iv 4, iv x640, iv 0, iv f777, iv f782, iv 0] ++ (List.map ew ((Arr.rep 4 (0 : UInt64))).l).flatten)⟩], [⟨i645, 43, 10, f644.length⟩]⟩) ?_ ?_
  ·refine i_ h (fun h=>?_) fun h=>?_
   ·exact m_ h
   exact m_ h
  rintro _ ⟨f782,h,rfl⟩;refine wn_ 10 h fun h=>?_;refine ax (fun σ=>∃ x835 f836 f837, bM f641 f643 f644 f646 f647 x640 ag6 x835 f836 f837 r ∧ σ=⟨[(0, pw bx0), (9, pw b9), (10, iv x835)], [⟨bx0, 76, ([sb f641, iv f642, iv f643, .sl 10 (some i645) (List.map aa f644), iv f646] ++ (List.map eB f647.l).flatten)⟩, ⟨b9, 43, ([iv 4, iv x640, iv 0, iv f836, iv f837, iv 0] ++ (List.map ew ((Arr.rep 4 (0 : UInt64))).l).flatten)⟩], [⟨i645, 43, 10, f644.length⟩]⟩) ?_ ?_
  ·refine i_ h (fun h=>?_) fun h=>?_
   ·refine c0_ BW h fun y842 h=>?_;refine wn_ 12 h fun h=>?_;refine ax (fun σ=>∃ x866, aZ x640 f641 f642 f644 f646 f647 y842 f643 ag6 x866 r ∧ σ=⟨[(0, pw bx0), (6, iv x640), (9, pw b9), (11, iv y842.1), (12, iv y842.2.1), (13, iv y842.2.2.1), (145, bv x866)], [⟨bx0, 76, ([sb f641, iv f642, iv f643, .sl 10 (some i645) (List.map aa f644), iv f646] ++ (List.map eB f647.l).flatten)⟩, ⟨b9, 43, ([iv 4, iv x640, iv 0, iv f777, iv f782, iv 0] ++ (List.map ew ((Arr.rep 4 (0 : UInt64))).l).flatten)⟩], [⟨i645, 43, 10, f644.length⟩]⟩) ?_ ?_
    ·refine is_ 127 h (fun h=>?_) fun h=>?_
     ·exact m_ h
     refine is_ 136 h (fun h=>?_) fun h=>?_
     ·exact m_ h
     refine x_ h fun y871 h=>?_;exact m_ h
    rintro _ ⟨x866,h,rfl⟩;refine i_ h (fun h=>?_) fun h=>?_
    ·exact r_ h hg
    exact m_ h
   refine is_ 157 h (fun h=>?_) fun h=>?_
   ·refine is_ 161 h (fun h=>?_) fun h=>?_
    ·refine i_ h (fun h=>?_) fun h=>?_
     ·exact r_ h hg
     exact m_ h
    exact m_ h
   exact m_ h
  rintro _ ⟨x835,f836,f837,h,rfl⟩;refine wn_ 11 h fun h=>?_;refine v_ (an 1 [] ([iv 4, iv x640, iv 0, iv f836, iv f837, iv 0] ++ (List.map ew ((Arr.rep 4 (0 : UInt64))).l).flatten) [] sq_ sl_ sl_ (aq sl_) ae.h rfl rfl) ?_;refine c1_ iQ h fun y888 i889 h=>?_;exact g_ h hag6
 exact r_ h hg
set_option maxHeartbeats 4000000 in
theorem kD {c_q11q} {c_q10q} {c_q12q} {c_q13q} {c_q14q} (kc_palinoderef08_Reader_Alt: bD c_q11q) (_kc_palinoderef08_Reader_extended: br c_q10q) (_kc_palinoderef08_Reader_Group: bO c_q12q) (kc_palinoderef08_Reader_branch: bi c_q13q) (_kc_palinoderef08_Reader_piece: bP c_q14q) : bO (dB c_q11q c_q10q c_q12q c_q13q c_q14q) := by
 intro o1 x3 x4 r h bx0 ia2;refine al Tryz.func71 rfl rfl (by kernel_rfl) fun g hg=>?_;simp only [Tryz.ntmps71,av];refine i_ h (fun h=>?_) fun h=>?_
 ·exact r_ h hg
 refine wn_ 46 h fun h=>?_;refine ax (fun σ=>∃ x18 f19 f20 f21 f22 f24 f25 i23, cy x3 o1 x18 f19 f20 f21 f22 f24 f25 r ∧ σ=⟨[(0, pw bx0), (1, iv x3), (7, iv ((o1.2.2.2.1.2 + 1))), (8, iv x18)], [⟨bx0, 76, ([sb f19, iv f20, iv f21, .sl 10 (some i23) (List.map aa f22), iv f24] ++ (List.map eB f25.l).flatten)⟩], [⟨i23, 43, 10, f22.length⟩]⟩) ?_ ?_
 ·refine i_ h (fun h=>?_) fun h=>?_
  ·refine c1_ kc_palinoderef08_Reader_branch h fun y28 i29 h=>?_;exact m_ h
  refine c1_ kc_palinoderef08_Reader_Alt h fun y31 i32 h=>?_;exact m_ h
 rintro _ ⟨x18,f19,f20,f21,f22,f24,f25,i23,h,rfl⟩;refine i_ h (fun h=>?_) fun h=>?_
 ·exact r_ h hg
 refine wn_ 22 h fun h=>?_;obtain ⟨h38, h⟩ := h;obtain ⟨y39, h38b, h⟩ := h;refine vp_ (aA h38 ai.h ae.h rfl rfl) ?_;refine dO (f := eB) (a := f25) (k := 1) (off := 0) (i := ((o1.2.2.2.1.2 + 1) : Int).toNat) 0 [sb f19, iv ((f20 + x3)), iv f21, .sl 10 (some i23) (List.map aa f22), iv f24] [] true h38b sq_ so_ (by decide) ae.h rfl rfl rfl rfl sl_ rfl rfl ?_
 refine bA 0 ([sb f19, iv ((f20 + x3)), iv f21, .sl 10 (some i23) (List.map aa f22), iv f24] ++ (List.map eB ((Arr.set f25 ((o1.2.2.2.1.2 + 1) : Int).toNat true)).l).flatten) rfl sq_ ?_;refine wn_ 7 h fun h=>?_;refine vp_ (aw (cs := ([iv 5, iv x18, iv 0, iv 0, iv 0, iv ((o1.2.2.2.1.2 + 1))] ++ (List.map ew ((Arr.rep 4 (0 : UInt64))).l).flatten)) aQ.h rfl (by refine ao [] [iv 0] ([iv 0, iv 0, iv 0, iv 0, iv 0] ++ (List.map ew ((Arr.rep 4 (0 : UInt64))).l).flatten) sq_ sl_ sl_ sl_ rfl rfl ?_; refine ao [iv 5] [iv 0] ([iv 0, iv 0, iv 0, iv 0] ++ (List.map ew ((Arr.rep 4 (0 : UInt64))).l).flatten) sq_ sl_ sl_ sl_ rfl rfl ?_; refine ao [iv 5, iv x18, iv 0, iv 0, iv 0] [iv 0] ((List.map ew ((Arr.rep 4 (0 : UInt64))).l).flatten) sq_ sl_ sl_ sl_ rfl rfl ?_; exact congrArg some sq_)) ?_
 refine c1_ iQ h fun y41 i42 h=>?_;exact r_ h hg
set_option maxHeartbeats 4000000 in
theorem kn {c_q11q} {c_q10q} {c_q12q} {c_q13q} {c_q14q} (_kc_palinoderef08_Reader_Alt: bD c_q11q) (_kc_palinoderef08_Reader_extended: br c_q10q) (_kc_palinoderef08_Reader_Group: bO c_q12q) (_kc_palinoderef08_Reader_branch: bi c_q13q) (kc_palinoderef08_Reader_piece: bP c_q14q) : bi (dk c_q11q c_q10q c_q12q c_q13q c_q14q) := by
 intro o1 x3 r h bx0 ia2;refine al Tryz.func30 rfl rfl (by kernel_rfl) fun g hg=>?_;simp only [Tryz.ntmps30,av];refine wn_ 10 h fun h=>?_;refine ax (fun σ=>∃ x14 f16 f17 f18 f19 f21 f22 i15 i20, ez c_q14q x3 x14 f16 f17 f18 f19 f21 f22 r ∧ σ=⟨[(0, pw bx0), (1, bv x3), (5, .sl 1 (some i15) (List.map ei x14))], [⟨bx0, 76, ([sb f16, iv f17, iv f18, .sl 10 (some i20) (List.map aa f19), iv f21] ++ (List.map eB f22.l).flatten)⟩], [⟨i15, 3, 1, x14.length⟩, ⟨i20, 43, 10, f19.length⟩]⟩) ?_ ?_
 ·refine c0_ eJ h fun y24 h=>?_;refine i_ h (fun h=>?_) fun h=>?_
  ·refine wn_ 4 h fun h=>?_;refine vp_ (aw (cs := ([iv 7, iv 0, iv 0, iv 0, iv 0, iv 0] ++ (List.map ew ((Arr.rep 4 (0 : UInt64))).l).flatten)) aQ.h rfl (by refine ao [] [iv 0] ([iv 0, iv 0, iv 0, iv 0, iv 0] ++ (List.map ew ((Arr.rep 4 (0 : UInt64))).l).flatten) sq_ sl_ sl_ sl_ rfl rfl ?_; exact congrArg some sq_)) ?_
   refine c1_ iQ h fun y28 i29 h=>?_;refine aM (f := ei) [y28.1] ai.h ar.h rfl rfl wr_ rfl rfl rfl rfl fun s14 => ?_;obtain ⟨h30, h⟩ := h;refine qP (l2 := [y28.1]) h30 ai.h ar.h rfl rfl rfl (.refl _) rfl rfl fun i31 => ?_;exact m_ h
  exact m_ h
 rintro _ ⟨x14,f16,f17,f18,f19,f21,f22,i15,i20,h,rfl⟩;refine wn_ 7 h fun h=>?_;obtain ⟨Inv,⟨m0,hI⟩,hS⟩ := lq_ h;refine lp_ hI (fun σ m=>∃ x295 x297 f298 f299 f300 f301 f303 f304 i296 i302, Inv (x295, x297, f298, f299, f300, f301, f303, f304) m ∧ σ=⟨[(0, pw bx0), (1, bv x3), (5, .sl 1 (some i296) (List.map ei x295)), (6, iv x297)], [⟨bx0, 76, ([sb f298, iv f299, iv f300, .sl 10 (some i302) (List.map aa f301), iv f303] ++ (List.map eB f304.l).flatten)⟩], [⟨i296, 3, 1, x295.length⟩, ⟨i302, 43, 10, f301.length⟩]⟩) ?_
 rintro _ m ⟨x295,x297,f298,f299,f300,f301,f303,f304,i296,i302,hI,rfl⟩;obtain ⟨ag2,hag2,h⟩ := cu hS hI;refine fh ?_;refine ax (fun σ=>∃ x409, bz c_q14q f298 f299 f300 f301 f303 f304 x297 x295 ag2 x3 x409 r ∧ σ=⟨[(0, pw bx0), (1, bv x3), (5, .sl 1 (some i296) (List.map ei x295)), (6, iv x297), (44, bv x409)], [⟨bx0, 76, ([sb f298, iv f299, iv f300, .sl 10 (some i302) (List.map aa f301), iv f303] ++ (List.map eB f304.l).flatten)⟩], [⟨i302, 43, 10, f301.length⟩, ⟨i296, 3, 1, x295.length⟩]⟩) ?_ ?_
 ·refine is_ 29 h (fun h=>?_) fun h=>?_
  ·refine c0_ eJ h fun y413 h=>?_;refine is_ 34 h (fun h=>?_) fun h=>?_
   ·refine c0_ eJ h fun y417 h=>?_;refine is_ 38 h (fun h=>?_) fun h=>?_
    ·refine c0_ eJ h fun y421 h=>?_;exact m_ h
    exact m_ h
   exact m_ h
  refine wn_ 16 h fun h=>?_;exact rZ ⟨false, h, rfl⟩ ⟨lk_, by refine SubM.trans (SubM.mvT 0 rfl) ?_; refine SubM.trans (SubM.mvT 1 rfl) ?_; (simp only [List.eraseIdx]); exact sm_⟩
 rintro _ ⟨x409,h,rfl⟩;refine i_ h (fun h=>?_) fun h=>?_
 ·refine c1_ kc_palinoderef08_Reader_piece h fun y426 i427 h=>?_;refine aM (f := ei) [y426.1] ai.h ar.h rfl rfl wr_ rfl rfl rfl rfl fun s52 => ?_;obtain ⟨h428, h⟩ := h;refine dv (l := x295) (l2 := [y426.1]) 2 h428 ai.h ar.h rfl rfl rfl (.refl _) rfl rfl rfl fun i429 => ?_;refine wn_ 9 h fun h=>?_;obtain ⟨m', hm, hI⟩ := hag2 _ h;exact jW ⟨(x295 ++ [y426.1]), (x297 + 1), y426.2.1, y426.2.2.1, y426.2.2.2.1, y426.2.2.2.2.1.1, y426.2.2.2.2.1.2, y426.2.2.2.2.2, i429, i427, hI, rfl⟩ hm ⟨lk_, by refine SubM.trans (SubM.mvT 1 rfl) ?_; refine SubM.trans (SubM.mvT 2 rfl) ?_; (simp only [List.eraseIdx]); exact sm_⟩
 refine i_ h (fun h=>?_) fun h=>?_
 ·exact r_ h hg
 refine c0_ eJ h fun y441 h=>?_;refine i_ h (fun h=>?_) fun h=>?_
 ·exact r_ h hg
 refine c1_ BP h fun y446 i447 h=>?_;exact r_ h hg
set_option maxHeartbeats 4000000 in
theorem kE {c_q11q} {c_q10q} {c_q12q} {c_q13q} {c_q14q} (_kc_palinoderef08_Reader_Alt: bD c_q11q) (_kc_palinoderef08_Reader_extended: br c_q10q) (kc_palinoderef08_Reader_Group: bO c_q12q) (_kc_palinoderef08_Reader_branch: bi c_q13q) (_kc_palinoderef08_Reader_piece: bP c_q14q) : bP (dC c_q11q c_q10q c_q12q c_q13q c_q14q) := by
 intro o1 x3 r h bx0 ia2;refine al Tryz.func55 rfl rfl (by kernel_rfl) fun g hg=>?_;simp only [Tryz.ntmps55,av];refine c0_ eJ h fun y5 h=>?_;refine wn_ 9 h fun h=>?_;refine ax (fun σ=>∃ x26, bH o1 y5 c_q12q x26 r ∧ σ=⟨[(0, pw bx0), (5, iv y5), (23, bv x26)], [⟨bx0, 76, ([sb o1.1, iv o1.2.1, iv o1.2.2.1, .sl 10 (some ia2) (List.map aa o1.2.2.2.1.1), iv o1.2.2.2.1.2] ++ (List.map eB o1.2.2.2.2.l).flatten)⟩], [⟨ia2, 43, 10, o1.2.2.2.1.1.length⟩]⟩) ?_ ?_
 ·refine is_ 16 h (fun h=>?_) fun h=>?_
  ·refine c0_ eJ h fun y30 h=>?_;refine ks_ 21 h (fun h=>?_) fun h=>?_
   ·exact m_ h
   exact m_ h
  exact m_ h
 rintro _ ⟨x26,h,rfl⟩;refine i_ h (fun h=>?_) fun h=>?_
 ·exact r_ h hg
 refine wn_ 2 h fun h=>?_;refine ax (fun σ=>∃ x134 f135 f136 f137 f138 f140 f141 i139, bF x134 f135 f136 f137 f138 f140 f141 r ∧ σ=⟨[(0, pw bx0), (6, iv x134)], [⟨bx0, 76, ([sb f135, iv f136, iv f137, .sl 10 (some i139) (List.map aa f138), iv f140] ++ (List.map eB f141.l).flatten)⟩], [⟨i139, 43, 10, f138.length⟩]⟩) ?_ ?_
 ·refine ax (fun σ=>∃ x147, dl c_q12q o1 y5 x147 r ∧ σ=⟨[(0, pw bx0), (5, iv y5), (33, bv x147)], [⟨bx0, 76, ([sb o1.1, iv o1.2.1, iv o1.2.2.1, .sl 10 (some ia2) (List.map aa o1.2.2.2.1.1), iv o1.2.2.2.1.2] ++ (List.map eB o1.2.2.2.2.l).flatten)⟩], [⟨ia2, 43, 10, o1.2.2.2.1.1.length⟩]⟩) ?_ ?_
  ·refine is_ 29 h (fun h=>?_) fun h=>?_
   ·refine c0_ eJ h fun y151 h=>?_;exact m_ h
   exact m_ h
  rintro _ ⟨x147,h,rfl⟩;refine i_ h (fun h=>?_) fun h=>?_
  ·refine c1_ kc_palinoderef08_Reader_Group h fun y155 i156 h=>?_;exact m_ h
  refine i_ h (fun h=>?_) fun h=>?_
  ·refine c1_ BQ h fun y160 i161 h=>?_;exact m_ h
  refine i_ h (fun h=>?_) fun h=>?_
  ·refine c1_ BT h fun y165 i166 h=>?_;exact m_ h
  refine wn_ 3 h fun h=>?_;obtain ⟨c168, h167, h⟩ := h;refine vp_ (eU h167 ai.h ai.h rfl) ?_;refine z0_ k0_ h fun y170 h=>?_;refine vp_ (aw (cs := ([iv 1, iv 0, iv 0, iv 0, iv 0, iv 0] ++ (List.map ew y170.l).flatten)) aQ.h rfl (by refine ao [] [iv 0] ([iv 0, iv 0, iv 0, iv 0, iv 0] ++ (List.map ew ((Arr.rep 4 (0 : UInt64))).l).flatten) sq_ sl_ sl_ sl_ rfl rfl ?_; refine ao [iv 1, iv 0, iv 0, iv 0, iv 0, iv 0] ((List.map ew ((Arr.rep 4 (0 : UInt64))).l).flatten) [] sq_ sl_ sl_ sl_ rfl rfl ?_; exact congrArg some sq_)) ?_
  refine aN ar.h rfl rfl fun b7 => ?_;refine bA 0 ([iv 0, iv 0, iv 0, iv 0, iv 0, iv 0] ++ (List.map ew ((Arr.rep 4 (0 : UInt64))).l).flatten) rfl rfl ?_;refine aC 0 [] ([iv 0, iv 0, iv 0, iv 0, iv 0, iv 0] ++ (List.map ew ((Arr.rep 4 (0 : UInt64))).l).flatten) [] ([iv 1, iv 0, iv 0, iv 0, iv 0, iv 0] ++ (List.map ew y170.l).flatten) ae.h rfl rfl rfl rfl rfl ?_
  refine wn_ 2 h fun h=>?_;refine ax (fun σ=>∃ f175, bG y5 o1 f175 r ∧ σ=⟨[(0, pw bx0), (5, iv y5), (7, pw b7)], [⟨b7, 43, ([iv 1, iv 0, iv 0, iv 0, iv 0, iv 0] ++ (List.map ew f175.l).flatten)⟩, ⟨bx0, 76, ([sb o1.1, iv o1.2.1, iv o1.2.2.1, .sl 10 (some ia2) (List.map aa o1.2.2.2.1.1), iv o1.2.2.2.1.2] ++ (List.map eB o1.2.2.2.2.l).flatten)⟩], [⟨ia2, 43, 10, o1.2.2.2.1.1.length⟩]⟩) ?_ ?_
  ·refine i_ h (fun h=>?_) fun h=>?_
   ·refine z0_ BU h fun y179 h=>?_;refine vp_ (cd bE.h rfl) ?_;refine aC 0 [iv 1, iv 0, iv 0, iv 0, iv 0, iv 0] ((List.map ew y170.l).flatten) [] ([iv 1, iv 0, iv 0, iv 0, iv 0, iv 0] ++ (List.map ew y179.l).flatten) ae.h rfl rfl rfl rfl rfl ?_
    exact m_ h
   exact m_ h
  rintro _ ⟨f175,h,rfl⟩;refine ax (fun σ=>∃ f208 f209, cA o1 f208 f209 r ∧ σ=⟨[(0, pw bx0), (7, pw b7)], [⟨bx0, 76, ([sb o1.1, iv o1.2.1, iv o1.2.2.1, .sl 10 (some ia2) (List.map aa o1.2.2.2.1.1), iv o1.2.2.2.1.2] ++ (List.map eB o1.2.2.2.2.l).flatten)⟩, ⟨b7, 43, ([iv f208, iv 0, iv 0, iv 0, iv 0, iv 0] ++ (List.map ew f209.l).flatten)⟩], [⟨ia2, 43, 10, o1.2.2.2.1.1.length⟩]⟩) ?_ ?_
  ·refine ax (fun σ=>∃ x223, bW o1 f175 x223 r ∧ σ=⟨[(0, pw bx0), (7, pw b7), (68, bv x223)], [⟨bx0, 76, ([sb o1.1, iv o1.2.1, iv o1.2.2.1, .sl 10 (some ia2) (List.map aa o1.2.2.2.1.1), iv o1.2.2.2.1.2] ++ (List.map eB o1.2.2.2.2.l).flatten)⟩, ⟨b7, 43, ([iv 1, iv 0, iv 0, iv 0, iv 0, iv 0] ++ (List.map ew f175.l).flatten)⟩], [⟨ia2, 43, 10, o1.2.2.2.1.1.length⟩]⟩) ?_ ?_
   ·refine is_ 54 h (fun h=>?_) fun h=>?_
    ·refine c0_ eJ h fun y227 h=>?_;refine is_ 58 h (fun h=>?_) fun h=>?_
     ·exact m_ h
     refine c0_ eJ h fun y231 h=>?_;refine is_ 62 h (fun h=>?_) fun h=>?_
     ·refine c0_ eJ h fun y235 h=>?_;exact m_ h
     exact m_ h
    refine wn_ 15 h fun h=>?_;exact rZ ⟨false, h, rfl⟩ ⟨lk_, by refine SubM.trans (SubM.mvB 0 rfl) ?_; refine SubM.trans (SubM.mvB 1 rfl) ?_; (simp only [List.eraseIdx]); exact sm_⟩
   rintro _ ⟨x223,h,rfl⟩;refine i_ h (fun h=>?_) fun h=>?_
   ·refine nY ?_;refine vp_ (aw (cs := ([iv 8, iv 0, iv 0, iv 0, iv 0, iv 0] ++ (List.map ew ((Arr.rep 4 (0 : UInt64))).l).flatten)) aQ.h rfl (by refine ao [] [iv 0] ([iv 0, iv 0, iv 0, iv 0, iv 0] ++ (List.map ew ((Arr.rep 4 (0 : UInt64))).l).flatten) sq_ sl_ sl_ sl_ rfl rfl ?_; exact congrArg some sq_)) ?_
    refine aC 1 [] ([iv 1, iv 0, iv 0, iv 0, iv 0, iv 0] ++ (List.map ew f175.l).flatten) [] ([iv 8, iv 0, iv 0, iv 0, iv 0, iv 0] ++ (List.map ew ((Arr.rep 4 (0 : UInt64))).l).flatten) ae.h rfl rfl rfl rfl rfl ?_;exact m_ h
   exact m_ h
  rintro _ ⟨f208,f209,h,rfl⟩;refine wn_ 15 h fun h=>?_;refine v_ (an 1 [] ([iv f208, iv 0, iv 0, iv 0, iv 0, iv 0] ++ (List.map ew f209.l).flatten) [] sq_ sl_ sl_ (aq sl_) ae.h rfl rfl) ?_;refine c1_ iQ h fun y240 i241 h=>?_;exact m_ h
 rintro _ ⟨x134,f135,f136,f137,f138,f140,f141,i139,h,rfl⟩;refine ax (fun σ=>∃ x589 f590 f591 f592 f593 f595 f596 i594, cz x589 f590 f591 f592 f593 f595 f596 r ∧ σ=⟨[(6, iv x589)], [⟨bx0, 76, ([sb f590, iv f591, iv f592, .sl 10 (some i594) (List.map aa f593), iv f595] ++ (List.map eB f596.l).flatten)⟩], [⟨i594, 43, 10, f593.length⟩]⟩) ?_ ?_
 ·refine na ?_;obtain ⟨Inv,⟨m0,hI⟩,hS⟩ := lq_ h;refine lp_ hI (fun σ m=>∃ x710 f711 f712 f713 f714 f716 f717 i715, Inv (x710, f711, f712, f713, f714, f716, f717) m ∧ σ=⟨[(0, pw bx0), (6, iv x710)], [⟨bx0, 76, ([sb f711, iv f712, iv f713, .sl 10 (some i715) (List.map aa f714), iv f716] ++ (List.map eB f717.l).flatten)⟩], [⟨i715, 43, 10, f714.length⟩]⟩) ?_
  rintro _ m ⟨x710,f711,f712,f713,f714,f716,f717,i715,hI,rfl⟩;obtain ⟨ag8,hag8,h⟩ := cu hS hI;refine i_ h (fun h=>?_) fun h=>?_
  ·refine c0_ eJ h fun y844 h=>?_;refine i_ h (fun h=>?_) fun h=>?_
   ·refine wn_ 17 h fun h=>?_;refine vp_ (aw (cs := ([iv 4, iv x710, iv 0, iv 0, iv ((-1)), iv 0] ++ (List.map ew ((Arr.rep 4 (0 : UInt64))).l).flatten)) aQ.h rfl (by refine ao [] [iv 0] ([iv 0, iv 0, iv 0, iv 0, iv 0] ++ (List.map ew ((Arr.rep 4 (0 : UInt64))).l).flatten) sq_ sl_ sl_ sl_ rfl rfl ?_; refine ao [iv 4] [iv 0] ([iv 0, iv 0, iv 0, iv 0] ++ (List.map ew ((Arr.rep 4 (0 : UInt64))).l).flatten) sq_ sl_ sl_ sl_ rfl rfl ?_; refine ao [iv 4, iv x710, iv 0, iv 0] [iv 0] ([iv 0] ++ (List.map ew ((Arr.rep 4 (0 : UInt64))).l).flatten) sq_ sl_ sl_ sl_ rfl rfl ?_; exact congrArg some sq_)) ?_
    refine c1_ iQ h fun y849 i850 h=>?_;exact g_ h hag8
   refine c0_ eJ h fun y874 h=>?_;refine is_ 104 h (fun h=>?_) fun h=>?_
   ·exact m_ h
   refine c0_ eJ h fun y878 h=>?_;refine i_ h (fun h=>?_) fun h=>?_
   ·exact m_ h
   refine c0_ BW h fun y883 h=>?_;refine wn_ 12 h fun h=>?_;refine ax (fun σ=>∃ x925, aV x710 f711 f712 f714 f716 f717 y883 f713 ag8 x925 r ∧ σ=⟨[(0, pw bx0), (6, iv x710), (8, iv y883.1), (9, iv y883.2.1), (10, iv y883.2.2.1), (105, pw bx0), (106, iv y878), (107, .v (.bool (!(decide (y878 = 123))))), (153, bv x925)], [⟨bx0, 76, ([sb f711, iv f712, iv f713, .sl 10 (some i715) (List.map aa f714), iv f716] ++ (List.map eB f717.l).flatten)⟩], [⟨i715, 43, 10, f714.length⟩]⟩) ?_ ?_
   ·refine is_ 123 h (fun h=>?_) fun h=>?_
    ·exact m_ h
    refine is_ 133 h (fun h=>?_) fun h=>?_
    ·exact m_ h
    refine x_ h fun y931 h=>?_;refine is_ 143 h (fun h=>?_) fun h=>?_
    ·exact m_ h
    refine x_ h fun y936 h=>?_;exact m_ h
   rintro _ ⟨x925,h,rfl⟩;refine i_ h (fun h=>?_) fun h=>?_
   ·exact m_ h
   refine wn_ 17 h fun h=>?_;refine vp_ (aw (cs := ([iv 4, iv x710, iv 0, iv y883.1, iv y883.2.1, iv 0] ++ (List.map ew ((Arr.rep 4 (0 : UInt64))).l).flatten)) aQ.h rfl (by refine ao [] [iv 0] ([iv 0, iv 0, iv 0, iv 0, iv 0] ++ (List.map ew ((Arr.rep 4 (0 : UInt64))).l).flatten) sq_ sl_ sl_ sl_ rfl rfl ?_; refine ao [iv 4] [iv 0] ([iv 0, iv 0, iv 0, iv 0] ++ (List.map ew ((Arr.rep 4 (0 : UInt64))).l).flatten) sq_ sl_ sl_ sl_ rfl rfl ?_; refine ao [iv 4, iv x710, iv 0] [iv 0] ([iv 0, iv 0] ++ (List.map ew ((Arr.rep 4 (0 : UInt64))).l).flatten) sq_ sl_ sl_ sl_ rfl rfl ?_; refine ao [iv 4, iv x710, iv 0, iv y883.1] [iv 0] ([iv 0] ++ (List.map ew ((Arr.rep 4 (0 : UInt64))).l).flatten) sq_ sl_ sl_ sl_ rfl rfl ?_; exact congrArg some sq_)) ?_
   refine c1_ iQ h fun y942 i943 h=>?_;exact g_ h hag8
  exact m_ h
 rintro _ ⟨x589,f590,f591,f592,f593,f595,f596,i594,h,rfl⟩;exact r_ h hg
set_option maxHeartbeats 4000000 in
theorem BX {S1: Nat → T2t → (Bool) → (Int × T2t) → Prop} {S2: Nat → T2t → (Bool) → (Int × T2t) → Prop} {S3: Nat → T2t → (Int) → (Bool) → (Int × T2t) → Prop} {S4: Nat → T2t → (Bool) → (Int × T2t) → Prop} {S5: Nat → T2t → (Bool) → (Int × T2t) → Prop} (H: dg S1 S2 S3 S4 S5) (m: Nat) : bD (S1 m) ∧ br (S2 m) ∧ bO (S3 m) ∧ bi (S4 m) ∧ bP (S5 m) := by
 induction m using Nat.strongRecOn with
 | _ m ih => exact ⟨fun _ _ _ h=>lu (fun _ _ r ⟨m',hm,h⟩=>(ih m' hm).1 h) (fun _ _ r ⟨m',hm,h⟩=>(ih m' hm).2.1 h) (fun _ _ _ r ⟨m',hm,h⟩=>(ih m' hm).2.2.1 h) (fun _ _ r ⟨m',hm,h⟩=>(ih m' hm).2.2.2.1 h) (fun _ _ r ⟨m',hm,h⟩=>(ih m' hm).2.2.2.2 h) (H.1 m _ _ _ h), fun _ _ _ h=>jU (fun _ _ r ⟨m',hm,h⟩=>(ih m' hm).1 h) (fun _ _ r ⟨m',hm,h⟩=>(ih m' hm).2.1 h) (fun _ _ _ r ⟨m',hm,h⟩=>(ih m' hm).2.2.1 h) (fun _ _ r ⟨m',hm,h⟩=>(ih m' hm).2.2.2.1 h) (fun _ _ r ⟨m',hm,h⟩=>(ih m' hm).2.2.2.2 h) (H.2.1 m _ _ _ h), fun _ _ _ _ h=>kD (fun _ _ r ⟨m',hm,h⟩=>(ih m' hm).1 h) (fun _ _ r ⟨m',hm,h⟩=>(ih m' hm).2.1 h) (fun _ _ _ r ⟨m',hm,h⟩=>(ih m' hm).2.2.1 h) (fun _ _ r ⟨m',hm,h⟩=>(ih m' hm).2.2.2.1 h) (fun _ _ r ⟨m',hm,h⟩=>(ih m' hm).2.2.2.2 h) (H.2.2.1 m _ _ _ _ h), fun _ _ _ h=>kn (fun _ _ r ⟨m',hm,h⟩=>(ih m' hm).1 h) (fun _ _ r ⟨m',hm,h⟩=>(ih m' hm).2.1 h) (fun _ _ _ r ⟨m',hm,h⟩=>(ih m' hm).2.2.1 h) (fun _ _ r ⟨m',hm,h⟩=>(ih m' hm).2.2.2.1 h) (fun _ _ r ⟨m',hm,h⟩=>(ih m' hm).2.2.2.2 h) (H.2.2.2.1 m _ _ _ h), fun _ _ _ h=>kE (fun _ _ r ⟨m',hm,h⟩=>(ih m' hm).1 h) (fun _ _ r ⟨m',hm,h⟩=>(ih m' hm).2.1 h) (fun _ _ _ r ⟨m',hm,h⟩=>(ih m' hm).2.2.1 h) (fun _ _ r ⟨m',hm,h⟩=>(ih m' hm).2.2.2.1 h) (fun _ _ r ⟨m',hm,h⟩=>(ih m' hm).2.2.2.2 h) (H.2.2.2.2 m _ _ _ h)⟩
theorem E1:bD jb:=fun _ _ _ ⟨_,_,_,_,_,H,m,h⟩=>(BX H m).1 h
theorem E2:bi gY:=fun _ _ _ ⟨_,_,_,_,_,H,m,h⟩=>(BX H m).2.2.2.1 h
def du (bv1:List UInt8) (r:T0t×Int×Int):Prop:=
 (((bv1.length:Int)=0→∃ y14:Int×T2t,ap (bv1,0,0,(([]:List T4t),0),(Arr.rep 10 false)) (0,0,0,0,0,0,(Arr.rep 4 (0:UInt64))) y14∧∃ y17:T0t×Int×Int,eu y14.2 y17∧r=(y17.1,y17.2.1,y17.2.2))∧(¬ ((bv1.length:Int)=0)→∃ y19:Int×T2t,jb (bv1,0,0,(([]:List T4t),0),(Arr.rep 10 false)) false y19∧∃ y22:T0t×Int×Int,eu y19.2 y22∧r=(y22.1,y22.2.1,y22.2.2)))
set_option maxRecDepth 100000 in
set_option maxHeartbeats 4000000 in
theorem E3 ⦃bv1: List UInt8⦄ ⦃r: T0t × Int × Int⦄ (h: du bv1 r) : Cn Tryz.prog 17 [sb bv1] [] [] fun rr bx tk=>rr=.tup [.agg [.sl 10 none (List.map aa r.1.1), iv r.1.2], iv r.2.1, iv r.2.2] ∧ bx=[] ∧ tk=[] := by
 refine al Tryz.func17 rfl rfl (by kernel_rfl) fun g hg=>?_;simp only [Tryz.ntmps17,av];refine wn_ 2 h fun h=>?_;refine aN ar.h rfl rfl fun b2 => ?_;refine wn_ 7 h fun h=>?_;refine vp_ (aw (cs := ([sb bv1, iv 0, iv 0, .v (.slice none 0 0), iv 0] ++ (List.map eB ((Arr.rep 10 false)).l).flatten)) aQ.h rfl (by refine ao [] [.v (.slice none 0 0)] ([iv 0, iv 0, .v (.slice none 0 0), iv 0] ++ (List.map eB ((Arr.rep 10 false)).l).flatten) sq_ sl_ sl_ sl_ rfl rfl ?_; exact congrArg some sq_)) ?_
 refine cK rfl rfl rfl rfl fun b8 => ?_;refine i_ h (fun h=>?_) fun h=>?_
 ·refine wn_ 3 h fun h=>?_;refine vp_ (aw (cs := ([iv 0, iv 0, iv 0, iv 0, iv 0, iv 0] ++ (List.map ew ((Arr.rep 4 (0 : UInt64))).l).flatten)) aQ.h rfl (by exact congrArg some sq_)) ?_;refine c1_ iQ h fun y14 i15 h=>?_;refine c0_ xu h fun y17 h=>?_;exact rl_ h hg
 refine c1_ E1 h fun y19 i20 h=>?_;refine c0_ xu h fun y22 h=>?_;exact rl_ h hg
def fy (bv1:List UInt8) (r:T0t×Int×Int):Prop:=
 ∃ y3:Int×T2t,gY (bv1,0,0,(([]:List T4t),0),(Arr.rep 10 false)) false y3∧∃ y6:T0t×Int×Int,eu y3.2 y6∧r=(y6.1,y6.2.1,y6.2.2)
set_option maxRecDepth 100000 in
set_option maxHeartbeats 4000000 in
theorem E4 ⦃bv1: List UInt8⦄ ⦃r: T0t × Int × Int⦄ (h: fy bv1 r) : Cn Tryz.prog 18 [sb bv1] [] [] fun rr bx tk=>rr=.tup [.agg [.sl 10 none (List.map aa r.1.1), iv r.1.2], iv r.2.1, iv r.2.2] ∧ bx=[] ∧ tk=[] := by
 refine al Tryz.func18 rfl rfl (by kernel_rfl) fun g hg=>?_;simp only [Tryz.ntmps18,av];refine wn_ 2 h fun h=>?_;refine aN ar.h rfl rfl fun b2 => ?_;refine wn_ 7 h fun h=>?_;refine vp_ (aw (cs := ([sb bv1, iv 0, iv 0, .v (.slice none 0 0), iv 0] ++ (List.map eB ((Arr.rep 10 false)).l).flatten)) aQ.h rfl (by refine ao [] [.v (.slice none 0 0)] ([iv 0, iv 0, .v (.slice none 0 0), iv 0] ++ (List.map eB ((Arr.rep 10 false)).l).flatten) sq_ sl_ sl_ sl_ rfl rfl ?_; exact congrArg some sq_)) ?_
 refine cK rfl rfl rfl rfl fun b8 => ?_;refine c1_ E2 h fun y3 i4 h=>?_;refine c0_ xu h fun y6 h=>?_;exact rl_ h hg
def bp (bv1:List UInt8) (extended2:Bool) (r:T0t×Int×Int):Prop:=
 ((extended2=true→∃ y8:T0t×Int×Int,du bv1 y8∧r=(y8.1,y8.2.1,y8.2.2))∧(¬ (extended2=true)→∃ y10:T0t×Int×Int,fy bv1 y10∧r=(y10.1,y10.2.1,y10.2.2)))
set_option maxHeartbeats 4000000 in
theorem xv ⦃bv1: List UInt8⦄ ⦃extended2: Bool⦄ ⦃r: T0t × Int × Int⦄ (h: bp bv1 extended2 r) : Cn Tryz.prog 9 [sb bv1, bv extended2] [] [] fun rr bx tk=>rr=.tup [.agg [.sl 10 none (List.map aa r.1.1), iv r.1.2], iv r.2.1, iv r.2.2] ∧ bx=[] ∧ tk=[] := by
 refine al Tryz.func9 rfl rfl (by kernel_rfl) fun g hg=>?_;simp only [Tryz.ntmps9,av];refine wn_ 2 h fun h=>?_;refine aN ar.h rfl rfl fun b4 => ?_;refine i_ h (fun h=>?_) fun h=>?_
 ·refine z0_ E3 h fun y8 h=>?_;exact rl_ h hg
 refine z0_ E4 h fun y10 h=>?_;exact rl_ h hg
def oe (a1:(List T4t)×Int) (bv2:(List T4t)×Int) (ag1:(Int)→Prop) (iv142:Int) (r:Bool):Prop:=
 ((iv142<(a1.1.length:Int)→0≤(iv142:Int)∧∃ y194:Int×Int×Int×Int×Int×Int×T7t,a1.1[(iv142:Int).toNat]? =some y194∧0≤(iv142:Int)∧∃ y196:Int×Int×Int×Int×Int×Int×T7t,bv2.1[(iv142:Int).toNat]? =some y196∧((¬ ((y194:Int×Int×Int×Int×Int×Int×T7t)=y196)→r=false)∧(¬ (¬ ((y194:Int×Int×Int×Int×Int×Int×T7t)=y196))→InR (iv142+1)∧ag1 (iv142+1))))∧(¬ (iv142<(a1.1.length:Int))→r=true))
def fS (a1:(List T4t)×Int) (bv2:(List T4t)×Int) (r:Bool):Prop:=
 ((¬ (a1.2=bv2.2)→r=false)∧(¬ (¬ (a1.2=bv2.2))→((¬ ((a1.1.length:Int)=(bv2.1.length:Int))→r=false)∧(¬ (¬ ((a1.1.length:Int)=(bv2.1.length:Int)))→ba (fun ag1 s=>oe a1 bv2 ag1 s r) 0))))
set_option maxHeartbeats 4000000 in
theorem E5 ⦃a1: (List T4t) × Int⦄ ⦃bv2: (List T4t) × Int⦄ ⦃r: Bool⦄ (h: fS a1 bv2 r) : Cn Tryz.prog 10 [.agg [.sl 10 none (List.map aa a1.1), iv a1.2], .agg [.sl 10 none (List.map aa bv2.1), iv bv2.2]] [] [] (Ret (bv r)) := by
 refine al Tryz.func10 rfl rfl (by kernel_rfl) fun g hg=>?_;simp only [Tryz.ntmps10,av];refine wn_ 2 h fun h=>?_;refine cK rfl rfl rfl rfl fun b2 => ?_;refine cK rfl rfl rfl rfl fun b3 => ?_;refine is_ 11 h (fun h=>?_) fun h=>?_
 ·exact r_ h hg
 refine i_ h (fun h=>?_) fun h=>?_
 ·exact r_ h hg
 refine wn_ 9 h fun h=>?_;obtain ⟨Inv,⟨m0,hI⟩,hS⟩ := lq_ h;refine lp_ hI (fun σ m=>∃ iv142, Inv iv142 m ∧ σ=⟨[(2, pw b2), (3, pw b3), (5, iv iv142)], [⟨b3, 26, [.sl 10 none (List.map aa bv2.1), iv bv2.2]⟩, ⟨b2, 26, [.sl 10 none (List.map aa a1.1), iv a1.2]⟩], []⟩) ?_;rintro _ m ⟨iv142,hI,rfl⟩
 obtain ⟨ag1,hag1,h⟩ := cu hS hI;refine i_ h (fun h=>?_) fun h=>?_
 ·refine wn_ 5 h fun h=>?_;refine az (m := 11) (by kernel_rfl) rfl ?_;obtain ⟨h195a, h⟩ := h;obtain ⟨y194, h195b, h⟩ := h;obtain ⟨h197a, h⟩ := h;obtain ⟨y196, h197b, h⟩ := h;refine o_ [0,2,5,7,1] ?_;refine pl_ 3 rfl (aJ h195a h195b ai.h ae.h rfl rfl) ?_;refine en 4 [6, 8, 9] rfl (jD (aa y194) [] sq_ sl_ (aq sl_) ae.h rfl) rfl rfl (by kernel_rfl) (by kernel_rfl) (by kernel_rfl) (fun _ _ _ _ h => h) ?_
  refine o_ [6] ?_;refine pl_ 8 rfl (aJ h197a h197b ai.h ae.h rfl rfl) ?_;refine en 9 [] rfl (jD (aa y196) [] sq_ sl_ (aq sl_) ae.h rfl) rfl rfl (by kernel_rfl) (by kernel_rfl) (by kernel_rfl) (fun _ _ _ _ h => h) ?_
  refine pl_ 10 rfl (kl (f := aa) (a := y194) (b := y196) uU (by decide) (by kernel_rfl) ev_ ev_) ?_;refine aB (by kernel_rfl) ?_;refine i_ h (fun h=>?_) fun h=>?_
  ·exact r_ h hg
  exact g_ h hag1
 exact r_ h hg
def jB (bv1:List UInt8) (extended2:Bool) (re3:(List T4t)×Int) (r:Bool):Prop:=
 ∃ y5:T0t×Int×Int,bp bv1 extended2 y5∧((y5.2.2=0→∃ y13:Bool,fS y5.1 re3 y13∧r=y13)∧(¬ (y5.2.2=0)→r=false))
set_option maxHeartbeats 4000000 in
theorem BY ⦃bv1: List UInt8⦄ ⦃extended2: Bool⦄ ⦃re3: (List T4t) × Int⦄ ⦃r: Bool⦄ (h: jB bv1 extended2 re3 r) : Cn Tryz.prog 12 [sb bv1, bv extended2, .agg [.sl 10 none (List.map aa re3.1), iv re3.2]] [] [] (Ret (bv r)) := by
 refine al Tryz.func12 rfl rfl (by kernel_rfl) fun g hg=>?_;simp only [Tryz.ntmps12,av];refine wn_ 2 h fun h=>?_;refine cK rfl rfl rfl rfl fun b5 => ?_;refine z0_ xv h fun y5 h=>?_;refine wn_ 4 h fun h=>?_;refine aN ar.h rfl rfl fun b7 => ?_;refine is_ 19 h (fun h=>?_) fun h=>?_
 ·refine z0_ E5 h fun y13 h=>?_;exact r_ h hg
 exact r_ h hg
def gV (x16:Bool) (r:Bool):Prop:=
 r=x16
def ci (r:Bool):Prop:=
 ∃ y2:T7t,cX (42:UInt8) y2∧∃ y4:(List UInt8)×Bool,bU ([(1,0,0,0,0,0,y2)],0) false y4∧∃ y7:T0t×Int×Int,cW ([(97:UInt8),(124:UInt8),(98:UInt8)]) true y7∧((y4.2=true→∃ y19:Bool,jB y4.1 false ([(1,0,0,0,0,0,y2)],0) y19∧gV (y19 && ((decide (y7.2.2=0)) && (decide ((y7.1.1.length:Int)=3)))) r)∧(¬ (y4.2=true)→gV false r))
set_option maxHeartbeats 4000000 in
theorem qm ⦃r: Bool⦄ (h: ci r) : Cn Tryz.prog 7 [] [] [] (Ret (bv r)) := by
 refine al Tryz.func7 rfl rfl (by kernel_rfl) fun g hg=>?_;simp only [Tryz.ntmps7,av];refine z0_ k0_ h fun y2 h=>?_;refine vp_ (aw (cs := ([iv 1, iv 0, iv 0, iv 0, iv 0, iv 0] ++ (List.map ew y2.l).flatten)) aQ.h rfl (by refine ao [] [iv 0] ([iv 0, iv 0, iv 0, iv 0, iv 0] ++ (List.map ew ((Arr.rep 4 (0 : UInt64))).l).flatten) sq_ sl_ sl_ sl_ rfl rfl ?_; refine ao [iv 1, iv 0, iv 0, iv 0, iv 0, iv 0] ((List.map ew ((Arr.rep 4 (0 : UInt64))).l).flatten) [] sq_ sl_ sl_ sl_ rfl rfl ?_; exact congrArg some sq_)) ?_
 refine mO (f := aa) [(1, 0, 0, 0, 0, 0, y2)] ai.h ar.h rfl (.cons rfl (mz sl_) rfl rfl .nil) wr_ rfl rfl rfl rfl fun s9 => ?_;refine vp_ (aw aQ.h rfl rfl) ?_;refine aN ar.h rfl rfl fun b1 => ?_;refine z0_ xt h fun y4 h=>?_;refine wn_ 9 h fun h=>?_;refine aM (f := eb) [(97 : UInt8), (124 : UInt8), (98 : UInt8)] ai.h ar.h rfl rfl wr_ rfl rfl rfl rfl fun s17 => ?_
 refine xl 0 ai.h ai.h rfl rfl rfl rfl ?_;refine z0_ D3 h fun y7 h=>?_;refine wn_ 4 h fun h=>?_;refine aN ar.h rfl rfl fun b4 => ?_;refine wn_ 5 h fun h=>?_;refine ax (fun σ=>∃ x16, gV x16 r ∧ σ=⟨[(0, bv x16)], [], []⟩) ?_ ?_
 ·refine is_ 24 h (fun h=>?_) fun h=>?_
  ·refine z0_ BY h fun y19 h=>?_;refine ks_ 29 h (fun h=>?_) fun h=>?_
   ·refine ks_ 33 h (fun h=>?_) fun h=>?_
    ·exact m_ h
    exact m_ h
   exact m_ h
  exact m_ h
 rintro _ ⟨x16,h,rfl⟩;exact r_ h hg
end Go.Proofs.YtnbceeholnkfeaaGreatDoor
