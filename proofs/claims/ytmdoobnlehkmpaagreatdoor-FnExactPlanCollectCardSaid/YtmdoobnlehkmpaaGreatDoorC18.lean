import Derived.Test.YtmdoobnlehkmpaaGreatDoorC16
import Derived.Test.YtmdoobnlehkmpaaGreatDoorC14
namespace Go.Proofs.YtmdoobnlehkmpaaGreatDoor.Q
open Go.RowKit W1 W2 W3
attribute [local go_sem] max2_int min2_int max_two min_two max_three min_three max_four min_four
attribute [local go_sem high] bl_leq bl_gtr bl_geq
set_option maxHeartbeats 8000000
set_option maxRecDepth 100000
def impl_pendingOk.f(k:Nat)(ab:ByteArray)(ac:List (S87))(aa:ByteArray):Option (Bool):=(impl_AddressOk.f k ab).bind fun ad=>(if ad=true then((impl_TreeOk.f k ac).bind fun ae=>(if ae=true then(if aa.toList=([]:List UInt8) then(some true) else((impl_AddressOk.f k aa).bind fun af=>(some af))) else(some false))) else(some false))
theorem impl_pendingOk.calls(k:Nat)(ad:ByteArray)(ae:Option Addr)(af:Nat)(ab:List (S87))(ag:ByteArray)(r:Bool)(w:World)(ah:Kd.C k87 w ae ab.length ab)(ai:ab.length<=af)(hG_:GOK w)(H:impl_pendingOk.f k ad ab ag=some r):
 Calls Tryz.prog 101 #[.agg #[.string ad,.slice ae ab.length af,.string ag]] w fun e w'=>e= .returned (.bool r)/\Below w.heap.size w w':=by
 have ap:=Tryz.underlying133;have HG:=zz hG_;clear hG_;have aa:=zz ah;have ac:=zz ai;clear ah ai;have HB:=yB w;unfold impl_pendingOk.f at H;replace HB:=HB.out;have HW:=yB w;go_enter Tryz.func101,Tryz.ntmps101;replace H:=yf H;obtain⟨au,A2,H⟩:=H;go_wp2_with(first|(refine zN 1 ?_;(try(refine z4 ?_;dsimp only));refine zX 1 133 #[.string ad,.slice ae ab.length af,.string ag] ?_;intro ar hg w4 hbox hb;have hst:=zv HB hb;clear hg hb HB;replace HW:=zz (zv HW.out hst);replace aa:=zz (Kd.qD aa.out hst);obtain⟨aj,ak,al⟩:=zx3 hbox;have HB:=Below.refl w4.heap.size w4;clear hbox hst))
 refine(impl_AddressOk.calls k _ _ _ A2.out).mono ?_;rintro e w5 ⟨rfl,hd⟩;replace HB:=zv HB hd.below;clear hd;refine yF H ?_ ?_<;>clear H<;>rintro rfl H
 ·obtain rfl:=zi H;exact yR
 replace H:=yf H;obtain⟨av,A6,H⟩:=H;refine yF H ?_ ?_<;>clear H<;>rintro rfl H
 ·go_wp2_with(fail)
  refine(impl_TreeOk.calls k _ _ _ _ _ (Kd.qD aa.out HB) ac.out (GOK.below HG.out (zv HW.out HB)) A6.out).mono ?_;rintro e ax ⟨rfl,hb⟩;replace HB:=zv HB hb;clear hb;obtain rfl:=zi H;exact yR
 refine yC H ?_ ?_<;>clear H<;>intro c8 H
 ·obtain⟨am,an⟩:=zq c8;clear c8;go_wp2_with(fail)
  refine(impl_TreeOk.calls k _ _ _ _ _ (Kd.qD aa.out HB) ac.out (GOK.below HG.out (zv HW.out HB)) A6.out).mono ?_;rintro e ay ⟨rfl,hb⟩;replace HB:=zv HB hb;clear hb;obtain rfl:=zi H;exact yR
 obtain⟨am,an⟩:=zw c8;go_wp2_with(fail)
 refine(impl_TreeOk.calls k _ _ _ _ _ (Kd.qD aa.out HB) ac.out (GOK.below HG.out (zv HW.out HB)) A6.out).mono ?_;rintro e az ⟨rfl,hb⟩;replace HB:=zv HB hb;clear hb;replace H:=yf H;obtain⟨aw,ao,H⟩:=H;go_wp2_with(fail)
 refine(impl_AddressOk.calls k _ _ _ ao.out).mono ?_;rintro e aA ⟨rfl,hd⟩;replace HB:=zv HB hd.below;clear hd;obtain rfl:=zi H;exact yR
def impl_itemOf.l0:Nat->ByteArray->List (S103)->Int->Int->Option (Int)
 |0,_,_,_,_=>none
 |k+1,x1,x7,x8,x9=>if x9<x8 then(if 0<=x9 then(if x9<(x7.length:Int) then(if((qC x7 x9).f0).toList=x1.toList then(some x9) else(impl_itemOf.l0 k x1 x7 x8 (wrap64 (x9+1)))) else(none)) else(none)) else(some (-1))
def impl_itemOf.f(k:Nat)(l0:List (S103))(a1:ByteArray):Option (Int):=impl_itemOf.l0 k a1 l0 (l0.length:Int) 0
theorem impl_itemOf.calls(k:Nat)(A0:Option Addr)(c0:Nat)(l0:List (S103))(a1:ByteArray)(r:Int)(w:World)(aN:Kd.C k103 w A0 l0.length l0)(aO:l0.length<=c0)(H:impl_itemOf.f k l0 a1=some r):
 Calls Tryz.prog 81 #[.slice A0 l0.length c0,.string a1] w fun e w'=>e= .returned (.int .i64 r)/\Below w.heap.size w w':=by
 have aW:=Tryz.underlying103;have aF:=zz aN;have a4:=zz aO;clear aN aO;have HB:=yB w;unfold impl_itemOf.f at H;replace HB:=HB.out;have HW:=yB w;go_enter Tryz.func81,Tryz.ntmps81;go_wp2_with(fail)
 go_loopg[9] k (fun kq v9 w'=>∃(aa:Int),v9= .int .i64 aa/\qA (impl_itemOf.l0 kq a1 l0 (l0.length:Int) aa=some r)/\qA (kq<=k)/\qA (Below w.heap.size w w'))
 case atStart=>exact⟨(0),zr,⟨H⟩,⟨Nat.le_refl _⟩,⟨HB⟩⟩
 case round=>
  clear H HB;obtain⟨aa,rfl,H,aL,HB⟩:=hrel;replace HB:=HB.out;replace H:=H.out;have an:=yB w;cases gk with
  |zero=>simp[impl_itemOf.l0] at H
  |succ aV=>
   simp only[impl_itemOf.l0] at H;refine yDn H ?_ ?_<;>clear H<;>intro aY H
   ·obtain rfl:=zi H;exact yR
   replace H:=yAD H;obtain⟨aZ,H⟩:=H;replace H:=yAD H;obtain⟨a0,H⟩:=H;have a2:=yt (0<=(aa:Int));have a3:=yt ((aa:Int)<(l0.length:Int));obtain⟨aX,ac,ad,ae,af,aQ,ag,ah,ai,aj,ak,aB,aC,aD,aE⟩:=at_T103 aF.out aa z2 z2;cases aQ;replace ag:=qJ ag;replace ah:=qJ ah;replace ai:=qJ ai;replace aj:=qJ aj;replace ak:=qJ ak;have al:=zz aC;have aT:=zz aB;clear aC aB;have am:=zz aE;have aU:=zz aD;clear aE aD;refine yCn H ?_ ?_<;>clear H<;>intro c7 H
   ·obtain⟨aR,aS⟩:=zw c7;go_wp2_with(first|(refine zN 6 ?_;(try(refine z4 ?_;dsimp only));refine zX 6 103 #[.string (⟨#[]⟩:ByteArray),.string (⟨#[]⟩:ByteArray),.slice none 0 0,.string (⟨#[]⟩:ByteArray),.slice none 0 0] ?_;intro ab hg aM hbox hb;have hge:w.heap.size<=ab:=(by rw[hg];exact qF HB);clear hg;have hst:Below w.heap.size w (((((aM.setCell ⟨ab,0,none⟩ (.string ((qC l0 aa).f0))).setCell ⟨ab,1,none⟩ (.string ((qC l0 aa).f1))).setCell ⟨ab,2,none⟩ (.slice ac ((qC l0 aa).f2).length ad)).setCell ⟨ab,3,none⟩ (.string ((qC l0 aa).f3))).setCell ⟨ab,4,none⟩ (.slice ae ((qC l0 aa).f4).length af)):=(qK (qK (qK (qK (qK (zv HB hb) hge) hge) hge) hge) hge);have hbx:(((((aM.setCell ⟨ab,0,none⟩ (.string ((qC l0 aa).f0))).setCell ⟨ab,1,none⟩ (.string ((qC l0 aa).f1))).setCell ⟨ab,2,none⟩ (.slice ac ((qC l0 aa).f2).length ad)).setCell ⟨ab,3,none⟩ (.string ((qC l0 aa).f3))).setCell ⟨ab,4,none⟩ (.slice ae ((qC l0 aa).f4).length af)).heap[ab]?=some (.cells #[.string ((qC l0 aa).f0),.string ((qC l0 aa).f1),.slice ac ((qC l0 aa).f2).length ad,.string ((qC l0 aa).f3),.slice ae ((qC l0 aa).f4).length af] 103 (0,0)):=(yP hbox);obtain⟨ao,ap,ar,au,av,aw,ax,ay,az,aA⟩:=zc5 hbox)|((with_reducible refine qQ (t:=103) (p:=6) rfl ?_);(try(refine z4 ?_;dsimp only));refine ye 103 6 (((((aM.setCell ⟨ab,0,none⟩ (.string ((qC l0 aa).f0))).setCell ⟨ab,1,none⟩ (.string ((qC l0 aa).f1))).setCell ⟨ab,2,none⟩ (.slice ac ((qC l0 aa).f2).length ad)).setCell ⟨ab,3,none⟩ (.string ((qC l0 aa).f3))).setCell ⟨ab,4,none⟩ (.slice ae ((qC l0 aa).f4).length af)) ?_;intro aP hw;replace hst:=hst;rw[<-hw] at hst hbx;clear hw hb hbox hge HB ao aw ap ax ar ay au az av aA;replace HW:=zz (zv HW.out hst);replace an:=zz (zv an.out hst);replace ag:=qG ag hst;replace ah:=qG ah hst;replace ai:=qG ai hst;replace aj:=qG aj hst;replace ak:=qG ak hst;obtain⟨aG,aH,aI,aJ,aK⟩:=zx5 hbx;have HB:=Below.refl aP.heap.size aP;clear hbx hst))
    go_roundg aV
    case measure=>exact yM1 aL
    case rel=>exact⟨(wrap64 (aa+1)),zr,⟨H⟩,⟨yM1 aL⟩,⟨zv an.out HB⟩⟩
   obtain⟨aR,aS⟩:=zq c7;clear c7;obtain rfl:=zi H;go_wp2_with(first|(refine zN 6 ?_;(try(refine z4 ?_;dsimp only));refine zX 6 103 #[.string (⟨#[]⟩:ByteArray),.string (⟨#[]⟩:ByteArray),.slice none 0 0,.string (⟨#[]⟩:ByteArray),.slice none 0 0] ?_;intro ab hg w8 hbox hb;have hge:w.heap.size<=ab:=(by rw[hg];exact qF HB);clear hg;have hst:Below w.heap.size w (((((w8.setCell ⟨ab,0,none⟩ (.string ((qC l0 aa).f0))).setCell ⟨ab,1,none⟩ (.string ((qC l0 aa).f1))).setCell ⟨ab,2,none⟩ (.slice ac ((qC l0 aa).f2).length ad)).setCell ⟨ab,3,none⟩ (.string ((qC l0 aa).f3))).setCell ⟨ab,4,none⟩ (.slice ae ((qC l0 aa).f4).length af)):=(qK (qK (qK (qK (qK (zv HB hb) hge) hge) hge) hge) hge);have hbx:(((((w8.setCell ⟨ab,0,none⟩ (.string ((qC l0 aa).f0))).setCell ⟨ab,1,none⟩ (.string ((qC l0 aa).f1))).setCell ⟨ab,2,none⟩ (.slice ac ((qC l0 aa).f2).length ad)).setCell ⟨ab,3,none⟩ (.string ((qC l0 aa).f3))).setCell ⟨ab,4,none⟩ (.slice ae ((qC l0 aa).f4).length af)).heap[ab]?=some (.cells #[.string ((qC l0 aa).f0),.string ((qC l0 aa).f1),.slice ac ((qC l0 aa).f2).length ad,.string ((qC l0 aa).f3),.slice ae ((qC l0 aa).f4).length af] 103 (0,0)):=(yP hbox);obtain⟨ao,ap,ar,au,av,aw,ax,ay,az,aA⟩:=zc5 hbox)|((with_reducible refine qQ (t:=103) (p:=6) rfl ?_);(try(refine z4 ?_;dsimp only));refine ye 103 6 (((((w8.setCell ⟨ab,0,none⟩ (.string ((qC l0 aa).f0))).setCell ⟨ab,1,none⟩ (.string ((qC l0 aa).f1))).setCell ⟨ab,2,none⟩ (.slice ac ((qC l0 aa).f2).length ad)).setCell ⟨ab,3,none⟩ (.string ((qC l0 aa).f3))).setCell ⟨ab,4,none⟩ (.slice ae ((qC l0 aa).f4).length af)) ?_;intro w9 hw;replace hst:=hst;rw[<-hw] at hst hbx;clear hw hb hbox hge HB ao aw ap ax ar ay au az av aA;replace HW:=zz (zv HW.out hst);replace an:=zz (zv an.out hst);replace ag:=qG ag hst;replace ah:=qG ah hst;replace ai:=qG ai hst;replace aj:=qG aj hst;replace ak:=qG ak hst;obtain⟨aG,aH,aI,aJ,aK⟩:=zx5 hbx;have HB:=Below.refl w9.heap.size w9;clear hbx hst))
   go_ret;exact⟨ze,zv HW.out HB⟩
mutual
def impl_WorldOk.l0:Nat->List (S133)->Int->Int->List (S103)->List (S137)->List (S133)->List (S134)->Option (Bool)
 |0,_,_,_,_,_,_,_=>none
 |k+1,ai,an,af,ac,aa,ad,ab=>if af<an then(if 0<=af then(if af<(ai.length:Int) then((impl_pendingOk.f k ((qN ai af).f0) ((qN ai af).f1) ((qN ai af).f2)).bind fun ar=>(if ar=true then(impl_WorldOk.l0 k ai an (wrap64 (af+1)) ac aa ad ab) else(some false))) else(none)) else(none)) else(impl_WorldOk.l1 k ab (ab.length:Int) 0 ac aa ad ab)
def impl_WorldOk.l1:Nat->List (S134)->Int->Int->List (S103)->List (S137)->List (S133)->List (S134)->Option (Bool)
 |0,_,_,_,_,_,_,_=>none
 |k+1,al,ao,ah,ac,aa,ad,ab=>if ah<ao then(if 0<=ah then(if ah<(al.length:Int) then((impl_NameOk.f k ((rd_T134 al ah).f0)).bind fun au=>(if au=true then((impl_AddressOk.f k ((rd_T134 al ah).f1)).bind fun av=>(if av=true then(impl_WorldOk.l1 k al ao (wrap64 (ah+1)) ac aa ad ab) else(some false))) else(some false))) else(none)) else(none)) else(impl_WorldOk.l2 k aa (aa.length:Int) 0 ac aa ad ab)
def impl_WorldOk.l2:Nat->List (S137)->Int->Int->List (S103)->List (S137)->List (S133)->List (S134)->Option (Bool)
 |0,_,_,_,_,_,_,_=>none
 |k+1,ag,aj,ae,ac,aa,ad,ab=>if ae<aj then(if 0<=ae then(if ae<(ag.length:Int) then(impl_WorldOk.l3 k ag aj ae ((qE ag ae).f2) (((qE ag ae).f2).length:Int) 0 ac aa ad ab) else(none)) else(none)) else(some true)
def impl_WorldOk.l3:Nat->List (S137)->Int->Int->List (S139)->Int->Int->List (S103)->List (S137)->List (S133)->List (S134)->Option (Bool)
 |0,_,_,_,_,_,_,_,_,_,_=>none
 |k+1,ag,aj,ae,am,ap,ak,ac,aa,ad,ab=>if ak<ap then(if 0<=ak then(if ak<(am.length:Int) then((impl_itemOf.f k ac ((qP am ak).f1)).bind fun aw=>(if aw<0 then(some false) else(impl_WorldOk.l3 k ag aj ae am ap (wrap64 (ak+1)) ac aa ad ab))) else(none)) else(none)) else(impl_WorldOk.l2 k ag aj (wrap64 (ae+1)) ac aa ad ab)
end
def impl_WorldOk.f(k:Nat)(ab:List (S103))(ac:List (S137))(aa:List (S133))(ad:List (S134)):Option (Bool):=(impl_StoreOk.f k ab).bind fun ae=>(if ae=true then((impl_ProfilesOk.f k ac).bind fun af=>(if af=true then(if(aa.length:Int)>20 then(some false) else(if(ad.length:Int)>20 then(some false) else(impl_WorldOk.l0 k aa (aa.length:Int) 0 ab ac aa ad))) else(some false))) else(some false))
theorem impl_WorldOk.calls(k:Nat)(a6:Option Addr)(a7:Nat)(aC:List (S103))(a8:Option Addr)(a9:Nat)(ac:List (S137))(ba:Option Addr)(bb:Nat)(af:List (S133))(bc:Option Addr)(bd:Nat)(ag:List (S134))(r:Bool)(w:World)(bf:Kd.C k103 w a6 aC.length aC)(bg:aC.length<=a7)(bh:Kd.C k137 w a8 ac.length ac)(bi:ac.length<=a9)(bj:Kd.C k133 w ba af.length af)(bk:af.length<=bb)(bl:Kd.C k134 w bc ag.length ag)(bn:ag.length<=bd)(hG_:GOK w)(H:impl_WorldOk.f k aC ac af ag=some r):
 Calls Tryz.prog 53 #[.agg #[.slice a6 aC.length a7,.slice a8 ac.length a9,.slice ba af.length bb,.slice bc ag.length bd]] w fun e w'=>e= .returned (.bool r)/\Below w.heap.size w w':=by
 have cP:=Tryz.underlying38;have cq:=Tryz.underlying133;have cr:=Tryz.underlying134;have ct:=Tryz.underlying137;have cu:=Tryz.underlying139;have HG:=zz hG_;clear hG_;have am:=zz bf;have bo:=zz bg;clear bf bg;have ah:=zz bh;have aW:=zz bi;clear bh bi;have an:=zz bj;have cv:=zz bk;clear bj bk;have ao:=zz bl;have cw:=zz bn;clear bl bn;have HB:=yB w;unfold impl_WorldOk.f at H;replace HB:=HB.out;have HW:=yB w;go_enter Tryz.func53,Tryz.ntmps53;replace H:=yf H;obtain⟨cQ,A2,H⟩:=H;go_wp2_with(first|(refine zN 1 ?_;(try(refine z4 ?_;dsimp only));refine zX 1 38 #[.slice a6 aC.length a7,.slice a8 ac.length a9,.slice ba af.length bb,.slice bc ag.length bd] ?_;intro cx hg w5 hbox hb;have hst:=zv HB hb;clear hg hb HB;replace HW:=zz (zv HW.out hst);replace am:=zz (Kd.qD am.out hst);replace ah:=zz (Kd.qD ah.out hst);replace an:=zz (Kd.qD an.out hst);replace ao:=zz (Kd.qD ao.out hst);obtain⟨ai,aj,ak,al⟩:=zx4 hbox;have HB:=Below.refl w5.heap.size w5;clear hbox hst))
 refine(impl_StoreOk.calls k _ _ _ _ _ (Kd.qD am.out HB) bo.out (GOK.below HG.out (zv HW.out HB)) A2.out).mono ?_;rintro e w6 ⟨rfl,hb⟩;replace HB:=zv HB hb;clear hb;refine yF H ?_ ?_<;>clear H<;>rintro rfl H
 ·obtain rfl:=zi H;exact yR
 replace H:=yf H;obtain⟨cR,A7,H⟩:=H;refine yF H ?_ ?_<;>clear H<;>rintro rfl H
 ·go_wp2_with(fail)
  refine(impl_ProfilesOk.calls k _ _ _ _ _ (Kd.qD ah.out HB) aW.out A7.out).mono ?_;rintro e da ⟨rfl,hb⟩;replace HB:=zv HB hb;clear hb;obtain rfl:=zi H;exact yR
 refine yC H ?_ ?_<;>clear H<;>intro c9 H
 ·have b0:=zgt c9;have b1:decide (20<af.length)=true:=z1 yo_;clear c9;go_wp2_with(fail)
  refine(impl_ProfilesOk.calls k _ _ _ _ _ (Kd.qD ah.out HB) aW.out A7.out).mono ?_;rintro e db ⟨rfl,hb⟩;replace HB:=zv HB hb;clear hb;obtain rfl:=zi H;exact yR
 have b0:=zgtn c9;have b1:decide (20<af.length)=false:=z0 yo_;clear c9;refine yC H ?_ ?_<;>clear H<;>intro bq H
 ·have bU:=zgt bq;have bV:decide (20<ag.length)=true:=z1 yo_;clear bq;go_wp2_with(fail)
  refine(impl_ProfilesOk.calls k _ _ _ _ _ (Kd.qD ah.out HB) aW.out A7.out).mono ?_;rintro e dc ⟨rfl,hb⟩;replace HB:=zv HB hb;clear hb;obtain rfl:=zi H;exact yR
 have bU:=zgtn bq;have bV:decide (20<ag.length)=false:=z0 yo_;clear bq;go_wp2_with(fail)
 refine(impl_ProfilesOk.calls k _ _ _ _ _ (Kd.qD ah.out HB) aW.out A7.out).mono ?_;rintro e de ⟨rfl,hb⟩;replace HB:=zv HB hb;clear hb;go_wp2_with(fail)
 go_loopg[36] k (fun kq ci w'=>∃(ab:Int),ci= .int .i64 ab/\qA (impl_WorldOk.l0 kq af (af.length:Int) ab aC ac af ag=some r)/\qA (kq<=k)/\qA (Below w5.heap.size w5 w'))
 case atStart=>exact⟨(0),zr,⟨H⟩,⟨Nat.le_refl _⟩,⟨HB⟩⟩
 case round=>
  clear H HB;obtain⟨ab,rfl,H,av,HB⟩:=hrel;replace HB:=HB.out;replace H:=H.out;have ap:=yB w5;cases gk with
  |zero=>simp[impl_WorldOk.l0] at H
  |succ a5=>
   simp only[impl_WorldOk.l0] at H;refine yD H ?_ ?_<;>clear H<;>intro cy H
   ·replace H:=yAD H;obtain⟨cz,H⟩:=H;replace H:=yAD H;obtain⟨cA,H⟩:=H;have cS:=yt (0<=(ab:Int));have cT:=yt ((ab:Int)<(af.length:Int));obtain⟨cB,aN,aO,b3,aG,aH,aI,a1,a2⟩:=at_T133 an.out ab z2 z2;cases b3;replace aG:=qJ aG;replace aH:=qJ aH;replace aI:=qJ aI;have aT:=zz a2;have br:=zz a1;clear a2 a1;replace H:=yf H;obtain⟨cU,cj,H⟩:=H;go_wp2_with(first|(refine zN 4 ?_;(try(refine z4 ?_;dsimp only));refine zX 4 133 #[.string (⟨#[]⟩:ByteArray),.slice none 0 0,.string (⟨#[]⟩:ByteArray)] ?_;intro ar hg bP hbox hb;have hge:w5.heap.size<=ar:=(by rw[hg];exact qF HB);clear hg;have hst:Below w5.heap.size w5 (((bP.setCell ⟨ar,0,none⟩ (.string ((qN af ab).f0))).setCell ⟨ar,1,none⟩ (.slice aN ((qN af ab).f1).length aO)).setCell ⟨ar,2,none⟩ (.string ((qN af ab).f2))):=(qK (qK (qK (zv HB hb) hge) hge) hge);have hbx:(((bP.setCell ⟨ar,0,none⟩ (.string ((qN af ab).f0))).setCell ⟨ar,1,none⟩ (.slice aN ((qN af ab).f1).length aO)).setCell ⟨ar,2,none⟩ (.string ((qN af ab).f2))).heap[ar]?=some (.cells #[.string ((qN af ab).f0),.slice aN ((qN af ab).f1).length aO,.string ((qN af ab).f2)] 133 (0,0)):=(yP hbox);obtain⟨bs,bu,bv,bw,bz,bA⟩:=zc3 hbox)|((with_reducible refine qQ (t:=133) (p:=4) rfl ?_);(try(refine z4 ?_;dsimp only));refine ye 133 4 (((bP.setCell ⟨ar,0,none⟩ (.string ((qN af ab).f0))).setCell ⟨ar,1,none⟩ (.slice aN ((qN af ab).f1).length aO)).setCell ⟨ar,2,none⟩ (.string ((qN af ab).f2))) ?_;intro bW hw;replace hst:=hst;rw[<-hw] at hst hbx;clear hw hb hbox hge HB bs bw bu bz bv bA;replace HW:=zz (zv HW.out hst);replace ap:=zz (zv ap.out hst);replace am:=zz (Kd.qD am.out hst);replace ah:=zz (Kd.qD ah.out hst);replace ao:=zz (Kd.qD ao.out hst);replace aT:=zz (Kd.qD aT.out hst);replace ai:=qG ai hst;replace aj:=qG aj hst;replace ak:=qG ak hst;replace al:=qG al hst;replace aG:=qG aG hst;replace aH:=qG aH hst;replace aI:=qG aI hst;obtain⟨b4,b7,b8⟩:=zx3 hbx;have HB:=Below.refl bW.heap.size bW;clear hbx hst))
    refine(impl_pendingOk.calls a5 _ _ _ _ _ _ _ (Kd.qD aT.out HB) br.out (GOK.below HG.out (zv HW.out HB)) cj.out).mono ?_;rintro e df ⟨rfl,hb⟩;replace HB:=zv HB hb;clear hb;refine yT H ?_ ?_<;>clear H<;>rintro rfl H
    ·go_wp2_with(fail)
     go_roundg a5
     case measure=>exact yM1 av
     case rel=>exact⟨(wrap64 (ab+1)),zr,⟨H⟩,⟨yM1 av⟩,⟨zv ap.out HB⟩⟩
    obtain rfl:=zi H;exact yR
   go_wp2_with(fail)
   go_loopg[47] a5 (fun kq ck w'=>∃(ad:Int),ck= .int .i64 ad/\qA (impl_WorldOk.l1 kq ag (ag.length:Int) ad aC ac af ag=some r)/\qA (kq<=a5)/\qA (Below w5.heap.size w5 w'))
   case atStart=>exact⟨(0),zr,⟨H⟩,⟨Nat.le_refl _⟩,⟨HB⟩⟩
   case round=>
    clear H HB;obtain⟨ad,rfl,H,aD,HB⟩:=hrel;replace HB:=HB.out;replace H:=H.out;have az:=yB w5;cases gk with
    |zero=>simp[impl_WorldOk.l1] at H
    |succ aU=>
     simp only[impl_WorldOk.l1] at H;refine yD H ?_ ?_<;>clear H<;>intro cC H
     ·replace H:=yAD H;obtain⟨cD,H⟩:=H;replace H:=yAD H;obtain⟨cE,H⟩:=H;have cV:=yt (0<=(ad:Int));have cW:=yt ((ad:Int)<(ag.length:Int));obtain⟨cF,ca,aJ,aK⟩:=at_T134 ao.out ad z2 z2;cases ca;replace aJ:=qJ aJ;replace aK:=qJ aK;replace H:=yf H;obtain⟨cX,cm,H⟩:=H;go_wp2_with(first|(refine zN 6 ?_;(try(refine z4 ?_;dsimp only));refine zX 6 134 #[.string (⟨#[]⟩:ByteArray),.string (⟨#[]⟩:ByteArray)] ?_;intro aA hg bQ hbox hb;have hge:w5.heap.size<=aA:=(by rw[hg];exact qF HB);clear hg;have hst:Below w5.heap.size w5 ((bQ.setCell ⟨aA,0,none⟩ (.string ((rd_T134 ag ad).f0))).setCell ⟨aA,1,none⟩ (.string ((rd_T134 ag ad).f1))):=(qK (qK (zv HB hb) hge) hge);have hbx:((bQ.setCell ⟨aA,0,none⟩ (.string ((rd_T134 ag ad).f0))).setCell ⟨aA,1,none⟩ (.string ((rd_T134 ag ad).f1))).heap[aA]?=some (.cells #[.string ((rd_T134 ag ad).f0),.string ((rd_T134 ag ad).f1)] 134 (0,0)):=(yP hbox);obtain⟨bB,bC,bD,bE⟩:=zc2 hbox)|((with_reducible refine qQ (t:=134) (p:=6) rfl ?_);(try(refine z4 ?_;dsimp only));refine ye 134 6 ((bQ.setCell ⟨aA,0,none⟩ (.string ((rd_T134 ag ad).f0))).setCell ⟨aA,1,none⟩ (.string ((rd_T134 ag ad).f1))) ?_;intro bX hw;replace hst:=hst;rw[<-hw] at hst hbx;clear hw hb hbox hge HB bB bD bC bE;replace HW:=zz (zv HW.out hst);replace ap:=zz (zv ap.out hst);replace az:=zz (zv az.out hst);replace am:=zz (Kd.qD am.out hst);replace ah:=zz (Kd.qD ah.out hst);replace ai:=qG ai hst;replace aj:=qG aj hst;replace ak:=qG ak hst;replace al:=qG al hst;replace aJ:=qG aJ hst;replace aK:=qG aK hst;obtain⟨cb,cc⟩:=zx2 hbx;have HB:=Below.refl bX.heap.size bX;clear hbx hst))
      refine(impl_NameOk.calls aU _ _ _ cm.out).mono ?_;rintro e dh ⟨rfl,hd⟩;replace HB:=zv HB hd.below;clear hd;refine yF H ?_ ?_<;>clear H<;>rintro rfl H
      ·obtain rfl:=zi H;exact yR
      replace H:=yf H;obtain⟨cY,bY,H⟩:=H;refine yT H ?_ ?_<;>clear H<;>rintro rfl H
      ·go_wp2_with(fail)
       refine(impl_AddressOk.calls aU _ _ _ bY.out).mono ?_;rintro e di ⟨rfl,hd⟩;replace HB:=zv HB hd.below;clear hd;go_wp2_with(fail)
       go_roundg aU
       case measure=>exact yM2 av aD
       case rel=>exact⟨(wrap64 (ad+1)),zr,⟨H⟩,⟨yM2 av aD⟩,⟨zv az.out HB⟩⟩
      go_wp2_with(fail)
      refine(impl_AddressOk.calls aU _ _ _ bY.out).mono ?_;rintro e dj ⟨rfl,hd⟩;replace HB:=zv HB hd.below;clear hd;obtain rfl:=zi H;exact yR
     go_wp2_with(fail)
     go_loopg[65] aU (fun kq cn w'=>∃(aa:Int),cn= .int .i64 aa/\qA (impl_WorldOk.l2 kq ac (ac.length:Int) aa aC ac af ag=some r)/\qA (kq<=aU)/\qA (Below w5.heap.size w5 w'))
     case atStart=>exact⟨(0),zr,⟨H⟩,⟨Nat.le_refl _⟩,⟨HB⟩⟩
     case round=>
      clear H HB;obtain⟨aa,rfl,H,aP,HB⟩:=hrel;replace HB:=HB.out;replace H:=H.out;have aF:=yB w5;cases gk with
      |zero=>simp[impl_WorldOk.l2] at H
      |succ bR=>
       simp only[impl_WorldOk.l2] at H;refine yDn H ?_ ?_<;>clear H<;>intro cG H
       ·obtain rfl:=zi H;exact yR
       replace H:=yAD H;obtain⟨cH,H⟩:=H;replace H:=yAD H;obtain⟨cI,H⟩:=H;have cZ:=yt (0<=(aa:Int));have c5:=yt ((aa:Int)<(ac.length:Int));obtain⟨cJ,aQ,aR,cd,aw,ax,ay,a3,a4⟩:=at_T137 ah.out aa z2 z2;cases cd;replace aw:=qJ aw;replace ax:=qJ ax;replace ay:=qJ ay;have aE:=zz a4;have ch:=zz a3;clear a4 a3;go_wp2_with(first|(refine zN 8 ?_;(try(refine z4 ?_;dsimp only));refine zX 8 137 #[.string (⟨#[]⟩:ByteArray),.int .i64 0,.slice none 0 0] ?_;intro au hg bS hbox hb;have hge:w5.heap.size<=au:=(by rw[hg];exact qF HB);clear hg;have hst:Below w5.heap.size w5 (((bS.setCell ⟨au,0,none⟩ (.string ((qE ac aa).f0))).setCell ⟨au,1,none⟩ (.int .i64 ((qE ac aa).f1))).setCell ⟨au,2,none⟩ (.slice aQ ((qE ac aa).f2).length aR)):=(qK (qK (qK (zv HB hb) hge) hge) hge);have hbx:(((bS.setCell ⟨au,0,none⟩ (.string ((qE ac aa).f0))).setCell ⟨au,1,none⟩ (.int .i64 ((qE ac aa).f1))).setCell ⟨au,2,none⟩ (.slice aQ ((qE ac aa).f2).length aR)).heap[au]?=some (.cells #[.string ((qE ac aa).f0),.int .i64 ((qE ac aa).f1),.slice aQ ((qE ac aa).f2).length aR] 137 (0,0)):=(yP hbox);obtain⟨bF,bG,bH,bI,bJ,bK⟩:=zc3 hbox)|((with_reducible refine qQ (t:=137) (p:=8) rfl ?_);(try(refine z4 ?_;dsimp only));refine ye 137 8 (((bS.setCell ⟨au,0,none⟩ (.string ((qE ac aa).f0))).setCell ⟨au,1,none⟩ (.int .i64 ((qE ac aa).f1))).setCell ⟨au,2,none⟩ (.slice aQ ((qE ac aa).f2).length aR)) ?_;intro aV hw;replace hst:=hst;rw[<-hw] at hst hbx;clear hw hb hbox hge HB bF bI bG bJ bH bK;replace HW:=zz (zv HW.out hst);replace ap:=zz (zv ap.out hst);replace az:=zz (zv az.out hst);replace aF:=zz (zv aF.out hst);replace am:=zz (Kd.qD am.out hst);replace aE:=zz (Kd.qD aE.out hst);replace ai:=qG ai hst;replace aj:=qG aj hst;replace ak:=qG ak hst;replace al:=qG al hst;replace aw:=qG aw hst;replace ax:=qG ax hst;replace ay:=qG ay hst;obtain⟨aX,aY,aZ⟩:=zx3 hbx;have HB:=Below.refl aV.heap.size aV;clear hbx hst))
       go_loopg[72] bR (fun kq co w'=>∃(ae:Int),co= .int .i64 ae/\qA (impl_WorldOk.l3 kq ac (ac.length:Int) aa ((qE ac aa).f2) (((qE ac aa).f2).length:Int) ae aC ac af ag=some r)/\qA (kq<=bR)/\qA (Below aV.heap.size aV w'))
       case atStart=>exact⟨(0),zr,⟨H⟩,⟨Nat.le_refl _⟩,⟨HB⟩⟩
       case round=>
        clear H HB;obtain⟨ae,rfl,H,aS,HB⟩:=hrel;replace HB:=HB.out;replace H:=H.out;have a0:=yB aV;cases gk with
        |zero=>simp[impl_WorldOk.l3] at H
        |succ be=>
         simp only[impl_WorldOk.l3] at H;refine yDn H ?_ ?_<;>clear H<;>intro cK H
         ·go_wp2_with(fail)
          go_roundg be
          case measure=>exact yM4 av aD aP aS
          case rel=>exact⟨(wrap64 (aa+1)),zr,⟨H⟩,⟨yM4 av aD aP aS⟩,⟨zv aF.out HB⟩⟩
         replace H:=yAD H;obtain⟨cL,H⟩:=H;replace H:=yAD H;obtain⟨cM,H⟩:=H;have c6:=yt (0<=(ae:Int));have c7:=yt ((ae:Int)<(((qE ac aa).f2).length:Int));obtain⟨cN,ce,aL,aM⟩:=at_T139 aE.out ae z2 z2;cases ce;replace aL:=qJ aL;replace aM:=qJ aM;replace H:=yf H;obtain⟨c8,cp,H⟩:=H;go_wp2_with(first|(refine zN 10 ?_;(try(refine z4 ?_;dsimp only));refine zX 10 139 #[.int .i64 0,.string (⟨#[]⟩:ByteArray)] ?_;intro aB hg bT hbox hb;have hge:aV.heap.size<=aB:=(by rw[hg];exact qF HB);clear hg;have hst:Below aV.heap.size aV ((bT.setCell ⟨aB,0,none⟩ (.int .i64 ((qP ((qE ac aa).f2) ae).f0))).setCell ⟨aB,1,none⟩ (.string ((qP ((qE ac aa).f2) ae).f1))):=(qK (qK (zv HB hb) hge) hge);have hbx:((bT.setCell ⟨aB,0,none⟩ (.int .i64 ((qP ((qE ac aa).f2) ae).f0))).setCell ⟨aB,1,none⟩ (.string ((qP ((qE ac aa).f2) ae).f1))).heap[aB]?=some (.cells #[.int .i64 ((qP ((qE ac aa).f2) ae).f0),.string ((qP ((qE ac aa).f2) ae).f1)] 139 (0,0)):=(yP hbox);obtain⟨bL,bM,bN,bO⟩:=zc2 hbox)|((with_reducible refine qQ (t:=139) (p:=10) rfl ?_);(try(refine z4 ?_;dsimp only));refine ye 139 10 ((bT.setCell ⟨aB,0,none⟩ (.int .i64 ((qP ((qE ac aa).f2) ae).f0))).setCell ⟨aB,1,none⟩ (.string ((qP ((qE ac aa).f2) ae).f1))) ?_;intro bZ hw;replace hst:=hst;rw[<-hw] at hst hbx;clear hw hb hbox hge HB bL bN bM bO;replace HW:=zz (zv HW.out hst);replace ap:=zz (zv ap.out hst);replace az:=zz (zv az.out hst);replace aF:=zz (zv aF.out hst);replace a0:=zz (zv a0.out hst);replace am:=zz (Kd.qD am.out hst);replace ai:=qG ai hst;replace aj:=qG aj hst;replace ak:=qG ak hst;replace al:=qG al hst;replace aw:=qG aw hst;replace ax:=qG ax hst;replace ay:=qG ay hst;replace aX:=qG aX hst;replace aY:=qG aY hst;replace aZ:=qG aZ hst;replace aL:=qG aL hst;replace aM:=qG aM hst;obtain⟨cf,cg⟩:=zx2 hbx;have HB:=Below.refl bZ.heap.size bZ;clear hbx hst))
         refine(impl_itemOf.calls be _ _ _ _ _ _ (Kd.qD am.out HB) bo.out cp.out).mono ?_;rintro e dk ⟨rfl,hb⟩;replace HB:=zv HB hb;clear hb;refine yD H ?_ ?_<;>clear H<;>intro cO H
         ·obtain rfl:=zi H;exact yR
         go_wp2_with(fail)
         go_roundg be
         case measure=>exact yM4 av aD aP aS
         case rel=>exact⟨(wrap64 (ae+1)),zr,⟨H⟩,⟨yM4 av aD aP aS⟩,⟨zv a0.out HB⟩⟩
def spec_l19Item.f(k:Nat)(a0:ByteArray)(l1:List (S87))(a2:ByteArray):Option (Bool):=(spec_AddressOk.f k a0).bind fun aa=>(if aa=true then((spec_TreeOk.f k l1).bind fun ab=>(if ab=true then(if a2.toList=([]:List UInt8) then(some true) else((spec_AddressOk.f k a2).bind fun ac=>(some ac))) else(some false))) else(some false))
theorem spec_l19Item.calls(k:Nat)(a0:ByteArray)(A1:Option Addr)(c1:Nat)(l1:List (S87))(a2:ByteArray)(r:Bool)(w:World)(ac:Kd.C k87 w A1 l1.length l1)(ad:l1.length<=c1)(H:spec_l19Item.f k a0 l1 a2=some r):
 Calls Tryz.prog 46 #[.string a0,.slice A1 l1.length c1,.string a2] w fun e w'=>e= .returned (.bool r)/\Below w.heap.size w w':=by
 have aa:=zz ac;have ab:=zz ad;clear ac ad;have HB:=yB w;unfold spec_l19Item.f at H;replace HB:=HB.out;have HW:=yB w;go_enter Tryz.func46,Tryz.ntmps46;replace H:=yf H;obtain⟨ah,A4,H⟩:=H;refine yF H ?_ ?_<;>clear H<;>rintro rfl H
 ·go_wp2_with(fail)
  refine(spec_AddressOk.calls k _ _ _ A4.out).mono ?_;rintro e ak ⟨rfl,hd⟩;replace HB:=zv HB hd.below;clear hd;obtain rfl:=zi H;exact yR
 go_wp2_with(fail)
 refine(spec_AddressOk.calls k _ _ _ A4.out).mono ?_;rintro e w6 ⟨rfl,hd⟩;replace HB:=zv HB hd.below;clear hd;replace H:=yf H;obtain⟨ai,A7,H⟩:=H;refine yF H ?_ ?_<;>clear H<;>rintro rfl H
 ·go_wp2_with(fail)
  refine(spec_TreeOk.calls k _ _ _ _ _ (Kd.qD aa.out HB) ab.out A7.out).mono ?_;rintro e al ⟨rfl,hb⟩;replace HB:=zv HB hb;clear hb;obtain rfl:=zi H;exact yR
 refine yC H ?_ ?_<;>clear H<;>intro c9 H
 ·obtain⟨ae,af⟩:=zq c9;clear c9;go_wp2_with(fail)
  refine(spec_TreeOk.calls k _ _ _ _ _ (Kd.qD aa.out HB) ab.out A7.out).mono ?_;rintro e am ⟨rfl,hb⟩;replace HB:=zv HB hb;clear hb;obtain rfl:=zi H;exact yR
 obtain⟨ae,af⟩:=zw c9;go_wp2_with(fail)
 refine(spec_TreeOk.calls k _ _ _ _ _ (Kd.qD aa.out HB) ab.out A7.out).mono ?_;rintro e an ⟨rfl,hb⟩;replace HB:=zv HB hb;clear hb;replace H:=yf H;obtain⟨aj,ag,H⟩:=H;go_wp2_with(fail)
 refine(spec_AddressOk.calls k _ _ _ ag.out).mono ?_;rintro e ao ⟨rfl,hd⟩;replace HB:=zv HB hd.below;clear hd;obtain rfl:=zi H;exact yR
def spec_l12Find.l0:Nat->List (S103)->ByteArray->Int->Option (Int)
 |0,_,_,_=>none
 |k+1,x0,x1,x5=>if x5<(x0.length:Int) then(if 0<=x5 then(if((qC x0 x5).f0).toList=x1.toList then(some x5) else(spec_l12Find.l0 k x0 x1 (wrap64 (x5+1)))) else(none)) else(some (-1))
def spec_l12Find.f(k:Nat)(l0:List (S103))(a1:ByteArray):Option (Int):=spec_l12Find.l0 k l0 a1 0
theorem spec_l12Find.calls(k:Nat)(A0:Option Addr)(c0:Nat)(l0:List (S103))(a1:ByteArray)(r:Int)(w:World)(ax:Kd.C k103 w A0 l0.length l0)(ay:l0.length<=c0)(H:spec_l12Find.f k l0 a1=some r):
 Calls Tryz.prog 92 #[.slice A0 l0.length c0,.string a1] w fun e w'=>e= .returned (.int .i64 r)/\vB w w':=by
 have az:=zz ax;have aH:=zz ay;clear ax ay;unfold spec_l12Find.f at H;have H':=zz H;clear H;go_enter Tryz.func92,Tryz.ntmps92;go_wp2;go_loopg[5] k (fun kq v5 w'=>∃(aa:Int),v5= .int .i64 aa/\qA (spec_l12Find.l0 kq l0 a1 aa=some r)/\qA (kq<=k)/\vB w w')
 case atStart=>exact⟨(0),zr,H',⟨Nat.le_refl _⟩,yD0⟩
 case round=>
  clear H';obtain⟨aa,rfl,HA,aA,⟨m1,rfl⟩⟩:=hrel;cases gk with
  |zero=>exact absurd HA.out (by simp[spec_l12Find.l0])
  |succ k1=>
   have H:=HA.out;clear HA;simp only[spec_l12Find.l0] at H;refine yDn H ?_ ?_<;>clear H<;>intro aF H
   ·obtain rfl:=zi H;exact yr
   replace H:=yAD H;obtain⟨aG,H⟩:=H;refine yC H ?_ ?_<;>clear H<;>intro c5 H
   ·obtain⟨aB,aC⟩:=zq c5;clear c5;obtain rfl:=zi H;have aD:=yt (0<=(aa:Int));have aE:=yt (aa<(l0.length:Int));obtain⟨aw,ap,ar,au,av,af,ag,ah,ai,aj,ak,ab,ac,ad,ae⟩:=at_T103 az.out aa z2 z2;cases af;have al:=zz ac;have am:=zz ab;clear ac ab;have an:=zz ae;have ao:=zz ad;clear ae ad;exact yr
   obtain⟨aB,aC⟩:=zw c5;have H':=zz H;clear H;have aD:=yt (0<=(aa:Int));have aE:=yt (aa<(l0.length:Int));obtain⟨aw,ap,ar,au,av,af,ag,ah,ai,aj,ak,ab,ac,ad,ae⟩:=at_T103 az.out aa z2 z2;cases af;have al:=zz ac;have am:=zz ab;clear ac ab;have an:=zz ae;have ao:=zz ad;clear ae ad;go_wp2;go_roundg k1
   case measure=>exact yM1 aA
   case rel=>exact⟨(wrap64 (aa+1)),zr,H',⟨yM1 aA⟩,yD0⟩
mutual
def spec_WorldOk.l0:Nat->Int->List (S103)->List (S137)->List (S133)->List (S134)->Option (Bool)
 |0,_,_,_,_,_=>none
 |k+1,x3,ad,aa,ab,ac=>if x3<(ab.length:Int) then(if 0<=x3 then((spec_l19Item.f k ((qN ab x3).f0) ((qN ab x3).f1) ((qN ab x3).f2)).bind fun ae=>(if ae=true then(spec_WorldOk.l0 k (wrap64 (x3+1)) ad aa ab ac) else(some false))) else(none)) else(spec_WorldOk.l1 k 0 ad aa ab ac)
def spec_WorldOk.l1:Nat->Int->List (S103)->List (S137)->List (S133)->List (S134)->Option (Bool)
 |0,_,_,_,_,_=>none
 |k+1,x4,ad,aa,ab,ac=>if x4<(ac.length:Int) then(if 0<=x4 then((spec_NameOk.f k ((rd_T134 ac x4).f0)).bind fun af=>(if af=true then((spec_AddressOk.f k ((rd_T134 ac x4).f1)).bind fun ag=>(if ag=true then(spec_WorldOk.l1 k (wrap64 (x4+1)) ad aa ab ac) else(some false))) else(some false))) else(none)) else(spec_WorldOk.l2 k 0 ad aa ab ac)
def spec_WorldOk.l2:Nat->Int->List (S103)->List (S137)->List (S133)->List (S134)->Option (Bool)
 |0,_,_,_,_,_=>none
 |k+1,x5,ad,aa,ab,ac=>if x5<(aa.length:Int) then(spec_WorldOk.l3 k x5 0 ad aa ab ac) else(some true)
def spec_WorldOk.l3:Nat->Int->Int->List (S103)->List (S137)->List (S133)->List (S134)->Option (Bool)
 |0,_,_,_,_,_,_=>none
 |k+1,x5,x6,ad,aa,ab,ac=>if 0<=x5 then(if x5<(aa.length:Int) then(if x6<(((qE aa x5).f2).length:Int) then(if 0<=x6 then((spec_l12Find.f k ad ((qP ((qE aa x5).f2) x6).f1)).bind fun ah=>(if ah<0 then(some false) else(spec_WorldOk.l3 k x5 (wrap64 (x6+1)) ad aa ab ac))) else(none)) else(spec_WorldOk.l2 k (wrap64 (x5+1)) ad aa ab ac)) else(none)) else(none)
end
def spec_WorldOk.f(k:Nat)(aa:List (S103))(ab:List (S137))(ac:List (S133))(ad:List (S134)):Option (Bool):=(spec_StoreOk.f k aa).bind fun ae=>(if ae=true then((spec_ProfilesOk.f k ab).bind fun af=>(if af=true then(if(ac.length:Int)>20 then(some false) else(if(ad.length:Int)>20 then(some false) else(spec_WorldOk.l0 k 0 aa ab ac ad))) else(some false))) else(some false))
theorem spec_WorldOk.calls(k:Nat)(aM:Option Addr)(aN:Nat)(ai:List (S103))(aO:Option Addr)(aP:Nat)(ah:List (S137))(aQ:Option Addr)(aR:Nat)(ab:List (S133))(aS:Option Addr)(aT:Nat)(ac:List (S134))(r:Bool)(w:World)(aU:Kd.C k103 w aM ai.length ai)(aV:ai.length<=aN)(aW:Kd.C k137 w aO ah.length ah)(aX:ah.length<=aP)(aY:Kd.C k133 w aQ ab.length ab)(aZ:ab.length<=aR)(a0:Kd.C k134 w aS ac.length ac)(a1:ac.length<=aT)(H:spec_WorldOk.f k ai ah ab ac=some r):
 Calls Tryz.prog 45 #[.agg #[.slice aM ai.length aN,.slice aO ah.length aP,.slice aQ ab.length aR,.slice aS ac.length aT]] w fun e w'=>e= .returned (.bool r)/\Below w.heap.size w w':=by
 have bU:=Tryz.underlying38;have am:=zz aU;have aH:=zz aV;clear aU aV;have ak:=zz aW;have ap:=zz aX;clear aW aX;have aI:=zz aY;have bD:=zz aZ;clear aY aZ;have aJ:=zz a0;have bE:=zz a1;clear a0 a1;have HB:=yB w;unfold spec_WorldOk.f at H;replace HB:=HB.out;have HW:=yB w;go_enter Tryz.func45,Tryz.ntmps45;replace H:=yf H;obtain⟨bV,A2,H⟩:=H;go_wp2_with(first|(refine zN 1 ?_;(try(refine z4 ?_;dsimp only));refine zX 1 38 #[.slice aM ai.length aN,.slice aO ah.length aP,.slice aQ ab.length aR,.slice aS ac.length aT] ?_;intro bF hg w5 hbox hb;have hst:=zv HB hb;clear hg hb HB;replace HW:=zz (zv HW.out hst);replace am:=zz (Kd.qD am.out hst);replace ak:=zz (Kd.qD ak.out hst);replace aI:=zz (Kd.qD aI.out hst);replace aJ:=zz (Kd.qD aJ.out hst);obtain⟨bg,bh,bi,bj⟩:=zx4 hbox;have HB:=Below.refl w5.heap.size w5;clear hbox hst))
 refine(spec_StoreOk.calls k _ _ _ _ _ (Kd.qD am.out HB) aH.out A2.out).mono ?_;rintro e w6 ⟨rfl,hb⟩;replace HB:=zv HB hb;clear hb;refine yF H ?_ ?_<;>clear H<;>rintro rfl H
 ·obtain rfl:=zi H;exact yR
 replace H:=yf H;obtain⟨bW,A7,H⟩:=H;refine yF H ?_ ?_<;>clear H<;>rintro rfl H
 ·go_wp2_with(fail)
  refine(spec_ProfilesOk.calls k _ _ _ _ _ (Kd.qD ak.out HB) ap.out A7.out).mono ?_;rintro e cd ⟨rfl,hb⟩;replace HB:=zv HB hb;clear hb;obtain rfl:=zi H;exact yR
 refine yC H ?_ ?_<;>clear H<;>intro c9 H
 ·have bk:=zgt c9;have bl:decide (20<ab.length)=true:=z1 yo_;clear c9;go_wp2_with(fail)
  refine(spec_ProfilesOk.calls k _ _ _ _ _ (Kd.qD ak.out HB) ap.out A7.out).mono ?_;rintro e ce ⟨rfl,hb⟩;replace HB:=zv HB hb;clear hb;obtain rfl:=zi H;exact yR
 have bk:=zgtn c9;have bl:decide (20<ab.length)=false:=z0 yo_;clear c9;refine yC H ?_ ?_<;>clear H<;>intro a2 H
 ·have bb:=zgt a2;have bc:decide (20<ac.length)=true:=z1 yo_;clear a2;go_wp2_with(fail)
  refine(spec_ProfilesOk.calls k _ _ _ _ _ (Kd.qD ak.out HB) ap.out A7.out).mono ?_;rintro e cf ⟨rfl,hb⟩;replace HB:=zv HB hb;clear hb;obtain rfl:=zi H;exact yR
 have bb:=zgtn a2;have bc:decide (20<ac.length)=false:=z0 yo_;clear a2;go_wp2_with(fail)
 refine(spec_ProfilesOk.calls k _ _ _ _ _ (Kd.qD ak.out HB) ap.out A7.out).mono ?_;rintro e cg ⟨rfl,hb⟩;replace HB:=zv HB hb;clear hb;go_wp2_with(fail)
 go_loopg[3] k (fun kq v3 w'=>∃(ad:Int),v3= .int .i64 ad/\qA (spec_WorldOk.l0 kq ad ai ah ab ac=some r)/\qA (kq<=k)/\qA (Below w5.heap.size w5 w'))
 case atStart=>exact⟨(0),zr,⟨H⟩,⟨Nat.le_refl _⟩,⟨HB⟩⟩
 case round=>
  clear H HB;obtain⟨ad,rfl,H,ag,HB⟩:=hrel;replace HB:=HB.out;replace H:=H.out;have a6:=yB w5;cases gk with
  |zero=>simp[spec_WorldOk.l0] at H
  |succ aK=>
   simp only[spec_WorldOk.l0] at H;refine yD H ?_ ?_<;>clear H<;>intro bG H
   ·go_wp2_with(fail)
    try simp only[Act.put,List.setIfInBounds_toArray,List.set_cons_zero,List.set_cons_succ]
    refine qS (C:=fun W_=>Below w5.heap.size w5 W_) zk zk (qL HB) ?_;replace H:=yAD H;obtain⟨bH,H⟩:=H;have bX:=yt (0<=(ad:Int));have bY:=yt ((ad:Int)<(ab.length:Int));obtain⟨bI,bu,bv,bn,ar,au,av,aw,ax⟩:=at_T133 aI.out ad z2 z2;cases bn;replace ar:=qJ ar;replace au:=qJ au;replace av:=qJ av;have a3:=zz ax;have a4:=zz aw;clear ax aw;replace H:=yf H;obtain⟨bZ,bw,H⟩:=H;repeat(first|go_big_quiet_skip|(go_big_quiet_want;go_big_quiet_op;first|go_big_quiet_on|(apply zU;intro W hW;(first|with_reducible rfl|(go_at_call 46;exact callB (spec_l19Item.calls aK _ _ _ _ _ _ _ (Kd.qD a3.out hW) a4.out bw.out) hW)|(go_simp;with_reducible rfl));go_big_quiet_on)))
    clear HB;refine zW fun bz (HB:Below w5.heap.size w5 bz)=>?_;refine yT H ?_ ?_<;>clear H<;>rintro rfl H
    ·go_wp2_with(fail)
     go_roundg aK
     case measure=>exact yM1 ag
     case rel=>exact⟨(wrap64 (ad+1)),zr,⟨H⟩,⟨yM1 ag⟩,⟨zv a6.out HB⟩⟩
    obtain rfl:=zi H;exact yR
   go_wp2_with(fail)
   go_loopg[4] aK (fun kq v4 w'=>∃(ae:Int),v4= .int .i64 ae/\qA (spec_WorldOk.l1 kq ae ai ah ab ac=some r)/\qA (kq<=aK)/\qA (Below w5.heap.size w5 w'))
   case atStart=>exact⟨(0),zr,⟨H⟩,⟨Nat.le_refl _⟩,⟨HB⟩⟩
   case round=>
    clear H HB;obtain⟨ae,rfl,H,aj,HB⟩:=hrel;replace HB:=HB.out;replace H:=H.out;have a7:=yB w5;cases gk with
    |zero=>simp[spec_WorldOk.l1] at H
    |succ al=>
     simp only[spec_WorldOk.l1] at H;refine yD H ?_ ?_<;>clear H<;>intro bJ H
     ·replace H:=yAD H;obtain⟨bK,H⟩:=H;have b0:=yt (0<=(ae:Int));have b1:=yt ((ae:Int)<(ac.length:Int));obtain⟨bL,bo,ay,az⟩:=at_T134 aJ.out ae z2 z2;cases bo;replace ay:=qJ ay;replace az:=qJ az;replace H:=yf H;obtain⟨b3,bd,H⟩:=H;refine yF H ?_ ?_<;>clear H<;>rintro rfl H
      ·go_wp2_with(fail)
       refine(spec_NameOk.calls al _ _ _ bd.out).mono ?_;rintro e ch ⟨rfl,hd⟩;replace HB:=zv HB hd.below;clear hd;obtain rfl:=zi H;exact yR
      go_wp2_with(fail)
      refine(spec_NameOk.calls al _ _ _ bd.out).mono ?_;rintro e ci ⟨rfl,hd⟩;replace HB:=zv HB hd.below;clear hd;replace H:=yf H;obtain⟨b4,be,H⟩:=H;refine yT H ?_ ?_<;>clear H<;>rintro rfl H
      ·go_wp2_with(fail)
       refine(spec_AddressOk.calls al _ _ _ be.out).mono ?_;rintro e cj ⟨rfl,hd⟩;replace HB:=zv HB hd.below;clear hd;go_wp2_with(fail)
       go_roundg al
       case measure=>exact yM2 ag aj
       case rel=>exact⟨(wrap64 (ae+1)),zr,⟨H⟩,⟨yM2 ag aj⟩,⟨zv a7.out HB⟩⟩
      go_wp2_with(fail)
      refine(spec_AddressOk.calls al _ _ _ be.out).mono ?_;rintro e ck ⟨rfl,hd⟩;replace HB:=zv HB hd.below;clear hd;obtain rfl:=zi H;exact yR
     go_wp2_with(fail)
     go_loopg[5] al (fun kq v5 w'=>∃(aa:Int),v5= .int .i64 aa/\qA (spec_WorldOk.l2 kq aa ai ah ab ac=some r)/\qA (kq<=al)/\qA (Below w5.heap.size w5 w'))
     case atStart=>exact⟨(0),zr,⟨H⟩,⟨Nat.le_refl _⟩,⟨HB⟩⟩
     case round=>
      clear H HB;obtain⟨aa,rfl,H,an,HB⟩:=hrel;replace HB:=HB.out;replace H:=H.out;have a8:=yB w5;cases gk with
      |zero=>simp[spec_WorldOk.l2] at H
      |succ a9=>
       simp only[spec_WorldOk.l2] at H;refine yDn H ?_ ?_<;>clear H<;>intro bM H
       ·obtain rfl:=zi H;exact yR
       go_wp2_with(fail)
       go_loopg[6] a9 (fun kq v6 w'=>∃(af:Int),v6= .int .i64 af/\qA (spec_WorldOk.l3 kq aa af ai ah ab ac=some r)/\qA (kq<=a9)/\qA (Below w5.heap.size w5 w'))
       case atStart=>exact⟨(0),zr,⟨H⟩,⟨Nat.le_refl _⟩,⟨HB⟩⟩
       case round=>
        clear H HB;obtain⟨af,rfl,H,ao,HB⟩:=hrel;replace HB:=HB.out;replace H:=H.out;have ba:=yB w5;cases gk with
        |zero=>simp[spec_WorldOk.l3] at H
        |succ aL=>
         simp only[spec_WorldOk.l3] at H;replace H:=yAD H;obtain⟨bN,H⟩:=H;replace H:=yAD H;obtain⟨bO,H⟩:=H;have b7:=yt (0<=(aa:Int));have b8:=yt ((aa:Int)<(ah.length:Int));obtain⟨bP,bA,bB,bq,aA,aB,aC,aD,aE⟩:=at_T137 ak.out aa z2 z2;cases bq;replace aA:=qJ aA;replace aB:=qJ aB;replace aC:=qJ aC;have a5:=zz aE;have bs:=zz aD;clear aE aD;refine yDn H ?_ ?_<;>clear H<;>intro bQ H
         ·go_wp2_with(fail)
          go_roundg aL
          case measure=>exact yM4 ag aj an ao
          case rel=>exact⟨(wrap64 (aa+1)),zr,⟨H⟩,⟨yM4 ag aj an ao⟩,⟨zv a8.out HB⟩⟩
         go_wp2_with(fail)
         try simp only[Act.put,List.setIfInBounds_toArray,List.set_cons_zero,List.set_cons_succ]
         refine qS (C:=fun W_=>Below w5.heap.size w5 W_) zk zk (qL HB) ?_;replace H:=yAD H;obtain⟨bR,H⟩:=H;have ca:=yt (0<=(af:Int));have cb:=yt ((af:Int)<(((qE ah aa).f2).length:Int));obtain⟨bS,br,aF,aG⟩:=at_T139 a5.out af z2 z2;cases br;replace aF:=qJ aF;replace aG:=qJ aG;replace H:=yf H;obtain⟨cc,bf,H⟩:=H;refine yD H ?_ ?_<;>clear H<;>intro bT H
         ·obtain rfl:=zi H;repeat(first|go_big_quiet_skip|(go_big_quiet_want;go_big_quiet_op;first|go_big_quiet_on|(apply zU;intro W hW;(first|with_reducible rfl|(go_at_call 92;exact callD (spec_l12Find.calls aL _ _ _ _ _ _ (Kd.qD am.out hW) aH.out bf.out) hW)|(go_simp;with_reducible rfl));go_big_quiet_on)))
          exact yW
         repeat(first|go_big_quiet_skip|(go_big_quiet_want;go_big_quiet_op;first|go_big_quiet_on|(apply zU;intro W hW;(first|with_reducible rfl|(go_at_call 92;exact callD (spec_l12Find.calls aL _ _ _ _ _ _ (Kd.qD am.out hW) aH.out bf.out) hW)|(go_simp;with_reducible rfl));go_big_quiet_on)))
         clear HB;refine zW fun bC (HB:Below w5.heap.size w5 bC)=>?_;go_wp2_with(fail)
         go_roundg aL
         case measure=>exact yM4 ag aj an ao
         case rel=>exact⟨(wrap64 (af+1)),zr,⟨H⟩,⟨yM4 ag aj an ao⟩,⟨zv ba.out HB⟩⟩
end Go.Proofs.YtmdoobnlehkmpaaGreatDoor.Q
