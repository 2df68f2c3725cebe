import Derived.Test.YtmdoobnlehkmpaaGreatDoorA15
import Derived.Test.YtmdoobnlehkmpaaGreatDoorA13
set_option linter.unusedVariables false
set_option linter.unusedSimpArgs false
namespace Go.Proofs.YtmdoobnlehkmpaaGreatDoor.Q
open Go.RowKit W1 W2 W3
attribute [local go_sem] max2_int min2_int max_two min_two max_three min_three max_four min_four
attribute [local go_sem high] bl_leq bl_gtr bl_geq
set_option maxHeartbeats 8000000
set_option maxRecDepth 100000
def impl_pendingOk.f(k:Nat)(ab:ByteArray)(ac:List (S87))(aa:ByteArray):Option (Bool):=(impl_AddressOk.f k ab).bind fun ad=>(if ad=true then((impl_TreeOk.f k ac).bind fun ae=>(if ae=true then(if aa.toList=([]:List UInt8) then(some true) else((impl_AddressOk.f k aa).bind fun af=>(some af))) else(some false))) else(some false))
theorem impl_pendingOk.calls(k:Nat)(ad:ByteArray)(ae:Option Addr)(af:Nat)(ab:List (S87))(ag:ByteArray)(r:Bool)(w:World)(ah:Kd.C k87 w ae ab.length ab)(ai:ab.length≤af)(hG_:GOK w)(h:impl_pendingOk.f k ad ab ag=some r):
 Calls Tryz.prog 101 #[.agg #[.string ad,.slice ae ab.length af,.string ag]] w fun e w'=>e= .returned (.bool r)∧Below w.heap.size w w':=by
 have ap:=Tryz.underlying133
 have HG:=zz hG_
 clear hG_
 have aa:=zz ah
 have ac:=zz ai
 clear ah ai
 have HB:=yB w
 unfold impl_pendingOk.f at h
 have H:=h
 clear h
 replace HB:=HB.out
 have HW:=yB w
 go_enter Tryz.func101,Tryz.ntmps101
 replace H:=yf H
 obtain⟨au,A2,H⟩:=H
 go_wp2_with(first|(refine zN 1 ?_;(try(refine z4 ?_;dsimp only));refine zX 1 133 #[.string ad,.slice ae ab.length af,.string ag] ?_;intro ar hg w4 hbox hb;have hst:=zv HB hb;clear hg hb HB;replace HW:=zz (zv HW.out hst);replace aa:=zz (Kd.qB aa.out hst);obtain⟨aj,ak,al⟩:=zx3 hbox;have HB:=Below.refl w4.heap.size w4;clear hbox hst))
 refine(impl_AddressOk.calls k _ _ _ A2.out).mono ?_
 rintro e w5 ⟨rfl,hd⟩
 replace HB:=zv HB hd.below
 clear hd
 refine yF H ?_ ?_<;>clear H<;>rintro rfl H
 ·obtain rfl:=zi H
  exact yR
 replace H:=yf H
 obtain⟨av,A6,H⟩:=H
 refine yF H ?_ ?_<;>clear H<;>rintro rfl H
 ·go_wp2_with(fail)
  refine(impl_TreeOk.calls k _ _ _ _ _ (Kd.qB aa.out HB) ac.out (GOK.below HG.out (zv HW.out HB)) A6.out).mono ?_
  rintro e ax ⟨rfl,hb⟩
  replace HB:=zv HB hb
  clear hb
  obtain rfl:=zi H
  exact yR
 refine yC H ?_ ?_<;>clear H<;>intro c8 H
 ·obtain⟨am,an⟩:=zq c8
  clear c8
  go_wp2_with(fail)
  refine(impl_TreeOk.calls k _ _ _ _ _ (Kd.qB aa.out HB) ac.out (GOK.below HG.out (zv HW.out HB)) A6.out).mono ?_
  rintro e ay ⟨rfl,hb⟩
  replace HB:=zv HB hb
  clear hb
  obtain rfl:=zi H
  exact yR
 obtain⟨am,an⟩:=zw c8
 go_wp2_with(fail)
 refine(impl_TreeOk.calls k _ _ _ _ _ (Kd.qB aa.out HB) ac.out (GOK.below HG.out (zv HW.out HB)) A6.out).mono ?_
 rintro e az ⟨rfl,hb⟩
 replace HB:=zv HB hb
 clear hb
 replace H:=yf H
 obtain⟨aw,ao,H⟩:=H
 go_wp2_with(fail)
 refine(impl_AddressOk.calls k _ _ _ ao.out).mono ?_
 rintro e aA ⟨rfl,hd⟩
 replace HB:=zv HB hd.below
 clear hd
 obtain rfl:=zi H
 exact yR
def impl_itemOf.l0:Nat→ByteArray→List (S103)→Int→Int→Option (Int)
 |0,_,_,_,_=>none
 |k+1,x1,x7,x8,x9=>if x9<x8 then(if 0≤x9 then(if x9<(x7.length:Int) then(if((qE x7 x9).f0).toList=x1.toList then(some x9) else(impl_itemOf.l0 k x1 x7 x8 (wrap64 (x9+1)))) else(none)) else(none)) else(some (-1))
def impl_itemOf.f(k:Nat)(l0:List (S103))(a1:ByteArray):Option (Int):=impl_itemOf.l0 k a1 l0 (l0.length:Int) 0
theorem impl_itemOf.calls(k:Nat)(A0:Option Addr)(c0:Nat)(l0:List (S103))(a1:ByteArray)(r:Int)(w:World)(aN:Kd.C k103 w A0 l0.length l0)(aO:l0.length≤c0)(h:impl_itemOf.f k l0 a1=some r):
 Calls Tryz.prog 81 #[.slice A0 l0.length c0,.string a1] w fun e w'=>e= .returned (.int .i64 r)∧Below w.heap.size w w':=by
 have aX:=Tryz.underlying103
 have aF:=zz aN
 have a6:=zz aO
 clear aN aO
 have HB:=yB w
 unfold impl_itemOf.f at h
 have H:=h
 clear h
 replace HB:=HB.out
 have HW:=yB w
 go_enter Tryz.func81,Tryz.ntmps81
 go_wp2_with(fail)
 go_loopg[9] k (fun kq v9 w'=>∃(aa:Int),v9= .int .i64 aa∧qC (impl_itemOf.l0 kq a1 l0 (l0.length:Int) aa=some r)∧qC (kq≤k)∧qC (Below w.heap.size w w'))
 case atStart=>exact⟨(0),zr,⟨H⟩,⟨Nat.le_refl _⟩,⟨HB⟩⟩
 case round=>
  clear H HB
  obtain⟨aa,rfl,H,aL,HB⟩:=hrel
  replace HB:=HB.out
  replace H:=H.out
  have an:=yB w
  cases gk with
  |zero=>exact absurd H (by simp[impl_itemOf.l0])
  |succ aV=>
   simp only[impl_itemOf.l0] at H
   refine yDn H ?_ ?_<;>clear H<;>intro a0 H
   ·obtain rfl:=zi H
    exact yR
   replace H:=yAD H
   obtain⟨a2,H⟩:=H
   replace H:=yAD H
   obtain⟨a3,H⟩:=H
   have a4:=yt (0≤(aa:Int))
   have a5:=yt ((aa:Int)<(l0.length:Int))
   obtain⟨aY,ac,ad,ae,af,aQ,ag,ah,ai,aj,ak,aB,aC,aD,aE⟩:=at_T103 aF.out aa z2 z2
   cases aQ
   replace ag:=qH ag
   replace ah:=qH ah
   replace ai:=qH ai
   replace aj:=qH aj
   replace ak:=qH ak
   have al:=zz aC
   have aT:=zz aB
   clear aC aB
   have am:=zz aE
   have aU:=zz aD
   clear aE aD
   refine yCn H ?_ ?_<;>clear H<;>intro c7 H
   ·obtain⟨aR,aS⟩:=zw c7
    go_wp2_with(first|(refine zN 6 ?_;(try(refine z4 ?_;dsimp only));refine zX 6 103 #[.string (⟨#[]⟩:ByteArray),.string (⟨#[]⟩:ByteArray),.slice none 0 0,.string (⟨#[]⟩:ByteArray),.slice none 0 0] ?_;intro ab hg aM hbox hb;have hge:w.heap.size≤ab:=(by rw[hg];exact qF HB);clear hg;have hst:Below w.heap.size w (((((aM.setCell ⟨ab,0,none⟩ (.string ((qE l0 aa).f0))).setCell ⟨ab,1,none⟩ (.string ((qE l0 aa).f1))).setCell ⟨ab,2,none⟩ (.slice ac ((qE l0 aa).f2).length ad)).setCell ⟨ab,3,none⟩ (.string ((qE l0 aa).f3))).setCell ⟨ab,4,none⟩ (.slice ae ((qE l0 aa).f4).length af)):=(qJ (qJ (qJ (qJ (qJ (zv HB hb) hge) hge) hge) hge) hge);have hbx:(((((aM.setCell ⟨ab,0,none⟩ (.string ((qE l0 aa).f0))).setCell ⟨ab,1,none⟩ (.string ((qE l0 aa).f1))).setCell ⟨ab,2,none⟩ (.slice ac ((qE l0 aa).f2).length ad)).setCell ⟨ab,3,none⟩ (.string ((qE l0 aa).f3))).setCell ⟨ab,4,none⟩ (.slice ae ((qE l0 aa).f4).length af)).heap[ab]?=some (.cells #[.string ((qE l0 aa).f0),.string ((qE l0 aa).f1),.slice ac ((qE l0 aa).f2).length ad,.string ((qE l0 aa).f3),.slice ae ((qE l0 aa).f4).length af] 103 (0,0)):=(yP hbox);obtain⟨ao,ap,ar,au,av,aw,ax,ay,az,aA⟩:=zc5 hbox)|((with_reducible refine qQ (t:=103) (p:=6) rfl ?_);(try(refine z4 ?_;dsimp only));refine qN (t:=103) (p:=6) (v:=?aW) (w1:=(((((aM.setCell ⟨ab,0,none⟩ (.string ((qE l0 aa).f0))).setCell ⟨ab,1,none⟩ (.string ((qE l0 aa).f1))).setCell ⟨ab,2,none⟩ (.slice ac ((qE l0 aa).f2).length ad)).setCell ⟨ab,3,none⟩ (.string ((qE l0 aa).f3))).setCell ⟨ab,4,none⟩ (.slice ae ((qE l0 aa).f4).length af))) ?hg ?ho ?hn ?hr ?_;(case ho=>rfl);(case hg=>rfl);(case hn=>rfl);(case hr=>first|(go_simp;done)|(go_simp;rfl));intro aP hw;replace hst:=hst;rw[←hw] at hst hbx;clear hw hb hbox hge HB ao aw ap ax ar ay au az av aA;replace HW:=zz (zv HW.out hst);replace an:=zz (zv an.out hst);replace aF:=zz (Kd.qB aF.out hst);replace al:=zz (Kd.qB al.out hst);replace am:=zz (Kd.qB am.out hst);replace ag:=qG ag hst;replace ah:=qG ah hst;replace ai:=qG ai hst;replace aj:=qG aj hst;replace ak:=qG ak hst;obtain⟨aG,aH,aI,aJ,aK⟩:=zx5 hbx;have HB:=Below.refl aP.heap.size aP;clear hbx hst))
    go_roundg aV
    case measure=>have:=aL.out;omega
    case rel=>exact⟨(wrap64 (aa+1)),zr,⟨H⟩,⟨by have:=aL.out;omega⟩,⟨zv an.out HB⟩⟩
   obtain⟨aR,aS⟩:=zq c7
   clear c7
   obtain rfl:=zi H
   go_wp2_with(first|(refine zN 6 ?_;(try(refine z4 ?_;dsimp only));refine zX 6 103 #[.string (⟨#[]⟩:ByteArray),.string (⟨#[]⟩:ByteArray),.slice none 0 0,.string (⟨#[]⟩:ByteArray),.slice none 0 0] ?_;intro ab hg w8 hbox hb;have hge:w.heap.size≤ab:=(by rw[hg];exact qF HB);clear hg;have hst:Below w.heap.size w (((((w8.setCell ⟨ab,0,none⟩ (.string ((qE l0 aa).f0))).setCell ⟨ab,1,none⟩ (.string ((qE l0 aa).f1))).setCell ⟨ab,2,none⟩ (.slice ac ((qE l0 aa).f2).length ad)).setCell ⟨ab,3,none⟩ (.string ((qE l0 aa).f3))).setCell ⟨ab,4,none⟩ (.slice ae ((qE l0 aa).f4).length af)):=(qJ (qJ (qJ (qJ (qJ (zv HB hb) hge) hge) hge) hge) hge);have hbx:(((((w8.setCell ⟨ab,0,none⟩ (.string ((qE l0 aa).f0))).setCell ⟨ab,1,none⟩ (.string ((qE l0 aa).f1))).setCell ⟨ab,2,none⟩ (.slice ac ((qE l0 aa).f2).length ad)).setCell ⟨ab,3,none⟩ (.string ((qE l0 aa).f3))).setCell ⟨ab,4,none⟩ (.slice ae ((qE l0 aa).f4).length af)).heap[ab]?=some (.cells #[.string ((qE l0 aa).f0),.string ((qE l0 aa).f1),.slice ac ((qE l0 aa).f2).length ad,.string ((qE l0 aa).f3),.slice ae ((qE l0 aa).f4).length af] 103 (0,0)):=(yP hbox);obtain⟨ao,ap,ar,au,av,aw,ax,ay,az,aA⟩:=zc5 hbox)|((with_reducible refine qQ (t:=103) (p:=6) rfl ?_);(try(refine z4 ?_;dsimp only));refine qN (t:=103) (p:=6) (v:=?aZ) (w1:=(((((w8.setCell ⟨ab,0,none⟩ (.string ((qE l0 aa).f0))).setCell ⟨ab,1,none⟩ (.string ((qE l0 aa).f1))).setCell ⟨ab,2,none⟩ (.slice ac ((qE l0 aa).f2).length ad)).setCell ⟨ab,3,none⟩ (.string ((qE l0 aa).f3))).setCell ⟨ab,4,none⟩ (.slice ae ((qE l0 aa).f4).length af))) ?hg ?ho ?hn ?hr ?_;(case ho=>rfl);(case hg=>rfl);(case hn=>rfl);(case hr=>first|(go_simp;done)|(go_simp;rfl));intro w9 hw;replace hst:=hst;rw[←hw] at hst hbx;clear hw hb hbox hge HB ao aw ap ax ar ay au az av aA;replace HW:=zz (zv HW.out hst);replace an:=zz (zv an.out hst);replace aF:=zz (Kd.qB aF.out hst);replace al:=zz (Kd.qB al.out hst);replace am:=zz (Kd.qB am.out hst);replace ag:=qG ag hst;replace ah:=qG ah hst;replace ai:=qG ai hst;replace aj:=qG aj hst;replace ak:=qG ak hst;obtain⟨aG,aH,aI,aJ,aK⟩:=zx5 hbx;have HB:=Below.refl w9.heap.size w9;clear hbx hst))
   go_ret
   exact⟨ze,zv HW.out HB⟩
mutual
def impl_WorldOk.l0:Nat→List (S133)→Int→Int→List (S103)→List (S137)→List (S133)→List (S134)→Option (Bool)
 |0,_,_,_,_,_,_,_=>none
 |k+1,ai,an,af,ac,aa,ad,ab=>if af<an then(if 0≤af then(if af<(ai.length:Int) then((impl_pendingOk.f k ((rd_T133 ai af).f0) ((rd_T133 ai af).f1) ((rd_T133 ai af).f2)).bind fun ar=>(if ar=true then(impl_WorldOk.l0 k ai an (wrap64 (af+1)) ac aa ad ab) else(some false))) else(none)) else(none)) else(impl_WorldOk.l1 k ab (ab.length:Int) 0 ac aa ad ab)
def impl_WorldOk.l1:Nat→List (S134)→Int→Int→List (S103)→List (S137)→List (S133)→List (S134)→Option (Bool)
 |0,_,_,_,_,_,_,_=>none
 |k+1,al,ao,ah,ac,aa,ad,ab=>if ah<ao then(if 0≤ah then(if ah<(al.length:Int) then((impl_NameOk.f k ((rd_T134 al ah).f0)).bind fun au=>(if au=true then((impl_AddressOk.f k ((rd_T134 al ah).f1)).bind fun av=>(if av=true then(impl_WorldOk.l1 k al ao (wrap64 (ah+1)) ac aa ad ab) else(some false))) else(some false))) else(none)) else(none)) else(impl_WorldOk.l2 k aa (aa.length:Int) 0 ac aa ad ab)
def impl_WorldOk.l2:Nat→List (S137)→Int→Int→List (S103)→List (S137)→List (S133)→List (S134)→Option (Bool)
 |0,_,_,_,_,_,_,_=>none
 |k+1,ag,aj,ae,ac,aa,ad,ab=>if ae<aj then(if 0≤ae then(if ae<(ag.length:Int) then(impl_WorldOk.l3 k ag aj ae ((qD ag ae).f2) (((qD ag ae).f2).length:Int) 0 ac aa ad ab) else(none)) else(none)) else(some true)
def impl_WorldOk.l3:Nat→List (S137)→Int→Int→List (S139)→Int→Int→List (S103)→List (S137)→List (S133)→List (S134)→Option (Bool)
 |0,_,_,_,_,_,_,_,_,_,_=>none
 |k+1,ag,aj,ae,am,ap,ak,ac,aa,ad,ab=>if ak<ap then(if 0≤ak then(if ak<(am.length:Int) then((impl_itemOf.f k ac ((qP am ak).f1)).bind fun aw=>(if aw<0 then(some false) else(impl_WorldOk.l3 k ag aj ae am ap (wrap64 (ak+1)) ac aa ad ab))) else(none)) else(none)) else(impl_WorldOk.l2 k ag aj (wrap64 (ae+1)) ac aa ad ab)
end
def impl_WorldOk.f(k:Nat)(ab:List (S103))(ac:List (S137))(aa:List (S133))(ad:List (S134)):Option (Bool):=(impl_StoreOk.f k ab).bind fun ae=>(if ae=true then((impl_ProfilesOk.f k ac).bind fun af=>(if af=true then(if(aa.length:Int)>20 then(some false) else(if(ad.length:Int)>20 then(some false) else(impl_WorldOk.l0 k aa (aa.length:Int) 0 ab ac aa ad))) else(some false))) else(some false))
theorem impl_WorldOk.calls(k:Nat)(a6:Option Addr)(a7:Nat)(aC:List (S103))(a8:Option Addr)(a9:Nat)(ac:List (S137))(ba:Option Addr)(bb:Nat)(af:List (S133))(bc:Option Addr)(bd:Nat)(ag:List (S134))(r:Bool)(w:World)(bf:Kd.C k103 w a6 aC.length aC)(bg:aC.length≤a7)(bh:Kd.C k137 w a8 ac.length ac)(bi:ac.length≤a9)(bj:Kd.C k133 w ba af.length af)(bk:af.length≤bb)(bl:Kd.C k134 w bc ag.length ag)(bn:ag.length≤bd)(hG_:GOK w)(h:impl_WorldOk.f k aC ac af ag=some r):
 Calls Tryz.prog 53 #[.agg #[.slice a6 aC.length a7,.slice a8 ac.length a9,.slice ba af.length bb,.slice bc ag.length bd]] w fun e w'=>e= .returned (.bool r)∧Below w.heap.size w w':=by
 have cP:=Tryz.underlying38
 have cq:=Tryz.underlying133
 have cr:=Tryz.underlying134
 have ct:=Tryz.underlying137
 have cu:=Tryz.underlying139
 have HG:=zz hG_
 clear hG_
 have am:=zz bf
 have bo:=zz bg
 clear bf bg
 have ah:=zz bh
 have aW:=zz bi
 clear bh bi
 have an:=zz bj
 have cv:=zz bk
 clear bj bk
 have ao:=zz bl
 have cw:=zz bn
 clear bl bn
 have HB:=yB w
 unfold impl_WorldOk.f at h
 have H:=h
 clear h
 replace HB:=HB.out
 have HW:=yB w
 go_enter Tryz.func53,Tryz.ntmps53
 replace H:=yf H
 obtain⟨cQ,A2,H⟩:=H
 go_wp2_with(first|(refine zN 1 ?_;(try(refine z4 ?_;dsimp only));refine zX 1 38 #[.slice a6 aC.length a7,.slice a8 ac.length a9,.slice ba af.length bb,.slice bc ag.length bd] ?_;intro cx hg w5 hbox hb;have hst:=zv HB hb;clear hg hb HB;replace HW:=zz (zv HW.out hst);replace am:=zz (Kd.qB am.out hst);replace ah:=zz (Kd.qB ah.out hst);replace an:=zz (Kd.qB an.out hst);replace ao:=zz (Kd.qB ao.out hst);obtain⟨ai,aj,ak,al⟩:=zx4 hbox;have HB:=Below.refl w5.heap.size w5;clear hbox hst))
 refine(impl_StoreOk.calls k _ _ _ _ _ (Kd.qB am.out HB) bo.out (GOK.below HG.out (zv HW.out HB)) A2.out).mono ?_
 rintro e w6 ⟨rfl,hb⟩
 replace HB:=zv HB hb
 clear hb
 refine yF H ?_ ?_<;>clear H<;>rintro rfl H
 ·obtain rfl:=zi H
  exact yR
 replace H:=yf H
 obtain⟨cR,A7,H⟩:=H
 refine yF H ?_ ?_<;>clear H<;>rintro rfl H
 ·go_wp2_with(fail)
  refine(impl_ProfilesOk.calls k _ _ _ _ _ (Kd.qB ah.out HB) aW.out A7.out).mono ?_
  rintro e da ⟨rfl,hb⟩
  replace HB:=zv HB hb
  clear hb
  obtain rfl:=zi H
  exact yR
 refine yC H ?_ ?_<;>clear H<;>intro c9 H
 ·have b0:=zgt c9
  have b1:decide (20<af.length)=true:=z1 (by omega)
  clear c9
  go_wp2_with(fail)
  refine(impl_ProfilesOk.calls k _ _ _ _ _ (Kd.qB ah.out HB) aW.out A7.out).mono ?_
  rintro e db ⟨rfl,hb⟩
  replace HB:=zv HB hb
  clear hb
  obtain rfl:=zi H
  exact yR
 have b0:=zgtn c9
 have b1:decide (20<af.length)=false:=z0 (by omega)
 clear c9
 refine yC H ?_ ?_<;>clear H<;>intro bq H
 ·have bU:=zgt bq
  have bV:decide (20<ag.length)=true:=z1 (by omega)
  clear bq
  go_wp2_with(fail)
  refine(impl_ProfilesOk.calls k _ _ _ _ _ (Kd.qB ah.out HB) aW.out A7.out).mono ?_
  rintro e dc ⟨rfl,hb⟩
  replace HB:=zv HB hb
  clear hb
  obtain rfl:=zi H
  exact yR
 have bU:=zgtn bq
 have bV:decide (20<ag.length)=false:=z0 (by omega)
 clear bq
 go_wp2_with(fail)
 refine(impl_ProfilesOk.calls k _ _ _ _ _ (Kd.qB ah.out HB) aW.out A7.out).mono ?_
 rintro e de ⟨rfl,hb⟩
 replace HB:=zv HB hb
 clear hb
 go_wp2_with(fail)
 go_loopg[36] k (fun kq ce w'=>∃(ab:Int),ce= .int .i64 ab∧qC (impl_WorldOk.l0 kq af (af.length:Int) ab aC ac af ag=some r)∧qC (kq≤k)∧qC (Below w5.heap.size w5 w'))
 case atStart=>exact⟨(0),zr,⟨H⟩,⟨Nat.le_refl _⟩,⟨HB⟩⟩
 case round=>
  clear H HB
  obtain⟨ab,rfl,H,av,HB⟩:=hrel
  replace HB:=HB.out
  replace H:=H.out
  have ap:=yB w5
  cases gk with
  |zero=>exact absurd H (by simp[impl_WorldOk.l0])
  |succ a5=>
   simp only[impl_WorldOk.l0] at H
   refine yD H ?_ ?_<;>clear H<;>intro cy H
   ·replace H:=yAD H
    obtain⟨cz,H⟩:=H
    replace H:=yAD H
    obtain⟨cA,H⟩:=H
    have cS:=yt (0≤(ab:Int))
    have cT:=yt ((ab:Int)<(af.length:Int))
    obtain⟨cB,aN,aO,b2,aG,aH,aI,a1,a2⟩:=at_T133 an.out ab z2 z2
    cases b2
    replace aG:=qH aG
    replace aH:=qH aH
    replace aI:=qH aI
    have aT:=zz a2
    have br:=zz a1
    clear a2 a1
    replace H:=yf H
    obtain⟨cU,cf,H⟩:=H
    go_wp2_with(first|(refine zN 4 ?_;(try(refine z4 ?_;dsimp only));refine zX 4 133 #[.string (⟨#[]⟩:ByteArray),.slice none 0 0,.string (⟨#[]⟩:ByteArray)] ?_;intro ar hg bP hbox hb;have hge:w5.heap.size≤ar:=(by rw[hg];exact qF HB);clear hg;have hst:Below w5.heap.size w5 (((bP.setCell ⟨ar,0,none⟩ (.string ((rd_T133 af ab).f0))).setCell ⟨ar,1,none⟩ (.slice aN ((rd_T133 af ab).f1).length aO)).setCell ⟨ar,2,none⟩ (.string ((rd_T133 af ab).f2))):=(qJ (qJ (qJ (zv HB hb) hge) hge) hge);have hbx:(((bP.setCell ⟨ar,0,none⟩ (.string ((rd_T133 af ab).f0))).setCell ⟨ar,1,none⟩ (.slice aN ((rd_T133 af ab).f1).length aO)).setCell ⟨ar,2,none⟩ (.string ((rd_T133 af ab).f2))).heap[ar]?=some (.cells #[.string ((rd_T133 af ab).f0),.slice aN ((rd_T133 af ab).f1).length aO,.string ((rd_T133 af ab).f2)] 133 (0,0)):=(yP hbox);obtain⟨bs,bu,bv,bw,bz,bA⟩:=zc3 hbox)|((with_reducible refine qQ (t:=133) (p:=4) rfl ?_);(try(refine z4 ?_;dsimp only));refine qN (t:=133) (p:=4) (v:=?cg) (w1:=(((bP.setCell ⟨ar,0,none⟩ (.string ((rd_T133 af ab).f0))).setCell ⟨ar,1,none⟩ (.slice aN ((rd_T133 af ab).f1).length aO)).setCell ⟨ar,2,none⟩ (.string ((rd_T133 af ab).f2)))) ?hg ?ho ?hn ?hr ?_;(case ho=>rfl);(case hg=>rfl);(case hn=>rfl);(case hr=>first|(go_simp;done)|(go_simp;rfl));intro bW hw;replace hst:=hst;rw[←hw] at hst hbx;clear hw hb hbox hge HB bs bw bu bz bv bA;replace HW:=zz (zv HW.out hst);replace ap:=zz (zv ap.out hst);replace am:=zz (Kd.qB am.out hst);replace ah:=zz (Kd.qB ah.out hst);replace an:=zz (Kd.qB an.out hst);replace ao:=zz (Kd.qB ao.out hst);replace aT:=zz (Kd.qB aT.out hst);replace ai:=qG ai hst;replace aj:=qG aj hst;replace ak:=qG ak hst;replace al:=qG al hst;replace aG:=qG aG hst;replace aH:=qG aH hst;replace aI:=qG aI hst;obtain⟨b3,b4,b5⟩:=zx3 hbx;have HB:=Below.refl bW.heap.size bW;clear hbx hst))
    refine(impl_pendingOk.calls a5 _ _ _ _ _ _ _ (Kd.qB aT.out HB) br.out (GOK.below HG.out (zv HW.out HB)) cf.out).mono ?_
    rintro e df ⟨rfl,hb⟩
    replace HB:=zv HB hb
    clear hb
    refine yT H ?_ ?_<;>clear H<;>rintro rfl H
    ·go_wp2_with(fail)
     go_roundg a5
     case measure=>have:=av.out;omega
     case rel=>exact⟨(wrap64 (ab+1)),zr,⟨H⟩,⟨by have:=av.out;omega⟩,⟨zv ap.out HB⟩⟩
    obtain rfl:=zi H
    exact yR
   go_wp2_with(fail)
   go_loopg[47] a5 (fun kq ch w'=>∃(ad:Int),ch= .int .i64 ad∧qC (impl_WorldOk.l1 kq ag (ag.length:Int) ad aC ac af ag=some r)∧qC (kq≤a5)∧qC (Below w5.heap.size w5 w'))
   case atStart=>exact⟨(0),zr,⟨H⟩,⟨Nat.le_refl _⟩,⟨HB⟩⟩
   case round=>
    clear H HB
    obtain⟨ad,rfl,H,aD,HB⟩:=hrel
    replace HB:=HB.out
    replace H:=H.out
    have az:=yB w5
    cases gk with
    |zero=>exact absurd H (by simp[impl_WorldOk.l1])
    |succ aU=>
     simp only[impl_WorldOk.l1] at H
     refine yD H ?_ ?_<;>clear H<;>intro cC H
     ·replace H:=yAD H
      obtain⟨cD,H⟩:=H
      replace H:=yAD H
      obtain⟨cE,H⟩:=H
      have cV:=yt (0≤(ad:Int))
      have cW:=yt ((ad:Int)<(ag.length:Int))
      obtain⟨cF,b6,aJ,aK⟩:=at_T134 ao.out ad z2 z2
      cases b6
      replace aJ:=qH aJ
      replace aK:=qH aK
      replace H:=yf H
      obtain⟨cX,ci,H⟩:=H
      go_wp2_with(first|(refine zN 6 ?_;(try(refine z4 ?_;dsimp only));refine zX 6 134 #[.string (⟨#[]⟩:ByteArray),.string (⟨#[]⟩:ByteArray)] ?_;intro aA hg bQ hbox hb;have hge:w5.heap.size≤aA:=(by rw[hg];exact qF HB);clear hg;have hst:Below w5.heap.size w5 ((bQ.setCell ⟨aA,0,none⟩ (.string ((rd_T134 ag ad).f0))).setCell ⟨aA,1,none⟩ (.string ((rd_T134 ag ad).f1))):=(qJ (qJ (zv HB hb) hge) hge);have hbx:((bQ.setCell ⟨aA,0,none⟩ (.string ((rd_T134 ag ad).f0))).setCell ⟨aA,1,none⟩ (.string ((rd_T134 ag ad).f1))).heap[aA]?=some (.cells #[.string ((rd_T134 ag ad).f0),.string ((rd_T134 ag ad).f1)] 134 (0,0)):=(yP hbox);obtain⟨bB,bC,bD,bE⟩:=zc2 hbox)|((with_reducible refine qQ (t:=134) (p:=6) rfl ?_);(try(refine z4 ?_;dsimp only));refine qN (t:=134) (p:=6) (v:=?cj) (w1:=((bQ.setCell ⟨aA,0,none⟩ (.string ((rd_T134 ag ad).f0))).setCell ⟨aA,1,none⟩ (.string ((rd_T134 ag ad).f1)))) ?hg ?ho ?hn ?hr ?_;(case ho=>rfl);(case hg=>rfl);(case hn=>rfl);(case hr=>first|(go_simp;done)|(go_simp;rfl));intro bX hw;replace hst:=hst;rw[←hw] at hst hbx;clear hw hb hbox hge HB bB bD bC bE;replace HW:=zz (zv HW.out hst);replace ap:=zz (zv ap.out hst);replace az:=zz (zv az.out hst);replace am:=zz (Kd.qB am.out hst);replace ah:=zz (Kd.qB ah.out hst);replace an:=zz (Kd.qB an.out hst);replace ao:=zz (Kd.qB ao.out hst);replace ai:=qG ai hst;replace aj:=qG aj hst;replace ak:=qG ak hst;replace al:=qG al hst;replace aJ:=qG aJ hst;replace aK:=qG aK hst;obtain⟨b7,b8⟩:=zx2 hbx;have HB:=Below.refl bX.heap.size bX;clear hbx hst))
      refine(impl_NameOk.calls aU _ _ _ ci.out).mono ?_
      rintro e dh ⟨rfl,hd⟩
      replace HB:=zv HB hd.below
      clear hd
      refine yF H ?_ ?_<;>clear H<;>rintro rfl H
      ·obtain rfl:=zi H
       exact yR
      replace H:=yf H
      obtain⟨cY,bY,H⟩:=H
      refine yT H ?_ ?_<;>clear H<;>rintro rfl H
      ·go_wp2_with(fail)
       refine(impl_AddressOk.calls aU _ _ _ bY.out).mono ?_
       rintro e di ⟨rfl,hd⟩
       replace HB:=zv HB hd.below
       clear hd
       go_wp2_with(fail)
       go_roundg aU
       case measure=>have:=av.out;have:=aD.out;omega
       case rel=>exact⟨(wrap64 (ad+1)),zr,⟨H⟩,⟨by have:=av.out;have:=aD.out;omega⟩,⟨zv az.out HB⟩⟩
      go_wp2_with(fail)
      refine(impl_AddressOk.calls aU _ _ _ bY.out).mono ?_
      rintro e dj ⟨rfl,hd⟩
      replace HB:=zv HB hd.below
      clear hd
      obtain rfl:=zi H
      exact yR
     go_wp2_with(fail)
     go_loopg[65] aU (fun kq ck w'=>∃(aa:Int),ck= .int .i64 aa∧qC (impl_WorldOk.l2 kq ac (ac.length:Int) aa aC ac af ag=some r)∧qC (kq≤aU)∧qC (Below w5.heap.size w5 w'))
     case atStart=>exact⟨(0),zr,⟨H⟩,⟨Nat.le_refl _⟩,⟨HB⟩⟩
     case round=>
      clear H HB
      obtain⟨aa,rfl,H,aP,HB⟩:=hrel
      replace HB:=HB.out
      replace H:=H.out
      have aF:=yB w5
      cases gk with
      |zero=>exact absurd H (by simp[impl_WorldOk.l2])
      |succ bR=>
       simp only[impl_WorldOk.l2] at H
       refine yDn H ?_ ?_<;>clear H<;>intro cG H
       ·obtain rfl:=zi H
        exact yR
       replace H:=yAD H
       obtain⟨cH,H⟩:=H
       replace H:=yAD H
       obtain⟨cI,H⟩:=H
       have cZ:=yt (0≤(aa:Int))
       have c5:=yt ((aa:Int)<(ac.length:Int))
       obtain⟨cJ,aQ,aR,b9,aw,ax,ay,a3,a4⟩:=at_T137 ah.out aa z2 z2
       cases b9
       replace aw:=qH aw
       replace ax:=qH ax
       replace ay:=qH ay
       have aE:=zz a4
       have cd:=zz a3
       clear a4 a3
       go_wp2_with(first|(refine zN 8 ?_;(try(refine z4 ?_;dsimp only));refine zX 8 137 #[.string (⟨#[]⟩:ByteArray),.int .i64 0,.slice none 0 0] ?_;intro au hg bS hbox hb;have hge:w5.heap.size≤au:=(by rw[hg];exact qF HB);clear hg;have hst:Below w5.heap.size w5 (((bS.setCell ⟨au,0,none⟩ (.string ((qD ac aa).f0))).setCell ⟨au,1,none⟩ (.int .i64 ((qD ac aa).f1))).setCell ⟨au,2,none⟩ (.slice aQ ((qD ac aa).f2).length aR)):=(qJ (qJ (qJ (zv HB hb) hge) hge) hge);have hbx:(((bS.setCell ⟨au,0,none⟩ (.string ((qD ac aa).f0))).setCell ⟨au,1,none⟩ (.int .i64 ((qD ac aa).f1))).setCell ⟨au,2,none⟩ (.slice aQ ((qD ac aa).f2).length aR)).heap[au]?=some (.cells #[.string ((qD ac aa).f0),.int .i64 ((qD ac aa).f1),.slice aQ ((qD ac aa).f2).length aR] 137 (0,0)):=(yP hbox);obtain⟨bF,bG,bH,bI,bJ,bK⟩:=zc3 hbox)|((with_reducible refine qQ (t:=137) (p:=8) rfl ?_);(try(refine z4 ?_;dsimp only));refine qN (t:=137) (p:=8) (v:=?cm) (w1:=(((bS.setCell ⟨au,0,none⟩ (.string ((qD ac aa).f0))).setCell ⟨au,1,none⟩ (.int .i64 ((qD ac aa).f1))).setCell ⟨au,2,none⟩ (.slice aQ ((qD ac aa).f2).length aR))) ?hg ?ho ?hn ?hr ?_;(case ho=>rfl);(case hg=>rfl);(case hn=>rfl);(case hr=>first|(go_simp;done)|(go_simp;rfl));intro aV hw;replace hst:=hst;rw[←hw] at hst hbx;clear hw hb hbox hge HB bF bI bG bJ bH bK;replace HW:=zz (zv HW.out hst);replace ap:=zz (zv ap.out hst);replace az:=zz (zv az.out hst);replace aF:=zz (zv aF.out hst);replace am:=zz (Kd.qB am.out hst);replace ah:=zz (Kd.qB ah.out hst);replace an:=zz (Kd.qB an.out hst);replace ao:=zz (Kd.qB ao.out hst);replace aE:=zz (Kd.qB aE.out hst);replace ai:=qG ai hst;replace aj:=qG aj hst;replace ak:=qG ak hst;replace al:=qG al hst;replace aw:=qG aw hst;replace ax:=qG ax hst;replace ay:=qG ay hst;obtain⟨aX,aY,aZ⟩:=zx3 hbx;have HB:=Below.refl aV.heap.size aV;clear hbx hst))
       go_loopg[72] bR (fun kq cn w'=>∃(ae:Int),cn= .int .i64 ae∧qC (impl_WorldOk.l3 kq ac (ac.length:Int) aa ((qD ac aa).f2) (((qD ac aa).f2).length:Int) ae aC ac af ag=some r)∧qC (kq≤bR)∧qC (Below aV.heap.size aV w'))
       case atStart=>exact⟨(0),zr,⟨H⟩,⟨Nat.le_refl _⟩,⟨HB⟩⟩
       case round=>
        clear H HB
        obtain⟨ae,rfl,H,aS,HB⟩:=hrel
        replace HB:=HB.out
        replace H:=H.out
        have a0:=yB aV
        cases gk with
        |zero=>exact absurd H (by simp[impl_WorldOk.l3])
        |succ be=>
         simp only[impl_WorldOk.l3] at H
         refine yDn H ?_ ?_<;>clear H<;>intro cK H
         ·go_wp2_with(fail)
          go_roundg be
          case measure=>have:=av.out;have:=aD.out;have:=aP.out;have:=aS.out;omega
          case rel=>exact⟨(wrap64 (aa+1)),zr,⟨H⟩,⟨by have:=av.out;have:=aD.out;have:=aP.out;have:=aS.out;omega⟩,⟨zv aF.out HB⟩⟩
         replace H:=yAD H
         obtain⟨cL,H⟩:=H
         replace H:=yAD H
         obtain⟨cM,H⟩:=H
         have c6:=yt (0≤(ae:Int))
         have c7:=yt ((ae:Int)<(((qD ac aa).f2).length:Int))
         obtain⟨cN,ca,aL,aM⟩:=at_T139 aE.out ae z2 z2
         cases ca
         replace aL:=qH aL
         replace aM:=qH aM
         replace H:=yf H
         obtain⟨c8,co,H⟩:=H
         go_wp2_with(first|(refine zN 10 ?_;(try(refine z4 ?_;dsimp only));refine zX 10 139 #[.int .i64 0,.string (⟨#[]⟩:ByteArray)] ?_;intro aB hg bT hbox hb;have hge:aV.heap.size≤aB:=(by rw[hg];exact qF HB);clear hg;have hst:Below aV.heap.size aV ((bT.setCell ⟨aB,0,none⟩ (.int .i64 ((qP ((qD ac aa).f2) ae).f0))).setCell ⟨aB,1,none⟩ (.string ((qP ((qD ac aa).f2) ae).f1))):=(qJ (qJ (zv HB hb) hge) hge);have hbx:((bT.setCell ⟨aB,0,none⟩ (.int .i64 ((qP ((qD ac aa).f2) ae).f0))).setCell ⟨aB,1,none⟩ (.string ((qP ((qD ac aa).f2) ae).f1))).heap[aB]?=some (.cells #[.int .i64 ((qP ((qD ac aa).f2) ae).f0),.string ((qP ((qD ac aa).f2) ae).f1)] 139 (0,0)):=(yP hbox);obtain⟨bL,bM,bN,bO⟩:=zc2 hbox)|((with_reducible refine qQ (t:=139) (p:=10) rfl ?_);(try(refine z4 ?_;dsimp only));refine qN (t:=139) (p:=10) (v:=?cp) (w1:=((bT.setCell ⟨aB,0,none⟩ (.int .i64 ((qP ((qD ac aa).f2) ae).f0))).setCell ⟨aB,1,none⟩ (.string ((qP ((qD ac aa).f2) ae).f1)))) ?hg ?ho ?hn ?hr ?_;(case ho=>rfl);(case hg=>rfl);(case hn=>rfl);(case hr=>first|(go_simp;done)|(go_simp;rfl));intro bZ hw;replace hst:=hst;rw[←hw] at hst hbx;clear hw hb hbox hge HB bL bN bM bO;replace HW:=zz (zv HW.out hst);replace ap:=zz (zv ap.out hst);replace az:=zz (zv az.out hst);replace aF:=zz (zv aF.out hst);replace a0:=zz (zv a0.out hst);replace am:=zz (Kd.qB am.out hst);replace ah:=zz (Kd.qB ah.out hst);replace an:=zz (Kd.qB an.out hst);replace ao:=zz (Kd.qB ao.out hst);replace aE:=zz (Kd.qB aE.out hst);replace ai:=qG ai hst;replace aj:=qG aj hst;replace ak:=qG ak hst;replace al:=qG al hst;replace aw:=qG aw hst;replace ax:=qG ax hst;replace ay:=qG ay hst;replace aX:=qG aX hst;replace aY:=qG aY hst;replace aZ:=qG aZ hst;replace aL:=qG aL hst;replace aM:=qG aM hst;obtain⟨cb,cc⟩:=zx2 hbx;have HB:=Below.refl bZ.heap.size bZ;clear hbx hst))
         refine(impl_itemOf.calls be _ _ _ _ _ _ (Kd.qB am.out HB) bo.out co.out).mono ?_
         rintro e dk ⟨rfl,hb⟩
         replace HB:=zv HB hb
         clear hb
         refine yD H ?_ ?_<;>clear H<;>intro cO H
         ·obtain rfl:=zi H
          exact yR
         go_wp2_with(fail)
         go_roundg be
         case measure=>have:=av.out;have:=aD.out;have:=aP.out;have:=aS.out;omega
         case rel=>exact⟨(wrap64 (ae+1)),zr,⟨H⟩,⟨by have:=av.out;have:=aD.out;have:=aP.out;have:=aS.out;omega⟩,⟨zv a0.out HB⟩⟩
def spec_l19Item.f(k:Nat)(a0:ByteArray)(l1:List (S87))(a2:ByteArray):Option (Bool):=(spec_AddressOk.f k a0).bind fun aa=>(if aa=true then((spec_TreeOk.f k l1).bind fun ab=>(if ab=true then(if a2.toList=([]:List UInt8) then(some true) else((spec_AddressOk.f k a2).bind fun ac=>(some ac))) else(some false))) else(some false))
theorem spec_l19Item.calls(k:Nat)(a0:ByteArray)(A1:Option Addr)(c1:Nat)(l1:List (S87))(a2:ByteArray)(r:Bool)(w:World)(ac:Kd.C k87 w A1 l1.length l1)(ad:l1.length≤c1)(h:spec_l19Item.f k a0 l1 a2=some r):
 Calls Tryz.prog 46 #[.string a0,.slice A1 l1.length c1,.string a2] w fun e w'=>e= .returned (.bool r)∧Below w.heap.size w w':=by
 have aa:=zz ac
 have ab:=zz ad
 clear ac ad
 have HB:=yB w
 unfold spec_l19Item.f at h
 have H:=h
 clear h
 replace HB:=HB.out
 have HW:=yB w
 go_enter Tryz.func46,Tryz.ntmps46
 replace H:=yf H
 obtain⟨ah,A4,H⟩:=H
 refine yF H ?_ ?_<;>clear H<;>rintro rfl H
 ·go_wp2_with(fail)
  refine(spec_AddressOk.calls k _ _ _ A4.out).mono ?_
  rintro e ak ⟨rfl,hd⟩
  replace HB:=zv HB hd.below
  clear hd
  obtain rfl:=zi H
  exact yR
 go_wp2_with(fail)
 refine(spec_AddressOk.calls k _ _ _ A4.out).mono ?_
 rintro e w6 ⟨rfl,hd⟩
 replace HB:=zv HB hd.below
 clear hd
 replace H:=yf H
 obtain⟨ai,A7,H⟩:=H
 refine yF H ?_ ?_<;>clear H<;>rintro rfl H
 ·go_wp2_with(fail)
  refine(spec_TreeOk.calls k _ _ _ _ _ (Kd.qB aa.out HB) ab.out A7.out).mono ?_
  rintro e al ⟨rfl,hb⟩
  replace HB:=zv HB hb
  clear hb
  obtain rfl:=zi H
  exact yR
 refine yC H ?_ ?_<;>clear H<;>intro c9 H
 ·obtain⟨ae,af⟩:=zq c9
  clear c9
  go_wp2_with(fail)
  refine(spec_TreeOk.calls k _ _ _ _ _ (Kd.qB aa.out HB) ab.out A7.out).mono ?_
  rintro e am ⟨rfl,hb⟩
  replace HB:=zv HB hb
  clear hb
  obtain rfl:=zi H
  exact yR
 obtain⟨ae,af⟩:=zw c9
 go_wp2_with(fail)
 refine(spec_TreeOk.calls k _ _ _ _ _ (Kd.qB aa.out HB) ab.out A7.out).mono ?_
 rintro e an ⟨rfl,hb⟩
 replace HB:=zv HB hb
 clear hb
 replace H:=yf H
 obtain⟨aj,ag,H⟩:=H
 go_wp2_with(fail)
 refine(spec_AddressOk.calls k _ _ _ ag.out).mono ?_
 rintro e ao ⟨rfl,hd⟩
 replace HB:=zv HB hd.below
 clear hd
 obtain rfl:=zi H
 exact yR
def spec_l12Find.l0:Nat→List (S103)→ByteArray→Int→Option (Int)
 |0,_,_,_=>none
 |k+1,x0,x1,x5=>if x5<(x0.length:Int) then(if 0≤x5 then(if((qE x0 x5).f0).toList=x1.toList then(some x5) else(spec_l12Find.l0 k x0 x1 (wrap64 (x5+1)))) else(none)) else(some (-1))
def spec_l12Find.f(k:Nat)(l0:List (S103))(a1:ByteArray):Option (Int):=spec_l12Find.l0 k l0 a1 0
theorem spec_l12Find.calls(k:Nat)(A0:Option Addr)(c0:Nat)(l0:List (S103))(a1:ByteArray)(r:Int)(w:World)(ax:Kd.C k103 w A0 l0.length l0)(ay:l0.length≤c0)(h:spec_l12Find.f k l0 a1=some r):
 Calls Tryz.prog 92 #[.slice A0 l0.length c0,.string a1] w fun e w'=>e= .returned (.int .i64 r)∧qV w w':=by
 have az:=zz ax
 have aH:=zz ay
 clear ax ay
 unfold spec_l12Find.f at h
 have H:=h
 clear h
 have H':=zz H
 clear H
 go_enter Tryz.func92,Tryz.ntmps92
 go_wp2
 go_loopg[5] k (fun kq v5 w'=>∃(aa:Int),v5= .int .i64 aa∧qC (spec_l12Find.l0 kq l0 a1 aa=some r)∧qC (kq≤k)∧qV w w')
 case atStart=>exact⟨(0),zr,H',⟨Nat.le_refl _⟩,yD0⟩
 case round=>
  clear H'
  try clear p2
  obtain⟨aa,rfl,HA,aA,⟨m1,rfl⟩⟩:=hrel
  cases gk with
  |zero=>exact absurd HA.out (by simp[spec_l12Find.l0])
  |succ k1=>
   have H:=HA.out
   clear HA
   simp only[spec_l12Find.l0] at H
   refine yDn H ?_ ?_<;>clear H<;>intro aF H
   ·obtain rfl:=zi H
    exact yr
   replace H:=yAD H
   obtain⟨aG,H⟩:=H
   refine yC H ?_ ?_<;>clear H<;>intro c5 H
   ·obtain⟨aB,aC⟩:=zq c5
    clear c5
    obtain rfl:=zi H
    have aD:=yt (0≤(aa:Int))
    have aE:=yt (aa<(l0.length:Int))
    obtain⟨aw,ap,ar,au,av,af,ag,ah,ai,aj,ak,ab,ac,ad,ae⟩:=at_T103 az.out aa z2 z2
    cases af
    have al:=zz ac
    have am:=zz ab
    clear ac ab
    have an:=zz ae
    have ao:=zz ad
    clear ae ad
    exact yr
   obtain⟨aB,aC⟩:=zw c5
   have H':=zz H
   clear H
   have aD:=yt (0≤(aa:Int))
   have aE:=yt (aa<(l0.length:Int))
   obtain⟨aw,ap,ar,au,av,af,ag,ah,ai,aj,ak,ab,ac,ad,ae⟩:=at_T103 az.out aa z2 z2
   cases af
   have al:=zz ac
   have am:=zz ab
   clear ac ab
   have an:=zz ae
   have ao:=zz ad
   clear ae ad
   go_wp2
   go_roundg k1
   case measure=>have:=aA.out;omega
   case rel=>exact⟨(wrap64 (aa+1)),zr,H',⟨by have:=aA.out;omega⟩,yD0⟩
mutual
def spec_WorldOk.l0:Nat→Int→List (S103)→List (S137)→List (S133)→List (S134)→Option (Bool)
 |0,_,_,_,_,_=>none
 |k+1,x3,ad,aa,ab,ac=>if x3<(ab.length:Int) then(if 0≤x3 then((spec_l19Item.f k ((rd_T133 ab x3).f0) ((rd_T133 ab x3).f1) ((rd_T133 ab x3).f2)).bind fun ae=>(if ae=true then(spec_WorldOk.l0 k (wrap64 (x3+1)) ad aa ab ac) else(some false))) else(none)) else(spec_WorldOk.l1 k 0 ad aa ab ac)
def spec_WorldOk.l1:Nat→Int→List (S103)→List (S137)→List (S133)→List (S134)→Option (Bool)
 |0,_,_,_,_,_=>none
 |k+1,x4,ad,aa,ab,ac=>if x4<(ac.length:Int) then(if 0≤x4 then((spec_NameOk.f k ((rd_T134 ac x4).f0)).bind fun af=>(if af=true then((spec_AddressOk.f k ((rd_T134 ac x4).f1)).bind fun ag=>(if ag=true then(spec_WorldOk.l1 k (wrap64 (x4+1)) ad aa ab ac) else(some false))) else(some false))) else(none)) else(spec_WorldOk.l2 k 0 ad aa ab ac)
def spec_WorldOk.l2:Nat→Int→List (S103)→List (S137)→List (S133)→List (S134)→Option (Bool)
 |0,_,_,_,_,_=>none
 |k+1,x5,ad,aa,ab,ac=>if x5<(aa.length:Int) then(spec_WorldOk.l3 k x5 0 ad aa ab ac) else(some true)
def spec_WorldOk.l3:Nat→Int→Int→List (S103)→List (S137)→List (S133)→List (S134)→Option (Bool)
 |0,_,_,_,_,_,_=>none
 |k+1,x5,x6,ad,aa,ab,ac=>if 0≤x5 then(if x5<(aa.length:Int) then(if x6<(((qD aa x5).f2).length:Int) then(if 0≤x6 then((spec_l12Find.f k ad ((qP ((qD aa x5).f2) x6).f1)).bind fun ah=>(if ah<0 then(some false) else(spec_WorldOk.l3 k x5 (wrap64 (x6+1)) ad aa ab ac))) else(none)) else(spec_WorldOk.l2 k (wrap64 (x5+1)) ad aa ab ac)) else(none)) else(none)
end
def spec_WorldOk.f(k:Nat)(aa:List (S103))(ab:List (S137))(ac:List (S133))(ad:List (S134)):Option (Bool):=(spec_StoreOk.f k aa).bind fun ae=>(if ae=true then((spec_ProfilesOk.f k ab).bind fun af=>(if af=true then(if(ac.length:Int)>20 then(some false) else(if(ad.length:Int)>20 then(some false) else(spec_WorldOk.l0 k 0 aa ab ac ad))) else(some false))) else(some false))
theorem spec_WorldOk.calls(k:Nat)(aO:Option Addr)(aP:Nat)(ai:List (S103))(aQ:Option Addr)(aR:Nat)(ah:List (S137))(aS:Option Addr)(aT:Nat)(ab:List (S133))(aU:Option Addr)(aV:Nat)(ac:List (S134))(r:Bool)(w:World)(aW:Kd.C k103 w aO ai.length ai)(aX:ai.length≤aP)(aY:Kd.C k137 w aQ ah.length ah)(aZ:ah.length≤aR)(a0:Kd.C k133 w aS ab.length ab)(a1:ab.length≤aT)(a2:Kd.C k134 w aU ac.length ac)(a3:ac.length≤aV)(h:spec_WorldOk.f k ai ah ab ac=some r):
 Calls Tryz.prog 45 #[.agg #[.slice aO ai.length aP,.slice aQ ah.length aR,.slice aS ab.length aT,.slice aU ac.length aV]] w fun e w'=>e= .returned (.bool r)∧Below w.heap.size w w':=by
 have bW:=Tryz.underlying38
 have am:=zz aW
 have aK:=zz aX
 clear aW aX
 have ak:=zz aY
 have ap:=zz aZ
 clear aY aZ
 have aL:=zz a0
 have bF:=zz a1
 clear a0 a1
 have aM:=zz a2
 have bG:=zz a3
 clear a2 a3
 have HB:=yB w
 unfold spec_WorldOk.f at h
 have H:=h
 clear h
 replace HB:=HB.out
 have HW:=yB w
 go_enter Tryz.func45,Tryz.ntmps45
 replace H:=yf H
 obtain⟨bX,A2,H⟩:=H
 go_wp2_with(first|(refine zN 1 ?_;(try(refine z4 ?_;dsimp only));refine zX 1 38 #[.slice aO ai.length aP,.slice aQ ah.length aR,.slice aS ab.length aT,.slice aU ac.length aV] ?_;intro bH hg w5 hbox hb;have hst:=zv HB hb;clear hg hb HB;replace HW:=zz (zv HW.out hst);replace am:=zz (Kd.qB am.out hst);replace ak:=zz (Kd.qB ak.out hst);replace aL:=zz (Kd.qB aL.out hst);replace aM:=zz (Kd.qB aM.out hst);obtain⟨bh,bi,bj,bk⟩:=zx4 hbox;have HB:=Below.refl w5.heap.size w5;clear hbox hst))
 refine(spec_StoreOk.calls k _ _ _ _ _ (Kd.qB am.out HB) aK.out A2.out).mono ?_
 rintro e w6 ⟨rfl,hb⟩
 replace HB:=zv HB hb
 clear hb
 refine yF H ?_ ?_<;>clear H<;>rintro rfl H
 ·obtain rfl:=zi H
  exact yR
 replace H:=yf H
 obtain⟨bY,A7,H⟩:=H
 refine yF H ?_ ?_<;>clear H<;>rintro rfl H
 ·go_wp2_with(fail)
  refine(spec_ProfilesOk.calls k _ _ _ _ _ (Kd.qB ak.out HB) ap.out A7.out).mono ?_
  rintro e cb ⟨rfl,hb⟩
  replace HB:=zv HB hb
  clear hb
  obtain rfl:=zi H
  exact yR
 refine yC H ?_ ?_<;>clear H<;>intro c9 H
 ·have bl:=zgt c9
  have bn:decide (20<ab.length)=true:=z1 (by omega)
  clear c9
  go_wp2_with(fail)
  refine(spec_ProfilesOk.calls k _ _ _ _ _ (Kd.qB ak.out HB) ap.out A7.out).mono ?_
  rintro e cc ⟨rfl,hb⟩
  replace HB:=zv HB hb
  clear hb
  obtain rfl:=zi H
  exact yR
 have bl:=zgtn c9
 have bn:decide (20<ab.length)=false:=z0 (by omega)
 clear c9
 refine yC H ?_ ?_<;>clear H<;>intro a4 H
 ·have bb:=zgt a4
  have bc:decide (20<ac.length)=true:=z1 (by omega)
  clear a4
  go_wp2_with(fail)
  refine(spec_ProfilesOk.calls k _ _ _ _ _ (Kd.qB ak.out HB) ap.out A7.out).mono ?_
  rintro e cd ⟨rfl,hb⟩
  replace HB:=zv HB hb
  clear hb
  obtain rfl:=zi H
  exact yR
 have bb:=zgtn a4
 have bc:decide (20<ac.length)=false:=z0 (by omega)
 clear a4
 go_wp2_with(fail)
 refine(spec_ProfilesOk.calls k _ _ _ _ _ (Kd.qB ak.out HB) ap.out A7.out).mono ?_
 rintro e ce ⟨rfl,hb⟩
 replace HB:=zv HB hb
 clear hb
 go_wp2_with(fail)
 go_loopg[3] k (fun kq v3 w'=>∃(ad:Int),v3= .int .i64 ad∧qC (spec_WorldOk.l0 kq ad ai ah ab ac=some r)∧qC (kq≤k)∧qC (Below w5.heap.size w5 w'))
 case atStart=>exact⟨(0),zr,⟨H⟩,⟨Nat.le_refl _⟩,⟨HB⟩⟩
 case round=>
  clear H HB
  obtain⟨ad,rfl,H,ag,HB⟩:=hrel
  replace HB:=HB.out
  replace H:=H.out
  have a6:=yB w5
  cases gk with
  |zero=>exact absurd H (by simp[spec_WorldOk.l0])
  |succ ar=>
   simp only[spec_WorldOk.l0] at H
   refine yD H ?_ ?_<;>clear H<;>intro bI H
   ·go_wp2_with(fail)
    try simp only[Act.put,List.setIfInBounds_toArray,List.set_cons_zero,List.set_cons_succ]
    refine qR (C:=fun W_=>Below w5.heap.size w5 W_) zk zk (qK HB) ?_
    replace H:=yAD H
    obtain⟨bJ,H⟩:=H
    have bZ:=yt (0≤(ad:Int))
    have b0:=yt ((ad:Int)<(ab.length:Int))
    obtain⟨bK,bv,bw,bo,au,av,aw,ax,ay⟩:=at_T133 aL.out ad z2 z2
    cases bo
    replace au:=qH au
    replace av:=qH av
    replace aw:=qH aw
    have az:=zz ay
    have aA:=zz ax
    clear ay ax
    replace H:=yf H
    obtain⟨b1,bd,H⟩:=H
    refine yT H ?_ ?_<;>clear H<;>rintro rfl H
    ·repeat(first|go_big_quiet_skip|(go_big_quiet_want;go_big_quiet_op;first|go_big_quiet_on|(with_reducible apply Exists.intro;refine⟨fun W hW=>?_,?_⟩;(first|with_reducible rfl|(go_at_call 46;exact vE (spec_l19Item.calls ar _ _ _ _ _ _ _ (Kd.qB az.out hW) aA.out bd.out) hW)|(go_simp;with_reducible rfl));go_big_quiet_on)))
     clear HB
     refine zW fun bz (HB:Below w5.heap.size w5 bz)=>?_
     go_wp2_with(fail)
     go_roundg ar
     case measure=>have:=ag.out;omega
     case rel=>exact⟨(wrap64 (ad+1)),zr,⟨H⟩,⟨by have:=ag.out;omega⟩,⟨zv a6.out HB⟩⟩
    obtain rfl:=zi H
    repeat(first|go_big_quiet_skip|(go_big_quiet_want;go_big_quiet_op;first|go_big_quiet_on|(with_reducible apply Exists.intro;refine⟨fun W hW=>?_,?_⟩;(first|with_reducible rfl|(go_at_call 46;exact vE (spec_l19Item.calls ar _ _ _ _ _ _ _ (Kd.qB az.out hW) aA.out bd.out) hW)|(go_simp;with_reducible rfl));go_big_quiet_on)))
    clear HB
    refine zW fun bA (HB:Below w5.heap.size w5 bA)=>?_
    exact yR
   go_wp2_with(fail)
   go_loopg[4] ar (fun kq v4 w'=>∃(ae:Int),v4= .int .i64 ae∧qC (spec_WorldOk.l1 kq ae ai ah ab ac=some r)∧qC (kq≤ar)∧qC (Below w5.heap.size w5 w'))
   case atStart=>exact⟨(0),zr,⟨H⟩,⟨Nat.le_refl _⟩,⟨HB⟩⟩
   case round=>
    clear H HB
    obtain⟨ae,rfl,H,aj,HB⟩:=hrel
    replace HB:=HB.out
    replace H:=H.out
    have a7:=yB w5
    cases gk with
    |zero=>exact absurd H (by simp[spec_WorldOk.l1])
    |succ al=>
     simp only[spec_WorldOk.l1] at H
     refine yD H ?_ ?_<;>clear H<;>intro bL H
     ·replace H:=yAD H
      obtain⟨bM,H⟩:=H
      have b2:=yt (0≤(ae:Int))
      have b3:=yt ((ae:Int)<(ac.length:Int))
      obtain⟨bN,bq,aB,aC⟩:=at_T134 aM.out ae z2 z2
      cases bq
      replace aB:=qH aB
      replace aC:=qH aC
      replace H:=yf H
      obtain⟨b4,be,H⟩:=H
      refine yF H ?_ ?_<;>clear H<;>rintro rfl H
      ·go_wp2_with(fail)
       refine(spec_NameOk.calls al _ _ _ be.out).mono ?_
       rintro e cf ⟨rfl,hd⟩
       replace HB:=zv HB hd.below
       clear hd
       obtain rfl:=zi H
       exact yR
      go_wp2_with(fail)
      refine(spec_NameOk.calls al _ _ _ be.out).mono ?_
      rintro e cg ⟨rfl,hd⟩
      replace HB:=zv HB hd.below
      clear hd
      replace H:=yf H
      obtain⟨b5,bf,H⟩:=H
      refine yT H ?_ ?_<;>clear H<;>rintro rfl H
      ·go_wp2_with(fail)
       refine(spec_AddressOk.calls al _ _ _ bf.out).mono ?_
       rintro e ch ⟨rfl,hd⟩
       replace HB:=zv HB hd.below
       clear hd
       go_wp2_with(fail)
       go_roundg al
       case measure=>have:=ag.out;have:=aj.out;omega
       case rel=>exact⟨(wrap64 (ae+1)),zr,⟨H⟩,⟨by have:=ag.out;have:=aj.out;omega⟩,⟨zv a7.out HB⟩⟩
      go_wp2_with(fail)
      refine(spec_AddressOk.calls al _ _ _ bf.out).mono ?_
      rintro e ci ⟨rfl,hd⟩
      replace HB:=zv HB hd.below
      clear hd
      obtain rfl:=zi H
      exact yR
     go_wp2_with(fail)
     go_loopg[5] al (fun kq v5 w'=>∃(aa:Int),v5= .int .i64 aa∧qC (spec_WorldOk.l2 kq aa ai ah ab ac=some r)∧qC (kq≤al)∧qC (Below w5.heap.size w5 w'))
     case atStart=>exact⟨(0),zr,⟨H⟩,⟨Nat.le_refl _⟩,⟨HB⟩⟩
     case round=>
      clear H HB
      obtain⟨aa,rfl,H,an,HB⟩:=hrel
      replace HB:=HB.out
      replace H:=H.out
      have a8:=yB w5
      cases gk with
      |zero=>exact absurd H (by simp[spec_WorldOk.l2])
      |succ a9=>
       simp only[spec_WorldOk.l2] at H
       refine yDn H ?_ ?_<;>clear H<;>intro bO H
       ·obtain rfl:=zi H
        exact yR
       go_wp2_with(fail)
       go_loopg[6] a9 (fun kq v6 w'=>∃(af:Int),v6= .int .i64 af∧qC (spec_WorldOk.l3 kq aa af ai ah ab ac=some r)∧qC (kq≤a9)∧qC (Below w5.heap.size w5 w'))
       case atStart=>exact⟨(0),zr,⟨H⟩,⟨Nat.le_refl _⟩,⟨HB⟩⟩
       case round=>
        clear H HB
        obtain⟨af,rfl,H,ao,HB⟩:=hrel
        replace HB:=HB.out
        replace H:=H.out
        have ba:=yB w5
        cases gk with
        |zero=>exact absurd H (by simp[spec_WorldOk.l3])
        |succ aN=>
         simp only[spec_WorldOk.l3] at H
         replace H:=yAD H
         obtain⟨bP,H⟩:=H
         replace H:=yAD H
         obtain⟨bQ,H⟩:=H
         have b6:=yt (0≤(aa:Int))
         have b7:=yt ((aa:Int)<(ah.length:Int))
         obtain⟨bR,bB,bC,br,aD,aE,aF,aG,aH⟩:=at_T137 ak.out aa z2 z2
         cases br
         replace aD:=qH aD
         replace aE:=qH aE
         replace aF:=qH aF
         have a5:=zz aH
         have bu:=zz aG
         clear aH aG
         refine yDn H ?_ ?_<;>clear H<;>intro bS H
         ·go_wp2_with(fail)
          go_roundg aN
          case measure=>have:=ag.out;have:=aj.out;have:=an.out;have:=ao.out;omega
          case rel=>exact⟨(wrap64 (aa+1)),zr,⟨H⟩,⟨by have:=ag.out;have:=aj.out;have:=an.out;have:=ao.out;omega⟩,⟨zv a8.out HB⟩⟩
         go_wp2_with(fail)
         try simp only[Act.put,List.setIfInBounds_toArray,List.set_cons_zero,List.set_cons_succ]
         refine qR (C:=fun W_=>Below w5.heap.size w5 W_) zk zk (qK HB) ?_
         replace H:=yAD H
         obtain⟨bT,H⟩:=H
         have b8:=yt (0≤(af:Int))
         have b9:=yt ((af:Int)<(((qD ah aa).f2).length:Int))
         obtain⟨bU,bs,aI,aJ⟩:=at_T139 a5.out af z2 z2
         cases bs
         replace aI:=qH aI
         replace aJ:=qH aJ
         replace H:=yf H
         obtain⟨ca,bg,H⟩:=H
         refine yD H ?_ ?_<;>clear H<;>intro bV H
         ·obtain rfl:=zi H
          repeat(first|go_big_quiet_skip|(go_big_quiet_want;go_big_quiet_op;first|go_big_quiet_on|(with_reducible apply Exists.intro;refine⟨fun W hW=>?_,?_⟩;(first|with_reducible rfl|(go_at_call 92;exact callD (spec_l12Find.calls aN _ _ _ _ _ _ (Kd.qB am.out hW) aK.out bg.out) hW)|(go_simp;with_reducible rfl));go_big_quiet_on)))
          clear HB
          refine zW fun bD (HB:Below w5.heap.size w5 bD)=>?_
          exact yR
         repeat(first|go_big_quiet_skip|(go_big_quiet_want;go_big_quiet_op;first|go_big_quiet_on|(with_reducible apply Exists.intro;refine⟨fun W hW=>?_,?_⟩;(first|with_reducible rfl|(go_at_call 92;exact callD (spec_l12Find.calls aN _ _ _ _ _ _ (Kd.qB am.out hW) aK.out bg.out) hW)|(go_simp;with_reducible rfl));go_big_quiet_on)))
         clear HB
         refine zW fun bE (HB:Below w5.heap.size w5 bE)=>?_
         go_wp2_with(fail)
         go_roundg aN
         case measure=>have:=ag.out;have:=aj.out;have:=an.out;have:=ao.out;omega
         case rel=>exact⟨(wrap64 (af+1)),zr,⟨H⟩,⟨by have:=ag.out;have:=aj.out;have:=an.out;have:=ao.out;omega⟩,⟨zv ba.out HB⟩⟩
end Go.Proofs.YtmdoobnlehkmpaaGreatDoor.Q
