import Derived.Test.YtgccknmddhbdgaaGreatDoorE04
namespace Go.Proofs.YtgccknmddhbdgaaGreatDoor.Q
open Go.RowKit W1 W2 W3
attribute [local go_sem] max2_int min2_int max_two min_two max_three min_three max_four min_four
attribute [local go_sem high] bl_leq bl_gtr bl_geq
set_option maxHeartbeats 8000000
set_option maxRecDepth 100000
def spec_l13Gen.l0:Nat->Int->Int->ByteArray->Int->List (S101)->Option (Int)
 |0,_,_,_,_,_=>none
 |k+1,x1,x5,ab,ac,aa=>if x5<(aa.length:Int) then(if 0<=x5 then(if((qN aa x5).f0)=x1 then(some x5) else(spec_l13Gen.l0 k x1 (wrap64 (x5+1)) ab ac aa)) else(none)) else(some (-1))
def spec_l13Gen.f(k:Nat)(aa:ByteArray)(ab:Int)(ac:List (S101))(a1:Int):Option (Int):=spec_l13Gen.l0 k a1 0 aa ab ac
theorem spec_l13Gen.calls(k:Nat)(ae:ByteArray)(af:Int)(ah:Option Addr)(ai:Nat)(ab:List (S101))(a1:Int)(r:Int)(w:World)(aj:Kd.C k101 w ah ab.length ab)(ak:ab.length<=ai)(H:spec_l13Gen.f k ae af ab a1=some r):
 Calls Tryz.prog 74 #[.agg #[.string ae,.int .i64 af,.slice ah ab.length ai],.int .i64 a1] w fun e w'=>e= .returned (.int .i64 r)/\Below w.heap.size w w':=by
 have aA:=Tryz.underlying99;have ag:=zz aj;have ax:=zz ak;clear aj ak;have HB:=yB w;unfold spec_l13Gen.f at H;replace HB:=HB.out;have HW:=yB w;go_enter Tryz.func74,Tryz.ntmps74;go_wp2_with(first|(refine zN 2 ?_;(try(refine z4 ?_;dsimp only));refine zX 2 99 #[.string ae,.int .i64 af,.slice ah ab.length ai] ?_;intro ay hg w4 hbox hb;have hst:=zv HB hb;clear hg hb HB;replace HW:=zz (zv HW.out hst);replace ag:=zz (Kd.qD ag.out hst);obtain⟨an,ao,ap⟩:=zx3 hbox;have HB:=Below.refl w4.heap.size w4;clear hbox hst))
 go_loopg[5] k (fun kq v5 w'=>∃(aa:Int),v5= .int .i64 aa/\qB (spec_l13Gen.l0 kq a1 aa ae af ab=some r)/\qB (kq<=k)/\qB (Below w4.heap.size w4 w'))
 case atStart=>exact⟨(0),zr,⟨H⟩,⟨Nat.le_refl _⟩,⟨HB⟩⟩
 case round=>
  clear H HB;obtain⟨aa,rfl,H,al,HB⟩:=hrel;replace HB:=HB.out;replace H:=H.out;have am:=yB w4;cases gk with
  |zero=>simp[spec_l13Gen.l0] at H
  |succ aw=>
   simp only[spec_l13Gen.l0] at H;refine yDn H ?_ ?_<;>clear H<;>intro aB H
   ·obtain rfl:=zi H;exact yR
   replace H:=yAD H;obtain⟨aC,H⟩:=H;have aD:=yt (0<=(aa:Int));have aE:=yt ((aa:Int)<(ab.length:Int));obtain⟨az,ar,ac,ad⟩:=at_T101 ag.out aa z2 z2;cases ar;replace ac:=qL ac;replace ad:=qL ad;refine yCn H ?_ ?_<;>clear H<;>intro c7 H
   ·obtain⟨au,av⟩:=zw c7;go_wp2_with(fail)
    go_roundg aw
    case measure=>exact yM1 al
    case rel=>exact⟨(wrap64 (aa+1)),zr,⟨H⟩,⟨yM1 al⟩,⟨zv am.out HB⟩⟩
   obtain⟨au,av⟩:=zq c7;clear c7;obtain rfl:=zi H;exact yR
mutual
def spec_ProfilesOk.l0:Nat->List (S99)->Int->Option (Bool)
 |0,_,_=>none
 |k+1,x0,x3=>if x3<(x0.length:Int) then(if 0<=x3 then((spec_NameOk.f k ((qF x0 x3).f0)).bind fun ad=>(if ad=true then(if x3>0 then(if 0<=(wrap64 (x3 - 1)) then(if(wrap64 (x3 - 1))<(x0.length:Int) then(if((Op.bytesLess (((qF x0 (wrap64 (x3 - 1))).f0).toList) (((qF x0 x3).f0).toList))=true) then(if(((qF x0 x3).f2).length:Int)>50 then(some false) else(if((qF x0 x3).f1)=0 then(spec_ProfilesOk.l1 k x0 x3 0 ((qF x0 x3).f0) ((qF x0 x3).f1) ((qF x0 x3).f2)) else((spec_l13Gen.f k ((qF x0 x3).f0) ((qF x0 x3).f1) ((qF x0 x3).f2) ((qF x0 x3).f1)).bind fun ae=>(if ae<0 then(some false) else(spec_ProfilesOk.l1 k x0 x3 0 ((qF x0 x3).f0) ((qF x0 x3).f1) ((qF x0 x3).f2)))))) else(some false)) else(none)) else(none)) else(if(((qF x0 x3).f2).length:Int)>50 then(some false) else(if((qF x0 x3).f1)=0 then(spec_ProfilesOk.l1 k x0 x3 0 ((qF x0 x3).f0) ((qF x0 x3).f1) ((qF x0 x3).f2)) else((spec_l13Gen.f k ((qF x0 x3).f0) ((qF x0 x3).f1) ((qF x0 x3).f2) ((qF x0 x3).f1)).bind fun af=>(if af<0 then(some false) else(spec_ProfilesOk.l1 k x0 x3 0 ((qF x0 x3).f0) ((qF x0 x3).f1) ((qF x0 x3).f2))))))) else(some false))) else(none)) else(some true)
def spec_ProfilesOk.l1:Nat->List (S99)->Int->Int->ByteArray->Int->List (S101)->Option (Bool)
 |0,_,_,_,_,_,_=>none
 |k+1,x0,x3,x5,ab,ac,aa=>if x5<(aa.length:Int) then(if 0<=x5 then(if((qN aa x5).f0)<1 then(some false) else(if((qN aa x5).f0)>9007199254740992 then(some false) else(if x5>0 then(if 0<=(wrap64 (x5 - 1)) then(if(wrap64 (x5 - 1))<(aa.length:Int) then(if((qN aa (wrap64 (x5 - 1))).f0)>=((qN aa x5).f0) then(some false) else((spec_AddressOk.f k ((qN aa x5).f1)).bind fun ag=>(if ag=true then(spec_ProfilesOk.l1 k x0 x3 (wrap64 (x5+1)) ab ac aa) else(some false)))) else(none)) else(none)) else((spec_AddressOk.f k ((qN aa x5).f1)).bind fun ah=>(if ah=true then(spec_ProfilesOk.l1 k x0 x3 (wrap64 (x5+1)) ab ac aa) else(some false)))))) else(none)) else(spec_ProfilesOk.l0 k x0 (wrap64 (x3+1)))
end
def spec_ProfilesOk.f(k:Nat)(l0:List (S99)):Option (Bool):=if(l0.length:Int)>20 then(some false) else(spec_ProfilesOk.l0 k l0 0)
theorem spec_ProfilesOk.calls(k:Nat)(A0:Option Addr)(c0:Nat)(l0:List (S99))(r:Bool)(w:World)(bY:Kd.C k99 w A0 l0.length l0)(bZ:l0.length<=c0)(H:spec_ProfilesOk.f k l0=some r):
 Calls Tryz.prog 46 #[.slice A0 l0.length c0] w fun e w'=>e= .returned (.bool r)/\Below w.heap.size w w':=by
 have di:=Tryz.underlying99;have cH:=Tryz.underlying101;have aL:=zz bY;have du:=zz bZ;clear bY bZ;have HB:=yB w;unfold spec_ProfilesOk.f at H;replace HB:=HB.out;have HW:=yB w;go_enter Tryz.func46,Tryz.ntmps46;refine yC H ?_ ?_<;>clear H<;>intro c2 H
 ·have b0:=zgt c2;have b1:decide (20<l0.length)=true:=z1 yo_;clear c2;obtain rfl:=zi H;exact yR
 have b0:=zgtn c2;have b1:decide (20<l0.length)=false:=z0 yo_;clear c2;go_wp2_with(fail)
 go_loopg[3] k (fun kq v3 w'=>∃(aa:Int),v3= .int .i64 aa/\qB (spec_ProfilesOk.l0 kq l0 aa=some r)/\qB (kq<=k)/\qB (Below w.heap.size w w'))
 case atStart=>exact⟨(0),zr,⟨H⟩,⟨Nat.le_refl _⟩,⟨HB⟩⟩
 case round=>
  clear H HB;obtain⟨aa,rfl,H,aj,HB⟩:=hrel;replace HB:=HB.out;replace H:=H.out;have ap:=yB w;cases gk with
  |zero=>simp[spec_ProfilesOk.l0] at H
  |succ aw=>
   simp only[spec_ProfilesOk.l0] at H;refine yDn H ?_ ?_<;>clear H<;>intro dj H
   ·obtain rfl:=zi H;exact yR
   replace H:=yAD H;obtain⟨dk,H⟩:=H;have dl:=yt (0<=(aa:Int));have dm:=yt ((aa:Int)<(l0.length:Int));obtain⟨bN,aV,aW,b2,ak,al,am,bd,be⟩:=at_T99 aL.out aa z2 z2;cases b2;replace ak:=qL ak;replace al:=qL al;replace am:=qL am;have ac:=zz be;have aO:=zz bd;clear be bd;go_wp2_with(first|(refine zN 4 ?_;(try(refine z4 ?_;dsimp only));refine zX 4 99 #[.string (⟨#[]⟩:ByteArray),.int .i64 0,.slice none 0 0] ?_;intro ax hg w6 hbox hb;have hge:w.heap.size<=ax:=(by rw[hg];exact qE HB);clear hg;have hst:Below w.heap.size w (((w6.setCell ⟨ax,0,none⟩ (.string ((qF l0 aa).f0))).setCell ⟨ax,1,none⟩ (.int .i64 ((qF l0 aa).f1))).setCell ⟨ax,2,none⟩ (.slice aV ((qF l0 aa).f2).length aW)):=(qJ (qJ (qJ (zv HB hb) hge) hge) hge);have hbx:(((w6.setCell ⟨ax,0,none⟩ (.string ((qF l0 aa).f0))).setCell ⟨ax,1,none⟩ (.int .i64 ((qF l0 aa).f1))).setCell ⟨ax,2,none⟩ (.slice aV ((qF l0 aa).f2).length aW)).heap[ax]?=some (.cells #[.string ((qF l0 aa).f0),.int .i64 ((qF l0 aa).f1),.slice aV ((qF l0 aa).f2).length aW] 99 (0,0)):=(yP hbox);obtain⟨bA,bB,bC,bD,bE,bF⟩:=zc3 hbox)|((with_reducible refine qR (t:=99) (p:=4) rfl ?_);(try(refine z4 ?_;dsimp only));refine ye 99 4 (((w6.setCell ⟨ax,0,none⟩ (.string ((qF l0 aa).f0))).setCell ⟨ax,1,none⟩ (.int .i64 ((qF l0 aa).f1))).setCell ⟨ax,2,none⟩ (.slice aV ((qF l0 aa).f2).length aW)) ?_;intro w7 hw;replace hst:=hst;rw[<-hw] at hst hbx;clear hw hb hbox hge HB bA bD bB bE bC bF;replace HW:=zz (zv HW.out hst);replace ap:=zz (zv ap.out hst);replace aL:=zz (Kd.qD aL.out hst);replace ac:=zz (Kd.qD ac.out hst);replace ak:=qG ak hst;replace al:=qG al hst;replace am:=qG am hst;obtain⟨ar,au,av⟩:=zx3 hbx;have HB:=Below.refl w7.heap.size w7;clear hbx hst))
   try simp only[Act.put,List.setIfInBounds_toArray,List.set_cons_zero,List.set_cons_succ]
   refine qT (C:=fun W_=>Below w7.heap.size w7 W_) zk zk (qK HB) ?_;replace H:=yf H;obtain⟨dn,A8,H⟩:=H;refine yF H ?_ ?_<;>clear H<;>rintro rfl H
   ·obtain rfl:=zi H;repeat(first|go_big_quiet_skip|(go_big_quiet_want;go_big_quiet_op;first|go_big_quiet_on|(apply zU;intro W hW;(first|with_reducible rfl|(go_at_call 48;exact callD (spec_NameOk.calls aw _ _ _ A8.out) hW)|(go_simp;with_reducible rfl));go_big_quiet_on)))
    exact yW
   refine yGn H ?_ ?_<;>clear H<;>intro cI H
   ·refine yC H ?_ ?_<;>clear H<;>intro bv H
    ·have bO:=zgt bv;have bP:decide (50<((qF l0 aa).f2).length)=true:=z1 yo_;clear bv;obtain rfl:=zi H;repeat(first|go_big_quiet_skip|(go_big_quiet_want;go_big_quiet_op;first|go_big_quiet_on|(apply zU;intro W hW;(first|with_reducible rfl|(go_at_call 48;exact callD (spec_NameOk.calls aw _ _ _ A8.out) hW)|(go_simp;with_reducible rfl));go_big_quiet_on)))
     exact yW
    have bO:=zgtn bv;have bP:decide (50<((qF l0 aa).f2).length)=false:=z0 yo_;clear bv;refine yCn H ?_ ?_<;>clear H<;>intro bG H
    ·obtain⟨bQ,bR⟩:=zw bG;replace H:=yf H;obtain⟨dp,bH,H⟩:=H;refine yD H ?_ ?_<;>clear H<;>intro cJ H
     ·obtain rfl:=zi H;repeat(first|go_big_quiet_skip|(go_big_quiet_want;go_big_quiet_op;first|go_big_quiet_on|(apply zU;intro W hW;(first|with_reducible rfl|(go_at_call 48;exact callD (spec_NameOk.calls aw _ _ _ A8.out) hW)|(go_at_call 74;exact callB (spec_l13Gen.calls aw _ _ _ _ _ _ _ _ (Kd.qD ac.out hW) aO.out bH.out) hW)|(go_simp;with_reducible rfl));go_big_quiet_on)))
      exact yW
     repeat(first|go_big_quiet_skip|(go_big_quiet_want;go_big_quiet_op;first|go_big_quiet_on|(apply zU;intro W hW;(first|with_reducible rfl|(go_at_call 48;exact callD (spec_NameOk.calls aw _ _ _ A8.out) hW)|(go_at_call 74;exact callB (spec_l13Gen.calls aw _ _ _ _ _ _ _ _ (Kd.qD ac.out hW) aO.out bH.out) hW)|(go_simp;with_reducible rfl));go_big_quiet_on)))
     clear HB;refine zW fun b3 (HB:Below w7.heap.size w7 b3)=>?_;go_wp2_with(fail)
     go_loopg[5] aw (fun kq v5 w'=>∃(ad:Int),v5= .int .i64 ad/\qB (spec_ProfilesOk.l1 kq l0 aa ad ((qF l0 aa).f0) ((qF l0 aa).f1) ((qF l0 aa).f2)=some r)/\qB (kq<=aw)/\qB (Below w7.heap.size w7 w'))
     case atStart=>exact⟨(0),zr,⟨H⟩,⟨Nat.le_refl _⟩,⟨HB⟩⟩
     case round=>
      clear H HB;obtain⟨ad,rfl,H,aC,HB⟩:=hrel;replace HB:=HB.out;replace H:=H.out;have aP:=yB w7;cases gk with
      |zero=>simp[spec_ProfilesOk.l1] at H
      |succ aX=>
       simp only[spec_ProfilesOk.l1] at H;refine yDn H ?_ ?_<;>clear H<;>intro cb H
       ·go_wp2_with(fail)
        go_roundg aX
        case measure=>exact yM2 aj aC
        case rel=>exact⟨(wrap64 (aa+1)),zr,⟨H⟩,⟨yM2 aj aC⟩,⟨zv ap.out HB⟩⟩
       replace H:=yAD H;obtain⟨cc,H⟩:=H;have bk:=yt (0<=(ad:Int));have bn:=yt ((ad:Int)<(((qF l0 aa).f2).length:Int));obtain⟨aJ,aR,ae,af⟩:=at_T101 ac.out ad z2 z2;cases aR;replace ae:=qL ae;replace af:=qL af;go_wp2_with(first|(refine zN 6 ?_;(try(refine z4 ?_;dsimp only));refine zX 6 101 #[.int .i64 0,.string (⟨#[]⟩:ByteArray)] ?_;intro ab hg bo hbox hb;have hge:w7.heap.size<=ab:=(by rw[hg];exact qE HB);clear hg;have hst:Below w7.heap.size w7 ((bo.setCell ⟨ab,0,none⟩ (.int .i64 ((qN ((qF l0 aa).f2) ad).f0))).setCell ⟨ab,1,none⟩ (.string ((qN ((qF l0 aa).f2) ad).f1))):=(qJ (qJ (zv HB hb) hge) hge);have hbx:((bo.setCell ⟨ab,0,none⟩ (.int .i64 ((qN ((qF l0 aa).f2) ad).f0))).setCell ⟨ab,1,none⟩ (.string ((qN ((qF l0 aa).f2) ad).f1))).heap[ab]?=some (.cells #[.int .i64 ((qN ((qF l0 aa).f2) ad).f0),.string ((qN ((qF l0 aa).f2) ad).f1)] 101 (0,0)):=(yP hbox);obtain⟨ay,az,aA,aB⟩:=zc2 hbox)|((with_reducible refine qR (t:=101) (p:=6) rfl ?_);(try(refine z4 ?_;dsimp only));refine ye 101 6 ((bo.setCell ⟨ab,0,none⟩ (.int .i64 ((qN ((qF l0 aa).f2) ad).f0))).setCell ⟨ab,1,none⟩ (.string ((qN ((qF l0 aa).f2) ad).f1))) ?_;intro aM hw;replace hst:=hst;rw[<-hw] at hst hbx;clear hw hb hbox hge HB ay aA az aB;replace HW:=zz (zv HW.out hst);replace ap:=zz (zv ap.out hst);replace aP:=zz (zv aP.out hst);replace aL:=zz (Kd.qD aL.out hst);replace ac:=zz (Kd.qD ac.out hst);replace ak:=qG ak hst;replace al:=qG al hst;replace am:=qG am hst;replace ar:=qG ar hst;replace au:=qG au hst;replace av:=qG av hst;replace ae:=qG ae hst;replace af:=qG af hst;obtain⟨aS,aT⟩:=zx2 hbx;have HB:=Below.refl aM.heap.size aM;clear hbx hst))
       try simp only[Act.put,List.setIfInBounds_toArray,List.set_cons_zero,List.set_cons_succ]
       refine qT (C:=fun W_=>Below aM.heap.size aM W_) zk zk (qK HB) ?_;refine yD H ?_ ?_<;>clear H<;>intro cd H
       ·obtain rfl:=zi H;exact yQ
       refine yG H ?_ ?_<;>clear H<;>intro ce H
       ·obtain rfl:=zi H;exact yQ
       refine yGn H ?_ ?_<;>clear H<;>intro cf H
       ·replace H:=yf H;obtain⟨bq,b4,H⟩:=H;repeat(first|go_big_quiet_skip|(go_big_quiet_want;go_big_quiet_op;first|go_big_quiet_on|(apply zU;intro W hW;(first|with_reducible rfl|(go_at_call 49;exact callD (spec_AddressOk.calls aX _ _ _ b4.out) hW)|(go_simp;with_reducible rfl));go_big_quiet_on)))
        clear HB;refine zW fun b5 (HB:Below aM.heap.size aM b5)=>?_;refine yT H ?_ ?_<;>clear H<;>rintro rfl H
        ·go_wp2_with(fail)
         go_roundg aX
         case measure=>exact yM2 aj aC
         case rel=>exact⟨(wrap64 (ad+1)),zr,⟨H⟩,⟨yM2 aj aC⟩,⟨zv aP.out HB⟩⟩
        obtain rfl:=zi H;exact yR
       obtain⟨a6,aN⟩:∃j_:Int,(wrap64 (ad - 1))=j_:=⟨_,rfl⟩
       (first|rw[aN] at H|simp only[aN] at H)
       have b9:(IntKind.i64.wrap (ad - 1))=a6:=(i64_w _).trans aN
       (try rw[aN] at A8)
       (try rw[aN] at bH)
       replace H:=yAD H;obtain⟨cg,H⟩:=H;replace H:=yAD H;obtain⟨ch,H⟩:=H;have br:=yt (0<=((a6):Int));have bs:=yt (((a6):Int)<(((qF l0 aa).f2).length:Int));obtain⟨aK,aU,an,ao⟩:=at_T101 ac.out (a6) z2 z2;obtain rfl:aJ=aK:=(by injection aU)
       replace an:=qL an;replace ao:=qL ao;refine yE H ?_ ?_<;>clear H<;>intro ci H
       ·obtain rfl:=zi H;exact yQ
       replace H:=yf H;obtain⟨bu,b6,H⟩:=H;repeat(first|go_big_quiet_skip|(go_big_quiet_want;go_big_quiet_op;first|go_big_quiet_on|(apply zU;intro W hW;(first|with_reducible rfl|(go_at_call 49;exact callD (spec_AddressOk.calls aX _ _ _ b6.out) hW)|(go_simp;with_reducible rfl));go_big_quiet_on)))
       clear HB;refine zW fun b7 (HB:Below aM.heap.size aM b7)=>?_;refine yT H ?_ ?_<;>clear H<;>rintro rfl H
       ·go_wp2_with(fail)
        go_roundg aX
        case measure=>exact yM2 aj aC
        case rel=>exact⟨(wrap64 (ad+1)),zr,⟨H⟩,⟨yM2 aj aC⟩,⟨zv aP.out HB⟩⟩
       obtain rfl:=zi H;exact yR
    obtain⟨bQ,bR⟩:=zq bG;clear bG;repeat(first|go_big_quiet_skip|(go_big_quiet_want;go_big_quiet_op;first|go_big_quiet_on|(apply zU;intro W hW;(first|with_reducible rfl|(go_at_call 48;exact callD (spec_NameOk.calls aw _ _ _ A8.out) hW)|(go_simp;with_reducible rfl));go_big_quiet_on)))
    clear HB;refine zW fun cj (HB:Below w7.heap.size w7 cj)=>?_;go_wp2_with(fail)
    go_loopg[5] aw (fun kq v5 w'=>∃(ag:Int),v5= .int .i64 ag/\qB (spec_ProfilesOk.l1 kq l0 aa ag ((qF l0 aa).f0) ((qF l0 aa).f1) ((qF l0 aa).f2)=some r)/\qB (kq<=aw)/\qB (Below w7.heap.size w7 w'))
    case atStart=>exact⟨(0),zr,⟨H⟩,⟨Nat.le_refl _⟩,⟨HB⟩⟩
    case round=>
     clear H HB;obtain⟨ag,rfl,H,aG,HB⟩:=hrel;replace HB:=HB.out;replace H:=H.out;have aY:=yB w7;cases gk with
     |zero=>simp[spec_ProfilesOk.l1] at H
     |succ ba=>
      simp only[spec_ProfilesOk.l1] at H;refine yDn H ?_ ?_<;>clear H<;>intro cK H
      ·go_wp2_with(fail)
       go_roundg ba
       case measure=>exact yM2 aj aG
       case rel=>exact⟨(wrap64 (aa+1)),zr,⟨H⟩,⟨yM2 aj aG⟩,⟨zv ap.out HB⟩⟩
      replace H:=yAD H;obtain⟨cL,H⟩:=H;have bk:=yt (0<=(ag:Int));have bn:=yt ((ag:Int)<(((qF l0 aa).f2).length:Int));obtain⟨aJ,aR,ae,af⟩:=at_T101 ac.out ag z2 z2;cases aR;replace ae:=qL ae;replace af:=qL af;go_wp2_with(first|(refine zN 6 ?_;(try(refine z4 ?_;dsimp only));refine zX 6 101 #[.int .i64 0,.string (⟨#[]⟩:ByteArray)] ?_;intro ab hg bI hbox hb;have hge:w7.heap.size<=ab:=(by rw[hg];exact qE HB);clear hg;have hst:Below w7.heap.size w7 ((bI.setCell ⟨ab,0,none⟩ (.int .i64 ((qN ((qF l0 aa).f2) ag).f0))).setCell ⟨ab,1,none⟩ (.string ((qN ((qF l0 aa).f2) ag).f1))):=(qJ (qJ (zv HB hb) hge) hge);have hbx:((bI.setCell ⟨ab,0,none⟩ (.int .i64 ((qN ((qF l0 aa).f2) ag).f0))).setCell ⟨ab,1,none⟩ (.string ((qN ((qF l0 aa).f2) ag).f1))).heap[ab]?=some (.cells #[.int .i64 ((qN ((qF l0 aa).f2) ag).f0),.string ((qN ((qF l0 aa).f2) ag).f1)] 101 (0,0)):=(yP hbox);obtain⟨ay,az,aA,aB⟩:=zc2 hbox)|((with_reducible refine qR (t:=101) (p:=6) rfl ?_);(try(refine z4 ?_;dsimp only));refine ye 101 6 ((bI.setCell ⟨ab,0,none⟩ (.int .i64 ((qN ((qF l0 aa).f2) ag).f0))).setCell ⟨ab,1,none⟩ (.string ((qN ((qF l0 aa).f2) ag).f1))) ?_;intro a3 hw;replace hst:=hst;rw[<-hw] at hst hbx;clear hw hb hbox hge HB ay aA az aB;replace HW:=zz (zv HW.out hst);replace ap:=zz (zv ap.out hst);replace aY:=zz (zv aY.out hst);replace aL:=zz (Kd.qD aL.out hst);replace ac:=zz (Kd.qD ac.out hst);replace ak:=qG ak hst;replace al:=qG al hst;replace am:=qG am hst;replace ar:=qG ar hst;replace au:=qG au hst;replace av:=qG av hst;replace ae:=qG ae hst;replace af:=qG af hst;obtain⟨aS,aT⟩:=zx2 hbx;have HB:=Below.refl a3.heap.size a3;clear hbx hst))
      try simp only[Act.put,List.setIfInBounds_toArray,List.set_cons_zero,List.set_cons_succ]
      refine qT (C:=fun W_=>Below a3.heap.size a3 W_) zk zk (qK HB) ?_;refine yD H ?_ ?_<;>clear H<;>intro cM H
      ·obtain rfl:=zi H;exact yQ
      refine yG H ?_ ?_<;>clear H<;>intro cN H
      ·obtain rfl:=zi H;exact yQ
      refine yG H ?_ ?_<;>clear H<;>intro cO H
      ·obtain⟨bh,a7⟩:∃j_:Int,(wrap64 (ag - 1))=j_:=⟨_,rfl⟩
       (first|rw[a7] at H|simp only[a7] at H)
       have ck:(IntKind.i64.wrap (ag - 1))=bh:=(i64_w _).trans a7
       (try rw[a7] at A8)
       replace H:=yAD H;obtain⟨cP,H⟩:=H;replace H:=yAD H;obtain⟨cQ,H⟩:=H;have br:=yt (0<=((bh):Int));have bs:=yt (((bh):Int)<(((qF l0 aa).f2).length:Int));obtain⟨aK,aU,an,ao⟩:=at_T101 ac.out (bh) z2 z2;obtain rfl:aJ=aK:=(by injection aU)
       replace an:=qL an;replace ao:=qL ao;refine yE H ?_ ?_<;>clear H<;>intro cR H
       ·obtain rfl:=zi H;exact yQ
       replace H:=yf H;obtain⟨bu,cm,H⟩:=H;repeat(first|go_big_quiet_skip|(go_big_quiet_want;go_big_quiet_op;first|go_big_quiet_on|(apply zU;intro W hW;(first|with_reducible rfl|(go_at_call 49;exact callD (spec_AddressOk.calls ba _ _ _ cm.out) hW)|(go_simp;with_reducible rfl));go_big_quiet_on)))
       clear HB;refine zW fun cn (HB:Below a3.heap.size a3 cn)=>?_;refine yT H ?_ ?_<;>clear H<;>rintro rfl H
       ·go_wp2_with(fail)
        go_roundg ba
        case measure=>exact yM2 aj aG
        case rel=>exact⟨(wrap64 (ag+1)),zr,⟨H⟩,⟨yM2 aj aG⟩,⟨zv aY.out HB⟩⟩
       obtain rfl:=zi H;exact yR
      replace H:=yf H;obtain⟨bq,co,H⟩:=H;repeat(first|go_big_quiet_skip|(go_big_quiet_want;go_big_quiet_op;first|go_big_quiet_on|(apply zU;intro W hW;(first|with_reducible rfl|(go_at_call 49;exact callD (spec_AddressOk.calls ba _ _ _ co.out) hW)|(go_simp;with_reducible rfl));go_big_quiet_on)))
      clear HB;refine zW fun cp (HB:Below a3.heap.size a3 cp)=>?_;refine yT H ?_ ?_<;>clear H<;>rintro rfl H
      ·go_wp2_with(fail)
       go_roundg ba
       case measure=>exact yM2 aj aG
       case rel=>exact⟨(wrap64 (ag+1)),zr,⟨H⟩,⟨yM2 aj aG⟩,⟨zv aY.out HB⟩⟩
      obtain rfl:=zi H;exact yR
   obtain⟨a2,a8⟩:∃j_:Int,(wrap64 (aa - 1))=j_:=⟨_,rfl⟩
   (first|rw[a8] at H|simp only[a8] at H)
   have cq:(IntKind.i64.wrap (aa - 1))=a2:=(i64_w _).trans a8
   (try rw[a8] at A8)
   replace H:=yAD H;obtain⟨cS,H⟩:=H;replace H:=yAD H;obtain⟨cT,H⟩:=H;have dq:=yt (0<=((a2):Int));have dr:=yt (((a2):Int)<(l0.length:Int));obtain⟨bS,cr,cu,b8,aD,aE,aF,bf,bg⟩:=at_T99 aL.out (a2) z2 z2;obtain rfl:bN=bS:=(by injection b8)
   replace aD:=qL aD;replace aE:=qL aE;replace aF:=qL aF;have aQ:=zz bg;have ca:=zz bf;clear bg bf;refine yCn H ?_ ?_<;>clear H<;>intro bw H
   ·have bT:(Op.bytesLess (((qF l0 (a2)).f0).toList) (((qF l0 aa).f0).toList))=false:=by simpa using bw
    clear bw;obtain rfl:=zi H;repeat(first|go_big_quiet_skip|(go_big_quiet_want;go_big_quiet_op;first|go_big_quiet_on|(apply zU;intro W hW;(first|with_reducible rfl|(go_at_call 48;exact callD (spec_NameOk.calls aw _ _ _ A8.out) hW)|(go_simp;with_reducible rfl));go_big_quiet_on)))
    exact yW
   have bT:(Op.bytesLess (((qF l0 (a2)).f0).toList) (((qF l0 aa).f0).toList))=true:=bw;clear bw;refine yC H ?_ ?_<;>clear H<;>intro bz H
   ·have bU:=zgt bz;have bV:decide (50<((qF l0 aa).f2).length)=true:=z1 yo_;clear bz;obtain rfl:=zi H;repeat(first|go_big_quiet_skip|(go_big_quiet_want;go_big_quiet_op;first|go_big_quiet_on|(apply zU;intro W hW;(first|with_reducible rfl|(go_at_call 48;exact callD (spec_NameOk.calls aw _ _ _ A8.out) hW)|(go_simp;with_reducible rfl));go_big_quiet_on)))
    exact yW
   have bU:=zgtn bz;have bV:decide (50<((qF l0 aa).f2).length)=false:=z0 yo_;clear bz;refine yCn H ?_ ?_<;>clear H<;>intro bJ H
   ·obtain⟨bW,bX⟩:=zw bJ;replace H:=yf H;obtain⟨dt,bK,H⟩:=H;refine yD H ?_ ?_<;>clear H<;>intro cU H
    ·obtain rfl:=zi H;repeat(first|go_big_quiet_skip|(go_big_quiet_want;go_big_quiet_op;first|go_big_quiet_on|(apply zU;intro W hW;(first|with_reducible rfl|(go_at_call 48;exact callD (spec_NameOk.calls aw _ _ _ A8.out) hW)|(go_at_call 74;exact callB (spec_l13Gen.calls aw _ _ _ _ _ _ _ _ (Kd.qD ac.out hW) aO.out bK.out) hW)|(go_simp;with_reducible rfl));go_big_quiet_on)))
     exact yW
    repeat(first|go_big_quiet_skip|(go_big_quiet_want;go_big_quiet_op;first|go_big_quiet_on|(apply zU;intro W hW;(first|with_reducible rfl|(go_at_call 48;exact callD (spec_NameOk.calls aw _ _ _ A8.out) hW)|(go_at_call 74;exact callB (spec_l13Gen.calls aw _ _ _ _ _ _ _ _ (Kd.qD ac.out hW) aO.out bK.out) hW)|(go_simp;with_reducible rfl));go_big_quiet_on)))
    clear HB;refine zW fun cv (HB:Below w7.heap.size w7 cv)=>?_;go_wp2_with(fail)
    go_loopg[5] aw (fun kq v5 w'=>∃(ah:Int),v5= .int .i64 ah/\qB (spec_ProfilesOk.l1 kq l0 aa ah ((qF l0 aa).f0) ((qF l0 aa).f1) ((qF l0 aa).f2)=some r)/\qB (kq<=aw)/\qB (Below w7.heap.size w7 w'))
    case atStart=>exact⟨(0),zr,⟨H⟩,⟨Nat.le_refl _⟩,⟨HB⟩⟩
    case round=>
     clear H HB;obtain⟨ah,rfl,H,aH,HB⟩:=hrel;replace HB:=HB.out;replace H:=H.out;have aZ:=yB w7;cases gk with
     |zero=>simp[spec_ProfilesOk.l1] at H
     |succ bb=>
      simp only[spec_ProfilesOk.l1] at H;refine yDn H ?_ ?_<;>clear H<;>intro cV H
      ·go_wp2_with(fail)
       go_roundg bb
       case measure=>exact yM2 aj aH
       case rel=>exact⟨(wrap64 (aa+1)),zr,⟨H⟩,⟨yM2 aj aH⟩,⟨zv ap.out HB⟩⟩
      replace H:=yAD H;obtain⟨cW,H⟩:=H;have bk:=yt (0<=(ah:Int));have bn:=yt ((ah:Int)<(((qF l0 aa).f2).length:Int));obtain⟨aJ,aR,ae,af⟩:=at_T101 ac.out ah z2 z2;cases aR;replace ae:=qL ae;replace af:=qL af;go_wp2_with(first|(refine zN 6 ?_;(try(refine z4 ?_;dsimp only));refine zX 6 101 #[.int .i64 0,.string (⟨#[]⟩:ByteArray)] ?_;intro ab hg bL hbox hb;have hge:w7.heap.size<=ab:=(by rw[hg];exact qE HB);clear hg;have hst:Below w7.heap.size w7 ((bL.setCell ⟨ab,0,none⟩ (.int .i64 ((qN ((qF l0 aa).f2) ah).f0))).setCell ⟨ab,1,none⟩ (.string ((qN ((qF l0 aa).f2) ah).f1))):=(qJ (qJ (zv HB hb) hge) hge);have hbx:((bL.setCell ⟨ab,0,none⟩ (.int .i64 ((qN ((qF l0 aa).f2) ah).f0))).setCell ⟨ab,1,none⟩ (.string ((qN ((qF l0 aa).f2) ah).f1))).heap[ab]?=some (.cells #[.int .i64 ((qN ((qF l0 aa).f2) ah).f0),.string ((qN ((qF l0 aa).f2) ah).f1)] 101 (0,0)):=(yP hbox);obtain⟨ay,az,aA,aB⟩:=zc2 hbox)|((with_reducible refine qR (t:=101) (p:=6) rfl ?_);(try(refine z4 ?_;dsimp only));refine ye 101 6 ((bL.setCell ⟨ab,0,none⟩ (.int .i64 ((qN ((qF l0 aa).f2) ah).f0))).setCell ⟨ab,1,none⟩ (.string ((qN ((qF l0 aa).f2) ah).f1))) ?_;intro a4 hw;replace hst:=hst;rw[<-hw] at hst hbx;clear hw hb hbox hge HB ay aA az aB;replace HW:=zz (zv HW.out hst);replace ap:=zz (zv ap.out hst);replace aZ:=zz (zv aZ.out hst);replace ac:=zz (Kd.qD ac.out hst);replace ak:=qG ak hst;replace al:=qG al hst;replace am:=qG am hst;replace ar:=qG ar hst;replace au:=qG au hst;replace av:=qG av hst;replace aD:=qG aD hst;replace aE:=qG aE hst;replace aF:=qG aF hst;replace ae:=qG ae hst;replace af:=qG af hst;obtain⟨aS,aT⟩:=zx2 hbx;have HB:=Below.refl a4.heap.size a4;clear hbx hst))
      try simp only[Act.put,List.setIfInBounds_toArray,List.set_cons_zero,List.set_cons_succ]
      refine qT (C:=fun W_=>Below a4.heap.size a4 W_) zk zk (qK HB) ?_;refine yD H ?_ ?_<;>clear H<;>intro cX H
      ·obtain rfl:=zi H;exact yQ
      refine yG H ?_ ?_<;>clear H<;>intro cY H
      ·obtain rfl:=zi H;exact yQ
      refine yGn H ?_ ?_<;>clear H<;>intro cZ H
      ·replace H:=yf H;obtain⟨bq,cw,H⟩:=H;repeat(first|go_big_quiet_skip|(go_big_quiet_want;go_big_quiet_op;first|go_big_quiet_on|(apply zU;intro W hW;(first|with_reducible rfl|(go_at_call 49;exact callD (spec_AddressOk.calls bb _ _ _ cw.out) hW)|(go_simp;with_reducible rfl));go_big_quiet_on)))
       clear HB;refine zW fun cx (HB:Below a4.heap.size a4 cx)=>?_;refine yT H ?_ ?_<;>clear H<;>rintro rfl H
       ·go_wp2_with(fail)
        go_roundg bb
        case measure=>exact yM2 aj aH
        case rel=>exact⟨(wrap64 (ah+1)),zr,⟨H⟩,⟨yM2 aj aH⟩,⟨zv aZ.out HB⟩⟩
       obtain rfl:=zi H;exact yR
      obtain⟨bi,a0⟩:∃j_:Int,(wrap64 (ah - 1))=j_:=⟨_,rfl⟩
      (first|rw[a0] at H|simp only[a0] at H)
      have cy:(IntKind.i64.wrap (ah - 1))=bi:=(i64_w _).trans a0
      (try rw[a0] at A8)
      (try rw[a0] at bK)
      replace H:=yAD H;obtain⟨c5,H⟩:=H;replace H:=yAD H;obtain⟨c6,H⟩:=H;have br:=yt (0<=((bi):Int));have bs:=yt (((bi):Int)<(((qF l0 aa).f2).length:Int));obtain⟨aK,aU,an,ao⟩:=at_T101 ac.out (bi) z2 z2;obtain rfl:aJ=aK:=(by injection aU)
      replace an:=qL an;replace ao:=qL ao;refine yE H ?_ ?_<;>clear H<;>intro c7 H
      ·obtain rfl:=zi H;exact yQ
      replace H:=yf H;obtain⟨bu,cz,H⟩:=H;repeat(first|go_big_quiet_skip|(go_big_quiet_want;go_big_quiet_op;first|go_big_quiet_on|(apply zU;intro W hW;(first|with_reducible rfl|(go_at_call 49;exact callD (spec_AddressOk.calls bb _ _ _ cz.out) hW)|(go_simp;with_reducible rfl));go_big_quiet_on)))
      clear HB;refine zW fun cA (HB:Below a4.heap.size a4 cA)=>?_;refine yT H ?_ ?_<;>clear H<;>rintro rfl H
      ·go_wp2_with(fail)
       go_roundg bb
       case measure=>exact yM2 aj aH
       case rel=>exact⟨(wrap64 (ah+1)),zr,⟨H⟩,⟨yM2 aj aH⟩,⟨zv aZ.out HB⟩⟩
      obtain rfl:=zi H;exact yR
   obtain⟨bW,bX⟩:=zq bJ;clear bJ;repeat(first|go_big_quiet_skip|(go_big_quiet_want;go_big_quiet_op;first|go_big_quiet_on|(apply zU;intro W hW;(first|with_reducible rfl|(go_at_call 48;exact callD (spec_NameOk.calls aw _ _ _ A8.out) hW)|(go_simp;with_reducible rfl));go_big_quiet_on)))
   clear HB;refine zW fun cB (HB:Below w7.heap.size w7 cB)=>?_;go_wp2_with(fail)
   go_loopg[5] aw (fun kq v5 w'=>∃(ai:Int),v5= .int .i64 ai/\qB (spec_ProfilesOk.l1 kq l0 aa ai ((qF l0 aa).f0) ((qF l0 aa).f1) ((qF l0 aa).f2)=some r)/\qB (kq<=aw)/\qB (Below w7.heap.size w7 w'))
   case atStart=>exact⟨(0),zr,⟨H⟩,⟨Nat.le_refl _⟩,⟨HB⟩⟩
   case round=>
    clear H HB;obtain⟨ai,rfl,H,aI,HB⟩:=hrel;replace HB:=HB.out;replace H:=H.out;have a1:=yB w7;cases gk with
    |zero=>simp[spec_ProfilesOk.l1] at H
    |succ bc=>
     simp only[spec_ProfilesOk.l1] at H;refine yDn H ?_ ?_<;>clear H<;>intro c8 H
     ·go_wp2_with(fail)
      go_roundg bc
      case measure=>exact yM2 aj aI
      case rel=>exact⟨(wrap64 (aa+1)),zr,⟨H⟩,⟨yM2 aj aI⟩,⟨zv ap.out HB⟩⟩
     replace H:=yAD H;obtain⟨c9,H⟩:=H;have bk:=yt (0<=(ai:Int));have bn:=yt ((ai:Int)<(((qF l0 aa).f2).length:Int));obtain⟨aJ,aR,ae,af⟩:=at_T101 ac.out ai z2 z2;cases aR;replace ae:=qL ae;replace af:=qL af;go_wp2_with(first|(refine zN 6 ?_;(try(refine z4 ?_;dsimp only));refine zX 6 101 #[.int .i64 0,.string (⟨#[]⟩:ByteArray)] ?_;intro ab hg bM hbox hb;have hge:w7.heap.size<=ab:=(by rw[hg];exact qE HB);clear hg;have hst:Below w7.heap.size w7 ((bM.setCell ⟨ab,0,none⟩ (.int .i64 ((qN ((qF l0 aa).f2) ai).f0))).setCell ⟨ab,1,none⟩ (.string ((qN ((qF l0 aa).f2) ai).f1))):=(qJ (qJ (zv HB hb) hge) hge);have hbx:((bM.setCell ⟨ab,0,none⟩ (.int .i64 ((qN ((qF l0 aa).f2) ai).f0))).setCell ⟨ab,1,none⟩ (.string ((qN ((qF l0 aa).f2) ai).f1))).heap[ab]?=some (.cells #[.int .i64 ((qN ((qF l0 aa).f2) ai).f0),.string ((qN ((qF l0 aa).f2) ai).f1)] 101 (0,0)):=(yP hbox);obtain⟨ay,az,aA,aB⟩:=zc2 hbox)|((with_reducible refine qR (t:=101) (p:=6) rfl ?_);(try(refine z4 ?_;dsimp only));refine ye 101 6 ((bM.setCell ⟨ab,0,none⟩ (.int .i64 ((qN ((qF l0 aa).f2) ai).f0))).setCell ⟨ab,1,none⟩ (.string ((qN ((qF l0 aa).f2) ai).f1))) ?_;intro a5 hw;replace hst:=hst;rw[<-hw] at hst hbx;clear hw hb hbox hge HB ay aA az aB;replace HW:=zz (zv HW.out hst);replace ap:=zz (zv ap.out hst);replace a1:=zz (zv a1.out hst);replace ac:=zz (Kd.qD ac.out hst);replace ak:=qG ak hst;replace al:=qG al hst;replace am:=qG am hst;replace ar:=qG ar hst;replace au:=qG au hst;replace av:=qG av hst;replace aD:=qG aD hst;replace aE:=qG aE hst;replace aF:=qG aF hst;replace ae:=qG ae hst;replace af:=qG af hst;obtain⟨aS,aT⟩:=zx2 hbx;have HB:=Below.refl a5.heap.size a5;clear hbx hst))
     try simp only[Act.put,List.setIfInBounds_toArray,List.set_cons_zero,List.set_cons_succ]
     refine qT (C:=fun W_=>Below a5.heap.size a5 W_) zk zk (qK HB) ?_;refine yD H ?_ ?_<;>clear H<;>intro da H
     ·obtain rfl:=zi H;exact yQ
     refine yG H ?_ ?_<;>clear H<;>intro db H
     ·obtain rfl:=zi H;exact yQ
     refine yG H ?_ ?_<;>clear H<;>intro dc H
     ·obtain⟨bj,a9⟩:∃j_:Int,(wrap64 (ai - 1))=j_:=⟨_,rfl⟩
      (first|rw[a9] at H|simp only[a9] at H)
      have cC:(IntKind.i64.wrap (ai - 1))=bj:=(i64_w _).trans a9
      (try rw[a9] at A8)
      replace H:=yAD H;obtain⟨de,H⟩:=H;replace H:=yAD H;obtain⟨df,H⟩:=H;have br:=yt (0<=((bj):Int));have bs:=yt (((bj):Int)<(((qF l0 aa).f2).length:Int));obtain⟨aK,aU,an,ao⟩:=at_T101 ac.out (bj) z2 z2;obtain rfl:aJ=aK:=(by injection aU)
      replace an:=qL an;replace ao:=qL ao;refine yE H ?_ ?_<;>clear H<;>intro dh H
      ·obtain rfl:=zi H;exact yQ
      replace H:=yf H;obtain⟨bu,cD,H⟩:=H;repeat(first|go_big_quiet_skip|(go_big_quiet_want;go_big_quiet_op;first|go_big_quiet_on|(apply zU;intro W hW;(first|with_reducible rfl|(go_at_call 49;exact callD (spec_AddressOk.calls bc _ _ _ cD.out) hW)|(go_simp;with_reducible rfl));go_big_quiet_on)))
      clear HB;refine zW fun cE (HB:Below a5.heap.size a5 cE)=>?_;refine yT H ?_ ?_<;>clear H<;>rintro rfl H
      ·go_wp2_with(fail)
       go_roundg bc
       case measure=>exact yM2 aj aI
       case rel=>exact⟨(wrap64 (ai+1)),zr,⟨H⟩,⟨yM2 aj aI⟩,⟨zv a1.out HB⟩⟩
      obtain rfl:=zi H;exact yR
     replace H:=yf H;obtain⟨bq,cF,H⟩:=H;repeat(first|go_big_quiet_skip|(go_big_quiet_want;go_big_quiet_op;first|go_big_quiet_on|(apply zU;intro W hW;(first|with_reducible rfl|(go_at_call 49;exact callD (spec_AddressOk.calls bc _ _ _ cF.out) hW)|(go_simp;with_reducible rfl));go_big_quiet_on)))
     clear HB;refine zW fun cG (HB:Below a5.heap.size a5 cG)=>?_;refine yT H ?_ ?_<;>clear H<;>rintro rfl H
     ·go_wp2_with(fail)
      go_roundg bc
      case measure=>exact yM2 aj aI
      case rel=>exact⟨(wrap64 (ai+1)),zr,⟨H⟩,⟨yM2 aj aI⟩,⟨zv a1.out HB⟩⟩
     obtain rfl:=zi H;exact yR
end Go.Proofs.YtgccknmddhbdgaaGreatDoor.Q
