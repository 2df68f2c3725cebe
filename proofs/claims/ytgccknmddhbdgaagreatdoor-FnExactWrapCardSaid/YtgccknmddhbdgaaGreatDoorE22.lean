import Derived.Test.YtgccknmddhbdgaaGreatDoorE13
import Derived.Test.YtgccknmddhbdgaaGreatDoorE20
import Derived.Test.YtgccknmddhbdgaaGreatDoorE18
namespace Go.Proofs.YtgccknmddhbdgaaGreatDoor.Q
open Go.RowKit W1 W2 W3
attribute [local go_sem] max2_int min2_int max_two min_two max_three min_three max_four min_four
attribute [local go_sem high] bl_leq bl_gtr bl_geq
set_option maxHeartbeats 8000000
set_option maxRecDepth 100000
def spec_l19Item.f(k:Nat)(a0:ByteArray)(l1:List (S63))(a2:ByteArray):Option (Bool):=(spec_AddressOk.f k a0).bind fun aa=>(if aa=true then((spec_TreeOk.f k l1).bind fun ab=>(if ab=true then(if a2.toList=([]:List UInt8) then(some true) else((spec_AddressOk.f k a2).bind fun ac=>(some ac))) else(some false))) else(some false))
theorem spec_l19Item.calls(k:Nat)(a0:ByteArray)(A1:Option Addr)(c1:Nat)(l1:List (S63))(a2:ByteArray)(r:Bool)(w:World)(ac:Kd.C k63 w A1 l1.length l1)(ad:l1.length<=c1)(H:spec_l19Item.f k a0 l1 a2=some r):
 Calls Tryz.prog 47 #[.string a0,.slice A1 l1.length c1,.string a2] w fun e w'=>e= .returned (.bool r)/\Below w.heap.size w w':=by
 have aa:=zz ac;have ab:=zz ad;clear ac ad;have HB:=yB w;unfold spec_l19Item.f at H;replace HB:=HB.out;have HW:=yB w;go_enter Tryz.func47,Tryz.ntmps47;replace H:=yf H;obtain⟨ah,A4,H⟩:=H;refine yF H ?_ ?_<;>clear H<;>rintro rfl H
 ·go_wp2_with(fail)
  refine(spec_AddressOk.calls k _ _ _ A4.out).mono ?_;rintro e ak ⟨rfl,hd⟩;replace HB:=zv HB hd.below;clear hd;obtain rfl:=zi H;exact yR
 go_wp2_with(fail)
 refine(spec_AddressOk.calls k _ _ _ A4.out).mono ?_;rintro e w6 ⟨rfl,hd⟩;replace HB:=zv HB hd.below;clear hd;replace H:=yf H;obtain⟨ai,A7,H⟩:=H;refine yF H ?_ ?_<;>clear H<;>rintro rfl H
 ·go_wp2_with(fail)
  refine(spec_TreeOk.calls k _ _ _ _ _ (Kd.qD aa.out HB) ab.out A7.out).mono ?_;rintro e al ⟨rfl,hb⟩;replace HB:=zv HB hb;clear hb;obtain rfl:=zi H;exact yR
 refine yC H ?_ ?_<;>clear H<;>intro c9 H
 ·obtain⟨ae,af⟩:=zq c9;clear c9;go_wp2_with(fail)
  refine(spec_TreeOk.calls k _ _ _ _ _ (Kd.qD aa.out HB) ab.out A7.out).mono ?_;rintro e am ⟨rfl,hb⟩;replace HB:=zv HB hb;clear hb;obtain rfl:=zi H;exact yR
 obtain⟨ae,af⟩:=zw c9;go_wp2_with(fail)
 refine(spec_TreeOk.calls k _ _ _ _ _ (Kd.qD aa.out HB) ab.out A7.out).mono ?_;rintro e an ⟨rfl,hb⟩;replace HB:=zv HB hb;clear hb;replace H:=yf H;obtain⟨aj,ag,H⟩:=H;go_wp2_with(fail)
 refine(spec_AddressOk.calls k _ _ _ ag.out).mono ?_;rintro e ao ⟨rfl,hd⟩;replace HB:=zv HB hd.below;clear hd;obtain rfl:=zi H;exact yR
mutual
def spec_WorldOk.l0:Nat->Int->List (S61)->List (S99)->List (S94)->List (S96)->Option (Bool)
 |0,_,_,_,_,_=>none
 |k+1,x3,ad,aa,ab,ac=>if x3<(ab.length:Int) then(if 0<=x3 then((spec_l19Item.f k ((rd_T94 ab x3).f0) ((rd_T94 ab x3).f1) ((rd_T94 ab x3).f2)).bind fun ae=>(if ae=true then(spec_WorldOk.l0 k (wrap64 (x3+1)) ad aa ab ac) else(some false))) else(none)) else(spec_WorldOk.l1 k 0 ad aa ab ac)
def spec_WorldOk.l1:Nat->Int->List (S61)->List (S99)->List (S94)->List (S96)->Option (Bool)
 |0,_,_,_,_,_=>none
 |k+1,x4,ad,aa,ab,ac=>if x4<(ac.length:Int) then(if 0<=x4 then((spec_NameOk.f k ((rd_T96 ac x4).f0)).bind fun af=>(if af=true then((spec_AddressOk.f k ((rd_T96 ac x4).f1)).bind fun ag=>(if ag=true then(spec_WorldOk.l1 k (wrap64 (x4+1)) ad aa ab ac) else(some false))) else(some false))) else(none)) else(spec_WorldOk.l2 k 0 ad aa ab ac)
def spec_WorldOk.l2:Nat->Int->List (S61)->List (S99)->List (S94)->List (S96)->Option (Bool)
 |0,_,_,_,_,_=>none
 |k+1,x5,ad,aa,ab,ac=>if x5<(aa.length:Int) then(spec_WorldOk.l3 k x5 0 ad aa ab ac) else(some true)
def spec_WorldOk.l3:Nat->Int->Int->List (S61)->List (S99)->List (S94)->List (S96)->Option (Bool)
 |0,_,_,_,_,_,_=>none
 |k+1,x5,x6,ad,aa,ab,ac=>if 0<=x5 then(if x5<(aa.length:Int) then(if x6<(((qF aa x5).f2).length:Int) then(if 0<=x6 then((spec_l12Find.f k ad ((qN ((qF aa x5).f2) x6).f1)).bind fun ah=>(if ah<0 then(some false) else(spec_WorldOk.l3 k x5 (wrap64 (x6+1)) ad aa ab ac))) else(none)) else(spec_WorldOk.l2 k (wrap64 (x5+1)) ad aa ab ac)) else(none)) else(none)
end
def spec_WorldOk.f(k:Nat)(aa:List (S61))(ab:List (S99))(ac:List (S94))(ad:List (S96)):Option (Bool):=(spec_StoreOk.f k aa).bind fun ae=>(if ae=true then((spec_ProfilesOk.f k ab).bind fun af=>(if af=true then(if(ac.length:Int)>20 then(some false) else(if(ad.length:Int)>20 then(some false) else(spec_WorldOk.l0 k 0 aa ab ac ad))) else(some false))) else(some false))
theorem spec_WorldOk.calls(k:Nat)(aM:Option Addr)(aN:Nat)(ai:List (S61))(aO:Option Addr)(aP:Nat)(ah:List (S99))(aQ:Option Addr)(aR:Nat)(ab:List (S94))(aS:Option Addr)(aT:Nat)(ac:List (S96))(r:Bool)(w:World)(aU:Kd.C k61 w aM ai.length ai)(aV:ai.length<=aN)(aW:Kd.C k99 w aO ah.length ah)(aX:ah.length<=aP)(aY:Kd.C k94 w aQ ab.length ab)(aZ:ab.length<=aR)(a0:Kd.C k96 w aS ac.length ac)(a1:ac.length<=aT)(H:spec_WorldOk.f k ai ah ab ac=some r):
 Calls Tryz.prog 21 #[.agg #[.slice aM ai.length aN,.slice aO ah.length aP,.slice aQ ab.length aR,.slice aS ac.length aT]] w fun e w'=>e= .returned (.bool r)/\Below w.heap.size w w':=by
 have bV:=Tryz.underlying39;have am:=zz aU;have aH:=zz aV;clear aU aV;have ak:=zz aW;have ap:=zz aX;clear aW aX;have aI:=zz aY;have bE:=zz aZ;clear aY aZ;have aJ:=zz a0;have bF:=zz a1;clear a0 a1;have HB:=yB w;unfold spec_WorldOk.f at H;replace HB:=HB.out;have HW:=yB w;go_enter Tryz.func21,Tryz.ntmps21;replace H:=yf H;obtain⟨bW,A2,H⟩:=H;go_wp2_with(first|(refine zN 1 ?_;(try(refine z4 ?_;dsimp only));refine zX 1 39 #[.slice aM ai.length aN,.slice aO ah.length aP,.slice aQ ab.length aR,.slice aS ac.length aT] ?_;intro bG hg w5 hbox hb;have hst:=zv HB hb;clear hg hb HB;replace HW:=zz (zv HW.out hst);replace am:=zz (Kd.qD am.out hst);replace ak:=zz (Kd.qD ak.out hst);replace aI:=zz (Kd.qD aI.out hst);replace aJ:=zz (Kd.qD aJ.out hst);obtain⟨bg,bh,bi,bj⟩:=zx4 hbox;have HB:=Below.refl w5.heap.size w5;clear hbox hst))
 refine(spec_StoreOk.calls k _ _ _ _ _ (Kd.qD am.out HB) aH.out A2.out).mono ?_;rintro e w6 ⟨rfl,hb⟩;replace HB:=zv HB hb;clear hb;refine yF H ?_ ?_<;>clear H<;>rintro rfl H
 ·obtain rfl:=zi H;exact yR
 replace H:=yf H;obtain⟨bX,A7,H⟩:=H;refine yF H ?_ ?_<;>clear H<;>rintro rfl H
 ·go_wp2_with(fail)
  refine(spec_ProfilesOk.calls k _ _ _ _ _ (Kd.qD ak.out HB) ap.out A7.out).mono ?_;rintro e ca ⟨rfl,hb⟩;replace HB:=zv HB hb;clear hb;obtain rfl:=zi H;exact yR
 refine yC H ?_ ?_<;>clear H<;>intro c9 H
 ·have bk:=zgt c9;have bn:decide (20<ab.length)=true:=z1 yo_;clear c9;go_wp2_with(fail)
  refine(spec_ProfilesOk.calls k _ _ _ _ _ (Kd.qD ak.out HB) ap.out A7.out).mono ?_;rintro e cb ⟨rfl,hb⟩;replace HB:=zv HB hb;clear hb;obtain rfl:=zi H;exact yR
 have bk:=zgtn c9;have bn:decide (20<ab.length)=false:=z0 yo_;clear c9;refine yC H ?_ ?_<;>clear H<;>intro a2 H
 ·have bb:=zgt a2;have bc:decide (20<ac.length)=true:=z1 yo_;clear a2;go_wp2_with(fail)
  refine(spec_ProfilesOk.calls k _ _ _ _ _ (Kd.qD ak.out HB) ap.out A7.out).mono ?_;rintro e cc ⟨rfl,hb⟩;replace HB:=zv HB hb;clear hb;obtain rfl:=zi H;exact yR
 have bb:=zgtn a2;have bc:decide (20<ac.length)=false:=z0 yo_;clear a2;go_wp2_with(fail)
 refine(spec_ProfilesOk.calls k _ _ _ _ _ (Kd.qD ak.out HB) ap.out A7.out).mono ?_;rintro e cd ⟨rfl,hb⟩;replace HB:=zv HB hb;clear hb;go_wp2_with(fail)
 go_loopg[3] k (fun kq v3 w'=>∃(ad:Int),v3= .int .i64 ad/\qB (spec_WorldOk.l0 kq ad ai ah ab ac=some r)/\qB (kq<=k)/\qB (Below w5.heap.size w5 w'))
 case atStart=>exact⟨(0),zr,⟨H⟩,⟨Nat.le_refl _⟩,⟨HB⟩⟩
 case round=>
  clear H HB;obtain⟨ad,rfl,H,ag,HB⟩:=hrel;replace HB:=HB.out;replace H:=H.out;have a6:=yB w5;cases gk with
  |zero=>simp[spec_WorldOk.l0] at H
  |succ aK=>
   simp only[spec_WorldOk.l0] at H;refine yD H ?_ ?_<;>clear H<;>intro bH H
   ·go_wp2_with(fail)
    try simp only[Act.put,List.setIfInBounds_toArray,List.set_cons_zero,List.set_cons_succ]
    refine qT (C:=fun W_=>Below w5.heap.size w5 W_) zk zk (qK HB) ?_;replace H:=yAD H;obtain⟨bI,H⟩:=H;have bY:=yt (0<=(ad:Int));have bZ:=yt ((ad:Int)<(ab.length:Int));obtain⟨bJ,bv,bw,bo,ar,au,av,aw,ax⟩:=at_T94 aI.out ad z2 z2;cases bo;replace ar:=qL ar;replace au:=qL au;replace av:=qL av;have a3:=zz ax;have a4:=zz aw;clear ax aw;replace H:=yf H;obtain⟨b0,bz,H⟩:=H;repeat(first|go_big_quiet_skip|(go_big_quiet_want;go_big_quiet_op;first|go_big_quiet_on|(apply zU;intro W hW;(first|with_reducible rfl|(go_at_call 47;exact callB (spec_l19Item.calls aK _ _ _ _ _ _ _ (Kd.qD a3.out hW) a4.out bz.out) hW)|(go_simp;with_reducible rfl));go_big_quiet_on)))
    clear HB;refine zW fun bA (HB:Below w5.heap.size w5 bA)=>?_;refine yT H ?_ ?_<;>clear H<;>rintro rfl H
    ·go_wp2_with(fail)
     go_roundg aK
     case measure=>exact yM1 ag
     case rel=>exact⟨(wrap64 (ad+1)),zr,⟨H⟩,⟨yM1 ag⟩,⟨zv a6.out HB⟩⟩
    obtain rfl:=zi H;exact yR
   go_wp2_with(fail)
   go_loopg[4] aK (fun kq v4 w'=>∃(ae:Int),v4= .int .i64 ae/\qB (spec_WorldOk.l1 kq ae ai ah ab ac=some r)/\qB (kq<=aK)/\qB (Below w5.heap.size w5 w'))
   case atStart=>exact⟨(0),zr,⟨H⟩,⟨Nat.le_refl _⟩,⟨HB⟩⟩
   case round=>
    clear H HB;obtain⟨ae,rfl,H,aj,HB⟩:=hrel;replace HB:=HB.out;replace H:=H.out;have a7:=yB w5;cases gk with
    |zero=>simp[spec_WorldOk.l1] at H
    |succ al=>
     simp only[spec_WorldOk.l1] at H;refine yD H ?_ ?_<;>clear H<;>intro bK H
     ·replace H:=yAD H;obtain⟨bL,H⟩:=H;have b1:=yt (0<=(ae:Int));have b2:=yt ((ae:Int)<(ac.length:Int));obtain⟨bM,bq,ay,az⟩:=at_T96 aJ.out ae z2 z2;cases bq;replace ay:=qL ay;replace az:=qL az;replace H:=yf H;obtain⟨b3,bd,H⟩:=H;refine yF H ?_ ?_<;>clear H<;>rintro rfl H
      ·go_wp2_with(fail)
       refine(spec_NameOk.calls al _ _ _ bd.out).mono ?_;rintro e ce ⟨rfl,hd⟩;replace HB:=zv HB hd.below;clear hd;obtain rfl:=zi H;exact yR
      go_wp2_with(fail)
      refine(spec_NameOk.calls al _ _ _ bd.out).mono ?_;rintro e cf ⟨rfl,hd⟩;replace HB:=zv HB hd.below;clear hd;replace H:=yf H;obtain⟨b4,be,H⟩:=H;refine yT H ?_ ?_<;>clear H<;>rintro rfl H
      ·go_wp2_with(fail)
       refine(spec_AddressOk.calls al _ _ _ be.out).mono ?_;rintro e cg ⟨rfl,hd⟩;replace HB:=zv HB hd.below;clear hd;go_wp2_with(fail)
       go_roundg al
       case measure=>exact yM2 ag aj
       case rel=>exact⟨(wrap64 (ae+1)),zr,⟨H⟩,⟨yM2 ag aj⟩,⟨zv a7.out HB⟩⟩
      go_wp2_with(fail)
      refine(spec_AddressOk.calls al _ _ _ be.out).mono ?_;rintro e ch ⟨rfl,hd⟩;replace HB:=zv HB hd.below;clear hd;obtain rfl:=zi H;exact yR
     go_wp2_with(fail)
     go_loopg[5] al (fun kq v5 w'=>∃(aa:Int),v5= .int .i64 aa/\qB (spec_WorldOk.l2 kq aa ai ah ab ac=some r)/\qB (kq<=al)/\qB (Below w5.heap.size w5 w'))
     case atStart=>exact⟨(0),zr,⟨H⟩,⟨Nat.le_refl _⟩,⟨HB⟩⟩
     case round=>
      clear H HB;obtain⟨aa,rfl,H,an,HB⟩:=hrel;replace HB:=HB.out;replace H:=H.out;have a8:=yB w5;cases gk with
      |zero=>simp[spec_WorldOk.l2] at H
      |succ a9=>
       simp only[spec_WorldOk.l2] at H;refine yDn H ?_ ?_<;>clear H<;>intro bN H
       ·obtain rfl:=zi H;exact yR
       go_wp2_with(fail)
       go_loopg[6] a9 (fun kq v6 w'=>∃(af:Int),v6= .int .i64 af/\qB (spec_WorldOk.l3 kq aa af ai ah ab ac=some r)/\qB (kq<=a9)/\qB (Below w5.heap.size w5 w'))
       case atStart=>exact⟨(0),zr,⟨H⟩,⟨Nat.le_refl _⟩,⟨HB⟩⟩
       case round=>
        clear H HB;obtain⟨af,rfl,H,ao,HB⟩:=hrel;replace HB:=HB.out;replace H:=H.out;have ba:=yB w5;cases gk with
        |zero=>simp[spec_WorldOk.l3] at H
        |succ aL=>
         simp only[spec_WorldOk.l3] at H;replace H:=yAD H;obtain⟨bO,H⟩:=H;replace H:=yAD H;obtain⟨bP,H⟩:=H;have b5:=yt (0<=(aa:Int));have b6:=yt ((aa:Int)<(ah.length:Int));obtain⟨bQ,bB,bC,br,aA,aB,aC,aD,aE⟩:=at_T99 ak.out aa z2 z2;cases br;replace aA:=qL aA;replace aB:=qL aB;replace aC:=qL aC;have a5:=zz aE;have bu:=zz aD;clear aE aD;refine yDn H ?_ ?_<;>clear H<;>intro bR H
         ·go_wp2_with(fail)
          go_roundg aL
          case measure=>exact yM4 ag aj an ao
          case rel=>exact⟨(wrap64 (aa+1)),zr,⟨H⟩,⟨yM4 ag aj an ao⟩,⟨zv a8.out HB⟩⟩
         go_wp2_with(fail)
         try simp only[Act.put,List.setIfInBounds_toArray,List.set_cons_zero,List.set_cons_succ]
         refine qT (C:=fun W_=>Below w5.heap.size w5 W_) zk zk (qK HB) ?_;replace H:=yAD H;obtain⟨bS,H⟩:=H;have b7:=yt (0<=(af:Int));have b8:=yt ((af:Int)<(((qF ah aa).f2).length:Int));obtain⟨bT,bs,aF,aG⟩:=at_T101 a5.out af z2 z2;cases bs;replace aF:=qL aF;replace aG:=qL aG;replace H:=yf H;obtain⟨b9,bf,H⟩:=H;refine yD H ?_ ?_<;>clear H<;>intro bU H
         ·obtain rfl:=zi H;repeat(first|go_big_quiet_skip|(go_big_quiet_want;go_big_quiet_op;first|go_big_quiet_on|(apply zU;intro W hW;(first|with_reducible rfl|(go_at_call 50;exact callD (spec_l12Find.calls aL _ _ _ _ _ _ (Kd.qD am.out hW) aH.out bf.out) hW)|(go_simp;with_reducible rfl));go_big_quiet_on)))
          exact yW
         repeat(first|go_big_quiet_skip|(go_big_quiet_want;go_big_quiet_op;first|go_big_quiet_on|(apply zU;intro W hW;(first|with_reducible rfl|(go_at_call 50;exact callD (spec_l12Find.calls aL _ _ _ _ _ _ (Kd.qD am.out hW) aH.out bf.out) hW)|(go_simp;with_reducible rfl));go_big_quiet_on)))
         clear HB;refine zW fun bD (HB:Below w5.heap.size w5 bD)=>?_;go_wp2_with(fail)
         go_roundg aL
         case measure=>exact yM4 ag aj an ao
         case rel=>exact⟨(wrap64 (af+1)),zr,⟨H⟩,⟨yM4 ag aj an ao⟩,⟨zv ba.out HB⟩⟩
end Go.Proofs.YtgccknmddhbdgaaGreatDoor.Q
