import Derived.Test.YtmdoobnlehkmpaaGreatDoorC05
namespace Go.Proofs.YtmdoobnlehkmpaaGreatDoor.Q
open Go.RowKit W1 W2 W3
attribute [local go_sem] max2_int min2_int max_two min_two max_three min_three max_four min_four
attribute [local go_sem high] bl_leq bl_gtr bl_geq
set_option maxHeartbeats 8000000
set_option maxRecDepth 100000
mutual
def impl_ProfilesOk.l0:Nat->List (S137)->List (S137)->Int->Int->Option (Bool)
 |0,_,_,_,_=>none
 |k+1,x0,ab,ah,aa=>if aa<ah then(if 0<=aa then(if aa<(ab.length:Int) then((impl_NameOk.f k ((qE ab aa).f0)).bind fun aj=>(if aj=true then(if aa>0 then(if 0<=(wrap64 (aa - 1)) then(if(wrap64 (aa - 1))<(x0.length:Int) then(if((Op.bytesLess (((qE x0 (wrap64 (aa - 1))).f0).toList) (((qE ab aa).f0).toList))=true) then(if(((qE ab aa).f2).length:Int)>50 then(some false) else(impl_ProfilesOk.l1 k x0 (((qE ab aa).f1)==0) ab ah aa ((qE ab aa).f2) (((qE ab aa).f2).length:Int) 0 ((qE ab aa).f0) ((qE ab aa).f1) ((qE ab aa).f2))) else(some false)) else(none)) else(none)) else(if(((qE ab aa).f2).length:Int)>50 then(some false) else(impl_ProfilesOk.l1 k x0 (((qE ab aa).f1)==0) ab ah aa ((qE ab aa).f2) (((qE ab aa).f2).length:Int) 0 ((qE ab aa).f0) ((qE ab aa).f1) ((qE ab aa).f2)))) else(some false))) else(none)) else(none)) else(some true)
def impl_ProfilesOk.l1:Nat->List (S137)->Bool->List (S137)->Int->Int->List (S139)->Int->Int->ByteArray->Int->List (S139)->Option (Bool)
 |0,_,_,_,_,_,_,_,_,_,_,_=>none
 |k+1,x0,x5,ab,ah,aa,af,ai,ac,ag,ad,ae=>if ac<ai then(if 0<=ac then(if ac<(af.length:Int) then(if((qP af ac).f0)<1 then(some false) else(if((qP af ac).f0)>9007199254740992 then(some false) else((impl_AddressOk.f k ((qP af ac).f1)).bind fun ak=>(if ak=true then(if ac>0 then(if 0<=(wrap64 (ac - 1)) then(if(wrap64 (ac - 1))<(ae.length:Int) then(if((qP ae (wrap64 (ac - 1))).f0)>=((qP af ac).f0) then(some false) else(if x5=true then(impl_ProfilesOk.l1 k x0 true ab ah aa af ai (wrap64 (ac+1)) ag ad ae) else(impl_ProfilesOk.l1 k x0 (((qP af ac).f0)==ad) ab ah aa af ai (wrap64 (ac+1)) ag ad ae))) else(none)) else(none)) else(if x5=true then(impl_ProfilesOk.l1 k x0 true ab ah aa af ai (wrap64 (ac+1)) ag ad ae) else(impl_ProfilesOk.l1 k x0 (((qP af ac).f0)==ad) ab ah aa af ai (wrap64 (ac+1)) ag ad ae))) else(some false))))) else(none)) else(none)) else(if x5=true then(impl_ProfilesOk.l0 k x0 ab ah (wrap64 (aa+1))) else(some false))
end
def impl_ProfilesOk.f(k:Nat)(l0:List (S137)):Option (Bool):=if(l0.length:Int)>20 then(some false) else(impl_ProfilesOk.l0 k l0 l0 (l0.length:Int) 0)
theorem impl_ProfilesOk.calls(k:Nat)(A0:Option Addr)(c0:Nat)(l0:List (S137))(r:Bool)(w:World)(bv:Kd.C k137 w A0 l0.length l0)(bw:l0.length<=c0)(H:impl_ProfilesOk.f k l0=some r):
 Calls Tryz.prog 100 #[.slice A0 l0.length c0] w fun e w'=>e= .returned (.bool r)/\Below w.heap.size w w':=by
 have bW:=Tryz.underlying137;have bX:=Tryz.underlying139;have aQ:=zz bv;have cx:=zz bw;clear bv bw;have HB:=yB w;unfold impl_ProfilesOk.f at H;replace HB:=HB.out;have HW:=yB w;go_enter Tryz.func100,Tryz.ntmps100;refine yC H ?_ ?_<;>clear H<;>intro c2 H
 ·have bz:=zgt c2;have bA:decide (20<l0.length)=true:=z1 yo_;clear c2;obtain rfl:=zi H;exact yR
 have bz:=zgtn c2;have bA:decide (20<l0.length)=false:=z0 yo_;clear c2;go_wp2_with(fail)
 go_loopg[13] k (fun kq bK w'=>∃(aa:Int),bK= .int .i64 aa/\qA (impl_ProfilesOk.l0 kq l0 l0 (l0.length:Int) aa=some r)/\qA (kq<=k)/\qA (Below w.heap.size w w'))
 case atStart=>exact⟨(0),zr,⟨H⟩,⟨Nat.le_refl _⟩,⟨HB⟩⟩
 case round=>
  clear H HB;obtain⟨aa,rfl,H,ad,HB⟩:=hrel;replace HB:=HB.out;replace H:=H.out;have ao:=yB w;cases gk with
  |zero=>simp[impl_ProfilesOk.l0] at H
  |succ aE=>
   simp only[impl_ProfilesOk.l0] at H;refine yDn H ?_ ?_<;>clear H<;>intro co H
   ·obtain rfl:=zi H;exact yR
   replace H:=yAD H;obtain⟨cp,H⟩:=H;replace H:=yAD H;obtain⟨cq,H⟩:=H;have cr:=yt (0<=(aa:Int));have ct:=yt ((aa:Int)<(l0.length:Int));obtain⟨bl,aF,aG,bB,ak,al,am,aU,aV⟩:=at_T137 aQ.out aa z2 z2;cases bB;replace ak:=qJ ak;replace al:=qJ al;replace am:=qJ am;have af:=zz aV;have bI:=zz aU;clear aV aU;go_wp2_with(first|(refine zN 4 ?_;(try(refine z4 ?_;dsimp only));refine zX 4 137 #[.string (⟨#[]⟩:ByteArray),.int .i64 0,.slice none 0 0] ?_;intro an hg w7 hbox hb;have hge:w.heap.size<=an:=(by rw[hg];exact qF HB);clear hg;have hst:Below w.heap.size w (((w7.setCell ⟨an,0,none⟩ (.string ((qE l0 aa).f0))).setCell ⟨an,1,none⟩ (.int .i64 ((qE l0 aa).f1))).setCell ⟨an,2,none⟩ (.slice aF ((qE l0 aa).f2).length aG)):=(qK (qK (qK (zv HB hb) hge) hge) hge);have hbx:(((w7.setCell ⟨an,0,none⟩ (.string ((qE l0 aa).f0))).setCell ⟨an,1,none⟩ (.int .i64 ((qE l0 aa).f1))).setCell ⟨an,2,none⟩ (.slice aF ((qE l0 aa).f2).length aG)).heap[an]?=some (.cells #[.string ((qE l0 aa).f0),.int .i64 ((qE l0 aa).f1),.slice aF ((qE l0 aa).f2).length aG] 137 (0,0)):=(yP hbox);obtain⟨bc,bd,be,bf,bg,bh⟩:=zc3 hbox)|((with_reducible refine qQ (t:=137) (p:=4) rfl ?_);(try(refine z4 ?_;dsimp only));refine ye 137 4 (((w7.setCell ⟨an,0,none⟩ (.string ((qE l0 aa).f0))).setCell ⟨an,1,none⟩ (.int .i64 ((qE l0 aa).f1))).setCell ⟨an,2,none⟩ (.slice aF ((qE l0 aa).f2).length aG)) ?_;intro w8 hw;replace hst:=hst;rw[<-hw] at hst hbx;clear hw hb hbox hge HB bc bf bd bg be bh;replace HW:=zz (zv HW.out hst);replace ao:=zz (zv ao.out hst);replace aQ:=zz (Kd.qD aQ.out hst);replace af:=zz (Kd.qD af.out hst);replace ak:=qG ak hst;replace al:=qG al hst;replace am:=qG am hst;obtain⟨aw,ax,ay⟩:=zx3 hbx;have HB:=Below.refl w8.heap.size w8;clear hbx hst))
   try simp only[Act.put,List.setIfInBounds_toArray,List.set_cons_zero,List.set_cons_succ]
   refine qS (C:=fun W_=>Below w8.heap.size w8 W_) zk zk (qL HB) ?_;replace H:=yf H;obtain⟨cu,A9,H⟩:=H;refine yF H ?_ ?_<;>clear H<;>rintro rfl H
   ·obtain rfl:=zi H;repeat(first|go_big_quiet_skip|(go_big_quiet_want;go_big_quiet_op;first|go_big_quiet_on|(apply zU;intro W hW;(first|with_reducible rfl|(go_at_call 80;exact callD (impl_NameOk.calls aE _ _ _ A9.out) hW)|(go_simp;with_reducible rfl));go_big_quiet_on)))
    exact yW
   refine yGn H ?_ ?_<;>clear H<;>intro bY H
   ·refine yC H ?_ ?_<;>clear H<;>intro a9 H
    ·have bn:=zgt a9;have bo:decide (50<((qE l0 aa).f2).length)=true:=z1 yo_;clear a9;obtain rfl:=zi H;repeat(first|go_big_quiet_skip|(go_big_quiet_want;go_big_quiet_op;first|go_big_quiet_on|(apply zU;intro W hW;(first|with_reducible rfl|(go_at_call 80;exact callD (impl_NameOk.calls aE _ _ _ A9.out) hW)|(go_simp;with_reducible rfl));go_big_quiet_on)))
     exact yW
    have bn:=zgtn a9;have bo:decide (50<((qE l0 aa).f2).length)=false:=z0 yo_;clear a9;repeat(first|go_big_quiet_skip|(go_big_quiet_want;go_big_quiet_op;first|go_big_quiet_on|(apply zU;intro W hW;(first|with_reducible rfl|(go_at_call 80;exact callD (impl_NameOk.calls aE _ _ _ A9.out) hW)|(go_simp;with_reducible rfl));go_big_quiet_on)))
    clear HB;refine zW fun bL (HB:Below w8.heap.size w8 bL)=>?_;go_wp2_with(fail)
    go_loopg[5,49] aE (fun kq v5 bi w'=>∃(aJ:Bool) (ab:Int),v5= .bool aJ/\bi= .int .i64 ab/\qA (impl_ProfilesOk.l1 kq l0 aJ l0 (l0.length:Int) aa ((qE l0 aa).f2) (((qE l0 aa).f2).length:Int) ab ((qE l0 aa).f0) ((qE l0 aa).f1) ((qE l0 aa).f2)=some r)/\qA (kq<=aE)/\qA (Below w8.heap.size w8 w'))
    case atStart=>exact⟨((((qE l0 aa).f1)==0)),(0),zr,zr,⟨H⟩,⟨Nat.le_refl _⟩,⟨HB⟩⟩
    case round=>
     clear H HB;obtain⟨aJ,ab,rfl,rfl,H,ai,HB⟩:=hrel;replace HB:=HB.out;replace H:=H.out;have ap:=yB w8;cases gk with
     |zero=>simp[impl_ProfilesOk.l1] at H
     |succ az=>
      simp only[impl_ProfilesOk.l1] at H;refine yD H ?_ ?_<;>clear H<;>intro bZ H
      ·replace H:=yAD H;obtain⟨b0,H⟩:=H;replace H:=yAD H;obtain⟨b1,H⟩:=H;have bC:=yt (0<=(ab:Int));have bD:=yt ((ab:Int)<(((qE l0 aa).f2).length:Int));obtain⟨aZ,a5,ag,ah⟩:=at_T139 af.out ab z2 z2;cases a5;replace ag:=qJ ag;replace ah:=qJ ah;go_wp2_with(first|(refine zN 7 ?_;(try(refine z4 ?_;dsimp only));refine zX 7 139 #[.int .i64 0,.string (⟨#[]⟩:ByteArray)] ?_;intro ae hg bj hbox hb;have hge:w8.heap.size<=ae:=(by rw[hg];exact qF HB);clear hg;have hst:Below w8.heap.size w8 ((bj.setCell ⟨ae,0,none⟩ (.int .i64 ((qP ((qE l0 aa).f2) ab).f0))).setCell ⟨ae,1,none⟩ (.string ((qP ((qE l0 aa).f2) ab).f1))):=(qK (qK (zv HB hb) hge) hge);have hbx:((bj.setCell ⟨ae,0,none⟩ (.int .i64 ((qP ((qE l0 aa).f2) ab).f0))).setCell ⟨ae,1,none⟩ (.string ((qP ((qE l0 aa).f2) ab).f1))).heap[ae]?=some (.cells #[.int .i64 ((qP ((qE l0 aa).f2) ab).f0),.string ((qP ((qE l0 aa).f2) ab).f1)] 139 (0,0)):=(yP hbox);obtain⟨aK,aL,aM,aN⟩:=zc2 hbox)|((with_reducible refine qQ (t:=139) (p:=7) rfl ?_);(try(refine z4 ?_;dsimp only));refine ye 139 7 ((bj.setCell ⟨ae,0,none⟩ (.int .i64 ((qP ((qE l0 aa).f2) ab).f0))).setCell ⟨ae,1,none⟩ (.string ((qP ((qE l0 aa).f2) ab).f1))) ?_;intro aR hw;replace hst:=hst;rw[<-hw] at hst hbx;clear hw hb hbox hge HB aK aM aL aN;replace HW:=zz (zv HW.out hst);replace ao:=zz (zv ao.out hst);replace ap:=zz (zv ap.out hst);replace aQ:=zz (Kd.qD aQ.out hst);replace af:=zz (Kd.qD af.out hst);replace ak:=qG ak hst;replace al:=qG al hst;replace am:=qG am hst;replace aw:=qG aw hst;replace ax:=qG ax hst;replace ay:=qG ay hst;replace ag:=qG ag hst;replace ah:=qG ah hst;obtain⟨a6,a7⟩:=zx2 hbx;have HB:=Below.refl aR.heap.size aR;clear hbx hst))
       try simp only[Act.put,List.setIfInBounds_toArray,List.set_cons_zero,List.set_cons_succ]
       refine qS (C:=fun W_=>Below aR.heap.size aR W_) zk zk (qL HB) ?_;refine yD H ?_ ?_<;>clear H<;>intro b3 H
       ·obtain rfl:=zi H;exact yQ
       refine yG H ?_ ?_<;>clear H<;>intro b4 H
       ·obtain rfl:=zi H;exact yQ
       replace H:=yf H;obtain⟨bE,a3,H⟩:=H;refine yF H ?_ ?_<;>clear H<;>rintro rfl H
       ·obtain rfl:=zi H;repeat(first|go_big_quiet_skip|(go_big_quiet_want;go_big_quiet_op;first|go_big_quiet_on|(apply zU;intro W hW;(first|with_reducible rfl|(go_at_call 102;exact callD (impl_AddressOk.calls az _ _ _ a3.out) hW)|(go_simp;with_reducible rfl));go_big_quiet_on)))
        exact yW
       refine yGn H ?_ ?_<;>clear H<;>intro b7 H
       ·repeat(first|go_big_quiet_skip|(go_big_quiet_want;go_big_quiet_op;first|go_big_quiet_on|(apply zU;intro W hW;(first|with_reducible rfl|(go_at_call 102;exact callD (impl_AddressOk.calls az _ _ _ a3.out) hW)|(go_simp;with_reducible rfl));go_big_quiet_on)))
        clear HB;refine zW fun bM (HB:Below aR.heap.size aR bM)=>?_;refine yT H ?_ ?_<;>clear H<;>rintro rfl H
        ·go_wp2_with(fail)
         go_roundg az
         case measure=>exact yM2 ad ai
         case rel=>exact⟨(true),(wrap64 (ab+1)),zr,zr,⟨H⟩,⟨yM2 ad ai⟩,⟨zv ap.out HB⟩⟩
        go_wp2_with(fail)
        go_roundg az
        case measure=>exact yM2 ad ai
        case rel=>exact⟨((((qP ((qE l0 aa).f2) ab).f0)==((qE l0 aa).f1))),(wrap64 (ab+1)),zr,zr,⟨H⟩,⟨yM2 ad ai⟩,⟨zv ap.out HB⟩⟩
       obtain⟨a0,aH⟩:∃j_:Int,(wrap64 (ab - 1))=j_:=⟨_,rfl⟩
       (first|rw[aH] at H|simp only[aH] at H)
       have bN:(IntKind.i64.wrap (ab - 1))=a0:=(i64_w _).trans aH
       (try rw[aH] at A9)
       (try rw[aH] at a3)
       replace H:=yAD H;obtain⟨b8,H⟩:=H;replace H:=yAD H;obtain⟨ca,H⟩:=H;have bF:=yt (0<=((a0):Int));have bG:=yt (((a0):Int)<(((qE l0 aa).f2).length:Int));obtain⟨a1,a8,ar,au⟩:=at_T139 af.out (a0) z2 z2;obtain rfl:aZ=a1:=(by injection a8)
       replace ar:=qJ ar;replace au:=qJ au;refine yE H ?_ ?_<;>clear H<;>intro cb H
       ·obtain rfl:=zi H;repeat(first|go_big_quiet_skip|(go_big_quiet_want;go_big_quiet_op;first|go_big_quiet_on|(apply zU;intro W hW;(first|with_reducible rfl|(go_at_call 102;exact callD (impl_AddressOk.calls az _ _ _ a3.out) hW)|(go_simp;with_reducible rfl));go_big_quiet_on)))
        exact yW
       repeat(first|go_big_quiet_skip|(go_big_quiet_want;go_big_quiet_op;first|go_big_quiet_on|(apply zU;intro W hW;(first|with_reducible rfl|(go_at_call 102;exact callD (impl_AddressOk.calls az _ _ _ a3.out) hW)|(go_simp;with_reducible rfl));go_big_quiet_on)))
       clear HB;refine zW fun bO (HB:Below aR.heap.size aR bO)=>?_;refine yT H ?_ ?_<;>clear H<;>rintro rfl H
       ·go_wp2_with(fail)
        go_roundg az
        case measure=>exact yM2 ad ai
        case rel=>exact⟨(true),(wrap64 (ab+1)),zr,zr,⟨H⟩,⟨yM2 ad ai⟩,⟨zv ap.out HB⟩⟩
       go_wp2_with(fail)
       go_roundg az
       case measure=>exact yM2 ad ai
       case rel=>exact⟨((((qP ((qE l0 aa).f2) ab).f0)==((qE l0 aa).f1))),(wrap64 (ab+1)),zr,zr,⟨H⟩,⟨yM2 ad ai⟩,⟨zv ap.out HB⟩⟩
      refine yT H ?_ ?_<;>clear H<;>rintro rfl H
      ·go_wp2_with(fail)
       go_roundg az
       case measure=>exact yM2 ad ai
       case rel=>exact⟨(wrap64 (aa+1)),zr,⟨H⟩,⟨yM2 ad ai⟩,⟨zv ao.out HB⟩⟩
      obtain rfl:=zi H;exact yR
   obtain⟨aO,aT⟩:∃j_:Int,(wrap64 (aa - 1))=j_:=⟨_,rfl⟩
   (first|rw[aT] at H|simp only[aT] at H)
   have bP:(IntKind.i64.wrap (aa - 1))=aO:=(i64_w _).trans aT
   (try rw[aT] at A9)
   replace H:=yAD H;obtain⟨cc,H⟩:=H;replace H:=yAD H;obtain⟨cd,H⟩:=H;have cv:=yt (0<=((aO):Int));have cw:=yt (((aO):Int)<(l0.length:Int));obtain⟨bq,bQ,bR,bH,aB,aC,aD,aW,aX⟩:=at_T137 aQ.out (aO) z2 z2;obtain rfl:bl=bq:=(by injection bH)
   replace aB:=qJ aB;replace aC:=qJ aC;replace aD:=qJ aD;have aY:=zz aX;have bJ:=zz aW;clear aX aW;refine yCn H ?_ ?_<;>clear H<;>intro ba H
   ·have br:(Op.bytesLess (((qE l0 (aO)).f0).toList) (((qE l0 aa).f0).toList))=false:=by simpa using ba
    clear ba;obtain rfl:=zi H;repeat(first|go_big_quiet_skip|(go_big_quiet_want;go_big_quiet_op;first|go_big_quiet_on|(apply zU;intro W hW;(first|with_reducible rfl|(go_at_call 80;exact callD (impl_NameOk.calls aE _ _ _ A9.out) hW)|(go_simp;with_reducible rfl));go_big_quiet_on)))
    exact yW
   have br:(Op.bytesLess (((qE l0 (aO)).f0).toList) (((qE l0 aa).f0).toList))=true:=ba;clear ba;refine yC H ?_ ?_<;>clear H<;>intro bb H
   ·have bs:=zgt bb;have bu:decide (50<((qE l0 aa).f2).length)=true:=z1 yo_;clear bb;obtain rfl:=zi H;repeat(first|go_big_quiet_skip|(go_big_quiet_want;go_big_quiet_op;first|go_big_quiet_on|(apply zU;intro W hW;(first|with_reducible rfl|(go_at_call 80;exact callD (impl_NameOk.calls aE _ _ _ A9.out) hW)|(go_simp;with_reducible rfl));go_big_quiet_on)))
    exact yW
   have bs:=zgtn bb;have bu:decide (50<((qE l0 aa).f2).length)=false:=z0 yo_;clear bb;repeat(first|go_big_quiet_skip|(go_big_quiet_want;go_big_quiet_op;first|go_big_quiet_on|(apply zU;intro W hW;(first|with_reducible rfl|(go_at_call 80;exact callD (impl_NameOk.calls aE _ _ _ A9.out) hW)|(go_simp;with_reducible rfl));go_big_quiet_on)))
   clear HB;refine zW fun bS (HB:Below w8.heap.size w8 bS)=>?_;go_wp2_with(fail)
   go_loopg[5,49] aE (fun kq v5 bi w'=>∃(aP:Bool) (ac:Int),v5= .bool aP/\bi= .int .i64 ac/\qA (impl_ProfilesOk.l1 kq l0 aP l0 (l0.length:Int) aa ((qE l0 aa).f2) (((qE l0 aa).f2).length:Int) ac ((qE l0 aa).f0) ((qE l0 aa).f1) ((qE l0 aa).f2)=some r)/\qA (kq<=aE)/\qA (Below w8.heap.size w8 w'))
   case atStart=>exact⟨((((qE l0 aa).f1)==0)),(0),zr,zr,⟨H⟩,⟨Nat.le_refl _⟩,⟨HB⟩⟩
   case round=>
    clear H HB;obtain⟨aP,ac,rfl,rfl,H,aj,HB⟩:=hrel;replace HB:=HB.out;replace H:=H.out;have av:=yB w8;cases gk with
    |zero=>simp[impl_ProfilesOk.l1] at H
    |succ aA=>
     simp only[impl_ProfilesOk.l1] at H;refine yD H ?_ ?_<;>clear H<;>intro ce H
     ·replace H:=yAD H;obtain⟨cf,H⟩:=H;replace H:=yAD H;obtain⟨cg,H⟩:=H;have bC:=yt (0<=(ac:Int));have bD:=yt ((ac:Int)<(((qE l0 aa).f2).length:Int));obtain⟨aZ,a5,ag,ah⟩:=at_T139 af.out ac z2 z2;cases a5;replace ag:=qJ ag;replace ah:=qJ ah;go_wp2_with(first|(refine zN 7 ?_;(try(refine z4 ?_;dsimp only));refine zX 7 139 #[.int .i64 0,.string (⟨#[]⟩:ByteArray)] ?_;intro ae hg bk hbox hb;have hge:w8.heap.size<=ae:=(by rw[hg];exact qF HB);clear hg;have hst:Below w8.heap.size w8 ((bk.setCell ⟨ae,0,none⟩ (.int .i64 ((qP ((qE l0 aa).f2) ac).f0))).setCell ⟨ae,1,none⟩ (.string ((qP ((qE l0 aa).f2) ac).f1))):=(qK (qK (zv HB hb) hge) hge);have hbx:((bk.setCell ⟨ae,0,none⟩ (.int .i64 ((qP ((qE l0 aa).f2) ac).f0))).setCell ⟨ae,1,none⟩ (.string ((qP ((qE l0 aa).f2) ac).f1))).heap[ae]?=some (.cells #[.int .i64 ((qP ((qE l0 aa).f2) ac).f0),.string ((qP ((qE l0 aa).f2) ac).f1)] 139 (0,0)):=(yP hbox);obtain⟨aK,aL,aM,aN⟩:=zc2 hbox)|((with_reducible refine qQ (t:=139) (p:=7) rfl ?_);(try(refine z4 ?_;dsimp only));refine ye 139 7 ((bk.setCell ⟨ae,0,none⟩ (.int .i64 ((qP ((qE l0 aa).f2) ac).f0))).setCell ⟨ae,1,none⟩ (.string ((qP ((qE l0 aa).f2) ac).f1))) ?_;intro aS hw;replace hst:=hst;rw[<-hw] at hst hbx;clear hw hb hbox hge HB aK aM aL aN;replace HW:=zz (zv HW.out hst);replace ao:=zz (zv ao.out hst);replace av:=zz (zv av.out hst);replace af:=zz (Kd.qD af.out hst);replace ak:=qG ak hst;replace al:=qG al hst;replace am:=qG am hst;replace aw:=qG aw hst;replace ax:=qG ax hst;replace ay:=qG ay hst;replace aB:=qG aB hst;replace aC:=qG aC hst;replace aD:=qG aD hst;replace ag:=qG ag hst;replace ah:=qG ah hst;obtain⟨a6,a7⟩:=zx2 hbx;have HB:=Below.refl aS.heap.size aS;clear hbx hst))
      try simp only[Act.put,List.setIfInBounds_toArray,List.set_cons_zero,List.set_cons_succ]
      refine qS (C:=fun W_=>Below aS.heap.size aS W_) zk zk (qL HB) ?_;refine yD H ?_ ?_<;>clear H<;>intro ch H
      ·obtain rfl:=zi H;exact yQ
      refine yG H ?_ ?_<;>clear H<;>intro ci H
      ·obtain rfl:=zi H;exact yQ
      replace H:=yf H;obtain⟨bE,a4,H⟩:=H;refine yF H ?_ ?_<;>clear H<;>rintro rfl H
      ·obtain rfl:=zi H;repeat(first|go_big_quiet_skip|(go_big_quiet_want;go_big_quiet_op;first|go_big_quiet_on|(apply zU;intro W hW;(first|with_reducible rfl|(go_at_call 102;exact callD (impl_AddressOk.calls aA _ _ _ a4.out) hW)|(go_simp;with_reducible rfl));go_big_quiet_on)))
       exact yW
      refine yGn H ?_ ?_<;>clear H<;>intro cj H
      ·repeat(first|go_big_quiet_skip|(go_big_quiet_want;go_big_quiet_op;first|go_big_quiet_on|(apply zU;intro W hW;(first|with_reducible rfl|(go_at_call 102;exact callD (impl_AddressOk.calls aA _ _ _ a4.out) hW)|(go_simp;with_reducible rfl));go_big_quiet_on)))
       clear HB;refine zW fun bT (HB:Below aS.heap.size aS bT)=>?_;refine yT H ?_ ?_<;>clear H<;>rintro rfl H
       ·go_wp2_with(fail)
        go_roundg aA
        case measure=>exact yM2 ad aj
        case rel=>exact⟨(true),(wrap64 (ac+1)),zr,zr,⟨H⟩,⟨yM2 ad aj⟩,⟨zv av.out HB⟩⟩
       go_wp2_with(fail)
       go_roundg aA
       case measure=>exact yM2 ad aj
       case rel=>exact⟨((((qP ((qE l0 aa).f2) ac).f0)==((qE l0 aa).f1))),(wrap64 (ac+1)),zr,zr,⟨H⟩,⟨yM2 ad aj⟩,⟨zv av.out HB⟩⟩
      obtain⟨a2,aI⟩:∃j_:Int,(wrap64 (ac - 1))=j_:=⟨_,rfl⟩
      (first|rw[aI] at H|simp only[aI] at H)
      have bU:(IntKind.i64.wrap (ac - 1))=a2:=(i64_w _).trans aI
      (try rw[aI] at A9)
      (try rw[aI] at a4)
      replace H:=yAD H;obtain⟨ck,H⟩:=H;replace H:=yAD H;obtain⟨cm,H⟩:=H;have bF:=yt (0<=((a2):Int));have bG:=yt (((a2):Int)<(((qE l0 aa).f2).length:Int));obtain⟨a1,a8,ar,au⟩:=at_T139 af.out (a2) z2 z2;obtain rfl:aZ=a1:=(by injection a8)
      replace ar:=qJ ar;replace au:=qJ au;refine yE H ?_ ?_<;>clear H<;>intro cn H
      ·obtain rfl:=zi H;repeat(first|go_big_quiet_skip|(go_big_quiet_want;go_big_quiet_op;first|go_big_quiet_on|(apply zU;intro W hW;(first|with_reducible rfl|(go_at_call 102;exact callD (impl_AddressOk.calls aA _ _ _ a4.out) hW)|(go_simp;with_reducible rfl));go_big_quiet_on)))
       exact yW
      repeat(first|go_big_quiet_skip|(go_big_quiet_want;go_big_quiet_op;first|go_big_quiet_on|(apply zU;intro W hW;(first|with_reducible rfl|(go_at_call 102;exact callD (impl_AddressOk.calls aA _ _ _ a4.out) hW)|(go_simp;with_reducible rfl));go_big_quiet_on)))
      clear HB;refine zW fun bV (HB:Below aS.heap.size aS bV)=>?_;refine yT H ?_ ?_<;>clear H<;>rintro rfl H
      ·go_wp2_with(fail)
       go_roundg aA
       case measure=>exact yM2 ad aj
       case rel=>exact⟨(true),(wrap64 (ac+1)),zr,zr,⟨H⟩,⟨yM2 ad aj⟩,⟨zv av.out HB⟩⟩
      go_wp2_with(fail)
      go_roundg aA
      case measure=>exact yM2 ad aj
      case rel=>exact⟨((((qP ((qE l0 aa).f2) ac).f0)==((qE l0 aa).f1))),(wrap64 (ac+1)),zr,zr,⟨H⟩,⟨yM2 ad aj⟩,⟨zv av.out HB⟩⟩
     refine yT H ?_ ?_<;>clear H<;>rintro rfl H
     ·go_wp2_with(fail)
      go_roundg aA
      case measure=>exact yM2 ad aj
      case rel=>exact⟨(wrap64 (aa+1)),zr,⟨H⟩,⟨yM2 ad aj⟩,⟨zv ao.out HB⟩⟩
     obtain rfl:=zi H;exact yR
def spec_l13Gen.l0:Nat->Int->Int->ByteArray->Int->List (S139)->Option (Int)
 |0,_,_,_,_,_=>none
 |k+1,x1,x5,ab,ac,aa=>if x5<(aa.length:Int) then(if 0<=x5 then(if((qP aa x5).f0)=x1 then(some x5) else(spec_l13Gen.l0 k x1 (wrap64 (x5+1)) ab ac aa)) else(none)) else(some (-1))
def spec_l13Gen.f(k:Nat)(aa:ByteArray)(ab:Int)(ac:List (S139))(a1:Int):Option (Int):=spec_l13Gen.l0 k a1 0 aa ab ac
theorem spec_l13Gen.calls(k:Nat)(ae:ByteArray)(af:Int)(ah:Option Addr)(ai:Nat)(ab:List (S139))(a1:Int)(r:Int)(w:World)(aj:Kd.C k139 w ah ab.length ab)(ak:ab.length<=ai)(H:spec_l13Gen.f k ae af ab a1=some r):
 Calls Tryz.prog 147 #[.agg #[.string ae,.int .i64 af,.slice ah ab.length ai],.int .i64 a1] w fun e w'=>e= .returned (.int .i64 r)/\Below w.heap.size w w':=by
 have ax:=Tryz.underlying137;have ag:=zz aj;have ay:=zz ak;clear aj ak;have HB:=yB w;unfold spec_l13Gen.f at H;replace HB:=HB.out;have HW:=yB w;go_enter Tryz.func147,Tryz.ntmps147;go_wp2_with(first|(refine zN 2 ?_;(try(refine z4 ?_;dsimp only));refine zX 2 137 #[.string ae,.int .i64 af,.slice ah ab.length ai] ?_;intro az hg w4 hbox hb;have hst:=zv HB hb;clear hg hb HB;replace HW:=zz (zv HW.out hst);replace ag:=zz (Kd.qD ag.out hst);obtain⟨an,ao,ap⟩:=zx3 hbox;have HB:=Below.refl w4.heap.size w4;clear hbox hst))
 go_loopg[5] k (fun kq v5 w'=>∃(aa:Int),v5= .int .i64 aa/\qA (spec_l13Gen.l0 kq a1 aa ae af ab=some r)/\qA (kq<=k)/\qA (Below w4.heap.size w4 w'))
 case atStart=>exact⟨(0),zr,⟨H⟩,⟨Nat.le_refl _⟩,⟨HB⟩⟩
 case round=>
  clear H HB;obtain⟨aa,rfl,H,al,HB⟩:=hrel;replace HB:=HB.out;replace H:=H.out;have am:=yB w4;cases gk with
  |zero=>simp[spec_l13Gen.l0] at H
  |succ aw=>
   simp only[spec_l13Gen.l0] at H;refine yDn H ?_ ?_<;>clear H<;>intro aB H
   ·obtain rfl:=zi H;exact yR
   replace H:=yAD H;obtain⟨aC,H⟩:=H;have aD:=yt (0<=(aa:Int));have aE:=yt ((aa:Int)<(ab.length:Int));obtain⟨aA,ar,ac,ad⟩:=at_T139 ag.out aa z2 z2;cases ar;replace ac:=qJ ac;replace ad:=qJ ad;refine yCn H ?_ ?_<;>clear H<;>intro c7 H
   ·obtain⟨au,av⟩:=zw c7;go_wp2_with(fail)
    go_roundg aw
    case measure=>exact yM1 al
    case rel=>exact⟨(wrap64 (aa+1)),zr,⟨H⟩,⟨yM1 al⟩,⟨zv am.out HB⟩⟩
   obtain⟨au,av⟩:=zq c7;clear c7;obtain rfl:=zi H;exact yR
mutual
def spec_ProfilesOk.l0:Nat->List (S137)->Int->Option (Bool)
 |0,_,_=>none
 |k+1,x0,x3=>if x3<(x0.length:Int) then(if 0<=x3 then((spec_NameOk.f k ((qE x0 x3).f0)).bind fun ad=>(if ad=true then(if x3>0 then(if 0<=(wrap64 (x3 - 1)) then(if(wrap64 (x3 - 1))<(x0.length:Int) then(if((Op.bytesLess (((qE x0 (wrap64 (x3 - 1))).f0).toList) (((qE x0 x3).f0).toList))=true) then(if(((qE x0 x3).f2).length:Int)>50 then(some false) else(if((qE x0 x3).f1)=0 then(spec_ProfilesOk.l1 k x0 x3 0 ((qE x0 x3).f0) ((qE x0 x3).f1) ((qE x0 x3).f2)) else((spec_l13Gen.f k ((qE x0 x3).f0) ((qE x0 x3).f1) ((qE x0 x3).f2) ((qE x0 x3).f1)).bind fun ae=>(if ae<0 then(some false) else(spec_ProfilesOk.l1 k x0 x3 0 ((qE x0 x3).f0) ((qE x0 x3).f1) ((qE x0 x3).f2)))))) else(some false)) else(none)) else(none)) else(if(((qE x0 x3).f2).length:Int)>50 then(some false) else(if((qE x0 x3).f1)=0 then(spec_ProfilesOk.l1 k x0 x3 0 ((qE x0 x3).f0) ((qE x0 x3).f1) ((qE x0 x3).f2)) else((spec_l13Gen.f k ((qE x0 x3).f0) ((qE x0 x3).f1) ((qE x0 x3).f2) ((qE x0 x3).f1)).bind fun af=>(if af<0 then(some false) else(spec_ProfilesOk.l1 k x0 x3 0 ((qE x0 x3).f0) ((qE x0 x3).f1) ((qE x0 x3).f2))))))) else(some false))) else(none)) else(some true)
def spec_ProfilesOk.l1:Nat->List (S137)->Int->Int->ByteArray->Int->List (S139)->Option (Bool)
 |0,_,_,_,_,_,_=>none
 |k+1,x0,x3,x5,ab,ac,aa=>if x5<(aa.length:Int) then(if 0<=x5 then(if((qP aa x5).f0)<1 then(some false) else(if((qP aa x5).f0)>9007199254740992 then(some false) else(if x5>0 then(if 0<=(wrap64 (x5 - 1)) then(if(wrap64 (x5 - 1))<(aa.length:Int) then(if((qP aa (wrap64 (x5 - 1))).f0)>=((qP aa x5).f0) then(some false) else((spec_AddressOk.f k ((qP aa x5).f1)).bind fun ag=>(if ag=true then(spec_ProfilesOk.l1 k x0 x3 (wrap64 (x5+1)) ab ac aa) else(some false)))) else(none)) else(none)) else((spec_AddressOk.f k ((qP aa x5).f1)).bind fun ah=>(if ah=true then(spec_ProfilesOk.l1 k x0 x3 (wrap64 (x5+1)) ab ac aa) else(some false)))))) else(none)) else(spec_ProfilesOk.l0 k x0 (wrap64 (x3+1)))
end
def spec_ProfilesOk.f(k:Nat)(l0:List (S137)):Option (Bool):=if(l0.length:Int)>20 then(some false) else(spec_ProfilesOk.l0 k l0 0)
theorem spec_ProfilesOk.calls(k:Nat)(A0:Option Addr)(c0:Nat)(l0:List (S137))(r:Bool)(w:World)(bX:Kd.C k137 w A0 l0.length l0)(bY:l0.length<=c0)(H:spec_ProfilesOk.f k l0=some r):
 Calls Tryz.prog 90 #[.slice A0 l0.length c0] w fun e w'=>e= .returned (.bool r)/\Below w.heap.size w w':=by
 have cJ:=Tryz.underlying137;have cK:=Tryz.underlying139;have aL:=zz bX;have dw:=zz bY;clear bX bY;have HB:=yB w;unfold spec_ProfilesOk.f at H;replace HB:=HB.out;have HW:=yB w;go_enter Tryz.func90,Tryz.ntmps90;refine yC H ?_ ?_<;>clear H<;>intro c2 H
 ·have bZ:=zgt c2;have b0:decide (20<l0.length)=true:=z1 yo_;clear c2;obtain rfl:=zi H;exact yR
 have bZ:=zgtn c2;have b0:decide (20<l0.length)=false:=z0 yo_;clear c2;go_wp2_with(fail)
 go_loopg[3] k (fun kq v3 w'=>∃(aa:Int),v3= .int .i64 aa/\qA (spec_ProfilesOk.l0 kq l0 aa=some r)/\qA (kq<=k)/\qA (Below w.heap.size w w'))
 case atStart=>exact⟨(0),zr,⟨H⟩,⟨Nat.le_refl _⟩,⟨HB⟩⟩
 case round=>
  clear H HB;obtain⟨aa,rfl,H,aj,HB⟩:=hrel;replace HB:=HB.out;replace H:=H.out;have ap:=yB w;cases gk with
  |zero=>simp[spec_ProfilesOk.l0] at H
  |succ aw=>
   simp only[spec_ProfilesOk.l0] at H;refine yDn H ?_ ?_<;>clear H<;>intro dl H
   ·obtain rfl:=zi H;exact yR
   replace H:=yAD H;obtain⟨dm,H⟩:=H;have dn:=yt (0<=(aa:Int));have dp:=yt ((aa:Int)<(l0.length:Int));obtain⟨bM,aV,aW,b1,ak,al,am,bd,be⟩:=at_T137 aL.out aa z2 z2;cases b1;replace ak:=qJ ak;replace al:=qJ al;replace am:=qJ am;have ac:=zz be;have aO:=zz bd;clear be bd;go_wp2_with(first|(refine zN 4 ?_;(try(refine z4 ?_;dsimp only));refine zX 4 137 #[.string (⟨#[]⟩:ByteArray),.int .i64 0,.slice none 0 0] ?_;intro ax hg w6 hbox hb;have hge:w.heap.size<=ax:=(by rw[hg];exact qF HB);clear hg;have hst:Below w.heap.size w (((w6.setCell ⟨ax,0,none⟩ (.string ((qE l0 aa).f0))).setCell ⟨ax,1,none⟩ (.int .i64 ((qE l0 aa).f1))).setCell ⟨ax,2,none⟩ (.slice aV ((qE l0 aa).f2).length aW)):=(qK (qK (qK (zv HB hb) hge) hge) hge);have hbx:(((w6.setCell ⟨ax,0,none⟩ (.string ((qE l0 aa).f0))).setCell ⟨ax,1,none⟩ (.int .i64 ((qE l0 aa).f1))).setCell ⟨ax,2,none⟩ (.slice aV ((qE l0 aa).f2).length aW)).heap[ax]?=some (.cells #[.string ((qE l0 aa).f0),.int .i64 ((qE l0 aa).f1),.slice aV ((qE l0 aa).f2).length aW] 137 (0,0)):=(yP hbox);obtain⟨bz,bA,bB,bC,bD,bE⟩:=zc3 hbox)|((with_reducible refine qQ (t:=137) (p:=4) rfl ?_);(try(refine z4 ?_;dsimp only));refine ye 137 4 (((w6.setCell ⟨ax,0,none⟩ (.string ((qE l0 aa).f0))).setCell ⟨ax,1,none⟩ (.int .i64 ((qE l0 aa).f1))).setCell ⟨ax,2,none⟩ (.slice aV ((qE l0 aa).f2).length aW)) ?_;intro w7 hw;replace hst:=hst;rw[<-hw] at hst hbx;clear hw hb hbox hge HB bz bC bA bD bB bE;replace HW:=zz (zv HW.out hst);replace ap:=zz (zv ap.out hst);replace aL:=zz (Kd.qD aL.out hst);replace ac:=zz (Kd.qD ac.out hst);replace ak:=qG ak hst;replace al:=qG al hst;replace am:=qG am hst;obtain⟨ar,au,av⟩:=zx3 hbx;have HB:=Below.refl w7.heap.size w7;clear hbx hst))
   try simp only[Act.put,List.setIfInBounds_toArray,List.set_cons_zero,List.set_cons_succ]
   refine qS (C:=fun W_=>Below w7.heap.size w7 W_) zk zk (qL HB) ?_;replace H:=yf H;obtain⟨dq,A8,H⟩:=H;refine yF H ?_ ?_<;>clear H<;>rintro rfl H
   ·obtain rfl:=zi H;repeat(first|go_big_quiet_skip|(go_big_quiet_want;go_big_quiet_op;first|go_big_quiet_on|(apply zU;intro W hW;(first|with_reducible rfl|(go_at_call 77;exact callD (spec_NameOk.calls aw _ _ _ A8.out) hW)|(go_simp;with_reducible rfl));go_big_quiet_on)))
    exact yW
   refine yGn H ?_ ?_<;>clear H<;>intro cL H
   ·refine yC H ?_ ?_<;>clear H<;>intro bu H
    ·have bN:=zgt bu;have bO:decide (50<((qE l0 aa).f2).length)=true:=z1 yo_;clear bu;obtain rfl:=zi H;repeat(first|go_big_quiet_skip|(go_big_quiet_want;go_big_quiet_op;first|go_big_quiet_on|(apply zU;intro W hW;(first|with_reducible rfl|(go_at_call 77;exact callD (spec_NameOk.calls aw _ _ _ A8.out) hW)|(go_simp;with_reducible rfl));go_big_quiet_on)))
     exact yW
    have bN:=zgtn bu;have bO:decide (50<((qE l0 aa).f2).length)=false:=z0 yo_;clear bu;refine yCn H ?_ ?_<;>clear H<;>intro bF H
    ·obtain⟨bP,bQ⟩:=zw bF;replace H:=yf H;obtain⟨dr,bG,H⟩:=H;refine yD H ?_ ?_<;>clear H<;>intro cM H
     ·obtain rfl:=zi H;repeat(first|go_big_quiet_skip|(go_big_quiet_want;go_big_quiet_op;first|go_big_quiet_on|(apply zU;intro W hW;(first|with_reducible rfl|(go_at_call 77;exact callD (spec_NameOk.calls aw _ _ _ A8.out) hW)|(go_at_call 147;exact callB (spec_l13Gen.calls aw _ _ _ _ _ _ _ _ (Kd.qD ac.out hW) aO.out bG.out) hW)|(go_simp;with_reducible rfl));go_big_quiet_on)))
      exact yW
     repeat(first|go_big_quiet_skip|(go_big_quiet_want;go_big_quiet_op;first|go_big_quiet_on|(apply zU;intro W hW;(first|with_reducible rfl|(go_at_call 77;exact callD (spec_NameOk.calls aw _ _ _ A8.out) hW)|(go_at_call 147;exact callB (spec_l13Gen.calls aw _ _ _ _ _ _ _ _ (Kd.qD ac.out hW) aO.out bG.out) hW)|(go_simp;with_reducible rfl));go_big_quiet_on)))
     clear HB;refine zW fun b3 (HB:Below w7.heap.size w7 b3)=>?_;go_wp2_with(fail)
     go_loopg[5] aw (fun kq v5 w'=>∃(ad:Int),v5= .int .i64 ad/\qA (spec_ProfilesOk.l1 kq l0 aa ad ((qE l0 aa).f0) ((qE l0 aa).f1) ((qE l0 aa).f2)=some r)/\qA (kq<=aw)/\qA (Below w7.heap.size w7 w'))
     case atStart=>exact⟨(0),zr,⟨H⟩,⟨Nat.le_refl _⟩,⟨HB⟩⟩
     case round=>
      clear H HB;obtain⟨ad,rfl,H,aC,HB⟩:=hrel;replace HB:=HB.out;replace H:=H.out;have aP:=yB w7;cases gk with
      |zero=>simp[spec_ProfilesOk.l1] at H
      |succ aX=>
       simp only[spec_ProfilesOk.l1] at H;refine yDn H ?_ ?_<;>clear H<;>intro ce H
       ·go_wp2_with(fail)
        go_roundg aX
        case measure=>exact yM2 aj aC
        case rel=>exact⟨(wrap64 (aa+1)),zr,⟨H⟩,⟨yM2 aj aC⟩,⟨zv ap.out HB⟩⟩
       replace H:=yAD H;obtain⟨cf,H⟩:=H;have bk:=yt (0<=(ad:Int));have bl:=yt ((ad:Int)<(((qE l0 aa).f2).length:Int));obtain⟨aJ,aR,ae,af⟩:=at_T139 ac.out ad z2 z2;cases aR;replace ae:=qJ ae;replace af:=qJ af;go_wp2_with(first|(refine zN 6 ?_;(try(refine z4 ?_;dsimp only));refine zX 6 139 #[.int .i64 0,.string (⟨#[]⟩:ByteArray)] ?_;intro ab hg bn hbox hb;have hge:w7.heap.size<=ab:=(by rw[hg];exact qF HB);clear hg;have hst:Below w7.heap.size w7 ((bn.setCell ⟨ab,0,none⟩ (.int .i64 ((qP ((qE l0 aa).f2) ad).f0))).setCell ⟨ab,1,none⟩ (.string ((qP ((qE l0 aa).f2) ad).f1))):=(qK (qK (zv HB hb) hge) hge);have hbx:((bn.setCell ⟨ab,0,none⟩ (.int .i64 ((qP ((qE l0 aa).f2) ad).f0))).setCell ⟨ab,1,none⟩ (.string ((qP ((qE l0 aa).f2) ad).f1))).heap[ab]?=some (.cells #[.int .i64 ((qP ((qE l0 aa).f2) ad).f0),.string ((qP ((qE l0 aa).f2) ad).f1)] 139 (0,0)):=(yP hbox);obtain⟨ay,az,aA,aB⟩:=zc2 hbox)|((with_reducible refine qQ (t:=139) (p:=6) rfl ?_);(try(refine z4 ?_;dsimp only));refine ye 139 6 ((bn.setCell ⟨ab,0,none⟩ (.int .i64 ((qP ((qE l0 aa).f2) ad).f0))).setCell ⟨ab,1,none⟩ (.string ((qP ((qE l0 aa).f2) ad).f1))) ?_;intro aM hw;replace hst:=hst;rw[<-hw] at hst hbx;clear hw hb hbox hge HB ay aA az aB;replace HW:=zz (zv HW.out hst);replace ap:=zz (zv ap.out hst);replace aP:=zz (zv aP.out hst);replace aL:=zz (Kd.qD aL.out hst);replace ac:=zz (Kd.qD ac.out hst);replace ak:=qG ak hst;replace al:=qG al hst;replace am:=qG am hst;replace ar:=qG ar hst;replace au:=qG au hst;replace av:=qG av hst;replace ae:=qG ae hst;replace af:=qG af hst;obtain⟨aS,aT⟩:=zx2 hbx;have HB:=Below.refl aM.heap.size aM;clear hbx hst))
       try simp only[Act.put,List.setIfInBounds_toArray,List.set_cons_zero,List.set_cons_succ]
       refine qS (C:=fun W_=>Below aM.heap.size aM W_) zk zk (qL HB) ?_;refine yD H ?_ ?_<;>clear H<;>intro cg H
       ·obtain rfl:=zi H;exact yQ
       refine yG H ?_ ?_<;>clear H<;>intro ch H
       ·obtain rfl:=zi H;exact yQ
       refine yGn H ?_ ?_<;>clear H<;>intro ci H
       ·replace H:=yf H;obtain⟨bo,b4,H⟩:=H;repeat(first|go_big_quiet_skip|(go_big_quiet_want;go_big_quiet_op;first|go_big_quiet_on|(apply zU;intro W hW;(first|with_reducible rfl|(go_at_call 91;exact callD (spec_AddressOk.calls aX _ _ _ b4.out) hW)|(go_simp;with_reducible rfl));go_big_quiet_on)))
        clear HB;refine zW fun b7 (HB:Below aM.heap.size aM b7)=>?_;refine yT H ?_ ?_<;>clear H<;>rintro rfl H
        ·go_wp2_with(fail)
         go_roundg aX
         case measure=>exact yM2 aj aC
         case rel=>exact⟨(wrap64 (ad+1)),zr,⟨H⟩,⟨yM2 aj aC⟩,⟨zv aP.out HB⟩⟩
        obtain rfl:=zi H;exact yR
       obtain⟨a6,aN⟩:∃j_:Int,(wrap64 (ad - 1))=j_:=⟨_,rfl⟩
       (first|rw[aN] at H|simp only[aN] at H)
       have cc:(IntKind.i64.wrap (ad - 1))=a6:=(i64_w _).trans aN
       (try rw[aN] at A8)
       (try rw[aN] at bG)
       replace H:=yAD H;obtain⟨cj,H⟩:=H;replace H:=yAD H;obtain⟨ck,H⟩:=H;have bq:=yt (0<=((a6):Int));have br:=yt (((a6):Int)<(((qE l0 aa).f2).length:Int));obtain⟨aK,aU,an,ao⟩:=at_T139 ac.out (a6) z2 z2;obtain rfl:aJ=aK:=(by injection aU)
       replace an:=qJ an;replace ao:=qJ ao;refine yE H ?_ ?_<;>clear H<;>intro cm H
       ·obtain rfl:=zi H;exact yQ
       replace H:=yf H;obtain⟨bs,b8,H⟩:=H;repeat(first|go_big_quiet_skip|(go_big_quiet_want;go_big_quiet_op;first|go_big_quiet_on|(apply zU;intro W hW;(first|with_reducible rfl|(go_at_call 91;exact callD (spec_AddressOk.calls aX _ _ _ b8.out) hW)|(go_simp;with_reducible rfl));go_big_quiet_on)))
       clear HB;refine zW fun ca (HB:Below aM.heap.size aM ca)=>?_;refine yT H ?_ ?_<;>clear H<;>rintro rfl H
       ·go_wp2_with(fail)
        go_roundg aX
        case measure=>exact yM2 aj aC
        case rel=>exact⟨(wrap64 (ad+1)),zr,⟨H⟩,⟨yM2 aj aC⟩,⟨zv aP.out HB⟩⟩
       obtain rfl:=zi H;exact yR
    obtain⟨bP,bQ⟩:=zq bF;clear bF;repeat(first|go_big_quiet_skip|(go_big_quiet_want;go_big_quiet_op;first|go_big_quiet_on|(apply zU;intro W hW;(first|with_reducible rfl|(go_at_call 77;exact callD (spec_NameOk.calls aw _ _ _ A8.out) hW)|(go_simp;with_reducible rfl));go_big_quiet_on)))
    clear HB;refine zW fun cn (HB:Below w7.heap.size w7 cn)=>?_;go_wp2_with(fail)
    go_loopg[5] aw (fun kq v5 w'=>∃(ag:Int),v5= .int .i64 ag/\qA (spec_ProfilesOk.l1 kq l0 aa ag ((qE l0 aa).f0) ((qE l0 aa).f1) ((qE l0 aa).f2)=some r)/\qA (kq<=aw)/\qA (Below w7.heap.size w7 w'))
    case atStart=>exact⟨(0),zr,⟨H⟩,⟨Nat.le_refl _⟩,⟨HB⟩⟩
    case round=>
     clear H HB;obtain⟨ag,rfl,H,aG,HB⟩:=hrel;replace HB:=HB.out;replace H:=H.out;have aY:=yB w7;cases gk with
     |zero=>simp[spec_ProfilesOk.l1] at H
     |succ ba=>
      simp only[spec_ProfilesOk.l1] at H;refine yDn H ?_ ?_<;>clear H<;>intro cN H
      ·go_wp2_with(fail)
       go_roundg ba
       case measure=>exact yM2 aj aG
       case rel=>exact⟨(wrap64 (aa+1)),zr,⟨H⟩,⟨yM2 aj aG⟩,⟨zv ap.out HB⟩⟩
      replace H:=yAD H;obtain⟨cO,H⟩:=H;have bk:=yt (0<=(ag:Int));have bl:=yt ((ag:Int)<(((qE l0 aa).f2).length:Int));obtain⟨aJ,aR,ae,af⟩:=at_T139 ac.out ag z2 z2;cases aR;replace ae:=qJ ae;replace af:=qJ af;go_wp2_with(first|(refine zN 6 ?_;(try(refine z4 ?_;dsimp only));refine zX 6 139 #[.int .i64 0,.string (⟨#[]⟩:ByteArray)] ?_;intro ab hg bH hbox hb;have hge:w7.heap.size<=ab:=(by rw[hg];exact qF HB);clear hg;have hst:Below w7.heap.size w7 ((bH.setCell ⟨ab,0,none⟩ (.int .i64 ((qP ((qE l0 aa).f2) ag).f0))).setCell ⟨ab,1,none⟩ (.string ((qP ((qE l0 aa).f2) ag).f1))):=(qK (qK (zv HB hb) hge) hge);have hbx:((bH.setCell ⟨ab,0,none⟩ (.int .i64 ((qP ((qE l0 aa).f2) ag).f0))).setCell ⟨ab,1,none⟩ (.string ((qP ((qE l0 aa).f2) ag).f1))).heap[ab]?=some (.cells #[.int .i64 ((qP ((qE l0 aa).f2) ag).f0),.string ((qP ((qE l0 aa).f2) ag).f1)] 139 (0,0)):=(yP hbox);obtain⟨ay,az,aA,aB⟩:=zc2 hbox)|((with_reducible refine qQ (t:=139) (p:=6) rfl ?_);(try(refine z4 ?_;dsimp only));refine ye 139 6 ((bH.setCell ⟨ab,0,none⟩ (.int .i64 ((qP ((qE l0 aa).f2) ag).f0))).setCell ⟨ab,1,none⟩ (.string ((qP ((qE l0 aa).f2) ag).f1))) ?_;intro a3 hw;replace hst:=hst;rw[<-hw] at hst hbx;clear hw hb hbox hge HB ay aA az aB;replace HW:=zz (zv HW.out hst);replace ap:=zz (zv ap.out hst);replace aY:=zz (zv aY.out hst);replace aL:=zz (Kd.qD aL.out hst);replace ac:=zz (Kd.qD ac.out hst);replace ak:=qG ak hst;replace al:=qG al hst;replace am:=qG am hst;replace ar:=qG ar hst;replace au:=qG au hst;replace av:=qG av hst;replace ae:=qG ae hst;replace af:=qG af hst;obtain⟨aS,aT⟩:=zx2 hbx;have HB:=Below.refl a3.heap.size a3;clear hbx hst))
      try simp only[Act.put,List.setIfInBounds_toArray,List.set_cons_zero,List.set_cons_succ]
      refine qS (C:=fun W_=>Below a3.heap.size a3 W_) zk zk (qL HB) ?_;refine yD H ?_ ?_<;>clear H<;>intro cP H
      ·obtain rfl:=zi H;exact yQ
      refine yG H ?_ ?_<;>clear H<;>intro cQ H
      ·obtain rfl:=zi H;exact yQ
      refine yG H ?_ ?_<;>clear H<;>intro cR H
      ·obtain⟨bh,a7⟩:∃j_:Int,(wrap64 (ag - 1))=j_:=⟨_,rfl⟩
       (first|rw[a7] at H|simp only[a7] at H)
       have co:(IntKind.i64.wrap (ag - 1))=bh:=(i64_w _).trans a7
       (try rw[a7] at A8)
       replace H:=yAD H;obtain⟨cS,H⟩:=H;replace H:=yAD H;obtain⟨cT,H⟩:=H;have bq:=yt (0<=((bh):Int));have br:=yt (((bh):Int)<(((qE l0 aa).f2).length:Int));obtain⟨aK,aU,an,ao⟩:=at_T139 ac.out (bh) z2 z2;obtain rfl:aJ=aK:=(by injection aU)
       replace an:=qJ an;replace ao:=qJ ao;refine yE H ?_ ?_<;>clear H<;>intro cU H
       ·obtain rfl:=zi H;exact yQ
       replace H:=yf H;obtain⟨bs,cp,H⟩:=H;repeat(first|go_big_quiet_skip|(go_big_quiet_want;go_big_quiet_op;first|go_big_quiet_on|(apply zU;intro W hW;(first|with_reducible rfl|(go_at_call 91;exact callD (spec_AddressOk.calls ba _ _ _ cp.out) hW)|(go_simp;with_reducible rfl));go_big_quiet_on)))
       clear HB;refine zW fun cq (HB:Below a3.heap.size a3 cq)=>?_;refine yT H ?_ ?_<;>clear H<;>rintro rfl H
       ·go_wp2_with(fail)
        go_roundg ba
        case measure=>exact yM2 aj aG
        case rel=>exact⟨(wrap64 (ag+1)),zr,⟨H⟩,⟨yM2 aj aG⟩,⟨zv aY.out HB⟩⟩
       obtain rfl:=zi H;exact yR
      replace H:=yf H;obtain⟨bo,cr,H⟩:=H;repeat(first|go_big_quiet_skip|(go_big_quiet_want;go_big_quiet_op;first|go_big_quiet_on|(apply zU;intro W hW;(first|with_reducible rfl|(go_at_call 91;exact callD (spec_AddressOk.calls ba _ _ _ cr.out) hW)|(go_simp;with_reducible rfl));go_big_quiet_on)))
      clear HB;refine zW fun ct (HB:Below a3.heap.size a3 ct)=>?_;refine yT H ?_ ?_<;>clear H<;>rintro rfl H
      ·go_wp2_with(fail)
       go_roundg ba
       case measure=>exact yM2 aj aG
       case rel=>exact⟨(wrap64 (ag+1)),zr,⟨H⟩,⟨yM2 aj aG⟩,⟨zv aY.out HB⟩⟩
      obtain rfl:=zi H;exact yR
   obtain⟨a2,a8⟩:∃j_:Int,(wrap64 (aa - 1))=j_:=⟨_,rfl⟩
   (first|rw[a8] at H|simp only[a8] at H)
   have cu:(IntKind.i64.wrap (aa - 1))=a2:=(i64_w _).trans a8
   (try rw[a8] at A8)
   replace H:=yAD H;obtain⟨cV,H⟩:=H;replace H:=yAD H;obtain⟨cW,H⟩:=H;have dt:=yt (0<=((a2):Int));have du:=yt (((a2):Int)<(l0.length:Int));obtain⟨bR,cv,cw,cb,aD,aE,aF,bf,bg⟩:=at_T137 aL.out (a2) z2 z2;obtain rfl:bM=bR:=(by injection cb)
   replace aD:=qJ aD;replace aE:=qJ aE;replace aF:=qJ aF;have aQ:=zz bg;have cd:=zz bf;clear bg bf;refine yCn H ?_ ?_<;>clear H<;>intro bv H
   ·have bS:(Op.bytesLess (((qE l0 (a2)).f0).toList) (((qE l0 aa).f0).toList))=false:=by simpa using bv
    clear bv;obtain rfl:=zi H;repeat(first|go_big_quiet_skip|(go_big_quiet_want;go_big_quiet_op;first|go_big_quiet_on|(apply zU;intro W hW;(first|with_reducible rfl|(go_at_call 77;exact callD (spec_NameOk.calls aw _ _ _ A8.out) hW)|(go_simp;with_reducible rfl));go_big_quiet_on)))
    exact yW
   have bS:(Op.bytesLess (((qE l0 (a2)).f0).toList) (((qE l0 aa).f0).toList))=true:=bv;clear bv;refine yC H ?_ ?_<;>clear H<;>intro bw H
   ·have bT:=zgt bw;have bU:decide (50<((qE l0 aa).f2).length)=true:=z1 yo_;clear bw;obtain rfl:=zi H;repeat(first|go_big_quiet_skip|(go_big_quiet_want;go_big_quiet_op;first|go_big_quiet_on|(apply zU;intro W hW;(first|with_reducible rfl|(go_at_call 77;exact callD (spec_NameOk.calls aw _ _ _ A8.out) hW)|(go_simp;with_reducible rfl));go_big_quiet_on)))
    exact yW
   have bT:=zgtn bw;have bU:decide (50<((qE l0 aa).f2).length)=false:=z0 yo_;clear bw;refine yCn H ?_ ?_<;>clear H<;>intro bI H
   ·obtain⟨bV,bW⟩:=zw bI;replace H:=yf H;obtain⟨dv,bJ,H⟩:=H;refine yD H ?_ ?_<;>clear H<;>intro cX H
    ·obtain rfl:=zi H;repeat(first|go_big_quiet_skip|(go_big_quiet_want;go_big_quiet_op;first|go_big_quiet_on|(apply zU;intro W hW;(first|with_reducible rfl|(go_at_call 77;exact callD (spec_NameOk.calls aw _ _ _ A8.out) hW)|(go_at_call 147;exact callB (spec_l13Gen.calls aw _ _ _ _ _ _ _ _ (Kd.qD ac.out hW) aO.out bJ.out) hW)|(go_simp;with_reducible rfl));go_big_quiet_on)))
     exact yW
    repeat(first|go_big_quiet_skip|(go_big_quiet_want;go_big_quiet_op;first|go_big_quiet_on|(apply zU;intro W hW;(first|with_reducible rfl|(go_at_call 77;exact callD (spec_NameOk.calls aw _ _ _ A8.out) hW)|(go_at_call 147;exact callB (spec_l13Gen.calls aw _ _ _ _ _ _ _ _ (Kd.qD ac.out hW) aO.out bJ.out) hW)|(go_simp;with_reducible rfl));go_big_quiet_on)))
    clear HB;refine zW fun cx (HB:Below w7.heap.size w7 cx)=>?_;go_wp2_with(fail)
    go_loopg[5] aw (fun kq v5 w'=>∃(ah:Int),v5= .int .i64 ah/\qA (spec_ProfilesOk.l1 kq l0 aa ah ((qE l0 aa).f0) ((qE l0 aa).f1) ((qE l0 aa).f2)=some r)/\qA (kq<=aw)/\qA (Below w7.heap.size w7 w'))
    case atStart=>exact⟨(0),zr,⟨H⟩,⟨Nat.le_refl _⟩,⟨HB⟩⟩
    case round=>
     clear H HB;obtain⟨ah,rfl,H,aH,HB⟩:=hrel;replace HB:=HB.out;replace H:=H.out;have aZ:=yB w7;cases gk with
     |zero=>simp[spec_ProfilesOk.l1] at H
     |succ bb=>
      simp only[spec_ProfilesOk.l1] at H;refine yDn H ?_ ?_<;>clear H<;>intro cY H
      ·go_wp2_with(fail)
       go_roundg bb
       case measure=>exact yM2 aj aH
       case rel=>exact⟨(wrap64 (aa+1)),zr,⟨H⟩,⟨yM2 aj aH⟩,⟨zv ap.out HB⟩⟩
      replace H:=yAD H;obtain⟨cZ,H⟩:=H;have bk:=yt (0<=(ah:Int));have bl:=yt ((ah:Int)<(((qE l0 aa).f2).length:Int));obtain⟨aJ,aR,ae,af⟩:=at_T139 ac.out ah z2 z2;cases aR;replace ae:=qJ ae;replace af:=qJ af;go_wp2_with(first|(refine zN 6 ?_;(try(refine z4 ?_;dsimp only));refine zX 6 139 #[.int .i64 0,.string (⟨#[]⟩:ByteArray)] ?_;intro ab hg bK hbox hb;have hge:w7.heap.size<=ab:=(by rw[hg];exact qF HB);clear hg;have hst:Below w7.heap.size w7 ((bK.setCell ⟨ab,0,none⟩ (.int .i64 ((qP ((qE l0 aa).f2) ah).f0))).setCell ⟨ab,1,none⟩ (.string ((qP ((qE l0 aa).f2) ah).f1))):=(qK (qK (zv HB hb) hge) hge);have hbx:((bK.setCell ⟨ab,0,none⟩ (.int .i64 ((qP ((qE l0 aa).f2) ah).f0))).setCell ⟨ab,1,none⟩ (.string ((qP ((qE l0 aa).f2) ah).f1))).heap[ab]?=some (.cells #[.int .i64 ((qP ((qE l0 aa).f2) ah).f0),.string ((qP ((qE l0 aa).f2) ah).f1)] 139 (0,0)):=(yP hbox);obtain⟨ay,az,aA,aB⟩:=zc2 hbox)|((with_reducible refine qQ (t:=139) (p:=6) rfl ?_);(try(refine z4 ?_;dsimp only));refine ye 139 6 ((bK.setCell ⟨ab,0,none⟩ (.int .i64 ((qP ((qE l0 aa).f2) ah).f0))).setCell ⟨ab,1,none⟩ (.string ((qP ((qE l0 aa).f2) ah).f1))) ?_;intro a4 hw;replace hst:=hst;rw[<-hw] at hst hbx;clear hw hb hbox hge HB ay aA az aB;replace HW:=zz (zv HW.out hst);replace ap:=zz (zv ap.out hst);replace aZ:=zz (zv aZ.out hst);replace ac:=zz (Kd.qD ac.out hst);replace ak:=qG ak hst;replace al:=qG al hst;replace am:=qG am hst;replace ar:=qG ar hst;replace au:=qG au hst;replace av:=qG av hst;replace aD:=qG aD hst;replace aE:=qG aE hst;replace aF:=qG aF hst;replace ae:=qG ae hst;replace af:=qG af hst;obtain⟨aS,aT⟩:=zx2 hbx;have HB:=Below.refl a4.heap.size a4;clear hbx hst))
      try simp only[Act.put,List.setIfInBounds_toArray,List.set_cons_zero,List.set_cons_succ]
      refine qS (C:=fun W_=>Below a4.heap.size a4 W_) zk zk (qL HB) ?_;refine yD H ?_ ?_<;>clear H<;>intro c5 H
      ·obtain rfl:=zi H;exact yQ
      refine yG H ?_ ?_<;>clear H<;>intro c6 H
      ·obtain rfl:=zi H;exact yQ
      refine yGn H ?_ ?_<;>clear H<;>intro c7 H
      ·replace H:=yf H;obtain⟨bo,cy,H⟩:=H;repeat(first|go_big_quiet_skip|(go_big_quiet_want;go_big_quiet_op;first|go_big_quiet_on|(apply zU;intro W hW;(first|with_reducible rfl|(go_at_call 91;exact callD (spec_AddressOk.calls bb _ _ _ cy.out) hW)|(go_simp;with_reducible rfl));go_big_quiet_on)))
       clear HB;refine zW fun cz (HB:Below a4.heap.size a4 cz)=>?_;refine yT H ?_ ?_<;>clear H<;>rintro rfl H
       ·go_wp2_with(fail)
        go_roundg bb
        case measure=>exact yM2 aj aH
        case rel=>exact⟨(wrap64 (ah+1)),zr,⟨H⟩,⟨yM2 aj aH⟩,⟨zv aZ.out HB⟩⟩
       obtain rfl:=zi H;exact yR
      obtain⟨bi,a0⟩:∃j_:Int,(wrap64 (ah - 1))=j_:=⟨_,rfl⟩
      (first|rw[a0] at H|simp only[a0] at H)
      have cA:(IntKind.i64.wrap (ah - 1))=bi:=(i64_w _).trans a0
      (try rw[a0] at A8)
      (try rw[a0] at bJ)
      replace H:=yAD H;obtain⟨c8,H⟩:=H;replace H:=yAD H;obtain⟨c9,H⟩:=H;have bq:=yt (0<=((bi):Int));have br:=yt (((bi):Int)<(((qE l0 aa).f2).length:Int));obtain⟨aK,aU,an,ao⟩:=at_T139 ac.out (bi) z2 z2;obtain rfl:aJ=aK:=(by injection aU)
      replace an:=qJ an;replace ao:=qJ ao;refine yE H ?_ ?_<;>clear H<;>intro da H
      ·obtain rfl:=zi H;exact yQ
      replace H:=yf H;obtain⟨bs,cB,H⟩:=H;repeat(first|go_big_quiet_skip|(go_big_quiet_want;go_big_quiet_op;first|go_big_quiet_on|(apply zU;intro W hW;(first|with_reducible rfl|(go_at_call 91;exact callD (spec_AddressOk.calls bb _ _ _ cB.out) hW)|(go_simp;with_reducible rfl));go_big_quiet_on)))
      clear HB;refine zW fun cC (HB:Below a4.heap.size a4 cC)=>?_;refine yT H ?_ ?_<;>clear H<;>rintro rfl H
      ·go_wp2_with(fail)
       go_roundg bb
       case measure=>exact yM2 aj aH
       case rel=>exact⟨(wrap64 (ah+1)),zr,⟨H⟩,⟨yM2 aj aH⟩,⟨zv aZ.out HB⟩⟩
      obtain rfl:=zi H;exact yR
   obtain⟨bV,bW⟩:=zq bI;clear bI;repeat(first|go_big_quiet_skip|(go_big_quiet_want;go_big_quiet_op;first|go_big_quiet_on|(apply zU;intro W hW;(first|with_reducible rfl|(go_at_call 77;exact callD (spec_NameOk.calls aw _ _ _ A8.out) hW)|(go_simp;with_reducible rfl));go_big_quiet_on)))
   clear HB;refine zW fun cD (HB:Below w7.heap.size w7 cD)=>?_;go_wp2_with(fail)
   go_loopg[5] aw (fun kq v5 w'=>∃(ai:Int),v5= .int .i64 ai/\qA (spec_ProfilesOk.l1 kq l0 aa ai ((qE l0 aa).f0) ((qE l0 aa).f1) ((qE l0 aa).f2)=some r)/\qA (kq<=aw)/\qA (Below w7.heap.size w7 w'))
   case atStart=>exact⟨(0),zr,⟨H⟩,⟨Nat.le_refl _⟩,⟨HB⟩⟩
   case round=>
    clear H HB;obtain⟨ai,rfl,H,aI,HB⟩:=hrel;replace HB:=HB.out;replace H:=H.out;have a1:=yB w7;cases gk with
    |zero=>simp[spec_ProfilesOk.l1] at H
    |succ bc=>
     simp only[spec_ProfilesOk.l1] at H;refine yDn H ?_ ?_<;>clear H<;>intro db H
     ·go_wp2_with(fail)
      go_roundg bc
      case measure=>exact yM2 aj aI
      case rel=>exact⟨(wrap64 (aa+1)),zr,⟨H⟩,⟨yM2 aj aI⟩,⟨zv ap.out HB⟩⟩
     replace H:=yAD H;obtain⟨dc,H⟩:=H;have bk:=yt (0<=(ai:Int));have bl:=yt ((ai:Int)<(((qE l0 aa).f2).length:Int));obtain⟨aJ,aR,ae,af⟩:=at_T139 ac.out ai z2 z2;cases aR;replace ae:=qJ ae;replace af:=qJ af;go_wp2_with(first|(refine zN 6 ?_;(try(refine z4 ?_;dsimp only));refine zX 6 139 #[.int .i64 0,.string (⟨#[]⟩:ByteArray)] ?_;intro ab hg bL hbox hb;have hge:w7.heap.size<=ab:=(by rw[hg];exact qF HB);clear hg;have hst:Below w7.heap.size w7 ((bL.setCell ⟨ab,0,none⟩ (.int .i64 ((qP ((qE l0 aa).f2) ai).f0))).setCell ⟨ab,1,none⟩ (.string ((qP ((qE l0 aa).f2) ai).f1))):=(qK (qK (zv HB hb) hge) hge);have hbx:((bL.setCell ⟨ab,0,none⟩ (.int .i64 ((qP ((qE l0 aa).f2) ai).f0))).setCell ⟨ab,1,none⟩ (.string ((qP ((qE l0 aa).f2) ai).f1))).heap[ab]?=some (.cells #[.int .i64 ((qP ((qE l0 aa).f2) ai).f0),.string ((qP ((qE l0 aa).f2) ai).f1)] 139 (0,0)):=(yP hbox);obtain⟨ay,az,aA,aB⟩:=zc2 hbox)|((with_reducible refine qQ (t:=139) (p:=6) rfl ?_);(try(refine z4 ?_;dsimp only));refine ye 139 6 ((bL.setCell ⟨ab,0,none⟩ (.int .i64 ((qP ((qE l0 aa).f2) ai).f0))).setCell ⟨ab,1,none⟩ (.string ((qP ((qE l0 aa).f2) ai).f1))) ?_;intro a5 hw;replace hst:=hst;rw[<-hw] at hst hbx;clear hw hb hbox hge HB ay aA az aB;replace HW:=zz (zv HW.out hst);replace ap:=zz (zv ap.out hst);replace a1:=zz (zv a1.out hst);replace ac:=zz (Kd.qD ac.out hst);replace ak:=qG ak hst;replace al:=qG al hst;replace am:=qG am hst;replace ar:=qG ar hst;replace au:=qG au hst;replace av:=qG av hst;replace aD:=qG aD hst;replace aE:=qG aE hst;replace aF:=qG aF hst;replace ae:=qG ae hst;replace af:=qG af hst;obtain⟨aS,aT⟩:=zx2 hbx;have HB:=Below.refl a5.heap.size a5;clear hbx hst))
     try simp only[Act.put,List.setIfInBounds_toArray,List.set_cons_zero,List.set_cons_succ]
     refine qS (C:=fun W_=>Below a5.heap.size a5 W_) zk zk (qL HB) ?_;refine yD H ?_ ?_<;>clear H<;>intro de H
     ·obtain rfl:=zi H;exact yQ
     refine yG H ?_ ?_<;>clear H<;>intro df H
     ·obtain rfl:=zi H;exact yQ
     refine yG H ?_ ?_<;>clear H<;>intro dh H
     ·obtain⟨bj,a9⟩:∃j_:Int,(wrap64 (ai - 1))=j_:=⟨_,rfl⟩
      (first|rw[a9] at H|simp only[a9] at H)
      have cE:(IntKind.i64.wrap (ai - 1))=bj:=(i64_w _).trans a9
      (try rw[a9] at A8)
      replace H:=yAD H;obtain⟨di,H⟩:=H;replace H:=yAD H;obtain⟨dj,H⟩:=H;have bq:=yt (0<=((bj):Int));have br:=yt (((bj):Int)<(((qE l0 aa).f2).length:Int));obtain⟨aK,aU,an,ao⟩:=at_T139 ac.out (bj) z2 z2;obtain rfl:aJ=aK:=(by injection aU)
      replace an:=qJ an;replace ao:=qJ ao;refine yE H ?_ ?_<;>clear H<;>intro dk H
      ·obtain rfl:=zi H;exact yQ
      replace H:=yf H;obtain⟨bs,cF,H⟩:=H;repeat(first|go_big_quiet_skip|(go_big_quiet_want;go_big_quiet_op;first|go_big_quiet_on|(apply zU;intro W hW;(first|with_reducible rfl|(go_at_call 91;exact callD (spec_AddressOk.calls bc _ _ _ cF.out) hW)|(go_simp;with_reducible rfl));go_big_quiet_on)))
      clear HB;refine zW fun cG (HB:Below a5.heap.size a5 cG)=>?_;refine yT H ?_ ?_<;>clear H<;>rintro rfl H
      ·go_wp2_with(fail)
       go_roundg bc
       case measure=>exact yM2 aj aI
       case rel=>exact⟨(wrap64 (ai+1)),zr,⟨H⟩,⟨yM2 aj aI⟩,⟨zv a1.out HB⟩⟩
      obtain rfl:=zi H;exact yR
     replace H:=yf H;obtain⟨bo,cH,H⟩:=H;repeat(first|go_big_quiet_skip|(go_big_quiet_want;go_big_quiet_op;first|go_big_quiet_on|(apply zU;intro W hW;(first|with_reducible rfl|(go_at_call 91;exact callD (spec_AddressOk.calls bc _ _ _ cH.out) hW)|(go_simp;with_reducible rfl));go_big_quiet_on)))
     clear HB;refine zW fun cI (HB:Below a5.heap.size a5 cI)=>?_;refine yT H ?_ ?_<;>clear H<;>rintro rfl H
     ·go_wp2_with(fail)
      go_roundg bc
      case measure=>exact yM2 aj aI
      case rel=>exact⟨(wrap64 (ai+1)),zr,⟨H⟩,⟨yM2 aj aI⟩,⟨zv a1.out HB⟩⟩
     obtain rfl:=zi H;exact yR
end Go.Proofs.YtmdoobnlehkmpaaGreatDoor.Q
