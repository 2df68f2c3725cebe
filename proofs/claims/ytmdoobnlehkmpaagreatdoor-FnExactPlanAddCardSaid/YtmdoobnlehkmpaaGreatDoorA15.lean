import Derived.Test.YtmdoobnlehkmpaaGreatDoorA04
set_option linter.unusedVariables false
set_option linter.unusedSimpArgs false
namespace Go.Proofs.YtmdoobnlehkmpaaGreatDoor.Q
open Go.RowKit W1 W2 W3
attribute [local go_sem] max2_int min2_int max_two min_two max_three min_three max_four min_four
attribute [local go_sem high] bl_leq bl_gtr bl_geq
set_option maxHeartbeats 8000000
set_option maxRecDepth 100000
mutual
def impl_ProfilesOk.l0:Nat→List (S137)→List (S137)→Int→Int→Option (Bool)
 |0,_,_,_,_=>none
 |k+1,x0,ab,ah,aa=>if aa<ah then(if 0≤aa then(if aa<(ab.length:Int) then((impl_NameOk.f k ((qD ab aa).f0)).bind fun aj=>(if aj=true then(if aa>0 then(if 0≤(wrap64 (aa - 1)) then(if(wrap64 (aa - 1))<(x0.length:Int) then(if((Op.bytesLess (((qD x0 (wrap64 (aa - 1))).f0).toList) (((qD ab aa).f0).toList))=true) then(if(((qD ab aa).f2).length:Int)>50 then(some false) else(impl_ProfilesOk.l1 k x0 (((qD ab aa).f1)==0) ab ah aa ((qD ab aa).f2) (((qD ab aa).f2).length:Int) 0 ((qD ab aa).f0) ((qD ab aa).f1) ((qD ab aa).f2))) else(some false)) else(none)) else(none)) else(if(((qD ab aa).f2).length:Int)>50 then(some false) else(impl_ProfilesOk.l1 k x0 (((qD ab aa).f1)==0) ab ah aa ((qD ab aa).f2) (((qD ab aa).f2).length:Int) 0 ((qD ab aa).f0) ((qD ab aa).f1) ((qD ab aa).f2)))) else(some false))) else(none)) else(none)) else(some true)
def impl_ProfilesOk.l1:Nat→List (S137)→Bool→List (S137)→Int→Int→List (S139)→Int→Int→ByteArray→Int→List (S139)→Option (Bool)
 |0,_,_,_,_,_,_,_,_,_,_,_=>none
 |k+1,x0,x5,ab,ah,aa,af,ai,ac,ag,ad,ae=>if ac<ai then(if 0≤ac then(if ac<(af.length:Int) then(if((qP af ac).f0)<1 then(some false) else(if((qP af ac).f0)>9007199254740992 then(some false) else((impl_AddressOk.f k ((qP af ac).f1)).bind fun ak=>(if ak=true then(if ac>0 then(if 0≤(wrap64 (ac - 1)) then(if(wrap64 (ac - 1))<(ae.length:Int) then(if((qP ae (wrap64 (ac - 1))).f0)≥((qP af ac).f0) then(some false) else(if x5=true then(impl_ProfilesOk.l1 k x0 true ab ah aa af ai (wrap64 (ac+1)) ag ad ae) else(impl_ProfilesOk.l1 k x0 (((qP af ac).f0)==ad) ab ah aa af ai (wrap64 (ac+1)) ag ad ae))) else(none)) else(none)) else(if x5=true then(impl_ProfilesOk.l1 k x0 true ab ah aa af ai (wrap64 (ac+1)) ag ad ae) else(impl_ProfilesOk.l1 k x0 (((qP af ac).f0)==ad) ab ah aa af ai (wrap64 (ac+1)) ag ad ae))) else(some false))))) else(none)) else(none)) else(if x5=true then(impl_ProfilesOk.l0 k x0 ab ah (wrap64 (aa+1))) else(some false))
end
def impl_ProfilesOk.f(k:Nat)(l0:List (S137)):Option (Bool):=if(l0.length:Int)>20 then(some false) else(impl_ProfilesOk.l0 k l0 l0 (l0.length:Int) 0)
theorem impl_ProfilesOk.calls(k:Nat)(A0:Option Addr)(c0:Nat)(l0:List (S137))(r:Bool)(w:World)(bv:Kd.C k137 w A0 l0.length l0)(bw:l0.length≤c0)(h:impl_ProfilesOk.f k l0=some r):
 Calls Tryz.prog 100 #[.slice A0 l0.length c0] w fun e w'=>e= .returned (.bool r)∧Below w.heap.size w w':=by
 have ca:=Tryz.underlying137
 have cb:=Tryz.underlying139
 have aS:=zz bv
 have cI:=zz bw
 clear bv bw
 have HB:=yB w
 unfold impl_ProfilesOk.f at h
 have H:=h
 clear h
 replace HB:=HB.out
 have HW:=yB w
 go_enter Tryz.func100,Tryz.ntmps100
 refine yC H ?_ ?_<;>clear H<;>intro c2 H
 ·have bz:=zgt c2
  have bA:decide (20<l0.length)=true:=z1 (by omega)
  clear c2
  obtain rfl:=zi H
  exact yR
 have bz:=zgtn c2
 have bA:decide (20<l0.length)=false:=z0 (by omega)
 clear c2
 go_wp2_with(fail)
 go_loopg[13] k (fun kq bK w'=>∃(aa:Int),bK= .int .i64 aa∧qC (impl_ProfilesOk.l0 kq l0 l0 (l0.length:Int) aa=some r)∧qC (kq≤k)∧qC (Below w.heap.size w w'))
 case atStart=>exact⟨(0),zr,⟨H⟩,⟨Nat.le_refl _⟩,⟨HB⟩⟩
 case round=>
  clear H HB
  obtain⟨aa,rfl,H,ad,HB⟩:=hrel
  replace HB:=HB.out
  replace H:=H.out
  have av:=yB w
  cases gk with
  |zero=>exact absurd H (by simp[impl_ProfilesOk.l0])
  |succ aG=>
   simp only[impl_ProfilesOk.l0] at H
   refine yDn H ?_ ?_<;>clear H<;>intro cA H
   ·obtain rfl:=zi H
    exact yR
   replace H:=yAD H
   obtain⟨cB,H⟩:=H
   replace H:=yAD H
   obtain⟨cC,H⟩:=H
   have cD:=yt (0≤(aa:Int))
   have cE:=yt ((aa:Int)<(l0.length:Int))
   obtain⟨bl,aH,aI,bB,ak,al,am,aW,aX⟩:=at_T137 aS.out aa z2 z2
   cases bB
   replace ak:=qH ak
   replace al:=qH al
   replace am:=qH am
   have af:=zz aX
   have bI:=zz aW
   clear aX aW
   go_wp2_with(first|(refine zN 4 ?_;(try(refine z4 ?_;dsimp only));refine zX 4 137 #[.string (⟨#[]⟩:ByteArray),.int .i64 0,.slice none 0 0] ?_;intro an hg w7 hbox hb;have hge:w.heap.size≤an:=(by rw[hg];exact qF HB);clear hg;have hst:Below w.heap.size w (((w7.setCell ⟨an,0,none⟩ (.string ((qD l0 aa).f0))).setCell ⟨an,1,none⟩ (.int .i64 ((qD l0 aa).f1))).setCell ⟨an,2,none⟩ (.slice aH ((qD l0 aa).f2).length aI)):=(qJ (qJ (qJ (zv HB hb) hge) hge) hge);have hbx:(((w7.setCell ⟨an,0,none⟩ (.string ((qD l0 aa).f0))).setCell ⟨an,1,none⟩ (.int .i64 ((qD l0 aa).f1))).setCell ⟨an,2,none⟩ (.slice aH ((qD l0 aa).f2).length aI)).heap[an]?=some (.cells #[.string ((qD l0 aa).f0),.int .i64 ((qD l0 aa).f1),.slice aH ((qD l0 aa).f2).length aI] 137 (0,0)):=(yP hbox);obtain⟨bc,bd,be,bf,bg,bh⟩:=zc3 hbox)|((with_reducible refine qQ (t:=137) (p:=4) rfl ?_);(try(refine z4 ?_;dsimp only));refine qN (t:=137) (p:=4) (v:=?cc) (w1:=(((w7.setCell ⟨an,0,none⟩ (.string ((qD l0 aa).f0))).setCell ⟨an,1,none⟩ (.int .i64 ((qD l0 aa).f1))).setCell ⟨an,2,none⟩ (.slice aH ((qD l0 aa).f2).length aI))) ?hg ?ho ?hn ?hr ?_;(case ho=>rfl);(case hg=>rfl);(case hn=>rfl);(case hr=>first|(go_simp;done)|(go_simp;rfl));intro w8 hw;replace hst:=hst;rw[←hw] at hst hbx;clear hw hb hbox hge HB bc bf bd bg be bh;replace HW:=zz (zv HW.out hst);replace av:=zz (zv av.out hst);replace aS:=zz (Kd.qB aS.out hst);replace af:=zz (Kd.qB af.out hst);replace ak:=qG ak hst;replace al:=qG al hst;replace am:=qG am hst;obtain⟨aA,aB,aC⟩:=zx3 hbx;have HB:=Below.refl w8.heap.size w8;clear hbx hst))
   try simp only[Act.put,List.setIfInBounds_toArray,List.set_cons_zero,List.set_cons_succ]
   refine qR (C:=fun W_=>Below w8.heap.size w8 W_) zk zk (qK HB) ?_
   replace H:=yf H
   obtain⟨cF,A9,H⟩:=H
   refine yF H ?_ ?_<;>clear H<;>rintro rfl H
   ·obtain rfl:=zi H
    repeat(first|go_big_quiet_skip|(go_big_quiet_want;go_big_quiet_op;first|go_big_quiet_on|(with_reducible apply Exists.intro;refine⟨fun W hW=>?_,?_⟩;(first|with_reducible rfl|(go_at_call 80;exact callD (impl_NameOk.calls aG _ _ _ A9.out) hW)|(go_simp;with_reducible rfl));go_big_quiet_on)))
    clear HB
    refine zW fun bL (HB:Below w8.heap.size w8 bL)=>?_
    exact yR
   refine yGn H ?_ ?_<;>clear H<;>intro cd H
   ·refine yC H ?_ ?_<;>clear H<;>intro a9 H
    ·have bn:=zgt a9
     have bo:decide (50<((qD l0 aa).f2).length)=true:=z1 (by omega)
     clear a9
     obtain rfl:=zi H
     repeat(first|go_big_quiet_skip|(go_big_quiet_want;go_big_quiet_op;first|go_big_quiet_on|(with_reducible apply Exists.intro;refine⟨fun W hW=>?_,?_⟩;(first|with_reducible rfl|(go_at_call 80;exact callD (impl_NameOk.calls aG _ _ _ A9.out) hW)|(go_simp;with_reducible rfl));go_big_quiet_on)))
     clear HB
     refine zW fun bM (HB:Below w8.heap.size w8 bM)=>?_
     exact yR
    have bn:=zgtn a9
    have bo:decide (50<((qD l0 aa).f2).length)=false:=z0 (by omega)
    clear a9
    repeat(first|go_big_quiet_skip|(go_big_quiet_want;go_big_quiet_op;first|go_big_quiet_on|(with_reducible apply Exists.intro;refine⟨fun W hW=>?_,?_⟩;(first|with_reducible rfl|(go_at_call 80;exact callD (impl_NameOk.calls aG _ _ _ A9.out) hW)|(go_simp;with_reducible rfl));go_big_quiet_on)))
    clear HB
    refine zW fun bN (HB:Below w8.heap.size w8 bN)=>?_
    go_wp2_with(fail)
    go_loopg[5,49] aG (fun kq v5 bi w'=>∃(aL:Bool) (ab:Int),v5= .bool aL∧bi= .int .i64 ab∧qC (impl_ProfilesOk.l1 kq l0 aL l0 (l0.length:Int) aa ((qD l0 aa).f2) (((qD l0 aa).f2).length:Int) ab ((qD l0 aa).f0) ((qD l0 aa).f1) ((qD l0 aa).f2)=some r)∧qC (kq≤aG)∧qC (Below w8.heap.size w8 w'))
    case atStart=>exact⟨((((qD l0 aa).f1)==0)),(0),zr,zr,⟨H⟩,⟨Nat.le_refl _⟩,⟨HB⟩⟩
    case round=>
     clear H HB
     obtain⟨aL,ab,rfl,rfl,H,ai,HB⟩:=hrel
     replace HB:=HB.out
     replace H:=H.out
     have aw:=yB w8
     cases gk with
     |zero=>exact absurd H (by simp[impl_ProfilesOk.l1])
     |succ ar=>
      simp only[impl_ProfilesOk.l1] at H
      refine yD H ?_ ?_<;>clear H<;>intro ce H
      ·replace H:=yAD H
       obtain⟨cf,H⟩:=H
       replace H:=yAD H
       obtain⟨cg,H⟩:=H
       have bC:=yt (0≤(ab:Int))
       have bD:=yt ((ab:Int)<(((qD l0 aa).f2).length:Int))
       obtain⟨a1,a5,ag,ah⟩:=at_T139 af.out ab z2 z2
       cases a5
       replace ag:=qH ag
       replace ah:=qH ah
       go_wp2_with(first|(refine zN 7 ?_;(try(refine z4 ?_;dsimp only));refine zX 7 139 #[.int .i64 0,.string (⟨#[]⟩:ByteArray)] ?_;intro ae hg bj hbox hb;have hge:w8.heap.size≤ae:=(by rw[hg];exact qF HB);clear hg;have hst:Below w8.heap.size w8 ((bj.setCell ⟨ae,0,none⟩ (.int .i64 ((qP ((qD l0 aa).f2) ab).f0))).setCell ⟨ae,1,none⟩ (.string ((qP ((qD l0 aa).f2) ab).f1))):=(qJ (qJ (zv HB hb) hge) hge);have hbx:((bj.setCell ⟨ae,0,none⟩ (.int .i64 ((qP ((qD l0 aa).f2) ab).f0))).setCell ⟨ae,1,none⟩ (.string ((qP ((qD l0 aa).f2) ab).f1))).heap[ae]?=some (.cells #[.int .i64 ((qP ((qD l0 aa).f2) ab).f0),.string ((qP ((qD l0 aa).f2) ab).f1)] 139 (0,0)):=(yP hbox);obtain⟨aM,aN,aO,aP⟩:=zc2 hbox)|((with_reducible refine qQ (t:=139) (p:=7) rfl ?_);(try(refine z4 ?_;dsimp only));refine qN (t:=139) (p:=7) (v:=?bO) (w1:=((bj.setCell ⟨ae,0,none⟩ (.int .i64 ((qP ((qD l0 aa).f2) ab).f0))).setCell ⟨ae,1,none⟩ (.string ((qP ((qD l0 aa).f2) ab).f1)))) ?hg ?ho ?hn ?hr ?_;(case ho=>rfl);(case hg=>rfl);(case hn=>rfl);(case hr=>first|(go_simp;done)|(go_simp;rfl));intro ao hw;replace hst:=hst;rw[←hw] at hst hbx;clear hw hb hbox hge HB aM aO aN aP;replace HW:=zz (zv HW.out hst);replace av:=zz (zv av.out hst);replace aw:=zz (zv aw.out hst);replace aS:=zz (Kd.qB aS.out hst);replace af:=zz (Kd.qB af.out hst);replace ak:=qG ak hst;replace al:=qG al hst;replace am:=qG am hst;replace aA:=qG aA hst;replace aB:=qG aB hst;replace aC:=qG aC hst;replace ag:=qG ag hst;replace ah:=qG ah hst;obtain⟨a6,a7⟩:=zx2 hbx;have HB:=Below.refl ao.heap.size ao;clear hbx hst))
       try simp only[Act.put,List.setIfInBounds_toArray,List.set_cons_zero,List.set_cons_succ]
       refine qR (C:=fun W_=>Below ao.heap.size ao W_) zk zk (qK HB) ?_
       refine yD H ?_ ?_<;>clear H<;>intro ch H
       ·obtain rfl:=zi H
        exact yQ
       refine yG H ?_ ?_<;>clear H<;>intro ci H
       ·obtain rfl:=zi H
        exact yQ
       replace H:=yf H
       obtain⟨bE,aU,H⟩:=H
       refine yF H ?_ ?_<;>clear H<;>rintro rfl H
       ·obtain rfl:=zi H
        repeat(first|go_big_quiet_skip|(go_big_quiet_want;go_big_quiet_op;first|go_big_quiet_on|(with_reducible apply Exists.intro;refine⟨fun W hW=>?_,?_⟩;(first|with_reducible rfl|(go_at_call 102;exact callD (impl_AddressOk.calls ar _ _ _ aU.out) hW)|(go_simp;with_reducible rfl));go_big_quiet_on)))
        clear HB
        refine zW fun bP (HB:Below ao.heap.size ao bP)=>?_
        exact yR
       refine yGn H ?_ ?_<;>clear H<;>intro cj H
       ·refine yT H ?_ ?_<;>clear H<;>rintro rfl H
        ·repeat(first|go_big_quiet_skip|(go_big_quiet_want;go_big_quiet_op;first|go_big_quiet_on|(with_reducible apply Exists.intro;refine⟨fun W hW=>?_,?_⟩;(first|with_reducible rfl|(go_at_call 102;exact callD (impl_AddressOk.calls ar _ _ _ aU.out) hW)|(go_simp;with_reducible rfl));go_big_quiet_on)))
         clear HB
         refine zW fun bQ (HB:Below ao.heap.size ao bQ)=>?_
         go_wp2_with(fail)
         go_roundg ar
         case measure=>have:=ad.out;have:=ai.out;omega
         case rel=>exact⟨(true),(wrap64 (ab+1)),zr,zr,⟨H⟩,⟨by have:=ad.out;have:=ai.out;omega⟩,⟨zv aw.out HB⟩⟩
        repeat(first|go_big_quiet_skip|(go_big_quiet_want;go_big_quiet_op;first|go_big_quiet_on|(with_reducible apply Exists.intro;refine⟨fun W hW=>?_,?_⟩;(first|with_reducible rfl|(go_at_call 102;exact callD (impl_AddressOk.calls ar _ _ _ aU.out) hW)|(go_simp;with_reducible rfl));go_big_quiet_on)))
        clear HB
        refine zW fun bR (HB:Below ao.heap.size ao bR)=>?_
        go_wp2_with(fail)
        go_roundg ar
        case measure=>have:=ad.out;have:=ai.out;omega
        case rel=>exact⟨((((qP ((qD l0 aa).f2) ab).f0)==((qD l0 aa).f1))),(wrap64 (ab+1)),zr,zr,⟨H⟩,⟨by have:=ad.out;have:=ai.out;omega⟩,⟨zv aw.out HB⟩⟩
       obtain⟨a2,aJ⟩:∃j_:Int,(wrap64 (ab - 1))=j_:=⟨_,rfl⟩
       (first|rw[aJ] at H|simp only[aJ] at H)
       have bS:(IntKind.i64.wrap (ab - 1))=a2:=(i64_w _).trans aJ
       (try rw[aJ] at A9)
       (try rw[aJ] at aU)
       replace H:=yAD H
       obtain⟨ck,H⟩:=H
       replace H:=yAD H
       obtain⟨cm,H⟩:=H
       have bF:=yt (0≤((a2):Int))
       have bG:=yt (((a2):Int)<(((qD l0 aa).f2).length:Int))
       obtain⟨a3,a8,ax,ay⟩:=at_T139 af.out (a2) z2 z2
       obtain rfl:a1=a3:=(by injection a8)
       replace ax:=qH ax
       replace ay:=qH ay
       refine yE H ?_ ?_<;>clear H<;>intro cn H
       ·obtain rfl:=zi H
        repeat(first|go_big_quiet_skip|(go_big_quiet_want;go_big_quiet_op;first|go_big_quiet_on|(with_reducible apply Exists.intro;refine⟨fun W hW=>?_,?_⟩;(first|with_reducible rfl|(go_at_call 102;exact callD (impl_AddressOk.calls ar _ _ _ aU.out) hW)|(go_simp;with_reducible rfl));go_big_quiet_on)))
        clear HB
        refine zW fun bT (HB:Below ao.heap.size ao bT)=>?_
        exact yR
       refine yT H ?_ ?_<;>clear H<;>rintro rfl H
       ·repeat(first|go_big_quiet_skip|(go_big_quiet_want;go_big_quiet_op;first|go_big_quiet_on|(with_reducible apply Exists.intro;refine⟨fun W hW=>?_,?_⟩;(first|with_reducible rfl|(go_at_call 102;exact callD (impl_AddressOk.calls ar _ _ _ aU.out) hW)|(go_simp;with_reducible rfl));go_big_quiet_on)))
        clear HB
        refine zW fun bU (HB:Below ao.heap.size ao bU)=>?_
        go_wp2_with(fail)
        go_roundg ar
        case measure=>have:=ad.out;have:=ai.out;omega
        case rel=>exact⟨(true),(wrap64 (ab+1)),zr,zr,⟨H⟩,⟨by have:=ad.out;have:=ai.out;omega⟩,⟨zv aw.out HB⟩⟩
       repeat(first|go_big_quiet_skip|(go_big_quiet_want;go_big_quiet_op;first|go_big_quiet_on|(with_reducible apply Exists.intro;refine⟨fun W hW=>?_,?_⟩;(first|with_reducible rfl|(go_at_call 102;exact callD (impl_AddressOk.calls ar _ _ _ aU.out) hW)|(go_simp;with_reducible rfl));go_big_quiet_on)))
       clear HB
       refine zW fun bV (HB:Below ao.heap.size ao bV)=>?_
       go_wp2_with(fail)
       go_roundg ar
       case measure=>have:=ad.out;have:=ai.out;omega
       case rel=>exact⟨((((qP ((qD l0 aa).f2) ab).f0)==((qD l0 aa).f1))),(wrap64 (ab+1)),zr,zr,⟨H⟩,⟨by have:=ad.out;have:=ai.out;omega⟩,⟨zv aw.out HB⟩⟩
      refine yT H ?_ ?_<;>clear H<;>rintro rfl H
      ·go_wp2_with(fail)
       go_roundg ar
       case measure=>have:=ad.out;have:=ai.out;omega
       case rel=>exact⟨(wrap64 (aa+1)),zr,⟨H⟩,⟨by have:=ad.out;have:=ai.out;omega⟩,⟨zv av.out HB⟩⟩
      obtain rfl:=zi H
      exact yR
   obtain⟨aQ,aT⟩:∃j_:Int,(wrap64 (aa - 1))=j_:=⟨_,rfl⟩
   (first|rw[aT] at H|simp only[aT] at H)
   have bW:(IntKind.i64.wrap (aa - 1))=aQ:=(i64_w _).trans aT
   (try rw[aT] at A9)
   replace H:=yAD H
   obtain⟨co,H⟩:=H
   replace H:=yAD H
   obtain⟨cp,H⟩:=H
   have cG:=yt (0≤((aQ):Int))
   have cH:=yt (((aQ):Int)<(l0.length:Int))
   obtain⟨bq,bX,bY,bH,aD,aE,aF,aY,aZ⟩:=at_T137 aS.out (aQ) z2 z2
   obtain rfl:bl=bq:=(by injection bH)
   replace aD:=qH aD
   replace aE:=qH aE
   replace aF:=qH aF
   have a0:=zz aZ
   have bJ:=zz aY
   clear aZ aY
   refine yCn H ?_ ?_<;>clear H<;>intro ba H
   ·have br:(Op.bytesLess (((qD l0 (aQ)).f0).toList) (((qD l0 aa).f0).toList))=false:=by simpa using ba
    clear ba
    obtain rfl:=zi H
    repeat(first|go_big_quiet_skip|(go_big_quiet_want;go_big_quiet_op;first|go_big_quiet_on|(with_reducible apply Exists.intro;refine⟨fun W hW=>?_,?_⟩;(first|with_reducible rfl|(go_at_call 80;exact callD (impl_NameOk.calls aG _ _ _ A9.out) hW)|(go_simp;with_reducible rfl));go_big_quiet_on)))
    clear HB
    refine zW fun bZ (HB:Below w8.heap.size w8 bZ)=>?_
    exact yR
   have br:(Op.bytesLess (((qD l0 (aQ)).f0).toList) (((qD l0 aa).f0).toList))=true:=ba
   clear ba
   refine yC H ?_ ?_<;>clear H<;>intro bb H
   ·have bs:=zgt bb
    have bu:decide (50<((qD l0 aa).f2).length)=true:=z1 (by omega)
    clear bb
    obtain rfl:=zi H
    repeat(first|go_big_quiet_skip|(go_big_quiet_want;go_big_quiet_op;first|go_big_quiet_on|(with_reducible apply Exists.intro;refine⟨fun W hW=>?_,?_⟩;(first|with_reducible rfl|(go_at_call 80;exact callD (impl_NameOk.calls aG _ _ _ A9.out) hW)|(go_simp;with_reducible rfl));go_big_quiet_on)))
    clear HB
    refine zW fun b0 (HB:Below w8.heap.size w8 b0)=>?_
    exact yR
   have bs:=zgtn bb
   have bu:decide (50<((qD l0 aa).f2).length)=false:=z0 (by omega)
   clear bb
   repeat(first|go_big_quiet_skip|(go_big_quiet_want;go_big_quiet_op;first|go_big_quiet_on|(with_reducible apply Exists.intro;refine⟨fun W hW=>?_,?_⟩;(first|with_reducible rfl|(go_at_call 80;exact callD (impl_NameOk.calls aG _ _ _ A9.out) hW)|(go_simp;with_reducible rfl));go_big_quiet_on)))
   clear HB
   refine zW fun b1 (HB:Below w8.heap.size w8 b1)=>?_
   go_wp2_with(fail)
   go_loopg[5,49] aG (fun kq v5 bi w'=>∃(aR:Bool) (ac:Int),v5= .bool aR∧bi= .int .i64 ac∧qC (impl_ProfilesOk.l1 kq l0 aR l0 (l0.length:Int) aa ((qD l0 aa).f2) (((qD l0 aa).f2).length:Int) ac ((qD l0 aa).f0) ((qD l0 aa).f1) ((qD l0 aa).f2)=some r)∧qC (kq≤aG)∧qC (Below w8.heap.size w8 w'))
   case atStart=>exact⟨((((qD l0 aa).f1)==0)),(0),zr,zr,⟨H⟩,⟨Nat.le_refl _⟩,⟨HB⟩⟩
   case round=>
    clear H HB
    obtain⟨aR,ac,rfl,rfl,H,aj,HB⟩:=hrel
    replace HB:=HB.out
    replace H:=H.out
    have az:=yB w8
    cases gk with
    |zero=>exact absurd H (by simp[impl_ProfilesOk.l1])
    |succ au=>
     simp only[impl_ProfilesOk.l1] at H
     refine yD H ?_ ?_<;>clear H<;>intro cq H
     ·replace H:=yAD H
      obtain⟨cr,H⟩:=H
      replace H:=yAD H
      obtain⟨ct,H⟩:=H
      have bC:=yt (0≤(ac:Int))
      have bD:=yt ((ac:Int)<(((qD l0 aa).f2).length:Int))
      obtain⟨a1,a5,ag,ah⟩:=at_T139 af.out ac z2 z2
      cases a5
      replace ag:=qH ag
      replace ah:=qH ah
      go_wp2_with(first|(refine zN 7 ?_;(try(refine z4 ?_;dsimp only));refine zX 7 139 #[.int .i64 0,.string (⟨#[]⟩:ByteArray)] ?_;intro ae hg bk hbox hb;have hge:w8.heap.size≤ae:=(by rw[hg];exact qF HB);clear hg;have hst:Below w8.heap.size w8 ((bk.setCell ⟨ae,0,none⟩ (.int .i64 ((qP ((qD l0 aa).f2) ac).f0))).setCell ⟨ae,1,none⟩ (.string ((qP ((qD l0 aa).f2) ac).f1))):=(qJ (qJ (zv HB hb) hge) hge);have hbx:((bk.setCell ⟨ae,0,none⟩ (.int .i64 ((qP ((qD l0 aa).f2) ac).f0))).setCell ⟨ae,1,none⟩ (.string ((qP ((qD l0 aa).f2) ac).f1))).heap[ae]?=some (.cells #[.int .i64 ((qP ((qD l0 aa).f2) ac).f0),.string ((qP ((qD l0 aa).f2) ac).f1)] 139 (0,0)):=(yP hbox);obtain⟨aM,aN,aO,aP⟩:=zc2 hbox)|((with_reducible refine qQ (t:=139) (p:=7) rfl ?_);(try(refine z4 ?_;dsimp only));refine qN (t:=139) (p:=7) (v:=?b2) (w1:=((bk.setCell ⟨ae,0,none⟩ (.int .i64 ((qP ((qD l0 aa).f2) ac).f0))).setCell ⟨ae,1,none⟩ (.string ((qP ((qD l0 aa).f2) ac).f1)))) ?hg ?ho ?hn ?hr ?_;(case ho=>rfl);(case hg=>rfl);(case hn=>rfl);(case hr=>first|(go_simp;done)|(go_simp;rfl));intro ap hw;replace hst:=hst;rw[←hw] at hst hbx;clear hw hb hbox hge HB aM aO aN aP;replace HW:=zz (zv HW.out hst);replace av:=zz (zv av.out hst);replace az:=zz (zv az.out hst);replace aS:=zz (Kd.qB aS.out hst);replace af:=zz (Kd.qB af.out hst);replace a0:=zz (Kd.qB a0.out hst);replace ak:=qG ak hst;replace al:=qG al hst;replace am:=qG am hst;replace aA:=qG aA hst;replace aB:=qG aB hst;replace aC:=qG aC hst;replace aD:=qG aD hst;replace aE:=qG aE hst;replace aF:=qG aF hst;replace ag:=qG ag hst;replace ah:=qG ah hst;obtain⟨a6,a7⟩:=zx2 hbx;have HB:=Below.refl ap.heap.size ap;clear hbx hst))
      try simp only[Act.put,List.setIfInBounds_toArray,List.set_cons_zero,List.set_cons_succ]
      refine qR (C:=fun W_=>Below ap.heap.size ap W_) zk zk (qK HB) ?_
      refine yD H ?_ ?_<;>clear H<;>intro cu H
      ·obtain rfl:=zi H
       exact yQ
      refine yG H ?_ ?_<;>clear H<;>intro cv H
      ·obtain rfl:=zi H
       exact yQ
      replace H:=yf H
      obtain⟨bE,aV,H⟩:=H
      refine yF H ?_ ?_<;>clear H<;>rintro rfl H
      ·obtain rfl:=zi H
       repeat(first|go_big_quiet_skip|(go_big_quiet_want;go_big_quiet_op;first|go_big_quiet_on|(with_reducible apply Exists.intro;refine⟨fun W hW=>?_,?_⟩;(first|with_reducible rfl|(go_at_call 102;exact callD (impl_AddressOk.calls au _ _ _ aV.out) hW)|(go_simp;with_reducible rfl));go_big_quiet_on)))
       clear HB
       refine zW fun b3 (HB:Below ap.heap.size ap b3)=>?_
       exact yR
      refine yGn H ?_ ?_<;>clear H<;>intro cw H
      ·refine yT H ?_ ?_<;>clear H<;>rintro rfl H
       ·repeat(first|go_big_quiet_skip|(go_big_quiet_want;go_big_quiet_op;first|go_big_quiet_on|(with_reducible apply Exists.intro;refine⟨fun W hW=>?_,?_⟩;(first|with_reducible rfl|(go_at_call 102;exact callD (impl_AddressOk.calls au _ _ _ aV.out) hW)|(go_simp;with_reducible rfl));go_big_quiet_on)))
        clear HB
        refine zW fun b4 (HB:Below ap.heap.size ap b4)=>?_
        go_wp2_with(fail)
        go_roundg au
        case measure=>have:=ad.out;have:=aj.out;omega
        case rel=>exact⟨(true),(wrap64 (ac+1)),zr,zr,⟨H⟩,⟨by have:=ad.out;have:=aj.out;omega⟩,⟨zv az.out HB⟩⟩
       repeat(first|go_big_quiet_skip|(go_big_quiet_want;go_big_quiet_op;first|go_big_quiet_on|(with_reducible apply Exists.intro;refine⟨fun W hW=>?_,?_⟩;(first|with_reducible rfl|(go_at_call 102;exact callD (impl_AddressOk.calls au _ _ _ aV.out) hW)|(go_simp;with_reducible rfl));go_big_quiet_on)))
       clear HB
       refine zW fun b5 (HB:Below ap.heap.size ap b5)=>?_
       go_wp2_with(fail)
       go_roundg au
       case measure=>have:=ad.out;have:=aj.out;omega
       case rel=>exact⟨((((qP ((qD l0 aa).f2) ac).f0)==((qD l0 aa).f1))),(wrap64 (ac+1)),zr,zr,⟨H⟩,⟨by have:=ad.out;have:=aj.out;omega⟩,⟨zv az.out HB⟩⟩
      obtain⟨a4,aK⟩:∃j_:Int,(wrap64 (ac - 1))=j_:=⟨_,rfl⟩
      (first|rw[aK] at H|simp only[aK] at H)
      have b6:(IntKind.i64.wrap (ac - 1))=a4:=(i64_w _).trans aK
      (try rw[aK] at A9)
      (try rw[aK] at aV)
      replace H:=yAD H
      obtain⟨cx,H⟩:=H
      replace H:=yAD H
      obtain⟨cy,H⟩:=H
      have bF:=yt (0≤((a4):Int))
      have bG:=yt (((a4):Int)<(((qD l0 aa).f2).length:Int))
      obtain⟨a3,a8,ax,ay⟩:=at_T139 af.out (a4) z2 z2
      obtain rfl:a1=a3:=(by injection a8)
      replace ax:=qH ax
      replace ay:=qH ay
      refine yE H ?_ ?_<;>clear H<;>intro cz H
      ·obtain rfl:=zi H
       repeat(first|go_big_quiet_skip|(go_big_quiet_want;go_big_quiet_op;first|go_big_quiet_on|(with_reducible apply Exists.intro;refine⟨fun W hW=>?_,?_⟩;(first|with_reducible rfl|(go_at_call 102;exact callD (impl_AddressOk.calls au _ _ _ aV.out) hW)|(go_simp;with_reducible rfl));go_big_quiet_on)))
       clear HB
       refine zW fun b7 (HB:Below ap.heap.size ap b7)=>?_
       exact yR
      refine yT H ?_ ?_<;>clear H<;>rintro rfl H
      ·repeat(first|go_big_quiet_skip|(go_big_quiet_want;go_big_quiet_op;first|go_big_quiet_on|(with_reducible apply Exists.intro;refine⟨fun W hW=>?_,?_⟩;(first|with_reducible rfl|(go_at_call 102;exact callD (impl_AddressOk.calls au _ _ _ aV.out) hW)|(go_simp;with_reducible rfl));go_big_quiet_on)))
       clear HB
       refine zW fun b8 (HB:Below ap.heap.size ap b8)=>?_
       go_wp2_with(fail)
       go_roundg au
       case measure=>have:=ad.out;have:=aj.out;omega
       case rel=>exact⟨(true),(wrap64 (ac+1)),zr,zr,⟨H⟩,⟨by have:=ad.out;have:=aj.out;omega⟩,⟨zv az.out HB⟩⟩
      repeat(first|go_big_quiet_skip|(go_big_quiet_want;go_big_quiet_op;first|go_big_quiet_on|(with_reducible apply Exists.intro;refine⟨fun W hW=>?_,?_⟩;(first|with_reducible rfl|(go_at_call 102;exact callD (impl_AddressOk.calls au _ _ _ aV.out) hW)|(go_simp;with_reducible rfl));go_big_quiet_on)))
      clear HB
      refine zW fun b9 (HB:Below ap.heap.size ap b9)=>?_
      go_wp2_with(fail)
      go_roundg au
      case measure=>have:=ad.out;have:=aj.out;omega
      case rel=>exact⟨((((qP ((qD l0 aa).f2) ac).f0)==((qD l0 aa).f1))),(wrap64 (ac+1)),zr,zr,⟨H⟩,⟨by have:=ad.out;have:=aj.out;omega⟩,⟨zv az.out HB⟩⟩
     refine yT H ?_ ?_<;>clear H<;>rintro rfl H
     ·go_wp2_with(fail)
      go_roundg au
      case measure=>have:=ad.out;have:=aj.out;omega
      case rel=>exact⟨(wrap64 (aa+1)),zr,⟨H⟩,⟨by have:=ad.out;have:=aj.out;omega⟩,⟨zv av.out HB⟩⟩
     obtain rfl:=zi H
     exact yR
def spec_l13Gen.l0:Nat→Int→Int→ByteArray→Int→List (S139)→Option (Int)
 |0,_,_,_,_,_=>none
 |k+1,x1,x5,ab,ac,aa=>if x5<(aa.length:Int) then(if 0≤x5 then(if((qP aa x5).f0)=x1 then(some x5) else(spec_l13Gen.l0 k x1 (wrap64 (x5+1)) ab ac aa)) else(none)) else(some (-1))
def spec_l13Gen.f(k:Nat)(aa:ByteArray)(ab:Int)(ac:List (S139))(a1:Int):Option (Int):=spec_l13Gen.l0 k a1 0 aa ab ac
theorem spec_l13Gen.calls(k:Nat)(ae:ByteArray)(af:Int)(ah:Option Addr)(ai:Nat)(ab:List (S139))(a1:Int)(r:Int)(w:World)(aj:Kd.C k139 w ah ab.length ab)(ak:ab.length≤ai)(h:spec_l13Gen.f k ae af ab a1=some r):
 Calls Tryz.prog 147 #[.agg #[.string ae,.int .i64 af,.slice ah ab.length ai],.int .i64 a1] w fun e w'=>e= .returned (.int .i64 r)∧Below w.heap.size w w':=by
 have ax:=Tryz.underlying137
 have ag:=zz aj
 have ay:=zz ak
 clear aj ak
 have HB:=yB w
 unfold spec_l13Gen.f at h
 have H:=h
 clear h
 replace HB:=HB.out
 have HW:=yB w
 go_enter Tryz.func147,Tryz.ntmps147
 go_wp2_with(first|(refine zN 2 ?_;(try(refine z4 ?_;dsimp only));refine zX 2 137 #[.string ae,.int .i64 af,.slice ah ab.length ai] ?_;intro az hg w4 hbox hb;have hst:=zv HB hb;clear hg hb HB;replace HW:=zz (zv HW.out hst);replace ag:=zz (Kd.qB ag.out hst);obtain⟨an,ao,ap⟩:=zx3 hbox;have HB:=Below.refl w4.heap.size w4;clear hbox hst))
 go_loopg[5] k (fun kq v5 w'=>∃(aa:Int),v5= .int .i64 aa∧qC (spec_l13Gen.l0 kq a1 aa ae af ab=some r)∧qC (kq≤k)∧qC (Below w4.heap.size w4 w'))
 case atStart=>exact⟨(0),zr,⟨H⟩,⟨Nat.le_refl _⟩,⟨HB⟩⟩
 case round=>
  clear H HB
  obtain⟨aa,rfl,H,al,HB⟩:=hrel
  replace HB:=HB.out
  replace H:=H.out
  have am:=yB w4
  cases gk with
  |zero=>exact absurd H (by simp[spec_l13Gen.l0])
  |succ aw=>
   simp only[spec_l13Gen.l0] at H
   refine yDn H ?_ ?_<;>clear H<;>intro aB H
   ·obtain rfl:=zi H
    exact yR
   replace H:=yAD H
   obtain⟨aC,H⟩:=H
   have aD:=yt (0≤(aa:Int))
   have aE:=yt ((aa:Int)<(ab.length:Int))
   obtain⟨aA,ar,ac,ad⟩:=at_T139 ag.out aa z2 z2
   cases ar
   replace ac:=qH ac
   replace ad:=qH ad
   refine yCn H ?_ ?_<;>clear H<;>intro c7 H
   ·obtain⟨au,av⟩:=zw c7
    go_wp2_with(fail)
    go_roundg aw
    case measure=>have:=al.out;omega
    case rel=>exact⟨(wrap64 (aa+1)),zr,⟨H⟩,⟨by have:=al.out;omega⟩,⟨zv am.out HB⟩⟩
   obtain⟨au,av⟩:=zq c7
   clear c7
   obtain rfl:=zi H
   exact yR
mutual
def spec_ProfilesOk.l0:Nat→List (S137)→Int→Option (Bool)
 |0,_,_=>none
 |k+1,x0,x3=>if x3<(x0.length:Int) then(if 0≤x3 then((spec_NameOk.f k ((qD x0 x3).f0)).bind fun ad=>(if ad=true then(if x3>0 then(if 0≤(wrap64 (x3 - 1)) then(if(wrap64 (x3 - 1))<(x0.length:Int) then(if((Op.bytesLess (((qD x0 (wrap64 (x3 - 1))).f0).toList) (((qD x0 x3).f0).toList))=true) then(if(((qD x0 x3).f2).length:Int)>50 then(some false) else(if((qD x0 x3).f1)=0 then(spec_ProfilesOk.l1 k x0 x3 0 ((qD x0 x3).f0) ((qD x0 x3).f1) ((qD x0 x3).f2)) else((spec_l13Gen.f k ((qD x0 x3).f0) ((qD x0 x3).f1) ((qD x0 x3).f2) ((qD x0 x3).f1)).bind fun ae=>(if ae<0 then(some false) else(spec_ProfilesOk.l1 k x0 x3 0 ((qD x0 x3).f0) ((qD x0 x3).f1) ((qD x0 x3).f2)))))) else(some false)) else(none)) else(none)) else(if(((qD x0 x3).f2).length:Int)>50 then(some false) else(if((qD x0 x3).f1)=0 then(spec_ProfilesOk.l1 k x0 x3 0 ((qD x0 x3).f0) ((qD x0 x3).f1) ((qD x0 x3).f2)) else((spec_l13Gen.f k ((qD x0 x3).f0) ((qD x0 x3).f1) ((qD x0 x3).f2) ((qD x0 x3).f1)).bind fun af=>(if af<0 then(some false) else(spec_ProfilesOk.l1 k x0 x3 0 ((qD x0 x3).f0) ((qD x0 x3).f1) ((qD x0 x3).f2))))))) else(some false))) else(none)) else(some true)
def spec_ProfilesOk.l1:Nat→List (S137)→Int→Int→ByteArray→Int→List (S139)→Option (Bool)
 |0,_,_,_,_,_,_=>none
 |k+1,x0,x3,x5,ab,ac,aa=>if x5<(aa.length:Int) then(if 0≤x5 then(if((qP aa x5).f0)<1 then(some false) else(if((qP aa x5).f0)>9007199254740992 then(some false) else(if x5>0 then(if 0≤(wrap64 (x5 - 1)) then(if(wrap64 (x5 - 1))<(aa.length:Int) then(if((qP aa (wrap64 (x5 - 1))).f0)≥((qP aa x5).f0) then(some false) else((spec_AddressOk.f k ((qP aa x5).f1)).bind fun ag=>(if ag=true then(spec_ProfilesOk.l1 k x0 x3 (wrap64 (x5+1)) ab ac aa) else(some false)))) else(none)) else(none)) else((spec_AddressOk.f k ((qP aa x5).f1)).bind fun ah=>(if ah=true then(spec_ProfilesOk.l1 k x0 x3 (wrap64 (x5+1)) ab ac aa) else(some false)))))) else(none)) else(spec_ProfilesOk.l0 k x0 (wrap64 (x3+1)))
end
def spec_ProfilesOk.f(k:Nat)(l0:List (S137)):Option (Bool):=if(l0.length:Int)>20 then(some false) else(spec_ProfilesOk.l0 k l0 0)
theorem spec_ProfilesOk.calls(k:Nat)(A0:Option Addr)(c0:Nat)(l0:List (S137))(r:Bool)(w:World)(bZ:Kd.C k137 w A0 l0.length l0)(b0:l0.length≤c0)(h:spec_ProfilesOk.f k l0=some r):
 Calls Tryz.prog 90 #[.slice A0 l0.length c0] w fun e w'=>e= .returned (.bool r)∧Below w.heap.size w w':=by
 have cX:=Tryz.underlying137
 have cY:=Tryz.underlying139
 have aN:=zz bZ
 have dL:=zz b0
 clear bZ b0
 have HB:=yB w
 unfold spec_ProfilesOk.f at h
 have H:=h
 clear h
 replace HB:=HB.out
 have HW:=yB w
 go_enter Tryz.func90,Tryz.ntmps90
 refine yC H ?_ ?_<;>clear H<;>intro c2 H
 ·have b7:=zgt c2
  have b8:decide (20<l0.length)=true:=z1 (by omega)
  clear c2
  obtain rfl:=zi H
  exact yR
 have b7:=zgtn c2
 have b8:decide (20<l0.length)=false:=z0 (by omega)
 clear c2
 go_wp2_with(fail)
 go_loopg[3] k (fun kq v3 w'=>∃(aa:Int),v3= .int .i64 aa∧qC (spec_ProfilesOk.l0 kq l0 aa=some r)∧qC (kq≤k)∧qC (Below w.heap.size w w'))
 case atStart=>exact⟨(0),zr,⟨H⟩,⟨Nat.le_refl _⟩,⟨HB⟩⟩
 case round=>
  clear H HB
  obtain⟨aa,rfl,H,aj,HB⟩:=hrel
  replace HB:=HB.out
  replace H:=H.out
  have ap:=yB w
  cases gk with
  |zero=>exact absurd H (by simp[spec_ProfilesOk.l0])
  |succ aw=>
   simp only[spec_ProfilesOk.l0] at H
   refine yDn H ?_ ?_<;>clear H<;>intro dC H
   ·obtain rfl:=zi H
    exact yR
   replace H:=yAD H
   obtain⟨dD,H⟩:=H
   have dE:=yt (0≤(aa:Int))
   have dF:=yt ((aa:Int)<(l0.length:Int))
   obtain⟨bO,a2,a3,b9,ak,al,am,bd,be⟩:=at_T137 aN.out aa z2 z2
   cases b9
   replace ak:=qH ak
   replace al:=qH al
   replace am:=qH am
   have ac:=zz be
   have aS:=zz bd
   clear be bd
   go_wp2_with(first|(refine zN 4 ?_;(try(refine z4 ?_;dsimp only));refine zX 4 137 #[.string (⟨#[]⟩:ByteArray),.int .i64 0,.slice none 0 0] ?_;intro ax hg w6 hbox hb;have hge:w.heap.size≤ax:=(by rw[hg];exact qF HB);clear hg;have hst:Below w.heap.size w (((w6.setCell ⟨ax,0,none⟩ (.string ((qD l0 aa).f0))).setCell ⟨ax,1,none⟩ (.int .i64 ((qD l0 aa).f1))).setCell ⟨ax,2,none⟩ (.slice a2 ((qD l0 aa).f2).length a3)):=(qJ (qJ (qJ (zv HB hb) hge) hge) hge);have hbx:(((w6.setCell ⟨ax,0,none⟩ (.string ((qD l0 aa).f0))).setCell ⟨ax,1,none⟩ (.int .i64 ((qD l0 aa).f1))).setCell ⟨ax,2,none⟩ (.slice a2 ((qD l0 aa).f2).length a3)).heap[ax]?=some (.cells #[.string ((qD l0 aa).f0),.int .i64 ((qD l0 aa).f1),.slice a2 ((qD l0 aa).f2).length a3] 137 (0,0)):=(yP hbox);obtain⟨bz,bA,bB,bC,bD,bE⟩:=zc3 hbox)|((with_reducible refine qQ (t:=137) (p:=4) rfl ?_);(try(refine z4 ?_;dsimp only));refine qN (t:=137) (p:=4) (v:=?cZ) (w1:=(((w6.setCell ⟨ax,0,none⟩ (.string ((qD l0 aa).f0))).setCell ⟨ax,1,none⟩ (.int .i64 ((qD l0 aa).f1))).setCell ⟨ax,2,none⟩ (.slice a2 ((qD l0 aa).f2).length a3))) ?hg ?ho ?hn ?hr ?_;(case ho=>rfl);(case hg=>rfl);(case hn=>rfl);(case hr=>first|(go_simp;done)|(go_simp;rfl));intro w7 hw;replace hst:=hst;rw[←hw] at hst hbx;clear hw hb hbox hge HB bz bC bA bD bB bE;replace HW:=zz (zv HW.out hst);replace ap:=zz (zv ap.out hst);replace aN:=zz (Kd.qB aN.out hst);replace ac:=zz (Kd.qB ac.out hst);replace ak:=qG ak hst;replace al:=qG al hst;replace am:=qG am hst;obtain⟨ar,au,av⟩:=zx3 hbx;have HB:=Below.refl w7.heap.size w7;clear hbx hst))
   try simp only[Act.put,List.setIfInBounds_toArray,List.set_cons_zero,List.set_cons_succ]
   refine qR (C:=fun W_=>Below w7.heap.size w7 W_) zk zk (qK HB) ?_
   replace H:=yf H
   obtain⟨dG,A8,H⟩:=H
   refine yF H ?_ ?_<;>clear H<;>rintro rfl H
   ·obtain rfl:=zi H
    repeat(first|go_big_quiet_skip|(go_big_quiet_want;go_big_quiet_op;first|go_big_quiet_on|(with_reducible apply Exists.intro;refine⟨fun W hW=>?_,?_⟩;(first|with_reducible rfl|(go_at_call 77;exact callD (spec_NameOk.calls aw _ _ _ A8.out) hW)|(go_simp;with_reducible rfl));go_big_quiet_on)))
    clear HB
    refine zW fun ca (HB:Below w7.heap.size w7 ca)=>?_
    exact yR
   refine yGn H ?_ ?_<;>clear H<;>intro c5 H
   ·refine yC H ?_ ?_<;>clear H<;>intro bu H
    ·have bP:=zgt bu
     have bQ:decide (50<((qD l0 aa).f2).length)=true:=z1 (by omega)
     clear bu
     obtain rfl:=zi H
     repeat(first|go_big_quiet_skip|(go_big_quiet_want;go_big_quiet_op;first|go_big_quiet_on|(with_reducible apply Exists.intro;refine⟨fun W hW=>?_,?_⟩;(first|with_reducible rfl|(go_at_call 77;exact callD (spec_NameOk.calls aw _ _ _ A8.out) hW)|(go_simp;with_reducible rfl));go_big_quiet_on)))
     clear HB
     refine zW fun ck (HB:Below w7.heap.size w7 ck)=>?_
     exact yR
    have bP:=zgtn bu
    have bQ:decide (50<((qD l0 aa).f2).length)=false:=z0 (by omega)
    clear bu
    refine yCn H ?_ ?_<;>clear H<;>intro bF H
    ·obtain⟨bR,bS⟩:=zw bF
     replace H:=yf H
     obtain⟨dH,bG,H⟩:=H
     refine yD H ?_ ?_<;>clear H<;>intro c6 H
     ·obtain rfl:=zi H
      repeat(first|go_big_quiet_skip|(go_big_quiet_want;go_big_quiet_op;first|go_big_quiet_on|(with_reducible apply Exists.intro;refine⟨fun W hW=>?_,?_⟩;(first|with_reducible rfl|(go_at_call 77;exact callD (spec_NameOk.calls aw _ _ _ A8.out) hW)|(go_at_call 147;exact vE (spec_l13Gen.calls aw _ _ _ _ _ _ _ _ (Kd.qB ac.out hW) aS.out bG.out) hW)|(go_simp;with_reducible rfl));go_big_quiet_on)))
      clear HB
      refine zW fun cm (HB:Below w7.heap.size w7 cm)=>?_
      exact yR
     repeat(first|go_big_quiet_skip|(go_big_quiet_want;go_big_quiet_op;first|go_big_quiet_on|(with_reducible apply Exists.intro;refine⟨fun W hW=>?_,?_⟩;(first|with_reducible rfl|(go_at_call 77;exact callD (spec_NameOk.calls aw _ _ _ A8.out) hW)|(go_at_call 147;exact vE (spec_l13Gen.calls aw _ _ _ _ _ _ _ _ (Kd.qB ac.out hW) aS.out bG.out) hW)|(go_simp;with_reducible rfl));go_big_quiet_on)))
     clear HB
     refine zW fun cb (HB:Below w7.heap.size w7 cb)=>?_
     go_wp2_with(fail)
     go_loopg[5] aw (fun kq v5 w'=>∃(ad:Int),v5= .int .i64 ad∧qC (spec_ProfilesOk.l1 kq l0 aa ad ((qD l0 aa).f0) ((qD l0 aa).f1) ((qD l0 aa).f2)=some r)∧qC (kq≤aw)∧qC (Below w7.heap.size w7 w'))
     case atStart=>exact⟨(0),zr,⟨H⟩,⟨Nat.le_refl _⟩,⟨HB⟩⟩
     case round=>
      clear H HB
      obtain⟨ad,rfl,H,aD,HB⟩:=hrel
      replace HB:=HB.out
      replace H:=H.out
      have aT:=yB w7
      cases gk with
      |zero=>exact absurd H (by simp[spec_ProfilesOk.l1])
      |succ aK=>
       simp only[spec_ProfilesOk.l1] at H
       refine yDn H ?_ ?_<;>clear H<;>intro cn H
       ·go_wp2_with(fail)
        go_roundg aK
        case measure=>have:=aj.out;have:=aD.out;omega
        case rel=>exact⟨(wrap64 (aa+1)),zr,⟨H⟩,⟨by have:=aj.out;have:=aD.out;omega⟩,⟨zv ap.out HB⟩⟩
       replace H:=yAD H
       obtain⟨co,H⟩:=H
       have bk:=yt (0≤(ad:Int))
       have bl:=yt ((ad:Int)<(((qD l0 aa).f2).length:Int))
       obtain⟨aL,aV,ae,af⟩:=at_T139 ac.out ad z2 z2
       cases aV
       replace ae:=qH ae
       replace af:=qH af
       go_wp2_with(first|(refine zN 6 ?_;(try(refine z4 ?_;dsimp only));refine zX 6 139 #[.int .i64 0,.string (⟨#[]⟩:ByteArray)] ?_;intro ab hg bn hbox hb;have hge:w7.heap.size≤ab:=(by rw[hg];exact qF HB);clear hg;have hst:Below w7.heap.size w7 ((bn.setCell ⟨ab,0,none⟩ (.int .i64 ((qP ((qD l0 aa).f2) ad).f0))).setCell ⟨ab,1,none⟩ (.string ((qP ((qD l0 aa).f2) ad).f1))):=(qJ (qJ (zv HB hb) hge) hge);have hbx:((bn.setCell ⟨ab,0,none⟩ (.int .i64 ((qP ((qD l0 aa).f2) ad).f0))).setCell ⟨ab,1,none⟩ (.string ((qP ((qD l0 aa).f2) ad).f1))).heap[ab]?=some (.cells #[.int .i64 ((qP ((qD l0 aa).f2) ad).f0),.string ((qP ((qD l0 aa).f2) ad).f1)] 139 (0,0)):=(yP hbox);obtain⟨ay,az,aA,aB⟩:=zc2 hbox)|((with_reducible refine qQ (t:=139) (p:=6) rfl ?_);(try(refine z4 ?_;dsimp only));refine qN (t:=139) (p:=6) (v:=?ch) (w1:=((bn.setCell ⟨ab,0,none⟩ (.int .i64 ((qP ((qD l0 aa).f2) ad).f0))).setCell ⟨ab,1,none⟩ (.string ((qP ((qD l0 aa).f2) ad).f1)))) ?hg ?ho ?hn ?hr ?_;(case ho=>rfl);(case hg=>rfl);(case hn=>rfl);(case hr=>first|(go_simp;done)|(go_simp;rfl));intro aC hw;replace hst:=hst;rw[←hw] at hst hbx;clear hw hb hbox hge HB ay aA az aB;replace HW:=zz (zv HW.out hst);replace ap:=zz (zv ap.out hst);replace aT:=zz (zv aT.out hst);replace aN:=zz (Kd.qB aN.out hst);replace ac:=zz (Kd.qB ac.out hst);replace ak:=qG ak hst;replace al:=qG al hst;replace am:=qG am hst;replace ar:=qG ar hst;replace au:=qG au hst;replace av:=qG av hst;replace ae:=qG ae hst;replace af:=qG af hst;obtain⟨aW,aX⟩:=zx2 hbx;have HB:=Below.refl aC.heap.size aC;clear hbx hst))
       try simp only[Act.put,List.setIfInBounds_toArray,List.set_cons_zero,List.set_cons_succ]
       refine qR (C:=fun W_=>Below aC.heap.size aC W_) zk zk (qK HB) ?_
       refine yD H ?_ ?_<;>clear H<;>intro cp H
       ·obtain rfl:=zi H
        exact yQ
       refine yG H ?_ ?_<;>clear H<;>intro cq H
       ·obtain rfl:=zi H
        exact yQ
       refine yGn H ?_ ?_<;>clear H<;>intro cr H
       ·replace H:=yf H
        obtain⟨bo,bH,H⟩:=H
        refine yT H ?_ ?_<;>clear H<;>rintro rfl H
        ·repeat(first|go_big_quiet_skip|(go_big_quiet_want;go_big_quiet_op;first|go_big_quiet_on|(with_reducible apply Exists.intro;refine⟨fun W hW=>?_,?_⟩;(first|with_reducible rfl|(go_at_call 91;exact callD (spec_AddressOk.calls aK _ _ _ bH.out) hW)|(go_simp;with_reducible rfl));go_big_quiet_on)))
         clear HB
         refine zW fun cc (HB:Below aC.heap.size aC cc)=>?_
         go_wp2_with(fail)
         go_roundg aK
         case measure=>have:=aj.out;have:=aD.out;omega
         case rel=>exact⟨(wrap64 (ad+1)),zr,⟨H⟩,⟨by have:=aj.out;have:=aD.out;omega⟩,⟨zv aT.out HB⟩⟩
        obtain rfl:=zi H
        repeat(first|go_big_quiet_skip|(go_big_quiet_want;go_big_quiet_op;first|go_big_quiet_on|(with_reducible apply Exists.intro;refine⟨fun W hW=>?_,?_⟩;(first|with_reducible rfl|(go_at_call 91;exact callD (spec_AddressOk.calls aK _ _ _ bH.out) hW)|(go_simp;with_reducible rfl));go_big_quiet_on)))
        clear HB
        refine zW fun cd (HB:Below aC.heap.size aC cd)=>?_
        exact yR
       obtain⟨a9,aR⟩:∃j_:Int,(wrap64 (ad - 1))=j_:=⟨_,rfl⟩
       (first|rw[aR] at H|simp only[aR] at H)
       have ci:(IntKind.i64.wrap (ad - 1))=a9:=(i64_w _).trans aR
       (try rw[aR] at A8)
       (try rw[aR] at bG)
       replace H:=yAD H
       obtain⟨ct,H⟩:=H
       replace H:=yAD H
       obtain⟨cu,H⟩:=H
       have bq:=yt (0≤((a9):Int))
       have br:=yt (((a9):Int)<(((qD l0 aa).f2).length:Int))
       obtain⟨aM,aY,an,ao⟩:=at_T139 ac.out (a9) z2 z2
       obtain rfl:aL=aM:=(by injection aY)
       replace an:=qH an
       replace ao:=qH ao
       refine yE H ?_ ?_<;>clear H<;>intro cv H
       ·obtain rfl:=zi H
        exact yQ
       replace H:=yf H
       obtain⟨bs,bI,H⟩:=H
       refine yT H ?_ ?_<;>clear H<;>rintro rfl H
       ·repeat(first|go_big_quiet_skip|(go_big_quiet_want;go_big_quiet_op;first|go_big_quiet_on|(with_reducible apply Exists.intro;refine⟨fun W hW=>?_,?_⟩;(first|with_reducible rfl|(go_at_call 91;exact callD (spec_AddressOk.calls aK _ _ _ bI.out) hW)|(go_simp;with_reducible rfl));go_big_quiet_on)))
        clear HB
        refine zW fun ce (HB:Below aC.heap.size aC ce)=>?_
        go_wp2_with(fail)
        go_roundg aK
        case measure=>have:=aj.out;have:=aD.out;omega
        case rel=>exact⟨(wrap64 (ad+1)),zr,⟨H⟩,⟨by have:=aj.out;have:=aD.out;omega⟩,⟨zv aT.out HB⟩⟩
       obtain rfl:=zi H
       repeat(first|go_big_quiet_skip|(go_big_quiet_want;go_big_quiet_op;first|go_big_quiet_on|(with_reducible apply Exists.intro;refine⟨fun W hW=>?_,?_⟩;(first|with_reducible rfl|(go_at_call 91;exact callD (spec_AddressOk.calls aK _ _ _ bI.out) hW)|(go_simp;with_reducible rfl));go_big_quiet_on)))
       clear HB
       refine zW fun cf (HB:Below aC.heap.size aC cf)=>?_
       exact yR
    obtain⟨bR,bS⟩:=zq bF
    clear bF
    repeat(first|go_big_quiet_skip|(go_big_quiet_want;go_big_quiet_op;first|go_big_quiet_on|(with_reducible apply Exists.intro;refine⟨fun W hW=>?_,?_⟩;(first|with_reducible rfl|(go_at_call 77;exact callD (spec_NameOk.calls aw _ _ _ A8.out) hW)|(go_simp;with_reducible rfl));go_big_quiet_on)))
    clear HB
    refine zW fun cw (HB:Below w7.heap.size w7 cw)=>?_
    go_wp2_with(fail)
    go_loopg[5] aw (fun kq v5 w'=>∃(ag:Int),v5= .int .i64 ag∧qC (spec_ProfilesOk.l1 kq l0 aa ag ((qD l0 aa).f0) ((qD l0 aa).f1) ((qD l0 aa).f2)=some r)∧qC (kq≤aw)∧qC (Below w7.heap.size w7 w'))
    case atStart=>exact⟨(0),zr,⟨H⟩,⟨Nat.le_refl _⟩,⟨HB⟩⟩
    case round=>
     clear H HB
     obtain⟨ag,rfl,H,aH,HB⟩:=hrel
     replace HB:=HB.out
     replace H:=H.out
     have a4:=yB w7
     cases gk with
     |zero=>exact absurd H (by simp[spec_ProfilesOk.l1])
     |succ aZ=>
      simp only[spec_ProfilesOk.l1] at H
      refine yDn H ?_ ?_<;>clear H<;>intro c7 H
      ·go_wp2_with(fail)
       go_roundg aZ
       case measure=>have:=aj.out;have:=aH.out;omega
       case rel=>exact⟨(wrap64 (aa+1)),zr,⟨H⟩,⟨by have:=aj.out;have:=aH.out;omega⟩,⟨zv ap.out HB⟩⟩
      replace H:=yAD H
      obtain⟨c8,H⟩:=H
      have bk:=yt (0≤(ag:Int))
      have bl:=yt ((ag:Int)<(((qD l0 aa).f2).length:Int))
      obtain⟨aL,aV,ae,af⟩:=at_T139 ac.out ag z2 z2
      cases aV
      replace ae:=qH ae
      replace af:=qH af
      go_wp2_with(first|(refine zN 6 ?_;(try(refine z4 ?_;dsimp only));refine zX 6 139 #[.int .i64 0,.string (⟨#[]⟩:ByteArray)] ?_;intro ab hg bJ hbox hb;have hge:w7.heap.size≤ab:=(by rw[hg];exact qF HB);clear hg;have hst:Below w7.heap.size w7 ((bJ.setCell ⟨ab,0,none⟩ (.int .i64 ((qP ((qD l0 aa).f2) ag).f0))).setCell ⟨ab,1,none⟩ (.string ((qP ((qD l0 aa).f2) ag).f1))):=(qJ (qJ (zv HB hb) hge) hge);have hbx:((bJ.setCell ⟨ab,0,none⟩ (.int .i64 ((qP ((qD l0 aa).f2) ag).f0))).setCell ⟨ab,1,none⟩ (.string ((qP ((qD l0 aa).f2) ag).f1))).heap[ab]?=some (.cells #[.int .i64 ((qP ((qD l0 aa).f2) ag).f0),.string ((qP ((qD l0 aa).f2) ag).f1)] 139 (0,0)):=(yP hbox);obtain⟨ay,az,aA,aB⟩:=zc2 hbox)|((with_reducible refine qQ (t:=139) (p:=6) rfl ?_);(try(refine z4 ?_;dsimp only));refine qN (t:=139) (p:=6) (v:=?cx) (w1:=((bJ.setCell ⟨ab,0,none⟩ (.int .i64 ((qP ((qD l0 aa).f2) ag).f0))).setCell ⟨ab,1,none⟩ (.string ((qP ((qD l0 aa).f2) ag).f1)))) ?hg ?ho ?hn ?hr ?_;(case ho=>rfl);(case hg=>rfl);(case hn=>rfl);(case hr=>first|(go_simp;done)|(go_simp;rfl));intro aO hw;replace hst:=hst;rw[←hw] at hst hbx;clear hw hb hbox hge HB ay aA az aB;replace HW:=zz (zv HW.out hst);replace ap:=zz (zv ap.out hst);replace a4:=zz (zv a4.out hst);replace aN:=zz (Kd.qB aN.out hst);replace ac:=zz (Kd.qB ac.out hst);replace ak:=qG ak hst;replace al:=qG al hst;replace am:=qG am hst;replace ar:=qG ar hst;replace au:=qG au hst;replace av:=qG av hst;replace ae:=qG ae hst;replace af:=qG af hst;obtain⟨aW,aX⟩:=zx2 hbx;have HB:=Below.refl aO.heap.size aO;clear hbx hst))
      try simp only[Act.put,List.setIfInBounds_toArray,List.set_cons_zero,List.set_cons_succ]
      refine qR (C:=fun W_=>Below aO.heap.size aO W_) zk zk (qK HB) ?_
      refine yD H ?_ ?_<;>clear H<;>intro c9 H
      ·obtain rfl:=zi H
       exact yQ
      refine yG H ?_ ?_<;>clear H<;>intro da H
      ·obtain rfl:=zi H
       exact yQ
      refine yG H ?_ ?_<;>clear H<;>intro db H
      ·obtain⟨bh,ba⟩:∃j_:Int,(wrap64 (ag - 1))=j_:=⟨_,rfl⟩
       (first|rw[ba] at H|simp only[ba] at H)
       have cy:(IntKind.i64.wrap (ag - 1))=bh:=(i64_w _).trans ba
       (try rw[ba] at A8)
       replace H:=yAD H
       obtain⟨dc,H⟩:=H
       replace H:=yAD H
       obtain⟨de,H⟩:=H
       have bq:=yt (0≤((bh):Int))
       have br:=yt (((bh):Int)<(((qD l0 aa).f2).length:Int))
       obtain⟨aM,aY,an,ao⟩:=at_T139 ac.out (bh) z2 z2
       obtain rfl:aL=aM:=(by injection aY)
       replace an:=qH an
       replace ao:=qH ao
       refine yE H ?_ ?_<;>clear H<;>intro df H
       ·obtain rfl:=zi H
        exact yQ
       replace H:=yf H
       obtain⟨bs,b1,H⟩:=H
       refine yT H ?_ ?_<;>clear H<;>rintro rfl H
       ·repeat(first|go_big_quiet_skip|(go_big_quiet_want;go_big_quiet_op;first|go_big_quiet_on|(with_reducible apply Exists.intro;refine⟨fun W hW=>?_,?_⟩;(first|with_reducible rfl|(go_at_call 91;exact callD (spec_AddressOk.calls aZ _ _ _ b1.out) hW)|(go_simp;with_reducible rfl));go_big_quiet_on)))
        clear HB
        refine zW fun cz (HB:Below aO.heap.size aO cz)=>?_
        go_wp2_with(fail)
        go_roundg aZ
        case measure=>have:=aj.out;have:=aH.out;omega
        case rel=>exact⟨(wrap64 (ag+1)),zr,⟨H⟩,⟨by have:=aj.out;have:=aH.out;omega⟩,⟨zv a4.out HB⟩⟩
       obtain rfl:=zi H
       repeat(first|go_big_quiet_skip|(go_big_quiet_want;go_big_quiet_op;first|go_big_quiet_on|(with_reducible apply Exists.intro;refine⟨fun W hW=>?_,?_⟩;(first|with_reducible rfl|(go_at_call 91;exact callD (spec_AddressOk.calls aZ _ _ _ b1.out) hW)|(go_simp;with_reducible rfl));go_big_quiet_on)))
       clear HB
       refine zW fun cA (HB:Below aO.heap.size aO cA)=>?_
       exact yR
      replace H:=yf H
      obtain⟨bo,b2,H⟩:=H
      refine yT H ?_ ?_<;>clear H<;>rintro rfl H
      ·repeat(first|go_big_quiet_skip|(go_big_quiet_want;go_big_quiet_op;first|go_big_quiet_on|(with_reducible apply Exists.intro;refine⟨fun W hW=>?_,?_⟩;(first|with_reducible rfl|(go_at_call 91;exact callD (spec_AddressOk.calls aZ _ _ _ b2.out) hW)|(go_simp;with_reducible rfl));go_big_quiet_on)))
       clear HB
       refine zW fun cB (HB:Below aO.heap.size aO cB)=>?_
       go_wp2_with(fail)
       go_roundg aZ
       case measure=>have:=aj.out;have:=aH.out;omega
       case rel=>exact⟨(wrap64 (ag+1)),zr,⟨H⟩,⟨by have:=aj.out;have:=aH.out;omega⟩,⟨zv a4.out HB⟩⟩
      obtain rfl:=zi H
      repeat(first|go_big_quiet_skip|(go_big_quiet_want;go_big_quiet_op;first|go_big_quiet_on|(with_reducible apply Exists.intro;refine⟨fun W hW=>?_,?_⟩;(first|with_reducible rfl|(go_at_call 91;exact callD (spec_AddressOk.calls aZ _ _ _ b2.out) hW)|(go_simp;with_reducible rfl));go_big_quiet_on)))
      clear HB
      refine zW fun cC (HB:Below aO.heap.size aO cC)=>?_
      exact yR
   obtain⟨a8,bb⟩:∃j_:Int,(wrap64 (aa - 1))=j_:=⟨_,rfl⟩
   (first|rw[bb] at H|simp only[bb] at H)
   have cD:(IntKind.i64.wrap (aa - 1))=a8:=(i64_w _).trans bb
   (try rw[bb] at A8)
   replace H:=yAD H
   obtain⟨dh,H⟩:=H
   replace H:=yAD H
   obtain⟨di,H⟩:=H
   have dI:=yt (0≤((a8):Int))
   have dJ:=yt (((a8):Int)<(l0.length:Int))
   obtain⟨bT,cE,cF,cg,aE,aF,aG,bf,bg⟩:=at_T137 aN.out (a8) z2 z2
   obtain rfl:bO=bT:=(by injection cg)
   replace aE:=qH aE
   replace aF:=qH aF
   replace aG:=qH aG
   have aU:=zz bg
   have cj:=zz bf
   clear bg bf
   refine yCn H ?_ ?_<;>clear H<;>intro bv H
   ·have bU:(Op.bytesLess (((qD l0 (a8)).f0).toList) (((qD l0 aa).f0).toList))=false:=by simpa using bv
    clear bv
    obtain rfl:=zi H
    repeat(first|go_big_quiet_skip|(go_big_quiet_want;go_big_quiet_op;first|go_big_quiet_on|(with_reducible apply Exists.intro;refine⟨fun W hW=>?_,?_⟩;(first|with_reducible rfl|(go_at_call 77;exact callD (spec_NameOk.calls aw _ _ _ A8.out) hW)|(go_simp;with_reducible rfl));go_big_quiet_on)))
    clear HB
    refine zW fun cG (HB:Below w7.heap.size w7 cG)=>?_
    exact yR
   have bU:(Op.bytesLess (((qD l0 (a8)).f0).toList) (((qD l0 aa).f0).toList))=true:=bv
   clear bv
   refine yC H ?_ ?_<;>clear H<;>intro bw H
   ·have bV:=zgt bw
    have bW:decide (50<((qD l0 aa).f2).length)=true:=z1 (by omega)
    clear bw
    obtain rfl:=zi H
    repeat(first|go_big_quiet_skip|(go_big_quiet_want;go_big_quiet_op;first|go_big_quiet_on|(with_reducible apply Exists.intro;refine⟨fun W hW=>?_,?_⟩;(first|with_reducible rfl|(go_at_call 77;exact callD (spec_NameOk.calls aw _ _ _ A8.out) hW)|(go_simp;with_reducible rfl));go_big_quiet_on)))
    clear HB
    refine zW fun cH (HB:Below w7.heap.size w7 cH)=>?_
    exact yR
   have bV:=zgtn bw
   have bW:decide (50<((qD l0 aa).f2).length)=false:=z0 (by omega)
   clear bw
   refine yCn H ?_ ?_<;>clear H<;>intro bK H
   ·obtain⟨bX,bY⟩:=zw bK
    replace H:=yf H
    obtain⟨dK,bL,H⟩:=H
    refine yD H ?_ ?_<;>clear H<;>intro dj H
    ·obtain rfl:=zi H
     repeat(first|go_big_quiet_skip|(go_big_quiet_want;go_big_quiet_op;first|go_big_quiet_on|(with_reducible apply Exists.intro;refine⟨fun W hW=>?_,?_⟩;(first|with_reducible rfl|(go_at_call 77;exact callD (spec_NameOk.calls aw _ _ _ A8.out) hW)|(go_at_call 147;exact vE (spec_l13Gen.calls aw _ _ _ _ _ _ _ _ (Kd.qB ac.out hW) aS.out bL.out) hW)|(go_simp;with_reducible rfl));go_big_quiet_on)))
     clear HB
     refine zW fun cI (HB:Below w7.heap.size w7 cI)=>?_
     exact yR
    repeat(first|go_big_quiet_skip|(go_big_quiet_want;go_big_quiet_op;first|go_big_quiet_on|(with_reducible apply Exists.intro;refine⟨fun W hW=>?_,?_⟩;(first|with_reducible rfl|(go_at_call 77;exact callD (spec_NameOk.calls aw _ _ _ A8.out) hW)|(go_at_call 147;exact vE (spec_l13Gen.calls aw _ _ _ _ _ _ _ _ (Kd.qB ac.out hW) aS.out bL.out) hW)|(go_simp;with_reducible rfl));go_big_quiet_on)))
    clear HB
    refine zW fun cJ (HB:Below w7.heap.size w7 cJ)=>?_
    go_wp2_with(fail)
    go_loopg[5] aw (fun kq v5 w'=>∃(ah:Int),v5= .int .i64 ah∧qC (spec_ProfilesOk.l1 kq l0 aa ah ((qD l0 aa).f0) ((qD l0 aa).f1) ((qD l0 aa).f2)=some r)∧qC (kq≤aw)∧qC (Below w7.heap.size w7 w'))
    case atStart=>exact⟨(0),zr,⟨H⟩,⟨Nat.le_refl _⟩,⟨HB⟩⟩
    case round=>
     clear H HB
     obtain⟨ah,rfl,H,aI,HB⟩:=hrel
     replace HB:=HB.out
     replace H:=H.out
     have a5:=yB w7
     cases gk with
     |zero=>exact absurd H (by simp[spec_ProfilesOk.l1])
     |succ a0=>
      simp only[spec_ProfilesOk.l1] at H
      refine yDn H ?_ ?_<;>clear H<;>intro dk H
      ·go_wp2_with(fail)
       go_roundg a0
       case measure=>have:=aj.out;have:=aI.out;omega
       case rel=>exact⟨(wrap64 (aa+1)),zr,⟨H⟩,⟨by have:=aj.out;have:=aI.out;omega⟩,⟨zv ap.out HB⟩⟩
      replace H:=yAD H
      obtain⟨dl,H⟩:=H
      have bk:=yt (0≤(ah:Int))
      have bl:=yt ((ah:Int)<(((qD l0 aa).f2).length:Int))
      obtain⟨aL,aV,ae,af⟩:=at_T139 ac.out ah z2 z2
      cases aV
      replace ae:=qH ae
      replace af:=qH af
      go_wp2_with(first|(refine zN 6 ?_;(try(refine z4 ?_;dsimp only));refine zX 6 139 #[.int .i64 0,.string (⟨#[]⟩:ByteArray)] ?_;intro ab hg bM hbox hb;have hge:w7.heap.size≤ab:=(by rw[hg];exact qF HB);clear hg;have hst:Below w7.heap.size w7 ((bM.setCell ⟨ab,0,none⟩ (.int .i64 ((qP ((qD l0 aa).f2) ah).f0))).setCell ⟨ab,1,none⟩ (.string ((qP ((qD l0 aa).f2) ah).f1))):=(qJ (qJ (zv HB hb) hge) hge);have hbx:((bM.setCell ⟨ab,0,none⟩ (.int .i64 ((qP ((qD l0 aa).f2) ah).f0))).setCell ⟨ab,1,none⟩ (.string ((qP ((qD l0 aa).f2) ah).f1))).heap[ab]?=some (.cells #[.int .i64 ((qP ((qD l0 aa).f2) ah).f0),.string ((qP ((qD l0 aa).f2) ah).f1)] 139 (0,0)):=(yP hbox);obtain⟨ay,az,aA,aB⟩:=zc2 hbox)|((with_reducible refine qQ (t:=139) (p:=6) rfl ?_);(try(refine z4 ?_;dsimp only));refine qN (t:=139) (p:=6) (v:=?cK) (w1:=((bM.setCell ⟨ab,0,none⟩ (.int .i64 ((qP ((qD l0 aa).f2) ah).f0))).setCell ⟨ab,1,none⟩ (.string ((qP ((qD l0 aa).f2) ah).f1)))) ?hg ?ho ?hn ?hr ?_;(case ho=>rfl);(case hg=>rfl);(case hn=>rfl);(case hr=>first|(go_simp;done)|(go_simp;rfl));intro aP hw;replace hst:=hst;rw[←hw] at hst hbx;clear hw hb hbox hge HB ay aA az aB;replace HW:=zz (zv HW.out hst);replace ap:=zz (zv ap.out hst);replace a5:=zz (zv a5.out hst);replace aN:=zz (Kd.qB aN.out hst);replace ac:=zz (Kd.qB ac.out hst);replace aU:=zz (Kd.qB aU.out hst);replace ak:=qG ak hst;replace al:=qG al hst;replace am:=qG am hst;replace ar:=qG ar hst;replace au:=qG au hst;replace av:=qG av hst;replace aE:=qG aE hst;replace aF:=qG aF hst;replace aG:=qG aG hst;replace ae:=qG ae hst;replace af:=qG af hst;obtain⟨aW,aX⟩:=zx2 hbx;have HB:=Below.refl aP.heap.size aP;clear hbx hst))
      try simp only[Act.put,List.setIfInBounds_toArray,List.set_cons_zero,List.set_cons_succ]
      refine qR (C:=fun W_=>Below aP.heap.size aP W_) zk zk (qK HB) ?_
      refine yD H ?_ ?_<;>clear H<;>intro dm H
      ·obtain rfl:=zi H
       exact yQ
      refine yG H ?_ ?_<;>clear H<;>intro dn H
      ·obtain rfl:=zi H
       exact yQ
      refine yGn H ?_ ?_<;>clear H<;>intro dp H
      ·replace H:=yf H
       obtain⟨bo,b3,H⟩:=H
       refine yT H ?_ ?_<;>clear H<;>rintro rfl H
       ·repeat(first|go_big_quiet_skip|(go_big_quiet_want;go_big_quiet_op;first|go_big_quiet_on|(with_reducible apply Exists.intro;refine⟨fun W hW=>?_,?_⟩;(first|with_reducible rfl|(go_at_call 91;exact callD (spec_AddressOk.calls a0 _ _ _ b3.out) hW)|(go_simp;with_reducible rfl));go_big_quiet_on)))
        clear HB
        refine zW fun cL (HB:Below aP.heap.size aP cL)=>?_
        go_wp2_with(fail)
        go_roundg a0
        case measure=>have:=aj.out;have:=aI.out;omega
        case rel=>exact⟨(wrap64 (ah+1)),zr,⟨H⟩,⟨by have:=aj.out;have:=aI.out;omega⟩,⟨zv a5.out HB⟩⟩
       obtain rfl:=zi H
       repeat(first|go_big_quiet_skip|(go_big_quiet_want;go_big_quiet_op;first|go_big_quiet_on|(with_reducible apply Exists.intro;refine⟨fun W hW=>?_,?_⟩;(first|with_reducible rfl|(go_at_call 91;exact callD (spec_AddressOk.calls a0 _ _ _ b3.out) hW)|(go_simp;with_reducible rfl));go_big_quiet_on)))
       clear HB
       refine zW fun cM (HB:Below aP.heap.size aP cM)=>?_
       exact yR
      obtain⟨bi,a6⟩:∃j_:Int,(wrap64 (ah - 1))=j_:=⟨_,rfl⟩
      (first|rw[a6] at H|simp only[a6] at H)
      have cN:(IntKind.i64.wrap (ah - 1))=bi:=(i64_w _).trans a6
      (try rw[a6] at A8)
      (try rw[a6] at bL)
      replace H:=yAD H
      obtain⟨dq,H⟩:=H
      replace H:=yAD H
      obtain⟨dr,H⟩:=H
      have bq:=yt (0≤((bi):Int))
      have br:=yt (((bi):Int)<(((qD l0 aa).f2).length:Int))
      obtain⟨aM,aY,an,ao⟩:=at_T139 ac.out (bi) z2 z2
      obtain rfl:aL=aM:=(by injection aY)
      replace an:=qH an
      replace ao:=qH ao
      refine yE H ?_ ?_<;>clear H<;>intro dt H
      ·obtain rfl:=zi H
       exact yQ
      replace H:=yf H
      obtain⟨bs,b4,H⟩:=H
      refine yT H ?_ ?_<;>clear H<;>rintro rfl H
      ·repeat(first|go_big_quiet_skip|(go_big_quiet_want;go_big_quiet_op;first|go_big_quiet_on|(with_reducible apply Exists.intro;refine⟨fun W hW=>?_,?_⟩;(first|with_reducible rfl|(go_at_call 91;exact callD (spec_AddressOk.calls a0 _ _ _ b4.out) hW)|(go_simp;with_reducible rfl));go_big_quiet_on)))
       clear HB
       refine zW fun cO (HB:Below aP.heap.size aP cO)=>?_
       go_wp2_with(fail)
       go_roundg a0
       case measure=>have:=aj.out;have:=aI.out;omega
       case rel=>exact⟨(wrap64 (ah+1)),zr,⟨H⟩,⟨by have:=aj.out;have:=aI.out;omega⟩,⟨zv a5.out HB⟩⟩
      obtain rfl:=zi H
      repeat(first|go_big_quiet_skip|(go_big_quiet_want;go_big_quiet_op;first|go_big_quiet_on|(with_reducible apply Exists.intro;refine⟨fun W hW=>?_,?_⟩;(first|with_reducible rfl|(go_at_call 91;exact callD (spec_AddressOk.calls a0 _ _ _ b4.out) hW)|(go_simp;with_reducible rfl));go_big_quiet_on)))
      clear HB
      refine zW fun cP (HB:Below aP.heap.size aP cP)=>?_
      exact yR
   obtain⟨bX,bY⟩:=zq bK
   clear bK
   repeat(first|go_big_quiet_skip|(go_big_quiet_want;go_big_quiet_op;first|go_big_quiet_on|(with_reducible apply Exists.intro;refine⟨fun W hW=>?_,?_⟩;(first|with_reducible rfl|(go_at_call 77;exact callD (spec_NameOk.calls aw _ _ _ A8.out) hW)|(go_simp;with_reducible rfl));go_big_quiet_on)))
   clear HB
   refine zW fun cQ (HB:Below w7.heap.size w7 cQ)=>?_
   go_wp2_with(fail)
   go_loopg[5] aw (fun kq v5 w'=>∃(ai:Int),v5= .int .i64 ai∧qC (spec_ProfilesOk.l1 kq l0 aa ai ((qD l0 aa).f0) ((qD l0 aa).f1) ((qD l0 aa).f2)=some r)∧qC (kq≤aw)∧qC (Below w7.heap.size w7 w'))
   case atStart=>exact⟨(0),zr,⟨H⟩,⟨Nat.le_refl _⟩,⟨HB⟩⟩
   case round=>
    clear H HB
    obtain⟨ai,rfl,H,aJ,HB⟩:=hrel
    replace HB:=HB.out
    replace H:=H.out
    have a7:=yB w7
    cases gk with
    |zero=>exact absurd H (by simp[spec_ProfilesOk.l1])
    |succ a1=>
     simp only[spec_ProfilesOk.l1] at H
     refine yDn H ?_ ?_<;>clear H<;>intro du H
     ·go_wp2_with(fail)
      go_roundg a1
      case measure=>have:=aj.out;have:=aJ.out;omega
      case rel=>exact⟨(wrap64 (aa+1)),zr,⟨H⟩,⟨by have:=aj.out;have:=aJ.out;omega⟩,⟨zv ap.out HB⟩⟩
     replace H:=yAD H
     obtain⟨dv,H⟩:=H
     have bk:=yt (0≤(ai:Int))
     have bl:=yt ((ai:Int)<(((qD l0 aa).f2).length:Int))
     obtain⟨aL,aV,ae,af⟩:=at_T139 ac.out ai z2 z2
     cases aV
     replace ae:=qH ae
     replace af:=qH af
     go_wp2_with(first|(refine zN 6 ?_;(try(refine z4 ?_;dsimp only));refine zX 6 139 #[.int .i64 0,.string (⟨#[]⟩:ByteArray)] ?_;intro ab hg bN hbox hb;have hge:w7.heap.size≤ab:=(by rw[hg];exact qF HB);clear hg;have hst:Below w7.heap.size w7 ((bN.setCell ⟨ab,0,none⟩ (.int .i64 ((qP ((qD l0 aa).f2) ai).f0))).setCell ⟨ab,1,none⟩ (.string ((qP ((qD l0 aa).f2) ai).f1))):=(qJ (qJ (zv HB hb) hge) hge);have hbx:((bN.setCell ⟨ab,0,none⟩ (.int .i64 ((qP ((qD l0 aa).f2) ai).f0))).setCell ⟨ab,1,none⟩ (.string ((qP ((qD l0 aa).f2) ai).f1))).heap[ab]?=some (.cells #[.int .i64 ((qP ((qD l0 aa).f2) ai).f0),.string ((qP ((qD l0 aa).f2) ai).f1)] 139 (0,0)):=(yP hbox);obtain⟨ay,az,aA,aB⟩:=zc2 hbox)|((with_reducible refine qQ (t:=139) (p:=6) rfl ?_);(try(refine z4 ?_;dsimp only));refine qN (t:=139) (p:=6) (v:=?cR) (w1:=((bN.setCell ⟨ab,0,none⟩ (.int .i64 ((qP ((qD l0 aa).f2) ai).f0))).setCell ⟨ab,1,none⟩ (.string ((qP ((qD l0 aa).f2) ai).f1)))) ?hg ?ho ?hn ?hr ?_;(case ho=>rfl);(case hg=>rfl);(case hn=>rfl);(case hr=>first|(go_simp;done)|(go_simp;rfl));intro aQ hw;replace hst:=hst;rw[←hw] at hst hbx;clear hw hb hbox hge HB ay aA az aB;replace HW:=zz (zv HW.out hst);replace ap:=zz (zv ap.out hst);replace a7:=zz (zv a7.out hst);replace aN:=zz (Kd.qB aN.out hst);replace ac:=zz (Kd.qB ac.out hst);replace aU:=zz (Kd.qB aU.out hst);replace ak:=qG ak hst;replace al:=qG al hst;replace am:=qG am hst;replace ar:=qG ar hst;replace au:=qG au hst;replace av:=qG av hst;replace aE:=qG aE hst;replace aF:=qG aF hst;replace aG:=qG aG hst;replace ae:=qG ae hst;replace af:=qG af hst;obtain⟨aW,aX⟩:=zx2 hbx;have HB:=Below.refl aQ.heap.size aQ;clear hbx hst))
     try simp only[Act.put,List.setIfInBounds_toArray,List.set_cons_zero,List.set_cons_succ]
     refine qR (C:=fun W_=>Below aQ.heap.size aQ W_) zk zk (qK HB) ?_
     refine yD H ?_ ?_<;>clear H<;>intro dw H
     ·obtain rfl:=zi H
      exact yQ
     refine yG H ?_ ?_<;>clear H<;>intro dx H
     ·obtain rfl:=zi H
      exact yQ
     refine yG H ?_ ?_<;>clear H<;>intro dy H
     ·obtain⟨bj,bc⟩:∃j_:Int,(wrap64 (ai - 1))=j_:=⟨_,rfl⟩
      (first|rw[bc] at H|simp only[bc] at H)
      have cS:(IntKind.i64.wrap (ai - 1))=bj:=(i64_w _).trans bc
      (try rw[bc] at A8)
      replace H:=yAD H
      obtain⟨dz,H⟩:=H
      replace H:=yAD H
      obtain⟨dA,H⟩:=H
      have bq:=yt (0≤((bj):Int))
      have br:=yt (((bj):Int)<(((qD l0 aa).f2).length:Int))
      obtain⟨aM,aY,an,ao⟩:=at_T139 ac.out (bj) z2 z2
      obtain rfl:aL=aM:=(by injection aY)
      replace an:=qH an
      replace ao:=qH ao
      refine yE H ?_ ?_<;>clear H<;>intro dB H
      ·obtain rfl:=zi H
       exact yQ
      replace H:=yf H
      obtain⟨bs,b5,H⟩:=H
      refine yT H ?_ ?_<;>clear H<;>rintro rfl H
      ·repeat(first|go_big_quiet_skip|(go_big_quiet_want;go_big_quiet_op;first|go_big_quiet_on|(with_reducible apply Exists.intro;refine⟨fun W hW=>?_,?_⟩;(first|with_reducible rfl|(go_at_call 91;exact callD (spec_AddressOk.calls a1 _ _ _ b5.out) hW)|(go_simp;with_reducible rfl));go_big_quiet_on)))
       clear HB
       refine zW fun cT (HB:Below aQ.heap.size aQ cT)=>?_
       go_wp2_with(fail)
       go_roundg a1
       case measure=>have:=aj.out;have:=aJ.out;omega
       case rel=>exact⟨(wrap64 (ai+1)),zr,⟨H⟩,⟨by have:=aj.out;have:=aJ.out;omega⟩,⟨zv a7.out HB⟩⟩
      obtain rfl:=zi H
      repeat(first|go_big_quiet_skip|(go_big_quiet_want;go_big_quiet_op;first|go_big_quiet_on|(with_reducible apply Exists.intro;refine⟨fun W hW=>?_,?_⟩;(first|with_reducible rfl|(go_at_call 91;exact callD (spec_AddressOk.calls a1 _ _ _ b5.out) hW)|(go_simp;with_reducible rfl));go_big_quiet_on)))
      clear HB
      refine zW fun cU (HB:Below aQ.heap.size aQ cU)=>?_
      exact yR
     replace H:=yf H
     obtain⟨bo,b6,H⟩:=H
     refine yT H ?_ ?_<;>clear H<;>rintro rfl H
     ·repeat(first|go_big_quiet_skip|(go_big_quiet_want;go_big_quiet_op;first|go_big_quiet_on|(with_reducible apply Exists.intro;refine⟨fun W hW=>?_,?_⟩;(first|with_reducible rfl|(go_at_call 91;exact callD (spec_AddressOk.calls a1 _ _ _ b6.out) hW)|(go_simp;with_reducible rfl));go_big_quiet_on)))
      clear HB
      refine zW fun cV (HB:Below aQ.heap.size aQ cV)=>?_
      go_wp2_with(fail)
      go_roundg a1
      case measure=>have:=aj.out;have:=aJ.out;omega
      case rel=>exact⟨(wrap64 (ai+1)),zr,⟨H⟩,⟨by have:=aj.out;have:=aJ.out;omega⟩,⟨zv a7.out HB⟩⟩
     obtain rfl:=zi H
     repeat(first|go_big_quiet_skip|(go_big_quiet_want;go_big_quiet_op;first|go_big_quiet_on|(with_reducible apply Exists.intro;refine⟨fun W hW=>?_,?_⟩;(first|with_reducible rfl|(go_at_call 91;exact callD (spec_AddressOk.calls a1 _ _ _ b6.out) hW)|(go_simp;with_reducible rfl));go_big_quiet_on)))
     clear HB
     refine zW fun cW (HB:Below aQ.heap.size aQ cW)=>?_
     exact yR
end Go.Proofs.YtmdoobnlehkmpaaGreatDoor.Q
