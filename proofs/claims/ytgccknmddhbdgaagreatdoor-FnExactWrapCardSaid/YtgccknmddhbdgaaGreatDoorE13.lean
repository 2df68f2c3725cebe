import Derived.Test.YtgccknmddhbdgaaGreatDoorE11
import Derived.Test.YtgccknmddhbdgaaGreatDoorE09
namespace Go.Proofs.YtgccknmddhbdgaaGreatDoor.Q
open Go.RowKit W1 W2 W3
attribute [local go_sem] max2_int min2_int max_two min_two max_three min_three max_four min_four
attribute [local go_sem high] bl_leq bl_gtr bl_geq
set_option maxHeartbeats 8000000
set_option maxRecDepth 100000
def impl_storePaths.l0:Nat->List ByteArray->List (S61)->Int->Int->Option (List ByteArray)
 |0,_,_,_,_=>none
 |k+1,x3,x7,x8,x9=>if x9<x8 then(if 0<=x9 then(if x9<(x7.length:Int) then(if x3.length<8796093022208 then(impl_storePaths.l0 k (x3++[(qC x7 x9).f0]) x7 x8 (wrap64 (x9+1))) else(none)) else(none)) else(none)) else(some x3)
def impl_storePaths.f(k:Nat)(l0:List (S61)):Option (List ByteArray):=impl_storePaths.l0 k (([]:List ByteArray)) l0 (l0.length:Int) 0
theorem impl_storePaths.calls(k:Nat)(A0:Option Addr)(c0:Nat)(l0:List (S61))(r:List ByteArray)(w:World)(aG:Kd.C k61 w A0 l0.length l0)(aH:l0.length<=c0)(H:impl_storePaths.f k l0=some r):
 Calls Tryz.prog 85 #[.slice A0 l0.length c0] w fun e w'=>∃aI:Value,e= .returned (aI)/\Kd.R Kd.string 9 w' w.heap.size (fun _=>True) aI r/\Below w.heap.size w w':=by
 have a7:=Tryz.underlying61;have aU:=zz aG;have bf:=zz aH;clear aG aH;have HB:=yB w;unfold impl_storePaths.f at H;obtain⟨av,an⟩:∃y_:List ByteArray,y_=(([]:List ByteArray)):=⟨_,rfl⟩
 replace H:(impl_storePaths.l0 k av l0 (l0.length:Int) 0)=some r:=yN0 an H;have ar:=zz an;clear an;have H':=zz H;clear H;go_enter Tryz.func85,Tryz.ntmps85;go_wp2_with(first|(refine yL Kd.string 9 6 ?_;intro a8 w2 ap hb hg_ hnew_;clear hg_ hnew_;(first|rw[<-ar.out] at ap|(simp only[Int.reduceToNat] at ap;rw[<-ar.out] at ap));have aC:=zz (Kd.qU ap (qE zb));replace HB:=zz (zv zb hb);clear hb ap))
 go_loopg[3,9] k (fun kq v3 v9 w'=>∃(ad:List ByteArray) (aa:Int),v9= .int .i64 aa/\qB (impl_storePaths.l0 kq ad l0 (l0.length:Int) aa=some r)/\qB (kq<=k)/\qB (Kd.R Kd.string 9 w' w.heap.size (fun _=>True) v3 ad)/\qB (Below w.heap.size w w'))
 case atStart=>exact⟨(av),(0),zr,H',⟨Nat.le_refl _⟩,⟨zR aC.out⟩,⟨zb⟩⟩
 case round=>
  clear H';obtain⟨ad,aa,rfl,HA,aJ,ac,HB⟩:=hrel;cases gk with
  |zero=>exact absurd HA.out (by simp[impl_storePaths.l0])
  |succ k1=>
   have H:=HA.out;clear HA;simp only[impl_storePaths.l0] at H;refine yDn H ?_ ?_<;>clear H<;>intro a9 H
   ·obtain rfl:=zi H;go_wp2;go_ret;exact⟨_,ze,zR ac.out,zb⟩
   replace H:=yAD H;obtain⟨ba,H⟩:=H;replace H:=yAD H;obtain⟨bb,H⟩:=H;replace H:=yA H;obtain⟨c7,H⟩:=H;have aK:=zz c7;clear c7;obtain⟨aw,ao⟩:∃y_:List ByteArray,y_=(ad++[(qC l0 aa).f0]):=⟨_,rfl⟩
   replace H:(impl_storePaths.l0 k1 aw l0 (l0.length:Int) (wrap64 (aa+1)))=some r:=yN0 ao H;have aD:=zz ao;clear ao;have H':=zz H;clear H;have bc:=yt (0<=(aa:Int));have bd:=yt (aa<(l0.length:Int));obtain⟨a5,ax,ay,az,aA,aM,ae,af,ag,ah,ai,aj,ak,al,am⟩:=at_T61 aU.out aa z2 z2;cases aM;replace ae:=z3 HB.out ae;replace af:=z3 HB.out af;replace ag:=z3 HB.out ag;replace ah:=z3 HB.out ah;replace ai:=z3 HB.out ai;have aN:=zz ak;have aQ:=zz aj;clear ak aj;have aR:=zz am;have aT:=zz al;clear am al;go_wp2_with(first|(refine zX 5 61 #[.string (⟨#[]⟩:ByteArray),.string (⟨#[]⟩:ByteArray),.slice none 0 0,.string (⟨#[]⟩:ByteArray),.slice none 0 0] ?_;intro au hg w8 hbox hb;replace ac:=zz (Kd.vH (zR ac.out) hb);have ab:=zz (hbox);have a6:=zz ((zg:w.heap.size<=au));replace HB:=zz (zv zb hb);clear hb hbox hg;obtain⟨aV,aW,aX,aY,aZ,a0,a1,a2,a3,a4⟩:=zc5 ab.out)|((with_reducible refine qP (b:= .append) (xs:= #[.tmp 13,.tmp 16]) rfl ?_);at_builtin;refine Kd.R_append Kd.string (w0:=w) w.heap.size rfl (.tmp 13) (.tmp 16) 28 9 (.string ⟨#[]⟩) 16 rfl Tryz.underlying28 info9 rfl yd_ yo_ u3 ad ((qC l0 aa).f0) [.string ((qC l0 aa).f0)] (fun _=>True) (fun _=>False) rfl (by first|(go_simp;done)|(go_simp;rfl)) ?aP (fun _ hk=>hk.elim) ?aF ?aO ?aB ?aS ?aL ?_;(case aP=>exact rfl);(case aB=>exact zb);(case aF=>exact(fun _ _=>trivial));(case aO=>exact(yV (Kd.R_types ac.out ab.out yd_)));(case aS=>exact(qE zb));(case aL=>have:=aK.out;omega);intro be bg ho hb hg hat;rw[<-aD.out] at ho;replace ab:=zz (blk_grown (g:=au) (o:= .cells #[.string ((qC l0 aa).f0),.string ((qC l0 aa).f1),.slice ax ((qC l0 aa).f2).length ay,.string ((qC l0 aa).f3),.slice az ((qC l0 aa).f4).length aA] 61 (0,0)) (yP ab.out) hg (Kd.R_ne ac.out ab.out yd_));replace HB:=zz (hb);have aE:=zz (ho);clear ac;clear ho hb hg hat))
   go_roundg k1
   case measure=>exact yM1 aJ
   case rel=>exact⟨(aw),(wrap64 (aa+1)),zr,H',⟨yM1 aJ⟩,⟨zR aE.out⟩,⟨zb⟩⟩
def impl_rising_hs.l0:Nat->List ByteArray->Int->Option (Bool)
 |0,_,_=>none
 |k+1,x0,x3=>if x3<(x0.length:Int) then(if 0<=(wrap64 (x3 - 1)) then(if(wrap64 (x3 - 1))<(x0.length:Int) then(if 0<=x3 then(if((Op.bytesLess ((rdOf ByteArray.empty x0 (wrap64 (x3 - 1))).toList) ((rdOf ByteArray.empty x0 x3).toList))=true) then(impl_rising_hs.l0 k x0 (wrap64 (x3+1))) else(some false)) else(none)) else(none)) else(none)) else(some true)
def impl_rising_hs.f(k:Nat)(l0:List ByteArray):Option (Bool):=impl_rising_hs.l0 k l0 1
theorem impl_rising_hs.calls(k:Nat)(A0:Option Addr)(c0:Nat)(l0:List ByteArray)(r:Bool)(w:World)(ao:Kd.C Kd.string w A0 l0.length l0)(ap:l0.length<=c0)(H:impl_rising_hs.f k l0=some r):
 Calls Tryz.prog 86 #[.slice A0 l0.length c0] w fun e w'=>e= .returned (.bool r)/\vB w w':=by
 have al:=zz ao;have aA:=zz ap;clear ao ap;unfold impl_rising_hs.f at H;have H':=zz H;clear H;go_enter Tryz.func86,Tryz.ntmps86;go_wp2;repeat(go_quiet (fail);try go_wp2)
 go_loopg[3] k (fun kq v3 w'=>∃(aa:Int),v3= .int .i64 aa/\qB (impl_rising_hs.l0 kq l0 aa=some r)/\qB (kq<=k)/\vB w w')
 case atStart=>exact⟨(1),zr,H',⟨Nat.le_refl _⟩,yD0⟩
 case round=>
  clear H';obtain⟨aa,rfl,HA,ar,⟨m1,rfl⟩⟩:=hrel;cases gk with
  |zero=>exact absurd HA.out (by simp[impl_rising_hs.l0])
  |succ k1=>
   have H:=HA.out;clear HA;simp only[impl_rising_hs.l0] at H;refine yDn H ?_ ?_<;>clear H<;>intro aw H
   ·obtain rfl:=zi H;go_wp2;repeat(go_quiet (fail);try go_wp2)
    go_ret;exact⟨zr,yD0⟩
   obtain⟨ab,ag⟩:∃j_:Int,(wrap64 (aa - 1))=j_:=⟨_,rfl⟩
   replace H:(if 0<=(ab) then(if(ab)<(l0.length:Int) then(if 0<=aa then(if((Op.bytesLess ((rdOf ByteArray.empty l0 (ab)).toList) ((rdOf ByteArray.empty l0 aa).toList))=true) then(impl_rising_hs.l0 k1 l0 (wrap64 (aa+1))) else(some false)) else(none)) else(none)) else(none))=some r:=by first|(rw[ag] at H;exact H)|(simp only[ag] at H⊢;exact H)
   have av:(IntKind.i64.wrap (aa - 1))=ab:=(i64_w _).trans ag;replace H:=yAD H;obtain⟨ax,H⟩:=H;replace H:=yAD H;obtain⟨ay,H⟩:=H;replace H:=yAD H;obtain⟨az,H⟩:=H;refine yCn H ?_ ?_<;>clear H<;>intro c7 H
   ·have au:(Op.bytesLess ((rdOf ByteArray.empty l0 (ab)).toList) ((rdOf ByteArray.empty l0 aa).toList))=false:=by simpa using c7
    clear c7;obtain rfl:=zi H;have ac:0<=((ab):Int):=z2;have ad:(ab)<(l0.length:Int):=z2;obtain⟨ah,aj,am⟩:=Kd.vA al.out (ab) ac ad;cases aj;replace ac:=eq_true ac;replace ad:=eq_true ad;have ae:0<=(aa:Int):=z2;have af:aa<(l0.length:Int):=z2;obtain⟨ai,ak,an⟩:=Kd.vA al.out aa ae af;obtain rfl:ah=ai:=(by injection ak)
    replace ae:=eq_true ae;replace af:=eq_true af;go_wp2;repeat(go_quiet (fail);try go_wp2)
    go_ret;exact⟨by first|rfl|(simp;done)|(simp only[<-ag]<;>(first|rfl|simp))|(simp[*];done),yD0⟩
   have au:(Op.bytesLess ((rdOf ByteArray.empty l0 (ab)).toList) ((rdOf ByteArray.empty l0 aa).toList))=true:=c7;clear c7;have H':=zz H;clear H;have ac:0<=((ab):Int):=z2;have ad:(ab)<(l0.length:Int):=z2;obtain⟨ah,aj,am⟩:=Kd.vA al.out (ab) ac ad;cases aj;replace ac:=eq_true ac;replace ad:=eq_true ad;have ae:0<=(aa:Int):=z2;have af:aa<(l0.length:Int):=z2;obtain⟨ai,ak,an⟩:=Kd.vA al.out aa ae af;obtain rfl:ah=ai:=(by injection ak)
   replace ae:=eq_true ae;replace af:=eq_true af;go_wp2;repeat(go_quiet (fail);try go_wp2)
   go_roundg k1
   case measure=>exact yM1 ar
   case rel=>exact⟨(wrap64 (aa+1)),zr,H',⟨yM1 ar⟩,yD0⟩
def impl_sameTexts.l0:Nat->List ByteArray->List ByteArray->Int->Int->Option (Bool)
 |0,_,_,_,_=>none
 |k+1,x0,x1,ab,aa=>if aa<ab then(if 0<=aa then(if aa<(x0.length:Int) then(if aa<(x1.length:Int) then(if(rdOf ByteArray.empty x0 aa).toList=(rdOf ByteArray.empty x1 aa).toList then(impl_sameTexts.l0 k x0 x1 ab (wrap64 (aa+1))) else(some false)) else(none)) else(none)) else(none)) else(some true)
def impl_sameTexts.f(k:Nat)(l0:List ByteArray)(l1:List ByteArray):Option (Bool):=if(l0.length:Int)=(l1.length:Int) then(impl_sameTexts.l0 k l0 l1 (l0.length:Int) 0) else(some false)
theorem impl_sameTexts.calls(k:Nat)(A0:Option Addr)(c0:Nat)(l0:List ByteArray)(A1:Option Addr)(c1:Nat)(l1:List ByteArray)(r:Bool)(w:World)(ao:Kd.C Kd.string w A0 l0.length l0)(ap:l0.length<=c0)(ar:Kd.C Kd.string w A1 l1.length l1)(au:l1.length<=c1)(H:impl_sameTexts.f k l0 l1=some r):
 Calls Tryz.prog 106 #[.slice A0 l0.length c0,.slice A1 l1.length c1] w fun e w'=>e= .returned (.bool r)/\vB w w':=by
 have av:=zz ao;have aF:=zz ap;clear ao ap;have aw:=zz ar;have aG:=zz au;clear ar au;unfold impl_sameTexts.f at H;refine yCn H ?_ ?_<;>clear H<;>intro c3 H
 ·obtain⟨aj,ak⟩:=zw c3;have al:(l0.length==l1.length)=false:=by first|simpa using c3|(simp at c3⊢;omega)
  obtain rfl:=zi H;go_enter Tryz.func106,Tryz.ntmps106;go_wp2;repeat(go_quiet (fail);try go_wp2)
  go_ret;exact⟨zr,yD0⟩
 obtain⟨aj,ak⟩:=zq c3;have al:(l0.length==l1.length)=true:=by first|simpa using c3|(simp at c3⊢;omega)
 clear c3;have H':=zz H;clear H;go_enter Tryz.func106,Tryz.ntmps106;go_wp2;repeat(go_quiet (fail);try go_wp2)
 go_loopg[13] k (fun kq aA w'=>∃(aa:Int),aA= .int .i64 aa/\qB (impl_sameTexts.l0 kq l0 l1 (l0.length:Int) aa=some r)/\qB (kq<=k)/\vB w w')
 case atStart=>exact⟨(0),zr,H',⟨Nat.le_refl _⟩,yD0⟩
 case round=>
  clear H';try clear c1
  try clear c3
  try clear aj
  try clear ak
  try clear al
  obtain⟨aa,rfl,HA,ax,⟨m1,rfl⟩⟩:=hrel;cases gk with
  |zero=>exact absurd HA.out (by simp[impl_sameTexts.l0])
  |succ k1=>
   have H:=HA.out;clear HA;simp only[impl_sameTexts.l0] at H;refine yDn H ?_ ?_<;>clear H<;>intro aB H
   ·obtain rfl:=zi H;go_wp2;repeat(go_quiet (fail);try go_wp2)
    go_ret;exact⟨zr,yD0⟩
   replace H:=yAD H;obtain⟨aC,H⟩:=H;replace H:=yAD H;obtain⟨aD,H⟩:=H;replace H:=yAD H;obtain⟨aE,H⟩:=H;refine yCn H ?_ ?_<;>clear H<;>intro c8 H
   ·obtain⟨ay,az⟩:=zw c8;obtain rfl:=zi H;have ab:0<=(aa:Int):=z2;have ac:aa<(l0.length:Int):=z2;obtain⟨am,af,ah⟩:=Kd.vA av.out aa ab ac;cases af;replace ab:=eq_true ab;replace ac:=eq_true ac;have ad:0<=(aa:Int):=z2;have ae:aa<(l1.length:Int):=z2;obtain⟨an,ag,ai⟩:=Kd.vA aw.out aa ad ae;cases ag;replace ad:=eq_true ad;replace ae:=eq_true ae;go_wp2;repeat(go_quiet (fail);try go_wp2)
    go_ret;exact⟨zr,yD0⟩
   obtain⟨ay,az⟩:=zq c8;clear c8;have H':=zz H;clear H;have ab:0<=(aa:Int):=z2;have ac:aa<(l0.length:Int):=z2;obtain⟨am,af,ah⟩:=Kd.vA av.out aa ab ac;cases af;replace ab:=eq_true ab;replace ac:=eq_true ac;have ad:0<=(aa:Int):=z2;have ae:aa<(l1.length:Int):=z2;obtain⟨an,ag,ai⟩:=Kd.vA aw.out aa ad ae;cases ag;replace ad:=eq_true ad;replace ae:=eq_true ae;go_wp2;repeat(go_quiet (fail);try go_wp2)
   go_roundg k1
   case measure=>exact yM1 ax
   case rel=>exact⟨(wrap64 (aa+1)),zr,H',⟨yM1 ax⟩,yD0⟩
def impl_itemOk.f(k:Nat)(ac:ByteArray)(ad:ByteArray)(ae:List ByteArray)(ab:ByteArray)(aa:List (S63))(l1:List ByteArray):Option (Bool):=(impl_AddressOk.f k ac).bind fun af=>(if af=true then((impl_TreeOk.f k aa).bind fun ag=>(if ag=true then((impl_TreeSum.f k aa).bind fun ah=>(if ad.toList=ah.toList then((impl_RefsIn.f k aa l1).bind fun ai=>((impl_sameTexts.f k ae ai).bind fun aj=>(if aj=true then(if ab.toList=([]:List UInt8) then(some true) else((impl_AddressOk.f k ab).bind fun ak=>(some ak))) else(some false)))) else(some false))) else(some false))) else(some false))
def impl_itemOk.T1:Bool×List (List Nat×List Nat):=(true,[([],[]),([0],[0]),([1],[1]),([2,2],[2]),([3],[3]),([4,3],[3,4]),([5,3,3],[3,5]),([3,6],[3,6]),([7,6],[7]),([8],[8]),([9,8],[8,9]),([8],[8]),([11,8],[8,11]),([12,8,8],[8,12]),([10,13,8],[8,10,13]),([8,14],[8,14]),([15,13],[15]),([16],[16]),([17,16],[16,17]),([16],[16]),([19,16],[16,19]),([16],[16]),([20,21,16,16],[16,20,21]),([18,22,22,16],[16,18,22]),([16,23],[16,23]),([24,23],[24]),([25],[25]),([26,25],[25,26]),([27,25],[25,27]),([28,25,25],[25,28]),([29],[29]),([30,29],[29,30]),([31,29,29],[29,31]),([29,32,25],[25,29,32]),([25,33],[25,33]),([34,32,0,1,2,3,4,5,6,7,8,9,10,11,12,13,14,15,16,17,18,19,20,21,22,23,24,25,26,27,28,29,30,31,32,33,34],[34])])
def impl_itemOk.B1:List Nat:=[0,1,3,7,15,31,63,127,255,511,1023,511,2559,6655,16383,32767,65535,131071,262143,131071,655359,131071,3801087,8388607,16777215,33554431,67108863,134217727,268435455,536870911,1073741823,2147483647,4294967295,8589934591,17179869183,34359738367]
theorem impl_itemOk.tab1:rtab .any (opsOf Tryz.f87 1)=impl_itemOk.T1:=by kernel_rfl
theorem impl_itemOk.bits1:waitsOk impl_itemOk.T1.2 impl_itemOk.B1=true:=by kernel_rfl
theorem impl_itemOk.calls(k:Nat)(ag:ByteArray)(ak:ByteArray)(ai:Option Addr)(aj:Nat)(ac:List ByteArray)(ah:ByteArray)(ae:Option Addr)(af:Nat)(ab:List (S63))(A1:Option Addr)(c1:Nat)(l1:List ByteArray)(r:Bool)(w:World)(ap:Kd.C Kd.string w ai ac.length ac)(ar:ac.length<=aj)(au:Kd.C k63 w ae ab.length ab)(av:ab.length<=af)(aF:Kd.C Kd.string w A1 l1.length l1)(aG:l1.length<=c1)(hG_:GOK w)(H:impl_itemOk.f k ag ak ac ah ab l1=some r):
 Calls Tryz.prog 87 #[.agg #[.string ag,.string ak,.slice ai ac.length aj,.string ah,.slice ae ab.length af],.slice A1 l1.length c1] w fun e w'=>e= .returned (.bool r)/\Below w.heap.size w w':=by
 have a7:=Tryz.underlying61;have HG:=zz hG_;clear hG_;have aB:=zz ap;have aC:=zz ar;clear ap ar;have al:=zz au;have am:=zz av;clear au av;have aY:=zz aF;have aZ:=zz aG;clear aF aG;have HB:=yB w;unfold impl_itemOk.f at H;replace H:=zf H;obtain⟨aP,aH,H⟩:=H;try dsimp only at H
 have A3:=zz aH;clear aH;go_enter Tryz.func87,Tryz.ntmps87;try go_wp2_with(first|(refine zX 2 61 #[.string ag,.string ak,.slice ai ac.length aj,.string ah,.slice ae ab.length af] ?_;intro ad hg a0 hbox hb;have aa:=zz (hbox);have a6:=zz ((zg:w.heap.size<=ad));replace HB:=zz (zv zb hb);clear hb hbox hg))
 replace aa:=zz (blk_drew aa.out);replace HB:=zz (qK HB.out);refine start_ (n:=36) (S:=fun w'=>w'.cell? ⟨ad,0,none⟩=some (.string ag)/\w'.cell? ⟨ad,1,none⟩=some (.string ak)/\w'.cell? ⟨ad,2,none⟩=some (.slice ai ac.length aj)/\w'.cell? ⟨ad,3,none⟩=some (.string ah)/\w'.cell? ⟨ad,4,none⟩=some (.slice ae ab.length af)) (ds:=[]) (bp 0 36) zk rfl rfl (zy5 aa.out) (fun hHeld=>?_);refine with_tabW impl_itemOk.tab1 impl_itemOk.bits1 (fun HT_ HW_=>?_);generalize a0.drew=a9 at aa HB hHeld⊢;refine zp 0 5 (bp 1 35) ?_;refine zt 1 6 (bp 2 34) ?_;refine zo 2 7 (bp 3 33) fun K hK=>?_;refine zh Tryz.func62 #[.string ag] ?_;with_reducible refine(impl_AddressOk.calls k ag _ _ A3.out).mono ?_
 rintro e w' ⟨rfl,⟨nd,rfl⟩⟩;refine⟨_,rfl,?_⟩;refine hK.out _ _ (zy5 aa.out) (fun hHeld=>?_);clear hK K;refine zn 7 ?_;by_cases c4:aP=true
 case neg=>
  replace c4:=Bool.eq_false_iff.mpr c4;subst c4;rw[if_neg (show¬(false=true) by decide)] at H;obtain rfl:=zi H;refine zp 3 8 (bp 4 32) ?_;refine zu 4 9 (bp 5 31) ?_;refine zu 5 10 (bp 6 30) ?_;refine zu 6 11 (bp 7 29) ?_;refine zp 7 12 (bp 8 28) ?_;refine zp 8 13 (bp 9 27) ?_;refine zu 9 14 (bp 10 26) ?_;refine zu 10 15 (bp 11 25) ?_;refine zu 11 16 (bp 12 24) ?_;refine zu 12 17 (bp 13 23) ?_;refine zu 13 18 (bp 14 22) ?_;refine zu 14 19 (bp 15 21) ?_;refine zp 15 20 (bp 16 20) ?_;refine zp 16 21 (bp 17 19) ?_;refine zu 17 22 (bp 18 18) ?_;refine zu 18 23 (bp 19 17) ?_;refine zu 19 24 (bp 20 16) ?_;refine zu 20 25 (bp 21 15) ?_;refine zu 21 26 (bp 22 14) ?_;refine zu 22 27 (bp 23 13) ?_;refine zu 23 28 (bp 24 12) ?_;refine zp 24 29 (bp 25 11) ?_;refine zp 25 30 (bp 26 10) ?_;refine zu 26 31 (bp 27 9) ?_;refine zu 27 32 (bp 28 8) ?_;refine zu 28 33 (bp 29 7) ?_;refine zu 29 34 (bp 30 6) ?_;refine zu 30 35 (bp 31 5) ?_;refine zu 31 36 (bp 32 4) ?_;refine zu 32 37 (bp 33 3) ?_;refine zu 33 38 (bp 34 2) ?_;refine zp 34 39 (bp 35 1) ?_;refine zp 35 4 (bp 36 0) ?_;refine done_ (done_of HT_.out zk) ?_;try go_wp2
  go_ret;exact⟨ze,zb⟩
 subst c4;rw[if_pos rfl] at H;replace H:=zf H;obtain⟨aQ,aI,H⟩:=H;try dsimp only at H
 have A5:=zz aI;clear aI;refine zp 3 8 (bp 4 32) ?_;refine zp 4 9 (bp 5 31) ?_;refine zt 5 10 (bp 6 30) ?_;refine zo 6 11 (bp 7 29) fun K hK=>?_;refine zh Tryz.func30 #[.slice ae ab.length af] ?_;with_reducible refine(impl_TreeOk.calls k _ _ ab _ _ ?s1 ?s2 ?s3 A5.out).mono ?_
 (case s1=>exact zC al.out)
 (case s2=>exact am.out)
 (case s3=>exact zG)
 rintro e ba ⟨rfl,hb⟩;refine⟨_,rfl,?_⟩;replace aa:=zz (zJ aa hb);replace HB:=zz (zv zb hb)
 (try clear hb)
 (try clear aJ)
 (try clear hk)
 (try clear hi)
 refine hK.out _ _ (zy5 aa.out) (fun hHeld=>?_);clear hK K;refine zn 11 ?_;by_cases c6:aQ=true
 case neg=>
  replace c6:=Bool.eq_false_iff.mpr c6;subst c6;rw[if_neg (show¬(false=true) by decide)] at H;obtain rfl:=zi H;refine zp 7 12 (bp 8 28) ?_;refine zp 8 13 (bp 9 27) ?_;refine zu 9 14 (bp 10 26) ?_;refine zu 10 15 (bp 11 25) ?_;refine zu 11 16 (bp 12 24) ?_;refine zu 12 17 (bp 13 23) ?_;refine zu 13 18 (bp 14 22) ?_;refine zu 14 19 (bp 15 21) ?_;refine zp 15 20 (bp 16 20) ?_;refine zp 16 21 (bp 17 19) ?_;refine zu 17 22 (bp 18 18) ?_;refine zu 18 23 (bp 19 17) ?_;refine zu 19 24 (bp 20 16) ?_;refine zu 20 25 (bp 21 15) ?_;refine zu 21 26 (bp 22 14) ?_;refine zu 22 27 (bp 23 13) ?_;refine zu 23 28 (bp 24 12) ?_;refine zp 24 29 (bp 25 11) ?_;refine zp 25 30 (bp 26 10) ?_;refine zu 26 31 (bp 27 9) ?_;refine zu 27 32 (bp 28 8) ?_;refine zu 28 33 (bp 29 7) ?_;refine zu 29 34 (bp 30 6) ?_;refine zu 30 35 (bp 31 5) ?_;refine zu 31 36 (bp 32 4) ?_;refine zu 32 37 (bp 33 3) ?_;refine zu 33 38 (bp 34 2) ?_;refine zp 34 39 (bp 35 1) ?_;refine zp 35 4 (bp 36 0) ?_;refine done_ (done_of HT_.out zk) ?_;try go_wp2
  go_ret;exact⟨ze,zb⟩
 subst c6;rw[if_pos rfl] at H;replace H:=zf H;obtain⟨aR,aK,H⟩:=H;try dsimp only at H
 have A7:=zz aK;clear aK;refine zp 7 12 (bp 8 28) ?_;refine zp 8 13 (bp 9 27) ?_;refine zp 9 14 (bp 10 26) ?_;refine zp 11 16 (bm 36 3071) ?_;refine zt 10 15 (bp 12 24) ?_;refine zt 12 17 (bp 13 23) ?_;refine zo 13 18 (bp 14 22) fun K hK=>?_;refine zh Tryz.func105 #[.slice ae ab.length af] ?_;with_reducible refine(impl_TreeSum.calls k _ _ ab aR _ ?s1 ?s2 ?s3 A7.out).mono ?_
 (case s1=>exact zc al.out)
 (case s2=>exact am.out)
 (case s3=>exact zG)
 rintro e bb ⟨rfl,hb⟩;refine⟨_,rfl,?_⟩;replace aa:=zz (zJ aa hb);replace HB:=zz (zv zb hb)
 (try clear hb)
 (try clear aJ)
 (try clear hk)
 (try clear hi)
 refine hK.out _ _ (zy5 aa.out) (fun hHeld=>?_);clear hK K;refine zn 18 ?_;refine yCn H ?_ ?_<;>clear H<;>intro c8 H
 ·obtain⟨aS,aT⟩:=zw c8;obtain rfl:=zi H;refine zp 14 19 (bp 15 21) ?_;refine zp 15 20 (bp 16 20) ?_;refine zp 16 21 (bp 17 19) ?_;refine zu 17 22 (bp 18 18) ?_;refine zu 18 23 (bp 19 17) ?_;refine zu 19 24 (bp 20 16) ?_;refine zu 20 25 (bp 21 15) ?_;refine zu 21 26 (bp 22 14) ?_;refine zu 22 27 (bp 23 13) ?_;refine zu 23 28 (bp 24 12) ?_;refine zp 24 29 (bp 25 11) ?_;refine zp 25 30 (bp 26 10) ?_;refine zu 26 31 (bp 27 9) ?_;refine zu 27 32 (bp 28 8) ?_;refine zu 28 33 (bp 29 7) ?_;refine zu 29 34 (bp 30 6) ?_;refine zu 30 35 (bp 31 5) ?_;refine zu 31 36 (bp 32 4) ?_;refine zu 32 37 (bp 33 3) ?_;refine zu 33 38 (bp 34 2) ?_;refine zp 34 39 (bp 35 1) ?_;refine zp 35 4 (bp 36 0) ?_;refine done_ (done_of HT_.out zk) ?_;try go_wp2
  go_ret;exact⟨ze,zb⟩
 obtain⟨aS,aT⟩:=zq c8;clear c8;replace H:=zf H;obtain⟨ao,aL,H⟩:=H;try dsimp only at H
 have A9:=zz aL;clear aL;replace H:=zf H;obtain⟨aU,ax,H⟩:=H;try dsimp only at H
 have a1:=zz ax;clear ax;refine zp 14 19 (bp 15 21) ?_;refine zp 15 20 (bp 16 20) ?_;refine zp 16 21 (bp 17 19) ?_;refine zp 17 22 (bp 18 18) ?_;refine zp 19 24 (bm 36 786431) ?_;refine zp 21 26 (bm 36 2883583) ?_;refine zt 18 23 (bm 36 3145727) ?_;refine zt 20 25 (bp 22 14) ?_;refine zo 22 27 (bp 23 13) fun K hK=>?_;refine zh Tryz.func107 #[.slice ae ab.length af,.slice A1 l1.length c1] ?_;with_reducible refine(impl_RefsIn.calls k _ _ ab _ _ l1 ao _ ?s1 ?s2 ?s3 ?s4 ?s5 A9.out).mono ?_
 (case s1=>exact zc al.out)
 (case s2=>exact am.out)
 (case s3=>exact zc aY.out)
 (case s4=>exact aZ.out)
 (case s5=>exact zG)
 rintro e bc ⟨a8,rfl,aM,hb⟩;refine⟨_,rfl,?_⟩;have an:=zz (Kd.qU aM (qE zb));replace aa:=zz (zJ aa hb);replace HB:=zz (zv zb hb)
 (try clear hb)
 (try clear aJ)
 (try clear hk)
 (try clear hi)
 (try clear aM)
 obtain⟨aV,aW,ay⟩:=Kd.qW an.out
 (first|subst ay|(injection ay with aN a2 aO;have a3:=aN.symm;have a4:=aO.symm;clear aN a2 aO;subst a3;subst a4))
 refine hK.out _ _ (zy5 aa.out) (fun hHeld=>?_);clear hK K;refine zn 27 ?_;refine zo 23 28 (bp 24 12) fun K hK=>?_;refine zh Tryz.func106 #[.slice ai ac.length aj,.slice aV ao.length aW] ?_;with_reducible refine(impl_sameTexts.calls k _ _ ac _ _ ao _ _ ?s1 ?s2 ?s3 ?s4 a1.out).mono ?_
 (case s1=>exact zc aB.out)
 (case s2=>exact aC.out)
 (case s3=>repeat(first|exact(Kd.qH an.out).2.2|(with_reducible refine Kd.C_alloc ?_ _)|(with_reducible refine Kd.C_drewN ?_ _)|(with_reducible refine Kd.C_drew ?_)))
 (case s4=>exact(Kd.qH an.out).2.1)
 rintro e w' ⟨rfl,⟨nd,rfl⟩⟩;refine⟨_,rfl,?_⟩;refine hK.out _ _ (zy5 aa.out) (fun hHeld=>?_);clear hK K;refine zn 28 ?_;by_cases aw:aU=true
 case neg=>
  replace aw:=Bool.eq_false_iff.mpr aw;subst aw;rw[if_neg (show¬(false=true) by decide)] at H;obtain rfl:=zi H;refine zp 24 29 (bp 25 11) ?_;refine zp 25 30 (bp 26 10) ?_;refine zu 26 31 (bp 27 9) ?_;refine zu 27 32 (bp 28 8) ?_;refine zu 28 33 (bp 29 7) ?_;refine zu 29 34 (bp 30 6) ?_;refine zu 30 35 (bp 31 5) ?_;refine zu 31 36 (bp 32 4) ?_;refine zu 32 37 (bp 33 3) ?_;refine zu 33 38 (bp 34 2) ?_;refine zp 34 39 (bp 35 1) ?_;refine zp 35 4 (bp 36 0) ?_;refine done_ (done_of HT_.out zk) ?_;try go_wp2
  go_ret;exact⟨ze,zb⟩
 subst aw;rw[if_pos rfl] at H;refine yC H ?_ ?_<;>clear H<;>intro az H
 ·obtain⟨aD,aE⟩:=zq az;clear az;obtain rfl:=zi H;refine zp 24 29 (bp 25 11) ?_;refine zp 25 30 (bp 26 10) ?_;refine zp 26 31 (bp 27 9) ?_;refine zt 27 32 (bp 28 8) ?_;refine zp 28 33 (bp 29 7) ?_;refine zp 29 34 (bp 30 6) ?_;refine zu 30 35 (bp 31 5) ?_;refine zu 31 36 (bp 32 4) ?_;refine zu 32 37 (bp 33 3) ?_;refine zp 33 38 (bp 34 2) ?_;refine zp 34 39 (bp 35 1) ?_;refine zp 35 4 (bp 36 0) ?_;refine done_ (done_of HT_.out zk) ?_;try go_wp2
  go_ret;exact⟨ze,zb⟩
 obtain⟨aD,aE⟩:=zw az;replace H:=zf H;obtain⟨aX,aA,H⟩:=H;try dsimp only at H
 have a5:=zz aA;clear aA;obtain rfl:=zi H;refine zp 24 29 (bp 25 11) ?_;refine zp 25 30 (bp 26 10) ?_;refine zp 26 31 (bp 27 9) ?_;refine zt 27 32 (bp 28 8) ?_;refine zp 28 33 (bp 29 7) ?_;refine zp 29 34 (bp 30 6) ?_;refine zp 30 35 (bp 31 5) ?_;refine zt 31 36 (bp 32 4) ?_;refine zo 32 37 (bp 33 3) fun K hK=>?_;refine zh Tryz.func62 #[.string ah] ?_;with_reducible refine(impl_AddressOk.calls k ah aX _ a5.out).mono ?_
 rintro e w' ⟨rfl,⟨nd,rfl⟩⟩;refine⟨_,rfl,?_⟩;refine hK.out _ _ (zy5 aa.out) (fun hHeld=>?_);clear hK K;refine zn 37 ?_;refine zp 33 38 (bp 34 2) ?_;refine zp 34 39 (bp 35 1) ?_;refine zp 35 4 (bp 36 0) ?_;refine done_ (done_of HT_.out zk) ?_;try go_wp2
 go_ret;exact⟨ze,zb⟩
def impl_StoreOk.l0:Nat->List ByteArray->List (S61)->Int->Int->Option (Bool)
 |0,_,_,_,_=>none
 |k+1,x3,ab,ac,aa=>if aa<ac then(if 0<=aa then(if aa<(ab.length:Int) then((impl_itemOk.f k ((qC ab aa).f0) ((qC ab aa).f1) ((qC ab aa).f2) ((qC ab aa).f3) ((qC ab aa).f4) x3).bind fun ad=>(if ad=true then(impl_StoreOk.l0 k x3 ab ac (wrap64 (aa+1))) else(some false))) else(none)) else(none)) else(some true)
def impl_StoreOk.f(k:Nat)(l0:List (S61)):Option (Bool):=if(l0.length:Int)>300 then(some false) else((impl_storePaths.f k l0).bind fun aa=>((impl_rising_hs.f k aa).bind fun ab=>(if ab=true then(impl_StoreOk.l0 k aa l0 (l0.length:Int) 0) else(some false))))
theorem impl_StoreOk.calls(k:Nat)(A0:Option Addr)(c0:Nat)(l0:List (S61))(r:Bool)(w:World)(aN:Kd.C k61 w A0 l0.length l0)(aO:l0.length<=c0)(hG_:GOK w)(H:impl_StoreOk.f k l0=some r):
 Calls Tryz.prog 58 #[.slice A0 l0.length c0] w fun e w'=>e= .returned (.bool r)/\Below w.heap.size w w':=by
 have ba:=Tryz.underlying61;have HG:=zz hG_;clear hG_;have ao:=zz aN;have a0:=zz aO;clear aN aO;have HB:=yB w;unfold impl_StoreOk.f at H;replace HB:=HB.out;have HW:=yB w;go_enter Tryz.func58,Tryz.ntmps58;refine yC H ?_ ?_<;>clear H<;>intro c2 H
 ·have aR:=zgt c2;have aS:decide (300<l0.length)=true:=z1 yo_;clear c2;obtain rfl:=zi H;exact yR
 have aR:=zgtn c2;have aS:decide (300<l0.length)=false:=z0 yo_;clear c2;replace H:=yf H;obtain⟨aT,A3,H⟩:=H;go_wp2_with(fail)
 refine(impl_storePaths.calls k _ _ _ _ _ (Kd.qD ao.out HB) a0.out A3.out).mono ?_;rintro e w4 ⟨a1,rfl,ax,hb⟩;replace HB:=zv HB hb;clear hb;have hst:=HB;replace HW:=zz (zv HW.out hst);replace ao:=zz (Kd.qD ao.out hst);clear hst;replace HB:=Below.refl w4.heap.size w4;obtain⟨a4,a5,rfl,hl_,hC_⟩:=Kd.R_reads ax;have an:=zz hC_;have ay:=zz hl_;clear hl_ hC_ ax;replace H:=yf H;obtain⟨bb,A6,H⟩:=H;refine yF H ?_ ?_<;>clear H<;>rintro rfl H
 ·go_wp2_with(fail)
  refine(impl_rising_hs.calls k _ _ _ _ _ (Kd.qD an.out HB) ay.out A6.out).mono ?_;rintro e bf ⟨rfl,hd⟩;replace HB:=zv HB hd.below;clear hd;obtain rfl:=zi H;exact yR
 go_wp2_with(fail)
 refine(impl_rising_hs.calls k _ _ _ _ _ (Kd.qD an.out HB) ay.out A6.out).mono ?_;rintro e w8 ⟨rfl,hd⟩;replace HB:=zv HB hd.below;clear hd;go_wp2_with(fail)
 go_loopg[16] k (fun kq a2 w'=>∃(aa:Int),a2= .int .i64 aa/\qB (impl_StoreOk.l0 kq aT l0 (l0.length:Int) aa=some r)/\qB (kq<=k)/\qB (Below w4.heap.size w4 w'))
 case atStart=>exact⟨(0),zr,⟨H⟩,⟨Nat.le_refl _⟩,⟨HB⟩⟩
 case round=>
  clear H HB;obtain⟨aa,rfl,H,az,HB⟩:=hrel;replace HB:=HB.out;replace H:=H.out;have aw:=yB w4;cases gk with
  |zero=>simp[impl_StoreOk.l0] at H
  |succ aP=>
   simp only[impl_StoreOk.l0] at H;refine yDn H ?_ ?_<;>clear H<;>intro a6 H
   ·obtain rfl:=zi H;exact yR
   replace H:=yAD H;obtain⟨a7,H⟩:=H;replace H:=yAD H;obtain⟨a8,H⟩:=H;have bc:=yt (0<=(aa:Int));have bd:=yt ((aa:Int)<(l0.length:Int));obtain⟨a9,ah,ai,aj,ak,aU,ac,ad,ae,af,ag,ap,ar,au,av⟩:=at_T61 ao.out aa z2 z2;cases aU;replace ac:=qL ac;replace ad:=qL ad;replace ae:=qL ae;replace af:=qL af;replace ag:=qL ag;have al:=zz ar;have aA:=zz ap;clear ar ap;have am:=zz av;have aB:=zz au;clear av au;replace H:=yf H;obtain⟨be,a3,H⟩:=H;go_wp2_with(first|(refine zN 5 ?_;(try(refine z4 ?_;dsimp only));refine zX 5 61 #[.string (⟨#[]⟩:ByteArray),.string (⟨#[]⟩:ByteArray),.slice none 0 0,.string (⟨#[]⟩:ByteArray),.slice none 0 0] ?_;intro ab hg aM hbox hb;have hge:w4.heap.size<=ab:=(by rw[hg];exact qE HB);clear hg;have hst:Below w4.heap.size w4 (((((aM.setCell ⟨ab,0,none⟩ (.string ((qC l0 aa).f0))).setCell ⟨ab,1,none⟩ (.string ((qC l0 aa).f1))).setCell ⟨ab,2,none⟩ (.slice ah ((qC l0 aa).f2).length ai)).setCell ⟨ab,3,none⟩ (.string ((qC l0 aa).f3))).setCell ⟨ab,4,none⟩ (.slice aj ((qC l0 aa).f4).length ak)):=(qJ (qJ (qJ (qJ (qJ (zv HB hb) hge) hge) hge) hge) hge);have hbx:(((((aM.setCell ⟨ab,0,none⟩ (.string ((qC l0 aa).f0))).setCell ⟨ab,1,none⟩ (.string ((qC l0 aa).f1))).setCell ⟨ab,2,none⟩ (.slice ah ((qC l0 aa).f2).length ai)).setCell ⟨ab,3,none⟩ (.string ((qC l0 aa).f3))).setCell ⟨ab,4,none⟩ (.slice aj ((qC l0 aa).f4).length ak)).heap[ab]?=some (.cells #[.string ((qC l0 aa).f0),.string ((qC l0 aa).f1),.slice ah ((qC l0 aa).f2).length ai,.string ((qC l0 aa).f3),.slice aj ((qC l0 aa).f4).length ak] 61 (0,0)):=(yP hbox);obtain⟨aC,aD,aE,aF,aG,aH,aI,aJ,aK,aL⟩:=zc5 hbox)|((with_reducible refine qR (t:=61) (p:=5) rfl ?_);(try(refine z4 ?_;dsimp only));refine ye 61 5 (((((aM.setCell ⟨ab,0,none⟩ (.string ((qC l0 aa).f0))).setCell ⟨ab,1,none⟩ (.string ((qC l0 aa).f1))).setCell ⟨ab,2,none⟩ (.slice ah ((qC l0 aa).f2).length ai)).setCell ⟨ab,3,none⟩ (.string ((qC l0 aa).f3))).setCell ⟨ab,4,none⟩ (.slice aj ((qC l0 aa).f4).length ak)) ?_;intro aQ hw;replace hst:=hst;rw[<-hw] at hst hbx;clear hw hb hbox hge HB aC aH aD aI aE aJ aF aK aG aL;replace HW:=zz (zv HW.out hst);replace aw:=zz (zv aw.out hst);replace an:=zz (Kd.qD an.out hst);replace al:=zz (Kd.qD al.out hst);replace am:=zz (Kd.qD am.out hst);replace ac:=qG ac hst;replace ad:=qG ad hst;replace ae:=qG ae hst;replace af:=qG af hst;replace ag:=qG ag hst;obtain⟨aV,aW,aX,aY,aZ⟩:=zx5 hbx;have HB:=Below.refl aQ.heap.size aQ;clear hbx hst))
   refine(impl_itemOk.calls aP _ _ _ _ _ _ _ _ _ _ _ _ _ _ (Kd.qD al.out HB) aA.out (Kd.qD am.out HB) aB.out (Kd.qD an.out HB) ay.out (GOK.below HG.out (zv HW.out HB)) a3.out).mono ?_;rintro e bg ⟨rfl,hb⟩;replace HB:=zv HB hb;clear hb;refine yT H ?_ ?_<;>clear H<;>rintro rfl H
   ·go_wp2_with(fail)
    go_roundg aP
    case measure=>exact yM1 az
    case rel=>exact⟨(wrap64 (aa+1)),zr,⟨H⟩,⟨yM1 az⟩,⟨zv aw.out HB⟩⟩
   obtain rfl:=zi H;exact yR
def spec_l12Paths.l0:Nat->List (S61)->List ByteArray->Int->Option (List ByteArray)
 |0,_,_,_=>none
 |k+1,x0,x3,x4=>if x4<(x0.length:Int) then(if 0<=x4 then(if x3.length<8796093022208 then(spec_l12Paths.l0 k x0 (x3++[(qC x0 x4).f0]) (wrap64 (x4+1))) else(none)) else(none)) else(some x3)
def spec_l12Paths.f(k:Nat)(l0:List (S61)):Option (List ByteArray):=spec_l12Paths.l0 k l0 (([]:List ByteArray)) 0
theorem spec_l12Paths.calls(k:Nat)(A0:Option Addr)(c0:Nat)(l0:List (S61))(r:List ByteArray)(w:World)(ay:Kd.C k61 w A0 l0.length l0)(az:l0.length<=c0)(H:spec_l12Paths.f k l0=some r):
 Calls Tryz.prog 72 #[.slice A0 l0.length c0] w fun e w'=>∃aA:Value,e= .returned (aA)/\Kd.R Kd.string 9 w' w.heap.size (fun _=>True) aA r/\Below w.heap.size w w':=by
 have aK:=zz ay;have a0:=zz az;clear ay az;have HB:=yB w;unfold spec_l12Paths.f at H;obtain⟨ar,al⟩:∃y_:List ByteArray,y_=(([]:List ByteArray)):=⟨_,rfl⟩
 replace H:(spec_l12Paths.l0 k l0 ar 0)=some r:=yN0 al H;have ap:=zz al;clear al;have H':=zz H;clear H;go_enter Tryz.func72,Tryz.ntmps72;go_wp2_with(first|(refine yL Kd.string 9 5 ?_;intro aU w2 an hb hg_ hnew_;clear hg_ hnew_;(first|rw[<-ap.out] at an|(simp only[Int.reduceToNat] at an;rw[<-ap.out] at an));have av:=zz (Kd.qU an (qE zb));replace HB:=zz (zv zb hb);clear hb an))
 go_loopg[3,4] k (fun kq v3 v4 w'=>∃(ab:List ByteArray) (aa:Int),v4= .int .i64 aa/\qB (spec_l12Paths.l0 kq l0 ab aa=some r)/\qB (kq<=k)/\qB (Kd.R Kd.string 9 w' w.heap.size (fun _=>True) v3 ab)/\qB (Below w.heap.size w w'))
 case atStart=>exact⟨(ar),(0),zr,H',⟨Nat.le_refl _⟩,⟨zR av.out⟩,⟨zb⟩⟩
 case round=>
  clear H';obtain⟨ab,aa,rfl,HA,aC,ao,HB⟩:=hrel;cases gk with
  |zero=>exact absurd HA.out (by simp[spec_l12Paths.l0])
  |succ k1=>
   have H:=HA.out;clear HA;simp only[spec_l12Paths.l0] at H;refine yDn H ?_ ?_<;>clear H<;>intro aV H
   ·obtain rfl:=zi H;go_wp2;go_ret;exact⟨_,ze,zR ao.out,zb⟩
   replace H:=yAD H;obtain⟨aW,H⟩:=H;replace H:=yA H;obtain⟨c6,H⟩:=H;have aD:=zz c6;clear c6;obtain⟨au,am⟩:∃y_:List ByteArray,y_=(ab++[(qC l0 aa).f0]):=⟨_,rfl⟩
   replace H:(spec_l12Paths.l0 k1 l0 au (wrap64 (aa+1)))=some r:=yN0 am H;have aw:=zz am;clear am;have H':=zz H;clear H;have aX:=yt (0<=(aa:Int));have aY:=yt (aa<(l0.length:Int));obtain⟨aT,aM,aN,aQ,aR,aE,ac,ad,ae,af,ag,ah,ai,aj,ak⟩:=at_T61 aK.out aa z2 z2;cases aE;replace ac:=z3 HB.out ac;replace ad:=z3 HB.out ad;replace ae:=z3 HB.out ae;replace af:=z3 HB.out af;replace ag:=z3 HB.out ag;have aG:=zz ai;have aH:=zz ah;clear ai ah;have aI:=zz ak;have aJ:=zz aj;clear ak aj;go_wp2_with(first|((with_reducible refine qP (b:= .append) (xs:= #[.tmp 12,.tmp 18]) rfl ?_);at_builtin;refine Kd.R_append Kd.string (w0:=w) w.heap.size rfl (.tmp 12) (.tmp 18) 28 9 (.string ⟨#[]⟩) 16 rfl Tryz.underlying28 info9 rfl yd_ yo_ u3 ab ((qC l0 aa).f0) [.string ((qC l0 aa).f0)] (fun _=>True) (fun _=>False) rfl rfl ?aP (fun _ hk=>hk.elim) ?aF ?aO ?aB ?aS ?aL ?_;(case aP=>exact rfl);(case aB=>exact zb);(case aF=>exact(fun _ _=>trivial));(case aO=>exact(zR ao.out));(case aS=>exact(qE zb));(case aL=>have:=aD.out;omega);intro aZ w7 ho hb hg hat;rw[<-aw.out] at ho;replace HB:=zz (hb);have ax:=zz (ho);clear ao;clear ho hb hg hat))
   go_roundg k1
   case measure=>exact yM1 aC
   case rel=>exact⟨(au),(wrap64 (aa+1)),zr,H',⟨yM1 aC⟩,⟨zR ax.out⟩,⟨zb⟩⟩
def spec_l12SameTexts.l0:Nat->List ByteArray->List ByteArray->Int->Option (Bool)
 |0,_,_,_=>none
 |k+1,x0,x1,x5=>if x5<(x0.length:Int) then(if 0<=x5 then(if x5<(x1.length:Int) then(if(rdOf ByteArray.empty x0 x5).toList=(rdOf ByteArray.empty x1 x5).toList then(spec_l12SameTexts.l0 k x0 x1 (wrap64 (x5+1))) else(some false)) else(none)) else(none)) else(some true)
def spec_l12SameTexts.f(k:Nat)(l0:List ByteArray)(l1:List ByteArray):Option (Bool):=if(l0.length:Int)=(l1.length:Int) then(spec_l12SameTexts.l0 k l0 l1 0) else(some false)
theorem spec_l12SameTexts.calls(k:Nat)(A0:Option Addr)(c0:Nat)(l0:List ByteArray)(A1:Option Addr)(c1:Nat)(l1:List ByteArray)(r:Bool)(w:World)(ao:Kd.C Kd.string w A0 l0.length l0)(ap:l0.length<=c0)(ar:Kd.C Kd.string w A1 l1.length l1)(au:l1.length<=c1)(H:spec_l12SameTexts.f k l0 l1=some r):
 Calls Tryz.prog 98 #[.slice A0 l0.length c0,.slice A1 l1.length c1] w fun e w'=>e= .returned (.bool r)/\vB w w':=by
 have av:=zz ao;have aD:=zz ap;clear ao ap;have aw:=zz ar;have aE:=zz au;clear ar au;unfold spec_l12SameTexts.f at H;refine yCn H ?_ ?_<;>clear H<;>intro c3 H
 ·obtain⟨aj,ak⟩:=zw c3;have al:(l0.length==l1.length)=false:=by first|simpa using c3|(simp at c3⊢;omega)
  obtain rfl:=zi H;go_enter Tryz.func98,Tryz.ntmps98;go_wp2;repeat(go_quiet (fail);try go_wp2)
  go_ret;exact⟨zr,yD0⟩
 obtain⟨aj,ak⟩:=zq c3;have al:(l0.length==l1.length)=true:=by first|simpa using c3|(simp at c3⊢;omega)
 clear c3;have H':=zz H;clear H;go_enter Tryz.func98,Tryz.ntmps98;go_wp2;repeat(go_quiet (fail);try go_wp2)
 go_loopg[5] k (fun kq v5 w'=>∃(aa:Int),v5= .int .i64 aa/\qB (spec_l12SameTexts.l0 kq l0 l1 aa=some r)/\qB (kq<=k)/\vB w w')
 case atStart=>exact⟨(0),zr,H',⟨Nat.le_refl _⟩,yD0⟩
 case round=>
  clear H';try clear c1
  try clear c3
  try clear aj
  try clear ak
  try clear al
  obtain⟨aa,rfl,HA,ax,⟨m1,rfl⟩⟩:=hrel;cases gk with
  |zero=>exact absurd HA.out (by simp[spec_l12SameTexts.l0])
  |succ k1=>
   have H:=HA.out;clear HA;simp only[spec_l12SameTexts.l0] at H;refine yDn H ?_ ?_<;>clear H<;>intro aA H
   ·obtain rfl:=zi H;go_wp2;repeat(go_quiet (fail);try go_wp2)
    go_ret;exact⟨zr,yD0⟩
   replace H:=yAD H;obtain⟨aB,H⟩:=H;replace H:=yAD H;obtain⟨aC,H⟩:=H;refine yCn H ?_ ?_<;>clear H<;>intro c7 H
   ·obtain⟨ay,az⟩:=zw c7;obtain rfl:=zi H;have ab:0<=(aa:Int):=z2;have ac:aa<(l0.length:Int):=z2;obtain⟨am,af,ah⟩:=Kd.vA av.out aa ab ac;cases af;replace ab:=eq_true ab;replace ac:=eq_true ac;have ad:0<=(aa:Int):=z2;have ae:aa<(l1.length:Int):=z2;obtain⟨an,ag,ai⟩:=Kd.vA aw.out aa ad ae;cases ag;replace ad:=eq_true ad;replace ae:=eq_true ae;go_wp2;repeat(go_quiet (fail);try go_wp2)
    go_ret;exact⟨zr,yD0⟩
   obtain⟨ay,az⟩:=zq c7;clear c7;have H':=zz H;clear H;have ab:0<=(aa:Int):=z2;have ac:aa<(l0.length:Int):=z2;obtain⟨am,af,ah⟩:=Kd.vA av.out aa ab ac;cases af;replace ab:=eq_true ab;replace ac:=eq_true ac;have ad:0<=(aa:Int):=z2;have ae:aa<(l1.length:Int):=z2;obtain⟨an,ag,ai⟩:=Kd.vA aw.out aa ad ae;cases ag;replace ad:=eq_true ad;replace ae:=eq_true ae;go_wp2;repeat(go_quiet (fail);try go_wp2)
   go_roundg k1
   case measure=>exact yM1 ax
   case rel=>exact⟨(wrap64 (aa+1)),zr,H',⟨yM1 ax⟩,yD0⟩
def spec_l12ItemOk.f(k:Nat)(ad:ByteArray)(ae:ByteArray)(ab:List ByteArray)(ac:ByteArray)(aa:List (S63))(l1:List ByteArray):Option (Bool):=(spec_AddressOk.f k ad).bind fun af=>(if af=true then((spec_TreeOk.f k aa).bind fun ag=>(if ag=true then((spec_TreeSum.f k aa).bind fun ah=>(if ae.toList=ah.toList then(if ac.toList=([]:List UInt8) then((spec_l10Refs.f k aa l1).bind fun ai=>((spec_l12SameTexts.f k ab ai).bind fun aj=>(some aj))) else((spec_AddressOk.f k ac).bind fun ak=>(if ak=true then((spec_l10Refs.f k aa l1).bind fun al=>((spec_l12SameTexts.f k ab al).bind fun am=>(some am))) else(some false)))) else(some false))) else(some false))) else(some false))
def spec_l12ItemOk.T1:Bool×List (List Nat×List Nat):=(true,[([],[]),([0],[0]),([1],[1]),([2,2],[2]),([3],[3]),([4,3],[3,4]),([5,3,3],[3,5]),([3,6],[3,6]),([7,6],[7]),([8],[8]),([9,8],[8,9]),([8],[8]),([11,8],[8,11]),([12,8,8],[8,12]),([10,13,8],[8,10,13]),([8,14],[8,14]),([15,13],[15]),([16],[16]),([17,16],[16,17]),([18,16],[16,18]),([19,16,16],[16,19]),([20],[20]),([21,20],[20,21]),([22,20,20],[20,22]),([20,23,16],[16,20,23]),([16,24],[16,24]),([25,23],[25]),([26],[26]),([27,26],[26,27]),([26],[26]),([29,26],[26,29]),([26],[26]),([30,31,26,26],[26,30,31]),([28,32,32,26],[26,28,32]),([26,33],[26,33]),([34,33,0,1,2,3,4,5,6,7,8,9,10,11,12,13,14,15,16,17,18,19,20,21,22,23,24,25,26,27,28,29,30,31,32,33,34],[34])])
def spec_l12ItemOk.B1:List Nat:=[0,1,3,7,15,31,63,127,255,511,1023,511,2559,6655,16383,32767,65535,131071,262143,524287,1048575,2097151,4194303,8388607,16777215,33554431,67108863,134217727,268435455,134217727,671088639,134217727,3892314111,8589934591,17179869183,34359738367]
theorem spec_l12ItemOk.tab1:rtab .any (opsOf Tryz.f73 1)=spec_l12ItemOk.T1:=by kernel_rfl
theorem spec_l12ItemOk.bits1:waitsOk spec_l12ItemOk.T1.2 spec_l12ItemOk.B1=true:=by kernel_rfl
theorem spec_l12ItemOk.calls(k:Nat)(ag:ByteArray)(am:ByteArray)(ah:Option Addr)(ai:Nat)(ac:List ByteArray)(aj:ByteArray)(ad:Option Addr)(ae:Nat)(ab:List (S63))(A1:Option Addr)(c1:Nat)(l1:List ByteArray)(r:Bool)(w:World)(ax:Kd.C Kd.string w ah ac.length ac)(ay:ac.length<=ai)(az:Kd.C k63 w ad ab.length ab)(aA:ab.length<=ae)(aP:Kd.C Kd.string w A1 l1.length l1)(aQ:l1.length<=c1)(H:spec_l12ItemOk.f k ag am ac aj ab l1=some r):
 Calls Tryz.prog 73 #[.agg #[.string ag,.string am,.slice ah ac.length ai,.string aj,.slice ad ab.length ae],.slice A1 l1.length c1] w fun e w'=>e= .returned (.bool r)/\Below w.heap.size w w':=by
 have bh:=Tryz.underlying61;have aB:=zz ax;have aC:=zz ay;clear ax ay;have ak:=zz az;have al:=zz aA;clear az aA;have aR:=zz aP;have aS:=zz aQ;clear aP aQ;have HB:=yB w;unfold spec_l12ItemOk.f at H;replace H:=zf H;obtain⟨aW,aT,H⟩:=H;try dsimp only at H
 have A3:=zz aT;clear aT;go_enter Tryz.func73,Tryz.ntmps73;try go_wp2_with(first|(refine zX 2 61 #[.string ag,.string am,.slice ah ac.length ai,.string aj,.slice ad ab.length ae] ?_;intro af hg ba hbox hb;have aa:=zz (hbox);have bg:=zz ((zg:w.heap.size<=af));replace HB:=zz (zv zb hb);clear hb hbox hg))
 replace aa:=zz (blk_drew aa.out);replace HB:=zz (qK HB.out);refine start_ (n:=36) (S:=fun w'=>w'.cell? ⟨af,0,none⟩=some (.string ag)/\w'.cell? ⟨af,1,none⟩=some (.string am)/\w'.cell? ⟨af,2,none⟩=some (.slice ah ac.length ai)/\w'.cell? ⟨af,3,none⟩=some (.string aj)/\w'.cell? ⟨af,4,none⟩=some (.slice ad ab.length ae)) (ds:=[]) (bp 0 36) zk rfl rfl (zy5 aa.out) (fun hHeld=>?_);refine with_tabW spec_l12ItemOk.tab1 spec_l12ItemOk.bits1 (fun HT_ HW_=>?_);generalize ba.drew=bk at aa HB hHeld⊢;refine zp 0 5 (bp 1 35) ?_;refine zt 1 6 (bp 2 34) ?_;refine zo 2 7 (bp 3 33) fun K hK=>?_;refine zh Tryz.func49 #[.string ag] ?_;with_reducible refine(spec_AddressOk.calls k ag _ _ A3.out).mono ?_
 rintro e w' ⟨rfl,⟨nd,rfl⟩⟩;refine⟨_,rfl,?_⟩;refine hK.out _ _ (zy5 aa.out) (fun hHeld=>?_);clear hK K;refine zn 7 ?_;by_cases c4:aW=true
 case neg=>
  replace c4:=Bool.eq_false_iff.mpr c4;subst c4;rw[if_neg (show¬(false=true) by decide)] at H;obtain rfl:=zi H;refine zp 3 8 (bp 4 32) ?_;refine zu 4 9 (bp 5 31) ?_;refine zu 5 10 (bp 6 30) ?_;refine zu 6 11 (bp 7 29) ?_;refine zp 7 12 (bp 8 28) ?_;refine zp 8 13 (bp 9 27) ?_;refine zu 9 14 (bp 10 26) ?_;refine zu 10 15 (bp 11 25) ?_;refine zu 11 16 (bp 12 24) ?_;refine zu 12 17 (bp 13 23) ?_;refine zu 13 18 (bp 14 22) ?_;refine zu 14 19 (bp 15 21) ?_;refine zp 15 20 (bp 16 20) ?_;refine zp 16 21 (bp 17 19) ?_;refine zu 17 22 (bp 18 18) ?_;refine zu 18 23 (bp 19 17) ?_;refine zu 19 24 (bp 20 16) ?_;refine zu 20 25 (bp 21 15) ?_;refine zu 21 26 (bp 22 14) ?_;refine zu 22 27 (bp 23 13) ?_;refine zu 23 28 (bp 24 12) ?_;refine zu 24 29 (bp 25 11) ?_;refine zp 25 30 (bp 26 10) ?_;refine zp 26 31 (bp 27 9) ?_;refine zu 27 32 (bp 28 8) ?_;refine zu 28 33 (bp 29 7) ?_;refine zu 29 34 (bp 30 6) ?_;refine zu 30 35 (bp 31 5) ?_;refine zu 31 36 (bp 32 4) ?_;refine zu 32 37 (bp 33 3) ?_;refine zu 33 38 (bp 34 2) ?_;refine zp 34 39 (bp 35 1) ?_;refine zp 35 4 (bp 36 0) ?_;refine done_ (done_of HT_.out zk) ?_;try go_wp2
  go_ret;exact⟨ze,zb⟩
 subst c4;rw[if_pos rfl] at H;replace H:=zf H;obtain⟨aX,aU,H⟩:=H;try dsimp only at H
 have A5:=zz aU;clear aU;refine zp 3 8 (bp 4 32) ?_;refine zp 4 9 (bp 5 31) ?_;refine zt 5 10 (bp 6 30) ?_;refine zo 6 11 (bp 7 29) fun K hK=>?_;refine zh Tryz.func53 #[.slice ad ab.length ae] ?_;with_reducible refine(spec_TreeOk.calls k _ _ ab _ _ ?s1 ?s2 A5.out).mono ?_
 (case s1=>exact zC ak.out)
 (case s2=>exact al.out)
 rintro e bn ⟨rfl,hb⟩;refine⟨_,rfl,?_⟩;replace aa:=zz (zJ aa hb);replace HB:=zz (zv zb hb)
 (try clear hb)
 (try clear aE)
 (try clear hk)
 (try clear hi)
 refine hK.out _ _ (zy5 aa.out) (fun hHeld=>?_);clear hK K;refine zn 11 ?_;by_cases c6:aX=true
 case neg=>
  replace c6:=Bool.eq_false_iff.mpr c6;subst c6;rw[if_neg (show¬(false=true) by decide)] at H;obtain rfl:=zi H;refine zp 7 12 (bp 8 28) ?_;refine zp 8 13 (bp 9 27) ?_;refine zu 9 14 (bp 10 26) ?_;refine zu 10 15 (bp 11 25) ?_;refine zu 11 16 (bp 12 24) ?_;refine zu 12 17 (bp 13 23) ?_;refine zu 13 18 (bp 14 22) ?_;refine zu 14 19 (bp 15 21) ?_;refine zp 15 20 (bp 16 20) ?_;refine zp 16 21 (bp 17 19) ?_;refine zu 17 22 (bp 18 18) ?_;refine zu 18 23 (bp 19 17) ?_;refine zu 19 24 (bp 20 16) ?_;refine zu 20 25 (bp 21 15) ?_;refine zu 21 26 (bp 22 14) ?_;refine zu 22 27 (bp 23 13) ?_;refine zu 23 28 (bp 24 12) ?_;refine zu 24 29 (bp 25 11) ?_;refine zp 25 30 (bp 26 10) ?_;refine zp 26 31 (bp 27 9) ?_;refine zu 27 32 (bp 28 8) ?_;refine zu 28 33 (bp 29 7) ?_;refine zu 29 34 (bp 30 6) ?_;refine zu 30 35 (bp 31 5) ?_;refine zu 31 36 (bp 32 4) ?_;refine zu 32 37 (bp 33 3) ?_;refine zu 33 38 (bp 34 2) ?_;refine zp 34 39 (bp 35 1) ?_;refine zp 35 4 (bp 36 0) ?_;refine done_ (done_of HT_.out zk) ?_;try go_wp2
  go_ret;exact⟨ze,zb⟩
 subst c6;rw[if_pos rfl] at H;replace H:=zf H;obtain⟨aY,aV,H⟩:=H;try dsimp only at H
 have A7:=zz aV;clear aV;refine zp 7 12 (bp 8 28) ?_;refine zp 8 13 (bp 9 27) ?_;refine zp 9 14 (bp 10 26) ?_;refine zp 11 16 (bm 36 3071) ?_;refine zt 10 15 (bp 12 24) ?_;refine zt 12 17 (bp 13 23) ?_;refine zo 13 18 (bp 14 22) fun K hK=>?_;refine zh Tryz.func97 #[.slice ad ab.length ae] ?_;with_reducible refine(spec_TreeSum.calls k _ _ ab aY _ ?s1 ?s2 A7.out).mono ?_
 (case s1=>exact zc ak.out)
 (case s2=>exact al.out)
 rintro e bo ⟨rfl,hb⟩;refine⟨_,rfl,?_⟩;replace aa:=zz (zJ aa hb);replace HB:=zz (zv zb hb)
 (try clear hb)
 (try clear aE)
 (try clear hk)
 (try clear hi)
 refine hK.out _ _ (zy5 aa.out) (fun hHeld=>?_);clear hK K;refine zn 18 ?_;refine yCn H ?_ ?_<;>clear H<;>intro c8 H
 ·obtain⟨aZ,a0⟩:=zw c8;obtain rfl:=zi H;refine zp 14 19 (bp 15 21) ?_;refine zp 15 20 (bp 16 20) ?_;refine zp 16 21 (bp 17 19) ?_;refine zu 17 22 (bp 18 18) ?_;refine zu 18 23 (bp 19 17) ?_;refine zu 19 24 (bp 20 16) ?_;refine zu 20 25 (bp 21 15) ?_;refine zu 21 26 (bp 22 14) ?_;refine zu 22 27 (bp 23 13) ?_;refine zu 23 28 (bp 24 12) ?_;refine zu 24 29 (bp 25 11) ?_;refine zp 25 30 (bp 26 10) ?_;refine zp 26 31 (bp 27 9) ?_;refine zu 27 32 (bp 28 8) ?_;refine zu 28 33 (bp 29 7) ?_;refine zu 29 34 (bp 30 6) ?_;refine zu 30 35 (bp 31 5) ?_;refine zu 31 36 (bp 32 4) ?_;refine zu 32 37 (bp 33 3) ?_;refine zu 33 38 (bp 34 2) ?_;refine zp 34 39 (bp 35 1) ?_;refine zp 35 4 (bp 36 0) ?_;refine done_ (done_of HT_.out zk) ?_;try go_wp2
  go_ret;exact⟨ze,zb⟩
 obtain⟨aZ,a0⟩:=zq c8;clear c8;refine yC H ?_ ?_<;>clear H<;>intro c9 H
 ·obtain⟨a1,a2⟩:=zq c9;clear c9;replace H:=zf H;obtain⟨av,aF,H⟩:=H;try dsimp only at H
  have bb:=zz aF;clear aF;replace H:=zf H;obtain⟨a3,aG,H⟩:=H;try dsimp only at H
  have bc:=zz aG;clear aG;obtain rfl:=zi H;refine zp 14 19 (bp 15 21) ?_;refine zp 15 20 (bp 16 20) ?_;refine zp 16 21 (bp 17 19) ?_;refine zp 17 22 (bp 18 18) ?_;refine zt 18 23 (bp 19 17) ?_;refine zp 19 24 (bp 20 16) ?_;refine zp 20 25 (bp 21 15) ?_;refine zu 21 26 (bp 22 14) ?_;refine zu 22 27 (bp 23 13) ?_;refine zu 23 28 (bp 24 12) ?_;refine zp 24 29 (bp 25 11) ?_;refine zp 25 30 (bp 26 10) ?_;refine zp 26 31 (bp 27 9) ?_;refine zp 27 32 (bp 28 8) ?_;refine zp 29 34 (bm 36 805306367) ?_;refine zp 31 36 (bm 36 2952790015) ?_;refine zt 28 33 (bm 36 3221225471) ?_;refine zt 30 35 (bp 32 4) ?_;refine zo 32 37 (bp 33 3) fun K hK=>?_;refine zh Tryz.func99 #[.slice ad ab.length ae,.slice A1 l1.length c1] ?_;with_reducible refine(spec_l10Refs.calls k _ _ ab _ _ l1 av _ ?s1 ?s2 ?s3 ?s4 bb.out).mono ?_
  (case s1=>exact zc ak.out)
  (case s2=>exact al.out)
  (case s3=>exact zc aR.out)
  (case s4=>exact aS.out)
  rintro e bq ⟨bi,rfl,ap,hb⟩;refine⟨_,rfl,?_⟩;have an:=zz (Kd.qU ap (qE zb));replace aa:=zz (zJ aa hb);replace HB:=zz (zv zb hb)
  (try clear hb)
  (try clear aE)
  (try clear hk)
  (try clear hi)
  (try clear ap)
  obtain⟨a4,a5,aH⟩:=Kd.qW an.out
  (first|subst aH|(injection aH with ar aI au;have aJ:=ar.symm;have aK:=au.symm;clear ar aI au;subst aJ;subst aK))
  refine hK.out _ _ (zy5 aa.out) (fun hHeld=>?_);clear hK K;refine zn 37 ?_;refine zo 33 38 (bp 34 2) fun K hK=>?_;refine zh Tryz.func98 #[.slice ah ac.length ai,.slice a4 av.length a5] ?_;with_reducible refine(spec_l12SameTexts.calls k _ _ ac _ _ av a3 _ ?s1 ?s2 ?s3 ?s4 bc.out).mono ?_
  (case s1=>exact zc aB.out)
  (case s2=>exact aC.out)
  (case s3=>repeat(first|exact(Kd.qH an.out).2.2|(with_reducible refine Kd.C_alloc ?_ _)|(with_reducible refine Kd.C_drewN ?_ _)|(with_reducible refine Kd.C_drew ?_)))
  (case s4=>exact(Kd.qH an.out).2.1)
  rintro e w' ⟨rfl,⟨nd,rfl⟩⟩;refine⟨_,rfl,?_⟩;refine hK.out _ _ (zy5 aa.out) (fun hHeld=>?_);clear hK K;refine zn 38 ?_;refine zp 34 39 (bp 35 1) ?_;refine zp 35 4 (bp 36 0) ?_;refine done_ (done_of HT_.out zk) ?_;try go_wp2
  go_ret;exact⟨ze,zb⟩
 obtain⟨a1,a2⟩:=zw c9;replace H:=zf H;obtain⟨a6,aL,H⟩:=H;try dsimp only at H
 have bd:=zz aL;clear aL;refine zp 14 19 (bp 15 21) ?_;refine zp 15 20 (bp 16 20) ?_;refine zp 16 21 (bp 17 19) ?_;refine zp 17 22 (bp 18 18) ?_;refine zt 18 23 (bp 19 17) ?_;refine zp 19 24 (bp 20 16) ?_;refine zp 20 25 (bp 21 15) ?_;refine zp 21 26 (bp 22 14) ?_;refine zt 22 27 (bp 23 13) ?_;refine zo 23 28 (bp 24 12) fun K hK=>?_;refine zh Tryz.func49 #[.string aj] ?_;with_reducible refine(spec_AddressOk.calls k aj _ _ bd.out).mono ?_
 rintro e w' ⟨rfl,⟨nd,rfl⟩⟩;refine⟨_,rfl,?_⟩;refine hK.out _ _ (zy5 aa.out) (fun hHeld=>?_);clear hK K;refine zn 28 ?_;by_cases aD:a6=true
 case neg=>
  replace aD:=Bool.eq_false_iff.mpr aD;subst aD;rw[if_neg (show¬(false=true) by decide)] at H;obtain rfl:=zi H;refine zp 24 29 (bp 25 11) ?_;refine zp 25 30 (bp 26 10) ?_;refine zp 26 31 (bp 27 9) ?_;refine zu 27 32 (bp 28 8) ?_;refine zu 28 33 (bp 29 7) ?_;refine zu 29 34 (bp 30 6) ?_;refine zu 30 35 (bp 31 5) ?_;refine zu 31 36 (bp 32 4) ?_;refine zu 32 37 (bp 33 3) ?_;refine zu 33 38 (bp 34 2) ?_;refine zp 34 39 (bp 35 1) ?_;refine zp 35 4 (bp 36 0) ?_;refine done_ (done_of HT_.out zk) ?_;try go_wp2
  go_ret;exact⟨ze,zb⟩
 subst aD;rw[if_pos rfl] at H;replace H:=zf H;obtain⟨aw,aM,H⟩:=H;try dsimp only at H
 have be:=zz aM;clear aM;replace H:=zf H;obtain⟨a7,aN,H⟩:=H;try dsimp only at H
 have bf:=zz aN;clear aN;obtain rfl:=zi H;refine zp 24 29 (bp 25 11) ?_;refine zp 25 30 (bp 26 10) ?_;refine zp 26 31 (bp 27 9) ?_;refine zp 27 32 (bp 28 8) ?_;refine zp 29 34 (bm 36 805306367) ?_;refine zp 31 36 (bm 36 2952790015) ?_;refine zt 28 33 (bm 36 3221225471) ?_;refine zt 30 35 (bp 32 4) ?_;refine zo 32 37 (bp 33 3) fun K hK=>?_;refine zh Tryz.func99 #[.slice ad ab.length ae,.slice A1 l1.length c1] ?_;with_reducible refine(spec_l10Refs.calls k _ _ ab _ _ l1 aw _ ?s1 ?s2 ?s3 ?s4 be.out).mono ?_
 (case s1=>exact zC ak.out)
 (case s2=>exact al.out)
 (case s3=>exact zC aR.out)
 (case s4=>exact aS.out)
 rintro e br ⟨bj,rfl,ap,hb⟩;refine⟨_,rfl,?_⟩;have ao:=zz (Kd.qU ap (qE zb));replace aa:=zz (zJ aa hb);replace HB:=zz (zv zb hb)
 (try clear hb)
 (try clear aE)
 (try clear hk)
 (try clear hi)
 (try clear ap)
 obtain⟨a8,a9,aO⟩:=Kd.qW ao.out
 (first|subst aO|(injection aO with ar aI au;have aJ:=ar.symm;have aK:=au.symm;clear ar aI au;subst aJ;subst aK))
 refine hK.out _ _ (zy5 aa.out) (fun hHeld=>?_);clear hK K;refine zn 37 ?_;refine zo 33 38 (bp 34 2) fun K hK=>?_;refine zh Tryz.func98 #[.slice ah ac.length ai,.slice a8 aw.length a9] ?_;with_reducible refine(spec_l12SameTexts.calls k _ _ ac _ _ aw a7 _ ?s1 ?s2 ?s3 ?s4 bf.out).mono ?_
 (case s1=>exact zc aB.out)
 (case s2=>exact aC.out)
 (case s3=>repeat(first|exact(Kd.qH ao.out).2.2|(with_reducible refine Kd.C_alloc ?_ _)|(with_reducible refine Kd.C_drewN ?_ _)|(with_reducible refine Kd.C_drew ?_)))
 (case s4=>exact(Kd.qH ao.out).2.1)
 rintro e w' ⟨rfl,⟨nd,rfl⟩⟩;refine⟨_,rfl,?_⟩;refine hK.out _ _ (zy5 aa.out) (fun hHeld=>?_);clear hK K;refine zn 38 ?_;refine zp 34 39 (bp 35 1) ?_;refine zp 35 4 (bp 36 0) ?_;refine done_ (done_of HT_.out zk) ?_;try go_wp2
 go_ret;exact⟨ze,zb⟩
def spec_StoreOk.l0:Nat->List (S61)->List ByteArray->Int->Option (Bool)
 |0,_,_,_=>none
 |k+1,x0,x3,x4=>if x4<(x0.length:Int) then(if x4>0 then(if 0<=(wrap64 (x4 - 1)) then(if(wrap64 (x4 - 1))<(x3.length:Int) then(if 0<=x4 then(if x4<(x3.length:Int) then(if((Op.bytesLess ((rdOf ByteArray.empty x3 (wrap64 (x4 - 1))).toList) ((rdOf ByteArray.empty x3 x4).toList))=true) then((spec_l12ItemOk.f k ((qC x0 x4).f0) ((qC x0 x4).f1) ((qC x0 x4).f2) ((qC x0 x4).f3) ((qC x0 x4).f4) x3).bind fun aa=>(if aa=true then(spec_StoreOk.l0 k x0 x3 (wrap64 (x4+1))) else(some false))) else(some false)) else(none)) else(none)) else(none)) else(none)) else(if 0<=x4 then((spec_l12ItemOk.f k ((qC x0 x4).f0) ((qC x0 x4).f1) ((qC x0 x4).f2) ((qC x0 x4).f3) ((qC x0 x4).f4) x3).bind fun ab=>(if ab=true then(spec_StoreOk.l0 k x0 x3 (wrap64 (x4+1))) else(some false))) else(none))) else(some true)
def spec_StoreOk.f(k:Nat)(l0:List (S61)):Option (Bool):=if(l0.length:Int)>300 then(some false) else((spec_l12Paths.f k l0).bind fun aa=>(spec_StoreOk.l0 k l0 aa 0))
theorem spec_StoreOk.calls(k:Nat)(A0:Option Addr)(c0:Nat)(l0:List (S61))(r:Bool)(w:World)(aY:Kd.C k61 w A0 l0.length l0)(aZ:l0.length<=c0)(H:spec_StoreOk.f k l0=some r):
 Calls Tryz.prog 45 #[.slice A0 l0.length c0] w fun e w'=>e= .returned (.bool r)/\Below w.heap.size w w':=by
 have bA:=Tryz.underlying61;have aD:=zz aY;have a6:=zz aZ;clear aY aZ;have HB:=yB w;unfold spec_StoreOk.f at H;replace HB:=HB.out;have HW:=yB w;go_enter Tryz.func45,Tryz.ntmps45;refine yC H ?_ ?_<;>clear H<;>intro c2 H
 ·have a0:=zgt c2;have a1:decide (300<l0.length)=true:=z1 yo_;clear c2;obtain rfl:=zi H;exact yR
 have a0:=zgtn c2;have a1:decide (300<l0.length)=false:=z0 yo_;clear c2;replace H:=yf H;obtain⟨ab,A3,H⟩:=H;go_wp2_with(fail)
 refine(spec_l12Paths.calls k _ _ _ _ _ (Kd.qD aD.out HB) a6.out A3.out).mono ?_;rintro e w4 ⟨a7,rfl,aE,hb⟩;replace HB:=zv HB hb;clear hb;have hst:=HB;replace HW:=zz (zv HW.out hst);replace aD:=zz (Kd.qD aD.out hst);clear hst;replace HB:=Below.refl w4.heap.size w4;obtain⟨bk,bn,rfl,hl_,hC_⟩:=Kd.R_reads aE;have aB:=zz hC_;have aU:=zz hl_;clear hl_ hC_ aE;go_wp2_with(fail)
 go_loopg[4] k (fun kq v4 w'=>∃(aa:Int),v4= .int .i64 aa/\qB (spec_StoreOk.l0 kq l0 ab aa=some r)/\qB (kq<=k)/\qB (Below w4.heap.size w4 w'))
 case atStart=>exact⟨(0),zr,⟨H⟩,⟨Nat.le_refl _⟩,⟨HB⟩⟩
 case round=>
  clear H HB;obtain⟨aa,rfl,H,ac,HB⟩:=hrel;replace HB:=HB.out;replace H:=H.out;have aJ:=yB w4;cases gk with
  |zero=>simp[spec_StoreOk.l0] at H
  |succ aK=>
   simp only[spec_StoreOk.l0] at H;refine yDn H ?_ ?_<;>clear H<;>intro bB H
   ·obtain rfl:=zi H;exact yR
   go_wp2_with(fail)
   try simp only[Act.put,List.setIfInBounds_toArray,List.set_cons_zero,List.set_cons_succ]
   refine qT (C:=fun W_=>Below w4.heap.size w4 W_) zk zk (qK HB) ?_;refine yGn H ?_ ?_<;>clear H<;>intro bC H
   ·replace H:=yAD H;obtain⟨bo,H⟩:=H;have bD:=yt (0<=(aa:Int));have bE:=yt ((aa:Int)<(l0.length:Int));obtain⟨bq,a8,a9,ba,bb,a2,ad,ae,af,ag,ah,ai,aj,ak,al⟩:=at_T61 aD.out aa z2 z2;cases a2;replace ad:=qL ad;replace ae:=qL ae;replace af:=qL af;replace ag:=qL ag;replace ah:=qL ah;have aM:=zz aj;have aN:=zz ai;clear aj ai;have aO:=zz al;have aP:=zz ak;clear al ak;replace H:=yf H;obtain⟨bF,bc,H⟩:=H;repeat(first|go_big_quiet_skip|(go_big_quiet_want;go_big_quiet_op;first|go_big_quiet_on|(apply zU;intro W hW;(first|with_reducible rfl|(go_at_call 73;exact callB (spec_l12ItemOk.calls aK _ _ _ _ _ _ _ _ _ _ _ _ _ _ (Kd.qD aM.out hW) aN.out (Kd.qD aO.out hW) aP.out (Kd.qD aB.out hW) aU.out bc.out) hW)|(go_simp;with_reducible rfl));go_big_quiet_on)))
    clear HB;refine zW fun bd (HB:Below w4.heap.size w4 bd)=>?_;refine yT H ?_ ?_<;>clear H<;>rintro rfl H
    ·go_wp2_with(fail)
     go_roundg aK
     case measure=>exact yM1 ac
     case rel=>exact⟨(wrap64 (aa+1)),zr,⟨H⟩,⟨yM1 ac⟩,⟨zv aJ.out HB⟩⟩
    obtain rfl:=zi H;exact yR
   obtain⟨am,aC⟩:∃j_:Int,(wrap64 (aa - 1))=j_:=⟨_,rfl⟩
   (first|rw[aC] at H|simp only[aC] at H)
   have br:(IntKind.i64.wrap (aa - 1))=am:=(i64_w _).trans aC
   (try rw[aC] at A3)
   replace H:=yAD H;obtain⟨bs,H⟩:=H;replace H:=yAD H;obtain⟨bu,H⟩:=H;have aF:0<=((am):Int):=z2;have aG:((am):Int)<(ab.length:Int):=z2;obtain⟨aV,a3,an⟩:=Kd.vA aB.out (am) aF aG;cases a3;replace an:=qL an;replace aF:=eq_true aF;replace aG:=eq_true aG;replace H:=yAD H;obtain⟨bv,H⟩:=H;replace H:=yAD H;obtain⟨bw,H⟩:=H;have aH:0<=(aa:Int):=z2;have aI:(aa:Int)<(ab.length:Int):=z2;obtain⟨aW,a4,ao⟩:=Kd.vA aB.out aa aH aI;obtain rfl:aV=aW:=(by injection a4)
   replace ao:=qL ao;replace aH:=eq_true aH;replace aI:=eq_true aI;refine yCn H ?_ ?_<;>clear H<;>intro aL H
   ·have aX:(Op.bytesLess ((rdOf ByteArray.empty ab (am)).toList) ((rdOf ByteArray.empty ab aa).toList))=false:=by simpa using aL
    clear aL;obtain rfl:=zi H;exact yQ
   have aX:(Op.bytesLess ((rdOf ByteArray.empty ab (am)).toList) ((rdOf ByteArray.empty ab aa).toList))=true:=aL;clear aL;have bG:=yt (0<=(aa:Int));have bH:=yt ((aa:Int)<(l0.length:Int));obtain⟨bz,be,bf,bg,bh,a5,ap,ar,au,av,aw,ax,ay,az,aA⟩:=at_T61 aD.out aa z2 z2;cases a5;replace ap:=qL ap;replace ar:=qL ar;replace au:=qL au;replace av:=qL av;replace aw:=qL aw;have aQ:=zz ay;have aR:=zz ax;clear ay ax;have aS:=zz aA;have aT:=zz az;clear aA az;replace H:=yf H;obtain⟨bI,bi,H⟩:=H;repeat(first|go_big_quiet_skip|(go_big_quiet_want;go_big_quiet_op;first|go_big_quiet_on|(apply zU;intro W hW;(first|with_reducible rfl|(go_at_call 73;exact callB (spec_l12ItemOk.calls aK _ _ _ _ _ _ _ _ _ _ _ _ _ _ (Kd.qD aQ.out hW) aR.out (Kd.qD aS.out hW) aT.out (Kd.qD aB.out hW) aU.out bi.out) hW)|(go_simp;with_reducible rfl));go_big_quiet_on)))
   clear HB;refine zW fun bj (HB:Below w4.heap.size w4 bj)=>?_;refine yT H ?_ ?_<;>clear H<;>rintro rfl H
   ·go_wp2_with(fail)
    go_roundg aK
    case measure=>exact yM1 ac
    case rel=>exact⟨(wrap64 (aa+1)),zr,⟨H⟩,⟨yM1 ac⟩,⟨zv aJ.out HB⟩⟩
   obtain rfl:=zi H;exact yR
end Go.Proofs.YtgccknmddhbdgaaGreatDoor.Q
