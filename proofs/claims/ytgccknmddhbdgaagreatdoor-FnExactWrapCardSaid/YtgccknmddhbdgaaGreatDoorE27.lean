import Derived.Test.YtgccknmddhbdgaaGreatDoorE02
namespace Go.Proofs.YtgccknmddhbdgaaGreatDoor.Q
open Go.RowKit W1 W2 W3
attribute [local go_sem] max2_int min2_int max_two min_two max_three min_three max_four min_four
attribute [local go_sem high] bl_leq bl_gtr bl_geq
set_option maxHeartbeats 8000000
set_option maxRecDepth 100000
def laws_szStringS.l0:Nat->List ByteArray->Int->Int->Option (Int)
 |0,_,_,_=>none
 |k+1,x0,x1,x5=>if x5<(x0.length:Int) then(if 0<=x5 then(if(wrap64 (x1 - ((rdOf ByteArray.empty x0 x5).size:Int)))<0 then(some (-1)) else(laws_szStringS.l0 k x0 (wrap64 (x1 - ((rdOf ByteArray.empty x0 x5).size:Int))) (wrap64 (x5+1)))) else(none)) else(some x1)
def laws_szStringS.f(k:Nat)(l0:List ByteArray)(a1:Int):Option (Int):=if(wrap64 (a1 - (l0.length:Int)))<0 then(some (-1)) else(laws_szStringS.l0 k l0 (wrap64 (a1 - (l0.length:Int))) 0)
theorem laws_szStringS.calls(k:Nat)(A0:Option Addr)(c0:Nat)(l0:List ByteArray)(a1:Int)(r:Int)(w:World)(ah:Kd.C Kd.string w A0 l0.length l0)(ai:l0.length<=c0)(H:laws_szStringS.f k l0 a1=some r):
 Calls Tryz.prog 5 #[.slice A0 l0.length c0,.int .i64 a1] w fun e w'=>e= .returned (.int .i64 r)/\Below w.heap.size w w':=by
 have ak:=zz ah;have au:=zz ai;clear ah ai;have HB:=yB w;unfold laws_szStringS.f at H;replace HB:=HB.out;have HW:=yB w;go_enter Tryz.func5,Tryz.ntmps5;refine yD H ?_ ?_<;>clear H<;>intro an H
 ·obtain rfl:=zi H;exact yR
 go_wp2_with(fail)
 go_loopg[1,5] k (fun kq v1 v5 w'=>∃(ab:Int) (aa:Int),v1= .int .i64 ab/\v5= .int .i64 aa/\qB (laws_szStringS.l0 kq l0 ab aa=some r)/\qB (kq<=k)/\qB (Below w.heap.size w w'))
 case atStart=>exact⟨(wrap64 (a1 - (l0.length:Int))),(0),zr,zr,⟨H⟩,⟨Nat.le_refl _⟩,⟨HB⟩⟩
 case round=>
  clear H HB;obtain⟨ab,aa,rfl,rfl,H,af,HB⟩:=hrel;replace HB:=HB.out;replace H:=H.out;have ag:=yB w;cases gk with
  |zero=>simp[laws_szStringS.l0] at H
  |succ al=>
   simp only[laws_szStringS.l0] at H;refine yDn H ?_ ?_<;>clear H<;>intro ao H
   ·obtain rfl:=zi H;exact yR
   replace H:=yAD H;obtain⟨ap,H⟩:=H;have ad:0<=(aa:Int):=z2;have ae:(aa:Int)<(l0.length:Int):=z2;obtain⟨am,aj,ac⟩:=Kd.vA ak.out aa ad ae;cases aj;replace ac:=qL ac;replace ad:=eq_true ad;replace ae:=eq_true ae;refine yD H ?_ ?_<;>clear H<;>intro ar H
   ·obtain rfl:=zi H;exact yR
   go_wp2_with(fail)
   go_roundg al
   case measure=>exact yM1 af
   case rel=>exact⟨(wrap64 (ab - ((rdOf ByteArray.empty l0 aa).size:Int))),(wrap64 (aa+1)),zr,zr,⟨H⟩,⟨yM1 af⟩,⟨zv ag.out HB⟩⟩
def laws_szEntry.f(aa:ByteArray)(ac:Int)(ab:ByteArray)(ad:Bool)(a1:Int):Option (Int):=if(wrap64 (a1 - (aa.size:Int)))<0 then(some (-1)) else(if(wrap64 ((wrap64 (a1 - (aa.size:Int))) - (ab.size:Int)))<0 then(some (-1)) else(some (wrap64 ((wrap64 (a1 - (aa.size:Int))) - (ab.size:Int)))))
theorem laws_szEntry.calls(aa:ByteArray)(ab:Int)(ac:ByteArray)(ad:Bool)(a1:Int)(r:Int)(w:World)(H:laws_szEntry.f aa ab ac ad a1=some r):
 Calls Tryz.prog 95 #[.agg #[.string aa,.int .i64 ab,.string ac,.bool ad],.int .i64 a1] w fun e w'=>e= .returned (.int .i64 r)/\Below w.heap.size w w':=by
 have aj:=Tryz.underlying140;have HB:=yB w;unfold laws_szEntry.f at H;replace HB:=HB.out;have HW:=yB w;go_enter Tryz.func95,Tryz.ntmps95;refine yD H ?_ ?_<;>clear H<;>intro ak H
 ·obtain rfl:=zi H;go_wp2_with(first|(refine zN 2 ?_;(try(refine z4 ?_;dsimp only));refine zX 2 140 #[.string aa,.int .i64 ab,.string ac,.bool ad] ?_;intro ai hg w4 hbox hb;have hst:=zv HB hb;clear hg hb HB;replace HW:=zz (zv HW.out hst);obtain⟨ae,af,ag,ah⟩:=zx4 hbox;have HB:=Below.refl w4.heap.size w4;clear hbox hst))
  go_ret;exact⟨ze,zv HW.out HB⟩
 refine yD H ?_ ?_<;>clear H<;>intro al H
 ·obtain rfl:=zi H;go_wp2_with(first|(refine zN 2 ?_;(try(refine z4 ?_;dsimp only));refine zX 2 140 #[.string aa,.int .i64 ab,.string ac,.bool ad] ?_;intro ai hg w6 hbox hb;have hst:=zv HB hb;clear hg hb HB;replace HW:=zz (zv HW.out hst);obtain⟨ae,af,ag,ah⟩:=zx4 hbox;have HB:=Below.refl w6.heap.size w6;clear hbox hst))
  go_ret;exact⟨ze,zv HW.out HB⟩
 obtain rfl:=zi H;go_wp2_with(first|(refine zN 2 ?_;(try(refine z4 ?_;dsimp only));refine zX 2 140 #[.string aa,.int .i64 ab,.string ac,.bool ad] ?_;intro ai hg w7 hbox hb;have hst:=zv HB hb;clear hg hb HB;replace HW:=zz (zv HW.out hst);obtain⟨ae,af,ag,ah⟩:=zx4 hbox;have HB:=Below.refl w7.heap.size w7;clear hbox hst))
 go_ret;exact⟨ze,zv HW.out HB⟩
def laws_szEntryS.l0:Nat->List (S140)->Int->Int->Option (Int)
 |0,_,_,_=>none
 |k+1,x0,x1,x5=>if x5<(x0.length:Int) then(if 0<=x5 then((laws_szEntry.f ((rd_T140 x0 x5).f0) ((rd_T140 x0 x5).f1) ((rd_T140 x0 x5).f2) ((rd_T140 x0 x5).f3) x1).bind fun aa=>(if aa<0 then(some (-1)) else(laws_szEntryS.l0 k x0 aa (wrap64 (x5+1))))) else(none)) else(some x1)
def laws_szEntryS.f(k:Nat)(l0:List (S140))(a1:Int):Option (Int):=if(wrap64 (a1 - (l0.length:Int)))<0 then(some (-1)) else(laws_szEntryS.l0 k l0 (wrap64 (a1 - (l0.length:Int))) 0)
theorem laws_szEntryS.calls(k:Nat)(A0:Option Addr)(c0:Nat)(l0:List (S140))(a1:Int)(r:Int)(w:World)(ai:Kd.C k140 w A0 l0.length l0)(aj:l0.length<=c0)(H:laws_szEntryS.f k l0 a1=some r):
 Calls Tryz.prog 70 #[.slice A0 l0.length c0,.int .i64 a1] w fun e w'=>e= .returned (.int .i64 r)/\Below w.heap.size w w':=by
 have ao:=Tryz.underlying140;have am:=zz ai;have az:=zz aj;clear ai aj;have HB:=yB w;unfold laws_szEntryS.f at H;replace HB:=HB.out;have HW:=yB w;go_enter Tryz.func70,Tryz.ntmps70;refine yD H ?_ ?_<;>clear H<;>intro ar H
 ·obtain rfl:=zi H;exact yR
 go_wp2_with(fail)
 go_loopg[1,5] k (fun kq v1 v5 w'=>∃(ab:Int) (aa:Int),v1= .int .i64 ab/\v5= .int .i64 aa/\qB (laws_szEntryS.l0 kq l0 ab aa=some r)/\qB (kq<=k)/\qB (Below w.heap.size w w'))
 case atStart=>exact⟨(wrap64 (a1 - (l0.length:Int))),(0),zr,zr,⟨H⟩,⟨Nat.le_refl _⟩,⟨HB⟩⟩
 case round=>
  clear H HB;obtain⟨ab,aa,rfl,rfl,H,ag,HB⟩:=hrel;replace HB:=HB.out;replace H:=H.out;have ah:=yB w;cases gk with
  |zero=>simp[laws_szEntryS.l0] at H
  |succ an=>
   simp only[laws_szEntryS.l0] at H;refine yDn H ?_ ?_<;>clear H<;>intro au H
   ·obtain rfl:=zi H;exact yR
   replace H:=yAD H;obtain⟨av,H⟩:=H;have aw:=yt (0<=(aa:Int));have ax:=yt ((aa:Int)<(l0.length:Int));obtain⟨ap,ak,ac,ad,ae,af⟩:=at_T140 am.out aa z2 z2;cases ak;replace ac:=qL ac;replace ad:=qL ad;replace ae:=qL ae;replace af:=qL af;replace H:=yf H;obtain⟨al,A7,H⟩:=H;refine yD H ?_ ?_<;>clear H<;>intro ay H
   ·go_wp2_with(fail)
    refine(laws_szEntry.calls _ _ _ _ _ _ _ A7.out).mono ?_;rintro e aA ⟨rfl,hb⟩;replace HB:=zv HB hb;clear hb;obtain rfl:=zi H;exact yR
   go_wp2_with(fail)
   refine(laws_szEntry.calls _ _ _ _ _ _ _ A7.out).mono ?_;rintro e aB ⟨rfl,hb⟩;replace HB:=zv HB hb;clear hb;go_wp2_with(fail)
   go_roundg an
   case measure=>exact yM1 ag
   case rel=>exact⟨(al),(wrap64 (aa+1)),zr,zr,⟨H⟩,⟨yM1 ag⟩,⟨zv ah.out HB⟩⟩
def laws_szItem.f(k:Nat)(aa:ByteArray)(ac:ByteArray)(af:List ByteArray)(ad:ByteArray)(ag:List (S140))(a1:Int):Option (Int):=if(wrap64 (a1 - (aa.size:Int)))<0 then(some (-1)) else(if(wrap64 ((wrap64 (a1 - (aa.size:Int))) - (ac.size:Int)))<0 then(some (-1)) else((laws_szStringS.f k af (wrap64 ((wrap64 (a1 - (aa.size:Int))) - (ac.size:Int)))).bind fun ab=>(if ab<0 then(some (-1)) else(if(wrap64 (ab - (ad.size:Int)))<0 then(some (-1)) else((laws_szEntryS.f k ag (wrap64 (ab - (ad.size:Int)))).bind fun ae=>(if ae<0 then(some (-1)) else(some ae)))))))
theorem laws_szItem.calls(k:Nat)(ae:ByteArray)(af:ByteArray)(ag:Option Addr)(ah:Nat)(ac:List ByteArray)(ai:ByteArray)(aj:Option Addr)(ak:Nat)(ad:List (S140))(a1:Int)(r:Int)(w:World)(ar:Kd.C Kd.string w ag ac.length ac)(au:ac.length<=ah)(av:Kd.C k140 w aj ad.length ad)(aw:ad.length<=ak)(H:laws_szItem.f k ae af ac ai ad a1=some r):
 Calls Tryz.prog 41 #[.agg #[.string ae,.string af,.slice ag ac.length ah,.string ai,.slice aj ad.length ak],.int .i64 a1] w fun e w'=>e= .returned (.int .i64 r)/\Below w.heap.size w w':=by
 have aE:=Tryz.underlying79;have ab:=zz ar;have az:=zz au;clear ar au;have aa:=zz av;have ax:=zz aw;clear av aw;have HB:=yB w;unfold laws_szItem.f at H;replace HB:=HB.out;have HW:=yB w;go_enter Tryz.func41,Tryz.ntmps41;refine yD H ?_ ?_<;>clear H<;>intro aF H
 ·obtain rfl:=zi H;go_wp2_with(first|(refine zN 2 ?_;(try(refine z4 ?_;dsimp only));refine zX 2 79 #[.string ae,.string af,.slice ag ac.length ah,.string ai,.slice aj ad.length ak] ?_;intro ay hg w4 hbox hb;have hst:=zv HB hb;clear hg hb HB;replace HW:=zz (zv HW.out hst);replace ab:=zz (Kd.qD ab.out hst);replace aa:=zz (Kd.qD aa.out hst);obtain⟨al,am,an,ao,ap⟩:=zx5 hbox;have HB:=Below.refl w4.heap.size w4;clear hbox hst))
  go_ret;exact⟨ze,zv HW.out HB⟩
 refine yD H ?_ ?_<;>clear H<;>intro aG H
 ·obtain rfl:=zi H;go_wp2_with(first|(refine zN 2 ?_;(try(refine z4 ?_;dsimp only));refine zX 2 79 #[.string ae,.string af,.slice ag ac.length ah,.string ai,.slice aj ad.length ak] ?_;intro ay hg w6 hbox hb;have hst:=zv HB hb;clear hg hb HB;replace HW:=zz (zv HW.out hst);replace ab:=zz (Kd.qD ab.out hst);replace aa:=zz (Kd.qD aa.out hst);obtain⟨al,am,an,ao,ap⟩:=zx5 hbox;have HB:=Below.refl w6.heap.size w6;clear hbox hst))
  go_ret;exact⟨ze,zv HW.out HB⟩
 replace H:=yf H;obtain⟨aH,A7,H⟩:=H;go_wp2_with(first|(refine zN 2 ?_;(try(refine z4 ?_;dsimp only));refine zX 2 79 #[.string ae,.string af,.slice ag ac.length ah,.string ai,.slice aj ad.length ak] ?_;intro ay hg aA hbox hb;have hst:=zv HB hb;clear hg hb HB;replace HW:=zz (zv HW.out hst);replace ab:=zz (Kd.qD ab.out hst);replace aa:=zz (Kd.qD aa.out hst);obtain⟨al,am,an,ao,ap⟩:=zx5 hbox;have HB:=Below.refl aA.heap.size aA;clear hbox hst))
 refine(laws_szStringS.calls k _ _ _ _ _ _ (Kd.qD ab.out HB) az.out A7.out).mono ?_;rintro e aK ⟨rfl,hb⟩;replace HB:=zv HB hb;clear hb;refine yD H ?_ ?_<;>clear H<;>intro aI H
 ·obtain rfl:=zi H;exact yR
 refine yD H ?_ ?_<;>clear H<;>intro aC H
 ·obtain rfl:=zi H;exact yR
 replace H:=yf H;obtain⟨aJ,aB,H⟩:=H;refine yD H ?_ ?_<;>clear H<;>intro aD H
 ·go_wp2_with(fail)
  refine(laws_szEntryS.calls k _ _ _ _ _ _ (Kd.qD aa.out HB) ax.out aB.out).mono ?_;rintro e aL ⟨rfl,hb⟩;replace HB:=zv HB hb;clear hb;obtain rfl:=zi H;exact yR
 go_wp2_with(fail)
 refine(laws_szEntryS.calls k _ _ _ _ _ _ (Kd.qD aa.out HB) ax.out aB.out).mono ?_;rintro e aM ⟨rfl,hb⟩;replace HB:=zv HB hb;clear hb;obtain rfl:=zi H;exact yR
def laws_szItemS.l0:Nat->List (S79)->Int->Int->Option (Int)
 |0,_,_,_=>none
 |k+1,x0,x1,x5=>if x5<(x0.length:Int) then(if 0<=x5 then((laws_szItem.f k ((rd_T79 x0 x5).f0) ((rd_T79 x0 x5).f1) ((rd_T79 x0 x5).f2) ((rd_T79 x0 x5).f3) ((rd_T79 x0 x5).f4) x1).bind fun aa=>(if aa<0 then(some (-1)) else(laws_szItemS.l0 k x0 aa (wrap64 (x5+1))))) else(none)) else(some x1)
def laws_szItemS.f(k:Nat)(l0:List (S79))(a1:Int):Option (Int):=if(wrap64 (a1 - (l0.length:Int)))<0 then(some (-1)) else(laws_szItemS.l0 k l0 (wrap64 (a1 - (l0.length:Int))) 0)
theorem laws_szItemS.calls(k:Nat)(A0:Option Addr)(c0:Nat)(l0:List (S79))(a1:Int)(r:Int)(w:World)(av:Kd.C k79 w A0 l0.length l0)(aw:l0.length<=c0)(H:laws_szItemS.f k l0 a1=some r):
 Calls Tryz.prog 17 #[.slice A0 l0.length c0,.int .i64 a1] w fun e w'=>e= .returned (.int .i64 r)/\Below w.heap.size w w':=by
 have aF:=Tryz.underlying79;have az:=zz av;have aM:=zz aw;clear av aw;have HB:=yB w;unfold laws_szItemS.f at H;replace HB:=HB.out;have HW:=yB w;go_enter Tryz.func17,Tryz.ntmps17;refine yD H ?_ ?_<;>clear H<;>intro aG H
 ·obtain rfl:=zi H;exact yR
 go_wp2_with(fail)
 go_loopg[1,5] k (fun kq v1 v5 w'=>∃(ab:Int) (aa:Int),v1= .int .i64 ab/\v5= .int .i64 aa/\qB (laws_szItemS.l0 kq l0 ab aa=some r)/\qB (kq<=k)/\qB (Below w.heap.size w w'))
 case atStart=>exact⟨(wrap64 (a1 - (l0.length:Int))),(0),zr,zr,⟨H⟩,⟨Nat.le_refl _⟩,⟨HB⟩⟩
 case round=>
  clear H HB;obtain⟨ab,aa,rfl,rfl,H,ap,HB⟩:=hrel;replace HB:=HB.out;replace H:=H.out;have au:=yB w;cases gk with
  |zero=>simp[laws_szItemS.l0] at H
  |succ ar=>
   simp only[laws_szItemS.l0] at H;refine yDn H ?_ ?_<;>clear H<;>intro aH H
   ·obtain rfl:=zi H;exact yR
   replace H:=yAD H;obtain⟨aI,H⟩:=H;have aJ:=yt (0<=(aa:Int));have aK:=yt ((aa:Int)<(l0.length:Int));obtain⟨aE,aA,aB,aC,aD,ax,ac,ad,ae,af,ag,ah,ai,aj,ak⟩:=at_T79 az.out aa z2 z2;cases ax;replace ac:=qL ac;replace ad:=qL ad;replace ae:=qL ae;replace af:=qL af;replace ag:=qL ag;have al:=zz ai;have am:=zz ah;clear ai ah;have an:=zz ak;have ao:=zz aj;clear ak aj;replace H:=yf H;obtain⟨ay,A7,H⟩:=H;refine yD H ?_ ?_<;>clear H<;>intro aL H
   ·go_wp2_with(fail)
    refine(laws_szItem.calls ar _ _ _ _ _ _ _ _ _ _ _ _ (Kd.qD al.out HB) am.out (Kd.qD an.out HB) ao.out A7.out).mono ?_;rintro e aN ⟨rfl,hb⟩;replace HB:=zv HB hb;clear hb;obtain rfl:=zi H;exact yR
   go_wp2_with(fail)
   refine(laws_szItem.calls ar _ _ _ _ _ _ _ _ _ _ _ _ (Kd.qD al.out HB) am.out (Kd.qD an.out HB) ao.out A7.out).mono ?_;rintro e aO ⟨rfl,hb⟩;replace HB:=zv HB hb;clear hb;go_wp2_with(fail)
   go_roundg ar
   case measure=>exact yM1 ap
   case rel=>exact⟨(ay),(wrap64 (aa+1)),zr,zr,⟨H⟩,⟨yM1 ap⟩,⟨zv au.out HB⟩⟩
def laws_szGen.f(ab:Int)(aa:ByteArray)(a1:Int):Option (Int):=if(wrap64 (a1 - (aa.size:Int)))<0 then(some (-1)) else(some (wrap64 (a1 - (aa.size:Int))))
theorem laws_szGen.calls(aa:Int)(ab:ByteArray)(a1:Int)(r:Int)(w:World)(H:laws_szGen.f aa ab a1=some r):
 Calls Tryz.prog 96 #[.agg #[.int .i64 aa,.string ab],.int .i64 a1] w fun e w'=>e= .returned (.int .i64 r)/\Below w.heap.size w w':=by
 have af:=Tryz.underlying142;have HB:=yB w;unfold laws_szGen.f at H;replace HB:=HB.out;have HW:=yB w;go_enter Tryz.func96,Tryz.ntmps96;refine yD H ?_ ?_<;>clear H<;>intro ag H
 ·obtain rfl:=zi H;go_wp2_with(first|(refine zN 2 ?_;(try(refine z4 ?_;dsimp only));refine zX 2 142 #[.int .i64 aa,.string ab] ?_;intro ae hg w4 hbox hb;have hst:=zv HB hb;clear hg hb HB;replace HW:=zz (zv HW.out hst);obtain⟨ac,ad⟩:=zx2 hbox;have HB:=Below.refl w4.heap.size w4;clear hbox hst))
  go_ret;exact⟨ze,zv HW.out HB⟩
 obtain rfl:=zi H;go_wp2_with(first|(refine zN 2 ?_;(try(refine z4 ?_;dsimp only));refine zX 2 142 #[.int .i64 aa,.string ab] ?_;intro ae hg w5 hbox hb;have hst:=zv HB hb;clear hg hb HB;replace HW:=zz (zv HW.out hst);obtain⟨ac,ad⟩:=zx2 hbox;have HB:=Below.refl w5.heap.size w5;clear hbox hst))
 go_ret;exact⟨ze,zv HW.out HB⟩
def laws_szGenS.l0:Nat->List (S142)->Int->Int->Option (Int)
 |0,_,_,_=>none
 |k+1,x0,x1,x5=>if x5<(x0.length:Int) then(if 0<=x5 then((laws_szGen.f ((rd_T142 x0 x5).f0) ((rd_T142 x0 x5).f1) x1).bind fun aa=>(if aa<0 then(some (-1)) else(laws_szGenS.l0 k x0 aa (wrap64 (x5+1))))) else(none)) else(some x1)
def laws_szGenS.f(k:Nat)(l0:List (S142))(a1:Int):Option (Int):=if(wrap64 (a1 - (l0.length:Int)))<0 then(some (-1)) else(laws_szGenS.l0 k l0 (wrap64 (a1 - (l0.length:Int))) 0)
theorem laws_szGenS.calls(k:Nat)(A0:Option Addr)(c0:Nat)(l0:List (S142))(a1:Int)(r:Int)(w:World)(ag:Kd.C k142 w A0 l0.length l0)(ah:l0.length<=c0)(H:laws_szGenS.f k l0 a1=some r):
 Calls Tryz.prog 71 #[.slice A0 l0.length c0,.int .i64 a1] w fun e w'=>e= .returned (.int .i64 r)/\Below w.heap.size w w':=by
 have am:=Tryz.underlying142;have ak:=zz ag;have ax:=zz ah;clear ag ah;have HB:=yB w;unfold laws_szGenS.f at H;replace HB:=HB.out;have HW:=yB w;go_enter Tryz.func71,Tryz.ntmps71;refine yD H ?_ ?_<;>clear H<;>intro ao H
 ·obtain rfl:=zi H;exact yR
 go_wp2_with(fail)
 go_loopg[1,5] k (fun kq v1 v5 w'=>∃(ab:Int) (aa:Int),v1= .int .i64 ab/\v5= .int .i64 aa/\qB (laws_szGenS.l0 kq l0 ab aa=some r)/\qB (kq<=k)/\qB (Below w.heap.size w w'))
 case atStart=>exact⟨(wrap64 (a1 - (l0.length:Int))),(0),zr,zr,⟨H⟩,⟨Nat.le_refl _⟩,⟨HB⟩⟩
 case round=>
  clear H HB;obtain⟨ab,aa,rfl,rfl,H,ae,HB⟩:=hrel;replace HB:=HB.out;replace H:=H.out;have af:=yB w;cases gk with
  |zero=>simp[laws_szGenS.l0] at H
  |succ al=>
   simp only[laws_szGenS.l0] at H;refine yDn H ?_ ?_<;>clear H<;>intro ap H
   ·obtain rfl:=zi H;exact yR
   replace H:=yAD H;obtain⟨ar,H⟩:=H;have au:=yt (0<=(aa:Int));have av:=yt ((aa:Int)<(l0.length:Int));obtain⟨an,ai,ac,ad⟩:=at_T142 ak.out aa z2 z2;cases ai;replace ac:=qL ac;replace ad:=qL ad;replace H:=yf H;obtain⟨aj,A7,H⟩:=H;refine yD H ?_ ?_<;>clear H<;>intro aw H
   ·go_wp2_with(fail)
    refine(laws_szGen.calls _ _ _ _ _ A7.out).mono ?_;rintro e ay ⟨rfl,hb⟩;replace HB:=zv HB hb;clear hb;obtain rfl:=zi H;exact yR
   go_wp2_with(fail)
   refine(laws_szGen.calls _ _ _ _ _ A7.out).mono ?_;rintro e az ⟨rfl,hb⟩;replace HB:=zv HB hb;clear hb;go_wp2_with(fail)
   go_roundg al
   case measure=>exact yM1 ae
   case rel=>exact⟨(aj),(wrap64 (aa+1)),zr,zr,⟨H⟩,⟨yM1 ae⟩,⟨zv af.out HB⟩⟩
def laws_szProfile.f(k:Nat)(aa:ByteArray)(ad:Int)(ac:List (S142))(a1:Int):Option (Int):=if(wrap64 (a1 - (aa.size:Int)))<0 then(some (-1)) else((laws_szGenS.f k ac (wrap64 (a1 - (aa.size:Int)))).bind fun ab=>(if ab<0 then(some (-1)) else(some ab)))
theorem laws_szProfile.calls(k:Nat)(ac:ByteArray)(ad:Int)(ae:Option Addr)(af:Nat)(aa:List (S142))(a1:Int)(r:Int)(w:World)(aj:Kd.C k142 w ae aa.length aa)(ak:aa.length<=af)(H:laws_szProfile.f k ac ad aa a1=some r):
 Calls Tryz.prog 42 #[.agg #[.string ac,.int .i64 ad,.slice ae aa.length af],.int .i64 a1] w fun e w'=>e= .returned (.int .i64 r)/\Below w.heap.size w w':=by
 have an:=Tryz.underlying83;have ab:=zz aj;have al:=zz ak;clear aj ak;have HB:=yB w;unfold laws_szProfile.f at H;replace HB:=HB.out;have HW:=yB w;go_enter Tryz.func42,Tryz.ntmps42;refine yD H ?_ ?_<;>clear H<;>intro ao H
 ·obtain rfl:=zi H;go_wp2_with(first|(refine zN 2 ?_;(try(refine z4 ?_;dsimp only));refine zX 2 83 #[.string ac,.int .i64 ad,.slice ae aa.length af] ?_;intro am hg w4 hbox hb;have hst:=zv HB hb;clear hg hb HB;replace HW:=zz (zv HW.out hst);replace ab:=zz (Kd.qD ab.out hst);obtain⟨ag,ah,ai⟩:=zx3 hbox;have HB:=Below.refl w4.heap.size w4;clear hbox hst))
  go_ret;exact⟨ze,zv HW.out HB⟩
 replace H:=yf H;obtain⟨ap,A5,H⟩:=H;go_wp2_with(first|(refine zN 2 ?_;(try(refine z4 ?_;dsimp only));refine zX 2 83 #[.string ac,.int .i64 ad,.slice ae aa.length af] ?_;intro am hg w8 hbox hb;have hst:=zv HB hb;clear hg hb HB;replace HW:=zz (zv HW.out hst);replace ab:=zz (Kd.qD ab.out hst);obtain⟨ag,ah,ai⟩:=zx3 hbox;have HB:=Below.refl w8.heap.size w8;clear hbox hst))
 refine(laws_szGenS.calls k _ _ _ _ _ _ (Kd.qD ab.out HB) al.out A5.out).mono ?_;rintro e w9 ⟨rfl,hb⟩;replace HB:=zv HB hb;clear hb;refine yD H ?_ ?_<;>clear H<;>intro ar H
 ·obtain rfl:=zi H;exact yR
 obtain rfl:=zi H;exact yR
def laws_szProfileS.l0:Nat->List (S83)->Int->Int->Option (Int)
 |0,_,_,_=>none
 |k+1,x0,x1,x5=>if x5<(x0.length:Int) then(if 0<=x5 then((laws_szProfile.f k ((rd_T83 x0 x5).f0) ((rd_T83 x0 x5).f1) ((rd_T83 x0 x5).f2) x1).bind fun aa=>(if aa<0 then(some (-1)) else(laws_szProfileS.l0 k x0 aa (wrap64 (x5+1))))) else(none)) else(some x1)
def laws_szProfileS.f(k:Nat)(l0:List (S83))(a1:Int):Option (Int):=if(wrap64 (a1 - (l0.length:Int)))<0 then(some (-1)) else(laws_szProfileS.l0 k l0 (wrap64 (a1 - (l0.length:Int))) 0)
theorem laws_szProfileS.calls(k:Nat)(A0:Option Addr)(c0:Nat)(l0:List (S83))(a1:Int)(r:Int)(w:World)(am:Kd.C k83 w A0 l0.length l0)(an:l0.length<=c0)(H:laws_szProfileS.f k l0 a1=some r):
 Calls Tryz.prog 18 #[.slice A0 l0.length c0,.int .i64 a1] w fun e w'=>e= .returned (.int .i64 r)/\Below w.heap.size w w':=by
 have ax:=Tryz.underlying83;have ar:=zz am;have aE:=zz an;clear am an;have HB:=yB w;unfold laws_szProfileS.f at H;replace HB:=HB.out;have HW:=yB w;go_enter Tryz.func18,Tryz.ntmps18;refine yD H ?_ ?_<;>clear H<;>intro ay H
 ·obtain rfl:=zi H;exact yR
 go_wp2_with(fail)
 go_loopg[1,5] k (fun kq v1 v5 w'=>∃(ab:Int) (aa:Int),v1= .int .i64 ab/\v5= .int .i64 aa/\qB (laws_szProfileS.l0 kq l0 ab aa=some r)/\qB (kq<=k)/\qB (Below w.heap.size w w'))
 case atStart=>exact⟨(wrap64 (a1 - (l0.length:Int))),(0),zr,zr,⟨H⟩,⟨Nat.le_refl _⟩,⟨HB⟩⟩
 case round=>
  clear H HB;obtain⟨ab,aa,rfl,rfl,H,aj,HB⟩:=hrel;replace HB:=HB.out;replace H:=H.out;have al:=yB w;cases gk with
  |zero=>simp[laws_szProfileS.l0] at H
  |succ ak=>
   simp only[laws_szProfileS.l0] at H;refine yDn H ?_ ?_<;>clear H<;>intro az H
   ·obtain rfl:=zi H;exact yR
   replace H:=yAD H;obtain⟨aA,H⟩:=H;have aB:=yt (0<=(aa:Int));have aC:=yt ((aa:Int)<(l0.length:Int));obtain⟨aw,au,av,ao,ac,ad,ae,af,ag⟩:=at_T83 ar.out aa z2 z2;cases ao;replace ac:=qL ac;replace ad:=qL ad;replace ae:=qL ae;have ah:=zz ag;have ai:=zz af;clear ag af;replace H:=yf H;obtain⟨ap,A7,H⟩:=H;refine yD H ?_ ?_<;>clear H<;>intro aD H
   ·go_wp2_with(fail)
    refine(laws_szProfile.calls ak _ _ _ _ _ _ _ _ (Kd.qD ah.out HB) ai.out A7.out).mono ?_;rintro e aF ⟨rfl,hb⟩;replace HB:=zv HB hb;clear hb;obtain rfl:=zi H;exact yR
   go_wp2_with(fail)
   refine(laws_szProfile.calls ak _ _ _ _ _ _ _ _ (Kd.qD ah.out HB) ai.out A7.out).mono ?_;rintro e aG ⟨rfl,hb⟩;replace HB:=zv HB hb;clear hb;go_wp2_with(fail)
   go_roundg ak
   case measure=>exact yM1 aj
   case rel=>exact⟨(ap),(wrap64 (aa+1)),zr,zr,⟨H⟩,⟨yM1 aj⟩,⟨zv al.out HB⟩⟩
def laws_szPending.f(k:Nat)(ab:ByteArray)(ad:List (S140))(ac:ByteArray)(a1:Int):Option (Int):=if(wrap64 (a1 - (ab.size:Int)))<0 then(some (-1)) else((laws_szEntryS.f k ad (wrap64 (a1 - (ab.size:Int)))).bind fun aa=>(if aa<0 then(some (-1)) else(if(wrap64 (aa - (ac.size:Int)))<0 then(some (-1)) else(some (wrap64 (aa - (ac.size:Int)))))))
theorem laws_szPending.calls(k:Nat)(ac:ByteArray)(ad:Option Addr)(ae:Nat)(aa:List (S140))(af:ByteArray)(a1:Int)(r:Int)(w:World)(aj:Kd.C k140 w ad aa.length aa)(ak:aa.length<=ae)(H:laws_szPending.f k ac aa af a1=some r):
 Calls Tryz.prog 43 #[.agg #[.string ac,.slice ad aa.length ae,.string af],.int .i64 a1] w fun e w'=>e= .returned (.int .i64 r)/\Below w.heap.size w w':=by
 have ao:=Tryz.underlying86;have ab:=zz aj;have al:=zz ak;clear aj ak;have HB:=yB w;unfold laws_szPending.f at H;replace HB:=HB.out;have HW:=yB w;go_enter Tryz.func43,Tryz.ntmps43;refine yD H ?_ ?_<;>clear H<;>intro ap H
 ·obtain rfl:=zi H;go_wp2_with(first|(refine zN 2 ?_;(try(refine z4 ?_;dsimp only));refine zX 2 86 #[.string ac,.slice ad aa.length ae,.string af] ?_;intro am hg w4 hbox hb;have hst:=zv HB hb;clear hg hb HB;replace HW:=zz (zv HW.out hst);replace ab:=zz (Kd.qD ab.out hst);obtain⟨ag,ah,ai⟩:=zx3 hbox;have HB:=Below.refl w4.heap.size w4;clear hbox hst))
  go_ret;exact⟨ze,zv HW.out HB⟩
 replace H:=yf H;obtain⟨ar,A5,H⟩:=H;go_wp2_with(first|(refine zN 2 ?_;(try(refine z4 ?_;dsimp only));refine zX 2 86 #[.string ac,.slice ad aa.length ae,.string af] ?_;intro am hg w8 hbox hb;have hst:=zv HB hb;clear hg hb HB;replace HW:=zz (zv HW.out hst);replace ab:=zz (Kd.qD ab.out hst);obtain⟨ag,ah,ai⟩:=zx3 hbox;have HB:=Below.refl w8.heap.size w8;clear hbox hst))
 refine(laws_szEntryS.calls k _ _ _ _ _ _ (Kd.qD ab.out HB) al.out A5.out).mono ?_;rintro e w9 ⟨rfl,hb⟩;replace HB:=zv HB hb;clear hb;refine yD H ?_ ?_<;>clear H<;>intro au H
 ·obtain rfl:=zi H;exact yR
 refine yD H ?_ ?_<;>clear H<;>intro an H
 ·obtain rfl:=zi H;exact yR
 obtain rfl:=zi H;exact yR
def laws_szPendingS.l0:Nat->List (S86)->Int->Int->Option (Int)
 |0,_,_,_=>none
 |k+1,x0,x1,x5=>if x5<(x0.length:Int) then(if 0<=x5 then((laws_szPending.f k ((rd_T86 x0 x5).f0) ((rd_T86 x0 x5).f1) ((rd_T86 x0 x5).f2) x1).bind fun aa=>(if aa<0 then(some (-1)) else(laws_szPendingS.l0 k x0 aa (wrap64 (x5+1))))) else(none)) else(some x1)
def laws_szPendingS.f(k:Nat)(l0:List (S86))(a1:Int):Option (Int):=if(wrap64 (a1 - (l0.length:Int)))<0 then(some (-1)) else(laws_szPendingS.l0 k l0 (wrap64 (a1 - (l0.length:Int))) 0)
theorem laws_szPendingS.calls(k:Nat)(A0:Option Addr)(c0:Nat)(l0:List (S86))(a1:Int)(r:Int)(w:World)(am:Kd.C k86 w A0 l0.length l0)(an:l0.length<=c0)(H:laws_szPendingS.f k l0 a1=some r):
 Calls Tryz.prog 19 #[.slice A0 l0.length c0,.int .i64 a1] w fun e w'=>e= .returned (.int .i64 r)/\Below w.heap.size w w':=by
 have ax:=Tryz.underlying86;have ar:=zz am;have aE:=zz an;clear am an;have HB:=yB w;unfold laws_szPendingS.f at H;replace HB:=HB.out;have HW:=yB w;go_enter Tryz.func19,Tryz.ntmps19;refine yD H ?_ ?_<;>clear H<;>intro ay H
 ·obtain rfl:=zi H;exact yR
 go_wp2_with(fail)
 go_loopg[1,5] k (fun kq v1 v5 w'=>∃(ab:Int) (aa:Int),v1= .int .i64 ab/\v5= .int .i64 aa/\qB (laws_szPendingS.l0 kq l0 ab aa=some r)/\qB (kq<=k)/\qB (Below w.heap.size w w'))
 case atStart=>exact⟨(wrap64 (a1 - (l0.length:Int))),(0),zr,zr,⟨H⟩,⟨Nat.le_refl _⟩,⟨HB⟩⟩
 case round=>
  clear H HB;obtain⟨ab,aa,rfl,rfl,H,aj,HB⟩:=hrel;replace HB:=HB.out;replace H:=H.out;have al:=yB w;cases gk with
  |zero=>simp[laws_szPendingS.l0] at H
  |succ ak=>
   simp only[laws_szPendingS.l0] at H;refine yDn H ?_ ?_<;>clear H<;>intro az H
   ·obtain rfl:=zi H;exact yR
   replace H:=yAD H;obtain⟨aA,H⟩:=H;have aB:=yt (0<=(aa:Int));have aC:=yt ((aa:Int)<(l0.length:Int));obtain⟨aw,au,av,ao,ac,ad,ae,af,ag⟩:=at_T86 ar.out aa z2 z2;cases ao;replace ac:=qL ac;replace ad:=qL ad;replace ae:=qL ae;have ah:=zz ag;have ai:=zz af;clear ag af;replace H:=yf H;obtain⟨ap,A7,H⟩:=H;refine yD H ?_ ?_<;>clear H<;>intro aD H
   ·go_wp2_with(fail)
    refine(laws_szPending.calls ak _ _ _ _ _ _ _ _ (Kd.qD ah.out HB) ai.out A7.out).mono ?_;rintro e aF ⟨rfl,hb⟩;replace HB:=zv HB hb;clear hb;obtain rfl:=zi H;exact yR
   go_wp2_with(fail)
   refine(laws_szPending.calls ak _ _ _ _ _ _ _ _ (Kd.qD ah.out HB) ai.out A7.out).mono ?_;rintro e aG ⟨rfl,hb⟩;replace HB:=zv HB hb;clear hb;go_wp2_with(fail)
   go_roundg ak
   case measure=>exact yM1 aj
   case rel=>exact⟨(ap),(wrap64 (aa+1)),zr,zr,⟨H⟩,⟨yM1 aj⟩,⟨zv al.out HB⟩⟩
def laws_szNext.f(aa:ByteArray)(ab:ByteArray)(a1:Int):Option (Int):=if(wrap64 (a1 - (aa.size:Int)))<0 then(some (-1)) else(if(wrap64 ((wrap64 (a1 - (aa.size:Int))) - (ab.size:Int)))<0 then(some (-1)) else(some (wrap64 ((wrap64 (a1 - (aa.size:Int))) - (ab.size:Int)))))
theorem laws_szNext.calls(aa:ByteArray)(ab:ByteArray)(a1:Int)(r:Int)(w:World)(H:laws_szNext.f aa ab a1=some r):
 Calls Tryz.prog 44 #[.agg #[.string aa,.string ab],.int .i64 a1] w fun e w'=>e= .returned (.int .i64 r)/\Below w.heap.size w w':=by
 have af:=Tryz.underlying89;have HB:=yB w;unfold laws_szNext.f at H;replace HB:=HB.out;have HW:=yB w;go_enter Tryz.func44,Tryz.ntmps44;refine yD H ?_ ?_<;>clear H<;>intro ag H
 ·obtain rfl:=zi H;go_wp2_with(first|(refine zN 2 ?_;(try(refine z4 ?_;dsimp only));refine zX 2 89 #[.string aa,.string ab] ?_;intro ae hg w4 hbox hb;have hst:=zv HB hb;clear hg hb HB;replace HW:=zz (zv HW.out hst);obtain⟨ac,ad⟩:=zx2 hbox;have HB:=Below.refl w4.heap.size w4;clear hbox hst))
  go_ret;exact⟨ze,zv HW.out HB⟩
 refine yD H ?_ ?_<;>clear H<;>intro ah H
 ·obtain rfl:=zi H;go_wp2_with(first|(refine zN 2 ?_;(try(refine z4 ?_;dsimp only));refine zX 2 89 #[.string aa,.string ab] ?_;intro ae hg w6 hbox hb;have hst:=zv HB hb;clear hg hb HB;replace HW:=zz (zv HW.out hst);obtain⟨ac,ad⟩:=zx2 hbox;have HB:=Below.refl w6.heap.size w6;clear hbox hst))
  go_ret;exact⟨ze,zv HW.out HB⟩
 obtain rfl:=zi H;go_wp2_with(first|(refine zN 2 ?_;(try(refine z4 ?_;dsimp only));refine zX 2 89 #[.string aa,.string ab] ?_;intro ae hg w7 hbox hb;have hst:=zv HB hb;clear hg hb HB;replace HW:=zz (zv HW.out hst);obtain⟨ac,ad⟩:=zx2 hbox;have HB:=Below.refl w7.heap.size w7;clear hbox hst))
 go_ret;exact⟨ze,zv HW.out HB⟩
def laws_szNextS.l0:Nat->List (S89)->Int->Int->Option (Int)
 |0,_,_,_=>none
 |k+1,x0,x1,x5=>if x5<(x0.length:Int) then(if 0<=x5 then((laws_szNext.f ((rd_T89 x0 x5).f0) ((rd_T89 x0 x5).f1) x1).bind fun aa=>(if aa<0 then(some (-1)) else(laws_szNextS.l0 k x0 aa (wrap64 (x5+1))))) else(none)) else(some x1)
def laws_szNextS.f(k:Nat)(l0:List (S89))(a1:Int):Option (Int):=if(wrap64 (a1 - (l0.length:Int)))<0 then(some (-1)) else(laws_szNextS.l0 k l0 (wrap64 (a1 - (l0.length:Int))) 0)
theorem laws_szNextS.calls(k:Nat)(A0:Option Addr)(c0:Nat)(l0:List (S89))(a1:Int)(r:Int)(w:World)(ag:Kd.C k89 w A0 l0.length l0)(ah:l0.length<=c0)(H:laws_szNextS.f k l0 a1=some r):
 Calls Tryz.prog 20 #[.slice A0 l0.length c0,.int .i64 a1] w fun e w'=>e= .returned (.int .i64 r)/\Below w.heap.size w w':=by
 have an:=Tryz.underlying89;have ak:=zz ag;have ax:=zz ah;clear ag ah;have HB:=yB w;unfold laws_szNextS.f at H;replace HB:=HB.out;have HW:=yB w;go_enter Tryz.func20,Tryz.ntmps20;refine yD H ?_ ?_<;>clear H<;>intro ao H
 ·obtain rfl:=zi H;exact yR
 go_wp2_with(fail)
 go_loopg[1,5] k (fun kq v1 v5 w'=>∃(ab:Int) (aa:Int),v1= .int .i64 ab/\v5= .int .i64 aa/\qB (laws_szNextS.l0 kq l0 ab aa=some r)/\qB (kq<=k)/\qB (Below w.heap.size w w'))
 case atStart=>exact⟨(wrap64 (a1 - (l0.length:Int))),(0),zr,zr,⟨H⟩,⟨Nat.le_refl _⟩,⟨HB⟩⟩
 case round=>
  clear H HB;obtain⟨ab,aa,rfl,rfl,H,ae,HB⟩:=hrel;replace HB:=HB.out;replace H:=H.out;have af:=yB w;cases gk with
  |zero=>simp[laws_szNextS.l0] at H
  |succ al=>
   simp only[laws_szNextS.l0] at H;refine yDn H ?_ ?_<;>clear H<;>intro ap H
   ·obtain rfl:=zi H;exact yR
   replace H:=yAD H;obtain⟨ar,H⟩:=H;have au:=yt (0<=(aa:Int));have av:=yt ((aa:Int)<(l0.length:Int));obtain⟨am,ai,ac,ad⟩:=at_T89 ak.out aa z2 z2;cases ai;replace ac:=qL ac;replace ad:=qL ad;replace H:=yf H;obtain⟨aj,A7,H⟩:=H;refine yD H ?_ ?_<;>clear H<;>intro aw H
   ·go_wp2_with(fail)
    refine(laws_szNext.calls _ _ _ _ _ A7.out).mono ?_;rintro e ay ⟨rfl,hb⟩;replace HB:=zv HB hb;clear hb;obtain rfl:=zi H;exact yR
   go_wp2_with(fail)
   refine(laws_szNext.calls _ _ _ _ _ A7.out).mono ?_;rintro e az ⟨rfl,hb⟩;replace HB:=zv HB hb;clear hb;go_wp2_with(fail)
   go_roundg al
   case measure=>exact yM1 ae
   case rel=>exact⟨(aj),(wrap64 (aa+1)),zr,zr,⟨H⟩,⟨yM1 ae⟩,⟨zv af.out HB⟩⟩
def laws_szWorld.f(k:Nat)(ae:List (S79))(af:List (S83))(ag:List (S86))(ah:List (S89))(a1:Int):Option (Int):=(laws_szItemS.f k ae a1).bind fun aa=>(if aa<0 then(some (-1)) else((laws_szProfileS.f k af aa).bind fun ab=>(if ab<0 then(some (-1)) else((laws_szPendingS.f k ag ab).bind fun ac=>(if ac<0 then(some (-1)) else((laws_szNextS.f k ah ac).bind fun ad=>(if ad<0 then(some (-1)) else(some ad))))))))
theorem laws_szWorld.calls(k:Nat)(ai:Option Addr)(aj:Nat)(aa:List (S79))(ak:Option Addr)(al:Nat)(ab:List (S83))(am:Option Addr)(an:Nat)(ac:List (S86))(ao:Option Addr)(ap:Nat)(ad:List (S89))(a1:Int)(r:Int)(w:World)(ar:Kd.C k79 w ai aa.length aa)(au:aa.length<=aj)(av:Kd.C k83 w ak ab.length ab)(aw:ab.length<=al)(ax:Kd.C k86 w am ac.length ac)(ay:ac.length<=an)(az:Kd.C k89 w ao ad.length ad)(aA:ad.length<=ap)(H:laws_szWorld.f k aa ab ac ad a1=some r):
 Calls Tryz.prog 4 #[.agg #[.slice ai aa.length aj,.slice ak ab.length al,.slice am ac.length an,.slice ao ad.length ap],.int .i64 a1] w fun e w'=>e= .returned (.int .i64 r)/\Below w.heap.size w w':=by
 have aQ:=Tryz.underlying27;have ah:=zz ar;have aE:=zz au;clear ar au;have ae:=zz av;have aB:=zz aw;clear av aw;have af:=zz ax;have aC:=zz ay;clear ax ay;have ag:=zz az;have aD:=zz aA;clear az aA;have HB:=yB w;unfold laws_szWorld.f at H;replace HB:=HB.out;have HW:=yB w;go_enter Tryz.func4,Tryz.ntmps4;replace H:=yf H;obtain⟨aR,A3,H⟩:=H;go_wp2_with(first|(refine zN 2 ?_;(try(refine z4 ?_;dsimp only));refine zX 2 27 #[.slice ai aa.length aj,.slice ak ab.length al,.slice am ac.length an,.slice ao ad.length ap] ?_;intro aM hg w6 hbox hb;have hst:=zv HB hb;clear hg hb HB;replace HW:=zz (zv HW.out hst);replace ah:=zz (Kd.qD ah.out hst);replace ae:=zz (Kd.qD ae.out hst);replace af:=zz (Kd.qD af.out hst);replace ag:=zz (Kd.qD ag.out hst);obtain⟨aI,aJ,aK,aL⟩:=zx4 hbox;have HB:=Below.refl w6.heap.size w6;clear hbox hst))
 refine(laws_szItemS.calls k _ _ _ _ _ _ (Kd.qD ah.out HB) aE.out A3.out).mono ?_;rintro e w7 ⟨rfl,hb⟩;replace HB:=zv HB hb;clear hb;refine yD H ?_ ?_<;>clear H<;>intro aS H
 ·obtain rfl:=zi H;exact yR
 replace H:=yf H;obtain⟨aT,aF,H⟩:=H;refine yD H ?_ ?_<;>clear H<;>intro aN H
 ·go_wp2_with(fail)
  refine(laws_szProfileS.calls k _ _ _ _ _ _ (Kd.qD ae.out HB) aB.out aF.out).mono ?_;rintro e aW ⟨rfl,hb⟩;replace HB:=zv HB hb;clear hb;obtain rfl:=zi H;exact yR
 go_wp2_with(fail)
 refine(laws_szProfileS.calls k _ _ _ _ _ _ (Kd.qD ae.out HB) aB.out aF.out).mono ?_;rintro e aX ⟨rfl,hb⟩;replace HB:=zv HB hb;clear hb;replace H:=yf H;obtain⟨aU,aG,H⟩:=H;refine yD H ?_ ?_<;>clear H<;>intro aO H
 ·go_wp2_with(fail)
  refine(laws_szPendingS.calls k _ _ _ _ _ _ (Kd.qD af.out HB) aC.out aG.out).mono ?_;rintro e aY ⟨rfl,hb⟩;replace HB:=zv HB hb;clear hb;obtain rfl:=zi H;exact yR
 go_wp2_with(fail)
 refine(laws_szPendingS.calls k _ _ _ _ _ _ (Kd.qD af.out HB) aC.out aG.out).mono ?_;rintro e aZ ⟨rfl,hb⟩;replace HB:=zv HB hb;clear hb;replace H:=yf H;obtain⟨aV,aH,H⟩:=H;refine yD H ?_ ?_<;>clear H<;>intro aP H
 ·go_wp2_with(fail)
  refine(laws_szNextS.calls k _ _ _ _ _ _ (Kd.qD ag.out HB) aD.out aH.out).mono ?_;rintro e a0 ⟨rfl,hb⟩;replace HB:=zv HB hb;clear hb;obtain rfl:=zi H;exact yR
 go_wp2_with(fail)
 refine(laws_szNextS.calls k _ _ _ _ _ _ (Kd.qD ag.out HB) aD.out aH.out).mono ?_;rintro e a2 ⟨rfl,hb⟩;replace HB:=zv HB hb;clear hb;obtain rfl:=zi H;exact yR
def laws_toStringS.l0:Nat->List ByteArray->List ByteArray->Int->Option (List ByteArray)
 |0,_,_,_=>none
 |k+1,x0,x3,x4=>if x4<(x0.length:Int) then(if 0<=x4 then(if x4<(x3.length:Int) then(laws_toStringS.l0 k x0 (x3.set (x4:Int).toNat (rdOf ByteArray.empty x0 x4)) (wrap64 (x4+1))) else(none)) else(none)) else(some x3)
def laws_toStringS.f(k:Nat)(l0:List ByteArray):Option (List ByteArray):=if 0<=(l0.length:Int) then(if((l0.length:Int):Int).toNat<=17592186044416 then(laws_toStringS.l0 k l0 (List.replicate ((l0.length:Int):Int).toNat (⟨#[]⟩:ByteArray)) 0) else(none)) else(none)
theorem laws_toStringS.calls(k:Nat)(A0:Option Addr)(c0:Nat)(l0:List ByteArray)(r:List ByteArray)(w:World)(au:Kd.C Kd.string w A0 l0.length l0)(av:l0.length<=c0)(H:laws_toStringS.f k l0=some r):
 Calls Tryz.prog 8 #[.slice A0 l0.length c0] w fun e w'=>∃aw:Value,e= .returned (aw)/\Kd.R Kd.string 9 w' w.heap.size (fun _=>True) aw r/\Below w.heap.size w w':=by
 have aH:=zz au;have aR:=zz av;clear au av;have HB:=yB w;unfold laws_toStringS.f at H;replace H:=yA H;obtain⟨c2,H⟩:=H;have aB:=eq_true c2;have aC:=z1 c2;clear c2;replace H:=yA H;obtain⟨c3,H⟩:=H;have aD:=eq_true c3;have aE:=z1 c3;clear c3;obtain⟨am,ae⟩:∃y_:List ByteArray,y_=(List.replicate ((l0.length:Int):Int).toNat (⟨#[]⟩:ByteArray)):=⟨_,rfl⟩
 replace H:(laws_toStringS.l0 k l0 am 0)=some r:=yN0 ae H;have al:=zz ae;clear ae;have H':=zz H;clear H;go_enter Tryz.func8,Tryz.ntmps8;go_wp2_with(first|(refine zN 7 ?_;refine Kd.R_make Kd.string _ 9 rfl (N:=7) rfl 28 _ _ rfl (l0.length:Int) rfl rfl Tryz.underlying28 (.string ⟨#[]⟩) 16 info9 rfl yd_ yo_ (⟨#[]⟩:ByteArray) (ok:=fun _=>True) (okp:=fun _=>True) rfl (fun _ hk=>hk) trivial (z2) (Nat.le_trans (Nat.mul_le_mul_right _ (z2:(l0.length:Int).toNat<=17592186044416)) yo_) (Below.refl _ _) (Nat.le_refl _) ?_;intro aF w4 ag hb hg_ hnew_;clear hg_ hnew_;(first|rw[<-al.out] at ag|(simp only[Int.reduceToNat] at ag;rw[<-al.out] at ag));have ap:=zz (Kd.qU ag (qE zb));replace HB:=zz (zv zb hb);clear hb ag))
 go_loopg[4] k (fun kq v4 w'=>∃(ab:List ByteArray) (aa:Int),v4= .int .i64 aa/\qB (laws_toStringS.l0 kq l0 ab aa=some r)/\qB (kq<=k)/\qB (Kd.R Kd.string 9 w' w.heap.size (fun _=>True) aF ab)/\qB (Below w.heap.size w w'))
 case atStart=>exact⟨(am),(0),zr,H',⟨Nat.le_refl _⟩,⟨zR ap.out⟩,⟨zb⟩⟩
 case round=>
  clear H';try clear c2
  try clear aB
  try clear aC
  try clear c3
  try clear aD
  try clear aE
  obtain⟨ab,aa,rfl,HA,ax,ac,HB⟩:=hrel;cases gk with
  |zero=>exact absurd HA.out (by simp[laws_toStringS.l0])
  |succ k1=>
   have H:=HA.out;clear HA;simp only[laws_toStringS.l0] at H;refine yDn H ?_ ?_<;>clear H<;>intro aO H
   ·obtain rfl:=zi H;go_wp2;go_ret;exact⟨_,ze,zR ac.out,zb⟩
   replace H:=yAD H;obtain⟨aP,H⟩:=H;replace H:=yAD H;obtain⟨aQ,H⟩:=H;obtain⟨ah,af⟩:∃y_:List ByteArray,y_=(ab.set (aa:Int).toNat (rdOf ByteArray.empty l0 aa)):=⟨_,rfl⟩
   replace H:(laws_toStringS.l0 k1 l0 ah (wrap64 (aa+1)))=some r:=yN0 af H;have ar:=zz af;clear af;have H':=zz H;clear H;have ai:0<=(aa:Int):=z2;have aj:aa<(l0.length:Int):=z2;obtain⟨aL,aG,ad⟩:=Kd.vA aH.out aa ai aj;cases aG;replace ad:=z3 HB.out ad;replace ai:=eq_true ai;replace aj:=eq_true aj;have p9:0<=(aa:Int):=z2;have q9:(aa:Int)<((ab.length:Int):Int):=z2;obtain⟨an,aI,ay,az,aJ,aS,aA⟩:=Kd.R_form ac.out yo_
   (first|cases ay|(injection ay with ea_ en_ ec_;(first|subst ea_|(injection ea_ with ea_;subst ea_));subst ec_;clear en_))
   have aK:=zz az;have aT:=zz aA;clear az aJ aA;obtain⟨aM,aN⟩:=Kd.R_celln (⟨#[]⟩:ByteArray) ac.out (aa:Int) p9 q9;replace p9:=eq_true p9;replace q9:=eq_true q9;have ak:=Kd.R_putg ac.out (aa:Int) (rdOf ByteArray.empty l0 aa);go_wp2_with(first|((with_reducible refine qR (t:=9) (p:=20) rfl ?_);refine ye 9 20 (wr.setCell ⟨an,(aa:Int).toNat,none⟩ (.string (rdOf ByteArray.empty l0 aa))) ?_;intro ao hw;have hg:wr.grownBy ao (some an):=(by rw[hw];exact ak.2);have hp_:Kd.R Kd.string 9 ao w.heap.size (fun _=>True) (.slice (some ⟨an,0,none⟩) ab.length aI) ah:=(by rw[hw,ar.out];exact ak.1);clear ak;replace ac:=zz (hp_);replace HB:=zz ((by rw[hw];exact qJ (HB.out) aK.out:Below w.heap.size w ao));clear hg hw hp_))
   go_roundg k1
   case measure=>exact yM1 ax
   case rel=>exact⟨(ah),(wrap64 (aa+1)),zr,H',⟨yM1 ax⟩,⟨zR ac.out⟩,⟨zb⟩⟩
def laws_toEntry.f(aa:ByteArray)(ab:Int)(ac:ByteArray)(ad:Bool):Option (ByteArray×Int×ByteArray×Bool):=some (aa,ab,ac,ad)
theorem laws_toEntry.calls(ac:ByteArray)(ad:Int)(ae:ByteArray)(af:Bool)(r1:ByteArray)(r2:Int)(r3:ByteArray)(r4:Bool)(w:World)(H:laws_toEntry.f ac ad ae af=some (r1,r2,r3,r4)):
 Calls Tryz.prog 103 #[.agg #[.string ac,.int .i64 ad,.string ae,.bool af]] w fun e w'=>e= .returned (.agg #[.string r1,.int .i64 r2,.string r3,.bool r4])/\Below w.heap.size w w':=by
 have aR:=Tryz.underlying140;have aV:=Tryz.underlying63;have HB:=yB w;unfold laws_toEntry.f at H;simp only[Option.some.injEq,Prod.mk.injEq] at H;obtain⟨rfl,rfl,rfl,rfl⟩:=H;go_enter Tryz.func103,Tryz.ntmps103;go_wp2_with(first|(refine zX 1 140 #[.string ac,.int .i64 ad,.string ae,.bool af] ?_;intro an hg w2 hbox hb;have aa:=zz (hbox);have aS:=zz ((zg:w.heap.size<=an));replace HB:=zz (zv zb hb);clear hb hbox hg)|(refine zX 2 63 #[.string (⟨#[]⟩:ByteArray),.int .i64 0,.string (⟨#[]⟩:ByteArray),.bool false] ?_;intro am hg w3 hbox hb;have ab:=zz (hbox);have aT:=zz ((zg:w.heap.size<=am));replace HB:=zz (zv zb hb);have ag:=zz (zH aa hg);have ah:=zz (zI aa hg);replace aa:=zz (zJ aa hb);clear hb hbox hg)|(refine zX 3 63 #[.string (⟨#[]⟩:ByteArray),.int .i64 0,.string (⟨#[]⟩:ByteArray),.bool false] ?_;intro ao hg w4 hbox hb;have ap:=zz (hbox);have aU:=zz ((zg:w.heap.size<=ao));replace HB:=zz (zv zb hb);have ai:=zz (zH aa hg);have aj:=zz (zI aa hg);replace aa:=zz (zJ aa hb);have ak:=zz (zH ab hg);have al:=zz (zI ab hg);replace ab:=zz (zJ ab hb);clear hb hbox hg;have aW:=ag.out;have aX:=ah.out;have aY:=ai.out;have aZ:=aj.out;obtain⟨aB,aC,aD,aE,aF,aG,aH,aI⟩:=zc4 aa.out;have a0:=al.out;have a1:=ak.out;obtain⟨aJ,aK,aL,aM,aN,aO,aP,aQ⟩:=zc4 ap.out;obtain⟨ar,au,av,aw,ax,ay,az,aA⟩:=zc4 ab.out))
 refine bodyPost_ret (results_cell_row rfl _ _ am 63 #[.string ac,.int .i64 ad,.string ae,.bool af] (0,0) _ rfl (yP ab.out) Tryz.underlying63 rfl zk) rfl ?_;exact⟨ze,zb⟩
def laws_toEntryS.l0:Nat->List (S140)->List (S63)->Int->Option ((List (S63)))
 |0,_,_,_=>none
 |k+1,x0,x3,x4=>if x4<(x0.length:Int) then(if 0<=x4 then((laws_toEntry.f ((rd_T140 x0 x4).f0) ((rd_T140 x0 x4).f1) ((rd_T140 x0 x4).f2) ((rd_T140 x0 x4).f3)).bind fun aa=>(if x4<(x3.length:Int) then(laws_toEntryS.l0 k x0 (x3.set (x4:Int).toNat (⟨aa.1,aa.2.1,aa.2.2.1,aa.2.2.2⟩:S63)) (wrap64 (x4+1))) else(none))) else(none)) else(some x3)
def laws_toEntryS.f(k:Nat)(l0:List (S140)):Option ((List (S63))):=if 0<=(l0.length:Int) then(if((l0.length:Int):Int).toNat<=5864062014805 then(laws_toEntryS.l0 k l0 (List.replicate ((l0.length:Int):Int).toNat z63) 0) else(none)) else(none)
theorem laws_toEntryS.calls(k:Nat)(A0:Option Addr)(c0:Nat)(l0:List (S140))(r:List (S63))(w:World)(aY:Kd.C k140 w A0 l0.length l0)(aZ:l0.length<=c0)(H:laws_toEntryS.f k l0=some r):
 Calls Tryz.prog 83 #[.slice A0 l0.length c0] w fun e w'=>∃a0:Value,e= .returned (a0)/\Kd.R k63 63 w' w.heap.size (fun _=>True) a0 r/\Below w.heap.size w w':=by
 have bj:=Tryz.underlying140;have bn:=Tryz.underlying63;have ba:=zz aY;have bB:=zz aZ;clear aY aZ;have HB:=yB w;unfold laws_toEntryS.f at H;replace H:=yA H;obtain⟨c2,H⟩:=H;have a3:=eq_true c2;have a4:=z1 c2;clear c2;replace H:=yA H;obtain⟨c3,H⟩:=H;have a5:=eq_true c3;have a6:=z1 c3;clear c3;obtain⟨aC,au⟩:∃y_:List (S63),y_=(List.replicate ((l0.length:Int):Int).toNat z63):=⟨_,rfl⟩
 replace H:(laws_toEntryS.l0 k l0 aC 0)=some r:=yN0 au H;have aA:=zz au;clear au;have H':=zz H;clear H;go_enter Tryz.func83,Tryz.ntmps83;go_wp2_with(first|(refine zN 7 ?_;refine Kd.R_make k63 _ 63 rfl (N:=7) rfl 31 _ _ rfl (l0.length:Int) rfl rfl Tryz.underlying31 (.agg #[(.string ⟨#[]⟩),(.int .i64 0),(.string ⟨#[]⟩),(.bool false)]) 48 info63 rfl yd_ yo_ z63 (ok:=fun _=>True) (okp:=fun _=>True) (k63_mkM _ _ _ z63) (fun _ hk=>hk) trivial (z2) (Nat.le_trans (Nat.mul_le_mul_right _ (z2:(l0.length:Int).toNat<=5864062014805)) yo_) (Below.refl _ _) (Nat.le_refl _) ?_;intro a7 w4 ax hb hg_ hnew_;clear hg_ hnew_;(first|rw[<-aA.out] at ax|(simp only[Int.reduceToNat] at ax;rw[<-aA.out] at ax));have aV:=zz (Kd.qU ax (qE zb));replace HB:=zz (zv zb hb);clear hb ax))
 go_loopg[4] k (fun kq v4 w'=>∃(ac:List (S63)) (aa:Int),v4= .int .i64 aa/\qB (laws_toEntryS.l0 kq l0 ac aa=some r)/\qB (kq<=k)/\qB (Kd.R k63 63 w' w.heap.size (fun _=>True) a7 ac)/\qB (Below w.heap.size w w'))
 case atStart=>exact⟨(aC),(0),zr,H',⟨Nat.le_refl _⟩,⟨zR aV.out⟩,⟨zb⟩⟩
 case round=>
  clear H';try clear c2
  try clear a3
  try clear a4
  try clear c3
  try clear a5
  try clear a6
  obtain⟨ac,aa,rfl,HA,a1,ad,HB⟩:=hrel;cases gk with
  |zero=>exact absurd HA.out (by simp[laws_toEntryS.l0])
  |succ k1=>
   have H:=HA.out;clear HA;simp only[laws_toEntryS.l0] at H;refine yDn H ?_ ?_<;>clear H<;>intro bo H
   ·obtain rfl:=zi H;go_wp2;go_ret;exact⟨_,ze,zR ad.out,zb⟩
   replace H:=yAD H;obtain⟨bq,H⟩:=H;replace H:=zf H;obtain⟨⟨aj,ak,al,am⟩,a2,H⟩:=H;try dsimp only at H
   have A8:=zz a2;clear a2;replace H:=yAD H;obtain⟨br,H⟩:=H;obtain⟨ay,av⟩:∃y_:List (S63),y_=(ac.set (aa:Int).toNat (⟨aj,ak,al,am⟩:S63)):=⟨_,rfl⟩
   replace H:(laws_toEntryS.l0 k1 l0 ay (wrap64 (aa+1)))=some r:=yN0 av H;have aW:=zz av;clear av;have H':=zz H;clear H;have bs:=yt (0<=(aa:Int));have bu:=yt (aa<(l0.length:Int));obtain⟨bk,a8,an,ao,ap,ar⟩:=at_T140 ba.out aa z2 z2;cases a8;replace an:=z3 HB.out an;replace ao:=z3 HB.out ao;replace ap:=z3 HB.out ap;replace ar:=z3 HB.out ar;go_wp2_with(first|(refine zL 103 20 Tryz.func103 #[.agg #[.string ((rd_T140 l0 aa).f0),.int .i64 ((rd_T140 l0 aa).f1),.string ((rd_T140 l0 aa).f2),.bool ((rd_T140 l0 aa).f3)]] ?_;(with_reducible refine(laws_toEntry.calls ((rd_T140 l0 aa).f0) ((rd_T140 l0 aa).f1) ((rd_T140 l0 aa).f2) ((rd_T140 l0 aa).f3) aj ak al am _ A8.out).mono ?_);rintro e ae ⟨rfl,hb⟩;refine⟨_,rfl,?_⟩;replace ad:=zz (Kd.vH (zR ad.out) hb);replace HB:=zz (zv zb hb);(try clear hb);(try clear hk);have aD:0<=(aa:Int):=z2;have aE:(aa:Int)<((ac.length:Int):Int):=z2;obtain⟨ab,aF,aG,aH,a9,bv,aI⟩:=Kd.R_form ad.out yo_;(first|cases aG|(injection aG with ea_ en_ ec_;(first|subst ea_|(injection ea_ with ea_;subst ea_));subst ec_;clear en_));have aw:=zz aH;have bw:=zz aI;clear aH a9 aI;obtain⟨bz,aX,aJ,ag,ah⟩:=Kd.R_elem ad.out z63 (aa:Int) aD aE;obtain rfl:=k63_openM aJ;have bb:ae.cell? ⟨ab,(aa:Int).toNat*4,none⟩=some (.string ((qA ac aa).f0)):=ag 0 _ rfl;have bc:ae.cell? ⟨ab,(aa:Int).toNat*4+1,none⟩=some (.int .i64 ((qA ac aa).f1)):=ag 1 _ rfl;have bd:ae.cell? ⟨ab,(aa:Int).toNat*4+2,none⟩=some (.string ((qA ac aa).f2)):=ag 2 _ rfl;have be:ae.cell? ⟨ab,(aa:Int).toNat*4+3,none⟩=some (.bool ((qA ac aa).f3)):=ag 3 _ rfl;have bf:ae.frozen? ⟨ab,(aa:Int).toNat*4,none⟩=false:=ah 0;have bg:ae.frozen? ⟨ab,(aa:Int).toNat*4+1,none⟩=false:=ah 1;have bh:ae.frozen? ⟨ab,(aa:Int).toNat*4+2,none⟩=false:=ah 2;have bi:ae.frozen? ⟨ab,(aa:Int).toNat*4+3,none⟩=false:=ah 3;clear aX ag ah aJ;replace aD:=eq_true aD;replace aE:=eq_true aE;have aK:=zz (show Kd.R k63 63 ae w.heap.size (fun _=>True) (.slice (some ⟨ab,0,none⟩) ac.length aF) ac from(zR ad.out));obtain⟨bA,aB,aL,af,ai⟩:=Kd.R_elem aK.out z63 (aa:Int) (z2) (by have h_:(aa:Int)<((ac.length:Int):Int):=z2;first|exact h_|(have e_:=(Kd.qH ad.out).1;omega)|simpa using h_);obtain rfl:=k63_openM aL;have az:=Kd.R_seg aK.out (aa:Int) (z2) (by have h_:(aa:Int)<((ac.length:Int):Int):=z2;first|exact h_|(have e_:=(Kd.qH ad.out).1;omega)|simpa using h_) (seg:=[.string aj,.int .i64 ak,.string al,.bool am]) (j:=0) aB af (show 4<=4 from by decide) (x':=(⟨aj,ak,al,am⟩:S63)) (k63_mkM _ _ _ (⟨aj,ak,al,am⟩:S63)) (fun _ hk=>hk);have aM:=af 0 _ rfl;(try simp only[show(k63).sz=4 from rfl,Nat.mul_one,Nat.add_zero] at aM);have aN:=ai 0;(try simp only[show(k63).sz=4 from rfl,Nat.mul_one,Nat.add_zero] at aN);have aO:=af 1 _ rfl;(try simp only[show(k63).sz=4 from rfl,Nat.mul_one,Nat.add_zero] at aO);have aP:=ai 1;(try simp only[show(k63).sz=4 from rfl,Nat.mul_one,Nat.add_zero] at aP);have aQ:=af 2 _ rfl;(try simp only[show(k63).sz=4 from rfl,Nat.mul_one,Nat.add_zero] at aQ);have aR:=ai 2;(try simp only[show(k63).sz=4 from rfl,Nat.mul_one,Nat.add_zero] at aR);have aS:=af 3 _ rfl;(try simp only[show(k63).sz=4 from rfl,Nat.mul_one,Nat.add_zero] at aS);have aT:=ai 3;(try simp only[show(k63).sz=4 from rfl,Nat.mul_one,Nat.add_zero] at aT);clear aB af ai aL)|((with_reducible refine qR (t:=63) (p:=21) rfl ?_);refine ye 63 21 ((((ae.setCell ⟨ab,(aa:Int).toNat*4,none⟩ (.string aj)).setCell ⟨ab,(aa:Int).toNat*4+1,none⟩ (.int .i64 ak)).setCell ⟨ab,(aa:Int).toNat*4+2,none⟩ (.string al)).setCell ⟨ab,(aa:Int).toNat*4+3,none⟩ (.bool am)) ?_;intro aU hw;have hg:ae.grownBy aU (some ab):=(by rw[hw];exact az.2);have hp_:Kd.R k63 63 aU w.heap.size (fun _=>True) (.slice (some ⟨ab,0,none⟩) ac.length aF) ay:=(by rw[hw,aW.out];exact az.1);clear az;replace ad:=zz (hp_);replace HB:=zz ((by rw[hw];exact qJ (qJ (qJ (qJ (HB.out) aw.out) aw.out) aw.out) aw.out:Below w.heap.size w aU));clear hg hw hp_))
   go_roundg k1
   case measure=>exact yM1 a1
   case rel=>exact⟨(ay),(wrap64 (aa+1)),zr,H',⟨yM1 a1⟩,⟨zR ad.out⟩,⟨zb⟩⟩
def laws_toItem.f(k:Nat)(aa:ByteArray)(ab:ByteArray)(ac:List ByteArray)(ad:ByteArray)(ae:List (S140)):Option (ByteArray×ByteArray×List ByteArray×ByteArray×(List (S63))):=(laws_toStringS.f k ac).bind fun af=>((laws_toEntryS.f k ae).bind fun ag=>(some (aa,ab,af,ad,ag)))
theorem laws_toItem.calls(k:Nat)(ag:ByteArray)(ah:ByteArray)(aj:Option Addr)(ak:Nat)(ad:List ByteArray)(ai:ByteArray)(al:Option Addr)(am:Nat)(ae:List (S140))(r1:ByteArray)(r2:ByteArray)(r3:List ByteArray)(r4:ByteArray)(r5:List (S63))(w:World)(aG:Kd.C Kd.string w aj ad.length ad)(aH:ad.length<=ak)(aI:Kd.C k140 w al ae.length ae)(aJ:ae.length<=am)(H:laws_toItem.f k ag ah ad ai ae=some (r1,r2,r3,r4,r5)):
 Calls Tryz.prog 54 #[.agg #[.string ag,.string ah,.slice aj ad.length ak,.string ai,.slice al ae.length am]] w fun e w'=>∃aP aQ:Value,e= .returned (.agg #[.string r1,.string r2,aP,.string r4,aQ])/\Kd.R Kd.string 9 w' w.heap.size (fun _=>True) aP r3/\Kd.R k63 63 w' w.heap.size (fun _=>True) aQ r5/\Below w.heap.size w w':=by
 have b4:=Tryz.underlying79;have b5:=Tryz.underlying61;have aL:=zz aG;have aM:=zz aH;clear aG aH;have aN:=zz aI;have aO:=zz aJ;clear aI aJ;have HB:=yB w;unfold laws_toItem.f at H;replace H:=zf H;obtain⟨ap,aR,H⟩:=H;try dsimp only at H
 have A2:=zz aR;clear aR;replace H:=zf H;obtain⟨ar,aS,H⟩:=H;try dsimp only at H
 have A3:=zz aS;clear aS;simp only[Option.some.injEq,Prod.mk.injEq] at H;obtain⟨rfl,rfl,rfl,rfl,rfl⟩:=H;go_enter Tryz.func54,Tryz.ntmps54;go_wp2_with(first|(refine zX 1 79 #[.string ag,.string ah,.slice aj ad.length ak,.string ai,.slice al ae.length am] ?_;intro au hg w4 hbox hb;have aa:=zz (hbox);have bZ:=zz ((zg:w.heap.size<=au));replace HB:=zz (zv zb hb);clear hb hbox hg)|(refine zX 2 61 #[.string (⟨#[]⟩:ByteArray),.string (⟨#[]⟩:ByteArray),.slice none 0 0,.string (⟨#[]⟩:ByteArray),.slice none 0 0] ?_;intro an hg w5 hbox hb;have ab:=zz (hbox);have b0:=zz ((zg:w.heap.size<=an));replace HB:=zz (zv zb hb);have av:=zz (zH aa hg);have aw:=zz (zI aa hg);replace aa:=zz (zJ aa hb);clear hb hbox hg)|(refine zX 3 61 #[.string (⟨#[]⟩:ByteArray),.string (⟨#[]⟩:ByteArray),.slice none 0 0,.string (⟨#[]⟩:ByteArray),.slice none 0 0] ?_;intro af hg w6 hbox hb;have ac:=zz (hbox);have b1:=zz ((zg:w.heap.size<=af));replace HB:=zz (zv zb hb);have ax:=zz (zH aa hg);have ay:=zz (zI aa hg);replace aa:=zz (zJ aa hb);have az:=zz (zH ab hg);have aA:=zz (zI ab hg);replace ab:=zz (zJ ab hb);clear hb hbox hg;have b6:=av.out;have b7:=aw.out;have b8:=ax.out;have b9:=ay.out;obtain⟨bP,bQ,bR,bS,bT,bU,bV,bW,bX,bY⟩:=zc5 aa.out;have b2:=aA.out;have b3:=az.out;obtain⟨aV,aW,aX,aY,aZ,a0,a1,a2,a3,a4⟩:=zc5 ac.out)|(refine zL 8 12 Tryz.func8 #[.slice aj ad.length ak] ?_;(with_reducible refine(laws_toStringS.calls k _ _ ad ap _ ?s1 ?s2 A2.out).mono ?_);(case s1=>exact Kd.qD aL.out zb);(case s2=>exact aM.out);rintro e cc ⟨ca,rfl,aB,hb⟩;refine⟨_,rfl,?_⟩;have ao:=zz (Kd.qU aB (qE zb));replace aa:=zz (qY (g:=au) (o:= .cells #[.string ag,.string ah,.slice aj ad.length ak,.string ai,.slice al ae.length am] 79 (0,0)) (yP aa.out) hb);replace ab:=zz (qY (g:=an) (o:= .cells #[.string (⟨#[]⟩:ByteArray),.string (⟨#[]⟩:ByteArray),.slice none 0 0,.string (⟨#[]⟩:ByteArray),.slice none 0 0] 61 (0,0)) (yP ab.out) hb);replace ac:=zz (qY (g:=af) (o:= .cells #[.string ag,.string ah,.slice none 0 0,.string (⟨#[]⟩:ByteArray),.slice none 0 0] 61 (0,0)) (yP ac.out) hb);replace HB:=zz (zv zb hb);(try clear hb);(try clear aB);obtain⟨aC,aD,aT⟩:=Kd.qW ao.out;subst aT;obtain⟨a5,a6,a7,a8,a9,ba,bb,bc,bd,be⟩:=zc5 ac.out;obtain⟨bf,bg,bh,bi,bj,bk,bn,bo,bq,br⟩:=zc5 aa.out)|(refine zL 83 19 Tryz.func83 #[.slice al ae.length am] ?_;(with_reducible refine(laws_toEntryS.calls k _ _ ae ar _ ?s1 ?s2 A3.out).mono ?_);(case s1=>exact Kd.qD aN.out zb);(case s2=>exact aO.out);rintro e cd ⟨cb,rfl,aB,hb⟩;refine⟨_,rfl,?_⟩;replace ao:=zz (Kd.vH (by(with_reducible repeat(first|apply Kd.vE|apply Kd.vD|apply Kd.qZ));exact(Kd.qM (Kd.qX (p:=⟨af,3,none⟩) (Kd.qX (p:=⟨af,2,none⟩) (Kd.R_types ao.out ac.out yd_) (fun _ hk=>hk.2) (.slice aC ap.length aD)) (fun _ hk=>hk.2) (.string ai)) (fun _ h_=>h_.1))) hb);have aK:=zz (Kd.qU aB (qE zb));replace aa:=zz (qY (g:=au) (o:= .cells #[.string ag,.string ah,.slice aj ad.length ak,.string ai,.slice al ae.length am] 79 (0,0)) (yP aa.out) hb);replace ab:=zz (qY (g:=an) (o:= .cells #[.string (⟨#[]⟩:ByteArray),.string (⟨#[]⟩:ByteArray),.slice none 0 0,.string (⟨#[]⟩:ByteArray),.slice none 0 0] 61 (0,0)) (yP ab.out) hb);replace ac:=zz (qY (g:=af) (o:= .cells #[.string ag,.string ah,.slice aC ap.length aD,.string ai,.slice none 0 0] 61 (0,0)) (yP ac.out) hb);replace HB:=zz (zv zb hb);(try clear hb);(try clear hk);(try clear aB);obtain⟨aE,aF,aU⟩:=Kd.qW aK.out;subst aU;obtain⟨bs,bu,bv,bw,bz,bA,bB,bC,bD,bE⟩:=zc5 ac.out;obtain⟨bF,bG,bH,bI,bJ,bK,bL,bM,bN,bO⟩:=zc5 ab.out))
 refine bodyPost_ret (results_cell_row rfl _ _ an 61 #[.string ag,.string ah,.slice aC ap.length aD,.string ai,.slice aE ar.length aF] (0,0) _ rfl (yP ab.out) Tryz.underlying61 rfl zk) rfl ?_;exact⟨_,_,ze,yV (Kd.qX (p:=⟨af,4,none⟩) (Kd.R_types (Kd.R_types ao.out ac.out yd_) ab.out yd_) (fun _ hk=>hk.1.2) (.slice aE ar.length aF)),yV (Kd.qX (p:=⟨af,4,none⟩) (Kd.R_types (Kd.R_types aK.out ac.out yd_) ab.out yd_) (fun _ hk=>hk.1.2) (.slice aE ar.length aF)),zb⟩
section
attribute [local go_sem] run_store_one
def laws_toItemS.l0:Nat->List (S79)->List (S61)->Int->Option ((List (S61)))
 |0,_,_,_=>none
 |k+1,x0,x3,x4=>if x4<(x0.length:Int) then(if 0<=x4 then((laws_toItem.f k ((rd_T79 x0 x4).f0) ((rd_T79 x0 x4).f1) ((rd_T79 x0 x4).f2) ((rd_T79 x0 x4).f3) ((rd_T79 x0 x4).f4)).bind fun aa=>(if x4<(x3.length:Int) then(laws_toItemS.l0 k x0 (x3.set (x4:Int).toNat (⟨aa.1,aa.2.1,aa.2.2.1,aa.2.2.2.1,aa.2.2.2.2⟩:S61)) (wrap64 (x4+1))) else(none))) else(none)) else(some x3)
def laws_toItemS.f(k:Nat)(l0:List (S79)):Option ((List (S61))):=if 0<=(l0.length:Int) then(if((l0.length:Int):Int).toNat<=2932031007402 then(laws_toItemS.l0 k l0 (List.replicate ((l0.length:Int):Int).toNat z61) 0) else(none)) else(none)
theorem laws_toItemS.calls(k:Nat)(A0:Option Addr)(c0:Nat)(l0:List (S79))(r:List (S61))(w:World)(bq:Kd.C k79 w A0 l0.length l0)(br:l0.length<=c0)(H:laws_toItemS.f k l0=some r):
 Calls Tryz.prog 23 #[.slice A0 l0.length c0] w fun e w'=>∃bs:Value,e= .returned (bs)/\Kd.S k61 61 w' w.heap.size (fun _=>True) bs r/\Below w.heap.size w w':=by
 have b1:=Tryz.underlying79;have b2:=Tryz.underlying61;have bI:=zz bq;have cc:=zz br;clear bq br;have HB:=yB w;unfold laws_toItemS.f at H;replace H:=yA H;obtain⟨c2,H⟩:=H;have bw:=eq_true c2;have bz:=z1 c2;clear c2;replace H:=yA H;obtain⟨c3,H⟩:=H;have bA:=eq_true c3;have bB:=z1 c3;clear c3;obtain⟨aP,aB⟩:∃y_:List (S61),y_=(List.replicate ((l0.length:Int):Int).toNat z61):=⟨_,rfl⟩
 replace H:(laws_toItemS.l0 k l0 aP 0)=some r:=yN0 aB H;have aK:=zz aB;clear aB;have H':=zz H;clear H;go_enter Tryz.func23,Tryz.ntmps23;go_wp2_with(first|(refine zN 7 ?_;refine Kd.S_make k61 _ 61 rfl (N:=7) rfl 34 _ _ rfl (l0.length:Int) rfl rfl Tryz.underlying34 (.agg #[(.string ⟨#[]⟩),(.string ⟨#[]⟩),(.slice none 0 0),(.string ⟨#[]⟩),(.slice none 0 0)]) 96 info61 rfl yd_ yo_ z61 (ok:=fun _=>True) (okp:=fun _=>True) (k61_mkM _ _ _ z61 (Kd.R_nil _ _ _ _ _) (Kd.R_nil _ _ _ _ _)) (fun _ hk=>hk) trivial (z2) (Nat.le_trans (Nat.mul_le_mul_right _ (z2:(l0.length:Int).toNat<=2932031007402)) yo_) (Below.refl _ _) (Nat.le_refl _) ?_;intro bC w4 aH hb hg_ hnew_;clear hg_ hnew_;(first|rw[<-aK.out] at aH|(simp only[Int.reduceToNat] at aH;rw[<-aK.out] at aH));have bj:=zz (Kd.S_lower aH (qE zb));replace HB:=zz (zv zb hb);clear hb aH))
 go_loopg[4] k (fun kq v4 w'=>∃(ad:List (S61)) (aa:Int),v4= .int .i64 aa/\qB (laws_toItemS.l0 kq l0 ad aa=some r)/\qB (kq<=k)/\qB (Kd.S k61 61 w' w.heap.size (fun _=>True) bC ad)/\qB (Below w.heap.size w w'))
 case atStart=>exact⟨(aP),(0),zr,H',⟨Nat.le_refl _⟩,⟨zS bj.out⟩,⟨zb⟩⟩
 case round=>
  clear H';try clear c2
  try clear bw
  try clear bz
  try clear c3
  try clear bA
  try clear bB
  obtain⟨ad,aa,rfl,HA,bu,ac,HB⟩:=hrel;cases gk with
  |zero=>exact absurd HA.out (by simp[laws_toItemS.l0])
  |succ k1=>
   have H:=HA.out;clear HA;simp only[laws_toItemS.l0] at H;refine yDn H ?_ ?_<;>clear H<;>intro b3 H
   ·obtain rfl:=zi H;go_wp2;go_ret;exact⟨_,ze,zS ac.out,zb⟩
   replace H:=yAD H;obtain⟨b4,H⟩:=H;replace H:=zf H;obtain⟨⟨aj,ak,aC,al,aD⟩,bv,H⟩:=H;try dsimp only at H
   have A8:=zz bv;clear bv;replace H:=yAD H;obtain⟨b5,H⟩:=H;obtain⟨aI,aE⟩:∃y_:List (S61),y_=(ad.set (aa:Int).toNat (⟨aj,ak,aC,al,aD⟩:S61)):=⟨_,rfl⟩
   replace H:(laws_toItemS.l0 k1 l0 aI (wrap64 (aa+1)))=some r:=yN0 aE H;have bk:=zz aE;clear aE;have H':=zz H;clear H;have b6:=yt (0<=(aa:Int));have b7:=yt (aa<(l0.length:Int));obtain⟨bZ,aQ,aR,aS,aT,bD,ap,ar,au,av,aw,ax,ay,az,aA⟩:=at_T79 bI.out aa z2 z2;cases bD;replace ap:=z3 HB.out ap;replace ar:=z3 HB.out ar;replace au:=z3 HB.out au;replace av:=z3 HB.out av;replace aw:=z3 HB.out aw;have aL:=zz ay;have aM:=zz ax;clear ay ax;have aN:=zz aA;have aO:=zz az;clear aA az;go_wp2_with(first|(refine zL 54 20 Tryz.func54 #[.agg #[.string ((rd_T79 l0 aa).f0),.string ((rd_T79 l0 aa).f1),.slice aQ ((rd_T79 l0 aa).f2).length aR,.string ((rd_T79 l0 aa).f3),.slice aS ((rd_T79 l0 aa).f4).length aT]] ?_;(with_reducible refine(laws_toItem.calls k1 ((rd_T79 l0 aa).f0) ((rd_T79 l0 aa).f1) _ _ ((rd_T79 l0 aa).f2) ((rd_T79 l0 aa).f3) _ _ ((rd_T79 l0 aa).f4) aj ak aC al aD _ ?s1 ?s2 ?s3 ?s4 A8.out).mono ?_);(case s1=>exact zc aL.out);(case s2=>exact aM.out);(case s3=>exact zc aN.out);(case s4=>exact aO.out);rintro e ae ⟨aF,aG,rfl,aU,aV,hb⟩;refine⟨_,rfl,?_⟩;replace ac:=zz (Kd.S_mono (Kd.S_told (Kd.S_told (Kd.S_old (zS ac.out) hb) (Kd.R_base aU)) (Kd.R_base aV)) (fun _ h_=>h_.1));have am:=zz (Kd.qU aU (qE zb));have an:=zz (Kd.qU aV (qE zb));replace HB:=zz (zv zb hb);(try clear hb);(try clear hk);(try clear aU);(try clear aV);have aW:0<=(aa:Int):=z2;have aX:(aa:Int)<((ad.length:Int):Int):=z2;obtain⟨ab,aY,aZ,a0,bE,b8,a1⟩:=Kd.S_form ac.out yo_;(first|cases aZ|(injection aZ with ea_ en_ ec_;(first|subst ea_|(injection ea_ with ea_;subst ea_));subst ec_;clear en_));have ao:=zz a0;have b9:=zz a1;clear a0 bE a1;obtain⟨_,ca,bn,a2,af,ag,_,_⟩:=Kd.S_elem ac.out z61 (aa:Int) aW aX;obtain⟨a3,a4,rfl,bJ,bK⟩:=k61_openM a2;have bL:ae.cell? ⟨ab,(aa:Int).toNat*5,none⟩=some (.string ((qC ad aa).f0)):=af 0 _ rfl;have bM:ae.cell? ⟨ab,(aa:Int).toNat*5+1,none⟩=some (.string ((qC ad aa).f1)):=af 1 _ rfl;have bN:ae.cell? ⟨ab,(aa:Int).toNat*5+2,none⟩=some (a3):=af 2 _ rfl;have bO:ae.cell? ⟨ab,(aa:Int).toNat*5+3,none⟩=some (.string ((qC ad aa).f3)):=af 3 _ rfl;have bP:ae.cell? ⟨ab,(aa:Int).toNat*5+4,none⟩=some (a4):=af 4 _ rfl;have bQ:ae.frozen? ⟨ab,(aa:Int).toNat*5,none⟩=false:=ag 0;have bR:ae.frozen? ⟨ab,(aa:Int).toNat*5+1,none⟩=false:=ag 1;have bS:ae.frozen? ⟨ab,(aa:Int).toNat*5+2,none⟩=false:=ag 2;have bT:ae.frozen? ⟨ab,(aa:Int).toNat*5+3,none⟩=false:=ag 3;have bU:ae.frozen? ⟨ab,(aa:Int).toNat*5+4,none⟩=false:=ag 4;clear bn af ag a2;replace aW:=eq_true aW;replace aX:=eq_true aX;have n_:=zz (Kd.S_mono (ok':=(fun k_=>some k_≠(aF:Value).ownBlock/\some k_≠(aG:Value).ownBlock)) ac.out (fun k_ hk=>⟨hk.1.2,hk.2⟩));clear ac;have ac:=n_;clear n_;have bF:=zz (show Kd.S k61 61 ae w.heap.size (fun k_=>((fun _=>True)) k_/\¬((fun k_=>some k_=(aF:Value).ownBlock\/some k_=(aG:Value).ownBlock)) k_) (.slice (some ⟨ab,0,none⟩) ad.length aY) ad from(by(with_reducible repeat(first|apply Kd.S_alloc|apply Kd.S_drewN|apply Kd.S_drew));exact Kd.S_mono ac.out (fun k_ hk=>⟨trivial,fun e_=>e_.elim (fun h_=>hk.1 h_) (fun h_=>hk.2 h_)⟩)));obtain⟨b0,cb,bo,a5,ah,ai,a6,a7⟩:=Kd.S_elem bF.out z61 (aa:Int) (z2) (by have h_:(aa:Int)<((ad.length:Int):Int):=z2;first|exact h_|(have e_:=(Kd.S_reads' ac.out).1;omega)|simpa using h_);obtain⟨bV,bW,rfl,bX,bY⟩:=k61_openM a5;have aJ:=Kd.S_seg a7 (z2) (by have h_:(aa:Int)<((ad.length:Int):Int):=z2;first|exact h_|(have e_:=(Kd.S_reads' ac.out).1;omega)|simpa using h_) (seg:=[.string aj,.string ak,aF,.string al,aG]) (j:=0) (show 5<=5 from by decide) (x':=(⟨aj,ak,aC,al,aD⟩:S61)) (k61_mkM _ _ _ (⟨aj,ak,aC,al,aD⟩:S61) (Kd.qM (Kd.R_tight rfl (Kd.qM (ok':=fun k_=>((fun _=>True)) k_/\k_≠ab) (Kd.R_apart' (am.out) (Kd.S_typed ac.out) yd_) (fun k_ hk=>⟨trivial,fun e_=>(hk.2) (by rw[e_];rfl)⟩))) (fun _ h_=>Or.inr (Or.inl h_))) (Kd.qM (Kd.R_tight rfl (Kd.qM (ok':=fun k_=>((fun _=>True)) k_/\k_≠ab) (Kd.R_apart' (an.out) (Kd.S_typed ac.out) yd_) (fun k_ hk=>⟨trivial,fun e_=>(hk.2) (by rw[e_];rfl)⟩))) (fun _ h_=>Or.inr (Or.inr (h_))))) (fun _ hk=>hk) (fun k_ hk_=>hk_.elim (fun h_=>((Kd.qM (ok':=fun k_=>((fun _=>True)) k_/\k_≠ab) (Kd.R_apart' (am.out) (Kd.S_typed ac.out) yd_) (fun k_ hk=>⟨trivial,fun e_=>(hk.2) (by rw[e_];rfl)⟩))).1 k_ h_.symm) (fun h_=>((Kd.qM (ok':=fun k_=>((fun _=>True)) k_/\k_≠ab) (Kd.R_apart' (an.out) (Kd.S_typed ac.out) yd_) (fun k_ hk=>⟨trivial,fun e_=>(hk.2) (by rw[e_];rfl)⟩))).1 k_ h_.symm));have a8:=ah 0 _ rfl;(try simp only[show(k61).sz=5 from rfl,Nat.mul_one,Nat.add_zero] at a8);have a9:=ai 0;(try simp only[show(k61).sz=5 from rfl,Nat.mul_one,Nat.add_zero] at a9);have ba:=ah 1 _ rfl;(try simp only[show(k61).sz=5 from rfl,Nat.mul_one,Nat.add_zero] at ba);have bb:=ai 1;(try simp only[show(k61).sz=5 from rfl,Nat.mul_one,Nat.add_zero] at bb);have bc:=ah 2 _ rfl;(try simp only[show(k61).sz=5 from rfl,Nat.mul_one,Nat.add_zero] at bc);have bd:=ai 2;(try simp only[show(k61).sz=5 from rfl,Nat.mul_one,Nat.add_zero] at bd);have be:=ah 3 _ rfl;(try simp only[show(k61).sz=5 from rfl,Nat.mul_one,Nat.add_zero] at be);have bf:=ai 3;(try simp only[show(k61).sz=5 from rfl,Nat.mul_one,Nat.add_zero] at bf);have bg:=ah 4 _ rfl;(try simp only[show(k61).sz=5 from rfl,Nat.mul_one,Nat.add_zero] at bg);have bh:=ai 4;(try simp only[show(k61).sz=5 from rfl,Nat.mul_one,Nat.add_zero] at bh);clear bo ah ai a5 a6 a7;have bG:=R_one am.out;have bH:=R_one an.out)|((with_reducible refine qR (t:=61) (p:=21) rfl ?_);refine ye 61 21 (((((ae.setCell ⟨ab,(aa:Int).toNat*5,none⟩ (.string aj)).setCell ⟨ab,(aa:Int).toNat*5+1,none⟩ (.string ak)).setCell ⟨ab,(aa:Int).toNat*5+2,none⟩ (aF)).setCell ⟨ab,(aa:Int).toNat*5+3,none⟩ (.string al)).setCell ⟨ab,(aa:Int).toNat*5+4,none⟩ (aG)) ?_;intro bi hw;have hg:ae.grownBy bi (some ab):=(by rw[hw];exact aJ.2);have hp_:Kd.S k61 61 bi w.heap.size (fun _=>True) (.slice (some ⟨ab,0,none⟩) ad.length aY) aI:=(by rw[hw,bk.out];exact aJ.1);clear aJ;replace ac:=zz (hp_);replace HB:=zz ((by rw[hw];exact qJ (qJ (qJ (qJ (qJ (HB.out) ao.out) ao.out) ao.out) ao.out) ao.out:Below w.heap.size w bi));clear am an;clear hg hw hp_))
   go_roundg k1
   case measure=>exact yM1 bu
   case rel=>exact⟨(aI),(wrap64 (aa+1)),zr,H',⟨yM1 bu⟩,⟨zS ac.out⟩,⟨zb⟩⟩
end
def laws_toGen.f(aa:Int)(ab:ByteArray):Option (Int×ByteArray):=some (aa,ab)
theorem laws_toGen.calls(ac:Int)(ad:ByteArray)(r1:Int)(r2:ByteArray)(w:World)(H:laws_toGen.f ac ad=some (r1,r2)):
 Calls Tryz.prog 104 #[.agg #[.int .i64 ac,.string ad]] w fun e w'=>e= .returned (.agg #[.int .i64 r1,.string r2])/\Below w.heap.size w w':=by
 have aD:=Tryz.underlying142;have aE:=Tryz.underlying101;have HB:=yB w;unfold laws_toGen.f at H;simp only[Option.some.injEq,Prod.mk.injEq] at H;obtain⟨rfl,rfl⟩:=H;go_enter Tryz.func104,Tryz.ntmps104;go_wp2_with(first|(refine zX 1 142 #[.int .i64 ac,.string ad] ?_;intro al hg w2 hbox hb;have aa:=zz (hbox);have aF:=zz ((zg:w.heap.size<=al));replace HB:=zz (zv zb hb);clear hb hbox hg)|(refine zX 2 101 #[.int .i64 0,.string (⟨#[]⟩:ByteArray)] ?_;intro ak hg w3 hbox hb;have ab:=zz (hbox);have aG:=zz ((zg:w.heap.size<=ak));replace HB:=zz (zv zb hb);have ae:=zz (zH aa hg);have af:=zz (zI aa hg);replace aa:=zz (zJ aa hb);clear hb hbox hg)|(refine zX 3 101 #[.int .i64 0,.string (⟨#[]⟩:ByteArray)] ?_;intro am hg w4 hbox hb;have an:=zz (hbox);have aH:=zz ((zg:w.heap.size<=am));replace HB:=zz (zv zb hb);have ag:=zz (zH aa hg);have ah:=zz (zI aa hg);replace aa:=zz (zJ aa hb);have ai:=zz (zH ab hg);have aj:=zz (zI ab hg);replace ab:=zz (zJ ab hb);clear hb hbox hg;have aI:=ae.out;have aJ:=af.out;have aK:=ag.out;have aL:=ah.out;obtain⟨av,aw,ax,ay⟩:=zc2 aa.out;have aM:=aj.out;have aN:=ai.out;obtain⟨az,aA,aB,aC⟩:=zc2 an.out;obtain⟨ao,ap,ar,au⟩:=zc2 ab.out))
 refine bodyPost_ret (results_cell_row rfl _ _ ak 101 #[.int .i64 ac,.string ad] (0,0) _ rfl (yP ab.out) Tryz.underlying101 rfl zk) rfl ?_;exact⟨ze,zb⟩
def laws_toGenS.l0:Nat->List (S142)->List (S101)->Int->Option ((List (S101)))
 |0,_,_,_=>none
 |k+1,x0,x3,x4=>if x4<(x0.length:Int) then(if 0<=x4 then((laws_toGen.f ((rd_T142 x0 x4).f0) ((rd_T142 x0 x4).f1)).bind fun aa=>(if x4<(x3.length:Int) then(laws_toGenS.l0 k x0 (x3.set (x4:Int).toNat (⟨aa.1,aa.2⟩:S101)) (wrap64 (x4+1))) else(none))) else(none)) else(some x3)
def laws_toGenS.f(k:Nat)(l0:List (S142)):Option ((List (S101))):=if 0<=(l0.length:Int) then(if((l0.length:Int):Int).toNat<=11728124029610 then(laws_toGenS.l0 k l0 (List.replicate ((l0.length:Int):Int).toNat z101) 0) else(none)) else(none)
theorem laws_toGenS.calls(k:Nat)(A0:Option Addr)(c0:Nat)(l0:List (S142))(r:List (S101))(w:World)(aQ:Kd.C k142 w A0 l0.length l0)(aR:l0.length<=c0)(H:laws_toGenS.f k l0=some r):
 Calls Tryz.prog 84 #[.slice A0 l0.length c0] w fun e w'=>∃aS:Value,e= .returned (aS)/\Kd.R k101 101 w' w.heap.size (fun _=>True) aS r/\Below w.heap.size w w':=by
 have a7:=Tryz.underlying142;have a8:=Tryz.underlying101;have a2:=zz aQ;have bj:=zz aR;clear aQ aR;have HB:=yB w;unfold laws_toGenS.f at H;replace H:=yA H;obtain⟨c2,H⟩:=H;have aV:=eq_true c2;have aW:=z1 c2;clear c2;replace H:=yA H;obtain⟨c3,H⟩:=H;have aX:=eq_true c3;have aY:=z1 c3;clear c3;obtain⟨ax,ak⟩:∃y_:List (S101),y_=(List.replicate ((l0.length:Int):Int).toNat z101):=⟨_,rfl⟩
 replace H:(laws_toGenS.l0 k l0 ax 0)=some r:=yN0 ak H;have av:=zz ak;clear ak;have H':=zz H;clear H;go_enter Tryz.func84,Tryz.ntmps84;go_wp2_with(first|(refine zN 7 ?_;refine Kd.R_make k101 _ 101 rfl (N:=7) rfl 97 _ _ rfl (l0.length:Int) rfl rfl Tryz.underlying97 (.agg #[(.int .i64 0),(.string ⟨#[]⟩)]) 24 info101 rfl yd_ yo_ z101 (ok:=fun _=>True) (okp:=fun _=>True) (k101_mkM _ _ _ z101) (fun _ hk=>hk) trivial (z2) (Nat.le_trans (Nat.mul_le_mul_right _ (z2:(l0.length:Int).toNat<=11728124029610)) yo_) (Below.refl _ _) (Nat.le_refl _) ?_;intro aZ w4 ap hb hg_ hnew_;clear hg_ hnew_;(first|rw[<-av.out] at ap|(simp only[Int.reduceToNat] at ap;rw[<-av.out] at ap));have aN:=zz (Kd.qU ap (qE zb));replace HB:=zz (zv zb hb);clear hb ap))
 go_loopg[4] k (fun kq v4 w'=>∃(ab:List (S101)) (aa:Int),v4= .int .i64 aa/\qB (laws_toGenS.l0 kq l0 ab aa=some r)/\qB (kq<=k)/\qB (Kd.R k101 101 w' w.heap.size (fun _=>True) aZ ab)/\qB (Below w.heap.size w w'))
 case atStart=>exact⟨(ax),(0),zr,H',⟨Nat.le_refl _⟩,⟨zR aN.out⟩,⟨zb⟩⟩
 case round=>
  clear H';try clear c2
  try clear aV
  try clear aW
  try clear c3
  try clear aX
  try clear aY
  obtain⟨ab,aa,rfl,HA,aT,ac,HB⟩:=hrel;cases gk with
  |zero=>exact absurd HA.out (by simp[laws_toGenS.l0])
  |succ k1=>
   have H:=HA.out;clear HA;simp only[laws_toGenS.l0] at H;refine yDn H ?_ ?_<;>clear H<;>intro ba H
   ·obtain rfl:=zi H;go_wp2;go_ret;exact⟨_,ze,zR ac.out,zb⟩
   replace H:=yAD H;obtain⟨bb,H⟩:=H;replace H:=zf H;obtain⟨⟨ae,af⟩,aU,H⟩:=H;try dsimp only at H
   have A8:=zz aU;clear aU;replace H:=yAD H;obtain⟨bc,H⟩:=H;obtain⟨ar,al⟩:∃y_:List (S101),y_=(ab.set (aa:Int).toNat (⟨ae,af⟩:S101)):=⟨_,rfl⟩
   replace H:(laws_toGenS.l0 k1 l0 ar (wrap64 (aa+1)))=some r:=yN0 al H;have aO:=zz al;clear al;have H':=zz H;clear H;have bd:=yt (0<=(aa:Int));have be:=yt (aa<(l0.length:Int));obtain⟨a9,a0,ai,aj⟩:=at_T142 a2.out aa z2 z2;cases a0;replace ai:=z3 HB.out ai;replace aj:=z3 HB.out aj;go_wp2_with(first|(refine zL 104 20 Tryz.func104 #[.agg #[.int .i64 ((rd_T142 l0 aa).f0),.string ((rd_T142 l0 aa).f1)]] ?_;(with_reducible refine(laws_toGen.calls ((rd_T142 l0 aa).f0) ((rd_T142 l0 aa).f1) ae af _ A8.out).mono ?_);rintro e ah ⟨rfl,hb⟩;refine⟨_,rfl,?_⟩;replace ac:=zz (Kd.vH (zR ac.out) hb);replace HB:=zz (zv zb hb);(try clear hb);(try clear hk);have ay:0<=(aa:Int):=z2;have az:(aa:Int)<((ab.length:Int):Int):=z2;obtain⟨ad,aA,aB,aC,a1,bf,aD⟩:=Kd.R_form ac.out yo_;(first|cases aB|(injection aB with ea_ en_ ec_;(first|subst ea_|(injection ea_ with ea_;subst ea_));subst ec_;clear en_));have aE:=zz aC;have bg:=zz aD;clear aC a1 aD;obtain⟨bh,aP,aF,am,an⟩:=Kd.R_elem ac.out z101 (aa:Int) ay az;obtain rfl:=k101_openM aF;have a3:ah.cell? ⟨ad,(aa:Int).toNat*2,none⟩=some (.int .i64 ((qN ab aa).f0)):=am 0 _ rfl;have a4:ah.cell? ⟨ad,(aa:Int).toNat*2+1,none⟩=some (.string ((qN ab aa).f1)):=am 1 _ rfl;have a5:ah.frozen? ⟨ad,(aa:Int).toNat*2,none⟩=false:=an 0;have a6:ah.frozen? ⟨ad,(aa:Int).toNat*2+1,none⟩=false:=an 1;clear aP am an aF;replace ay:=eq_true ay;replace az:=eq_true az;have aG:=zz (show Kd.R k101 101 ah w.heap.size (fun _=>True) (.slice (some ⟨ad,0,none⟩) ab.length aA) ab from(zR ac.out));obtain⟨bi,aw,aH,ag,ao⟩:=Kd.R_elem aG.out z101 (aa:Int) (z2) (by have h_:(aa:Int)<((ab.length:Int):Int):=z2;first|exact h_|(have e_:=(Kd.qH ac.out).1;omega)|simpa using h_);obtain rfl:=k101_openM aH;have au:=Kd.R_seg aG.out (aa:Int) (z2) (by have h_:(aa:Int)<((ab.length:Int):Int):=z2;first|exact h_|(have e_:=(Kd.qH ac.out).1;omega)|simpa using h_) (seg:=[.int .i64 ae,.string af]) (j:=0) aw ag (show 2<=2 from by decide) (x':=(⟨ae,af⟩:S101)) (k101_mkM _ _ _ (⟨ae,af⟩:S101)) (fun _ hk=>hk);have aI:=ag 0 _ rfl;(try simp only[show(k101).sz=2 from rfl,Nat.mul_one,Nat.add_zero] at aI);have aJ:=ao 0;(try simp only[show(k101).sz=2 from rfl,Nat.mul_one,Nat.add_zero] at aJ);have aK:=ag 1 _ rfl;(try simp only[show(k101).sz=2 from rfl,Nat.mul_one,Nat.add_zero] at aK);have aL:=ao 1;(try simp only[show(k101).sz=2 from rfl,Nat.mul_one,Nat.add_zero] at aL);clear aw ag ao aH)|((with_reducible refine qR (t:=101) (p:=21) rfl ?_);refine ye 101 21 ((ah.setCell ⟨ad,(aa:Int).toNat*2,none⟩ (.int .i64 ae)).setCell ⟨ad,(aa:Int).toNat*2+1,none⟩ (.string af)) ?_;intro aM hw;have hg:ah.grownBy aM (some ad):=(by rw[hw];exact au.2);have hp_:Kd.R k101 101 aM w.heap.size (fun _=>True) (.slice (some ⟨ad,0,none⟩) ab.length aA) ar:=(by rw[hw,aO.out];exact au.1);clear au;replace ac:=zz (hp_);replace HB:=zz ((by rw[hw];exact qJ (qJ (HB.out) aE.out) aE.out:Below w.heap.size w aM));clear hg hw hp_))
   go_roundg k1
   case measure=>exact yM1 aT
   case rel=>exact⟨(ar),(wrap64 (aa+1)),zr,H',⟨yM1 aT⟩,⟨zR ac.out⟩,⟨zb⟩⟩
def laws_toProfile.f(k:Nat)(aa:ByteArray)(ab:Int)(ac:List (S142)):Option (ByteArray×Int×(List (S101))):=(laws_toGenS.f k ac).bind fun ad=>(some (aa,ab,ad))
theorem laws_toProfile.calls(k:Nat)(ae:ByteArray)(af:Int)(ag:Option Addr)(ah:Nat)(ac:List (S142))(r1:ByteArray)(r2:Int)(r3:List (S101))(w:World)(au:Kd.C k142 w ag ac.length ac)(av:ac.length<=ah)(H:laws_toProfile.f k ae af ac=some (r1,r2,r3)):
 Calls Tryz.prog 55 #[.agg #[.string ae,.int .i64 af,.slice ag ac.length ah]] w fun e w'=>∃aC:Value,e= .returned (.agg #[.string r1,.int .i64 r2,aC])/\Kd.R k101 101 w' w.heap.size (fun _=>True) aC r3/\Below w.heap.size w w':=by
 have a7:=Tryz.underlying83;have a8:=Tryz.underlying99;have aA:=zz au;have aB:=zz av;clear au av;have HB:=yB w;unfold laws_toProfile.f at H;replace H:=zf H;obtain⟨ar,aD,H⟩:=H;try dsimp only at H
 have A2:=zz aD;clear aD;simp only[Option.some.injEq,Prod.mk.injEq] at H;obtain⟨rfl,rfl,rfl⟩:=H;go_enter Tryz.func55,Tryz.ntmps55;go_wp2_with(first|(refine zX 1 83 #[.string ae,.int .i64 af,.slice ag ac.length ah] ?_;intro aw hg w3 hbox hb;have aa:=zz (hbox);have a4:=zz ((zg:w.heap.size<=aw));replace HB:=zz (zv zb hb);clear hb hbox hg)|(refine zX 2 99 #[.string (⟨#[]⟩:ByteArray),.int .i64 0,.slice none 0 0] ?_;intro ai hg w4 hbox hb;have ab:=zz (hbox);have a5:=zz ((zg:w.heap.size<=ai));replace HB:=zz (zv zb hb);have ak:=zz (zH aa hg);have al:=zz (zI aa hg);replace aa:=zz (zJ aa hb);clear hb hbox hg)|(refine zX 3 99 #[.string (⟨#[]⟩:ByteArray),.int .i64 0,.slice none 0 0] ?_;intro aj hg w5 hbox hb;have ad:=zz (hbox);have a6:=zz ((zg:w.heap.size<=aj));replace HB:=zz (zv zb hb);have am:=zz (zH aa hg);have an:=zz (zI aa hg);replace aa:=zz (zJ aa hb);have ao:=zz (zH ab hg);have ap:=zz (zI ab hg);replace ab:=zz (zJ ab hb);clear hb hbox hg;have a9:=ak.out;have ba:=al.out;have bb:=am.out;have bc:=an.out;obtain⟨aY,aZ,a0,a1,a2,a3⟩:=zc3 aa.out;have bd:=ap.out;have be:=ao.out;obtain⟨aG,aH,aI,aJ,aK,aL⟩:=zc3 ad.out)|(refine zL 84 12 Tryz.func84 #[.slice ag ac.length ah] ?_;(with_reducible refine(laws_toGenS.calls k _ _ ac ar _ ?s1 ?s2 A2.out).mono ?_);(case s1=>exact Kd.qD aA.out zb);(case s2=>exact aB.out);rintro e bg ⟨bf,rfl,aE,hb⟩;refine⟨_,rfl,?_⟩;have ax:=zz (Kd.qU aE (qE zb));replace aa:=zz (qY (g:=aw) (o:= .cells #[.string ae,.int .i64 af,.slice ag ac.length ah] 83 (0,0)) (yP aa.out) hb);replace ab:=zz (qY (g:=ai) (o:= .cells #[.string (⟨#[]⟩:ByteArray),.int .i64 0,.slice none 0 0] 99 (0,0)) (yP ab.out) hb);replace ad:=zz (qY (g:=aj) (o:= .cells #[.string ae,.int .i64 af,.slice none 0 0] 99 (0,0)) (yP ad.out) hb);replace HB:=zz (zv zb hb);(try clear hb);(try clear aE);obtain⟨ay,az,aF⟩:=Kd.qW ax.out;subst aF;obtain⟨aM,aN,aO,aP,aQ,aR⟩:=zc3 ad.out;obtain⟨aS,aT,aU,aV,aW,aX⟩:=zc3 ab.out))
 refine bodyPost_ret (results_cell_row rfl _ _ ai 99 #[.string ae,.int .i64 af,.slice ay ar.length az] (0,0) _ rfl (yP ab.out) Tryz.underlying99 rfl zk) rfl ?_;exact⟨_,ze,yV (Kd.qX (p:=⟨aj,2,none⟩) (Kd.R_types (Kd.R_types ax.out ad.out yd_) ab.out yd_) (fun _ hk=>hk.1.2) (.slice ay ar.length az)),zb⟩
section
attribute [local go_sem] run_store_one
def laws_toProfileS.l0:Nat->List (S83)->List (S99)->Int->Option ((List (S99)))
 |0,_,_,_=>none
 |k+1,x0,x3,x4=>if x4<(x0.length:Int) then(if 0<=x4 then((laws_toProfile.f k ((rd_T83 x0 x4).f0) ((rd_T83 x0 x4).f1) ((rd_T83 x0 x4).f2)).bind fun aa=>(if x4<(x3.length:Int) then(laws_toProfileS.l0 k x0 (x3.set (x4:Int).toNat (⟨aa.1,aa.2.1,aa.2.2⟩:S99)) (wrap64 (x4+1))) else(none))) else(none)) else(some x3)
def laws_toProfileS.f(k:Nat)(l0:List (S83)):Option ((List (S99))):=if 0<=(l0.length:Int) then(if((l0.length:Int):Int).toNat<=5864062014805 then(laws_toProfileS.l0 k l0 (List.replicate ((l0.length:Int):Int).toNat z99) 0) else(none)) else(none)
theorem laws_toProfileS.calls(k:Nat)(A0:Option Addr)(c0:Nat)(l0:List (S83))(r:List (S99))(w:World)(a5:Kd.C k83 w A0 l0.length l0)(a6:l0.length<=c0)(H:laws_toProfileS.f k l0=some r):
 Calls Tryz.prog 24 #[.slice A0 l0.length c0] w fun e w'=>∃a7:Value,e= .returned (a7)/\Kd.S k99 99 w' w.heap.size (fun _=>True) a7 r/\Below w.heap.size w w':=by
 have bB:=Tryz.underlying83;have bC:=Tryz.underlying99;have bj:=zz a5;have bM:=zz a6;clear a5 a6;have HB:=yB w;unfold laws_toProfileS.f at H;replace H:=yA H;obtain⟨c2,H⟩:=H;have ba:=eq_true c2;have bb:=z1 c2;clear c2;replace H:=yA H;obtain⟨c3,H⟩:=H;have bc:=eq_true c3;have bd:=z1 c3;clear c3;obtain⟨aF,au⟩:∃y_:List (S99),y_=(List.replicate ((l0.length:Int):Int).toNat z99):=⟨_,rfl⟩
 replace H:(laws_toProfileS.l0 k l0 aF 0)=some r:=yN0 au H;have aC:=zz au;clear au;have H':=zz H;clear H;go_enter Tryz.func24,Tryz.ntmps24;go_wp2_with(first|(refine zN 7 ?_;refine Kd.S_make k99 _ 99 rfl (N:=7) rfl 35 _ _ rfl (l0.length:Int) rfl rfl Tryz.underlying35 (.agg #[(.string ⟨#[]⟩),(.int .i64 0),(.slice none 0 0)]) 48 info99 rfl yd_ yo_ z99 (ok:=fun _=>True) (okp:=fun _=>True) (k99_mkM _ _ _ z99 (Kd.R_nil _ _ _ _ _)) (fun _ hk=>hk) trivial (z2) (Nat.le_trans (Nat.mul_le_mul_right _ (z2:(l0.length:Int).toNat<=5864062014805)) yo_) (Below.refl _ _) (Nat.le_refl _) ?_;intro be w4 ay hb hg_ hnew_;clear hg_ hnew_;(first|rw[<-aC.out] at ay|(simp only[Int.reduceToNat] at ay;rw[<-aC.out] at ay));have a1:=zz (Kd.S_lower ay (qE zb));replace HB:=zz (zv zb hb);clear hb ay))
 go_loopg[4] k (fun kq v4 w'=>∃(ad:List (S99)) (aa:Int),v4= .int .i64 aa/\qB (laws_toProfileS.l0 kq l0 ad aa=some r)/\qB (kq<=k)/\qB (Kd.S k99 99 w' w.heap.size (fun _=>True) be ad)/\qB (Below w.heap.size w w'))
 case atStart=>exact⟨(aF),(0),zr,H',⟨Nat.le_refl _⟩,⟨zS a1.out⟩,⟨zb⟩⟩
 case round=>
  clear H';try clear c2
  try clear ba
  try clear bb
  try clear c3
  try clear bc
  try clear bd
  obtain⟨ad,aa,rfl,HA,a8,ab,HB⟩:=hrel;cases gk with
  |zero=>exact absurd HA.out (by simp[laws_toProfileS.l0])
  |succ k1=>
   have H:=HA.out;clear HA;simp only[laws_toProfileS.l0] at H;refine yDn H ?_ ?_<;>clear H<;>intro bD H
   ·obtain rfl:=zi H;go_wp2;go_ret;exact⟨_,ze,zS ab.out,zb⟩
   replace H:=yAD H;obtain⟨bE,H⟩:=H;replace H:=zf H;obtain⟨⟨af,ag,av⟩,a9,H⟩:=H;try dsimp only at H
   have A8:=zz a9;clear a9;replace H:=yAD H;obtain⟨bF,H⟩:=H;obtain⟨az,aw⟩:∃y_:List (S99),y_=(ad.set (aa:Int).toNat (⟨af,ag,av⟩:S99)):=⟨_,rfl⟩
   replace H:(laws_toProfileS.l0 k1 l0 az (wrap64 (aa+1)))=some r:=yN0 aw H;have a2:=zz aw;clear aw;have H':=zz H;clear H;have bG:=yt (0<=(aa:Int));have bH:=yt (aa<(l0.length:Int));obtain⟨bz,aG,aH,bf,am,an,ao,ap,ar⟩:=at_T83 bj.out aa z2 z2;cases bf;replace am:=z3 HB.out am;replace an:=z3 HB.out an;replace ao:=z3 HB.out ao;have aD:=zz ar;have aE:=zz ap;clear ar ap;go_wp2_with(first|(refine zL 55 20 Tryz.func55 #[.agg #[.string ((rd_T83 l0 aa).f0),.int .i64 ((rd_T83 l0 aa).f1),.slice aG ((rd_T83 l0 aa).f2).length aH]] ?_;(with_reducible refine(laws_toProfile.calls k1 ((rd_T83 l0 aa).f0) ((rd_T83 l0 aa).f1) _ _ ((rd_T83 l0 aa).f2) af ag av _ ?s1 ?s2 A8.out).mono ?_);(case s1=>exact zc aD.out);(case s2=>exact aE.out);rintro e ae ⟨ax,rfl,aI,hb⟩;refine⟨_,rfl,?_⟩;replace ab:=zz (Kd.S_elder' (zS ab.out) (Kd.R_base aI) hb);have ah:=zz (Kd.qU aI (qE zb));replace HB:=zz (zv zb hb);(try clear hb);(try clear hk);(try clear aI);have aJ:0<=(aa:Int):=z2;have aK:(aa:Int)<((ad.length:Int):Int):=z2;obtain⟨ac,aL,aM,aN,bg,bI,aO⟩:=Kd.S_form ab.out yo_;(first|cases aM|(injection aM with ea_ en_ ec_;(first|subst ea_|(injection ea_ with ea_;subst ea_));subst ec_;clear en_));have aA:=zz aN;have bJ:=zz aO;clear aN bg aO;obtain⟨_,bK,a3,aP,ai,aj,_,_⟩:=Kd.S_elem ab.out z99 (aa:Int) aJ aK;obtain⟨aQ,rfl,bk⟩:=k99_openM aP;have bn:ae.cell? ⟨ac,(aa:Int).toNat*3,none⟩=some (.string ((qF ad aa).f0)):=ai 0 _ rfl;have bo:ae.cell? ⟨ac,(aa:Int).toNat*3+1,none⟩=some (.int .i64 ((qF ad aa).f1)):=ai 1 _ rfl;have bq:ae.cell? ⟨ac,(aa:Int).toNat*3+2,none⟩=some (aQ):=ai 2 _ rfl;have br:ae.frozen? ⟨ac,(aa:Int).toNat*3,none⟩=false:=aj 0;have bs:ae.frozen? ⟨ac,(aa:Int).toNat*3+1,none⟩=false:=aj 1;have bu:ae.frozen? ⟨ac,(aa:Int).toNat*3+2,none⟩=false:=aj 2;clear a3 ai aj aP;replace aJ:=eq_true aJ;replace aK:=eq_true aK;have n_:=zz (Kd.S_mono (ok':=(fun k_=>some k_≠(ax:Value).ownBlock)) ab.out (fun k_ hk=>hk.2));clear ab;have ab:=n_;clear n_;have bh:=zz (show Kd.S k99 99 ae w.heap.size (fun k_=>((fun _=>True)) k_/\¬((fun k_=>some k_=(ax:Value).ownBlock)) k_) (.slice (some ⟨ac,0,none⟩) ad.length aL) ad from(by(with_reducible repeat(first|apply Kd.S_alloc|apply Kd.S_drewN|apply Kd.S_drew));exact Kd.S_mono ab.out (fun k_ hk=>⟨trivial,fun e_=>hk e_⟩)));obtain⟨bA,bL,a4,aR,ak,al,aS,aT⟩:=Kd.S_elem bh.out z99 (aa:Int) (z2) (by have h_:(aa:Int)<((ad.length:Int):Int):=z2;first|exact h_|(have e_:=(Kd.S_reads' ab.out).1;omega)|simpa using h_);obtain⟨bv,rfl,bw⟩:=k99_openM aR;have aB:=Kd.S_seg aT (z2) (by have h_:(aa:Int)<((ad.length:Int):Int):=z2;first|exact h_|(have e_:=(Kd.S_reads' ab.out).1;omega)|simpa using h_) (seg:=[.string af,.int .i64 ag,ax]) (j:=0) (show 3<=3 from by decide) (x':=(⟨af,ag,av⟩:S99)) (k99_mkM _ _ _ (⟨af,ag,av⟩:S99) (Kd.qM (Kd.R_tight rfl (Kd.qM (ok':=fun k_=>((fun _=>True)) k_/\k_≠ac) (Kd.R_apart' (ah.out) (Kd.S_typed ab.out) yd_) (fun k_ hk=>⟨trivial,fun e_=>(hk.2) (by rw[e_];rfl)⟩))) (fun _ h_=>Or.inr (h_)))) (fun _ hk=>hk) (fun k_ hk_=>((Kd.qM (ok':=fun k_=>((fun _=>True)) k_/\k_≠ac) (Kd.R_apart' (ah.out) (Kd.S_typed ab.out) yd_) (fun k_ hk=>⟨trivial,fun e_=>(hk.2) (by rw[e_];rfl)⟩))).1 k_ hk_.symm);have aU:=ak 0 _ rfl;(try simp only[show(k99).sz=3 from rfl,Nat.mul_one,Nat.add_zero] at aU);have aV:=al 0;(try simp only[show(k99).sz=3 from rfl,Nat.mul_one,Nat.add_zero] at aV);have aW:=ak 1 _ rfl;(try simp only[show(k99).sz=3 from rfl,Nat.mul_one,Nat.add_zero] at aW);have aX:=al 1;(try simp only[show(k99).sz=3 from rfl,Nat.mul_one,Nat.add_zero] at aX);have aY:=ak 2 _ rfl;(try simp only[show(k99).sz=3 from rfl,Nat.mul_one,Nat.add_zero] at aY);have aZ:=al 2;(try simp only[show(k99).sz=3 from rfl,Nat.mul_one,Nat.add_zero] at aZ);clear a4 ak al aR aS aT;have bi:=R_one ah.out)|((with_reducible refine qR (t:=99) (p:=21) rfl ?_);refine ye 99 21 (((ae.setCell ⟨ac,(aa:Int).toNat*3,none⟩ (.string af)).setCell ⟨ac,(aa:Int).toNat*3+1,none⟩ (.int .i64 ag)).setCell ⟨ac,(aa:Int).toNat*3+2,none⟩ (ax)) ?_;intro a0 hw;have hg:ae.grownBy a0 (some ac):=(by rw[hw];exact aB.2);have hp_:Kd.S k99 99 a0 w.heap.size (fun _=>True) (.slice (some ⟨ac,0,none⟩) ad.length aL) az:=(by rw[hw,a2.out];exact aB.1);clear aB;replace ab:=zz (hp_);replace HB:=zz ((by rw[hw];exact qJ (qJ (qJ (HB.out) aA.out) aA.out) aA.out:Below w.heap.size w a0));clear ah;clear hg hw hp_))
   go_roundg k1
   case measure=>exact yM1 a8
   case rel=>exact⟨(az),(wrap64 (aa+1)),zr,H',⟨yM1 a8⟩,⟨zS ab.out⟩,⟨zb⟩⟩
end
def laws_toPending.f(k:Nat)(aa:ByteArray)(ab:List (S140))(ac:ByteArray):Option (ByteArray×(List (S63))×ByteArray):=(laws_toEntryS.f k ab).bind fun ad=>(some (aa,ad,ac))
theorem laws_toPending.calls(k:Nat)(ae:ByteArray)(ah:Option Addr)(ai:Nat)(ac:List (S140))(af:ByteArray)(r1:ByteArray)(r2:List (S63))(r3:ByteArray)(w:World)(au:Kd.C k140 w ah ac.length ac)(av:ac.length<=ai)(H:laws_toPending.f k ae ac af=some (r1,r2,r3)):
 Calls Tryz.prog 56 #[.agg #[.string ae,.slice ah ac.length ai,.string af]] w fun e w'=>∃aC:Value,e= .returned (.agg #[.string r1,aC,.string r3])/\Kd.R k63 63 w' w.heap.size (fun _=>True) aC r2/\Below w.heap.size w w':=by
 have bd:=Tryz.underlying86;have be:=Tryz.underlying94;have aA:=zz au;have aB:=zz av;clear au av;have HB:=yB w;unfold laws_toPending.f at H;replace H:=zf H;obtain⟨ar,aD,H⟩:=H;try dsimp only at H
 have A2:=zz aD;clear aD;simp only[Option.some.injEq,Prod.mk.injEq] at H;obtain⟨rfl,rfl,rfl⟩:=H;go_enter Tryz.func56,Tryz.ntmps56;go_wp2_with(first|(refine zX 1 86 #[.string ae,.slice ah ac.length ai,.string af] ?_;intro aw hg w3 hbox hb;have aa:=zz (hbox);have ba:=zz ((zg:w.heap.size<=aw));replace HB:=zz (zv zb hb);clear hb hbox hg)|(refine zX 2 94 #[.string (⟨#[]⟩:ByteArray),.slice none 0 0,.string (⟨#[]⟩:ByteArray)] ?_;intro aj hg w4 hbox hb;have ab:=zz (hbox);have bb:=zz ((zg:w.heap.size<=aj));replace HB:=zz (zv zb hb);have ak:=zz (zH aa hg);have al:=zz (zI aa hg);replace aa:=zz (zJ aa hb);clear hb hbox hg)|(refine zX 3 94 #[.string (⟨#[]⟩:ByteArray),.slice none 0 0,.string (⟨#[]⟩:ByteArray)] ?_;intro ag hg w5 hbox hb;have ad:=zz (hbox);have bc:=zz ((zg:w.heap.size<=ag));replace HB:=zz (zv zb hb);have am:=zz (zH aa hg);have an:=zz (zI aa hg);replace aa:=zz (zJ aa hb);have ao:=zz (zH ab hg);have ap:=zz (zI ab hg);replace ab:=zz (zJ ab hb);clear hb hbox hg;have bf:=ak.out;have bg:=al.out;have bh:=am.out;have bi:=an.out;obtain⟨a4,a5,a6,a7,a8,a9⟩:=zc3 aa.out;have bj:=ap.out;have bk:=ao.out;obtain⟨aG,aH,aI,aJ,aK,aL⟩:=zc3 ad.out)|(refine zL 83 9 Tryz.func83 #[.slice ah ac.length ai] ?_;(with_reducible refine(laws_toEntryS.calls k _ _ ac ar _ ?s1 ?s2 A2.out).mono ?_);(case s1=>exact Kd.qD aA.out zb);(case s2=>exact aB.out);rintro e bo ⟨bn,rfl,aE,hb⟩;refine⟨_,rfl,?_⟩;have ax:=zz (Kd.qU aE (qE zb));replace aa:=zz (qY (g:=aw) (o:= .cells #[.string ae,.slice ah ac.length ai,.string af] 86 (0,0)) (yP aa.out) hb);replace ab:=zz (qY (g:=aj) (o:= .cells #[.string (⟨#[]⟩:ByteArray),.slice none 0 0,.string (⟨#[]⟩:ByteArray)] 94 (0,0)) (yP ab.out) hb);replace ad:=zz (qY (g:=ag) (o:= .cells #[.string ae,.slice none 0 0,.string (⟨#[]⟩:ByteArray)] 94 (0,0)) (yP ad.out) hb);replace HB:=zz (zv zb hb);(try clear hb);(try clear aE);obtain⟨ay,az,aF⟩:=Kd.qW ax.out;subst aF;obtain⟨aM,aN,aO,aP,aQ,aR⟩:=zc3 ad.out;obtain⟨aS,aT,aU,aV,aW,aX⟩:=zc3 aa.out;obtain⟨aY,aZ,a0,a1,a2,a3⟩:=zc3 ab.out))
 refine bodyPost_ret (results_cell_row rfl _ _ aj 94 #[.string ae,.slice ay ar.length az,.string af] (0,0) _ rfl (yP ab.out) Tryz.underlying94 rfl zk) rfl ?_;exact⟨_,ze,yV (Kd.qX (p:=⟨ag,2,none⟩) (Kd.qX (p:=⟨ag,1,none⟩) (Kd.R_types (Kd.R_types ax.out ad.out yd_) ab.out yd_) (fun _ hk=>hk.1.2) (.slice ay ar.length az)) (fun _ hk=>hk.1.2) (.string af)),zb⟩
end Go.Proofs.YtgccknmddhbdgaaGreatDoor.Q
