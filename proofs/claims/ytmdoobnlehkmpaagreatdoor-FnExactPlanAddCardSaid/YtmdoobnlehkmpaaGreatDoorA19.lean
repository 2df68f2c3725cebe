import Derived.Test.YtmdoobnlehkmpaaGreatDoorA02
set_option linter.unusedVariables false
set_option linter.unusedSimpArgs false
namespace Go.Proofs.YtmdoobnlehkmpaaGreatDoor.Q
open Go.RowKit W1 W2 W3
attribute [local go_sem] max2_int min2_int max_two min_two max_three min_three max_four min_four
attribute [local go_sem high] bl_leq bl_gtr bl_geq
set_option maxHeartbeats 8000000
set_option maxRecDepth 100000
def laws_szStringS.l0:Nat→List ByteArray→Int→Int→Option (Int)
 |0,_,_,_=>none
 |k+1,x0,x1,x5=>if x5<(x0.length:Int) then(if 0≤x5 then(if(wrap64 (x1 - ((rdOf ByteArray.empty x0 x5).size:Int)))<0 then(some (-1)) else(laws_szStringS.l0 k x0 (wrap64 (x1 - ((rdOf ByteArray.empty x0 x5).size:Int))) (wrap64 (x5+1)))) else(none)) else(some x1)
def laws_szStringS.f(k:Nat)(l0:List ByteArray)(a1:Int):Option (Int):=if(wrap64 (a1 - (l0.length:Int)))<0 then(some (-1)) else(laws_szStringS.l0 k l0 (wrap64 (a1 - (l0.length:Int))) 0)
theorem laws_szStringS.calls(k:Nat)(A0:Option Addr)(c0:Nat)(l0:List ByteArray)(a1:Int)(r:Int)(w:World)(ah:Kd.C Kd.string w A0 l0.length l0)(ai:l0.length≤c0)(h:laws_szStringS.f k l0 a1=some r):
 Calls Tryz.prog 144 #[.slice A0 l0.length c0,.int .i64 a1] w fun e w'=>e= .returned (.int .i64 r)∧Below w.heap.size w w':=by
 have ak:=zz ah
 have au:=zz ai
 clear ah ai
 have HB:=yB w
 unfold laws_szStringS.f at h
 have H:=h
 clear h
 replace HB:=HB.out
 have HW:=yB w
 go_enter Tryz.func144,Tryz.ntmps144
 refine yD H ?_ ?_<;>clear H<;>intro an H
 ·obtain rfl:=zi H
  exact yR
 go_wp2_with(fail)
 go_loopg[1,5] k (fun kq v1 v5 w'=>∃(ab:Int) (aa:Int),v1= .int .i64 ab∧v5= .int .i64 aa∧qC (laws_szStringS.l0 kq l0 ab aa=some r)∧qC (kq≤k)∧qC (Below w.heap.size w w'))
 case atStart=>exact⟨(wrap64 (a1 - (l0.length:Int))),(0),zr,zr,⟨H⟩,⟨Nat.le_refl _⟩,⟨HB⟩⟩
 case round=>
  clear H HB
  obtain⟨ab,aa,rfl,rfl,H,af,HB⟩:=hrel
  replace HB:=HB.out
  replace H:=H.out
  have ag:=yB w
  cases gk with
  |zero=>exact absurd H (by simp[laws_szStringS.l0])
  |succ al=>
   simp only[laws_szStringS.l0] at H
   refine yDn H ?_ ?_<;>clear H<;>intro ao H
   ·obtain rfl:=zi H
    exact yR
   replace H:=yAD H
   obtain⟨ap,H⟩:=H
   have ad:0≤(aa:Int):=z2
   have ae:(aa:Int)<(l0.length:Int):=z2
   obtain⟨am,aj,ac⟩:=Kd.vA ak.out aa ad ae
   cases aj
   replace ac:=qH ac
   replace ad:=eq_true ad
   replace ae:=eq_true ae
   refine yD H ?_ ?_<;>clear H<;>intro ar H
   ·obtain rfl:=zi H
    exact yR
   go_wp2_with(fail)
   go_roundg al
   case measure=>have:=af.out;omega
   case rel=>exact⟨(wrap64 (ab - ((rdOf ByteArray.empty l0 aa).size:Int))),(wrap64 (aa+1)),zr,zr,⟨H⟩,⟨by have:=af.out;omega⟩,⟨zv ag.out HB⟩⟩
def laws_szEntry.f(aa:ByteArray)(ac:Int)(ab:ByteArray)(ad:Bool)(a1:Int):Option (Int):=if(wrap64 (a1 - (aa.size:Int)))<0 then(some (-1)) else(if(wrap64 ((wrap64 (a1 - (aa.size:Int))) - (ab.size:Int)))<0 then(some (-1)) else(some (wrap64 ((wrap64 (a1 - (aa.size:Int))) - (ab.size:Int)))))
theorem laws_szEntry.calls(aa:ByteArray)(ab:Int)(ac:ByteArray)(ad:Bool)(a1:Int)(r:Int)(w:World)(h:laws_szEntry.f aa ab ac ad a1=some r):
 Calls Tryz.prog 44 #[.agg #[.string aa,.int .i64 ab,.string ac,.bool ad],.int .i64 a1] w fun e w'=>e= .returned (.int .i64 r)∧Below w.heap.size w w':=by
 have aj:=Tryz.underlying80
 have HB:=yB w
 unfold laws_szEntry.f at h
 have H:=h
 clear h
 replace HB:=HB.out
 have HW:=yB w
 go_enter Tryz.func44,Tryz.ntmps44
 refine yD H ?_ ?_<;>clear H<;>intro ak H
 ·obtain rfl:=zi H
  go_wp2_with(first|(refine zN 2 ?_;(try(refine z4 ?_;dsimp only));refine zX 2 80 #[.string aa,.int .i64 ab,.string ac,.bool ad] ?_;intro ai hg w4 hbox hb;have hst:=zv HB hb;clear hg hb HB;replace HW:=zz (zv HW.out hst);obtain⟨ae,af,ag,ah⟩:=zx4 hbox;have HB:=Below.refl w4.heap.size w4;clear hbox hst))
  go_ret
  exact⟨ze,zv HW.out HB⟩
 refine yD H ?_ ?_<;>clear H<;>intro al H
 ·obtain rfl:=zi H
  go_wp2_with(first|(refine zN 2 ?_;(try(refine z4 ?_;dsimp only));refine zX 2 80 #[.string aa,.int .i64 ab,.string ac,.bool ad] ?_;intro ai hg w6 hbox hb;have hst:=zv HB hb;clear hg hb HB;replace HW:=zz (zv HW.out hst);obtain⟨ae,af,ag,ah⟩:=zx4 hbox;have HB:=Below.refl w6.heap.size w6;clear hbox hst))
  go_ret
  exact⟨ze,zv HW.out HB⟩
 obtain rfl:=zi H
 go_wp2_with(first|(refine zN 2 ?_;(try(refine z4 ?_;dsimp only));refine zX 2 80 #[.string aa,.int .i64 ab,.string ac,.bool ad] ?_;intro ai hg w7 hbox hb;have hst:=zv HB hb;clear hg hb HB;replace HW:=zz (zv HW.out hst);obtain⟨ae,af,ag,ah⟩:=zx4 hbox;have HB:=Below.refl w7.heap.size w7;clear hbox hst))
 go_ret
 exact⟨ze,zv HW.out HB⟩
def laws_szEntryS.l0:Nat→List (S80)→Int→Int→Option (Int)
 |0,_,_,_=>none
 |k+1,x0,x1,x5=>if x5<(x0.length:Int) then(if 0≤x5 then((laws_szEntry.f ((rd_T80 x0 x5).f0) ((rd_T80 x0 x5).f1) ((rd_T80 x0 x5).f2) ((rd_T80 x0 x5).f3) x1).bind fun aa=>(if aa<0 then(some (-1)) else(laws_szEntryS.l0 k x0 aa (wrap64 (x5+1))))) else(none)) else(some x1)
def laws_szEntryS.f(k:Nat)(l0:List (S80))(a1:Int):Option (Int):=if(wrap64 (a1 - (l0.length:Int)))<0 then(some (-1)) else(laws_szEntryS.l0 k l0 (wrap64 (a1 - (l0.length:Int))) 0)
theorem laws_szEntryS.calls(k:Nat)(A0:Option Addr)(c0:Nat)(l0:List (S80))(a1:Int)(r:Int)(w:World)(ai:Kd.C k80 w A0 l0.length l0)(aj:l0.length≤c0)(h:laws_szEntryS.f k l0 a1=some r):
 Calls Tryz.prog 9 #[.slice A0 l0.length c0,.int .i64 a1] w fun e w'=>e= .returned (.int .i64 r)∧Below w.heap.size w w':=by
 have ap:=Tryz.underlying80
 have am:=zz ai
 have az:=zz aj
 clear ai aj
 have HB:=yB w
 unfold laws_szEntryS.f at h
 have H:=h
 clear h
 replace HB:=HB.out
 have HW:=yB w
 go_enter Tryz.func9,Tryz.ntmps9
 refine yD H ?_ ?_<;>clear H<;>intro ar H
 ·obtain rfl:=zi H
  exact yR
 go_wp2_with(fail)
 go_loopg[1,5] k (fun kq v1 v5 w'=>∃(ab:Int) (aa:Int),v1= .int .i64 ab∧v5= .int .i64 aa∧qC (laws_szEntryS.l0 kq l0 ab aa=some r)∧qC (kq≤k)∧qC (Below w.heap.size w w'))
 case atStart=>exact⟨(wrap64 (a1 - (l0.length:Int))),(0),zr,zr,⟨H⟩,⟨Nat.le_refl _⟩,⟨HB⟩⟩
 case round=>
  clear H HB
  obtain⟨ab,aa,rfl,rfl,H,ag,HB⟩:=hrel
  replace HB:=HB.out
  replace H:=H.out
  have ah:=yB w
  cases gk with
  |zero=>exact absurd H (by simp[laws_szEntryS.l0])
  |succ an=>
   simp only[laws_szEntryS.l0] at H
   refine yDn H ?_ ?_<;>clear H<;>intro au H
   ·obtain rfl:=zi H
    exact yR
   replace H:=yAD H
   obtain⟨av,H⟩:=H
   have aw:=yt (0≤(aa:Int))
   have ax:=yt ((aa:Int)<(l0.length:Int))
   obtain⟨ao,ak,ac,ad,ae,af⟩:=at_T80 am.out aa z2 z2
   cases ak
   replace ac:=qH ac
   replace ad:=qH ad
   replace ae:=qH ae
   replace af:=qH af
   replace H:=yf H
   obtain⟨al,A7,H⟩:=H
   refine yD H ?_ ?_<;>clear H<;>intro ay H
   ·go_wp2_with(fail)
    refine(laws_szEntry.calls _ _ _ _ _ _ _ A7.out).mono ?_
    rintro e aA ⟨rfl,hb⟩
    replace HB:=zv HB hb
    clear hb
    obtain rfl:=zi H
    exact yR
   go_wp2_with(fail)
   refine(laws_szEntry.calls _ _ _ _ _ _ _ A7.out).mono ?_
   rintro e aB ⟨rfl,hb⟩
   replace HB:=zv HB hb
   clear hb
   go_wp2_with(fail)
   go_roundg an
   case measure=>have:=ag.out;omega
   case rel=>exact⟨(al),(wrap64 (aa+1)),zr,zr,⟨H⟩,⟨by have:=ag.out;omega⟩,⟨zv ah.out HB⟩⟩
def laws_szItem.f(k:Nat)(aa:ByteArray)(ac:ByteArray)(af:List ByteArray)(ad:ByteArray)(ag:List (S80))(a1:Int):Option (Int):=if(wrap64 (a1 - (aa.size:Int)))<0 then(some (-1)) else(if(wrap64 ((wrap64 (a1 - (aa.size:Int))) - (ac.size:Int)))<0 then(some (-1)) else((laws_szStringS.f k af (wrap64 ((wrap64 (a1 - (aa.size:Int))) - (ac.size:Int)))).bind fun ab=>(if ab<0 then(some (-1)) else(if(wrap64 (ab - (ad.size:Int)))<0 then(some (-1)) else((laws_szEntryS.f k ag (wrap64 (ab - (ad.size:Int)))).bind fun ae=>(if ae<0 then(some (-1)) else(some ae)))))))
theorem laws_szItem.calls(k:Nat)(ae:ByteArray)(af:ByteArray)(ag:Option Addr)(ah:Nat)(ac:List ByteArray)(ai:ByteArray)(aj:Option Addr)(ak:Nat)(ad:List (S80))(a1:Int)(r:Int)(w:World)(ar:Kd.C Kd.string w ag ac.length ac)(au:ac.length≤ah)(av:Kd.C k80 w aj ad.length ad)(aw:ad.length≤ak)(h:laws_szItem.f k ae af ac ai ad a1=some r):
 Calls Tryz.prog 85 #[.agg #[.string ae,.string af,.slice ag ac.length ah,.string ai,.slice aj ad.length ak],.int .i64 a1] w fun e w'=>e= .returned (.int .i64 r)∧Below w.heap.size w w':=by
 have aC:=Tryz.underlying119
 have ab:=zz ar
 have az:=zz au
 clear ar au
 have aa:=zz av
 have ax:=zz aw
 clear av aw
 have HB:=yB w
 unfold laws_szItem.f at h
 have H:=h
 clear h
 replace HB:=HB.out
 have HW:=yB w
 go_enter Tryz.func85,Tryz.ntmps85
 refine yD H ?_ ?_<;>clear H<;>intro aF H
 ·obtain rfl:=zi H
  go_wp2_with(first|(refine zN 2 ?_;(try(refine z4 ?_;dsimp only));refine zX 2 119 #[.string ae,.string af,.slice ag ac.length ah,.string ai,.slice aj ad.length ak] ?_;intro ay hg w4 hbox hb;have hst:=zv HB hb;clear hg hb HB;replace HW:=zz (zv HW.out hst);replace ab:=zz (Kd.qB ab.out hst);replace aa:=zz (Kd.qB aa.out hst);obtain⟨al,am,an,ao,ap⟩:=zx5 hbox;have HB:=Below.refl w4.heap.size w4;clear hbox hst))
  go_ret
  exact⟨ze,zv HW.out HB⟩
 refine yD H ?_ ?_<;>clear H<;>intro aG H
 ·obtain rfl:=zi H
  go_wp2_with(first|(refine zN 2 ?_;(try(refine z4 ?_;dsimp only));refine zX 2 119 #[.string ae,.string af,.slice ag ac.length ah,.string ai,.slice aj ad.length ak] ?_;intro ay hg w6 hbox hb;have hst:=zv HB hb;clear hg hb HB;replace HW:=zz (zv HW.out hst);replace ab:=zz (Kd.qB ab.out hst);replace aa:=zz (Kd.qB aa.out hst);obtain⟨al,am,an,ao,ap⟩:=zx5 hbox;have HB:=Below.refl w6.heap.size w6;clear hbox hst))
  go_ret
  exact⟨ze,zv HW.out HB⟩
 replace H:=yf H
 obtain⟨aH,A7,H⟩:=H
 go_wp2_with(first|(refine zN 2 ?_;(try(refine z4 ?_;dsimp only));refine zX 2 119 #[.string ae,.string af,.slice ag ac.length ah,.string ai,.slice aj ad.length ak] ?_;intro ay hg aA hbox hb;have hst:=zv HB hb;clear hg hb HB;replace HW:=zz (zv HW.out hst);replace ab:=zz (Kd.qB ab.out hst);replace aa:=zz (Kd.qB aa.out hst);obtain⟨al,am,an,ao,ap⟩:=zx5 hbox;have HB:=Below.refl aA.heap.size aA;clear hbox hst))
 refine(laws_szStringS.calls k _ _ _ _ _ _ (Kd.qB ab.out HB) az.out A7.out).mono ?_
 rintro e aK ⟨rfl,hb⟩
 replace HB:=zv HB hb
 clear hb
 refine yD H ?_ ?_<;>clear H<;>intro aI H
 ·obtain rfl:=zi H
  exact yR
 refine yD H ?_ ?_<;>clear H<;>intro aD H
 ·obtain rfl:=zi H
  exact yR
 replace H:=yf H
 obtain⟨aJ,aB,H⟩:=H
 refine yD H ?_ ?_<;>clear H<;>intro aE H
 ·go_wp2_with(fail)
  refine(laws_szEntryS.calls k _ _ _ _ _ _ (Kd.qB aa.out HB) ax.out aB.out).mono ?_
  rintro e aL ⟨rfl,hb⟩
  replace HB:=zv HB hb
  clear hb
  obtain rfl:=zi H
  exact yR
 go_wp2_with(fail)
 refine(laws_szEntryS.calls k _ _ _ _ _ _ (Kd.qB aa.out HB) ax.out aB.out).mono ?_
 rintro e aM ⟨rfl,hb⟩
 replace HB:=zv HB hb
 clear hb
 obtain rfl:=zi H
 exact yR
def laws_szItemS.l0:Nat→List (S119)→Int→Int→Option (Int)
 |0,_,_,_=>none
 |k+1,x0,x1,x5=>if x5<(x0.length:Int) then(if 0≤x5 then((laws_szItem.f k ((rd_T119 x0 x5).f0) ((rd_T119 x0 x5).f1) ((rd_T119 x0 x5).f2) ((rd_T119 x0 x5).f3) ((rd_T119 x0 x5).f4) x1).bind fun aa=>(if aa<0 then(some (-1)) else(laws_szItemS.l0 k x0 aa (wrap64 (x5+1))))) else(none)) else(some x1)
def laws_szItemS.f(k:Nat)(l0:List (S119))(a1:Int):Option (Int):=if(wrap64 (a1 - (l0.length:Int)))<0 then(some (-1)) else(laws_szItemS.l0 k l0 (wrap64 (a1 - (l0.length:Int))) 0)
theorem laws_szItemS.calls(k:Nat)(A0:Option Addr)(c0:Nat)(l0:List (S119))(a1:Int)(r:Int)(w:World)(av:Kd.C k119 w A0 l0.length l0)(aw:l0.length≤c0)(h:laws_szItemS.f k l0 a1=some r):
 Calls Tryz.prog 40 #[.slice A0 l0.length c0,.int .i64 a1] w fun e w'=>e= .returned (.int .i64 r)∧Below w.heap.size w w':=by
 have aE:=Tryz.underlying119
 have az:=zz av
 have aM:=zz aw
 clear av aw
 have HB:=yB w
 unfold laws_szItemS.f at h
 have H:=h
 clear h
 replace HB:=HB.out
 have HW:=yB w
 go_enter Tryz.func40,Tryz.ntmps40
 refine yD H ?_ ?_<;>clear H<;>intro aG H
 ·obtain rfl:=zi H
  exact yR
 go_wp2_with(fail)
 go_loopg[1,5] k (fun kq v1 v5 w'=>∃(ab:Int) (aa:Int),v1= .int .i64 ab∧v5= .int .i64 aa∧qC (laws_szItemS.l0 kq l0 ab aa=some r)∧qC (kq≤k)∧qC (Below w.heap.size w w'))
 case atStart=>exact⟨(wrap64 (a1 - (l0.length:Int))),(0),zr,zr,⟨H⟩,⟨Nat.le_refl _⟩,⟨HB⟩⟩
 case round=>
  clear H HB
  obtain⟨ab,aa,rfl,rfl,H,ap,HB⟩:=hrel
  replace HB:=HB.out
  replace H:=H.out
  have au:=yB w
  cases gk with
  |zero=>exact absurd H (by simp[laws_szItemS.l0])
  |succ ar=>
   simp only[laws_szItemS.l0] at H
   refine yDn H ?_ ?_<;>clear H<;>intro aH H
   ·obtain rfl:=zi H
    exact yR
   replace H:=yAD H
   obtain⟨aI,H⟩:=H
   have aJ:=yt (0≤(aa:Int))
   have aK:=yt ((aa:Int)<(l0.length:Int))
   obtain⟨aF,aA,aB,aC,aD,ax,ac,ad,ae,af,ag,ah,ai,aj,ak⟩:=at_T119 az.out aa z2 z2
   cases ax
   replace ac:=qH ac
   replace ad:=qH ad
   replace ae:=qH ae
   replace af:=qH af
   replace ag:=qH ag
   have al:=zz ai
   have am:=zz ah
   clear ai ah
   have an:=zz ak
   have ao:=zz aj
   clear ak aj
   replace H:=yf H
   obtain⟨ay,A7,H⟩:=H
   refine yD H ?_ ?_<;>clear H<;>intro aL H
   ·go_wp2_with(fail)
    refine(laws_szItem.calls ar _ _ _ _ _ _ _ _ _ _ _ _ (Kd.qB al.out HB) am.out (Kd.qB an.out HB) ao.out A7.out).mono ?_
    rintro e aN ⟨rfl,hb⟩
    replace HB:=zv HB hb
    clear hb
    obtain rfl:=zi H
    exact yR
   go_wp2_with(fail)
   refine(laws_szItem.calls ar _ _ _ _ _ _ _ _ _ _ _ _ (Kd.qB al.out HB) am.out (Kd.qB an.out HB) ao.out A7.out).mono ?_
   rintro e aO ⟨rfl,hb⟩
   replace HB:=zv HB hb
   clear hb
   go_wp2_with(fail)
   go_roundg ar
   case measure=>have:=ap.out;omega
   case rel=>exact⟨(ay),(wrap64 (aa+1)),zr,zr,⟨H⟩,⟨by have:=ap.out;omega⟩,⟨zv au.out HB⟩⟩
def laws_szGen.f(ab:Int)(aa:ByteArray)(a1:Int):Option (Int):=if(wrap64 (a1 - (aa.size:Int)))<0 then(some (-1)) else(some (wrap64 (a1 - (aa.size:Int))))
theorem laws_szGen.calls(aa:Int)(ab:ByteArray)(a1:Int)(r:Int)(w:World)(h:laws_szGen.f aa ab a1=some r):
 Calls Tryz.prog 178 #[.agg #[.int .i64 aa,.string ab],.int .i64 a1] w fun e w'=>e= .returned (.int .i64 r)∧Below w.heap.size w w':=by
 have af:=Tryz.underlying206
 have HB:=yB w
 unfold laws_szGen.f at h
 have H:=h
 clear h
 replace HB:=HB.out
 have HW:=yB w
 go_enter Tryz.func178,Tryz.ntmps178
 refine yD H ?_ ?_<;>clear H<;>intro ag H
 ·obtain rfl:=zi H
  go_wp2_with(first|(refine zN 2 ?_;(try(refine z4 ?_;dsimp only));refine zX 2 206 #[.int .i64 aa,.string ab] ?_;intro ae hg w4 hbox hb;have hst:=zv HB hb;clear hg hb HB;replace HW:=zz (zv HW.out hst);obtain⟨ac,ad⟩:=zx2 hbox;have HB:=Below.refl w4.heap.size w4;clear hbox hst))
  go_ret
  exact⟨ze,zv HW.out HB⟩
 obtain rfl:=zi H
 go_wp2_with(first|(refine zN 2 ?_;(try(refine z4 ?_;dsimp only));refine zX 2 206 #[.int .i64 aa,.string ab] ?_;intro ae hg w5 hbox hb;have hst:=zv HB hb;clear hg hb HB;replace HW:=zz (zv HW.out hst);obtain⟨ac,ad⟩:=zx2 hbox;have HB:=Below.refl w5.heap.size w5;clear hbox hst))
 go_ret
 exact⟨ze,zv HW.out HB⟩
def laws_szGenS.l0:Nat→List (S206)→Int→Int→Option (Int)
 |0,_,_,_=>none
 |k+1,x0,x1,x5=>if x5<(x0.length:Int) then(if 0≤x5 then((laws_szGen.f ((rd_T206 x0 x5).f0) ((rd_T206 x0 x5).f1) x1).bind fun aa=>(if aa<0 then(some (-1)) else(laws_szGenS.l0 k x0 aa (wrap64 (x5+1))))) else(none)) else(some x1)
def laws_szGenS.f(k:Nat)(l0:List (S206))(a1:Int):Option (Int):=if(wrap64 (a1 - (l0.length:Int)))<0 then(some (-1)) else(laws_szGenS.l0 k l0 (wrap64 (a1 - (l0.length:Int))) 0)
theorem laws_szGenS.calls(k:Nat)(A0:Option Addr)(c0:Nat)(l0:List (S206))(a1:Int)(r:Int)(w:World)(ag:Kd.C k206 w A0 l0.length l0)(ah:l0.length≤c0)(h:laws_szGenS.f k l0 a1=some r):
 Calls Tryz.prog 145 #[.slice A0 l0.length c0,.int .i64 a1] w fun e w'=>e= .returned (.int .i64 r)∧Below w.heap.size w w':=by
 have am:=Tryz.underlying206
 have ak:=zz ag
 have ax:=zz ah
 clear ag ah
 have HB:=yB w
 unfold laws_szGenS.f at h
 have H:=h
 clear h
 replace HB:=HB.out
 have HW:=yB w
 go_enter Tryz.func145,Tryz.ntmps145
 refine yD H ?_ ?_<;>clear H<;>intro ao H
 ·obtain rfl:=zi H
  exact yR
 go_wp2_with(fail)
 go_loopg[1,5] k (fun kq v1 v5 w'=>∃(ab:Int) (aa:Int),v1= .int .i64 ab∧v5= .int .i64 aa∧qC (laws_szGenS.l0 kq l0 ab aa=some r)∧qC (kq≤k)∧qC (Below w.heap.size w w'))
 case atStart=>exact⟨(wrap64 (a1 - (l0.length:Int))),(0),zr,zr,⟨H⟩,⟨Nat.le_refl _⟩,⟨HB⟩⟩
 case round=>
  clear H HB
  obtain⟨ab,aa,rfl,rfl,H,ae,HB⟩:=hrel
  replace HB:=HB.out
  replace H:=H.out
  have af:=yB w
  cases gk with
  |zero=>exact absurd H (by simp[laws_szGenS.l0])
  |succ al=>
   simp only[laws_szGenS.l0] at H
   refine yDn H ?_ ?_<;>clear H<;>intro ap H
   ·obtain rfl:=zi H
    exact yR
   replace H:=yAD H
   obtain⟨ar,H⟩:=H
   have au:=yt (0≤(aa:Int))
   have av:=yt ((aa:Int)<(l0.length:Int))
   obtain⟨an,ai,ac,ad⟩:=at_T206 ak.out aa z2 z2
   cases ai
   replace ac:=qH ac
   replace ad:=qH ad
   replace H:=yf H
   obtain⟨aj,A7,H⟩:=H
   refine yD H ?_ ?_<;>clear H<;>intro aw H
   ·go_wp2_with(fail)
    refine(laws_szGen.calls _ _ _ _ _ A7.out).mono ?_
    rintro e ay ⟨rfl,hb⟩
    replace HB:=zv HB hb
    clear hb
    obtain rfl:=zi H
    exact yR
   go_wp2_with(fail)
   refine(laws_szGen.calls _ _ _ _ _ A7.out).mono ?_
   rintro e az ⟨rfl,hb⟩
   replace HB:=zv HB hb
   clear hb
   go_wp2_with(fail)
   go_roundg al
   case measure=>have:=ae.out;omega
   case rel=>exact⟨(aj),(wrap64 (aa+1)),zr,zr,⟨H⟩,⟨by have:=ae.out;omega⟩,⟨zv af.out HB⟩⟩
def laws_szProfile.f(k:Nat)(aa:ByteArray)(ad:Int)(ac:List (S206))(a1:Int):Option (Int):=if(wrap64 (a1 - (aa.size:Int)))<0 then(some (-1)) else((laws_szGenS.f k ac (wrap64 (a1 - (aa.size:Int)))).bind fun ab=>(if ab<0 then(some (-1)) else(some ab)))
theorem laws_szProfile.calls(k:Nat)(ac:ByteArray)(ad:Int)(ae:Option Addr)(af:Nat)(aa:List (S206))(a1:Int)(r:Int)(w:World)(aj:Kd.C k206 w ae aa.length aa)(ak:aa.length≤af)(h:laws_szProfile.f k ac ad aa a1=some r):
 Calls Tryz.prog 86 #[.agg #[.string ac,.int .i64 ad,.slice ae aa.length af],.int .i64 a1] w fun e w'=>e= .returned (.int .i64 r)∧Below w.heap.size w w':=by
 have an:=Tryz.underlying123
 have ab:=zz aj
 have al:=zz ak
 clear aj ak
 have HB:=yB w
 unfold laws_szProfile.f at h
 have H:=h
 clear h
 replace HB:=HB.out
 have HW:=yB w
 go_enter Tryz.func86,Tryz.ntmps86
 refine yD H ?_ ?_<;>clear H<;>intro ao H
 ·obtain rfl:=zi H
  go_wp2_with(first|(refine zN 2 ?_;(try(refine z4 ?_;dsimp only));refine zX 2 123 #[.string ac,.int .i64 ad,.slice ae aa.length af] ?_;intro am hg w4 hbox hb;have hst:=zv HB hb;clear hg hb HB;replace HW:=zz (zv HW.out hst);replace ab:=zz (Kd.qB ab.out hst);obtain⟨ag,ah,ai⟩:=zx3 hbox;have HB:=Below.refl w4.heap.size w4;clear hbox hst))
  go_ret
  exact⟨ze,zv HW.out HB⟩
 replace H:=yf H
 obtain⟨ap,A5,H⟩:=H
 go_wp2_with(first|(refine zN 2 ?_;(try(refine z4 ?_;dsimp only));refine zX 2 123 #[.string ac,.int .i64 ad,.slice ae aa.length af] ?_;intro am hg w8 hbox hb;have hst:=zv HB hb;clear hg hb HB;replace HW:=zz (zv HW.out hst);replace ab:=zz (Kd.qB ab.out hst);obtain⟨ag,ah,ai⟩:=zx3 hbox;have HB:=Below.refl w8.heap.size w8;clear hbox hst))
 refine(laws_szGenS.calls k _ _ _ _ _ _ (Kd.qB ab.out HB) al.out A5.out).mono ?_
 rintro e w9 ⟨rfl,hb⟩
 replace HB:=zv HB hb
 clear hb
 refine yD H ?_ ?_<;>clear H<;>intro ar H
 ·obtain rfl:=zi H
  exact yR
 obtain rfl:=zi H
 exact yR
def laws_szProfileS.l0:Nat→List (S123)→Int→Int→Option (Int)
 |0,_,_,_=>none
 |k+1,x0,x1,x5=>if x5<(x0.length:Int) then(if 0≤x5 then((laws_szProfile.f k ((rd_T123 x0 x5).f0) ((rd_T123 x0 x5).f1) ((rd_T123 x0 x5).f2) x1).bind fun aa=>(if aa<0 then(some (-1)) else(laws_szProfileS.l0 k x0 aa (wrap64 (x5+1))))) else(none)) else(some x1)
def laws_szProfileS.f(k:Nat)(l0:List (S123))(a1:Int):Option (Int):=if(wrap64 (a1 - (l0.length:Int)))<0 then(some (-1)) else(laws_szProfileS.l0 k l0 (wrap64 (a1 - (l0.length:Int))) 0)
theorem laws_szProfileS.calls(k:Nat)(A0:Option Addr)(c0:Nat)(l0:List (S123))(a1:Int)(r:Int)(w:World)(am:Kd.C k123 w A0 l0.length l0)(an:l0.length≤c0)(h:laws_szProfileS.f k l0 a1=some r):
 Calls Tryz.prog 41 #[.slice A0 l0.length c0,.int .i64 a1] w fun e w'=>e= .returned (.int .i64 r)∧Below w.heap.size w w':=by
 have aw:=Tryz.underlying123
 have ar:=zz am
 have aE:=zz an
 clear am an
 have HB:=yB w
 unfold laws_szProfileS.f at h
 have H:=h
 clear h
 replace HB:=HB.out
 have HW:=yB w
 go_enter Tryz.func41,Tryz.ntmps41
 refine yD H ?_ ?_<;>clear H<;>intro ay H
 ·obtain rfl:=zi H
  exact yR
 go_wp2_with(fail)
 go_loopg[1,5] k (fun kq v1 v5 w'=>∃(ab:Int) (aa:Int),v1= .int .i64 ab∧v5= .int .i64 aa∧qC (laws_szProfileS.l0 kq l0 ab aa=some r)∧qC (kq≤k)∧qC (Below w.heap.size w w'))
 case atStart=>exact⟨(wrap64 (a1 - (l0.length:Int))),(0),zr,zr,⟨H⟩,⟨Nat.le_refl _⟩,⟨HB⟩⟩
 case round=>
  clear H HB
  obtain⟨ab,aa,rfl,rfl,H,aj,HB⟩:=hrel
  replace HB:=HB.out
  replace H:=H.out
  have al:=yB w
  cases gk with
  |zero=>exact absurd H (by simp[laws_szProfileS.l0])
  |succ ak=>
   simp only[laws_szProfileS.l0] at H
   refine yDn H ?_ ?_<;>clear H<;>intro az H
   ·obtain rfl:=zi H
    exact yR
   replace H:=yAD H
   obtain⟨aA,H⟩:=H
   have aB:=yt (0≤(aa:Int))
   have aC:=yt ((aa:Int)<(l0.length:Int))
   obtain⟨ax,au,av,ao,ac,ad,ae,af,ag⟩:=at_T123 ar.out aa z2 z2
   cases ao
   replace ac:=qH ac
   replace ad:=qH ad
   replace ae:=qH ae
   have ah:=zz ag
   have ai:=zz af
   clear ag af
   replace H:=yf H
   obtain⟨ap,A7,H⟩:=H
   refine yD H ?_ ?_<;>clear H<;>intro aD H
   ·go_wp2_with(fail)
    refine(laws_szProfile.calls ak _ _ _ _ _ _ _ _ (Kd.qB ah.out HB) ai.out A7.out).mono ?_
    rintro e aF ⟨rfl,hb⟩
    replace HB:=zv HB hb
    clear hb
    obtain rfl:=zi H
    exact yR
   go_wp2_with(fail)
   refine(laws_szProfile.calls ak _ _ _ _ _ _ _ _ (Kd.qB ah.out HB) ai.out A7.out).mono ?_
   rintro e aG ⟨rfl,hb⟩
   replace HB:=zv HB hb
   clear hb
   go_wp2_with(fail)
   go_roundg ak
   case measure=>have:=aj.out;omega
   case rel=>exact⟨(ap),(wrap64 (aa+1)),zr,zr,⟨H⟩,⟨by have:=aj.out;omega⟩,⟨zv al.out HB⟩⟩
def laws_szPending.f(k:Nat)(ab:ByteArray)(ad:List (S80))(ac:ByteArray)(a1:Int):Option (Int):=if(wrap64 (a1 - (ab.size:Int)))<0 then(some (-1)) else((laws_szEntryS.f k ad (wrap64 (a1 - (ab.size:Int)))).bind fun aa=>(if aa<0 then(some (-1)) else(if(wrap64 (aa - (ac.size:Int)))<0 then(some (-1)) else(some (wrap64 (aa - (ac.size:Int)))))))
theorem laws_szPending.calls(k:Nat)(ac:ByteArray)(ad:Option Addr)(ae:Nat)(aa:List (S80))(af:ByteArray)(a1:Int)(r:Int)(w:World)(aj:Kd.C k80 w ad aa.length aa)(ak:aa.length≤ae)(h:laws_szPending.f k ac aa af a1=some r):
 Calls Tryz.prog 87 #[.agg #[.string ac,.slice ad aa.length ae,.string af],.int .i64 a1] w fun e w'=>e= .returned (.int .i64 r)∧Below w.heap.size w w':=by
 have an:=Tryz.underlying126
 have ab:=zz aj
 have al:=zz ak
 clear aj ak
 have HB:=yB w
 unfold laws_szPending.f at h
 have H:=h
 clear h
 replace HB:=HB.out
 have HW:=yB w
 go_enter Tryz.func87,Tryz.ntmps87
 refine yD H ?_ ?_<;>clear H<;>intro ap H
 ·obtain rfl:=zi H
  go_wp2_with(first|(refine zN 2 ?_;(try(refine z4 ?_;dsimp only));refine zX 2 126 #[.string ac,.slice ad aa.length ae,.string af] ?_;intro am hg w4 hbox hb;have hst:=zv HB hb;clear hg hb HB;replace HW:=zz (zv HW.out hst);replace ab:=zz (Kd.qB ab.out hst);obtain⟨ag,ah,ai⟩:=zx3 hbox;have HB:=Below.refl w4.heap.size w4;clear hbox hst))
  go_ret
  exact⟨ze,zv HW.out HB⟩
 replace H:=yf H
 obtain⟨ar,A5,H⟩:=H
 go_wp2_with(first|(refine zN 2 ?_;(try(refine z4 ?_;dsimp only));refine zX 2 126 #[.string ac,.slice ad aa.length ae,.string af] ?_;intro am hg w8 hbox hb;have hst:=zv HB hb;clear hg hb HB;replace HW:=zz (zv HW.out hst);replace ab:=zz (Kd.qB ab.out hst);obtain⟨ag,ah,ai⟩:=zx3 hbox;have HB:=Below.refl w8.heap.size w8;clear hbox hst))
 refine(laws_szEntryS.calls k _ _ _ _ _ _ (Kd.qB ab.out HB) al.out A5.out).mono ?_
 rintro e w9 ⟨rfl,hb⟩
 replace HB:=zv HB hb
 clear hb
 refine yD H ?_ ?_<;>clear H<;>intro au H
 ·obtain rfl:=zi H
  exact yR
 refine yD H ?_ ?_<;>clear H<;>intro ao H
 ·obtain rfl:=zi H
  exact yR
 obtain rfl:=zi H
 exact yR
def laws_szPendingS.l0:Nat→List (S126)→Int→Int→Option (Int)
 |0,_,_,_=>none
 |k+1,x0,x1,x5=>if x5<(x0.length:Int) then(if 0≤x5 then((laws_szPending.f k ((rd_T126 x0 x5).f0) ((rd_T126 x0 x5).f1) ((rd_T126 x0 x5).f2) x1).bind fun aa=>(if aa<0 then(some (-1)) else(laws_szPendingS.l0 k x0 aa (wrap64 (x5+1))))) else(none)) else(some x1)
def laws_szPendingS.f(k:Nat)(l0:List (S126))(a1:Int):Option (Int):=if(wrap64 (a1 - (l0.length:Int)))<0 then(some (-1)) else(laws_szPendingS.l0 k l0 (wrap64 (a1 - (l0.length:Int))) 0)
theorem laws_szPendingS.calls(k:Nat)(A0:Option Addr)(c0:Nat)(l0:List (S126))(a1:Int)(r:Int)(w:World)(am:Kd.C k126 w A0 l0.length l0)(an:l0.length≤c0)(h:laws_szPendingS.f k l0 a1=some r):
 Calls Tryz.prog 42 #[.slice A0 l0.length c0,.int .i64 a1] w fun e w'=>e= .returned (.int .i64 r)∧Below w.heap.size w w':=by
 have aw:=Tryz.underlying126
 have ar:=zz am
 have aE:=zz an
 clear am an
 have HB:=yB w
 unfold laws_szPendingS.f at h
 have H:=h
 clear h
 replace HB:=HB.out
 have HW:=yB w
 go_enter Tryz.func42,Tryz.ntmps42
 refine yD H ?_ ?_<;>clear H<;>intro ay H
 ·obtain rfl:=zi H
  exact yR
 go_wp2_with(fail)
 go_loopg[1,5] k (fun kq v1 v5 w'=>∃(ab:Int) (aa:Int),v1= .int .i64 ab∧v5= .int .i64 aa∧qC (laws_szPendingS.l0 kq l0 ab aa=some r)∧qC (kq≤k)∧qC (Below w.heap.size w w'))
 case atStart=>exact⟨(wrap64 (a1 - (l0.length:Int))),(0),zr,zr,⟨H⟩,⟨Nat.le_refl _⟩,⟨HB⟩⟩
 case round=>
  clear H HB
  obtain⟨ab,aa,rfl,rfl,H,aj,HB⟩:=hrel
  replace HB:=HB.out
  replace H:=H.out
  have al:=yB w
  cases gk with
  |zero=>exact absurd H (by simp[laws_szPendingS.l0])
  |succ ak=>
   simp only[laws_szPendingS.l0] at H
   refine yDn H ?_ ?_<;>clear H<;>intro az H
   ·obtain rfl:=zi H
    exact yR
   replace H:=yAD H
   obtain⟨aA,H⟩:=H
   have aB:=yt (0≤(aa:Int))
   have aC:=yt ((aa:Int)<(l0.length:Int))
   obtain⟨ax,au,av,ao,ac,ad,ae,af,ag⟩:=at_T126 ar.out aa z2 z2
   cases ao
   replace ac:=qH ac
   replace ad:=qH ad
   replace ae:=qH ae
   have ah:=zz ag
   have ai:=zz af
   clear ag af
   replace H:=yf H
   obtain⟨ap,A7,H⟩:=H
   refine yD H ?_ ?_<;>clear H<;>intro aD H
   ·go_wp2_with(fail)
    refine(laws_szPending.calls ak _ _ _ _ _ _ _ _ (Kd.qB ah.out HB) ai.out A7.out).mono ?_
    rintro e aF ⟨rfl,hb⟩
    replace HB:=zv HB hb
    clear hb
    obtain rfl:=zi H
    exact yR
   go_wp2_with(fail)
   refine(laws_szPending.calls ak _ _ _ _ _ _ _ _ (Kd.qB ah.out HB) ai.out A7.out).mono ?_
   rintro e aG ⟨rfl,hb⟩
   replace HB:=zv HB hb
   clear hb
   go_wp2_with(fail)
   go_roundg ak
   case measure=>have:=aj.out;omega
   case rel=>exact⟨(ap),(wrap64 (aa+1)),zr,zr,⟨H⟩,⟨by have:=aj.out;omega⟩,⟨zv al.out HB⟩⟩
def laws_szNext.f(aa:ByteArray)(ab:ByteArray)(a1:Int):Option (Int):=if(wrap64 (a1 - (aa.size:Int)))<0 then(some (-1)) else(if(wrap64 ((wrap64 (a1 - (aa.size:Int))) - (ab.size:Int)))<0 then(some (-1)) else(some (wrap64 ((wrap64 (a1 - (aa.size:Int))) - (ab.size:Int)))))
theorem laws_szNext.calls(aa:ByteArray)(ab:ByteArray)(a1:Int)(r:Int)(w:World)(h:laws_szNext.f aa ab a1=some r):
 Calls Tryz.prog 88 #[.agg #[.string aa,.string ab],.int .i64 a1] w fun e w'=>e= .returned (.int .i64 r)∧Below w.heap.size w w':=by
 have af:=Tryz.underlying129
 have HB:=yB w
 unfold laws_szNext.f at h
 have H:=h
 clear h
 replace HB:=HB.out
 have HW:=yB w
 go_enter Tryz.func88,Tryz.ntmps88
 refine yD H ?_ ?_<;>clear H<;>intro ag H
 ·obtain rfl:=zi H
  go_wp2_with(first|(refine zN 2 ?_;(try(refine z4 ?_;dsimp only));refine zX 2 129 #[.string aa,.string ab] ?_;intro ae hg w4 hbox hb;have hst:=zv HB hb;clear hg hb HB;replace HW:=zz (zv HW.out hst);obtain⟨ac,ad⟩:=zx2 hbox;have HB:=Below.refl w4.heap.size w4;clear hbox hst))
  go_ret
  exact⟨ze,zv HW.out HB⟩
 refine yD H ?_ ?_<;>clear H<;>intro ah H
 ·obtain rfl:=zi H
  go_wp2_with(first|(refine zN 2 ?_;(try(refine z4 ?_;dsimp only));refine zX 2 129 #[.string aa,.string ab] ?_;intro ae hg w6 hbox hb;have hst:=zv HB hb;clear hg hb HB;replace HW:=zz (zv HW.out hst);obtain⟨ac,ad⟩:=zx2 hbox;have HB:=Below.refl w6.heap.size w6;clear hbox hst))
  go_ret
  exact⟨ze,zv HW.out HB⟩
 obtain rfl:=zi H
 go_wp2_with(first|(refine zN 2 ?_;(try(refine z4 ?_;dsimp only));refine zX 2 129 #[.string aa,.string ab] ?_;intro ae hg w7 hbox hb;have hst:=zv HB hb;clear hg hb HB;replace HW:=zz (zv HW.out hst);obtain⟨ac,ad⟩:=zx2 hbox;have HB:=Below.refl w7.heap.size w7;clear hbox hst))
 go_ret
 exact⟨ze,zv HW.out HB⟩
def laws_szNextS.l0:Nat→List (S129)→Int→Int→Option (Int)
 |0,_,_,_=>none
 |k+1,x0,x1,x5=>if x5<(x0.length:Int) then(if 0≤x5 then((laws_szNext.f ((rd_T129 x0 x5).f0) ((rd_T129 x0 x5).f1) x1).bind fun aa=>(if aa<0 then(some (-1)) else(laws_szNextS.l0 k x0 aa (wrap64 (x5+1))))) else(none)) else(some x1)
def laws_szNextS.f(k:Nat)(l0:List (S129))(a1:Int):Option (Int):=if(wrap64 (a1 - (l0.length:Int)))<0 then(some (-1)) else(laws_szNextS.l0 k l0 (wrap64 (a1 - (l0.length:Int))) 0)
theorem laws_szNextS.calls(k:Nat)(A0:Option Addr)(c0:Nat)(l0:List (S129))(a1:Int)(r:Int)(w:World)(ag:Kd.C k129 w A0 l0.length l0)(ah:l0.length≤c0)(h:laws_szNextS.f k l0 a1=some r):
 Calls Tryz.prog 43 #[.slice A0 l0.length c0,.int .i64 a1] w fun e w'=>e= .returned (.int .i64 r)∧Below w.heap.size w w':=by
 have am:=Tryz.underlying129
 have ak:=zz ag
 have ax:=zz ah
 clear ag ah
 have HB:=yB w
 unfold laws_szNextS.f at h
 have H:=h
 clear h
 replace HB:=HB.out
 have HW:=yB w
 go_enter Tryz.func43,Tryz.ntmps43
 refine yD H ?_ ?_<;>clear H<;>intro ao H
 ·obtain rfl:=zi H
  exact yR
 go_wp2_with(fail)
 go_loopg[1,5] k (fun kq v1 v5 w'=>∃(ab:Int) (aa:Int),v1= .int .i64 ab∧v5= .int .i64 aa∧qC (laws_szNextS.l0 kq l0 ab aa=some r)∧qC (kq≤k)∧qC (Below w.heap.size w w'))
 case atStart=>exact⟨(wrap64 (a1 - (l0.length:Int))),(0),zr,zr,⟨H⟩,⟨Nat.le_refl _⟩,⟨HB⟩⟩
 case round=>
  clear H HB
  obtain⟨ab,aa,rfl,rfl,H,ae,HB⟩:=hrel
  replace HB:=HB.out
  replace H:=H.out
  have af:=yB w
  cases gk with
  |zero=>exact absurd H (by simp[laws_szNextS.l0])
  |succ al=>
   simp only[laws_szNextS.l0] at H
   refine yDn H ?_ ?_<;>clear H<;>intro ap H
   ·obtain rfl:=zi H
    exact yR
   replace H:=yAD H
   obtain⟨ar,H⟩:=H
   have au:=yt (0≤(aa:Int))
   have av:=yt ((aa:Int)<(l0.length:Int))
   obtain⟨an,ai,ac,ad⟩:=at_T129 ak.out aa z2 z2
   cases ai
   replace ac:=qH ac
   replace ad:=qH ad
   replace H:=yf H
   obtain⟨aj,A7,H⟩:=H
   refine yD H ?_ ?_<;>clear H<;>intro aw H
   ·go_wp2_with(fail)
    refine(laws_szNext.calls _ _ _ _ _ A7.out).mono ?_
    rintro e ay ⟨rfl,hb⟩
    replace HB:=zv HB hb
    clear hb
    obtain rfl:=zi H
    exact yR
   go_wp2_with(fail)
   refine(laws_szNext.calls _ _ _ _ _ A7.out).mono ?_
   rintro e az ⟨rfl,hb⟩
   replace HB:=zv HB hb
   clear hb
   go_wp2_with(fail)
   go_roundg al
   case measure=>have:=ae.out;omega
   case rel=>exact⟨(aj),(wrap64 (aa+1)),zr,zr,⟨H⟩,⟨by have:=ae.out;omega⟩,⟨zv af.out HB⟩⟩
def laws_szWorld.f(k:Nat)(ae:List (S119))(af:List (S123))(ag:List (S126))(ah:List (S129))(a1:Int):Option (Int):=(laws_szItemS.f k ae a1).bind fun aa=>(if aa<0 then(some (-1)) else((laws_szProfileS.f k af aa).bind fun ab=>(if ab<0 then(some (-1)) else((laws_szPendingS.f k ag ab).bind fun ac=>(if ac<0 then(some (-1)) else((laws_szNextS.f k ah ac).bind fun ad=>(if ad<0 then(some (-1)) else(some ad))))))))
theorem laws_szWorld.calls(k:Nat)(ai:Option Addr)(aj:Nat)(aa:List (S119))(ak:Option Addr)(al:Nat)(ab:List (S123))(am:Option Addr)(an:Nat)(ac:List (S126))(ao:Option Addr)(ap:Nat)(ad:List (S129))(a1:Int)(r:Int)(w:World)(ar:Kd.C k119 w ai aa.length aa)(au:aa.length≤aj)(av:Kd.C k123 w ak ab.length ab)(aw:ab.length≤al)(ax:Kd.C k126 w am ac.length ac)(ay:ac.length≤an)(az:Kd.C k129 w ao ad.length ad)(aA:ad.length≤ap)(h:laws_szWorld.f k aa ab ac ad a1=some r):
 Calls Tryz.prog 8 #[.agg #[.slice ai aa.length aj,.slice ak ab.length al,.slice am ac.length an,.slice ao ad.length ap],.int .i64 a1] w fun e w'=>e= .returned (.int .i64 r)∧Below w.heap.size w w':=by
 have aQ:=Tryz.underlying27
 have ah:=zz ar
 have aE:=zz au
 clear ar au
 have ae:=zz av
 have aB:=zz aw
 clear av aw
 have af:=zz ax
 have aC:=zz ay
 clear ax ay
 have ag:=zz az
 have aD:=zz aA
 clear az aA
 have HB:=yB w
 unfold laws_szWorld.f at h
 have H:=h
 clear h
 replace HB:=HB.out
 have HW:=yB w
 go_enter Tryz.func8,Tryz.ntmps8
 replace H:=yf H
 obtain⟨aR,A3,H⟩:=H
 go_wp2_with(first|(refine zN 2 ?_;(try(refine z4 ?_;dsimp only));refine zX 2 27 #[.slice ai aa.length aj,.slice ak ab.length al,.slice am ac.length an,.slice ao ad.length ap] ?_;intro aM hg w6 hbox hb;have hst:=zv HB hb;clear hg hb HB;replace HW:=zz (zv HW.out hst);replace ah:=zz (Kd.qB ah.out hst);replace ae:=zz (Kd.qB ae.out hst);replace af:=zz (Kd.qB af.out hst);replace ag:=zz (Kd.qB ag.out hst);obtain⟨aI,aJ,aK,aL⟩:=zx4 hbox;have HB:=Below.refl w6.heap.size w6;clear hbox hst))
 refine(laws_szItemS.calls k _ _ _ _ _ _ (Kd.qB ah.out HB) aE.out A3.out).mono ?_
 rintro e w7 ⟨rfl,hb⟩
 replace HB:=zv HB hb
 clear hb
 refine yD H ?_ ?_<;>clear H<;>intro aS H
 ·obtain rfl:=zi H
  exact yR
 replace H:=yf H
 obtain⟨aT,aF,H⟩:=H
 refine yD H ?_ ?_<;>clear H<;>intro aN H
 ·go_wp2_with(fail)
  refine(laws_szProfileS.calls k _ _ _ _ _ _ (Kd.qB ae.out HB) aB.out aF.out).mono ?_
  rintro e aW ⟨rfl,hb⟩
  replace HB:=zv HB hb
  clear hb
  obtain rfl:=zi H
  exact yR
 go_wp2_with(fail)
 refine(laws_szProfileS.calls k _ _ _ _ _ _ (Kd.qB ae.out HB) aB.out aF.out).mono ?_
 rintro e aX ⟨rfl,hb⟩
 replace HB:=zv HB hb
 clear hb
 replace H:=yf H
 obtain⟨aU,aG,H⟩:=H
 refine yD H ?_ ?_<;>clear H<;>intro aO H
 ·go_wp2_with(fail)
  refine(laws_szPendingS.calls k _ _ _ _ _ _ (Kd.qB af.out HB) aC.out aG.out).mono ?_
  rintro e aY ⟨rfl,hb⟩
  replace HB:=zv HB hb
  clear hb
  obtain rfl:=zi H
  exact yR
 go_wp2_with(fail)
 refine(laws_szPendingS.calls k _ _ _ _ _ _ (Kd.qB af.out HB) aC.out aG.out).mono ?_
 rintro e aZ ⟨rfl,hb⟩
 replace HB:=zv HB hb
 clear hb
 replace H:=yf H
 obtain⟨aV,aH,H⟩:=H
 refine yD H ?_ ?_<;>clear H<;>intro aP H
 ·go_wp2_with(fail)
  refine(laws_szNextS.calls k _ _ _ _ _ _ (Kd.qB ag.out HB) aD.out aH.out).mono ?_
  rintro e a0 ⟨rfl,hb⟩
  replace HB:=zv HB hb
  clear hb
  obtain rfl:=zi H
  exact yR
 go_wp2_with(fail)
 refine(laws_szNextS.calls k _ _ _ _ _ _ (Kd.qB ag.out HB) aD.out aH.out).mono ?_
 rintro e a2 ⟨rfl,hb⟩
 replace HB:=zv HB hb
 clear hb
 obtain rfl:=zi H
 exact yR
def laws_toEntry.f(aa:ByteArray)(ab:Int)(ac:ByteArray)(ad:Bool):Option (ByteArray×Int×ByteArray×Bool):=some (aa,ab,ac,ad)
theorem laws_toEntry.calls(ac:ByteArray)(ad:Int)(ae:ByteArray)(af:Bool)(r1:ByteArray)(r2:Int)(r3:ByteArray)(r4:Bool)(w:World)(h:laws_toEntry.f ac ad ae af=some (r1,r2,r3,r4)):
 Calls Tryz.prog 52 #[.agg #[.string ac,.int .i64 ad,.string ae,.bool af]] w fun e w'=>e= .returned (.agg #[.string r1,.int .i64 r2,.string r3,.bool r4])∧Below w.heap.size w w':=by
 have aX:=Tryz.underlying80
 have aY:=Tryz.underlying87
 have HB:=yB w
 unfold laws_toEntry.f at h
 have H:=h
 clear h
 simp only[Option.some.injEq,Prod.mk.injEq] at H
 obtain⟨rfl,rfl,rfl,rfl⟩:=H
 go_enter Tryz.func52,Tryz.ntmps52
 go_wp2_with(first|(refine zX 1 80 #[.string ac,.int .i64 ad,.string ae,.bool af] ?_;intro an hg w2 hbox hb;have aa:=zz (hbox);have aR:=zz ((zg:w.heap.size≤an));have aS:=zz ((zg:w.heap.size≤an));replace HB:=zz (zv zb hb);clear hb hbox hg)|(refine zX 2 87 #[.string (⟨#[]⟩:ByteArray),.int .i64 0,.string (⟨#[]⟩:ByteArray),.bool false] ?_;intro ag hg w3 hbox hb;have ab:=zz (hbox);have aT:=zz ((zg:w.heap.size≤ag));have aU:=zz ((zg:w.heap.size≤ag));replace HB:=zz (zv zb hb);have ah:=zz (zH aa hg);have ai:=zz (zI aa hg);replace aa:=zz (zJ aa hb);clear hb hbox hg)|(refine zX 3 87 #[.string (⟨#[]⟩:ByteArray),.int .i64 0,.string (⟨#[]⟩:ByteArray),.bool false] ?_;intro ao hg w4 hbox hb;have ap:=zz (hbox);have aV:=zz ((zg:w.heap.size≤ao));have aW:=zz ((zg:w.heap.size≤ao));replace HB:=zz (zv zb hb);have aj:=zz (zH aa hg);have ak:=zz (zI aa hg);replace aa:=zz (zJ aa hb);have al:=zz (zH ab hg);have am:=zz (zI ab hg);replace ab:=zz (zJ ab hb);clear hb hbox hg;have aZ:=ah.out;have a0:=ai.out;have a1:=aj.out;have a2:=ak.out;obtain⟨aB,aC,aD,aE,aF,aG,aH,aI⟩:=zc4 aa.out;have a3:=am.out;have a4:=al.out;obtain⟨aJ,aK,aL,aM,aN,aO,aP,aQ⟩:=zc4 ap.out;obtain⟨ar,au,av,aw,ax,ay,az,aA⟩:=zc4 ab.out))
 refine bodyPost_ret (results_cell_row rfl _ _ ag 87 #[.string ac,.int .i64 ad,.string ae,.bool af] (0,0) _ rfl (yP ab.out) Tryz.underlying87 rfl zk) rfl ?_
 exact⟨ze,zb⟩
def laws_toEntryS.l0:Nat→List (S80)→List (S87)→Int→Option ((List (S87)))
 |0,_,_,_=>none
 |k+1,x0,x3,x4=>if x4<(x0.length:Int) then(if 0≤x4 then((laws_toEntry.f ((rd_T80 x0 x4).f0) ((rd_T80 x0 x4).f1) ((rd_T80 x0 x4).f2) ((rd_T80 x0 x4).f3)).bind fun aa=>(if x4<(x3.length:Int) then(laws_toEntryS.l0 k x0 (x3.set (x4:Int).toNat (⟨aa.1,aa.2.1,aa.2.2.1,aa.2.2.2⟩:S87)) (wrap64 (x4+1))) else(none))) else(none)) else(some x3)
def laws_toEntryS.f(k:Nat)(l0:List (S80)):Option ((List (S87))):=if 0≤(l0.length:Int) then(if((l0.length:Int):Int).toNat≤5864062014805 then(laws_toEntryS.l0 k l0 (List.replicate ((l0.length:Int):Int).toNat z87) 0) else(none)) else(none)
theorem laws_toEntryS.calls(k:Nat)(A0:Option Addr)(c0:Nat)(l0:List (S80))(r:List (S87))(w:World)(aZ:Kd.C k80 w A0 l0.length l0)(a0:l0.length≤c0)(h:laws_toEntryS.f k l0=some r):
 Calls Tryz.prog 12 #[.slice A0 l0.length c0] w fun e w'=>∃a1:Value,e= .returned (a1)∧Kd.R k87 87 w' w.heap.size (fun _=>True) a1 r∧Below w.heap.size w w':=by
 have bn:=Tryz.underlying80
 have bo:=Tryz.underlying87
 have bb:=zz aZ
 have bC:=zz a0
 clear aZ a0
 have HB:=yB w
 unfold laws_toEntryS.f at h
 have H:=h
 clear h
 replace H:=yA H
 obtain⟨c2,H⟩:=H
 have a4:=eq_true c2
 have a5:=z1 c2
 clear c2
 replace H:=yA H
 obtain⟨c3,H⟩:=H
 have a6:=eq_true c3
 have a7:=z1 c3
 clear c3
 obtain⟨aD,ag⟩:∃y_:List (S87),y_=(List.replicate ((l0.length:Int):Int).toNat z87):=⟨_,rfl⟩
 replace H:(laws_toEntryS.l0 k l0 aD 0)=some r:=by first|(rw[ag];with_reducible exact H)|(have ap:=(Option.bind_some _ _).symm.trans H;rw[ag];with_reducible exact ap)|(have ap:=(Option.bind_some _ _).symm.trans H;with_reducible exact ap)|with_reducible exact H|(rw[ag];exact H)|exact H
 have aB:=zz ag
 clear ag
 have H':=zz H
 clear H
 go_enter Tryz.func12,Tryz.ntmps12
 go_wp2_with(first|(refine zN 7 ?_;refine Kd.R_make k87 _ 87 rfl (N:=7) rfl 40 _ _ rfl (l0.length:Int) rfl rfl Tryz.underlying40 (.agg #[(.string ⟨#[]⟩),(.int .i64 0),(.string ⟨#[]⟩),(.bool false)]) 48 info87 rfl (by decide) (by omega) z87 (ok:=fun _=>True) (okp:=fun _=>True) (k87_mkM _ _ _ z87) (fun _ hk=>hk) trivial (z2) (Nat.le_trans (Nat.mul_le_mul_right _ (z2:(l0.length:Int).toNat≤5864062014805)) (by omega)) (Below.refl _ _) (Nat.le_refl _) ?_;intro a8 w4 ay hb hg_ hnew_;clear hg_ hnew_;(first|rw[←aB.out] at ay|(simp only[Int.reduceToNat] at ay;rw[←aB.out] at ay));have aW:=zz (Kd.qY ay (qF zb));replace HB:=zz (zv zb hb);clear hb ay))
 go_loopg[4] k (fun kq v4 w'=>∃(ac:List (S87)) (aa:Int),v4= .int .i64 aa∧qC (laws_toEntryS.l0 kq l0 ac aa=some r)∧qC (kq≤k)∧qC (Kd.R k87 87 w' w.heap.size (fun _=>True) a8 ac)∧qC (Below w.heap.size w w'))
 case atStart=>exact⟨(aD),(0),zr,H',⟨Nat.le_refl _⟩,⟨zR aW.out⟩,⟨zb⟩⟩
 case round=>
  clear H'
  try clear c1
  try clear c2
  try clear a4
  try clear a5
  try clear p2
  try clear c3
  try clear a6
  try clear a7
  obtain⟨ac,aa,rfl,HA,a2,ad,HB⟩:=hrel
  cases gk with
  |zero=>exact absurd HA.out (by simp[laws_toEntryS.l0])
  |succ k1=>
   have H:=HA.out
   clear HA
   simp only[laws_toEntryS.l0] at H
   refine yDn H ?_ ?_<;>clear H<;>intro bq H
   ·obtain rfl:=zi H
    go_wp2
    go_ret
    exact⟨_,ze,zR ad.out,zb⟩
   replace H:=yAD H
   obtain⟨br,H⟩:=H
   replace H:=zf H
   obtain⟨⟨al,am,an,ao⟩,a3,H⟩:=H
   try dsimp only at H
   have A8:=zz a3
   clear a3
   replace H:=yAD H
   obtain⟨bs,H⟩:=H
   obtain⟨az,ah⟩:∃y_:List (S87),y_=(ac.set (aa:Int).toNat (⟨al,am,an,ao⟩:S87)):=⟨_,rfl⟩
   replace H:(laws_toEntryS.l0 k1 l0 az (wrap64 (aa+1)))=some r:=by first|(rw[ah];with_reducible exact H)|(have ap:=(Option.bind_some _ _).symm.trans H;rw[ah];with_reducible exact ap)|(have ap:=(Option.bind_some _ _).symm.trans H;with_reducible exact ap)|with_reducible exact H|(rw[ah];exact H)|exact H
   have aX:=zz ah
   clear ah
   have H':=zz H
   clear H
   have bu:=yt (0≤(aa:Int))
   have bv:=yt (aa<(l0.length:Int))
   obtain⟨bl,a9,ar,au,av,aw⟩:=at_T80 bb.out aa z2 z2
   cases a9
   replace ar:=z3 HB.out ar
   replace au:=z3 HB.out au
   replace av:=z3 HB.out av
   replace aw:=z3 HB.out aw
   go_wp2_with(first|(refine zL 52 20 Tryz.func52 #[.agg #[.string ((rd_T80 l0 aa).f0),.int .i64 ((rd_T80 l0 aa).f1),.string ((rd_T80 l0 aa).f2),.bool ((rd_T80 l0 aa).f3)]] ?_;(with_reducible refine(laws_toEntry.calls ((rd_T80 l0 aa).f0) ((rd_T80 l0 aa).f1) ((rd_T80 l0 aa).f2) ((rd_T80 l0 aa).f3) al am an ao _ A8.out).mono ?_);rintro e ae ⟨rfl,hb⟩;refine⟨_,rfl,?_⟩;replace ad:=zz (Kd.R_below (zR ad.out) hb);replace HB:=zz (zv zb hb);(try clear hb);(try clear bD);(try clear hk);(try clear hi);have aE:0≤(aa:Int):=z2;have aF:(aa:Int)<((ac.length:Int):Int):=z2;obtain⟨ab,aG,aH,aI,ba,bw,aJ⟩:=Kd.R_form ad.out (by omega);(first|cases aH|(injection aH with ea_ en_ ec_;(first|subst ea_|(injection ea_ with ea_;subst ea_));subst ec_;clear en_));have ax:=zz aI;have bz:=zz aJ;clear aI ba aJ;obtain⟨bA,aY,aK,ai,aj⟩:=Kd.R_elem ad.out z87 (aa:Int) aE aF;obtain rfl:=k87_openM aK;have bc:ae.cell? ⟨ab,(aa:Int).toNat*4,none⟩=some (.string ((qA ac aa).f0)):=ai 0 _ rfl;have bd:ae.cell? ⟨ab,(aa:Int).toNat*4+1,none⟩=some (.int .i64 ((qA ac aa).f1)):=ai 1 _ rfl;have be:ae.cell? ⟨ab,(aa:Int).toNat*4+2,none⟩=some (.string ((qA ac aa).f2)):=ai 2 _ rfl;have bf:ae.cell? ⟨ab,(aa:Int).toNat*4+3,none⟩=some (.bool ((qA ac aa).f3)):=ai 3 _ rfl;have bg:ae.frozen? ⟨ab,(aa:Int).toNat*4,none⟩=false:=aj 0;have bh:ae.frozen? ⟨ab,(aa:Int).toNat*4+1,none⟩=false:=aj 1;have bi:ae.frozen? ⟨ab,(aa:Int).toNat*4+2,none⟩=false:=aj 2;have bj:ae.frozen? ⟨ab,(aa:Int).toNat*4+3,none⟩=false:=aj 3;clear aY ai aj aK;replace aE:=eq_true aE;replace aF:=eq_true aF;have aL:=zz (show Kd.R k87 87 ae w.heap.size (fun _=>True) (.slice (some ⟨ab,0,none⟩) ac.length aG) ac from(zR ad.out));obtain⟨bB,aC,aM,af,ak⟩:=Kd.R_elem aL.out z87 (aa:Int) (z2) (by have h_:(aa:Int)<((ac.length:Int):Int):=z2;first|exact h_|(have e_:=(Kd.qM ad.out).1;omega)|simpa using h_);obtain rfl:=k87_openM aM;have aA:=Kd.R_seg aL.out (aa:Int) (z2) (by have h_:(aa:Int)<((ac.length:Int):Int):=z2;first|exact h_|(have e_:=(Kd.qM ad.out).1;omega)|simpa using h_) (seg:=[.string al,.int .i64 am,.string an,.bool ao]) (j:=0) aC af (show 4≤4 from by decide) (x':=(⟨al,am,an,ao⟩:S87)) (k87_mkM _ _ _ (⟨al,am,an,ao⟩:S87)) (fun _ hk=>hk);have aN:=af 0 _ rfl;(try simp only[show(k87).sz=4 from rfl,Nat.mul_one,Nat.add_zero] at aN);have aO:=ak 0;(try simp only[show(k87).sz=4 from rfl,Nat.mul_one,Nat.add_zero] at aO);have aP:=af 1 _ rfl;(try simp only[show(k87).sz=4 from rfl,Nat.mul_one,Nat.add_zero] at aP);have aQ:=ak 1;(try simp only[show(k87).sz=4 from rfl,Nat.mul_one,Nat.add_zero] at aQ);have aR:=af 2 _ rfl;(try simp only[show(k87).sz=4 from rfl,Nat.mul_one,Nat.add_zero] at aR);have aS:=ak 2;(try simp only[show(k87).sz=4 from rfl,Nat.mul_one,Nat.add_zero] at aS);have aT:=af 3 _ rfl;(try simp only[show(k87).sz=4 from rfl,Nat.mul_one,Nat.add_zero] at aT);have aU:=ak 3;(try simp only[show(k87).sz=4 from rfl,Nat.mul_one,Nat.add_zero] at aU);clear aC af ak aM)|((with_reducible refine qQ (t:=87) (p:=21) rfl ?_);refine qN (t:=87) (p:=21) (v:=?bk) (w1:=((((ae.setCell ⟨ab,(aa:Int).toNat*4,none⟩ (.string al)).setCell ⟨ab,(aa:Int).toNat*4+1,none⟩ (.int .i64 am)).setCell ⟨ab,(aa:Int).toNat*4+2,none⟩ (.string an)).setCell ⟨ab,(aa:Int).toNat*4+3,none⟩ (.bool ao))) ?hg ?ho ?hn ?hr ?_;(case ho=>rfl);(case hg=>rfl);(case hn=>rfl);(case hr=>first|(go_simp;done)|(go_simp;rfl));intro aV hw;have hg:ae.grownBy aV (some ab):=(by rw[hw];exact aA.2);have hp_:Kd.R k87 87 aV w.heap.size (fun _=>True) (.slice (some ⟨ab,0,none⟩) ac.length aG) az:=(by rw[hw,aX.out];exact aA.1);clear aA;replace ad:=zz (hp_);replace HB:=zz ((by rw[hw];exact qJ (qJ (qJ (qJ (HB.out) ax.out) ax.out) ax.out) ax.out:Below w.heap.size w aV));clear hg hw hp_))
   go_roundg k1
   case measure=>have:=a2.out;omega
   case rel=>exact⟨(az),(wrap64 (aa+1)),zr,H',⟨by have:=a2.out;omega⟩,⟨zR ad.out⟩,⟨zb⟩⟩
def laws_toStringS.l0:Nat→List ByteArray→List ByteArray→Int→Option (List ByteArray)
 |0,_,_,_=>none
 |k+1,x0,x3,x4=>if x4<(x0.length:Int) then(if 0≤x4 then(if x4<(x3.length:Int) then(laws_toStringS.l0 k x0 (x3.set (x4:Int).toNat (rdOf ByteArray.empty x0 x4)) (wrap64 (x4+1))) else(none)) else(none)) else(some x3)
def laws_toStringS.f(k:Nat)(l0:List ByteArray):Option (List ByteArray):=if 0≤(l0.length:Int) then(if((l0.length:Int):Int).toNat≤17592186044416 then(laws_toStringS.l0 k l0 (List.replicate ((l0.length:Int):Int).toNat (⟨#[]⟩:ByteArray)) 0) else(none)) else(none)
theorem laws_toStringS.calls(k:Nat)(A0:Option Addr)(c0:Nat)(l0:List ByteArray)(r:List ByteArray)(w:World)(av:Kd.C Kd.string w A0 l0.length l0)(aw:l0.length≤c0)(h:laws_toStringS.f k l0=some r):
 Calls Tryz.prog 152 #[.slice A0 l0.length c0] w fun e w'=>∃ax:Value,e= .returned (ax)∧Kd.R Kd.string 9 w' w.heap.size (fun _=>True) ax r∧Below w.heap.size w w':=by
 have aI:=zz av
 have aT:=zz aw
 clear av aw
 have HB:=yB w
 unfold laws_toStringS.f at h
 have H:=h
 clear h
 replace H:=yA H
 obtain⟨c2,H⟩:=H
 have aC:=eq_true c2
 have aD:=z1 c2
 clear c2
 replace H:=yA H
 obtain⟨c3,H⟩:=H
 have aE:=eq_true c3
 have aF:=z1 c3
 clear c3
 obtain⟨an,ab⟩:∃y_:List ByteArray,y_=(List.replicate ((l0.length:Int):Int).toNat (⟨#[]⟩:ByteArray)):=⟨_,rfl⟩
 replace H:(laws_toStringS.l0 k l0 an 0)=some r:=by first|(rw[ab];with_reducible exact H)|(have af:=(Option.bind_some _ _).symm.trans H;rw[ab];with_reducible exact af)|(have af:=(Option.bind_some _ _).symm.trans H;with_reducible exact af)|with_reducible exact H|(rw[ab];exact H)|exact H
 have am:=zz ab
 clear ab
 have H':=zz H
 clear H
 go_enter Tryz.func152,Tryz.ntmps152
 go_wp2_with(first|(refine zN 7 ?_;refine Kd.R_make Kd.string _ 9 rfl (N:=7) rfl 101 _ _ rfl (l0.length:Int) rfl rfl Tryz.underlying101 (.string ⟨#[]⟩) 16 info9 rfl (by decide) (by omega) (⟨#[]⟩:ByteArray) (ok:=fun _=>True) (okp:=fun _=>True) rfl (fun _ hk=>hk) trivial (z2) (Nat.le_trans (Nat.mul_le_mul_right _ (z2:(l0.length:Int).toNat≤17592186044416)) (by omega)) (Below.refl _ _) (Nat.le_refl _) ?_;intro aG w4 ah hb hg_ hnew_;clear hg_ hnew_;(first|rw[←am.out] at ah|(simp only[Int.reduceToNat] at ah;rw[←am.out] at ah));have ar:=zz (Kd.qY ah (qF zb));replace HB:=zz (zv zb hb);clear hb ah))
 go_loopg[4] k (fun kq v4 w'=>∃(ad:List ByteArray) (aa:Int),v4= .int .i64 aa∧qC (laws_toStringS.l0 kq l0 ad aa=some r)∧qC (kq≤k)∧qC (Kd.R Kd.string 9 w' w.heap.size (fun _=>True) aG ad)∧qC (Below w.heap.size w w'))
 case atStart=>exact⟨(an),(0),zr,H',⟨Nat.le_refl _⟩,⟨zR ar.out⟩,⟨zb⟩⟩
 case round=>
  clear H'
  try clear c1
  try clear c2
  try clear aC
  try clear aD
  try clear p2
  try clear c3
  try clear aE
  try clear aF
  obtain⟨ad,aa,rfl,HA,ay,ae,HB⟩:=hrel
  cases gk with
  |zero=>exact absurd HA.out (by simp[laws_toStringS.l0])
  |succ k1=>
   have H:=HA.out
   clear HA
   simp only[laws_toStringS.l0] at H
   refine yDn H ?_ ?_<;>clear H<;>intro aQ H
   ·obtain rfl:=zi H
    go_wp2
    go_ret
    exact⟨_,ze,zR ae.out,zb⟩
   replace H:=yAD H
   obtain⟨aR,H⟩:=H
   replace H:=yAD H
   obtain⟨aS,H⟩:=H
   obtain⟨ai,ac⟩:∃y_:List ByteArray,y_=(ad.set (aa:Int).toNat (rdOf ByteArray.empty l0 aa)):=⟨_,rfl⟩
   replace H:(laws_toStringS.l0 k1 l0 ai (wrap64 (aa+1)))=some r:=by first|(rw[ac];with_reducible exact H)|(have af:=(Option.bind_some _ _).symm.trans H;rw[ac];with_reducible exact af)|(have af:=(Option.bind_some _ _).symm.trans H;with_reducible exact af)|with_reducible exact H|(rw[ac];exact H)|exact H
   have au:=zz ac
   clear ac
   have H':=zz H
   clear H
   have aj:0≤(aa:Int):=z2
   have ak:aa<(l0.length:Int):=z2
   obtain⟨aN,aH,ag⟩:=Kd.vA aI.out aa aj ak
   cases aH
   replace ag:=z3 HB.out ag
   replace aj:=eq_true aj
   replace ak:=eq_true ak
   have p9:0≤(aa:Int):=z2
   have q9:(aa:Int)<((ad.length:Int):Int):=z2
   obtain⟨ao,aJ,az,aA,aK,aU,aB⟩:=Kd.R_form ae.out (by omega)
   (first|cases az|(injection az with ea_ en_ ec_;(first|subst ea_|(injection ea_ with ea_;subst ea_));subst ec_;clear en_))
   have aL:=zz aA
   have aV:=zz aB
   clear aA aK aB
   obtain⟨aO,aP⟩:=Kd.R_celln (⟨#[]⟩:ByteArray) ae.out (aa:Int) p9 q9
   replace p9:=eq_true p9
   replace q9:=eq_true q9
   have al:=Kd.R_putg ae.out (aa:Int) (rdOf ByteArray.empty l0 aa)
   go_wp2_with(first|((with_reducible refine qQ (t:=9) (p:=20) rfl ?_);refine qN (t:=9) (p:=20) (v:=?aM) (w1:=(wr.setCell ⟨ao,(aa:Int).toNat,none⟩ (.string (rdOf ByteArray.empty l0 aa)))) ?hg ?ho ?hn ?hr ?_;(case ho=>rfl);(case hg=>rfl);(case hn=>rfl);(case hr=>first|(go_simp;done)|(go_simp;rfl));intro ap hw;have hg:wr.grownBy ap (some ao):=(by rw[hw];exact al.2);have hp_:Kd.R Kd.string 9 ap w.heap.size (fun _=>True) (.slice (some ⟨ao,0,none⟩) ad.length aJ) ai:=(by rw[hw,au.out];exact al.1);clear al;replace ae:=zz (hp_);replace HB:=zz ((by rw[hw];exact qJ (HB.out) aL.out:Below w.heap.size w ap));clear hg hw hp_))
   go_roundg k1
   case measure=>have:=ay.out;omega
   case rel=>exact⟨(ai),(wrap64 (aa+1)),zr,H',⟨by have:=ay.out;omega⟩,⟨zR ae.out⟩,⟨zb⟩⟩
def laws_toItem.f(k:Nat)(aa:ByteArray)(ab:ByteArray)(ac:List ByteArray)(ad:ByteArray)(ae:List (S80)):Option (ByteArray×ByteArray×List ByteArray×ByteArray×(List (S87))):=(laws_toStringS.f k ac).bind fun af=>((laws_toEntryS.f k ae).bind fun ag=>(some (aa,ab,af,ad,ag)))
theorem laws_toItem.calls(k:Nat)(ag:ByteArray)(ah:ByteArray)(ak:Option Addr)(al:Nat)(ae:List ByteArray)(ai:ByteArray)(am:Option Addr)(an:Nat)(af:List (S80))(r1:ByteArray)(r2:ByteArray)(r3:List ByteArray)(r4:ByteArray)(r5:List (S87))(w:World)(aG:Kd.C Kd.string w ak ae.length ae)(aH:ae.length≤al)(aI:Kd.C k80 w am af.length af)(aJ:af.length≤an)(h:laws_toItem.f k ag ah ae ai af=some (r1,r2,r3,r4,r5)):
 Calls Tryz.prog 95 #[.agg #[.string ag,.string ah,.slice ak ae.length al,.string ai,.slice am af.length an]] w fun e w'=>∃aP aQ:Value,e= .returned (.agg #[.string r1,.string r2,aP,.string r4,aQ])∧Kd.R Kd.string 9 w' w.heap.size (fun _=>True) aP r3∧Kd.R k87 87 w' w.heap.size (fun _=>True) aQ r5∧Below w.heap.size w w':=by
 have bZ:=Tryz.underlying119
 have b0:=Tryz.underlying103
 have aL:=zz aG
 have aM:=zz aH
 clear aG aH
 have aN:=zz aI
 have aO:=zz aJ
 clear aI aJ
 have HB:=yB w
 unfold laws_toItem.f at h
 have H:=h
 clear h
 replace H:=zf H
 obtain⟨ar,aR,H⟩:=H
 try dsimp only at H
 have A2:=zz aR
 clear aR
 replace H:=zf H
 obtain⟨au,aS,H⟩:=H
 try dsimp only at H
 have A3:=zz aS
 clear aS
 simp only[Option.some.injEq,Prod.mk.injEq] at H
 obtain⟨rfl,rfl,rfl,rfl,rfl⟩:=H
 go_enter Tryz.func95,Tryz.ntmps95
 go_wp2_with(first|(refine zX 1 119 #[.string ag,.string ah,.slice ak ae.length al,.string ai,.slice am af.length an] ?_;intro ao hg w4 hbox hb;have aa:=zz (hbox);have b1:=zz ((zg:w.heap.size≤ao));have b2:=zz ((zg:w.heap.size≤ao));replace HB:=zz (zv zb hb);clear hb hbox hg)|(refine zX 2 103 #[.string (⟨#[]⟩:ByteArray),.string (⟨#[]⟩:ByteArray),.slice none 0 0,.string (⟨#[]⟩:ByteArray),.slice none 0 0] ?_;intro aj hg w5 hbox hb;have ab:=zz (hbox);have b3:=zz ((zg:w.heap.size≤aj));have b4:=zz ((zg:w.heap.size≤aj));replace HB:=zz (zv zb hb);have av:=zz (zH aa hg);have aw:=zz (zI aa hg);replace aa:=zz (zJ aa hb);clear hb hbox hg)|(refine zX 3 103 #[.string (⟨#[]⟩:ByteArray),.string (⟨#[]⟩:ByteArray),.slice none 0 0,.string (⟨#[]⟩:ByteArray),.slice none 0 0] ?_;intro ad hg w6 hbox hb;have ac:=zz (hbox);have b5:=zz ((zg:w.heap.size≤ad));have b6:=zz ((zg:w.heap.size≤ad));replace HB:=zz (zv zb hb);have ax:=zz (zH aa hg);have ay:=zz (zI aa hg);replace aa:=zz (zJ aa hb);have az:=zz (zH ab hg);have aA:=zz (zI ab hg);replace ab:=zz (zJ ab hb);clear hb hbox hg;have b9:=av.out;have ca:=aw.out;have cb:=ax.out;have cc:=ay.out;obtain⟨bO,bP,bQ,bR,bS,bT,bU,bV,bW,bX⟩:=zc5 aa.out;have b7:=aA.out;have b8:=az.out;obtain⟨aV,aW,aX,aY,aZ,a0,a1,a2,a3,a4⟩:=zc5 ac.out)|(refine zL 152 12 Tryz.func152 #[.slice ak ae.length al] ?_;(with_reducible refine(laws_toStringS.calls k _ _ ae ar _ ?s1 ?s2 A2.out).mono ?_);(case s1=>exact Kd.qB aL.out zb);(case s2=>exact aM.out);rintro e cf ⟨cd,rfl,aB,hb⟩;refine⟨_,rfl,?_⟩;have ap:=zz (Kd.qY aB (qF zb));replace aa:=zz (qS (g:=ao) (o:= .cells #[.string ag,.string ah,.slice ak ae.length al,.string ai,.slice am af.length an] 119 (0,0)) (yP aa.out) hb);replace ab:=zz (qS (g:=aj) (o:= .cells #[.string (⟨#[]⟩:ByteArray),.string (⟨#[]⟩:ByteArray),.slice none 0 0,.string (⟨#[]⟩:ByteArray),.slice none 0 0] 103 (0,0)) (yP ab.out) hb);replace ac:=zz (qS (g:=ad) (o:= .cells #[.string ag,.string ah,.slice none 0 0,.string (⟨#[]⟩:ByteArray),.slice none 0 0] 103 (0,0)) (yP ac.out) hb);replace HB:=zz (zv zb hb);(try clear hb);(try clear bY);(try clear hk);(try clear hi);(try clear aB);obtain⟨aC,aD,aT⟩:=Kd.qZ ap.out;subst aT;obtain⟨a5,a6,a7,a8,a9,ba,bb,bc,bd,be⟩:=zc5 ac.out;obtain⟨bf,bg,bh,bi,bj,bk,bl,bn,bo,bq⟩:=zc5 aa.out)|(refine zL 12 19 Tryz.func12 #[.slice am af.length an] ?_;(with_reducible refine(laws_toEntryS.calls k _ _ af au _ ?s1 ?s2 A3.out).mono ?_);(case s1=>exact Kd.qB aN.out zb);(case s2=>exact aO.out);rintro e cg ⟨ce,rfl,aB,hb⟩;refine⟨_,rfl,?_⟩;replace ap:=zz (Kd.R_below (by(with_reducible repeat(first|apply Kd.R_alloc|apply Kd.R_drewN|apply Kd.R_drew));exact(Kd.vC (Kd.R_far (p:=⟨ad,3,none⟩) (Kd.R_far (p:=⟨ad,2,none⟩) (Kd.R_types ap.out ac.out (by decide)) (fun _ hk=>hk.2) (.slice aC ar.length aD)) (fun _ hk=>hk.2) (.string ai)) (fun _ h_=>h_.1))) hb);have aK:=zz (Kd.qY aB (qF zb));replace aa:=zz (qS (g:=ao) (o:= .cells #[.string ag,.string ah,.slice ak ae.length al,.string ai,.slice am af.length an] 119 (0,0)) (yP aa.out) hb);replace ab:=zz (qS (g:=aj) (o:= .cells #[.string (⟨#[]⟩:ByteArray),.string (⟨#[]⟩:ByteArray),.slice none 0 0,.string (⟨#[]⟩:ByteArray),.slice none 0 0] 103 (0,0)) (yP ab.out) hb);replace ac:=zz (qS (g:=ad) (o:= .cells #[.string ag,.string ah,.slice aC ar.length aD,.string ai,.slice none 0 0] 103 (0,0)) (yP ac.out) hb);replace HB:=zz (zv zb hb);(try clear hb);(try clear bY);(try clear hk);(try clear hi);(try clear aB);obtain⟨aE,aF,aU⟩:=Kd.qZ aK.out;subst aU;obtain⟨br,bs,bu,bv,bw,bz,bA,bB,bC,bD⟩:=zc5 ac.out;obtain⟨bE,bF,bG,bH,bI,bJ,bK,bL,bM,bN⟩:=zc5 ab.out))
 refine bodyPost_ret (results_cell_row rfl _ _ aj 103 #[.string ag,.string ah,.slice aC ar.length aD,.string ai,.slice aE au.length aF] (0,0) _ rfl (yP ab.out) Tryz.underlying103 rfl zk) rfl ?_
 exact⟨_,_,ze,yV (Kd.R_far (p:=⟨ad,4,none⟩) (Kd.R_types (Kd.R_types ap.out ac.out (by decide)) ab.out (by decide)) (fun _ hk=>hk.1.2) (.slice aE au.length aF)),yV (Kd.R_far (p:=⟨ad,4,none⟩) (Kd.R_types (Kd.R_types aK.out ac.out (by decide)) ab.out (by decide)) (fun _ hk=>hk.1.2) (.slice aE au.length aF)),zb⟩
section
attribute [local go_sem] run_store_one
def laws_toItemS.l0:Nat→List (S119)→List (S103)→Int→Option ((List (S103)))
 |0,_,_,_=>none
 |k+1,x0,x3,x4=>if x4<(x0.length:Int) then(if 0≤x4 then((laws_toItem.f k ((rd_T119 x0 x4).f0) ((rd_T119 x0 x4).f1) ((rd_T119 x0 x4).f2) ((rd_T119 x0 x4).f3) ((rd_T119 x0 x4).f4)).bind fun aa=>(if x4<(x3.length:Int) then(laws_toItemS.l0 k x0 (x3.set (x4:Int).toNat (⟨aa.1,aa.2.1,aa.2.2.1,aa.2.2.2.1,aa.2.2.2.2⟩:S103)) (wrap64 (x4+1))) else(none))) else(none)) else(some x3)
def laws_toItemS.f(k:Nat)(l0:List (S119)):Option ((List (S103))):=if 0≤(l0.length:Int) then(if((l0.length:Int):Int).toNat≤2932031007402 then(laws_toItemS.l0 k l0 (List.replicate ((l0.length:Int):Int).toNat z103) 0) else(none)) else(none)
theorem laws_toItemS.calls(k:Nat)(A0:Option Addr)(c0:Nat)(l0:List (S119))(r:List (S103))(w:World)(bq:Kd.C k119 w A0 l0.length l0)(br:l0.length≤c0)(h:laws_toItemS.f k l0=some r):
 Calls Tryz.prog 48 #[.slice A0 l0.length c0] w fun e w'=>∃bs:Value,e= .returned (bs)∧Kd.S k103 103 w' w.heap.size (fun _=>True) bs r∧Below w.heap.size w w':=by
 have b0:=Tryz.underlying119
 have b1:=Tryz.underlying103
 have bI:=zz bq
 have cd:=zz br
 clear bq br
 have HB:=yB w
 unfold laws_toItemS.f at h
 have H:=h
 clear h
 replace H:=yA H
 obtain⟨c2,H⟩:=H
 have bw:=eq_true c2
 have bz:=z1 c2
 clear c2
 replace H:=yA H
 obtain⟨c3,H⟩:=H
 have bA:=eq_true c3
 have bB:=z1 c3
 clear c3
 obtain⟨aQ,aj⟩:∃y_:List (S103),y_=(List.replicate ((l0.length:Int):Int).toNat z103):=⟨_,rfl⟩
 replace H:(laws_toItemS.l0 k l0 aQ 0)=some r:=by first|(rw[aj];with_reducible exact H)|(have ar:=(Option.bind_some _ _).symm.trans H;rw[aj];with_reducible exact ar)|(have ar:=(Option.bind_some _ _).symm.trans H;with_reducible exact ar)|with_reducible exact H|(rw[aj];exact H)|exact H
 have aL:=zz aj
 clear aj
 have H':=zz H
 clear H
 go_enter Tryz.func48,Tryz.ntmps48
 go_wp2_with(first|(refine zN 7 ?_;refine Kd.S_make k103 _ 103 rfl (N:=7) rfl 33 _ _ rfl (l0.length:Int) rfl rfl Tryz.underlying33 (.agg #[(.string ⟨#[]⟩),(.string ⟨#[]⟩),(.slice none 0 0),(.string ⟨#[]⟩),(.slice none 0 0)]) 96 info103 rfl (by decide) (by omega) z103 (ok:=fun _=>True) (okp:=fun _=>True) (k103_mkM _ _ _ z103 (Kd.R_nil _ _ _ _ _) (Kd.R_nil _ _ _ _ _)) (fun _ hk=>hk) trivial (z2) (Nat.le_trans (Nat.mul_le_mul_right _ (z2:(l0.length:Int).toNat≤2932031007402)) (by omega)) (Below.refl _ _) (Nat.le_refl _) ?_;intro bC w4 aI hb hg_ hnew_;clear hg_ hnew_;(first|rw[←aL.out] at aI|(simp only[Int.reduceToNat] at aI;rw[←aL.out] at aI));have bk:=zz (Kd.S_lower aI (qF zb));replace HB:=zz (zv zb hb);clear hb aI))
 go_loopg[4] k (fun kq v4 w'=>∃(ad:List (S103)) (aa:Int),v4= .int .i64 aa∧qC (laws_toItemS.l0 kq l0 ad aa=some r)∧qC (kq≤k)∧qC (Kd.S k103 103 w' w.heap.size (fun _=>True) bC ad)∧qC (Below w.heap.size w w'))
 case atStart=>exact⟨(aQ),(0),zr,H',⟨Nat.le_refl _⟩,⟨zS bk.out⟩,⟨zb⟩⟩
 case round=>
  clear H'
  try clear c2
  try clear bw
  try clear bz
  try clear p2
  try clear c3
  try clear bA
  try clear bB
  try clear c4
  obtain⟨ad,aa,rfl,HA,bu,ac,HB⟩:=hrel
  cases gk with
  |zero=>exact absurd HA.out (by simp[laws_toItemS.l0])
  |succ k1=>
   have H:=HA.out
   clear HA
   simp only[laws_toItemS.l0] at H
   refine yDn H ?_ ?_<;>clear H<;>intro b4 H
   ·obtain rfl:=zi H
    go_wp2
    go_ret
    exact⟨_,ze,zS ac.out,zb⟩
   replace H:=yAD H
   obtain⟨b5,H⟩:=H
   replace H:=zf H
   obtain⟨⟨al,am,aE,an,aF⟩,bv,H⟩:=H
   try dsimp only at H
   have A8:=zz bv
   clear bv
   replace H:=yAD H
   obtain⟨b6,H⟩:=H
   obtain⟨aJ,ak⟩:∃y_:List (S103),y_=(ad.set (aa:Int).toNat (⟨al,am,aE,an,aF⟩:S103)):=⟨_,rfl⟩
   replace H:(laws_toItemS.l0 k1 l0 aJ (wrap64 (aa+1)))=some r:=by first|(rw[ak];with_reducible exact H)|(have ar:=(Option.bind_some _ _).symm.trans H;rw[ak];with_reducible exact ar)|(have ar:=(Option.bind_some _ _).symm.trans H;with_reducible exact ar)|with_reducible exact H|(rw[ak];exact H)|exact H
   have bl:=zz ak
   clear ak
   have H':=zz H
   clear H
   have b7:=yt (0≤(aa:Int))
   have b8:=yt (aa<(l0.length:Int))
   obtain⟨b2,aR,aS,aT,aU,bD,av,aw,ax,ay,az,aA,aB,aC,aD⟩:=at_T119 bI.out aa z2 z2
   cases bD
   replace av:=z3 HB.out av
   replace aw:=z3 HB.out aw
   replace ax:=z3 HB.out ax
   replace ay:=z3 HB.out ay
   replace az:=z3 HB.out az
   have aM:=zz aB
   have aN:=zz aA
   clear aB aA
   have aO:=zz aD
   have aP:=zz aC
   clear aD aC
   go_wp2_with(first|(refine zL 95 20 Tryz.func95 #[.agg #[.string ((rd_T119 l0 aa).f0),.string ((rd_T119 l0 aa).f1),.slice aR ((rd_T119 l0 aa).f2).length aS,.string ((rd_T119 l0 aa).f3),.slice aT ((rd_T119 l0 aa).f4).length aU]] ?_;(with_reducible refine(laws_toItem.calls k1 ((rd_T119 l0 aa).f0) ((rd_T119 l0 aa).f1) _ _ ((rd_T119 l0 aa).f2) ((rd_T119 l0 aa).f3) _ _ ((rd_T119 l0 aa).f4) al am aE an aF _ ?s1 ?s2 ?s3 ?s4 A8.out).mono ?_);(case s1=>exact zc aM.out);(case s2=>exact aN.out);(case s3=>exact zc aO.out);(case s4=>exact aP.out);rintro e ae ⟨aG,aH,rfl,aV,aW,hb⟩;refine⟨_,rfl,?_⟩;replace ac:=zz (Kd.S_mono (Kd.S_told (Kd.S_told (Kd.S_old (zS ac.out) hb) (Kd.R_base aV)) (Kd.R_base aW)) (fun _ h_=>h_.1));have ao:=zz (Kd.qY aV (qF zb));have ap:=zz (Kd.qY aW (qF zb));replace HB:=zz (zv zb hb);(try clear hb);(try clear ce);(try clear hk);(try clear hi);(try clear aV);(try clear aW);have aX:0≤(aa:Int):=z2;have aY:(aa:Int)<((ad.length:Int):Int):=z2;obtain⟨ab,aZ,a0,a1,bE,b9,a2⟩:=Kd.S_form ac.out (by omega);(first|cases a0|(injection a0 with ea_ en_ ec_;(first|subst ea_|(injection ea_ with ea_;subst ea_));subst ec_;clear en_));have au:=zz a1;have ca:=zz a2;clear a1 bE a2;obtain⟨_,cb,bn,a3,af,ag,_,_⟩:=Kd.S_elem ac.out z103 (aa:Int) aX aY;obtain⟨a4,a5,rfl,bJ,bK⟩:=k103_openM a3;have bL:ae.cell? ⟨ab,(aa:Int).toNat*5,none⟩=some (.string ((qE ad aa).f0)):=af 0 _ rfl;have bM:ae.cell? ⟨ab,(aa:Int).toNat*5+1,none⟩=some (.string ((qE ad aa).f1)):=af 1 _ rfl;have bN:ae.cell? ⟨ab,(aa:Int).toNat*5+2,none⟩=some (a4):=af 2 _ rfl;have bO:ae.cell? ⟨ab,(aa:Int).toNat*5+3,none⟩=some (.string ((qE ad aa).f3)):=af 3 _ rfl;have bP:ae.cell? ⟨ab,(aa:Int).toNat*5+4,none⟩=some (a5):=af 4 _ rfl;have bQ:ae.frozen? ⟨ab,(aa:Int).toNat*5,none⟩=false:=ag 0;have bR:ae.frozen? ⟨ab,(aa:Int).toNat*5+1,none⟩=false:=ag 1;have bS:ae.frozen? ⟨ab,(aa:Int).toNat*5+2,none⟩=false:=ag 2;have bT:ae.frozen? ⟨ab,(aa:Int).toNat*5+3,none⟩=false:=ag 3;have bU:ae.frozen? ⟨ab,(aa:Int).toNat*5+4,none⟩=false:=ag 4;clear bn af ag a3;replace aX:=eq_true aX;replace aY:=eq_true aY;have n_:=zz (Kd.S_mono (ok':=(fun k_=>some k_≠(aG:Value).ownBlock∧some k_≠(aH:Value).ownBlock)) ac.out (fun k_ hk=>⟨hk.1.2,hk.2⟩));clear ac;have ac:=n_;clear n_;have bF:=zz (show Kd.S k103 103 ae w.heap.size (fun k_=>((fun _=>True)) k_∧¬((fun k_=>some k_=(aG:Value).ownBlock∨some k_=(aH:Value).ownBlock)) k_) (.slice (some ⟨ab,0,none⟩) ad.length aZ) ad from(by(with_reducible repeat(first|apply Kd.S_alloc|apply Kd.S_drewN|apply Kd.S_drew));exact Kd.S_mono ac.out (fun k_ hk=>⟨trivial,fun e_=>e_.elim (fun h_=>hk.1 h_) (fun h_=>hk.2 h_)⟩)));obtain⟨b3,cc,bo,a6,ah,ai,a7,a8⟩:=Kd.S_elem bF.out z103 (aa:Int) (z2) (by have h_:(aa:Int)<((ad.length:Int):Int):=z2;first|exact h_|(have e_:=(Kd.S_reads' ac.out).1;omega)|simpa using h_);obtain⟨bV,bW,rfl,bX,bY⟩:=k103_openM a6;have aK:=Kd.S_seg a8 (z2) (by have h_:(aa:Int)<((ad.length:Int):Int):=z2;first|exact h_|(have e_:=(Kd.S_reads' ac.out).1;omega)|simpa using h_) (seg:=[.string al,.string am,aG,.string an,aH]) (j:=0) (show 5≤5 from by decide) (x':=(⟨al,am,aE,an,aF⟩:S103)) (k103_mkM _ _ _ (⟨al,am,aE,an,aF⟩:S103) (Kd.vC (Kd.R_tight rfl (Kd.vC (ok':=fun k_=>((fun _=>True)) k_∧k_≠ab) (Kd.R_apart' (ao.out) (Kd.S_typed ac.out) (by decide)) (fun k_ hk=>⟨trivial,fun e_=>(hk.2) (by rw[e_];rfl)⟩))) (fun _ h_=>Or.inr (Or.inl h_))) (Kd.vC (Kd.R_tight rfl (Kd.vC (ok':=fun k_=>((fun _=>True)) k_∧k_≠ab) (Kd.R_apart' (ap.out) (Kd.S_typed ac.out) (by decide)) (fun k_ hk=>⟨trivial,fun e_=>(hk.2) (by rw[e_];rfl)⟩))) (fun _ h_=>Or.inr (Or.inr (h_))))) (fun _ hk=>hk) (fun k_ hk_=>hk_.elim (fun h_=>((Kd.vC (ok':=fun k_=>((fun _=>True)) k_∧k_≠ab) (Kd.R_apart' (ao.out) (Kd.S_typed ac.out) (by decide)) (fun k_ hk=>⟨trivial,fun e_=>(hk.2) (by rw[e_];rfl)⟩))).1 k_ h_.symm) (fun h_=>((Kd.vC (ok':=fun k_=>((fun _=>True)) k_∧k_≠ab) (Kd.R_apart' (ap.out) (Kd.S_typed ac.out) (by decide)) (fun k_ hk=>⟨trivial,fun e_=>(hk.2) (by rw[e_];rfl)⟩))).1 k_ h_.symm));have a9:=ah 0 _ rfl;(try simp only[show(k103).sz=5 from rfl,Nat.mul_one,Nat.add_zero] at a9);have ba:=ai 0;(try simp only[show(k103).sz=5 from rfl,Nat.mul_one,Nat.add_zero] at ba);have bb:=ah 1 _ rfl;(try simp only[show(k103).sz=5 from rfl,Nat.mul_one,Nat.add_zero] at bb);have bc:=ai 1;(try simp only[show(k103).sz=5 from rfl,Nat.mul_one,Nat.add_zero] at bc);have bd:=ah 2 _ rfl;(try simp only[show(k103).sz=5 from rfl,Nat.mul_one,Nat.add_zero] at bd);have be:=ai 2;(try simp only[show(k103).sz=5 from rfl,Nat.mul_one,Nat.add_zero] at be);have bf:=ah 3 _ rfl;(try simp only[show(k103).sz=5 from rfl,Nat.mul_one,Nat.add_zero] at bf);have bg:=ai 3;(try simp only[show(k103).sz=5 from rfl,Nat.mul_one,Nat.add_zero] at bg);have bh:=ah 4 _ rfl;(try simp only[show(k103).sz=5 from rfl,Nat.mul_one,Nat.add_zero] at bh);have bi:=ai 4;(try simp only[show(k103).sz=5 from rfl,Nat.mul_one,Nat.add_zero] at bi);clear bo ah ai a6 a7 a8;have bG:=R_one ao.out;have bH:=R_one ap.out)|((with_reducible refine qQ (t:=103) (p:=21) rfl ?_);refine qN (t:=103) (p:=21) (v:=?bZ) (w1:=(((((ae.setCell ⟨ab,(aa:Int).toNat*5,none⟩ (.string al)).setCell ⟨ab,(aa:Int).toNat*5+1,none⟩ (.string am)).setCell ⟨ab,(aa:Int).toNat*5+2,none⟩ (aG)).setCell ⟨ab,(aa:Int).toNat*5+3,none⟩ (.string an)).setCell ⟨ab,(aa:Int).toNat*5+4,none⟩ (aH))) ?hg ?ho ?hn ?hr ?_;(case ho=>rfl);(case hg=>rfl);(case hn=>rfl);(case hr=>first|(go_simp;done)|(go_simp;rfl));intro bj hw;have hg:ae.grownBy bj (some ab):=(by rw[hw];exact aK.2);have hp_:Kd.S k103 103 bj w.heap.size (fun _=>True) (.slice (some ⟨ab,0,none⟩) ad.length aZ) aJ:=(by rw[hw,bl.out];exact aK.1);clear aK;replace ac:=zz (hp_);replace HB:=zz ((by rw[hw];exact qJ (qJ (qJ (qJ (qJ (HB.out) au.out) au.out) au.out) au.out) au.out:Below w.heap.size w bj));clear ao ap;clear hg hw hp_))
   go_roundg k1
   case measure=>have:=bu.out;omega
   case rel=>exact⟨(aJ),(wrap64 (aa+1)),zr,H',⟨by have:=bu.out;omega⟩,⟨zS ac.out⟩,⟨zb⟩⟩
end
def laws_toGen.f(aa:Int)(ab:ByteArray):Option (Int×ByteArray):=some (aa,ab)
theorem laws_toGen.calls(ac:Int)(ad:ByteArray)(r1:Int)(r2:ByteArray)(w:World)(h:laws_toGen.f ac ad=some (r1,r2)):
 Calls Tryz.prog 183 #[.agg #[.int .i64 ac,.string ad]] w fun e w'=>e= .returned (.agg #[.int .i64 r1,.string r2])∧Below w.heap.size w w':=by
 have aD:=Tryz.underlying206
 have aE:=Tryz.underlying139
 have HB:=yB w
 unfold laws_toGen.f at h
 have H:=h
 clear h
 simp only[Option.some.injEq,Prod.mk.injEq] at H
 obtain⟨rfl,rfl⟩:=H
 go_enter Tryz.func183,Tryz.ntmps183
 go_wp2_with(first|(refine zX 1 206 #[.int .i64 ac,.string ad] ?_;intro al hg w2 hbox hb;have aa:=zz (hbox);have aF:=zz ((zg:w.heap.size≤al));have aG:=zz ((zg:w.heap.size≤al));replace HB:=zz (zv zb hb);clear hb hbox hg)|(refine zX 2 139 #[.int .i64 0,.string (⟨#[]⟩:ByteArray)] ?_;intro ae hg w3 hbox hb;have ab:=zz (hbox);have aH:=zz ((zg:w.heap.size≤ae));have aI:=zz ((zg:w.heap.size≤ae));replace HB:=zz (zv zb hb);have af:=zz (zH aa hg);have ag:=zz (zI aa hg);replace aa:=zz (zJ aa hb);clear hb hbox hg)|(refine zX 3 139 #[.int .i64 0,.string (⟨#[]⟩:ByteArray)] ?_;intro am hg w4 hbox hb;have an:=zz (hbox);have aJ:=zz ((zg:w.heap.size≤am));have aK:=zz ((zg:w.heap.size≤am));replace HB:=zz (zv zb hb);have ah:=zz (zH aa hg);have ai:=zz (zI aa hg);replace aa:=zz (zJ aa hb);have aj:=zz (zH ab hg);have ak:=zz (zI ab hg);replace ab:=zz (zJ ab hb);clear hb hbox hg;have aL:=af.out;have aM:=ag.out;have aN:=ah.out;have aO:=ai.out;obtain⟨av,aw,ax,ay⟩:=zc2 aa.out;have aP:=ak.out;have aQ:=aj.out;obtain⟨az,aA,aB,aC⟩:=zc2 an.out;obtain⟨ao,ap,ar,au⟩:=zc2 ab.out))
 refine bodyPost_ret (results_cell_row rfl _ _ ae 139 #[.int .i64 ac,.string ad] (0,0) _ rfl (yP ab.out) Tryz.underlying139 rfl zk) rfl ?_
 exact⟨ze,zb⟩
def laws_toGenS.l0:Nat→List (S206)→List (S139)→Int→Option ((List (S139)))
 |0,_,_,_=>none
 |k+1,x0,x3,x4=>if x4<(x0.length:Int) then(if 0≤x4 then((laws_toGen.f ((rd_T206 x0 x4).f0) ((rd_T206 x0 x4).f1)).bind fun aa=>(if x4<(x3.length:Int) then(laws_toGenS.l0 k x0 (x3.set (x4:Int).toNat (⟨aa.1,aa.2⟩:S139)) (wrap64 (x4+1))) else(none))) else(none)) else(some x3)
def laws_toGenS.f(k:Nat)(l0:List (S206)):Option ((List (S139))):=if 0≤(l0.length:Int) then(if((l0.length:Int):Int).toNat≤11728124029610 then(laws_toGenS.l0 k l0 (List.replicate ((l0.length:Int):Int).toNat z139) 0) else(none)) else(none)
theorem laws_toGenS.calls(k:Nat)(A0:Option Addr)(c0:Nat)(l0:List (S206))(r:List (S139))(w:World)(aR:Kd.C k206 w A0 l0.length l0)(aS:l0.length≤c0)(h:laws_toGenS.f k l0=some r):
 Calls Tryz.prog 153 #[.slice A0 l0.length c0] w fun e w'=>∃aT:Value,e= .returned (aT)∧Kd.R k139 139 w' w.heap.size (fun _=>True) aT r∧Below w.heap.size w w':=by
 have a9:=Tryz.underlying206
 have ba:=Tryz.underlying139
 have a3:=zz aR
 have bl:=zz aS
 clear aR aS
 have HB:=yB w
 unfold laws_toGenS.f at h
 have H:=h
 clear h
 replace H:=yA H
 obtain⟨c2,H⟩:=H
 have aW:=eq_true c2
 have aX:=z1 c2
 clear c2
 replace H:=yA H
 obtain⟨c3,H⟩:=H
 have aY:=eq_true c3
 have aZ:=z1 c3
 clear c3
 obtain⟨ay,ae⟩:∃y_:List (S139),y_=(List.replicate ((l0.length:Int):Int).toNat z139):=⟨_,rfl⟩
 replace H:(laws_toGenS.l0 k l0 ay 0)=some r:=by first|(rw[ae];with_reducible exact H)|(have aj:=(Option.bind_some _ _).symm.trans H;rw[ae];with_reducible exact aj)|(have aj:=(Option.bind_some _ _).symm.trans H;with_reducible exact aj)|with_reducible exact H|(rw[ae];exact H)|exact H
 have aw:=zz ae
 clear ae
 have H':=zz H
 clear H
 go_enter Tryz.func153,Tryz.ntmps153
 go_wp2_with(first|(refine zN 7 ?_;refine Kd.R_make k139 _ 139 rfl (N:=7) rfl 135 _ _ rfl (l0.length:Int) rfl rfl Tryz.underlying135 (.agg #[(.int .i64 0),(.string ⟨#[]⟩)]) 24 info139 rfl (by decide) (by omega) z139 (ok:=fun _=>True) (okp:=fun _=>True) (k139_mkM _ _ _ z139) (fun _ hk=>hk) trivial (z2) (Nat.le_trans (Nat.mul_le_mul_right _ (z2:(l0.length:Int).toNat≤11728124029610)) (by omega)) (Below.refl _ _) (Nat.le_refl _) ?_;intro a0 w4 ar hb hg_ hnew_;clear hg_ hnew_;(first|rw[←aw.out] at ar|(simp only[Int.reduceToNat] at ar;rw[←aw.out] at ar));have aO:=zz (Kd.qY ar (qF zb));replace HB:=zz (zv zb hb);clear hb ar))
 go_loopg[4] k (fun kq v4 w'=>∃(ab:List (S139)) (aa:Int),v4= .int .i64 aa∧qC (laws_toGenS.l0 kq l0 ab aa=some r)∧qC (kq≤k)∧qC (Kd.R k139 139 w' w.heap.size (fun _=>True) a0 ab)∧qC (Below w.heap.size w w'))
 case atStart=>exact⟨(ay),(0),zr,H',⟨Nat.le_refl _⟩,⟨zR aO.out⟩,⟨zb⟩⟩
 case round=>
  clear H'
  try clear c1
  try clear c2
  try clear aW
  try clear aX
  try clear p2
  try clear c3
  try clear aY
  try clear aZ
  obtain⟨ab,aa,rfl,HA,aU,ac,HB⟩:=hrel
  cases gk with
  |zero=>exact absurd HA.out (by simp[laws_toGenS.l0])
  |succ k1=>
   have H:=HA.out
   clear HA
   simp only[laws_toGenS.l0] at H
   refine yDn H ?_ ?_<;>clear H<;>intro bc H
   ·obtain rfl:=zi H
    go_wp2
    go_ret
    exact⟨_,ze,zR ac.out,zb⟩
   replace H:=yAD H
   obtain⟨bd,H⟩:=H
   replace H:=zf H
   obtain⟨⟨ag,ah⟩,aV,H⟩:=H
   try dsimp only at H
   have A8:=zz aV
   clear aV
   replace H:=yAD H
   obtain⟨be,H⟩:=H
   obtain⟨au,af⟩:∃y_:List (S139),y_=(ab.set (aa:Int).toNat (⟨ag,ah⟩:S139)):=⟨_,rfl⟩
   replace H:(laws_toGenS.l0 k1 l0 au (wrap64 (aa+1)))=some r:=by first|(rw[af];with_reducible exact H)|(have aj:=(Option.bind_some _ _).symm.trans H;rw[af];with_reducible exact aj)|(have aj:=(Option.bind_some _ _).symm.trans H;with_reducible exact aj)|with_reducible exact H|(rw[af];exact H)|exact H
   have aP:=zz af
   clear af
   have H':=zz H
   clear H
   have bf:=yt (0≤(aa:Int))
   have bg:=yt (aa<(l0.length:Int))
   obtain⟨bb,a1,al,am⟩:=at_T206 a3.out aa z2 z2
   cases a1
   replace al:=z3 HB.out al
   replace am:=z3 HB.out am
   go_wp2_with(first|(refine zL 183 20 Tryz.func183 #[.agg #[.int .i64 ((rd_T206 l0 aa).f0),.string ((rd_T206 l0 aa).f1)]] ?_;(with_reducible refine(laws_toGen.calls ((rd_T206 l0 aa).f0) ((rd_T206 l0 aa).f1) ag ah _ A8.out).mono ?_);rintro e ak ⟨rfl,hb⟩;refine⟨_,rfl,?_⟩;replace ac:=zz (Kd.R_below (zR ac.out) hb);replace HB:=zz (zv zb hb);(try clear hb);(try clear bn);(try clear hk);(try clear hi);have az:0≤(aa:Int):=z2;have aA:(aa:Int)<((ab.length:Int):Int):=z2;obtain⟨ad,aB,aC,aD,a2,bh,aE⟩:=Kd.R_form ac.out (by omega);(first|cases aC|(injection aC with ea_ en_ ec_;(first|subst ea_|(injection ea_ with ea_;subst ea_));subst ec_;clear en_));have aF:=zz aD;have bi:=zz aE;clear aD a2 aE;obtain⟨bj,aQ,aG,an,ao⟩:=Kd.R_elem ac.out z139 (aa:Int) az aA;obtain rfl:=k139_openM aG;have a4:ak.cell? ⟨ad,(aa:Int).toNat*2,none⟩=some (.int .i64 ((qP ab aa).f0)):=an 0 _ rfl;have a5:ak.cell? ⟨ad,(aa:Int).toNat*2+1,none⟩=some (.string ((qP ab aa).f1)):=an 1 _ rfl;have a6:ak.frozen? ⟨ad,(aa:Int).toNat*2,none⟩=false:=ao 0;have a7:ak.frozen? ⟨ad,(aa:Int).toNat*2+1,none⟩=false:=ao 1;clear aQ an ao aG;replace az:=eq_true az;replace aA:=eq_true aA;have aH:=zz (show Kd.R k139 139 ak w.heap.size (fun _=>True) (.slice (some ⟨ad,0,none⟩) ab.length aB) ab from(zR ac.out));obtain⟨bk,ax,aI,ai,ap⟩:=Kd.R_elem aH.out z139 (aa:Int) (z2) (by have h_:(aa:Int)<((ab.length:Int):Int):=z2;first|exact h_|(have e_:=(Kd.qM ac.out).1;omega)|simpa using h_);obtain rfl:=k139_openM aI;have av:=Kd.R_seg aH.out (aa:Int) (z2) (by have h_:(aa:Int)<((ab.length:Int):Int):=z2;first|exact h_|(have e_:=(Kd.qM ac.out).1;omega)|simpa using h_) (seg:=[.int .i64 ag,.string ah]) (j:=0) ax ai (show 2≤2 from by decide) (x':=(⟨ag,ah⟩:S139)) (k139_mkM _ _ _ (⟨ag,ah⟩:S139)) (fun _ hk=>hk);have aJ:=ai 0 _ rfl;(try simp only[show(k139).sz=2 from rfl,Nat.mul_one,Nat.add_zero] at aJ);have aK:=ap 0;(try simp only[show(k139).sz=2 from rfl,Nat.mul_one,Nat.add_zero] at aK);have aL:=ai 1 _ rfl;(try simp only[show(k139).sz=2 from rfl,Nat.mul_one,Nat.add_zero] at aL);have aM:=ap 1;(try simp only[show(k139).sz=2 from rfl,Nat.mul_one,Nat.add_zero] at aM);clear ax ai ap aI)|((with_reducible refine qQ (t:=139) (p:=21) rfl ?_);refine qN (t:=139) (p:=21) (v:=?a8) (w1:=((ak.setCell ⟨ad,(aa:Int).toNat*2,none⟩ (.int .i64 ag)).setCell ⟨ad,(aa:Int).toNat*2+1,none⟩ (.string ah))) ?hg ?ho ?hn ?hr ?_;(case ho=>rfl);(case hg=>rfl);(case hn=>rfl);(case hr=>first|(go_simp;done)|(go_simp;rfl));intro aN hw;have hg:ak.grownBy aN (some ad):=(by rw[hw];exact av.2);have hp_:Kd.R k139 139 aN w.heap.size (fun _=>True) (.slice (some ⟨ad,0,none⟩) ab.length aB) au:=(by rw[hw,aP.out];exact av.1);clear av;replace ac:=zz (hp_);replace HB:=zz ((by rw[hw];exact qJ (qJ (HB.out) aF.out) aF.out:Below w.heap.size w aN));clear hg hw hp_))
   go_roundg k1
   case measure=>have:=aU.out;omega
   case rel=>exact⟨(au),(wrap64 (aa+1)),zr,H',⟨by have:=aU.out;omega⟩,⟨zR ac.out⟩,⟨zb⟩⟩
def laws_toProfile.f(k:Nat)(aa:ByteArray)(ab:Int)(ac:List (S206)):Option (ByteArray×Int×(List (S139))):=(laws_toGenS.f k ac).bind fun ad=>(some (aa,ab,ad))
theorem laws_toProfile.calls(k:Nat)(ae:ByteArray)(af:Int)(ai:Option Addr)(aj:Nat)(ac:List (S206))(r1:ByteArray)(r2:Int)(r3:List (S139))(w:World)(av:Kd.C k206 w ai ac.length ac)(aw:ac.length≤aj)(h:laws_toProfile.f k ae af ac=some (r1,r2,r3)):
 Calls Tryz.prog 96 #[.agg #[.string ae,.int .i64 af,.slice ai ac.length aj]] w fun e w'=>∃aC:Value,e= .returned (.agg #[.string r1,.int .i64 r2,aC])∧Kd.R k139 139 w' w.heap.size (fun _=>True) aC r3∧Below w.heap.size w w':=by
 have a4:=Tryz.underlying123
 have a5:=Tryz.underlying137
 have aA:=zz av
 have aB:=zz aw
 clear av aw
 have HB:=yB w
 unfold laws_toProfile.f at h
 have H:=h
 clear h
 replace H:=zf H
 obtain⟨au,aD,H⟩:=H
 try dsimp only at H
 have A2:=zz aD
 clear aD
 simp only[Option.some.injEq,Prod.mk.injEq] at H
 obtain⟨rfl,rfl,rfl⟩:=H
 go_enter Tryz.func96,Tryz.ntmps96
 go_wp2_with(first|(refine zX 1 123 #[.string ae,.int .i64 af,.slice ai ac.length aj] ?_;intro ak hg w3 hbox hb;have aa:=zz (hbox);have a6:=zz ((zg:w.heap.size≤ak));have a7:=zz ((zg:w.heap.size≤ak));replace HB:=zz (zv zb hb);clear hb hbox hg)|(refine zX 2 137 #[.string (⟨#[]⟩:ByteArray),.int .i64 0,.slice none 0 0] ?_;intro ag hg w4 hbox hb;have ab:=zz (hbox);have a8:=zz ((zg:w.heap.size≤ag));have a9:=zz ((zg:w.heap.size≤ag));replace HB:=zz (zv zb hb);have al:=zz (zH aa hg);have am:=zz (zI aa hg);replace aa:=zz (zJ aa hb);clear hb hbox hg)|(refine zX 3 137 #[.string (⟨#[]⟩:ByteArray),.int .i64 0,.slice none 0 0] ?_;intro ah hg w5 hbox hb;have ad:=zz (hbox);have ba:=zz ((zg:w.heap.size≤ah));have bb:=zz ((zg:w.heap.size≤ah));replace HB:=zz (zv zb hb);have an:=zz (zH aa hg);have ao:=zz (zI aa hg);replace aa:=zz (zJ aa hb);have ap:=zz (zH ab hg);have ar:=zz (zI ab hg);replace ab:=zz (zJ ab hb);clear hb hbox hg;have bc:=al.out;have bd:=am.out;have be:=an.out;have bf:=ao.out;obtain⟨aY,aZ,a0,a1,a2,a3⟩:=zc3 aa.out;have bg:=ar.out;have bh:=ap.out;obtain⟨aG,aH,aI,aJ,aK,aL⟩:=zc3 ad.out)|(refine zL 153 12 Tryz.func153 #[.slice ai ac.length aj] ?_;(with_reducible refine(laws_toGenS.calls k _ _ ac au _ ?s1 ?s2 A2.out).mono ?_);(case s1=>exact Kd.qB aA.out zb);(case s2=>exact aB.out);rintro e bj ⟨bi,rfl,aE,hb⟩;refine⟨_,rfl,?_⟩;have ax:=zz (Kd.qY aE (qF zb));replace aa:=zz (qS (g:=ak) (o:= .cells #[.string ae,.int .i64 af,.slice ai ac.length aj] 123 (0,0)) (yP aa.out) hb);replace ab:=zz (qS (g:=ag) (o:= .cells #[.string (⟨#[]⟩:ByteArray),.int .i64 0,.slice none 0 0] 137 (0,0)) (yP ab.out) hb);replace ad:=zz (qS (g:=ah) (o:= .cells #[.string ae,.int .i64 af,.slice none 0 0] 137 (0,0)) (yP ad.out) hb);replace HB:=zz (zv zb hb);(try clear hb);(try clear bk);(try clear hk);(try clear hi);(try clear aE);obtain⟨ay,az,aF⟩:=Kd.qZ ax.out;subst aF;obtain⟨aM,aN,aO,aP,aQ,aR⟩:=zc3 ad.out;obtain⟨aS,aT,aU,aV,aW,aX⟩:=zc3 ab.out))
 refine bodyPost_ret (results_cell_row rfl _ _ ag 137 #[.string ae,.int .i64 af,.slice ay au.length az] (0,0) _ rfl (yP ab.out) Tryz.underlying137 rfl zk) rfl ?_
 exact⟨_,ze,yV (Kd.R_far (p:=⟨ah,2,none⟩) (Kd.R_types (Kd.R_types ax.out ad.out (by decide)) ab.out (by decide)) (fun _ hk=>hk.1.2) (.slice ay au.length az)),zb⟩
section
attribute [local go_sem] run_store_one
def laws_toProfileS.l0:Nat→List (S123)→List (S137)→Int→Option ((List (S137)))
 |0,_,_,_=>none
 |k+1,x0,x3,x4=>if x4<(x0.length:Int) then(if 0≤x4 then((laws_toProfile.f k ((rd_T123 x0 x4).f0) ((rd_T123 x0 x4).f1) ((rd_T123 x0 x4).f2)).bind fun aa=>(if x4<(x3.length:Int) then(laws_toProfileS.l0 k x0 (x3.set (x4:Int).toNat (⟨aa.1,aa.2.1,aa.2.2⟩:S137)) (wrap64 (x4+1))) else(none))) else(none)) else(some x3)
def laws_toProfileS.f(k:Nat)(l0:List (S123)):Option ((List (S137))):=if 0≤(l0.length:Int) then(if((l0.length:Int):Int).toNat≤5864062014805 then(laws_toProfileS.l0 k l0 (List.replicate ((l0.length:Int):Int).toNat z137) 0) else(none)) else(none)
theorem laws_toProfileS.calls(k:Nat)(A0:Option Addr)(c0:Nat)(l0:List (S123))(r:List (S137))(w:World)(a6:Kd.C k123 w A0 l0.length l0)(a7:l0.length≤c0)(h:laws_toProfileS.f k l0=some r):
 Calls Tryz.prog 49 #[.slice A0 l0.length c0] w fun e w'=>∃a8:Value,e= .returned (a8)∧Kd.S k137 137 w' w.heap.size (fun _=>True) a8 r∧Below w.heap.size w w':=by
 have bA:=Tryz.underlying123
 have bB:=Tryz.underlying137
 have bk:=zz a6
 have bN:=zz a7
 clear a6 a7
 have HB:=yB w
 unfold laws_toProfileS.f at h
 have H:=h
 clear h
 replace H:=yA H
 obtain⟨c2,H⟩:=H
 have bb:=eq_true c2
 have bc:=z1 c2
 clear c2
 replace H:=yA H
 obtain⟨c3,H⟩:=H
 have bd:=eq_true c3
 have be:=z1 c3
 clear c3
 obtain⟨aG,ae⟩:∃y_:List (S137),y_=(List.replicate ((l0.length:Int):Int).toNat z137):=⟨_,rfl⟩
 replace H:(laws_toProfileS.l0 k l0 aG 0)=some r:=by first|(rw[ae];with_reducible exact H)|(have ao:=(Option.bind_some _ _).symm.trans H;rw[ae];with_reducible exact ao)|(have ao:=(Option.bind_some _ _).symm.trans H;with_reducible exact ao)|with_reducible exact H|(rw[ae];exact H)|exact H
 have aD:=zz ae
 clear ae
 have H':=zz H
 clear H
 go_enter Tryz.func49,Tryz.ntmps49
 go_wp2_with(first|(refine zN 7 ?_;refine Kd.S_make k137 _ 137 rfl (N:=7) rfl 34 _ _ rfl (l0.length:Int) rfl rfl Tryz.underlying34 (.agg #[(.string ⟨#[]⟩),(.int .i64 0),(.slice none 0 0)]) 48 info137 rfl (by decide) (by omega) z137 (ok:=fun _=>True) (okp:=fun _=>True) (k137_mkM _ _ _ z137 (Kd.R_nil _ _ _ _ _)) (fun _ hk=>hk) trivial (z2) (Nat.le_trans (Nat.mul_le_mul_right _ (z2:(l0.length:Int).toNat≤5864062014805)) (by omega)) (Below.refl _ _) (Nat.le_refl _) ?_;intro bf w4 az hb hg_ hnew_;clear hg_ hnew_;(first|rw[←aD.out] at az|(simp only[Int.reduceToNat] at az;rw[←aD.out] at az));have a2:=zz (Kd.S_lower az (qF zb));replace HB:=zz (zv zb hb);clear hb az))
 go_loopg[4] k (fun kq v4 w'=>∃(ad:List (S137)) (aa:Int),v4= .int .i64 aa∧qC (laws_toProfileS.l0 kq l0 ad aa=some r)∧qC (kq≤k)∧qC (Kd.S k137 137 w' w.heap.size (fun _=>True) bf ad)∧qC (Below w.heap.size w w'))
 case atStart=>exact⟨(aG),(0),zr,H',⟨Nat.le_refl _⟩,⟨zS a2.out⟩,⟨zb⟩⟩
 case round=>
  clear H'
  try clear c2
  try clear bb
  try clear bc
  try clear p2
  try clear c3
  try clear bd
  try clear be
  try clear c4
  obtain⟨ad,aa,rfl,HA,a9,ab,HB⟩:=hrel
  cases gk with
  |zero=>exact absurd HA.out (by simp[laws_toProfileS.l0])
  |succ k1=>
   have H:=HA.out
   clear HA
   simp only[laws_toProfileS.l0] at H
   refine yDn H ?_ ?_<;>clear H<;>intro bE H
   ·obtain rfl:=zi H
    go_wp2
    go_ret
    exact⟨_,ze,zS ab.out,zb⟩
   replace H:=yAD H
   obtain⟨bF,H⟩:=H
   replace H:=zf H
   obtain⟨⟨ah,ai,ax⟩,ba,H⟩:=H
   try dsimp only at H
   have A8:=zz ba
   clear ba
   replace H:=yAD H
   obtain⟨bG,H⟩:=H
   obtain⟨aA,af⟩:∃y_:List (S137),y_=(ad.set (aa:Int).toNat (⟨ah,ai,ax⟩:S137)):=⟨_,rfl⟩
   replace H:(laws_toProfileS.l0 k1 l0 aA (wrap64 (aa+1)))=some r:=by first|(rw[af];with_reducible exact H)|(have ao:=(Option.bind_some _ _).symm.trans H;rw[af];with_reducible exact ao)|(have ao:=(Option.bind_some _ _).symm.trans H;with_reducible exact ao)|with_reducible exact H|(rw[af];exact H)|exact H
   have a3:=zz af
   clear af
   have H':=zz H
   clear H
   have bH:=yt (0≤(aa:Int))
   have bI:=yt (aa<(l0.length:Int))
   obtain⟨bC,aH,aI,bg,ap,ar,au,av,aw⟩:=at_T123 bk.out aa z2 z2
   cases bg
   replace ap:=z3 HB.out ap
   replace ar:=z3 HB.out ar
   replace au:=z3 HB.out au
   have aE:=zz aw
   have aF:=zz av
   clear aw av
   go_wp2_with(first|(refine zL 96 20 Tryz.func96 #[.agg #[.string ((rd_T123 l0 aa).f0),.int .i64 ((rd_T123 l0 aa).f1),.slice aH ((rd_T123 l0 aa).f2).length aI]] ?_;(with_reducible refine(laws_toProfile.calls k1 ((rd_T123 l0 aa).f0) ((rd_T123 l0 aa).f1) _ _ ((rd_T123 l0 aa).f2) ah ai ax _ ?s1 ?s2 A8.out).mono ?_);(case s1=>exact zc aE.out);(case s2=>exact aF.out);rintro e ag ⟨ay,rfl,aJ,hb⟩;refine⟨_,rfl,?_⟩;replace ab:=zz (Kd.S_elder' (zS ab.out) (Kd.R_base aJ) hb);have aj:=zz (Kd.qY aJ (qF zb));replace HB:=zz (zv zb hb);(try clear hb);(try clear bO);(try clear hk);(try clear hi);(try clear aJ);have aK:0≤(aa:Int):=z2;have aL:(aa:Int)<((ad.length:Int):Int):=z2;obtain⟨ac,aM,aN,aO,bh,bJ,aP⟩:=Kd.S_form ab.out (by omega);(first|cases aN|(injection aN with ea_ en_ ec_;(first|subst ea_|(injection ea_ with ea_;subst ea_));subst ec_;clear en_));have aB:=zz aO;have bK:=zz aP;clear aO bh aP;obtain⟨_,bL,a4,aQ,ak,al,_,_⟩:=Kd.S_elem ab.out z137 (aa:Int) aK aL;obtain⟨aR,rfl,bl⟩:=k137_openM aQ;have bn:ag.cell? ⟨ac,(aa:Int).toNat*3,none⟩=some (.string ((qD ad aa).f0)):=ak 0 _ rfl;have bo:ag.cell? ⟨ac,(aa:Int).toNat*3+1,none⟩=some (.int .i64 ((qD ad aa).f1)):=ak 1 _ rfl;have bq:ag.cell? ⟨ac,(aa:Int).toNat*3+2,none⟩=some (aR):=ak 2 _ rfl;have br:ag.frozen? ⟨ac,(aa:Int).toNat*3,none⟩=false:=al 0;have bs:ag.frozen? ⟨ac,(aa:Int).toNat*3+1,none⟩=false:=al 1;have bu:ag.frozen? ⟨ac,(aa:Int).toNat*3+2,none⟩=false:=al 2;clear a4 ak al aQ;replace aK:=eq_true aK;replace aL:=eq_true aL;have n_:=zz (Kd.S_mono (ok':=(fun k_=>some k_≠(ay:Value).ownBlock)) ab.out (fun k_ hk=>hk.2));clear ab;have ab:=n_;clear n_;have bi:=zz (show Kd.S k137 137 ag w.heap.size (fun k_=>((fun _=>True)) k_∧¬((fun k_=>some k_=(ay:Value).ownBlock)) k_) (.slice (some ⟨ac,0,none⟩) ad.length aM) ad from(by(with_reducible repeat(first|apply Kd.S_alloc|apply Kd.S_drewN|apply Kd.S_drew));exact Kd.S_mono ab.out (fun k_ hk=>⟨trivial,fun e_=>hk e_⟩)));obtain⟨bD,bM,a5,aS,am,an,aT,aU⟩:=Kd.S_elem bi.out z137 (aa:Int) (z2) (by have h_:(aa:Int)<((ad.length:Int):Int):=z2;first|exact h_|(have e_:=(Kd.S_reads' ab.out).1;omega)|simpa using h_);obtain⟨bv,rfl,bw⟩:=k137_openM aS;have aC:=Kd.S_seg aU (z2) (by have h_:(aa:Int)<((ad.length:Int):Int):=z2;first|exact h_|(have e_:=(Kd.S_reads' ab.out).1;omega)|simpa using h_) (seg:=[.string ah,.int .i64 ai,ay]) (j:=0) (show 3≤3 from by decide) (x':=(⟨ah,ai,ax⟩:S137)) (k137_mkM _ _ _ (⟨ah,ai,ax⟩:S137) (Kd.vC (Kd.R_tight rfl (Kd.vC (ok':=fun k_=>((fun _=>True)) k_∧k_≠ac) (Kd.R_apart' (aj.out) (Kd.S_typed ab.out) (by decide)) (fun k_ hk=>⟨trivial,fun e_=>(hk.2) (by rw[e_];rfl)⟩))) (fun _ h_=>Or.inr (h_)))) (fun _ hk=>hk) (fun k_ hk_=>((Kd.vC (ok':=fun k_=>((fun _=>True)) k_∧k_≠ac) (Kd.R_apart' (aj.out) (Kd.S_typed ab.out) (by decide)) (fun k_ hk=>⟨trivial,fun e_=>(hk.2) (by rw[e_];rfl)⟩))).1 k_ hk_.symm);have aV:=am 0 _ rfl;(try simp only[show(k137).sz=3 from rfl,Nat.mul_one,Nat.add_zero] at aV);have aW:=an 0;(try simp only[show(k137).sz=3 from rfl,Nat.mul_one,Nat.add_zero] at aW);have aX:=am 1 _ rfl;(try simp only[show(k137).sz=3 from rfl,Nat.mul_one,Nat.add_zero] at aX);have aY:=an 1;(try simp only[show(k137).sz=3 from rfl,Nat.mul_one,Nat.add_zero] at aY);have aZ:=am 2 _ rfl;(try simp only[show(k137).sz=3 from rfl,Nat.mul_one,Nat.add_zero] at aZ);have a0:=an 2;(try simp only[show(k137).sz=3 from rfl,Nat.mul_one,Nat.add_zero] at a0);clear a5 am an aS aT aU;have bj:=R_one aj.out)|((with_reducible refine qQ (t:=137) (p:=21) rfl ?_);refine qN (t:=137) (p:=21) (v:=?bz) (w1:=(((ag.setCell ⟨ac,(aa:Int).toNat*3,none⟩ (.string ah)).setCell ⟨ac,(aa:Int).toNat*3+1,none⟩ (.int .i64 ai)).setCell ⟨ac,(aa:Int).toNat*3+2,none⟩ (ay))) ?hg ?ho ?hn ?hr ?_;(case ho=>rfl);(case hg=>rfl);(case hn=>rfl);(case hr=>first|(go_simp;done)|(go_simp;rfl));intro a1 hw;have hg:ag.grownBy a1 (some ac):=(by rw[hw];exact aC.2);have hp_:Kd.S k137 137 a1 w.heap.size (fun _=>True) (.slice (some ⟨ac,0,none⟩) ad.length aM) aA:=(by rw[hw,a3.out];exact aC.1);clear aC;replace ab:=zz (hp_);replace HB:=zz ((by rw[hw];exact qJ (qJ (qJ (HB.out) aB.out) aB.out) aB.out:Below w.heap.size w a1));clear aj;clear hg hw hp_))
   go_roundg k1
   case measure=>have:=a9.out;omega
   case rel=>exact⟨(aA),(wrap64 (aa+1)),zr,H',⟨by have:=a9.out;omega⟩,⟨zS ab.out⟩,⟨zb⟩⟩
end
end Go.Proofs.YtmdoobnlehkmpaaGreatDoor.Q
