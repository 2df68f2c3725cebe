import Derived.Test.YtmdoobnlehkmpaaGreatDoorA26
set_option linter.unusedVariables false
set_option linter.unusedSimpArgs false
namespace Go.Proofs.YtmdoobnlehkmpaaGreatDoor.Q
open Go.RowKit W1 W2 W3
attribute [local go_sem] max2_int min2_int max_two min_two max_three min_three max_four min_four
attribute [local go_sem high] bl_leq bl_gtr bl_geq
set_option maxHeartbeats 8000000
set_option maxRecDepth 100000
def impl_PlanAdd.f(k:Nat)(aa:List (S103))(ab:List (S137))(ac:List (S133))(ad:List (S134))(a1:ByteArray)(l2:List (S87))(a3:ByteArray):Option ((List (S54))):=(impl_WorldOk.f k aa ab ac ad).bind fun ae=>(if ae=true then((impl_planAdd.f k aa ab ac ad a1 l2 a3).bind fun af=>(some af)) else(some ([]:List (S54))))
theorem impl_PlanAdd.calls(k:Nat)(af:Option Addr)(ag:Nat)(aa:List (S103))(ah:Option Addr)(ai:Nat)(ab:List (S137))(aj:Option Addr)(ak:Nat)(ac:List (S133))(al:Option Addr)(am:Nat)(ad:List (S134))(a1:ByteArray)(A2:Option Addr)(c2:Nat)(l2:List (S87))(a3:ByteArray)(r:List (S54))(w:World)(az:Kd.C k103 w af aa.length aa)(aA:aa.length≤ag)(aB:Kd.C k137 w ah ab.length ab)(aC:ab.length≤ai)(aD:Kd.C k133 w aj ac.length ac)(aE:ac.length≤ak)(aF:Kd.C k134 w al ad.length ad)(aG:ad.length≤am)(aK:Kd.C k87 w A2 l2.length l2)(aL:l2.length≤c2)(hG_:GOK w)(h:impl_PlanAdd.f k aa ab ac ad a1 l2 a3=some r):
 Calls Tryz.prog 13 #[.agg #[.slice af aa.length ag,.slice ah ab.length ai,.slice aj ac.length ak,.slice al ad.length am],.string a1,.slice A2 l2.length c2,.string a3] w fun e w'=>∃aM:Value,e= .returned (aM)∧Kd.S k54 54 w' w.heap.size (fun _=>True) aM r∧Below w.heap.size w w':=by
 have bo:=Tryz.underlying38
 have HG:=zz hG_
 clear hG_
 have ao:=zz az
 have ap:=zz aA
 clear az aA
 have ar:=zz aB
 have au:=zz aC
 clear aB aC
 have av:=zz aD
 have aw:=zz aE
 clear aD aE
 have ax:=zz aF
 have ay:=zz aG
 clear aF aG
 have bb:=zz aK
 have bc:=zz aL
 clear aK aL
 have HB:=yB w
 unfold impl_PlanAdd.f at h
 have H:=h
 clear h
 replace H:=zf H
 obtain⟨aR,aN,H⟩:=H
 try dsimp only at H
 have A5:=zz aN
 clear aN
 by_cases c6:aR=true
 case neg=>
  replace c6:=Bool.eq_false_iff.mpr c6
  subst c6
  rw[if_neg (show¬(false=true) by decide)] at H
  obtain rfl:=zi H
  go_enter Tryz.func13,Tryz.ntmps13
  go_wp2_with(first|(refine zX 4 38 #[.slice af aa.length ag,.slice ah ab.length ai,.slice aj ac.length ak,.slice al ad.length am] ?_;intro an hg br hbox hb;have ae:=zz (hbox);have aH:=zz ((zg:w.heap.size≤an));have aI:=zz ((zg:w.heap.size≤an));replace HB:=zz (zv zb hb);clear hb hbox hg;obtain⟨aT,aU,aV,aW,aX,aY,aZ,a0⟩:=zc4 ae.out)|(refine zL 53 10 Tryz.func53 #[.agg #[.slice af aa.length ag,.slice ah ab.length ai,.slice aj ac.length ak,.slice al ad.length am]] ?_;(with_reducible refine(impl_WorldOk.calls k _ _ aa _ _ ab _ _ ac _ _ ad false _ ?s1 ?s2 ?s3 ?s4 ?s5 ?s6 ?s7 ?s8 ?s9 A5.out).mono ?_);(case s1=>exact zc ao.out);(case s2=>exact ap.out);(case s3=>exact zc ar.out);(case s4=>exact au.out);(case s5=>exact zc av.out);(case s6=>exact aw.out);(case s7=>exact zc ax.out);(case s8=>exact ay.out);(case s9=>exact zG);rintro e bs ⟨rfl,hb⟩;refine⟨_,rfl,?_⟩;replace ae:=zz (zJ ae hb);replace HB:=zz (zv zb hb);(try clear hb);(try clear aO);(try clear hk);(try clear hi)))
  go_ret
  exact⟨_,ze,by first|exact Kd.S_nil _ _ _ _ _|exact Kd.N_nil _ _ _ _ _|exact Kd.V_nil _ _ _ _ _|exact Kd.Q_nil _ _ _ _ _|exact Kd.R_nil _ _ _ _ _,zb⟩
 subst c6
 rw[if_pos rfl] at H
 replace H:=zf H
 obtain⟨aS,aP,H⟩:=H
 try dsimp only at H
 have A7:=zz aP
 clear aP
 obtain rfl:=zi H
 go_enter Tryz.func13,Tryz.ntmps13
 go_wp2_with(first|(refine zX 4 38 #[.slice af aa.length ag,.slice ah ab.length ai,.slice aj ac.length ak,.slice al ad.length am] ?_;intro an hg w8 hbox hb;have ae:=zz (hbox);have aH:=zz ((zg:w.heap.size≤an));have aI:=zz ((zg:w.heap.size≤an));replace HB:=zz (zv zb hb);clear hb hbox hg;obtain⟨bd,be,bf,bg,bh,bi,bj,bk⟩:=zc4 ae.out)|(refine zL 53 10 Tryz.func53 #[.agg #[.slice af aa.length ag,.slice ah ab.length ai,.slice aj ac.length ak,.slice al ad.length am]] ?_;(with_reducible refine(impl_WorldOk.calls k _ _ aa _ _ ab _ _ ac _ _ ad true _ ?s1 ?s2 ?s3 ?s4 ?s5 ?s6 ?s7 ?s8 ?s9 A5.out).mono ?_);(case s1=>exact zc ao.out);(case s2=>exact ap.out);(case s3=>exact zc ar.out);(case s4=>exact au.out);(case s5=>exact zc av.out);(case s6=>exact aw.out);(case s7=>exact zc ax.out);(case s8=>exact ay.out);(case s9=>exact zG);rintro e bu ⟨rfl,hb⟩;refine⟨_,rfl,?_⟩;replace ae:=zz (zJ ae hb);replace HB:=zz (zv zb hb);(try clear hb);(try clear aO);(try clear hk);(try clear hi);obtain⟨a2,a4,a5,a6,a7,a8,a9,ba⟩:=zc4 ae.out)|(refine zL 54 16 Tryz.func54 #[.agg #[.slice af aa.length ag,.slice ah ab.length ai,.slice aj ac.length ak,.slice al ad.length am],.string a1,.slice A2 l2.length c2,.string a3] ?_;(with_reducible refine(impl_planAdd.calls k _ _ aa _ _ ab _ _ ac _ _ ad a1 _ _ l2 a3 aS _ ?s1 ?s2 ?s3 ?s4 ?s5 ?s6 ?s7 ?s8 ?s9 ?bl ?bn A7.out).mono ?_);(case s1=>exact zc ao.out);(case s2=>exact ap.out);(case s3=>exact zc ar.out);(case s4=>exact au.out);(case s5=>exact zc av.out);(case s6=>exact aw.out);(case s7=>exact zc ax.out);(case s8=>exact ay.out);(case s9=>exact zc bb.out);(case bl=>exact bc.out);(case bn=>exact zG);rintro e bv ⟨bq,rfl,aQ,hb⟩;refine⟨_,rfl,?_⟩;have aJ:=zz (Kd.S_lower aQ (qF zb));replace ae:=zz (zJ ae hb);replace HB:=zz (zv zb hb);(try clear hb);(try clear aO);(try clear hk);(try clear hi);(try clear aQ)))
 go_ret
 exact⟨_,ze,by(with_reducible repeat(first|apply Kd.S_alloc|apply Kd.S_drewN|apply Kd.S_drew));exact Kd.S_mono aJ.out (fun _ hk=>trivial),zb⟩
def laws_eqWrite.f(k:Nat)(aa:Int)(ab:ByteArray)(ac:ByteArray)(ad:List (S87))(ae:ByteArray)(af:Int)(ag:Int)(ah:ByteArray)(ai:ByteArray)(aj:List (S87))(ak:ByteArray)(al:Int):Option (Bool):=if aa=ag then(if ab.toList=ah.toList then(if ac.toList=ai.toList then((laws_eqEntryS.f k ad aj).bind fun am=>(if am=true then(if ae.toList=ak.toList then(if af=al then(some true) else(some false)) else(some false)) else(some false))) else(some false)) else(some false)) else(some false)
theorem laws_eqWrite.calls(k:Nat)(am:Int)(an:ByteArray)(ao:ByteArray)(ap:Option Addr)(ar:Nat)(ak:List (S87))(au:ByteArray)(av:Int)(aw:Int)(ax:ByteArray)(ay:ByteArray)(az:Option Addr)(aA:Nat)(al:List (S87))(aB:ByteArray)(aC:Int)(r:Bool)(w:World)(aR:Kd.C k87 w ap ak.length ak)(aS:ak.length≤ar)(aT:Kd.C k87 w az al.length al)(aU:al.length≤aA)(h:laws_eqWrite.f k am an ao ak au av aw ax ay al aB aC=some r):
 Calls Tryz.prog 25 #[.agg #[.int .i64 am,.string an,.string ao,.slice ap ak.length ar,.string au,.int .i64 av],.agg #[.int .i64 aw,.string ax,.string ay,.slice az al.length aA,.string aB,.int .i64 aC]] w fun e w'=>e= .returned (.bool r)∧Below w.heap.size w w':=by
 have a7:=Tryz.underlying54
 have ai:=zz aR
 have aV:=zz aS
 clear aR aS
 have aj:=zz aT
 have aW:=zz aU
 clear aT aU
 have HB:=yB w
 unfold laws_eqWrite.f at h
 have H:=h
 clear h
 replace HB:=HB.out
 have HW:=yB w
 go_enter Tryz.func25,Tryz.ntmps25
 refine yCn H ?_ ?_<;>clear H<;>intro c3 H
 ·obtain⟨aX,aY⟩:=zw c3
  obtain rfl:=zi H
  go_wp2_with(first|(refine zN 2 ?_;(try(refine z4 ?_;dsimp only));refine zX 2 54 #[.int .i64 am,.string an,.string ao,.slice ap ak.length ar,.string au,.int .i64 av] ?_;intro aa hg aJ hbox hb;have hst:=zv HB hb;clear hg hb HB;replace HW:=zz (zv HW.out hst);replace ai:=zz (Kd.qB ai.out hst);replace aj:=zz (Kd.qB aj.out hst);have ac:=qH (show aJ.cell? ⟨aa,0,none⟩=some (.int .i64 am) from(qL hbox 0).trans rfl);have ad:=qH (show aJ.cell? ⟨aa,1,none⟩=some (.string an) from(qL hbox 1).trans rfl);have ae:=qH (show aJ.cell? ⟨aa,2,none⟩=some (.string ao) from(qL hbox 2).trans rfl);have af:=qH (show aJ.cell? ⟨aa,3,none⟩=some (.slice ap ak.length ar) from(qL hbox 3).trans rfl);have ag:=qH (show aJ.cell? ⟨aa,4,none⟩=some (.string au) from(qL hbox 4).trans rfl);have ah:=qH (show aJ.cell? ⟨aa,5,none⟩=some (.int .i64 av) from(qL hbox 5).trans rfl);have HB:=Below.refl aJ.heap.size aJ;clear hbox hst)|(refine zN 3 ?_;(try(refine z4 ?_;dsimp only));refine zX 3 54 #[.int .i64 aw,.string ax,.string ay,.slice az al.length aA,.string aB,.int .i64 aC] ?_;intro ab hg aK hbox hb;have hst:=zv HB hb;clear hg hb HB;replace HW:=zz (zv HW.out hst);replace ai:=zz (Kd.qB ai.out hst);replace aj:=zz (Kd.qB aj.out hst);replace ac:=qG ac hst;replace ad:=qG ad hst;replace ae:=qG ae hst;replace af:=qG af hst;replace ag:=qG ag hst;replace ah:=qG ah hst;have aD:=qH (show aK.cell? ⟨ab,0,none⟩=some (.int .i64 aw) from(qL hbox 0).trans rfl);have aE:=qH (show aK.cell? ⟨ab,1,none⟩=some (.string ax) from(qL hbox 1).trans rfl);have aF:=qH (show aK.cell? ⟨ab,2,none⟩=some (.string ay) from(qL hbox 2).trans rfl);have aG:=qH (show aK.cell? ⟨ab,3,none⟩=some (.slice az al.length aA) from(qL hbox 3).trans rfl);have aH:=qH (show aK.cell? ⟨ab,4,none⟩=some (.string aB) from(qL hbox 4).trans rfl);have aI:=qH (show aK.cell? ⟨ab,5,none⟩=some (.int .i64 aC) from(qL hbox 5).trans rfl);have HB:=Below.refl aK.heap.size aK;clear hbox hst))
  go_ret
  exact⟨ze,zv HW.out HB⟩
 obtain⟨aX,aY⟩:=zq c3
 clear c3
 refine yCn H ?_ ?_<;>clear H<;>intro c4 H
 ·obtain⟨aZ,a0⟩:=zw c4
  obtain rfl:=zi H
  go_wp2_with(first|(refine zN 2 ?_;(try(refine z4 ?_;dsimp only));refine zX 2 54 #[.int .i64 am,.string an,.string ao,.slice ap ak.length ar,.string au,.int .i64 av] ?_;intro aa hg aL hbox hb;have hst:=zv HB hb;clear hg hb HB;replace HW:=zz (zv HW.out hst);replace ai:=zz (Kd.qB ai.out hst);replace aj:=zz (Kd.qB aj.out hst);have ac:=qH (show aL.cell? ⟨aa,0,none⟩=some (.int .i64 am) from(qL hbox 0).trans rfl);have ad:=qH (show aL.cell? ⟨aa,1,none⟩=some (.string an) from(qL hbox 1).trans rfl);have ae:=qH (show aL.cell? ⟨aa,2,none⟩=some (.string ao) from(qL hbox 2).trans rfl);have af:=qH (show aL.cell? ⟨aa,3,none⟩=some (.slice ap ak.length ar) from(qL hbox 3).trans rfl);have ag:=qH (show aL.cell? ⟨aa,4,none⟩=some (.string au) from(qL hbox 4).trans rfl);have ah:=qH (show aL.cell? ⟨aa,5,none⟩=some (.int .i64 av) from(qL hbox 5).trans rfl);have HB:=Below.refl aL.heap.size aL;clear hbox hst)|(refine zN 3 ?_;(try(refine z4 ?_;dsimp only));refine zX 3 54 #[.int .i64 aw,.string ax,.string ay,.slice az al.length aA,.string aB,.int .i64 aC] ?_;intro ab hg aM hbox hb;have hst:=zv HB hb;clear hg hb HB;replace HW:=zz (zv HW.out hst);replace ai:=zz (Kd.qB ai.out hst);replace aj:=zz (Kd.qB aj.out hst);replace ac:=qG ac hst;replace ad:=qG ad hst;replace ae:=qG ae hst;replace af:=qG af hst;replace ag:=qG ag hst;replace ah:=qG ah hst;have aD:=qH (show aM.cell? ⟨ab,0,none⟩=some (.int .i64 aw) from(qL hbox 0).trans rfl);have aE:=qH (show aM.cell? ⟨ab,1,none⟩=some (.string ax) from(qL hbox 1).trans rfl);have aF:=qH (show aM.cell? ⟨ab,2,none⟩=some (.string ay) from(qL hbox 2).trans rfl);have aG:=qH (show aM.cell? ⟨ab,3,none⟩=some (.slice az al.length aA) from(qL hbox 3).trans rfl);have aH:=qH (show aM.cell? ⟨ab,4,none⟩=some (.string aB) from(qL hbox 4).trans rfl);have aI:=qH (show aM.cell? ⟨ab,5,none⟩=some (.int .i64 aC) from(qL hbox 5).trans rfl);have HB:=Below.refl aM.heap.size aM;clear hbox hst))
  go_ret
  exact⟨ze,zv HW.out HB⟩
 obtain⟨aZ,a0⟩:=zq c4
 clear c4
 refine yCn H ?_ ?_<;>clear H<;>intro c5 H
 ·obtain⟨a1,a2⟩:=zw c5
  obtain rfl:=zi H
  go_wp2_with(first|(refine zN 2 ?_;(try(refine z4 ?_;dsimp only));refine zX 2 54 #[.int .i64 am,.string an,.string ao,.slice ap ak.length ar,.string au,.int .i64 av] ?_;intro aa hg aN hbox hb;have hst:=zv HB hb;clear hg hb HB;replace HW:=zz (zv HW.out hst);replace ai:=zz (Kd.qB ai.out hst);replace aj:=zz (Kd.qB aj.out hst);have ac:=qH (show aN.cell? ⟨aa,0,none⟩=some (.int .i64 am) from(qL hbox 0).trans rfl);have ad:=qH (show aN.cell? ⟨aa,1,none⟩=some (.string an) from(qL hbox 1).trans rfl);have ae:=qH (show aN.cell? ⟨aa,2,none⟩=some (.string ao) from(qL hbox 2).trans rfl);have af:=qH (show aN.cell? ⟨aa,3,none⟩=some (.slice ap ak.length ar) from(qL hbox 3).trans rfl);have ag:=qH (show aN.cell? ⟨aa,4,none⟩=some (.string au) from(qL hbox 4).trans rfl);have ah:=qH (show aN.cell? ⟨aa,5,none⟩=some (.int .i64 av) from(qL hbox 5).trans rfl);have HB:=Below.refl aN.heap.size aN;clear hbox hst)|(refine zN 3 ?_;(try(refine z4 ?_;dsimp only));refine zX 3 54 #[.int .i64 aw,.string ax,.string ay,.slice az al.length aA,.string aB,.int .i64 aC] ?_;intro ab hg aO hbox hb;have hst:=zv HB hb;clear hg hb HB;replace HW:=zz (zv HW.out hst);replace ai:=zz (Kd.qB ai.out hst);replace aj:=zz (Kd.qB aj.out hst);replace ac:=qG ac hst;replace ad:=qG ad hst;replace ae:=qG ae hst;replace af:=qG af hst;replace ag:=qG ag hst;replace ah:=qG ah hst;have aD:=qH (show aO.cell? ⟨ab,0,none⟩=some (.int .i64 aw) from(qL hbox 0).trans rfl);have aE:=qH (show aO.cell? ⟨ab,1,none⟩=some (.string ax) from(qL hbox 1).trans rfl);have aF:=qH (show aO.cell? ⟨ab,2,none⟩=some (.string ay) from(qL hbox 2).trans rfl);have aG:=qH (show aO.cell? ⟨ab,3,none⟩=some (.slice az al.length aA) from(qL hbox 3).trans rfl);have aH:=qH (show aO.cell? ⟨ab,4,none⟩=some (.string aB) from(qL hbox 4).trans rfl);have aI:=qH (show aO.cell? ⟨ab,5,none⟩=some (.int .i64 aC) from(qL hbox 5).trans rfl);have HB:=Below.refl aO.heap.size aO;clear hbox hst))
  go_ret
  exact⟨ze,zv HW.out HB⟩
 obtain⟨a1,a2⟩:=zq c5
 clear c5
 replace H:=yf H
 obtain⟨a8,A6,H⟩:=H
 go_wp2_with(first|(refine zN 2 ?_;(try(refine z4 ?_;dsimp only));refine zX 2 54 #[.int .i64 am,.string an,.string ao,.slice ap ak.length ar,.string au,.int .i64 av] ?_;intro aa hg aP hbox hb;have hst:=zv HB hb;clear hg hb HB;replace HW:=zz (zv HW.out hst);replace ai:=zz (Kd.qB ai.out hst);replace aj:=zz (Kd.qB aj.out hst);have ac:=qH (show aP.cell? ⟨aa,0,none⟩=some (.int .i64 am) from(qL hbox 0).trans rfl);have ad:=qH (show aP.cell? ⟨aa,1,none⟩=some (.string an) from(qL hbox 1).trans rfl);have ae:=qH (show aP.cell? ⟨aa,2,none⟩=some (.string ao) from(qL hbox 2).trans rfl);have af:=qH (show aP.cell? ⟨aa,3,none⟩=some (.slice ap ak.length ar) from(qL hbox 3).trans rfl);have ag:=qH (show aP.cell? ⟨aa,4,none⟩=some (.string au) from(qL hbox 4).trans rfl);have ah:=qH (show aP.cell? ⟨aa,5,none⟩=some (.int .i64 av) from(qL hbox 5).trans rfl);have HB:=Below.refl aP.heap.size aP;clear hbox hst)|(refine zN 3 ?_;(try(refine z4 ?_;dsimp only));refine zX 3 54 #[.int .i64 aw,.string ax,.string ay,.slice az al.length aA,.string aB,.int .i64 aC] ?_;intro ab hg aQ hbox hb;have hst:=zv HB hb;clear hg hb HB;replace HW:=zz (zv HW.out hst);replace ai:=zz (Kd.qB ai.out hst);replace aj:=zz (Kd.qB aj.out hst);replace ac:=qG ac hst;replace ad:=qG ad hst;replace ae:=qG ae hst;replace af:=qG af hst;replace ag:=qG ag hst;replace ah:=qG ah hst;have aD:=qH (show aQ.cell? ⟨ab,0,none⟩=some (.int .i64 aw) from(qL hbox 0).trans rfl);have aE:=qH (show aQ.cell? ⟨ab,1,none⟩=some (.string ax) from(qL hbox 1).trans rfl);have aF:=qH (show aQ.cell? ⟨ab,2,none⟩=some (.string ay) from(qL hbox 2).trans rfl);have aG:=qH (show aQ.cell? ⟨ab,3,none⟩=some (.slice az al.length aA) from(qL hbox 3).trans rfl);have aH:=qH (show aQ.cell? ⟨ab,4,none⟩=some (.string aB) from(qL hbox 4).trans rfl);have aI:=qH (show aQ.cell? ⟨ab,5,none⟩=some (.int .i64 aC) from(qL hbox 5).trans rfl);have HB:=Below.refl aQ.heap.size aQ;clear hbox hst))
 refine(laws_eqEntryS.calls k _ _ _ _ _ _ _ _ (Kd.qB ai.out HB) aV.out (Kd.qB aj.out HB) aW.out A6.out).mono ?_
 rintro e a9 ⟨rfl,hb⟩
 replace HB:=zv HB hb
 clear hb
 refine yF H ?_ ?_<;>clear H<;>rintro rfl H
 ·obtain rfl:=zi H
  exact yR
 refine yCn H ?_ ?_<;>clear H<;>intro c8 H
 ·obtain⟨a3,a4⟩:=zw c8
  obtain rfl:=zi H
  exact yR
 obtain⟨a3,a4⟩:=zq c8
 clear c8
 refine yCn H ?_ ?_<;>clear H<;>intro c9 H
 ·obtain⟨a5,a6⟩:=zw c9
  obtain rfl:=zi H
  exact yR
 obtain⟨a5,a6⟩:=zq c9
 clear c9
 obtain rfl:=zi H
 exact yR
def laws_eqWriteS.l0:Nat→List (S54)→List (S54)→Int→Option (Bool)
 |0,_,_,_=>none
 |k+1,x0,x1,x5=>if x5<(x0.length:Int) then(if 0≤x5 then(if x5<(x1.length:Int) then((laws_eqWrite.f k ((rd_T54 x0 x5).f0) ((rd_T54 x0 x5).f1) ((rd_T54 x0 x5).f2) ((rd_T54 x0 x5).f3) ((rd_T54 x0 x5).f4) ((rd_T54 x0 x5).f5) ((rd_T54 x1 x5).f0) ((rd_T54 x1 x5).f1) ((rd_T54 x1 x5).f2) ((rd_T54 x1 x5).f3) ((rd_T54 x1 x5).f4) ((rd_T54 x1 x5).f5)).bind fun aa=>(if aa=true then(laws_eqWriteS.l0 k x0 x1 (wrap64 (x5+1))) else(some false))) else(none)) else(none)) else(some true)
def laws_eqWriteS.f(k:Nat)(l0:List (S54))(l1:List (S54)):Option (Bool):=if(l0.length:Int)=(l1.length:Int) then(laws_eqWriteS.l0 k l0 l1 0) else(some false)
theorem laws_eqWriteS.calls(k:Nat)(A0:Option Addr)(c0:Nat)(l0:List (S54))(A1:Option Addr)(c1:Nat)(l1:List (S54))(r:Bool)(w:World)(aB:Kd.C k54 w A0 l0.length l0)(aC:l0.length≤c0)(aD:Kd.C k54 w A1 l1.length l1)(aE:l1.length≤c1)(h:laws_eqWriteS.f k l0 l1=some r):
 Calls Tryz.prog 14 #[.slice A0 l0.length c0,.slice A1 l1.length c1] w fun e w'=>e= .returned (.bool r)∧Below w.heap.size w w':=by
 have aU:=Tryz.underlying54
 have aK:=zz aB
 have a3:=zz aC
 clear aB aC
 have aL:=zz aD
 have a4:=zz aE
 clear aD aE
 have HB:=yB w
 unfold laws_eqWriteS.f at h
 have H:=h
 clear h
 replace HB:=HB.out
 have HW:=yB w
 go_enter Tryz.func14,Tryz.ntmps14
 refine yCn H ?_ ?_<;>clear H<;>intro c3 H
 ·obtain⟨aF,aG⟩:=zw c3
  have aH:(l0.length==l1.length)=false:=by first|simpa using c3|(simp at c3⊢;omega)
  obtain rfl:=zi H
  exact yR
 obtain⟨aF,aG⟩:=zq c3
 have aH:(l0.length==l1.length)=true:=by first|simpa using c3|(simp at c3⊢;omega)
 clear c3
 go_wp2_with(fail)
 go_loopg[5] k (fun kq v5 w'=>∃(aa:Int),v5= .int .i64 aa∧qC (laws_eqWriteS.l0 kq l0 l1 aa=some r)∧qC (kq≤k)∧qC (Below w.heap.size w w'))
 case atStart=>exact⟨(0),zr,⟨H⟩,⟨Nat.le_refl _⟩,⟨HB⟩⟩
 case round=>
  clear H HB
  obtain⟨aa,rfl,H,ay,HB⟩:=hrel
  replace HB:=HB.out
  replace H:=H.out
  have aA:=yB w
  cases gk with
  |zero=>exact absurd H (by simp[laws_eqWriteS.l0])
  |succ az=>
   simp only[laws_eqWriteS.l0] at H
   refine yDn H ?_ ?_<;>clear H<;>intro aV H
   ·obtain rfl:=zi H
    exact yR
   go_wp2_with(fail)
   try simp only[Act.put,List.setIfInBounds_toArray,List.set_cons_zero,List.set_cons_succ]
   refine qR (C:=fun W_=>Below w.heap.size w W_) zk zk (qK HB) ?_
   replace H:=yAD H
   obtain⟨aW,H⟩:=H
   have aX:=yt (0≤(aa:Int))
   have aY:=yt ((aa:Int)<(l0.length:Int))
   obtain⟨aS,aM,aN,aI,ab,ac,ad,ae,af,ag,ah,ai⟩:=at_T54 aK.out aa z2 z2
   cases aI
   replace ab:=qH ab
   replace ac:=qH ac
   replace ad:=qH ad
   replace ae:=qH ae
   replace af:=qH af
   replace ag:=qH ag
   have aj:=zz ai
   have ak:=zz ah
   clear ai ah
   replace H:=yAD H
   obtain⟨aZ,H⟩:=H
   have a0:=yt (0≤(aa:Int))
   have a1:=yt ((aa:Int)<(l1.length:Int))
   obtain⟨aT,aO,aP,aJ,al,am,an,ao,ap,ar,au,av⟩:=at_T54 aL.out aa z2 z2
   cases aJ
   replace al:=qH al
   replace am:=qH am
   replace an:=qH an
   replace ao:=qH ao
   replace ap:=qH ap
   replace ar:=qH ar
   have aw:=zz av
   have ax:=zz au
   clear av au
   replace H:=yf H
   obtain⟨a2,A8,H⟩:=H
   refine yT H ?_ ?_<;>clear H<;>rintro rfl H
   ·repeat(first|go_big_quiet_skip|(go_big_quiet_want;go_big_quiet_op;first|go_big_quiet_on|(with_reducible apply Exists.intro;refine⟨fun W hW=>?_,?_⟩;(first|with_reducible rfl|(go_at_call 25;exact vE (laws_eqWrite.calls az _ _ _ _ _ _ _ _ _ _ _ _ _ _ _ _ _ _ (Kd.qB aj.out hW) ak.out (Kd.qB aw.out hW) ax.out A8.out) hW)|(go_simp;with_reducible rfl));go_big_quiet_on)))
    clear HB
    refine zW fun aQ (HB:Below w.heap.size w aQ)=>?_
    go_wp2_with(fail)
    go_roundg az
    case measure=>have:=ay.out;omega
    case rel=>exact⟨(wrap64 (aa+1)),zr,⟨H⟩,⟨by have:=ay.out;omega⟩,⟨zv aA.out HB⟩⟩
   obtain rfl:=zi H
   repeat(first|go_big_quiet_skip|(go_big_quiet_want;go_big_quiet_op;first|go_big_quiet_on|(with_reducible apply Exists.intro;refine⟨fun W hW=>?_,?_⟩;(first|with_reducible rfl|(go_at_call 25;exact vE (laws_eqWrite.calls az _ _ _ _ _ _ _ _ _ _ _ _ _ _ _ _ _ _ (Kd.qB aj.out hW) ak.out (Kd.qB aw.out hW) ax.out A8.out) hW)|(go_simp;with_reducible rfl));go_big_quiet_on)))
   clear HB
   refine zW fun aR (HB:Below w.heap.size w aR)=>?_
   exact yR
def laws_heldWriteS.l0:Nat→List (S54)→Int→Int→Option (Int)
 |0,_,_,_=>none
 |k+1,x0,x1,x5=>if x5<(x0.length:Int) then(if 0≤x5 then(if((rd_T54 x0 x5).f0)=x1 then((laws_markText.f k (wrap64 (x1+1))).bind fun ab=>(if((rd_T54 x0 x5).f1).toList=ab.toList then((laws_markText.f k (wrap64 ((wrap64 (x1+1))+1))).bind fun ac=>(if((rd_T54 x0 x5).f2).toList=ac.toList then((laws_heldEntryS.f k ((rd_T54 x0 x5).f3) (wrap64 ((wrap64 ((wrap64 (x1+1))+1))+1))).bind fun aa=>(if aa<0 then(some (-1)) else((laws_markText.f k aa).bind fun ad=>(if((rd_T54 x0 x5).f4).toList=ad.toList then(if((rd_T54 x0 x5).f5)=(wrap64 (aa+1)) then(laws_heldWriteS.l0 k x0 (wrap64 ((wrap64 (aa+1))+1)) (wrap64 (x5+1))) else(some (-1))) else(some (-1)))))) else(some (-1)))) else(some (-1)))) else(some (-1))) else(none)) else(some x1)
def laws_heldWriteS.f(k:Nat)(l0:List (S54))(a1:Int):Option (Int):=laws_heldWriteS.l0 k l0 a1 0
theorem laws_heldWriteS.calls(k:Nat)(A0:Option Addr)(c0:Nat)(l0:List (S54))(a1:Int)(r:Int)(w:World)(aD:Kd.C k54 w A0 l0.length l0)(aE:l0.length≤c0)(h:laws_heldWriteS.f k l0 a1=some r):
 Calls Tryz.prog 20 #[.slice A0 l0.length c0,.int .i64 a1] w fun e w'=>e= .returned (.int .i64 r)∧Below w.heap.size w w':=by
 have aM:=zz aD
 have a6:=zz aE
 clear aD aE
 have HB:=yB w
 unfold laws_heldWriteS.f at h
 have H:=h
 clear h
 replace HB:=HB.out
 have HW:=yB w
 go_enter Tryz.func20,Tryz.ntmps20
 go_wp2_with(fail)
 go_loopg[1,5] k (fun kq v1 v5 w'=>∃(ac:Int) (aa:Int),v1= .int .i64 ac∧v5= .int .i64 aa∧qC (laws_heldWriteS.l0 kq l0 ac aa=some r)∧qC (kq≤k)∧qC (Below w.heap.size w w'))
 case atStart=>exact⟨(a1),(0),zr,zr,⟨H⟩,⟨Nat.le_refl _⟩,⟨HB⟩⟩
 case round=>
  clear H HB
  obtain⟨ac,aa,rfl,rfl,H,an,HB⟩:=hrel
  replace HB:=HB.out
  replace H:=H.out
  have aw:=yB w
  cases gk with
  |zero=>exact absurd H (by simp[laws_heldWriteS.l0])
  |succ ab=>
   simp only[laws_heldWriteS.l0] at H
   refine yDn H ?_ ?_<;>clear H<;>intro aY H
   ·obtain rfl:=zi H
    exact yR
   replace H:=yAD H
   obtain⟨aZ,H⟩:=H
   have a0:=yt (0≤(aa:Int))
   have a2:=yt ((aa:Int)<(l0.length:Int))
   obtain⟨aW,aN,aO,aG,ad,ae,af,ag,ah,ai,aj,ak⟩:=at_T54 aM.out aa z2 z2
   cases aG
   replace ad:=qH ad
   replace ae:=qH ae
   replace af:=qH af
   replace ag:=qH ag
   replace ah:=qH ah
   replace ai:=qH ai
   have al:=zz ak
   have am:=zz aj
   clear ak aj
   refine yCn H ?_ ?_<;>clear H<;>intro c6 H
   ·obtain⟨aH,aI⟩:=zw c6
    obtain rfl:=zi H
    exact yR
   obtain⟨aH,aI⟩:=zq c6
   clear c6
   go_wp2_with(fail)
   try simp only[Act.put,List.setIfInBounds_toArray,List.set_cons_zero,List.set_cons_succ]
   refine qR (C:=fun W_=>Below w.heap.size w W_) zk zk (qK HB) ?_
   replace H:=yf H
   obtain⟨a3,A7,H⟩:=H
   refine yCn H ?_ ?_<;>clear H<;>intro c8 H
   ·obtain⟨aJ,aK⟩:=zw c8
    obtain rfl:=zi H
    repeat(first|go_big_quiet_skip|(go_big_quiet_want;go_big_quiet_op;first|go_big_quiet_on|(with_reducible apply Exists.intro;refine⟨fun W hW=>?_,?_⟩;(first|with_reducible rfl|(go_at_call 64;exact vE (laws_markText.calls ab _ _ _ A7.out) hW)|(go_simp;with_reducible rfl));go_big_quiet_on)))
    clear HB
    refine zW fun aP (HB:Below w.heap.size w aP)=>?_
    exact yR
   obtain⟨aJ,aK⟩:=zq c8
   clear c8
   repeat(first|go_big_quiet_skip|(go_big_quiet_want;go_big_quiet_op;first|go_big_quiet_on|(with_reducible apply Exists.intro;refine⟨fun W hW=>?_,?_⟩;(first|with_reducible rfl|(go_at_call 64;exact vE (laws_markText.calls ab _ _ _ A7.out) hW)|(go_simp;with_reducible rfl));go_big_quiet_on)))
   clear HB
   refine zW fun w9 (HB:Below w.heap.size w w9)=>?_
   go_wp2_with(fail)
   try simp only[Act.put,List.setIfInBounds_toArray,List.set_cons_zero,List.set_cons_succ]
   refine qR (C:=fun W_=>Below w.heap.size w W_) zk zk (qK HB) ?_
   replace H:=yf H
   obtain⟨a4,ao,H⟩:=H
   refine yCn H ?_ ?_<;>clear H<;>intro ap H
   ·obtain⟨ax,ay⟩:=zw ap
    obtain rfl:=zi H
    repeat(first|go_big_quiet_skip|(go_big_quiet_want;go_big_quiet_op;first|go_big_quiet_on|(with_reducible apply Exists.intro;refine⟨fun W hW=>?_,?_⟩;(first|with_reducible rfl|(go_at_call 64;exact vE (laws_markText.calls ab _ _ _ ao.out) hW)|(go_simp;with_reducible rfl));go_big_quiet_on)))
    clear HB
    refine zW fun aQ (HB:Below w.heap.size w aQ)=>?_
    exact yR
   obtain⟨ax,ay⟩:=zq ap
   clear ap
   replace H:=yf H
   obtain⟨aL,aF,H⟩:=H
   refine yD H ?_ ?_<;>clear H<;>intro aX H
   ·repeat(first|go_big_quiet_skip|(go_big_quiet_want;go_big_quiet_op;first|go_big_quiet_on|(with_reducible apply Exists.intro;refine⟨fun W hW=>?_,?_⟩;(first|with_reducible rfl|(go_at_call 64;exact vE (laws_markText.calls ab _ _ _ ao.out) hW)|(go_simp;with_reducible rfl));go_big_quiet_on)))
    clear HB
    refine zW fun aR (HB:Below w.heap.size w aR)=>?_
    go_wp2_with(fail)
    refine(laws_heldEntryS.calls ab _ _ _ _ _ _ (Kd.qB al.out HB) am.out aF.out).mono ?_
    rintro e a7 ⟨rfl,hb⟩
    replace HB:=zv HB hb
    clear hb
    obtain rfl:=zi H
    exact yR
   repeat(first|go_big_quiet_skip|(go_big_quiet_want;go_big_quiet_op;first|go_big_quiet_on|(with_reducible apply Exists.intro;refine⟨fun W hW=>?_,?_⟩;(first|with_reducible rfl|(go_at_call 64;exact vE (laws_markText.calls ab _ _ _ ao.out) hW)|(go_simp;with_reducible rfl));go_big_quiet_on)))
   clear HB
   refine zW fun aS (HB:Below w.heap.size w aS)=>?_
   go_wp2_with(fail)
   refine(laws_heldEntryS.calls ab _ _ _ _ _ _ (Kd.qB al.out HB) am.out aF.out).mono ?_
   rintro e a8 ⟨rfl,hb⟩
   replace HB:=zv HB hb
   clear hb
   go_wp2_with(fail)
   try simp only[Act.put,List.setIfInBounds_toArray,List.set_cons_zero,List.set_cons_succ]
   refine qR (C:=fun W_=>Below w.heap.size w W_) zk zk (qK HB) ?_
   replace H:=yf H
   obtain⟨a5,ar,H⟩:=H
   refine yCn H ?_ ?_<;>clear H<;>intro au H
   ·obtain⟨az,aA⟩:=zw au
    obtain rfl:=zi H
    repeat(first|go_big_quiet_skip|(go_big_quiet_want;go_big_quiet_op;first|go_big_quiet_on|(with_reducible apply Exists.intro;refine⟨fun W hW=>?_,?_⟩;(first|with_reducible rfl|(go_at_call 64;exact vE (laws_markText.calls ab _ _ _ ar.out) hW)|(go_simp;with_reducible rfl));go_big_quiet_on)))
    clear HB
    refine zW fun aT (HB:Below w.heap.size w aT)=>?_
    exact yR
   obtain⟨az,aA⟩:=zq au
   clear au
   refine yCn H ?_ ?_<;>clear H<;>intro av H
   ·obtain⟨aB,aC⟩:=zw av
    obtain rfl:=zi H
    repeat(first|go_big_quiet_skip|(go_big_quiet_want;go_big_quiet_op;first|go_big_quiet_on|(with_reducible apply Exists.intro;refine⟨fun W hW=>?_,?_⟩;(first|with_reducible rfl|(go_at_call 64;exact vE (laws_markText.calls ab _ _ _ ar.out) hW)|(go_simp;with_reducible rfl));go_big_quiet_on)))
    clear HB
    refine zW fun aU (HB:Below w.heap.size w aU)=>?_
    exact yR
   obtain⟨aB,aC⟩:=zq av
   clear av
   repeat(first|go_big_quiet_skip|(go_big_quiet_want;go_big_quiet_op;first|go_big_quiet_on|(with_reducible apply Exists.intro;refine⟨fun W hW=>?_,?_⟩;(first|with_reducible rfl|(go_at_call 64;exact vE (laws_markText.calls ab _ _ _ ar.out) hW)|(go_simp;with_reducible rfl));go_big_quiet_on)))
   clear HB
   refine zW fun aV (HB:Below w.heap.size w aV)=>?_
   go_wp2_with(fail)
   go_roundg ab
   case measure=>have:=an.out;omega
   case rel=>exact⟨(wrap64 ((wrap64 (aL+1))+1)),(wrap64 (aa+1)),zr,zr,⟨H⟩,⟨by have:=an.out;omega⟩,⟨zv aw.out HB⟩⟩
abbrev TWrite:=S54
namespace Nd
theorem heldW{k n c0 base:Nat}{ok:Nat→Prop}{m:Int}{W:World}{A0:Option Addr}{M0:List TWrite}(h0:Kd.S k54 54 W base ok (.slice A0 n c0) M0)(hh:laws_heldWriteS.f k M0 1=some m):
 Calls Tryz.prog 20 #[.slice A0 n c0,.int .i64 1] W fun e W'=>e= .returned (.int .i64 m)∧Below W.heap.size W W':=by
 obtain⟨rfl,h01,h02⟩:=Kd.S_reads' h0
 exact laws_heldWriteS.calls k _ _ M0 1 m W h02 h01 hh
end Nd
theorem laws_FnExactPlanAdd.calls{w:World}{A0 A1 A2 A3 At:Option Addr}{c0 c1 c2 c3 ct:Nat}{l0:List S119}{l1:List S123}{l2:List S126}{l3:List S129}{lt:List S80}{a1 a3:ByteArray}{r0:List TItem}{r1:List TProf}{r2:List TPend}{r3:List TNext}{rt:List S87}{R M:List TWrite}{lf lg m:Int}{kz ky kt ku ks ki ke kw kv km kh:Nat}
 (hL:Nd.L4 w A0 c0 A1 c1 A2 c2 A3 c3 l0 l1 l2 l3) (hLt:Kd.C k80 w At lt.length lt∧lt.length≤ct) (hG_:GOK w) (hn1:¬(a1.size:Int)>1048576) (hn3:¬(a3.size:Int)>1048576) (hz:laws_szWorld.f kz l0 l1 l2 l3 1048576=some lf) (hlf:¬lf<0) (hy:laws_szEntryS.f ky lt lf=some lg) (hlg:¬lg<0) (ht:laws_toWorld.f kt l0 l1 l2 l3=some (r0,r1,r2,r3)) (hu:laws_toEntryS.f ku lt=some rt)
 (hs:spec_PlanAdd.f ks r0 r1 r2 r3 a1 rt a3=some R) (hi:impl_PlanAdd.f ki r0 r1 r2 r3 a1 rt a3=some R) (he:laws_eqWriteS.f ke R R=some true) (hw:laws_eqWorld.f kw r0 r1 r2 r3 r0 r1 r2 r3=some true) (hv:laws_eqEntryS.f kv rt rt=some true)
 (hm:laws_markWriteS.f km R 1=some (m,M)) (hh:laws_heldWriteS.f kh M 1=some m) (hm0:¬m<0) (hR:R.length<4611686018427387904)
 (hb:1+Mk.tot (Mk.sItemS (Nd.i2 r0) (Nd.i4 r0)) r0.length+Mk.tot (Mk.sProfileS (Nd.p2 r1)) r1.length+Mk.tot (Mk.sPendingS (Nd.q1 r2)) r2.length+Mk.tot Mk.sNextS r3.length+Mk.tot Mk.sEntryS rt.length≤4611686018427387904):
 Calls Tryz.prog 3 #[.agg #[.slice A0 l0.length c0,.slice A1 l1.length c1,.slice A2 l2.length c2,.slice A3 l3.length c3],.string a1,.slice At lt.length ct,.string a3] w fun e w'=>e= .returned (.bool true)∧Below w.heap.size w w':=by
 have hu27:=Tryz.underlying27
 have hu35:=Tryz.underlying38
 have HL:=zz hL
 have HLT:=zz hLt
 have HG:=zz hG_
 have HZ:=zz hz
 have HY:=zz hy
 have HTW:=zz ht
 have HTT:=zz hu
 have HS:=zz hs
 have HI:=zz hi
 have HEQ:=zz he
 have HW:=zz hw
 have HV:=zz hv
 have HM:=zz hm
 have HH:=zz hh
 have HLEN:=zz hR
 have n0_:=zgtn hn1
 have n1_:decide (1048576<a1.size)=false:=z0 (by omega)
 have n5_:=zgtn hn3
 have n6_:decide (1048576<a3.size)=false:=z0 (by omega)
 have n2_:=z0 hlf
 have n7_:=z0 hlg
 have n3_:=z0 hm0
 obtain⟨kk,hkk⟩:∃z:Int,z=1+Mk.tot (Mk.sItemS (Nd.i2 r0) (Nd.i4 r0)) r0.length+Mk.tot (Mk.sProfileS (Nd.p2 r1)) r1.length+Mk.tot (Mk.sPendingS (Nd.q1 r2)) r2.length+Mk.tot Mk.sNextS r3.length:=⟨_,rfl⟩
 obtain⟨kl,hkl⟩:∃z:Int,z=kk+Mk.tot Mk.sEntryS rt.length:=⟨_,rfl⟩
 have n4_:decide (kl<0)=false:=z0 (by omega)
 have HK:=zz (And.intro hkk (show kk≤4611686018427387904 by omega))
 have HK2:=zz (show 0≤kk∧kl=kk+Mk.tot Mk.sEntryS rt.length∧kl≤4611686018427387904 from⟨by omega,hkl,by omega⟩)
 clear hL hLt hG_ hn1 hn3 hz hlf hy hlg ht hu hs hi he hw hv hm hh hm0 hR hb hkk hkl
 have HC:=zz (show Nd.Ch [w] w from fun x hx=>by rw[List.mem_singleton.1 hx];exact Below.refl _ _)
 go_enter Tryz.func3,Tryz.ntmps3
 go_wp2_with(first
  |(refine zN 4 ?_;(try(refine z4 ?_;dsimp only));refine zX 4 27 #[.slice A0 l0.length c0,.slice A1 l1.length c1,.slice A2 l2.length c2,.slice A3 l3.length c3] ?_;intro g1 hg w1 hbox hb;replace HC:=zz (Nd.Ch.new (Nd.Ch.step (Nd.zh HC.out) hb));have BX:=zz hbox;have HG1:=zz (show w.heap.size≤g1∧g1<w1.heap.size from⟨Nat.le_of_eq hg.symm,blk_lt hbox⟩);obtain⟨x0,x1,x2,x3⟩:=zy4 hbox;clear hg hb hbox)
  |(refine zL 8 26 Tryz.func8 #[.agg #[.slice A0 l0.length c0,.slice A1 l1.length c1,.slice A2 l2.length c2,.slice A3 l3.length c3],.int .i64 1048576] ?_;have HLw:=HL.out.below (HC.out w (by simp));(with_reducible refine(laws_szWorld.calls kz _ _ l0 _ _ l1 _ _ l2 _ _ l3 1048576 lf _ HLw.h0 HLw.g0 HLw.h1 HLw.g1 HLw.h2 HLw.g2 HLw.h3 HLw.g3 HZ.out).mono ?_);rintro e w2 ⟨rfl,hb⟩;refine⟨_,rfl,?_⟩;replace HC:=zz (Nd.Ch.step HC.out hb);clear hb HLw x0 x1 x2 x3)
  |(refine zL 9 31 Tryz.func9 #[.slice At lt.length ct,.int .i64 lf] ?_;(with_reducible refine(laws_szEntryS.calls ky _ _ lt lf lg _ (Kd.qB HLT.out.1 (HC.out w (by simp))) HLT.out.2 HY.out).mono ?_);rintro e w3 ⟨rfl,hb⟩;refine⟨_,rfl,?_⟩;replace HC:=zz (Nd.Ch.step HC.out hb);clear hb;obtain⟨x0,x1,x2,x3⟩:=zy4 (qS BX.out (HC.out w1 (by simp))))
  |(refine zL 11 35 Tryz.func11 #[.agg #[.slice A0 l0.length c0,.slice A1 l1.length c1,.slice A2 l2.length c2,.slice A3 l3.length c3]] ?_;(with_reducible refine(Nd.toWorld kt (HL.out.below (HC.out w (by simp))) HTW.out).mono ?_);rintro e w4 ⟨D0,b0,D1,b1,D2,b2,D3,b3,rfl,h4,_,hb⟩;refine⟨_,rfl,?_⟩;replace HC:=zz (Nd.Ch.new (Nd.Ch.step HC.out hb));have H4:=zz h4;clear x0 x1 x2 x3;clear hb h4)
  |(refine zL 12 38 Tryz.func12 #[.slice At lt.length ct] ?_;(with_reducible refine(laws_toEntryS.calls ku _ _ lt rt _ (Kd.qB HLT.out.1 (HC.out w (by simp))) HLT.out.2 HTT.out).mono ?_);rintro e w5 ⟨v_,rfl,ho,hb⟩;refine⟨_,rfl,?_⟩;obtain⟨T0,d0,e_⟩:=Kd.qZ ho;subst e_;replace HC:=zz (Nd.Ch.step HC.out hb);have HT0:=zz (And.intro (Kd.qM ho).2.2 (Kd.qM ho).2.1);clear hb ho)
  |(refine zL 10 40 Tryz.func10 #[.agg #[.slice D0 r0.length b0,.slice D1 r1.length b1,.slice D2 r2.length b2,.slice D3 r3.length b3],.string a1,.slice T0 rt.length d0,.string a3] ?_;have h6:=H4.out.below (HC.out w4 (by simp));(with_reducible refine(spec_PlanAdd.calls ks _ _ r0 _ _ r1 _ _ r2 _ _ r3 a1 _ _ rt a3 R _ h6.h0 h6.g0 h6.h1 h6.g1 h6.h2 h6.g2 h6.h3 h6.g3 HT0.out.1 HT0.out.2 HS.out).mono ?_);rintro e w6 ⟨v6,rfl,ho,hb⟩;refine⟨_,rfl,?_⟩;replace HC:=zz (Nd.Ch.new (Nd.Ch.step HC.out hb));have HS6:=zz (And.intro (HC.out w (by simp)).size (HC.out w1 (by simp)).size);have HE6:=zz (Kd.S_mono (Kd.S_bound ho) (fun k hk=>(hk.2.2.1:k<w6.heap.size)));clear hb ho h6 H4 HT0;obtain⟨E0,f0,e6⟩:=Kd.S_slice HE6.out;subst e6;obtain⟨x0,x1,x2,x3⟩:=zy4 (qS BX.out (HC.out w1 (by simp))))
  |(refine zL 11 42 Tryz.func11 #[.agg #[.slice A0 l0.length c0,.slice A1 l1.length c1,.slice A2 l2.length c2,.slice A3 l3.length c3]] ?_;(with_reducible refine(Nd.toWorld kt (HL.out.below (HC.out w (by simp))) HTW.out).mono ?_);rintro e w7 ⟨C0,e0,C1,e1,C2,e2,C3,e3,rfl,h4,hrow,hb⟩;refine⟨_,rfl,?_⟩;replace HC:=zz (Nd.Ch.new (Nd.Ch.step HC.out hb));have HS7:=zz (HC.out w6 (by simp)).size;have H7:=zz h4;have HRW:=zz hrow;clear x0 x1 x2 x3 hrow;clear hb h4)
  |(refine zL 12 44 Tryz.func12 #[.slice At lt.length ct] ?_;generalize hw_:w7.alloc (Obj.cells #[Value.slice C0 r0.length e0,Value.slice C1 r1.length e1,Value.slice C2 r2.length e2,Value.slice C3 r3.length e3] 38)=w8;generalize hg_:w7.heap.size=g8;have hb8:Below w7.heap.size w7 w8:=hw_ ▸ qX (Below.refl _ _) _;have HX8:=zz (show w8.heap[g8]?=some (.cells #[Value.slice C0 r0.length e0,Value.slice C1 r1.length e1,Value.slice C2 r2.length e2,Value.slice C3 r3.length e3] 38 (0,0)) from by rw[←hw_,←hg_];exact blk_new w7 _);have HS8:=zz hb8.size;replace HC:=zz (Nd.Ch.new (Nd.Ch.step HC.out hb8));clear hw_ hg_ hb8;(with_reducible refine(laws_toEntryS.calls ku _ _ lt rt _ (Kd.qB HLT.out.1 (HC.out w (by simp))) HLT.out.2 HTT.out).mono ?_);rintro e w9 ⟨v_,rfl,ho,hb⟩;refine⟨_,rfl,?_⟩;obtain⟨T1,d1,e_⟩:=Kd.qZ ho;subst e_;replace HC:=zz (Nd.Ch.new (Nd.Ch.step HC.out hb));have HS9:=zz (HC.out w8 (by simp)).size;have HR9:=zz (Mk.rEntryS (P:=fun k=>w8.heap.size≤k∧k<w9.heap.size) (fun _ a b=>⟨a,b⟩) ho);have H9:=zz (And.intro (Kd.qM ho).2.2 (Kd.qM ho).2.1);obtain⟨y0,y1,y2,y3⟩:=zy4 (qS HX8.out (HC.out w8 (by simp)));clear hb ho)
  |(refine zL 13 49 Tryz.func13 #[.agg #[.slice C0 r0.length e0,.slice C1 r1.length e1,.slice C2 r2.length e2,.slice C3 r3.length e3],.string a1,.slice T1 rt.length d1,.string a3] ?_;clear y0 y1 y2 y3;have h7:=H7.out.below (HC.out w7 (by simp));(with_reducible refine(impl_PlanAdd.calls ki _ _ r0 _ _ r1 _ _ r2 _ _ r3 a1 _ _ rt a3 R _ h7.h0 h7.g0 h7.h1 h7.g1 h7.h2 h7.g2 h7.h3 h7.g3 H9.out.1 H9.out.2 (HG.out.below (HC.out w (by simp))) HI.out).mono ?_);rintro e w10 ⟨v10,rfl,ho,hb⟩;refine⟨_,rfl,?_⟩;replace HC:=zz (Nd.Ch.new (Nd.Ch.step HC.out hb));have HG10:=zz (Kd.S_mono (Kd.S_bound ho) (fun k hk=>(⟨hk.2.1,hk.2.2.1⟩:w9.heap.size≤k∧k<w10.heap.size)));clear hb ho h7;obtain⟨G0,h0,e10⟩:=Kd.S_slice HG10.out;subst e10)
  |(refine zL 14 52 Tryz.func14 #[.slice G0 R.length h0,.slice E0 R.length f0] ?_;have e6:=Kd.S_reads' (Kd.S_below HE6.out (HC.out w6 (by simp)));have e7:=Kd.S_reads' (HG10.out);(with_reducible refine(laws_eqWriteS.calls ke _ _ R _ _ R true _ e7.2.2 e7.2.1 e6.2.2 e6.2.1 HEQ.out).mono ?_);rintro e w11 ⟨rfl,hb⟩;refine⟨_,rfl,?_⟩;replace HC:=zz (Nd.Ch.step HC.out hb);clear hb e6 e7))
 replace HC:=zz (Nd.Ch.drew HC.out)
 refine start_ (n:=5) (S:=fun w'=>(w'.cell? ⟨g8,0,none⟩=some (.slice C0 r0.length e0)∧w'.cell? ⟨g8,1,none⟩=some (.slice C1 r1.length e1)∧w'.cell? ⟨g8,2,none⟩=some (.slice C2 r2.length e2)∧w'.cell? ⟨g8,3,none⟩=some (.slice C3 r3.length e3))∧(w'.cell? ⟨g1,0,none⟩=some (.slice A0 l0.length c0)∧w'.cell? ⟨g1,1,none⟩=some (.slice A1 l1.length c1)∧w'.cell? ⟨g1,2,none⟩=some (.slice A2 l2.length c2)∧w'.cell? ⟨g1,3,none⟩=some (.slice A3 l3.length c3))) (ds:=[]) (bp 0 5) zk rfl rfl ⟨Nd.c4 (qS HX8.out (HC.out w8 (by simp))),Nd.c4 (qS BX.out (HC.out w1 (by simp)))⟩ (fun hHeld=>?_)
 generalize w11.drew=w12 at HC hHeld⊢
 refine take_ (i:=0) (N:=some 54) (v:=?_) (a':=?_) #[true,false,false,false,false] rfl rfl zk (fun _ _ _ h=>h) (Or.inl ⟨by rfl,?_⟩) hHeld ?_ ?_
 rotate_left
 ·rintro w' ⟨⟨s0_,s1_,s2_,s3_⟩,s4_,s5_,s6_,s7_⟩
  go_simp
  with_reducible rfl
 rotate_left
 ·simp only[Act.put,List.setIfInBounds_toArray,List.set_cons_zero,List.set_cons_succ,i64_w,i32_w]
  rfl
 refine take_ (i:=1) (N:=some 55) (v:=?_) (a':=?_) #[true,true,false,false,false] rfl rfl zk (fun _ _ _ h=>h) (Or.inl ⟨by rfl,?_⟩) hHeld ?_ ?_
 rotate_left
 ·rintro w' ⟨⟨s0_,s1_,s2_,s3_⟩,s4_,s5_,s6_,s7_⟩
  go_simp
  with_reducible rfl
 rotate_left
 ·simp only[Act.put,List.setIfInBounds_toArray,List.set_cons_zero,List.set_cons_succ,i64_w,i32_w]
  rfl
 refine one_ (i:=2) (N:=some 56) #[true,true,true,false,false] rfl rfl zk (by decide) (fun K hK=>?_)
 refine zh Tryz.func11 #[.agg #[.slice A0 l0.length c0,.slice A1 l1.length c1,.slice A2 l2.length c2,.slice A3 l3.length c3]] ?_
 with_reducible refine(Nd.toWorld kt (HL.out.below (HC.out w (by simp))) HTW.out).mono ?_
 rintro e w13 ⟨F0,i0,F1,i1,F2,i2,F3,i3,rfl,h4,_,hb⟩
 refine⟨_,rfl,?_⟩
 replace HC:=zz (Nd.Ch.step HC.out hb)
 refine hK.out _ _ ⟨Nd.c4 (qS HX8.out (HC.out w8 (by simp))),Nd.c4 (qS BX.out (HC.out w1 (by simp)))⟩ (fun hHeld=>?_)
 clear hK K
 refine zn 56 ?_
 refine one_ (i:=3) (N:=some 57) #[true,true,true,true,false] rfl rfl zk (by decide) (fun K hK=>?_)
 refine zh Tryz.func15 #[.agg #[.slice C0 r0.length e0,.slice C1 r1.length e1,.slice C2 r2.length e2,.slice C3 r3.length e3],.agg #[.slice F0 r0.length i0,.slice F1 r1.length i1,.slice F2 r2.length i2,.slice F3 r3.length i3]] ?_
 have h5:=H7.out.below (HC.out w7 (by simp))
 with_reducible refine(laws_eqWorld.calls kw _ _ r0 _ _ r1 _ _ r2 _ _ r3 _ _ r0 _ _ r1 _ _ r2 _ _ r3 true _ h5.h0 h5.g0 h5.h1 h5.g1 h5.h2 h5.g2 h5.h3 h5.g3 h4.h0 h4.g0 h4.h1 h4.g1 h4.h2 h4.g2 h4.h3 h4.g3 HW.out).mono ?_
 clear hb h4 h5
 rintro e w14 ⟨rfl,hb⟩
 refine⟨_,rfl,?_⟩
 replace HC:=zz (Nd.Ch.step HC.out hb)
 refine hK.out _ _ ⟨Nd.c4 (qS HX8.out (HC.out w8 (by simp))),Nd.c4 (qS BX.out (HC.out w1 (by simp)))⟩ (fun hHeld=>?_)
 clear hK K hb
 refine zn 57 ?_
 refine pure_ (i:=4) (N:=some 58) (v:=?_) (a':=?_) #[true,true,true,true,true] rfl rfl zk (fun _ _ _ h=>h) (Or.inl ⟨by rfl,?_⟩) ?_ ?_
 rotate_left
 ·intro w'
  go_simp
  with_reducible rfl
 rotate_left
 ·simp only[Act.put,List.setIfInBounds_toArray,List.set_cons_zero,List.set_cons_succ,i64_w,i32_w]
  rfl
 refine done_ zk ?_
 clear hHeld
 have HP1:=zz (show∀k,(fun k=>w6.heap.size≤k∧k<w7.heap.size) k→k<w14.heap.size from fun k hk=>Nat.lt_of_lt_of_le hk.2 (HC.out w7 (by simp)).size)
 go_wp2_with(first
  |(refine zL 12 61 Tryz.func12 #[.slice At lt.length ct] ?_;(with_reducible refine(laws_toEntryS.calls ku _ _ lt rt _ (Kd.qB HLT.out.1 (HC.out w (by simp))) HLT.out.2 HTT.out).mono ?_);rintro e w15 ⟨v_,rfl,ho,hb⟩;refine⟨_,rfl,?_⟩;obtain⟨T2,d2,e_⟩:=Kd.qZ ho;subst e_;replace HC:=zz (Nd.Ch.step HC.out hb);have HT2_:=zz (And.intro (Kd.qM ho).2.2 (Kd.qM ho).2.1);clear hb ho)
  |(refine zL 16 62 Tryz.func16 #[.slice T1 rt.length d1,.slice T2 rt.length d2] ?_;(with_reducible refine(laws_eqEntryS.calls kv _ _ rt _ _ rt true _ (Kd.qB H9.out.1 (HC.out w9 (by simp))) H9.out.2 HT2_.out.1 HT2_.out.2 HV.out).mono ?_);rintro e w16 ⟨rfl,hb⟩;refine⟨_,rfl,?_⟩;replace HC:=zz (Nd.Ch.step HC.out hb);clear hb HT2_;obtain⟨y0,y1,y2,y3⟩:=zy4 (qS HX8.out (HC.out w8 (by simp))))
  |(refine zL 17 66 Tryz.func17 #[.agg #[.slice C0 r0.length e0,.slice C1 r1.length e1,.slice C2 r2.length e2,.slice C3 r3.length e3],.int .i64 1] ?_;have hl5:=Mk.Like.below (P:=fun k=>w6.heap.size≤k∧k<w7.heap.size) (HC.out w7 (by simp));(with_reducible refine(Mk.World (P:=fun k=>w6.heap.size≤k∧k<w7.heap.size) (r:=kk) (fun k hk=>Nat.lt_of_lt_of_le hk.2 (HC.out w7 (by simp)).size) (HRW.out.h0.like hl5) (HRW.out.h1.like hl5) (HRW.out.h2.like hl5) (HRW.out.h3.like hl5) (by decide) HK.out.1 HK.out.2).mono ?_);rintro e w17 ⟨rfl,hl⟩;refine⟨_,rfl,?_⟩;have HB1:=zz ((hl.kept g1 (blk_lt (qS BX.out (HC.out w1 (by simp)))) (fun hp=>by have h1:=hp.1;have h2:=HG1.out.2;have h3:=HS6.out.2;omega)).trans (qS BX.out (HC.out w1 (by simp))));have HE7:=zz (Kd.S_kept (Kd.S_below HE6.out (HC.out w6 (by simp))) hl.to_kept (fun k hk hp=>Nat.lt_irrefl _ (Nat.lt_of_lt_of_le hk hp.1)));have HG11:=zz (Kd.S_kept (Kd.S_below HG10.out (HC.out w10 (by simp))) hl.to_kept (fun k hk hp=>by have h1:=hp.2;have h2:=hk.1;have h3:=HS8.out;have h4:=HS9.out;omega));have HR10:=zz ((HR9.out.like (Mk.Like.below (P:=fun k=>w6.heap.size≤k∧k<w7.heap.size) (HC.out w9 (by simp)))).like hl);have hB:=Mk.Like.to_below (HC.out w (by simp)) (HC.out w (by simp)).size hl (fun k hk=>Nat.le_trans HS6.out.1 hk.1);replace HC:=zz (Nd.Ch.new (l:=[w]) (fun x hx=>by rw[List.mem_singleton.1 hx];exact hB));clear hl hl5 hB y0 y1 y2 y3 BX HE6 HG10 HR9 H9 H7 HRW HX8 HP1)
  |(refine zL 18 69 Tryz.func18 #[.slice T1 rt.length d1,.int .i64 kk] ?_;(with_reducible refine(Mk.EntryS (P:=fun k=>w8.heap.size≤k∧k<w9.heap.size) (r:=kl) HR10.out HK2.out.1 HK2.out.2.1 HK2.out.2.2).mono ?_);rintro e w18 ⟨rfl,hl⟩;refine⟨_,rfl,?_⟩;have HB2:=zz ((hl.kept g1 (blk_lt HB1.out) (fun hp=>by have h1:=hp.1;have h2:=HG1.out.2;have h3:=HS6.out.2;have h4:=HS7.out;have h5:=HS8.out;omega)).trans HB1.out);have HE8:=zz (Kd.S_kept HE7.out hl.to_kept (fun k hk hp=>by have h1:=hp.1;have h3:=HS7.out;have h4:=HS8.out;omega));have HG12:=zz (Kd.S_kept HG11.out hl.to_kept (fun k hk hp=>by have h1:=hp.2;have h2:=hk.1;omega));have hB:=Mk.Like.to_below (HC.out w (by simp)) (HC.out w (by simp)).size hl (fun k hk=>Nat.le_trans HS6.out.1 (Nat.le_trans HS7.out (Nat.le_trans HS8.out hk.1)));replace HC:=zz (Nd.Ch.new (l:=[w]) (fun x hx=>by rw[List.mem_singleton.1 hx];exact hB));clear hl hB HB1 HE7 HG11 HR10)
  |(refine zN 75 ?_;refine z4 ?_;dsimp only;refine zL 14 75 Tryz.func14 #[.slice G0 R.length h0,.slice E0 R.length f0] ?_;have e6:=Kd.S_reads' (HE8.out);have e7:=Kd.S_reads' (HG12.out);(with_reducible refine(laws_eqWriteS.calls ke _ _ R _ _ R true _ e7.2.2 e7.2.1 e6.2.2 e6.2.1 HEQ.out).mono ?_);rintro e w19 ⟨rfl,hb⟩;refine⟨_,rfl,?_⟩;replace HC:=zz (Nd.Ch.step HC.out hb);clear hb e6 e7)
  |(refine zL 19 80 Tryz.func19 #[.slice G0 R.length h0,.int .i64 1] ?_;(with_reducible refine(laws_markWriteS.calls km (fun k=>w9.heap.size≤k∧k<w10.heap.size) _ R 1 m M w _ (HC.out w (by simp)) (Kd.S_lower (Kd.S_below HG12.out (HC.out w18 (by simp))) (Nat.le_trans HS6.out.1 (Nat.le_trans HS7.out (Nat.le_trans HS8.out HS9.out)))) HM.out HLEN.out).mono ?_);rintro e w20 ⟨rfl,ho,hB,hk⟩;refine⟨_,rfl,?_⟩;have HB3:=zz ((hk.2 g1 (blk_lt (qS HB2.out (HC.out w18 (by simp)))) (fun hp=>by have h1:=hp.1;have h2:=HG1.out.2;have h3:=HS6.out.2;have h4:=HS7.out;have h5:=HS8.out;have h6:=HS9.out;omega)).trans (qS HB2.out (HC.out w18 (by simp))));have HE9:=zz (Kd.S_kept (Kd.S_below HE8.out (HC.out w18 (by simp))) hk (fun k h1 h2=>by have h3:=h2.1;have h4:=HS7.out;have h5:=HS8.out;have h6:=HS9.out;omega));have HG13:=zz ho;replace HC:=zz (Nd.Ch.new (l:=[w]) (fun x hx=>by rw[List.mem_singleton.1 hx];exact hB));clear ho hB hk HB2 HE8 HG12)
  |(refine zL 20 83 Tryz.func20 #[.slice G0 R.length h0,.int .i64 1] ?_;(with_reducible refine(Nd.heldW HG13.out HH.out).mono ?_);rintro e w21 ⟨rfl,hb⟩;refine⟨_,rfl,?_⟩;replace HC:=zz (Nd.Ch.step HC.out hb);clear hb;obtain⟨x0,x1,x2,x3⟩:=zy4 (qS HB3.out (HC.out w20 (by simp))))
  |(refine zL 11 90 Tryz.func11 #[.agg #[.slice A0 l0.length c0,.slice A1 l1.length c1,.slice A2 l2.length c2,.slice A3 l3.length c3]] ?_;(with_reducible refine(Nd.toWorld kt (HL.out.below (HC.out w (by simp))) HTW.out).mono ?_);rintro e w22 ⟨J0,j0,J1,j1,J2,j2,J3,j3,rfl,h4,_,hb⟩;refine⟨_,rfl,?_⟩;replace HC:=zz (Nd.Ch.new (Nd.Ch.step HC.out hb));have H22:=zz h4;clear x0 x1 x2 x3;clear hb h4)
  |(refine zL 12 93 Tryz.func12 #[.slice At lt.length ct] ?_;(with_reducible refine(laws_toEntryS.calls ku _ _ lt rt _ (Kd.qB HLT.out.1 (HC.out w (by simp))) HLT.out.2 HTT.out).mono ?_);rintro e w23 ⟨v_,rfl,ho,hb⟩;refine⟨_,rfl,?_⟩;obtain⟨T3,d3,e_⟩:=Kd.qZ ho;subst e_;replace HC:=zz (Nd.Ch.step HC.out hb);have HT3:=zz (And.intro (Kd.qM ho).2.2 (Kd.qM ho).2.1);clear hb ho)
  |(refine zL 13 95 Tryz.func13 #[.agg #[.slice J0 r0.length j0,.slice J1 r1.length j1,.slice J2 r2.length j2,.slice J3 r3.length j3],.string a1,.slice T3 rt.length d3,.string a3] ?_;have h7:=H22.out.below (HC.out w22 (by simp));(with_reducible refine(impl_PlanAdd.calls ki _ _ r0 _ _ r1 _ _ r2 _ _ r3 a1 _ _ rt a3 R _ h7.h0 h7.g0 h7.h1 h7.g1 h7.h2 h7.g2 h7.h3 h7.g3 HT3.out.1 HT3.out.2 (HG.out.below (HC.out w (by simp))) HI.out).mono ?_);rintro e w24 ⟨v24,rfl,ho,hb⟩;refine⟨_,rfl,?_⟩;replace HC:=zz (Nd.Ch.new (Nd.Ch.step HC.out hb));have HQ:=zz ho;clear hb ho h7 H22 HT3;obtain⟨O0,o0,e24⟩:=Kd.S_slice HQ.out;subst e24)
  |(refine zL 14 98 Tryz.func14 #[.slice O0 R.length o0,.slice E0 R.length f0] ?_;have e6:=Kd.S_reads' (Kd.S_below HE9.out (HC.out w20 (by simp)));have e7:=Kd.S_reads' (HQ.out);(with_reducible refine(laws_eqWriteS.calls ke _ _ R _ _ R true _ e7.2.2 e7.2.1 e6.2.2 e6.2.1 HEQ.out).mono ?_);rintro e w25 ⟨rfl,hb⟩;refine⟨_,rfl,?_⟩;replace HC:=zz (Nd.Ch.step HC.out hb);clear hb e6 e7)
  |(refine zL 20 102 Tryz.func20 #[.slice G0 R.length h0,.int .i64 1] ?_;(with_reducible refine(Nd.heldW (Kd.S_below HG13.out (HC.out w20 (by simp))) HH.out).mono ?_);rintro e w26 ⟨rfl,hb⟩;refine⟨_,rfl,?_⟩;replace HC:=zz (Nd.Ch.step HC.out hb);clear hb))
 go_ret
 exact⟨rfl,by repeat(first|exact HC.out w (by simp)|apply qX|apply qW|apply qK)⟩
theorem laws_FnExactPlanAdd.long1{w:World}{v0 v1 v2 v3 v4:Value}{a1 a3:ByteArray}(hn1:(a1.size:Int)>1048576):
 Calls Tryz.prog 3 #[.agg #[v0,v1,v2,v3],.string a1,v4,.string a3] w fun e w'=>e= .returned (.bool true)∧Below w.heap.size w w':=by
 have hu27:=Tryz.underlying27
 have n0:=zgt hn1
 have n1:decide (1048576<a1.size)=true:=z1 (by omega)
 clear hn1
 have HB:=yB w
 go_enter Tryz.func3,Tryz.ntmps3
 go_wp2
 go_ret
 exact⟨rfl,zb⟩
theorem laws_FnExactPlanAdd.long3{w:World}{v0 v1 v2 v3 v4:Value}{a1 a3:ByteArray}(hn1:¬(a1.size:Int)>1048576)(hn3:(a3.size:Int)>1048576):
 Calls Tryz.prog 3 #[.agg #[v0,v1,v2,v3],.string a1,v4,.string a3] w fun e w'=>e= .returned (.bool true)∧Below w.heap.size w w':=by
 have hu27:=Tryz.underlying27
 have n0_:=zgtn hn1
 have n1_:decide (1048576<a1.size)=false:=z0 (by omega)
 have n5_:=zgt hn3
 have n6_:decide (1048576<a3.size)=true:=z1 (by omega)
 clear hn1 hn3
 have HB:=yB w
 go_enter Tryz.func3,Tryz.ntmps3
 go_wp2
 go_ret
 exact⟨rfl,zb⟩
theorem laws_FnExactPlanAdd.much{w:World}{A0 A1 A2 A3 At:Option Addr}{c0 c1 c2 c3 ct:Nat}{l0:List S119}{l1:List S123}{l2:List S126}{l3:List S129}{lt:List S80}{a1 a3:ByteArray}{lf lg:Int}{kz ky:Nat}
 (hL:Nd.L4 w A0 c0 A1 c1 A2 c2 A3 c3 l0 l1 l2 l3) (hn1:¬(a1.size:Int)>1048576) (hn3:¬(a3.size:Int)>1048576) (hz:laws_szWorld.f kz l0 l1 l2 l3 1048576=some lf) (hlf:lf<0):
 Calls Tryz.prog 3 #[.agg #[.slice A0 l0.length c0,.slice A1 l1.length c1,.slice A2 l2.length c2,.slice A3 l3.length c3],.string a1,.slice At lt.length ct,.string a3] w fun e w'=>e= .returned (.bool true)∧Below w.heap.size w w':=by
 have hu27:=Tryz.underlying27
 have HL:=zz hL
 have HZ:=zz hz
 have n0_:=zgtn hn1
 have n1_:decide (1048576<a1.size)=false:=z0 (by omega)
 have n5_:=zgtn hn3
 have n6_:decide (1048576<a3.size)=false:=z0 (by omega)
 have n2_:=z1 hlf
 clear hL hn1 hn3 hz hlf
 have HC:=zz (show Nd.Ch [w] w from fun x hx=>by rw[List.mem_singleton.1 hx];exact Below.refl _ _)
 go_enter Tryz.func3,Tryz.ntmps3
 go_wp2_with(first
  |(refine zN 4 ?_;(try(refine z4 ?_;dsimp only));refine zX 4 27 #[.slice A0 l0.length c0,.slice A1 l1.length c1,.slice A2 l2.length c2,.slice A3 l3.length c3] ?_;intro g1 hg w1 hbox hb;replace HC:=zz (Nd.Ch.new (Nd.Ch.step (Nd.zh HC.out) hb));have BX:=zz hbox;have HG1:=zz (show w.heap.size≤g1∧g1<w1.heap.size from⟨Nat.le_of_eq hg.symm,blk_lt hbox⟩);obtain⟨x0,x1,x2,x3⟩:=zy4 hbox;clear hg hb hbox)
  |(refine zL 8 26 Tryz.func8 #[.agg #[.slice A0 l0.length c0,.slice A1 l1.length c1,.slice A2 l2.length c2,.slice A3 l3.length c3],.int .i64 1048576] ?_;have HLw:=HL.out.below (HC.out w (by simp));(with_reducible refine(laws_szWorld.calls kz _ _ l0 _ _ l1 _ _ l2 _ _ l3 1048576 lf _ HLw.h0 HLw.g0 HLw.h1 HLw.g1 HLw.h2 HLw.g2 HLw.h3 HLw.g3 HZ.out).mono ?_);rintro e w2 ⟨rfl,hb⟩;refine⟨_,rfl,?_⟩;replace HC:=zz (Nd.Ch.step HC.out hb);clear hb HLw x0 x1 x2 x3))
 go_ret
 exact⟨rfl,by repeat(first|exact HC.out w (by simp)|apply qX|apply qW|apply qK)⟩
theorem laws_FnExactPlanAdd.much2{w:World}{A0 A1 A2 A3 At:Option Addr}{c0 c1 c2 c3 ct:Nat}{l0:List S119}{l1:List S123}{l2:List S126}{l3:List S129}{lt:List S80}{a1 a3:ByteArray}{lf lg:Int}{kz ky:Nat}
 (hL:Nd.L4 w A0 c0 A1 c1 A2 c2 A3 c3 l0 l1 l2 l3) (hn1:¬(a1.size:Int)>1048576) (hn3:¬(a3.size:Int)>1048576) (hLt:Kd.C k80 w At lt.length lt∧lt.length≤ct) (hz:laws_szWorld.f kz l0 l1 l2 l3 1048576=some lf) (hlf:¬lf<0) (hy:laws_szEntryS.f ky lt lf=some lg) (hlg:lg<0):
 Calls Tryz.prog 3 #[.agg #[.slice A0 l0.length c0,.slice A1 l1.length c1,.slice A2 l2.length c2,.slice A3 l3.length c3],.string a1,.slice At lt.length ct,.string a3] w fun e w'=>e= .returned (.bool true)∧Below w.heap.size w w':=by
 have hu27:=Tryz.underlying27
 have HL:=zz hL
 have HZ:=zz hz
 have n0_:=zgtn hn1
 have n1_:decide (1048576<a1.size)=false:=z0 (by omega)
 have n5_:=zgtn hn3
 have n6_:decide (1048576<a3.size)=false:=z0 (by omega)
 have n2_:=z0 hlf
 have n7_:=z1 hlg
 have HY:=zz hy
 have HLT:=zz hLt
 clear hL hLt hn1 hn3 hz hlf hy hlg
 have HC:=zz (show Nd.Ch [w] w from fun x hx=>by rw[List.mem_singleton.1 hx];exact Below.refl _ _)
 go_enter Tryz.func3,Tryz.ntmps3
 go_wp2_with(first
  |(refine zN 4 ?_;(try(refine z4 ?_;dsimp only));refine zX 4 27 #[.slice A0 l0.length c0,.slice A1 l1.length c1,.slice A2 l2.length c2,.slice A3 l3.length c3] ?_;intro g1 hg w1 hbox hb;replace HC:=zz (Nd.Ch.new (Nd.Ch.step (Nd.zh HC.out) hb));have BX:=zz hbox;have HG1:=zz (show w.heap.size≤g1∧g1<w1.heap.size from⟨Nat.le_of_eq hg.symm,blk_lt hbox⟩);obtain⟨x0,x1,x2,x3⟩:=zy4 hbox;clear hg hb hbox)
  |(refine zL 8 26 Tryz.func8 #[.agg #[.slice A0 l0.length c0,.slice A1 l1.length c1,.slice A2 l2.length c2,.slice A3 l3.length c3],.int .i64 1048576] ?_;have HLw:=HL.out.below (HC.out w (by simp));(with_reducible refine(laws_szWorld.calls kz _ _ l0 _ _ l1 _ _ l2 _ _ l3 1048576 lf _ HLw.h0 HLw.g0 HLw.h1 HLw.g1 HLw.h2 HLw.g2 HLw.h3 HLw.g3 HZ.out).mono ?_);rintro e w2 ⟨rfl,hb⟩;refine⟨_,rfl,?_⟩;replace HC:=zz (Nd.Ch.step HC.out hb);clear hb HLw x0 x1 x2 x3)
  |(refine zL 9 31 Tryz.func9 #[.slice At lt.length ct,.int .i64 lf] ?_;(with_reducible refine(laws_szEntryS.calls ky _ _ lt lf lg _ (Kd.qB HLT.out.1 (HC.out w (by simp))) HLT.out.2 HY.out).mono ?_);rintro e w3 ⟨rfl,hb⟩;refine⟨_,rfl,?_⟩;replace HC:=zz (Nd.Ch.step HC.out hb);clear hb;obtain⟨x0,x1,x2,x3⟩:=zy4 (qS BX.out (HC.out w1 (by simp)))))
 go_ret
 exact⟨rfl,by repeat(first|exact HC.out w (by simp)|apply qX|apply qW|apply qK)⟩
end Go.Proofs.YtmdoobnlehkmpaaGreatDoor.Q
