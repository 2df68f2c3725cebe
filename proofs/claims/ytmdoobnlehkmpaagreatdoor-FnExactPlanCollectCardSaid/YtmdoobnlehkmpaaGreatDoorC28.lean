import Derived.Test.YtmdoobnlehkmpaaGreatDoorC27
namespace Go.Proofs.YtmdoobnlehkmpaaGreatDoor.Q
open Go.RowKit W1 W2 W3
attribute [local go_sem] max2_int min2_int max_two min_two max_three min_three max_four min_four
attribute [local go_sem high] bl_leq bl_gtr bl_geq
set_option maxHeartbeats 8000000
set_option maxRecDepth 100000
def spec_l13Used.l0:Nat->List (S103)->ByteArray->Int->Option (Bool)
 |0,_,_,_=>none
 |k+1,x0,x1,x5=>if x5<(x0.length:Int) then(if 0<=x5 then(if((qC x0 x5).f0).toList=x1.toList then(spec_l13Used.l0 k x0 x1 (wrap64 (x5+1))) else((spec_l3Has.f k ((qC x0 x5).f2) x1).bind fun aa=>(if aa=true then(some true) else(spec_l13Used.l0 k x0 x1 (wrap64 (x5+1)))))) else(none)) else(some false)
def spec_l13Used.f(k:Nat)(l0:List (S103))(a1:ByteArray):Option (Bool):=spec_l13Used.l0 k l0 a1 0
theorem spec_l13Used.calls(k:Nat)(A0:Option Addr)(c0:Nat)(l0:List (S103))(a1:ByteArray)(r:Bool)(w:World)(aU:Kd.C k103 w A0 l0.length l0)(aV:l0.length<=c0)(H:spec_l13Used.f k l0 a1=some r):
 Calls Tryz.prog 127 #[.slice A0 l0.length c0,.string a1] w fun e w'=>e= .returned (.bool r)/\vB w w':=by
 have aC:=zz aU;have a5:=zz aV;clear aU aV;unfold spec_l13Used.f at H;have H':=zz H;clear H;go_enter Tryz.func127,Tryz.ntmps127;go_wp2;go_loopg[5] k (fun kq v5 w'=>∃(aa:Int),v5= .int .i64 aa/\qA (spec_l13Used.l0 kq l0 a1 aa=some r)/\qA (kq<=k)/\vB w w')
 case atStart=>exact⟨(0),zr,H',⟨Nat.le_refl _⟩,yD0⟩
 case round=>
  clear H';obtain⟨aa,rfl,HA,aI,⟨m1,rfl⟩⟩:=hrel;cases gk with
  |zero=>exact absurd HA.out (by simp[spec_l13Used.l0])
  |succ k1=>
   have H:=HA.out;clear HA;simp only[spec_l13Used.l0] at H;refine yDn H ?_ ?_<;>clear H<;>intro a3 H
   ·obtain rfl:=zi H;exact yr
   replace H:=yAD H;obtain⟨a4,H⟩:=H;refine yC H ?_ ?_<;>clear H<;>intro c5 H
   ·obtain⟨aX,aY⟩:=zq c5;clear c5;have H':=zz H;clear H;have aO:=yt (0<=(aa:Int));have aP:=yt (aa<(l0.length:Int));obtain⟨ap,aD,aE,aF,aG,ar,au,av,aj,aw,ak,ab,ac,ad,ae⟩:=at_T103 aC.out aa z2 z2;cases ar;have ax:=zz ac;have ay:=zz ab;clear ac ab;have az:=zz ae;have aA:=zz ad;clear ae ad;go_wp2;go_roundg k1
    case measure=>exact yM1 aI
    case rel=>exact⟨(wrap64 (aa+1)),zr,H',⟨yM1 aI⟩,yD0⟩
   obtain⟨aX,aY⟩:=zw c5;replace H:=zf H;obtain⟨aZ,aW,H⟩:=H;try dsimp only at H
   have A6:=zz aW;clear aW;by_cases c7:aZ=true
   ·subst c7;rw[if_pos rfl] at H;obtain rfl:=zi H;have aO:=yt (0<=(aa:Int));have aP:=yt (aa<(l0.length:Int));obtain⟨ap,aD,aE,aF,aG,ar,au,av,aj,aw,ak,ab,ac,ad,ae⟩:=at_T103 aC.out aa z2 z2;cases ar;have ax:=zz ac;have ay:=zz ab;clear ac ab;have az:=zz ae;have aA:=zz ad;clear ae ad;have a0:=yt (0<=(aa:Int));have a2:=yt (aa<(l0.length:Int));obtain⟨aB,aQ,aR,aS,aT,aH,aJ,aK,al,aL,am,af,ag,ah,ai⟩:=at_T103 aC.out aa z2 z2;obtain rfl:ap=aB:=(by injection aH)
    have an:=zz ag;have ao:=zz af;clear ag af;have aM:=zz ai;have aN:=zz ah;clear ai ah;have ea_:=Option.some.inj (aj.symm.trans al);injection ea_ with ea_ en_ ec_
    subst ea_;subst ec_;clear en_;have ea_:=Option.some.inj (ak.symm.trans am);injection ea_ with ea_ en_ ec_
    subst ea_;subst ec_;clear en_;go_wp2_with(first|(go_at_call 125;(with_reducible refine(spec_l3Has.calls k1 _ _ ((qC l0 aa).f2) a1 true _ ?s1 ?s2 A6.out).mono ?_);(case s1=>exact zd an.out);(case s2=>exact ao.out);rintro e w' ⟨rfl,⟨nd,rfl⟩⟩))
    go_ret;exact⟨zr,yD0⟩
   replace c7:=Bool.eq_false_iff.mpr c7;subst c7;rw[if_neg (show¬(false=true) by decide)] at H;have H':=zz H;clear H;have aO:=yt (0<=(aa:Int));have aP:=yt (aa<(l0.length:Int));obtain⟨ap,aD,aE,aF,aG,ar,au,av,aj,aw,ak,ab,ac,ad,ae⟩:=at_T103 aC.out aa z2 z2;cases ar;have ax:=zz ac;have ay:=zz ab;clear ac ab;have az:=zz ae;have aA:=zz ad;clear ae ad;have a0:=yt (0<=(aa:Int));have a2:=yt (aa<(l0.length:Int));obtain⟨aB,aQ,aR,aS,aT,aH,aJ,aK,al,aL,am,af,ag,ah,ai⟩:=at_T103 aC.out aa z2 z2;obtain rfl:ap=aB:=(by injection aH)
   have an:=zz ag;have ao:=zz af;clear ag af;have aM:=zz ai;have aN:=zz ah;clear ai ah;have ea_:=Option.some.inj (aj.symm.trans al);injection ea_ with ea_ en_ ec_
   subst ea_;subst ec_;clear en_;have ea_:=Option.some.inj (ak.symm.trans am);injection ea_ with ea_ en_ ec_
   subst ea_;subst ec_;clear en_;go_wp2_with(first|(go_at_call 125;(with_reducible refine(spec_l3Has.calls k1 _ _ ((qC l0 aa).f2) a1 false _ ?s1 ?s2 A6.out).mono ?_);(case s1=>exact zd an.out);(case s2=>exact ao.out);rintro e w' ⟨rfl,⟨nd,rfl⟩⟩))
   go_roundg k1
   case measure=>exact yM1 aI
   case rel=>exact⟨(wrap64 (aa+1)),zr,H',⟨yM1 aI⟩,yD0⟩
def spec_l19Cuts.f(k:Nat)(aa:List (S103))(ab:List (S137))(ac:List (S133))(ad:List (S134))(a1:ByteArray):Option (Bool):=(spec_l12Find.f k aa a1).bind fun ae=>(if ae>=0 then((spec_l19Live.f k aa ab ac ad).bind fun af=>((spec_l3Has.f k af a1).bind fun ag=>(if ag=true then(some false) else((spec_l13Used.f k aa a1).bind fun ah=>(some (!ah)))))) else(some false))
theorem spec_l19Cuts.calls(k:Nat)(ao:Option Addr)(ap:Nat)(ae:List (S103))(ar:Option Addr)(au:Nat)(af:List (S137))(av:Option Addr)(aw:Nat)(ag:List (S133))(ax:Option Addr)(ay:Nat)(ah:List (S134))(a1:ByteArray)(r:Bool)(w:World)(az:Kd.C k103 w ao ae.length ae)(aA:ae.length<=ap)(aB:Kd.C k137 w ar af.length af)(aC:af.length<=au)(aD:Kd.C k133 w av ag.length ag)(aE:ag.length<=aw)(aF:Kd.C k134 w ax ah.length ah)(aG:ah.length<=ay)(H:spec_l19Cuts.f k ae af ag ah a1=some r):
 Calls Tryz.prog 74 #[.agg #[.slice ao ae.length ap,.slice ar af.length au,.slice av ag.length aw,.slice ax ah.length ay],.string a1] w fun e w'=>e= .returned (.bool r)/\Below w.heap.size w w':=by
 have aS:=Tryz.underlying38;have aa:=zz az;have am:=zz aA;clear az aA;have ab:=zz aB;have aJ:=zz aC;clear aB aC;have ac:=zz aD;have aK:=zz aE;clear aD aE;have ad:=zz aF;have aL:=zz aG;clear aF aG;have HB:=yB w;unfold spec_l19Cuts.f at H;replace HB:=HB.out;have HW:=yB w;go_enter Tryz.func74,Tryz.ntmps74;replace H:=yf H;obtain⟨aT,A3,H⟩:=H;go_wp2_with(first|(refine zN 2 ?_;(try(refine z4 ?_;dsimp only));refine zX 2 38 #[.slice ao ae.length ap,.slice ar af.length au,.slice av ag.length aw,.slice ax ah.length ay] ?_;intro aP hg w5 hbox hb;have hst:=zv HB hb;clear hg hb HB;replace HW:=zz (zv HW.out hst);replace aa:=zz (Kd.qD aa.out hst);replace ab:=zz (Kd.qD ab.out hst);replace ac:=zz (Kd.qD ac.out hst);replace ad:=zz (Kd.qD ad.out hst);obtain⟨ai,aj,ak,al⟩:=zx4 hbox;have HB:=Below.refl w5.heap.size w5;clear hbox hst))
 refine(spec_l12Find.calls k _ _ _ _ _ _ (Kd.qD aa.out HB) am.out A3.out).mono ?_;rintro e w6 ⟨rfl,hd⟩;replace HB:=zv HB hd.below;clear hd;refine yEn H ?_ ?_<;>clear H<;>intro aU H
 ·obtain rfl:=zi H;exact yR
 replace H:=yf H;obtain⟨aV,A7,H⟩:=H;go_wp2_with(fail)
 refine(spec_l19Live.calls k _ _ _ _ _ _ _ _ _ _ _ _ _ _ (Kd.qD aa.out HB) am.out (Kd.qD ab.out HB) aJ.out (Kd.qD ac.out HB) aK.out (Kd.qD ad.out HB) aL.out A7.out).mono ?_;rintro e w8 ⟨aN,rfl,an,hb⟩;replace HB:=zv HB hb;clear hb;have hst:=HB;replace HW:=zz (zv HW.out hst);replace aa:=zz (Kd.qD aa.out hst);replace ai:=qG ai hst;replace aj:=qG aj hst;replace ak:=qG ak hst;replace al:=qG al hst;clear hst;replace HB:=Below.refl w8.heap.size w8;obtain⟨aQ,aR,rfl,hl_,hC_⟩:=Kd.R_reads an;have aH:=zz hC_;have aI:=zz hl_;clear hl_ hC_ an;replace H:=yf H;obtain⟨aW,aM,H⟩:=H;refine yT H ?_ ?_<;>clear H<;>rintro rfl H
 ·go_wp2_with(fail)
  refine(spec_l3Has.calls k _ _ _ _ _ _ (Kd.qD aH.out HB) aI.out aM.out).mono ?_;rintro e aY ⟨rfl,hd⟩;replace HB:=zv HB hd.below;clear hd;obtain rfl:=zi H;exact yR
 go_wp2_with(fail)
 refine(spec_l3Has.calls k _ _ _ _ _ _ (Kd.qD aH.out HB) aI.out aM.out).mono ?_;rintro e aZ ⟨rfl,hd⟩;replace HB:=zv HB hd.below;clear hd;replace H:=yf H;obtain⟨aX,aO,H⟩:=H;go_wp2_with(fail)
 refine(spec_l13Used.calls k _ _ _ _ _ _ (Kd.qD aa.out HB) am.out aO.out).mono ?_;rintro e a0 ⟨rfl,hd⟩;replace HB:=zv HB hd.below;clear hd;obtain rfl:=zi H;exact yR
theorem zV_{P Q:Prop}(q:Q)(f:Q->P:=by intro q;(with_reducible repeat(first|apply Kd.V_alloc|apply Kd.V_drewN|apply Kd.V_drew));exact q):P:=f q
theorem hK87:Kd.Heap k87:=Kd.heap_iso _ (Kd.heap_pair Kd.heap_string (Kd.heap_pair (Kd.heap_int _) (Kd.heap_pair Kd.heap_string Kd.heap_bool)))
theorem hK103:Kd.Heap k103:=Kd.heap_iso _ (Kd.heap_pair Kd.heap_string (Kd.heap_pair Kd.heap_string (Kd.heap_pair (Kd.heap_slice _ Kd.heap_string) (Kd.heap_pair Kd.heap_string (Kd.heap_slice _ hK87)))))
theorem C_V{w:World}{A:Option Addr}{c:Nat}{l:List S103}(h:Kd.C k103 w A l.length l)(hc:l.length<=c):Kd.V k103 103 w w.heap.size (fun k_=>k_<w.heap.size) (.slice A l.length c) l:=
 Kd.V_mk hc (fun _ hW=>hK103.C (fun k hk=>hW k hk hk) h)
theorem spec_l19Do.cut(k:Nat)(A0:Option Addr)(c0:Nat)(l0:List S103)(A1:Option Addr)(c1:Nat)(l1:List S137)(A2:Option Addr)(c2:Nat)(l2:List S133)(A3:Option Addr)(c3:Nat)(l3:List S134)(p:ByteArray)(r:List S103)(b:Bool)(aj:Nat->Prop)(w:World)(ak:Kd.V k103 103 w w.heap.size aj (.slice A0 l0.length c0) l0)(am:Kd.C k137 w A1 l1.length l1)(av:l1.length<=c1)(an:Kd.C k133 w A2 l2.length l2)(aw:l2.length<=c2)(ao:Kd.C k134 w A3 l3.length l3)(ax:l3.length<=c3)(h:spec_l19Cuts.f k l0 l1 l2 l3 p=some true)(h2:spec_l12Without.f k l0 [p]=some (r,b)):
 Calls Tryz.prog 67 #[.agg #[.slice A0 l0.length c0,.slice A1 l1.length c1,.slice A2 l2.length c2,.slice A3 l3.length c3],.agg #[.int .i64 7,.string ⟨#[]⟩,.string p,.slice none 0 0,.string ⟨#[]⟩,.int .i64 0]] w fun e w'=>∃(A:Option Addr) (c:Nat),e= .returned (.agg #[.slice A r.length c,.slice A1 l1.length c1,.slice A2 l2.length c2,.slice A3 l3.length c3])/\Kd.V k103 103 w' w.heap.size (fun k_=>aj k_\/w.heap.size<=k_) (.slice A r.length c) r/\Below w.heap.size w w':=by
 have au:=Tryz.underlying38;have aM:=Tryz.underlying54;have ap:=(Kd.V_reads' ak).2.2;have ay:=(Kd.V_reads' ak).2.1;have az:=zz ap;have aA:=zz am;have aB:=zz an;have aC:=zz ao;have HV:=zz (Kd.V_bound ak);clear ak;have aD:=zz h;have ar:=zz h2;clear h h2 ap am an ao;have HB:=yB w;obtain⟨y_,hy_⟩:∃y_:List ByteArray,y_=[p]:=⟨_,rfl⟩
 have Ny_:=zz hy_;rw[<-hy_] at ar;clear hy_;go_enter Tryz.func67,Tryz.ntmps67
 go_wp2_with(first
  |(refine zX 2 38 #[.slice A0 l0.length c0,.slice A1 l1.length c1,.slice A2 l2.length c2,.slice A3 l3.length c3] ?_;intro gb_ hg w1 hbox hb;replace HV:=zz (Kd.V_below (zV_ HV.out) hb);have GB:=zz ((zg:w.heap.size<=gb_));have BK:=zz hbox;replace HB:=zz (zv zb hb);clear hb hbox hg)
  |(refine zX 3 54 #[.int .i64 7,.string ⟨#[]⟩,.string p,.slice none 0 0,.string ⟨#[]⟩,.int .i64 0] ?_;intro gx_ hg w2 hbox hb;replace HV:=zz (Kd.V_below (zV_ HV.out) hb);have GX:=zz ((zg:w.heap.size<=gx_));have N1:=zz (zH BK hg);have N2:=zz (zI BK hg);have BX:=zz hbox;replace HB:=zz (zv zb hb);replace BK:=zz (zJ BK hb);clear hb hbox hg)
  |(refine zX 4 38 #[.slice none 0 0,.slice none 0 0,.slice none 0 0,.slice none 0 0] ?_;intro gr_ hg w3 hbox hb;replace HV:=zz (Kd.V_below (zV_ HV.out) hb);have GR:=zz ((zg:w.heap.size<=gr_));have N3:=zz (zH BK hg);have N4:=zz (zI BK hg);have N5:=zz (zH BX hg);have N6:=zz (zI BX hg);have BR:=zz hbox;replace HB:=zz (zv zb hb);replace BK:=zz (zJ BK hb);replace BX:=zz (zJ BX hb);clear hb hbox hg;have aN:=N1.out;have aO:=N2.out;have aP:=N3.out;have aQ:=N4.out;have aR:=N5.out;have aS:=N6.out;obtain⟨aa,ab,ac,ad,ae,af,ag,ah⟩:=zc4 BK.out;have al:w3.cell? ⟨gx_,0,none⟩=some (.int .i64 7):=(qH BX.out 0).trans rfl;have ai:w3.cell? ⟨gx_,2,none⟩=some (.string p):=(qH BX.out 2).trans rfl)
  |(refine zL 74 204 Tryz.func74 #[.agg #[.slice A0 l0.length c0,.slice A1 l1.length c1,.slice A2 l2.length c2,.slice A3 l3.length c3],.string p] ?_;(with_reducible refine(spec_l19Cuts.calls k _ _ l0 _ _ l1 _ _ l2 _ _ l3 p true _ ?s1 ay ?s3 av ?s5 aw ?s7 ax aD.out).mono ?_);(case s1=>exact zC az.out);(case s3=>exact zC aA.out);(case s5=>exact zC aB.out);(case s7=>exact zC aC.out);rintro e w4 ⟨rfl,hb⟩;refine⟨_,rfl,?_⟩;replace HV:=zz (Kd.V_below (zV_ HV.out) hb);replace BK:=zz (zJ BK hb);replace BX:=zz (zJ BX hb);replace BR:=zz (zJ BR hb);replace HB:=zz (zv zb hb);clear hb aa ab ac ad ae af ag ah al ai;obtain⟨aa,ab,ac,ad,ae,af,ag,ah⟩:=zc4 BK.out;have ai:w4.cell? ⟨gx_,2,none⟩=some (.string p):=(qH BX.out 2).trans rfl)
  |(refine zN 210 ?_;refine Kd.R_lit Kd.string _ 9 ?hg (N:=210) ?hd (xs:=([p]:List ByteArray)) (inner:=[.string p]) (ok:=fun _=>True) (okp:=fun _=>True) ?hr ?hp (fun _ hk=>hk) trivial (Below.refl _ _) (Nat.le_refl _) (by simp) ?_;(case hd=>rfl);(case hg=>rfl);(case hr=>first|(go_simp;done)|(go_simp;rfl));(case hp=>exact(Reps.one (show Kd.M Kd.string _ _ _ p [.string p] from rfl) (Reps.none _ _)));intro v_ w5 ho hb hg_ hnew_;clear hg_ hnew_;rw[<-Ny_.out] at ho;replace HV:=zz (Kd.V_below (zV_ HV.out) hb);replace BK:=zz (zJ BK hb);replace BX:=zz (zJ BX hb);replace BR:=zz (zJ BR hb);replace HB:=zz (zv zb hb);obtain⟨Ao_,co_,rfl,hl_,hC_⟩:=Kd.R_reads ho;have HP:=zz hC_;have LP:=zz hl_;clear hb ho hl_ hC_)
  |(refine zL 116 211 Tryz.func116 #[.slice A0 l0.length c0,.slice Ao_ y_.length co_] ?_;(with_reducible refine(spec_l12Without.calls k (fun k_=>aj k_/\k_<w.heap.size) _ _ l0 _ _ y_ r b _ ?s1 ?s2 ?s3 ar.out).mono ?_);(case s1=>exact zV_ HV.out);(case s2=>exact zd HP.out);(case s3=>exact LP.out);rintro e w6 ⟨v6,rfl,ho,hb⟩;refine⟨_,rfl,?_⟩;obtain⟨Ar_,cr_,rfl⟩:=Kd.V_slice ho;have HO:=zz (Kd.V_mono (ok':=fun k_=>(aj k_\/w.heap.size<=k_)/\k_≠gb_/\k_≠gr_) ho (fun k_ hk_=>Or.elim hk_ (fun hs_=>⟨.inl hs_.1,Nat.ne_of_lt (Nat.lt_of_lt_of_le hs_.2 GB.out),Nat.ne_of_lt (Nat.lt_of_lt_of_le hs_.2 GR.out)⟩) (fun hn_=>⟨.inr (Nat.le_trans (qF zb) hn_),Kd.freshB (zB BK.out) k_ hn_,Kd.freshB (zB BR.out) k_ hn_⟩)));replace BK:=zz (zJ BK hb);replace BR:=zz (zJ BR hb);replace HB:=zz (zv zb hb);clear hb ho HV BX aa ab ac ad ae af ag ah ai;obtain⟨aa,ab,ac,ad,ae,af,ag,ah⟩:=zc4 BK.out;obtain⟨aE,aF,aG,aH,aI,aJ,aK,aL⟩:=zc4 BR.out))
 have HF:=(Kd.V_far (p:=⟨gr_,3,none⟩) (Kd.V_far (p:=⟨gr_,2,none⟩) (Kd.V_far (p:=⟨gr_,1,none⟩) (Kd.V_far (p:=⟨gr_,0,none⟩) (Kd.V_far (p:=⟨gb_,0,none⟩) HO.out (fun _ hk=>hk.2.1) (.slice Ar_ r.length cr_)) (fun _ hk=>hk.2.2) (.slice Ar_ r.length cr_)) (fun _ hk=>hk.2.2) (.slice A1 l1.length c1)) (fun _ hk=>hk.2.2) (.slice A2 l2.length c2)) (fun _ hk=>hk.2.2) (.slice A3 l3.length c3))
 refine bodyPost_ret (results_cell_row rfl _ _ gr_ 38 #[.slice Ar_ r.length cr_,.slice A1 l1.length c1,.slice A2 l2.length c2,.slice A3 l3.length c3] (0,0) _ rfl (by refine blk_put (cs:= #[.slice Ar_ r.length cr_,.slice A1 l1.length c1,.slice A2 l2.length c2,.slice none 0 0]) ?_ 3 _ rfl;refine blk_put (cs:= #[.slice Ar_ r.length cr_,.slice A1 l1.length c1,.slice none 0 0,.slice none 0 0]) ?_ 2 _ rfl;refine blk_put (cs:= #[.slice Ar_ r.length cr_,.slice none 0 0,.slice none 0 0,.slice none 0 0]) ?_ 1 _ rfl;refine blk_put (cs:= #[.slice none 0 0,.slice none 0 0,.slice none 0 0,.slice none 0 0]) ?_ 0 _ rfl;refine blk_far ?_ N4.out _;exact BR.out) au rfl zk) rfl ?_;exact⟨_,_,ze,Kd.V_mono HF (fun _ hk=>hk.1),zb⟩
mutual
def impl_worldRoots.l0:Nat->List ByteArray->List (S137)->Int->Int->List (S103)->List (S137)->List (S133)->List (S134)->Option (List ByteArray)
 |0,_,_,_,_,_,_,_,_=>none
 |k+1,x3,af,ah,ae,ac,ad,aa,ab=>if ae<ah then(if 0<=ae then(if ae<(af.length:Int) then(impl_worldRoots.l1 k x3 af ah ae ((qE af ae).f2) (((qE af ae).f2).length:Int) 0 ac ad aa ab) else(none)) else(none)) else(impl_worldRoots.l2 k x3 ab (ab.length:Int) 0 ac ad aa ab)
def impl_worldRoots.l1:Nat->List ByteArray->List (S137)->Int->Int->List (S139)->Int->Int->List (S103)->List (S137)->List (S133)->List (S134)->Option (List ByteArray)
 |0,_,_,_,_,_,_,_,_,_,_,_=>none
 |k+1,x3,af,ah,ae,al,ap,ai,ac,ad,aa,ab=>if ai<ap then(if 0<=ai then(if ai<(al.length:Int) then(if x3.length<8796093022208 then(impl_worldRoots.l1 k (x3++[(qP al ai).f1]) af ah ae al ap (wrap64 (ai+1)) ac ad aa ab) else(none)) else(none)) else(none)) else(impl_worldRoots.l0 k x3 af ah (wrap64 (ae+1)) ac ad aa ab)
def impl_worldRoots.l2:Nat->List ByteArray->List (S134)->Int->Int->List (S103)->List (S137)->List (S133)->List (S134)->Option (List ByteArray)
 |0,_,_,_,_,_,_,_,_=>none
 |k+1,x3,am,ar,aj,ac,ad,aa,ab=>if aj<ar then(if 0<=aj then(if aj<(am.length:Int) then(if x3.length<8796093022208 then(impl_worldRoots.l2 k (x3++[(rd_T134 am aj).f1]) am ar (wrap64 (aj+1)) ac ad aa ab) else(none)) else(none)) else(none)) else((impl_storePaths.f k ac).bind fun aw=>(impl_worldRoots.l3 k x3 aw aa (aa.length:Int) 0))
def impl_worldRoots.l3:Nat->List ByteArray->List ByteArray->List (S133)->Int->Int->Option (List ByteArray)
 |0,_,_,_,_,_=>none
 |k+1,x3,au,ak,av,ag=>if ag<av then(if 0<=ag then(if ag<(ak.length:Int) then(if x3.length<8796093022208 then((some (x3++[(qN ak ag).f0]:List ByteArray)).bind fun an=>((impl_RefsIn.f k ((qN ak ag).f1) au).bind fun ao=>(if an.length+ao.length<8796093022208 then(impl_worldRoots.l3 k (an++ao) au ak av (wrap64 (ag+1))) else(none)))) else(none)) else(none)) else(none)) else(some x3)
end
def impl_worldRoots.f(k:Nat)(ab:List (S103))(aa:List (S137))(ac:List (S133))(ad:List (S134)):Option (List ByteArray):=impl_worldRoots.l0 k (([]:List ByteArray)) aa (aa.length:Int) 0 ab aa ac ad
theorem impl_worldRoots.calls(k:Nat)(ap:Option Addr)(ar:Nat)(ah:List (S103))(aH:Option Addr)(av:Nat)(ab:List (S137))(aD:Option Addr)(aw:Nat)(ac:List (S133))(aE:Option Addr)(ax:Nat)(ag:List (S134))(r:List ByteArray)(w:World)(cd:Kd.C k103 w ap ah.length ah)(ce:ah.length<=ar)(cf:Kd.C k137 w aH ab.length ab)(cg:ab.length<=av)(ch:Kd.C k133 w aD ac.length ac)(ci:ac.length<=aw)(cj:Kd.C k134 w aE ag.length ag)(ck:ag.length<=ax)(hG_:GOK w)(h:impl_worldRoots.f k ah ab ac ag=some r):
 Calls Tryz.prog 129 #[.agg #[.slice ap ah.length ar,.slice aH ab.length av,.slice aD ac.length aw,.slice aE ag.length ax]] w fun e w'=>∃dz:Value,e= .returned (dz)/\Kd.R Kd.string 9 w' w.heap.size (fun _=>True) dz r/\Below w.heap.size w w':=by
 have eu:=Tryz.underlying38;have d3:=Tryz.underlying137;have d4:=Tryz.underlying139;have d5:=Tryz.underlying134;have d6:=Tryz.underlying133;have HG:=zz hG_;clear hG_;have c7:=zz cd;have c8:=zz ce;clear cd ce;have c9:=zz cf;have d7:=zz cg;clear cf cg;have da:=zz ch;have d8:=zz ci;clear ch ci;have db:=zz cj;have d9:=zz ck;clear cj ck;have HB:=yB w;unfold impl_worldRoots.f at h;have H:=h;clear h;obtain⟨cS,bI⟩:∃y_:List ByteArray,y_=(([]:List ByteArray)):=⟨_,rfl⟩
 replace H:(impl_worldRoots.l0 k cS ab (ab.length:Int) 0 ah ab ac ag)=some r:=yN0 bI H;have cm:=zz bI;clear bI;have H':=zz H;clear H;go_enter Tryz.func129,Tryz.ntmps129;go_wp2_with(first|(refine zX 1 38 #[.slice ap ah.length ar,.slice aH ab.length av,.slice aD ac.length aw,.slice aE ag.length ax] ?_;intro au hg w2 hbox hb;have aa:=zz (hbox);have ea:=zz ((zg:w.heap.size<=au));replace HB:=zz (zv zb hb);clear hb hbox hg)|(refine yL Kd.string 9 13 ?_;intro ev w3 bR hb hg_ hnew_;clear hg_ hnew_;(first|rw[<-cm.out] at bR|(simp only[Int.reduceToNat] at bR;rw[<-cm.out] at bR));have dc:=zz (Kd.vC bR (qF zb));replace aa:=zz (zJ aa hb);replace HB:=zz (zv zb hb);clear hb bR;obtain⟨aQ,aT,aU,aV,aW,aX,aY,aZ⟩:=zc4 aa.out))
 go_loopg[3,17] k (fun kq v3 dX w'=>∃(bg:List ByteArray) (af:Int),dX= .int .i64 af/\qA (impl_worldRoots.l0 kq bg ab (ab.length:Int) af ah ab ac ag=some r)/\qA (kq<=k)/\qA (Kd.R Kd.string 9 w' w.heap.size (fun _=>True) v3 bg)/\qA (w'.heap[au]?=some (.cells #[(.slice ap ah.length ar),(.slice aH ab.length av),(.slice aD ac.length aw),(.slice aE ag.length ax)] 38 (0,0)))/\qA (Below w.heap.size w w'))
 case atStart=>exact⟨(cS),(0),zr,H',⟨Nat.le_refl _⟩,⟨zR dc.out⟩,⟨zB aa.out⟩,⟨zb⟩⟩
 case round=>
  clear H';try clear aQ
  try clear aT
  try clear aU
  try clear aV
  try clear aW
  try clear aX
  try clear aY
  try clear aZ
  obtain⟨bg,af,rfl,HA,be,ae,aa,HB⟩:=hrel;cases gk with
  |zero=>exact absurd HA.out (by simp[impl_worldRoots.l0])
  |succ k1=>
   have H:=HA.out;clear HA;simp only[impl_worldRoots.l0] at H;refine yD H ?_ ?_<;>clear H<;>intro b4 H
   ·replace H:=yAD H;obtain⟨b7,H⟩:=H;replace H:=yAD H;obtain⟨b8,H⟩:=H;have H':=zz H;clear H;have a4:0<=(af:Int):=z2;have a5:af<(ab.length:Int):=z2;obtain⟨cn,cT,bS,dD,az,aA,aC,bk,bl⟩:=at_T137 c9.out af a4 a5;cases dD;replace az:=z3 HB.out az;replace aA:=z3 HB.out aA;replace aC:=z3 HB.out aC;have cv:=zz bl;have dK:=zz bk;clear bl bk;replace a4:=eq_true a4;replace a5:=eq_true a5;go_wp2_with(first|(refine zX 5 137 #[.string (⟨#[]⟩:ByteArray),.int .i64 0,.slice none 0 0] ?_;intro bJ hg w9 hbox hb;replace ae:=zz (Kd.R_below (zR ae.out) hb);have am:=zz (hbox);have eb:=zz ((zg:w.heap.size<=bJ));replace HB:=zz (zv zb hb);have bT:=zz (zH aa hg);have bU:=zz (zI aa hg);replace aa:=zz (zJ aa hb);clear hb hbox hg;have ec:=bU.out;have ed:=bT.out;obtain⟨a6,a7,a8,a9,ba,bb⟩:=zc3 am.out))
    go_loopg[3,24] k1 (fun kq v3 dY w'=>∃(ao:List ByteArray) (aj:Int),dY= .int .i64 aj/\qA (impl_worldRoots.l1 kq ao ab (ab.length:Int) af ((qE ab af).f2) (((qE ab af).f2).length:Int) aj ah ab ac ag=some r)/\qA (kq<=k1)/\qA (Kd.R Kd.string 9 w' w.heap.size (fun _=>True) v3 ao)/\qA (w'.heap[au]?=some (.cells #[(.slice ap ah.length ar),(.slice (some cn) ab.length av),(.slice aD ac.length aw),(.slice aE ag.length ax)] 38 (0,0)))/\qA (w'.heap[bJ]?=some (.cells #[.string ((qE ab af).f0),.int .i64 ((qE ab af).f1),(.slice cT ((qE ab af).f2).length bS)] 137 (0,0)))/\qA (Below w.heap.size w w'))
    case atStart=>exact⟨(bg),(0),zr,H',⟨Nat.le_refl _⟩,⟨yV (Kd.vG ae.out am.out yd_)⟩,⟨yP aa.out⟩,⟨yP am.out⟩,⟨zb⟩⟩
    case round=>
     clear H';try clear b4
     try clear b7
     try clear b8
     try clear a6
     try clear a7
     try clear a8
     try clear aQ
     try clear aT
     try clear aU
     try clear aV
     try clear a9
     try clear ba
     try clear bb
     try clear aW
     try clear aX
     try clear aY
     try clear aZ
     try clear az
     try clear aA
     try clear aC
     try clear a4
     try clear a5
     obtain⟨ao,aj,rfl,HA,a0,ae,aa,am,HB⟩:=hrel;cases gk with
     |zero=>exact absurd HA.out (by simp[impl_worldRoots.l1])
     |succ k2=>
      have H:=HA.out;clear HA;simp only[impl_worldRoots.l1] at H;refine yDn H ?_ ?_<;>clear H<;>intro co H
      ·have H':=zz H;clear H;go_wp2;go_roundg k2
       case measure=>exact yM2 be a0
       case rel=>exact⟨(ao),(wrap64 (af+1)),zr,H',⟨yM2 be a0⟩,⟨zR ae.out⟩,⟨zB aa.out⟩,⟨zb⟩⟩
      replace H:=yAD H;obtain⟨cp,H⟩:=H;replace H:=yAD H;obtain⟨cq,H⟩:=H;replace H:=yA H;obtain⟨cr,H⟩:=H;have de:=zz cr;clear cr;obtain⟨cU,bK⟩:∃y_:List ByteArray,y_=(ao++[(qP ((qE ab af).f2) aj).f1]):=⟨_,rfl⟩
      replace H:(impl_worldRoots.l1 k2 cU ab (ab.length:Int) af ((qE ab af).f2) (((qE ab af).f2).length:Int) (wrap64 (aj+1)) ah ab ac ag)=some r:=yN0 bK H;have df:=zz bK;clear bK;have H':=zz H;clear H;have bh:0<=(aj:Int):=z2;have bi:aj<(((qE ab af).f2).length:Int):=z2;obtain⟨dh,dE,aM,aN⟩:=at_T139 cv.out aj bh bi;cases dE;replace aM:=z3 HB.out aM;replace aN:=z3 HB.out aN;replace bh:=eq_true bh;replace bi:=eq_true bi;go_wp2_with(first|(refine zX 7 139 #[.int .i64 0,.string (⟨#[]⟩:ByteArray)] ?_;intro ct hg eD hbox hb;replace ae:=zz (Kd.R_below (zR ae.out) hb);have a1:=zz (hbox);have ee:=zz ((zg:w.heap.size<=ct));replace HB:=zz (zv zb hb);have bV:=zz (zH aa hg);have bW:=zz (zI aa hg);replace aa:=zz (zJ aa hb);have bX:=zz (zH am hg);have bY:=zz (zI am hg);replace am:=zz (zJ am hb);clear hb hbox hg;have ef:=bW.out;have eg:=bV.out;have eh:=bY.out;have ei:=bX.out;obtain⟨bn,bo,bq,br⟩:=zc2 a1.out)|((with_reducible refine qU (b:= .append) (xs:= #[.tmp 28,.tmp 31]) rfl ?_);at_builtin;refine Kd.R_append Kd.string (w0:=w) w.heap.size rfl (.tmp 28) (.tmp 31) 101 9 (.string ⟨#[]⟩) 16 rfl Tryz.underlying101 info9 rfl yd_ yo_ u3 ao ((qP ((qE ab af).f2) aj).f1) [.string ((qP ((qE ab af).f2) aj).f1)] (fun _=>True) (fun _=>False) rfl (by first|(go_simp;done)|(go_simp;rfl)) ?aP (fun _ hk=>hk.elim) ?aF ?aO ?aB ?aS ?aL ?_;(case aP=>exact rfl);(case aB=>exact zb);(case aF=>exact(fun _ _=>trivial));(case aO=>exact(yV (Kd.vG ae.out a1.out yd_)));(case aS=>exact(qF zb));(case aL=>have:=de.out;omega);intro ew eE ho hb hg hat;rw[<-df.out] at ho;replace aa:=zz (blk_grown (g:=au) (o:= .cells #[.slice ap ah.length ar,.slice (some cn) ab.length av,.slice aD ac.length aw,.slice aE ag.length ax] 38 (0,0)) (yP aa.out) hg (Kd.R_ne ae.out aa.out yd_));replace am:=zz (blk_grown (g:=bJ) (o:= .cells #[.string ((qE ab af).f0),.int .i64 ((qE ab af).f1),.slice (some dh) ((qE ab af).f2).length bS] 137 (0,0)) (yP am.out) hg (Kd.R_ne ae.out am.out yd_));replace a1:=zz (blk_grown (g:=ct) (o:= .cells #[.int .i64 ((qP ((qE ab af).f2) aj).f0),.string ((qP ((qE ab af).f2) aj).f1)] 139 (0,0)) (yP a1.out) hg (Kd.R_ne ae.out a1.out yd_));replace HB:=zz (hb);have di:=zz (ho);clear ae;clear ho hb hg hat))
      go_roundg k2
      case measure=>exact yM2 be a0
      case rel=>exact⟨(cU),(wrap64 (aj+1)),zr,H',⟨yM2 be a0⟩,⟨zR di.out⟩,⟨zB aa.out⟩,⟨zB am.out⟩,⟨zb⟩⟩
   have H':=zz H;clear H;obtain⟨bs,bu,bv,bw,bz,bA,bB,bC⟩:=zc4 aa.out;go_wp2;go_loopg[3,38] k1 (fun kq v3 dZ w'=>∃(ao:List ByteArray) (ak:Int),dZ= .int .i64 ak/\qA (impl_worldRoots.l2 kq ao ag (ag.length:Int) ak ah ab ac ag=some r)/\qA (kq<=k1)/\qA (Kd.R Kd.string 9 w' w.heap.size (fun _=>True) v3 ao)/\qA (w'.heap[au]?=some (.cells #[(.slice ap ah.length ar),(.slice aH ab.length av),(.slice aD ac.length aw),(.slice aE ag.length ax)] 38 (0,0)))/\qA (Below w.heap.size w w'))
   case atStart=>exact⟨(bg),(0),zr,H',⟨Nat.le_refl _⟩,⟨zR ae.out⟩,⟨zB aa.out⟩,⟨zb⟩⟩
   case round=>
    clear H';try clear b4
    try clear b7
    try clear b8
    try clear co
    try clear cp
    try clear cq
    try clear cr
    try clear a6
    try clear a7
    try clear a8
    try clear bn
    try clear bo
    try clear bs
    try clear bu
    try clear bv
    try clear bw
    try clear aQ
    try clear aT
    try clear aU
    try clear aV
    try clear a9
    try clear ba
    try clear bb
    try clear bq
    try clear br
    try clear bz
    try clear bA
    try clear bB
    try clear bC
    try clear aW
    try clear aX
    try clear aY
    try clear aZ
    try clear az
    try clear aA
    try clear aC
    try clear aM
    try clear aN
    try clear a4
    try clear bh
    try clear a5
    try clear bi
    obtain⟨ao,ak,rfl,HA,a0,ae,aa,HB⟩:=hrel;cases gk with
    |zero=>exact absurd HA.out (by simp[impl_worldRoots.l2])
    |succ k2=>
     have H:=HA.out;clear HA;simp only[impl_worldRoots.l2] at H;refine yD H ?_ ?_<;>clear H<;>intro dj H
     ·replace H:=yAD H;obtain⟨dk,H⟩:=H;replace H:=yAD H;obtain⟨dl,H⟩:=H;replace H:=yA H;obtain⟨cV,H⟩:=H;have dm:=zz cV;clear cV;obtain⟨cW,bL⟩:∃y_:List ByteArray,y_=(ao++[(rd_T134 ag ak).f1]):=⟨_,rfl⟩
      replace H:(impl_worldRoots.l2 k2 cW ag (ag.length:Int) (wrap64 (ak+1)) ah ab ac ag)=some r:=yN0 bL H;have dn:=zz bL;clear bL;have H':=zz H;clear H;have bM:0<=(ak:Int):=z2;have bN:ak<(ag.length:Int):=z2;obtain⟨dp,dF,bc,bd⟩:=at_T134 db.out ak bM bN;cases dF;replace bc:=z3 HB.out bc;replace bd:=z3 HB.out bd;replace bM:=eq_true bM;replace bN:=eq_true bN;go_wp2_with(first|(refine zX 9 134 #[.string (⟨#[]⟩:ByteArray),.string (⟨#[]⟩:ByteArray)] ?_;intro cu hg eF hbox hb;replace ae:=zz (Kd.R_below (zR ae.out) hb);have a2:=zz (hbox);have ej:=zz ((zg:w.heap.size<=cu));replace HB:=zz (zv zb hb);have bZ:=zz (zH aa hg);have b0:=zz (zI aa hg);replace aa:=zz (zJ aa hb);clear hb hbox hg;have ek:=b0.out;have em:=bZ.out;obtain⟨cw,cx,cy,cz⟩:=zc2 a2.out)|((with_reducible refine qU (b:= .append) (xs:= #[.tmp 42,.tmp 45]) rfl ?_);at_builtin;refine Kd.R_append Kd.string (w0:=w) w.heap.size rfl (.tmp 42) (.tmp 45) 101 9 (.string ⟨#[]⟩) 16 rfl Tryz.underlying101 info9 rfl yd_ yo_ u3 ao ((rd_T134 ag ak).f1) [.string ((rd_T134 ag ak).f1)] (fun _=>True) (fun _=>False) rfl (by first|(go_simp;done)|(go_simp;rfl)) ?aP (fun _ hk=>hk.elim) ?aF ?aO ?aB ?aS ?aL ?_;(case aP=>exact rfl);(case aB=>exact zb);(case aF=>exact(fun _ _=>trivial));(case aO=>exact(yV (Kd.vG ae.out a2.out yd_)));(case aS=>exact(qF zb));(case aL=>have:=dm.out;omega);intro ey eG ho hb hg hat;rw[<-dn.out] at ho;replace aa:=zz (blk_grown (g:=au) (o:= .cells #[.slice ap ah.length ar,.slice aH ab.length av,.slice aD ac.length aw,.slice (some dp) ag.length ax] 38 (0,0)) (yP aa.out) hg (Kd.R_ne ae.out aa.out yd_));replace a2:=zz (blk_grown (g:=cu) (o:= .cells #[.string ((rd_T134 ag ak).f0),.string ((rd_T134 ag ak).f1)] 134 (0,0)) (yP a2.out) hg (Kd.R_ne ae.out a2.out yd_));replace HB:=zz (hb);have dq:=zz (ho);clear ae;clear ho hb hg hat))
      go_roundg k2
      case measure=>exact yM2 be a0
      case rel=>exact⟨(cW),(wrap64 (ak+1)),zr,H',⟨yM2 be a0⟩,⟨zR dq.out⟩,⟨zB aa.out⟩,⟨zb⟩⟩
     replace H:=zf H;obtain⟨ay,cX,H⟩:=H;try dsimp only at H
     have d0:=zz cX;clear cX;have H':=zz H;clear H;obtain⟨cA,cB,cC,cD,cE,cF,cG,cH⟩:=zc4 aa.out;go_wp2_with(first|(refine zL 154 50 Tryz.func154 #[.slice ap ah.length ar] ?_;(with_reducible refine(impl_storePaths.calls k2 _ _ ah ay _ ?s1 ?s2 d0.out).mono ?_);(case s1=>exact zc c7.out);(case s2=>exact c8.out);rintro e eH ⟨ca,rfl,bf,hb⟩;refine⟨_,rfl,?_⟩;have dr:=zz (Kd.vC (Kd.R_new' bf (Kd.R_lt (zR ae.out))) (qF zb));replace ae:=zz (Kd.R_elder' (zR ae.out) (Kd.R_base bf) hb);replace aa:=zz (zJ aa hb);replace HB:=zz (zv zb hb);(try clear hb);(try clear hk);(try clear bf);obtain⟨cI,cJ,cK,cL,cM,cN,cO,cP⟩:=zc4 aa.out))
     go_loopg[3,54] k2 (fun kq v3 d1 w'=>∃(bj:List ByteArray) (ad:Int),d1= .int .i64 ad/\qA (impl_worldRoots.l3 kq bj ay ac (ac.length:Int) ad=some r)/\qA (kq<=k2)/\qA (Kd.R Kd.string 9 w' w.heap.size (fun k_=>some k_≠(ca:Value).ownBlock) v3 bj)/\qA (Kd.R Kd.string 9 w' w.heap.size (fun k_=>some k_≠(v3:Value).ownBlock) ca ay)/\qA (w'.heap[au]?=some (.cells #[(.slice ap ah.length ar),(.slice aH ab.length av),(.slice aD ac.length aw),(.slice aE ag.length ax)] 38 (0,0)))/\qA (Below w.heap.size w w'))
     case atStart=>exact⟨(ao),(0),zr,H',⟨Nat.le_refl _⟩,⟨by(with_reducible repeat(first|apply Kd.R_alloc|apply Kd.R_drewN|apply Kd.R_drew));exact Kd.qT ae.out (fun _ hk=>hk.2)⟩,⟨by(with_reducible repeat(first|apply Kd.R_alloc|apply Kd.R_drewN|apply Kd.R_drew));exact Kd.qT dr.out (fun _ hk=>hk.2)⟩,⟨zB aa.out⟩,⟨zb⟩⟩
     case round=>
      clear H';try clear b4
      try clear b7
      try clear b8
      try clear co
      try clear cp
      try clear cq
      try clear cr
      try clear dj
      try clear dk
      try clear dl
      try clear cV
      try clear a6
      try clear a7
      try clear a8
      try clear bn
      try clear bo
      try clear bs
      try clear bu
      try clear bv
      try clear bw
      try clear cw
      try clear cx
      try clear cA
      try clear cB
      try clear cC
      try clear cD
      try clear cI
      try clear cJ
      try clear cK
      try clear cL
      try clear aQ
      try clear aT
      try clear aU
      try clear aV
      try clear a9
      try clear ba
      try clear bb
      try clear bq
      try clear br
      try clear bz
      try clear bA
      try clear bB
      try clear bC
      try clear cy
      try clear cz
      try clear cE
      try clear cF
      try clear cG
      try clear cH
      try clear cM
      try clear cN
      try clear cO
      try clear cP
      try clear aW
      try clear aX
      try clear aY
      try clear aZ
      try clear az
      try clear aA
      try clear aC
      try clear aM
      try clear aN
      try clear bc
      try clear bd
      try clear a4
      try clear bh
      try clear bM
      try clear a5
      try clear bi
      try clear bN
      obtain⟨bj,ad,rfl,HA,dA,ae,ai,aa,HB⟩:=hrel;cases gk with
      |zero=>exact absurd HA.out (by simp[impl_worldRoots.l3])
      |succ k3=>
       have H:=HA.out;clear HA;simp only[impl_worldRoots.l3] at H;refine yDn H ?_ ?_<;>clear H<;>intro en H
       ·obtain rfl:=zi H;go_wp2;go_ret;exact⟨_,ze,by(with_reducible repeat(first|apply Kd.R_alloc|apply Kd.R_drewN|apply Kd.R_drew));exact Kd.qT ae.out (fun _ hk=>trivial),zb⟩
       replace H:=yAD H;obtain⟨eo,H⟩:=H;replace H:=yAD H;obtain⟨ep,H⟩:=H;replace H:=yA H;obtain⟨dB,H⟩:=H;have dt:=zz dB;clear dB;obtain⟨bO,bP⟩:∃y_:List ByteArray,y_=(bj++[(qN ac ad).f0]):=⟨_,rfl⟩
       replace H:((impl_RefsIn.f k3 ((qN ac ad).f1) ay).bind fun aI=>(if bO.length+aI.length<8796093022208 then(impl_worldRoots.l3 k3 (bO++aI) ay ac (ac.length:Int) (wrap64 (ad+1))) else(none)))=some r:=yN0 bP H;have du:=zz bP;clear bP;replace H:=zf H;obtain⟨aI,cY,H⟩:=H;try dsimp only at H
       have d2:=zz cY;clear cY;replace H:=yA H;obtain⟨dC,H⟩:=H;have dv:=zz dC;clear dC;obtain⟨cZ,bQ⟩:∃y_:List ByteArray,y_=(bO++aI):=⟨_,rfl⟩
       replace H:(impl_worldRoots.l3 k3 cZ ay ac (ac.length:Int) (wrap64 (ad+1)))=some r:=yN0 bQ H;have dw:=zz bQ;clear bQ;have H':=zz H;clear H;have ez:=yt (0<=(ad:Int));have eA:=yt (ad<(ac.length:Int));obtain⟨dx,aJ,aK,dG,bD,bE,bF,bG,bH⟩:=at_T133 da.out ad z2 z2;cases dG;replace bD:=z3 HB.out bD;replace bE:=z3 HB.out bE;replace bF:=z3 HB.out bF;have cQ:=zz bH;have cR:=zz bG;clear bH bG;go_wp2_with(first|(refine zX 12 133 #[.string (⟨#[]⟩:ByteArray),.slice none 0 0,.string (⟨#[]⟩:ByteArray)] ?_;intro an hg eI hbox hb;replace ae:=zz (Kd.R_below (zR ae.out) hb);replace ai:=zz (Kd.R_below (zR ai.out) hb);have al:=zz (hbox);have eq:=zz ((zg:w.heap.size<=an));replace HB:=zz (zv zb hb);have b1:=zz (zH aa hg);have b3:=zz (zI aa hg);replace aa:=zz (zJ aa hb);clear hb hbox hg;have er:=b3.out;have et:=b1.out;obtain⟨dL,dM,dN,dO,dP,dQ⟩:=zc3 al.out)|((with_reducible refine qU (b:= .append) (xs:= #[.tmp 58,.tmp 61]) rfl ?_);at_builtin;refine Kd.R_append Kd.string (w0:=w) w.heap.size rfl (.tmp 58) (.tmp 61) 101 9 (.string ⟨#[]⟩) 16 rfl Tryz.underlying101 info9 rfl yd_ yo_ u3 bj ((qN ac ad).f0) [.string ((qN ac ad).f0)] (fun k_=>some k_≠(ca:Value).ownBlock) (fun _=>False) rfl (by first|(go_simp;done)|(go_simp;rfl)) ?aP (fun _ hk=>hk.elim) ?aF ?aO ?aB ?aS ?aL ?_;(case aP=>exact rfl);(case aB=>exact zb);(case aF=>exact(fun k_ hk=>Kd.fresh' (Kd.R_lt (by(with_reducible repeat(first|apply Kd.R_alloc|apply Kd.R_drewN|apply Kd.R_drew));exact(Kd.qT (Kd.R_far (p:=⟨an,2,none⟩) (Kd.R_far (p:=⟨an,1,none⟩) (Kd.R_far (p:=⟨an,0,none⟩) (Kd.vG ai.out al.out yd_) (fun _ hk=>hk.2) (.string ((qN ac ad).f0))) (fun _ hk=>hk.2) (.slice aJ ((qN ac ad).f1).length aK)) (fun _ hk=>hk.2) (.string ((qN ac ad).f2))) (fun _ h_=>h_.1)))) k_ hk));(case aO=>exact(by(with_reducible repeat(first|apply Kd.R_alloc|apply Kd.R_drewN|apply Kd.R_drew));exact Kd.qT (Kd.R_far (p:=⟨an,2,none⟩) (Kd.R_far (p:=⟨an,1,none⟩) (Kd.R_far (p:=⟨an,0,none⟩) (Kd.vG ae.out al.out yd_) (fun _ hk=>hk.2) (.string ((qN ac ad).f0))) (fun _ hk=>hk.2) (.slice aJ ((qN ac ad).f1).length aK)) (fun _ hk=>hk.2) (.string ((qN ac ad).f2))) (fun _ hk=>hk.1)));(case aS=>exact(qF zb));(case aL=>have:=dt.out;omega);intro dH eJ ho hb hg hat;rw[<-du.out] at ho;replace ai:=zz (Kd.R_after (ok:=(fun _=>True)) (by(with_reducible repeat(first|apply Kd.R_alloc|apply Kd.R_drewN|apply Kd.R_drew));exact Kd.qT (Kd.R_far (p:=⟨an,2,none⟩) (Kd.R_far (p:=⟨an,1,none⟩) (Kd.R_far (p:=⟨an,0,none⟩) (Kd.vG ai.out al.out yd_) (fun _ hk=>hk.2) (.string ((qN ac ad).f0))) (fun _ hk=>hk.2) (.slice aJ ((qN ac ad).f1).length aK)) (fun _ hk=>hk.2) (.string ((qN ac ad).f2))) (fun _ hk=>⟨trivial,hk.1⟩)) hg hat);replace aa:=zz (blk_grown (g:=au) (o:= .cells #[.slice ap ah.length ar,.slice aH ab.length av,.slice (some dx) ac.length aw,.slice aE ag.length ax] 38 (0,0)) (yP aa.out) hg (Kd.R_ne ae.out aa.out yd_));replace al:=zz (blk_grown (g:=an) (o:= .cells #[.string ((qN ac ad).f0),.slice aJ ((qN ac ad).f1).length aK,.string ((qN ac ad).f2)] 133 (0,0)) (yP al.out) hg (Kd.R_ne ae.out al.out yd_));replace HB:=zz (hb);have aG:=zz (ho);clear ae;clear ho hb hg hat;obtain⟨dR,dS,dT,dU,dV,dW⟩:=zc3 al.out;obtain⟨cb,cc,dI⟩:=Kd.vA ai.out;subst dI)|(refine zL 158 67 Tryz.func158 #[.slice aJ ((qN ac ad).f1).length aK,.slice cb ay.length cc] ?_;(with_reducible refine(impl_RefsIn.calls k3 _ _ ((qN ac ad).f1) _ _ ay aI _ ?s1 ?s2 ?s3 ?s4 ?s5 d2.out).mono ?_);(case s1=>exact zc cQ.out);(case s2=>exact cR.out);(case s3=>repeat(first|exact(Kd.qM ai.out).2.2|(with_reducible refine Kd.C_alloc ?_ _)|(with_reducible refine Kd.C_drewN ?_ _)|(with_reducible refine Kd.C_drew ?_)));(case s4=>exact(Kd.qM ai.out).2.1);(case s5=>exact zG);rintro e eK ⟨eB,rfl,bf,hb⟩;refine⟨_,rfl,?_⟩;have a3:=zz (Kd.vC (Kd.R_new' (Kd.R_new' bf (Kd.R_lt (zR ai.out))) (Kd.R_lt (zR aG.out))) (qF zb));replace ai:=zz (Kd.R_elder' (zR ai.out) (Kd.R_base bf) hb);replace aG:=zz (Kd.R_elder' (zR aG.out) (Kd.R_base bf) hb);replace aa:=zz (zJ aa hb);replace al:=zz (zJ al hb);replace HB:=zz (zv zb hb);(try clear hb);(try clear hk);(try clear bf);obtain⟨c5,c6,dJ⟩:=Kd.vA a3.out;subst dJ)|((with_reducible refine qU (b:= .append) (xs:= #[.tmp 63,.tmp 67]) rfl ?_);at_builtin;refine Kd.R_append_rows Kd.string (w0:=w) w.heap.size rfl (.tmp 63) (.tmp 67) 101 9 (.string ⟨#[]⟩) 16 rfl Tryz.underlying101 info9 rfl yd_ yo_ dH bO aI _ _ _ (fun k_=>some k_≠(.slice cb ay.length cc:Value).ownBlock/\some k_≠(.slice c5 aI.length c6:Value).ownBlock) (fun _=>False) rfl rfl ?aO ?aR (fun _ _ h=>h) (fun _ h=>h.elim) ?aF ?aB ?aS ?aL ?_;(case aR=>repeat(first|exact(Kd.qM a3.out).2.2|(with_reducible refine Kd.C_alloc ?_ _)|(with_reducible refine Kd.C_drewN ?_ _)|(with_reducible refine Kd.C_drew ?_)));(case aB=>exact zb);(case aF=>exact(fun k_ hk=>⟨Kd.fresh' (Kd.R_lt (zR ai.out)) k_ hk,Kd.fresh' (Kd.R_lt (zR a3.out)) k_ hk⟩));(case aO=>exact(zR aG.out));(case aS=>exact(qF zb));(case aL=>have:=dv.out;omega);intro eC eL ho hb hg hat;rw[<-dw.out] at ho;replace ai:=zz (Kd.R_after (ok:=(fun k_=>some k_≠(.slice c5 aI.length c6:Value).ownBlock)) (by(with_reducible repeat(first|apply Kd.R_alloc|apply Kd.R_drewN|apply Kd.R_drew));exact Kd.qT ai.out (fun _ hk=>⟨hk.2,hk.1.2⟩)) hg hat);replace aa:=zz (zK aa hg (Kd.R_ne aG.out aa.out yd_));replace al:=zz (zK al hg (Kd.R_ne aG.out al.out yd_));replace HB:=zz (hb);have dy:=zz (ho);clear aG;clear ho hb hg hat))
       go_roundg k3
       case measure=>exact yM3 be a0 dA
       case rel=>exact⟨(cZ),(wrap64 (ad+1)),zr,H',⟨yM3 be a0 dA⟩,⟨by(with_reducible repeat(first|apply Kd.R_alloc|apply Kd.R_drewN|apply Kd.R_drew));exact Kd.qT dy.out (fun _ hk=>hk.1)⟩,⟨by(with_reducible repeat(first|apply Kd.R_alloc|apply Kd.R_drewN|apply Kd.R_drew));exact Kd.qT ai.out (fun _ hk=>hk.2)⟩,⟨zB aa.out⟩,⟨zb⟩⟩
def impl_inList.l0:Nat->ByteArray->List ByteArray->Int->Int->Option (Bool)
 |0,_,_,_,_=>none
 |k+1,x1,x7,x8,x9=>if x9<x8 then(if 0<=x9 then(if x9<(x7.length:Int) then(if(rdOf ByteArray.empty x7 x9).toList=x1.toList then(some true) else(impl_inList.l0 k x1 x7 x8 (wrap64 (x9+1)))) else(none)) else(none)) else(some false)
def impl_inList.f(k:Nat)(l0:List ByteArray)(a1:ByteArray):Option (Bool):=impl_inList.l0 k a1 l0 (l0.length:Int) 0
theorem impl_inList.calls(k:Nat)(A0:Option Addr)(c0:Nat)(l0:List ByteArray)(a1:ByteArray)(r:Bool)(w:World)(ag:Kd.C Kd.string w A0 l0.length l0)(ah:l0.length<=c0)(H:impl_inList.f k l0 a1=some r):
 Calls Tryz.prog 130 #[.slice A0 l0.length c0,.string a1] w fun e w'=>e= .returned (.bool r)/\vB w w':=by
 have ai:=zz ag;have ap:=zz ah;clear ag ah;unfold impl_inList.f at H;have H':=zz H;clear H;go_enter Tryz.func130,Tryz.ntmps130;go_wp2;go_loopg[9] k (fun kq v9 w'=>∃(aa:Int),v9= .int .i64 aa/\qA (impl_inList.l0 kq a1 l0 (l0.length:Int) aa=some r)/\qA (kq<=k)/\vB w w')
 case atStart=>exact⟨(0),zr,H',⟨Nat.le_refl _⟩,yD0⟩
 case round=>
  clear H';obtain⟨aa,rfl,HA,aj,⟨m1,rfl⟩⟩:=hrel;cases gk with
  |zero=>exact absurd HA.out (by simp[impl_inList.l0])
  |succ k1=>
   have H:=HA.out;clear HA;simp only[impl_inList.l0] at H;refine yDn H ?_ ?_<;>clear H<;>intro am H
   ·obtain rfl:=zi H;exact yr
   replace H:=yAD H;obtain⟨an,H⟩:=H;replace H:=yAD H;obtain⟨ao,H⟩:=H;refine yC H ?_ ?_<;>clear H<;>intro c6 H
   ·obtain⟨ak,al⟩:=zq c6;clear c6;obtain rfl:=zi H;have ab:0<=(aa:Int):=z2;have ac:aa<(l0.length:Int):=z2;obtain⟨af,ad,ae⟩:=Kd.qX ai.out aa ab ac;cases ad;replace ab:=eq_true ab;replace ac:=eq_true ac;exact yr
   obtain⟨ak,al⟩:=zw c6;have H':=zz H;clear H;have ab:0<=(aa:Int):=z2;have ac:aa<(l0.length:Int):=z2;obtain⟨af,ad,ae⟩:=Kd.qX ai.out aa ab ac;cases ad;replace ab:=eq_true ab;replace ac:=eq_true ac;go_wp2;go_roundg k1
   case measure=>exact yM1 aj
   case rel=>exact⟨(wrap64 (aa+1)),zr,H',⟨yM1 aj⟩,yD0⟩
mutual
def impl_canCut.j0:Nat->ByteArray->Bool->List (S103)->List (S137)->List (S133)->List (S134)->Option (Bool)
 |0,_,_,_,_,_,_=>none
 |k+1,x1,ai,ab,af,ag,ah=>if ai=true then(some false) else(impl_canCut.l0 k x1 ab (ab.length:Int) 0)
def impl_canCut.l0:Nat->ByteArray->List (S103)->Int->Int->Option (Bool)
 |0,_,_,_,_=>none
 |k+1,x1,ac,ad,aa=>if aa<ad then(if 0<=aa then(if aa<(ac.length:Int) then(if((qC ac aa).f0).toList=x1.toList then(impl_canCut.l0 k x1 ac ad (wrap64 (aa+1))) else((impl_inList.f k ((qC ac aa).f2) x1).bind fun ae=>(if ae=true then(some false) else(impl_canCut.l0 k x1 ac ad (wrap64 (aa+1)))))) else(none)) else(none)) else(some true)
end
def impl_canCut.f(k:Nat)(aa:List (S103))(ab:List (S137))(ac:List (S133))(ad:List (S134))(a1:ByteArray):Option (Bool):=(impl_itemOf.f k aa a1).bind fun ae=>(if ae<0 then(impl_canCut.j0 k a1 true aa ab ac ad) else((impl_worldRoots.f k aa ab ac ad).bind fun af=>((impl_cutIn.f k aa af a1).bind fun ag=>(impl_canCut.j0 k a1 ag aa ab ac ad))))
def impl_canCut.T1:Bool×List (List Nat×List Nat):=(true,[([],[]),([0],[0]),([],[]),([1,2],[1,2]),([3],[3]),([4,3],[4]),([5],[5]),([6,5],[5,6]),([5],[5]),([8,5,5],[5,8]),([7,9,9,5],[5,7,9]),([5],[5]),([10,11,5],[5,10,11]),([5,12],[5,12])])
def impl_canCut.B1:List Nat:=[0,1,0,7,15,31,63,127,63,319,1023,63,4095,8191]
theorem impl_canCut.tab1:rtab .any (opsOf Tryz.f75 1)=impl_canCut.T1:=by kernel_rfl
theorem impl_canCut.bits1:waitsOk impl_canCut.T1.2 impl_canCut.B1=true:=by kernel_rfl
theorem impl_canCut.calls(k:Nat)(av:Option Addr)(aw:Nat)(ab:List (S103))(ay:Option Addr)(az:Nat)(an:List (S137))(aA:Option Addr)(aB:Nat)(ao:List (S133))(aC:Option Addr)(aD:Nat)(ap:List (S134))(a1:ByteArray)(r:Bool)(w:World)(aW:Kd.C k103 w av ab.length ab)(aX:ab.length<=aw)(aY:Kd.C k137 w ay an.length an)(aZ:an.length<=az)(a0:Kd.C k133 w aA ao.length ao)(a2:ao.length<=aB)(a3:Kd.C k134 w aC ap.length ap)(a4:ap.length<=aD)(hG_:GOK w)(H:impl_canCut.f k ab an ao ap a1=some r):
 Calls Tryz.prog 75 #[.agg #[.slice av ab.length aw,.slice ay an.length az,.slice aA ao.length aB,.slice aC ap.length aD],.string a1] w fun e w'=>e= .returned (.bool r)/\Below w.heap.size w w':=by
 have cF:=Tryz.underlying38;have cu:=Tryz.underlying103;have HG:=zz hG_;clear hG_;have ax:=zz aW;have aJ:=zz aX;clear aW aX;have bs:=zz aY;have bu:=zz aZ;clear aY aZ;have bv:=zz a0;have bw:=zz a2;clear a0 a2;have bz:=zz a3;have bA:=zz a4;clear a3 a4;have HB:=yB w;unfold impl_canCut.f at H;have bi:=zz H;clear H;go_enter Tryz.func75,Tryz.ntmps75
 go_upto_region 1 with(first|(refine zX 2 38 #[.slice av ab.length aw,.slice ay an.length az,.slice aA ao.length aB,.slice aC ap.length aD] ?_;intro am hg w4 hbox hb;have aa:=zz (hbox);have cv:=zz ((zg:w.heap.size<=am));replace HB:=zz (zv zb hb);clear hb hbox hg))
 (try simp only[Act.put,List.setIfInBounds_toArray,List.set_cons_zero,List.set_cons_succ])
 go_cut [20] (fun cn wc=>∃(kq:Nat) (aK:Bool),cn= .bool aK/\qA (impl_canCut.j0 kq a1 aK ab an ao ap=some r)/\qA (kq<=k)/\qA (wc.heap[am]?=some (.cells #[(.slice av ab.length aw),(.slice ay an.length az),(.slice aA ao.length aB),(.slice aC ap.length aD)] 38 (0,0)))/\qA (Below w.heap.size w wc))
 case first=>
  have H:=bi.out;clear bi;replace H:=zf H;obtain⟨aV,bD,H⟩:=H;try dsimp only at H
  have A5:=zz bD;clear bD;by_cases c6:aV<0
  ·rw[if_pos c6] at H;have aG:=z1 c6;clear c6
   (first|rw[aG]|(simp only[i64_w,i32_w];rw[aG])|skip)
   have H':=zz H;clear H;try go_wp2
   replace aa:=zz (blk_drew aa.out);replace HB:=zz (qL HB.out);refine start_ (n:=14) (S:=fun w'=>w'.cell? ⟨am,0,none⟩=some (.slice av ab.length aw)/\w'.cell? ⟨am,1,none⟩=some (.slice ay an.length az)/\w'.cell? ⟨am,2,none⟩=some (.slice aA ao.length aB)/\w'.cell? ⟨am,3,none⟩=some (.slice aC ap.length aD)) (ds:=[]) (bp 0 14) zk rfl rfl (zy4 aa.out) (fun hHeld=>?_);refine with_tabW impl_canCut.tab1 impl_canCut.bits1 (fun HT_ HW_=>?_);generalize w4.drew=w7 at aa HB hHeld⊢;refine zp 0 7 (bp 1 13) ?_;refine zp 2 9 (bm 14 5) ?_;refine zt 1 8 (bp 3 11) ?_;refine zo 3 10 (bp 4 10) fun K hK=>?_;refine zh Tryz.func81 #[.slice av ab.length aw,.string a1] ?_;with_reducible refine(impl_itemOf.calls k _ _ ab a1 aV _ ?s1 ?s2 A5.out).mono ?_
   (case s1=>exact zc ax.out)
   (case s2=>exact aJ.out)
   rintro e w8 ⟨rfl,hb⟩;refine⟨_,rfl,?_⟩;replace aa:=zz (zJ aa hb);replace HB:=zz (zv zb hb)
   (try clear hb)
   (try clear bE)
   (try clear hk)
   (try clear hi)
   refine hK.out _ _ (zy4 aa.out) (fun hHeld=>?_);clear hK K;refine zn 10 ?_;refine zp 4 11 (bp 5 9) ?_;refine zp 5 12 (bp 6 8) ?_;refine zu 6 13 (bp 7 7) ?_;refine zu 7 14 (bp 8 6) ?_;refine zu 8 15 (bp 9 5) ?_;refine zu 9 16 (bp 10 4) ?_;refine zu 10 17 (bp 11 3) ?_;refine zu 11 18 (bp 12 2) ?_;refine zu 12 19 (bp 13 1) ?_;refine zp 13 20 (bp 14 0) ?_;refine done_ (done_of HT_.out zk) ?_;try go_wp2
   go_meet
   case rel=>exact⟨_,(true),zr,H',⟨by first|omega|exact Nat.le_refl _⟩,⟨zB aa.out⟩,⟨zb⟩⟩
  ·rw[if_neg c6] at H;have aG:=z0 c6;clear c6
   (first|rw[aG]|(simp only[i64_w,i32_w];rw[aG])|skip)
   replace H:=zf H;obtain⟨aO,bF,H⟩:=H;try dsimp only at H
   have A9:=zz bF;clear bF;replace H:=zf H;obtain⟨bj,bk,H⟩:=H;try dsimp only at H
   have co:=zz bk;clear bk;have H':=zz H;clear H;try go_wp2
   replace aa:=zz (blk_drew aa.out);replace HB:=zz (qL HB.out);refine start_ (n:=14) (S:=fun w'=>w'.cell? ⟨am,0,none⟩=some (.slice av ab.length aw)/\w'.cell? ⟨am,1,none⟩=some (.slice ay an.length az)/\w'.cell? ⟨am,2,none⟩=some (.slice aA ao.length aB)/\w'.cell? ⟨am,3,none⟩=some (.slice aC ap.length aD)) (ds:=[]) (bp 0 14) zk rfl rfl (zy4 aa.out) (fun hHeld=>?_);refine with_tabW impl_canCut.tab1 impl_canCut.bits1 (fun HT_ HW_=>?_);generalize w4.drew=cH at aa HB hHeld⊢;refine zp 0 7 (bp 1 13) ?_;refine zp 2 9 (bm 14 5) ?_;refine zt 1 8 (bp 3 11) ?_;refine zo 3 10 (bp 4 10) fun K hK=>?_;refine zh Tryz.func81 #[.slice av ab.length aw,.string a1] ?_;with_reducible refine(impl_itemOf.calls k _ _ ab a1 aV _ ?s1 ?s2 A5.out).mono ?_
   (case s1=>exact zc ax.out)
   (case s2=>exact aJ.out)
   rintro e cI ⟨rfl,hb⟩;refine⟨_,rfl,?_⟩;replace aa:=zz (zJ aa hb);replace HB:=zz (zv zb hb)
   (try clear hb)
   (try clear bE)
   (try clear hk)
   (try clear hi)
   refine hK.out _ _ (zy4 aa.out) (fun hHeld=>?_);clear hK K;refine zn 10 ?_;refine zp 4 11 (bp 5 9) ?_;refine zp 5 12 (bp 6 8) ?_;refine zp 6 13 (bp 7 7) ?_;refine zp 11 18 (bm 14 2175) ?_;refine zt 7 14 (bm 14 2303) ?_;refine zt 8 15 (bm 14 2559) ?_;refine zo 9 16 (bm 14 3071) fun K hK=>?_;refine zh Tryz.func129 #[.agg #[.slice av ab.length aw,.slice ay an.length az,.slice aA ao.length aB,.slice aC ap.length aD]] ?_;with_reducible refine(impl_worldRoots.calls k _ _ ab _ _ an _ _ ao _ _ ap aO _ ?s1 ?s2 ?s3 ?s4 ?s5 ?s6 ?s7 ?s8 ?s9 A9.out).mono ?_
   (case s1=>exact zc ax.out)
   (case s2=>exact aJ.out)
   (case s3=>exact zc bs.out)
   (case s4=>exact bu.out)
   (case s5=>exact zc bv.out)
   (case s6=>exact bw.out)
   (case s7=>exact zc bz.out)
   (case s8=>exact bA.out)
   (case s9=>exact zG)
   rintro e cJ ⟨cG,rfl,bG,hb⟩;refine⟨_,rfl,?_⟩;have aP:=zz (Kd.vC bG (qF zb));replace aa:=zz (zJ aa hb);replace HB:=zz (zv zb hb)
   (try clear hb)
   (try clear bE)
   (try clear hk)
   (try clear hi)
   (try clear bG)
   obtain⟨bL,bM,bl⟩:=Kd.vA aP.out
   (first|subst bl|(injection bl with bH cp bI;have cq:=bH.symm;have cr:=bI.symm;clear bH cp bI;subst cq;subst cr))
   refine hK.out _ _ (zy4 aa.out) (fun hHeld=>?_);clear hK K;refine zn 16 ?_;obtain⟨s_,AC_,AG_⟩:=zf (show(impl_closure.f k ab aO).bind (fun s=>MapB.get s a1)=some bj from co.out);replace AC_:=zz AC_;replace AG_:=zz AG_;refine zo 10 17 (bp 12 2) fun K hK=>?_;refine zh Tryz.func128 #[.slice av ab.length aw,.slice bL aO.length bM] ?_;with_reducible refine(impl_closure.calls k _ _ ab _ _ aO s_ _ ?s1 ?s2 ?s3 ?s4 AC_.out).mono ?_
   (case s1=>exact zc ax.out)
   (case s2=>exact aJ.out)
   (case s3=>repeat(first|exact(Kd.qM aP.out).2.2|(with_reducible refine Kd.C_alloc ?_ _)|(with_reducible refine Kd.C_drewN ?_ _)|(with_reducible refine Kd.C_drew ?_)))
   (case s4=>exact(Kd.qM aP.out).2.1)
   rintro e wm_ ⟨bm_,rfl,hm_,_,hb⟩;refine⟨_,rfl,?_⟩;have HM:=zz hm_;replace aa:=zz (zJ aa hb);replace HB:=zz (zv zb hb);clear hb hm_;refine hK.out _ _ (zy4 aa.out) (fun hHeld=>?_);clear hK K;refine zn 17 ?_;refine zo 12 19 (bp 13 1) fun K hK=>?_;refine MapB.get_step (m:=17) (k:=18) rfl (by rfl) rfl rfl HM.out AG_.out ?_;refine hK.out _ _ (zy4 aa.out) (fun hHeld=>?_);clear hK K;refine zn 19 ?_;refine zp 13 20 (bp 14 0) ?_;refine done_ (done_of HT_.out zk) ?_;try go_wp2
   go_meet
   case rel=>exact⟨_,(bj),zr,H',⟨by first|omega|exact Nat.le_refl _⟩,⟨zB aa.out⟩,⟨zb⟩⟩
 case rest=>
  clear bi;try clear c6
  try clear aG
  obtain⟨kq,aK,rfl,HA,a5,aa,HB⟩:=hcut;cases kq with
  |zero=>exact absurd HA.out (by simp[impl_canCut.j0])
  |succ bJ=>
   have H:=HA.out;clear HA;simp only[impl_canCut.j0] at H;by_cases aQ:aK=true
   ·subst aQ;rw[if_pos rfl] at H;obtain rfl:=zi H;go_wp2;go_ret;exact⟨ze,zb⟩
   replace aQ:=Bool.eq_false_iff.mpr aQ;subst aQ;rw[if_neg (show¬(false=true) by decide)] at H;have H':=zz H;clear H;obtain⟨ba,bb,bc,bd,be,bf,bg,bh⟩:=zc4 aa.out;go_wp2;go_loopg[24] bJ (fun kq ct w'=>∃(ac:Int),ct= .int .i64 ac/\qA (impl_canCut.l0 kq a1 ab (ab.length:Int) ac=some r)/\qA (kq<=bJ)/\qA (w'.heap[am]?=some (.cells #[(.slice av ab.length aw),(.slice ay an.length az),(.slice aA ao.length aB),(.slice aC ap.length aD)] 38 (0,0)))/\qA (Below w.heap.size w w'))
   case atStart=>exact⟨(0),zr,H',⟨Nat.le_refl _⟩,⟨zB aa.out⟩,⟨zb⟩⟩
   case round=>
    clear H';try clear c6
    try clear aG
    try clear aQ
    try clear ba
    try clear bb
    try clear bc
    try clear bd
    try clear be
    try clear bf
    try clear bg
    try clear bh
    obtain⟨ac,rfl,HA,a6,aa,HB⟩:=hrel;cases gk with
    |zero=>exact absurd HA.out (by simp[impl_canCut.l0])
    |succ k2=>
     have H:=HA.out;clear HA;simp only[impl_canCut.l0] at H;refine yDn H ?_ ?_<;>clear H<;>intro cw H
     ·obtain rfl:=zi H;go_wp2;go_ret;exact⟨ze,zb⟩
     replace H:=yAD H;obtain⟨cx,H⟩:=H;replace H:=yAD H;obtain⟨cy,H⟩:=H;refine yC H ?_ ?_<;>clear H<;>intro bn H
     ·obtain⟨bB,bC⟩:=zq bn;clear bn;have H':=zz H;clear H;have bo:=yt (0<=(ac:Int));have bq:=yt (ac<(ab.length:Int));obtain⟨a7,aR,aS,aT,aU,aL,ad,ae,af,ag,ah,ai,aj,ak,al⟩:=at_T103 ax.out ac z2 z2;cases aL;replace ad:=z3 HB.out ad;replace ae:=z3 HB.out ae;replace af:=z3 HB.out af;replace ag:=z3 HB.out ag;replace ah:=z3 HB.out ah;have aE:=zz aj;have aF:=zz ai;clear aj ai;have aM:=zz al;have aN:=zz ak;clear al ak;go_wp2_with(first|(refine zX 6 103 #[.string (⟨#[]⟩:ByteArray),.string (⟨#[]⟩:ByteArray),.slice none 0 0,.string (⟨#[]⟩:ByteArray),.slice none 0 0] ?_;intro aH hg cK hbox hb;have aI:=zz (hbox);have a8:=zz ((zg:w.heap.size<=aH));replace HB:=zz (zv zb hb);have ar:=zz (zH aa hg);have au:=zz (zI aa hg);replace aa:=zz (zJ aa hb);clear hb hbox hg;have cz:=au.out;have cA:=ar.out;obtain⟨bO,bP,bQ,bR,bS,bT,bU,bV,bW,bX⟩:=zc5 aI.out))
      go_roundg k2
      case measure=>exact yM2 a5 a6
      case rel=>exact⟨(wrap64 (ac+1)),zr,H',⟨yM2 a5 a6⟩,⟨yP aa.out⟩,⟨zb⟩⟩
     obtain⟨bB,bC⟩:=zw bn;replace H:=zf H;obtain⟨bN,br,H⟩:=H;try dsimp only at H
     have bK:=zz br;clear br;by_cases a9:bN=true
     ·subst a9;rw[if_pos rfl] at H;obtain rfl:=zi H;have bo:=yt (0<=(ac:Int));have bq:=yt (ac<(ab.length:Int));obtain⟨a7,aR,aS,aT,aU,aL,ad,ae,af,ag,ah,ai,aj,ak,al⟩:=at_T103 ax.out ac z2 z2;cases aL;replace ad:=z3 HB.out ad;replace ae:=z3 HB.out ae;replace af:=z3 HB.out af;replace ag:=z3 HB.out ag;replace ah:=z3 HB.out ah;have aE:=zz aj;have aF:=zz ai;clear aj ai;have aM:=zz al;have aN:=zz ak;clear al ak;go_wp2_with(first|(refine zX 6 103 #[.string (⟨#[]⟩:ByteArray),.string (⟨#[]⟩:ByteArray),.slice none 0 0,.string (⟨#[]⟩:ByteArray),.slice none 0 0] ?_;intro aH hg cL hbox hb;have aI:=zz (hbox);have a8:=zz ((zg:w.heap.size<=aH));replace HB:=zz (zv zb hb);have ar:=zz (zH aa hg);have au:=zz (zI aa hg);replace aa:=zz (zJ aa hb);clear hb hbox hg;have cB:=au.out;have cC:=ar.out;obtain⟨bY,bZ,b0,b1,b3,b4,b7,b8,ca,cb⟩:=zc5 aI.out)|(go_at_call 130;(with_reducible refine(impl_inList.calls k2 _ _ ((qC ab ac).f2) a1 true _ ?s1 ?s2 bK.out).mono ?_);(case s1=>exact Kd.qD aE.out zb);(case s2=>exact aF.out);rintro e w' ⟨rfl,⟨nd,rfl⟩⟩))
      go_ret;exact⟨ze,zb⟩
     replace a9:=Bool.eq_false_iff.mpr a9;subst a9;rw[if_neg (show¬(false=true) by decide)] at H;have H':=zz H;clear H;have bo:=yt (0<=(ac:Int));have bq:=yt (ac<(ab.length:Int));obtain⟨a7,aR,aS,aT,aU,aL,ad,ae,af,ag,ah,ai,aj,ak,al⟩:=at_T103 ax.out ac z2 z2;cases aL;replace ad:=z3 HB.out ad;replace ae:=z3 HB.out ae;replace af:=z3 HB.out af;replace ag:=z3 HB.out ag;replace ah:=z3 HB.out ah;have aE:=zz aj;have aF:=zz ai;clear aj ai;have aM:=zz al;have aN:=zz ak;clear al ak;go_wp2_with(first|(refine zX 6 103 #[.string (⟨#[]⟩:ByteArray),.string (⟨#[]⟩:ByteArray),.slice none 0 0,.string (⟨#[]⟩:ByteArray),.slice none 0 0] ?_;intro aH hg cM hbox hb;have aI:=zz (hbox);have a8:=zz ((zg:w.heap.size<=aH));replace HB:=zz (zv zb hb);have ar:=zz (zH aa hg);have au:=zz (zI aa hg);replace aa:=zz (zJ aa hb);clear hb hbox hg;have cD:=au.out;have cE:=ar.out;obtain⟨cc,cd,ce,cf,cg,ch,ci,cj,ck,cm⟩:=zc5 aI.out)|(go_at_call 130;(with_reducible refine(impl_inList.calls k2 _ _ ((qC ab ac).f2) a1 false _ ?s1 ?s2 bK.out).mono ?_);(case s1=>exact Kd.qD aE.out zb);(case s2=>exact aF.out);rintro e w' ⟨rfl,⟨nd,rfl⟩⟩))
     go_roundg k2
     case measure=>exact yM2 a5 a6
     case rel=>exact⟨(wrap64 (ac+1)),zr,H',⟨yM2 a5 a6⟩,⟨yP aa.out⟩,⟨zb⟩⟩
def impl_step.T45:Bool×List (List Nat×List Nat):=(true,[([],[]),([0],[0]),([],[]),([],[]),([1,2,3],[1,2,3]),([],[]),([5],[5]),([],[]),([7],[7]),([6,8],[6,8]),([4,9],[4,9]),([0,1,2,3,4,5,6,7,8,9,10],[]),([11,10,10,0,1,2,3,4,5,6,7,8,9,10],[10,11])])
def impl_step.B45:List Nat:=[0,1,0,0,15,0,32,0,128,480,1023,2047,4095]
theorem impl_step.tab45:rtab .any (opsOf Tryz.f68 45)=impl_step.T45:=by kernel_rfl
theorem impl_step.bits45:waitsOk impl_step.T45.2 impl_step.B45=true:=by kernel_rfl
theorem impl_step.cut(k:Nat)(A0:Option Addr)(c0:Nat)(l0:List S103)(A1:Option Addr)(c1:Nat)(l1:List S137)(A2:Option Addr)(c2:Nat)(l2:List S133)(A3:Option Addr)(c3:Nat)(l3:List S134)(p:ByteArray)(i:Int)(al:Nat->Prop)(w:World)(aj:Kd.V k103 103 w w.heap.size al (.slice A0 l0.length c0) l0)(ao:Kd.C k137 w A1 l1.length l1)(aB:l1.length<=c1)(ap:Kd.C k133 w A2 l2.length l2)(aC:l2.length<=c2)(ar:Kd.C k134 w A3 l3.length l3)(aD:l3.length<=c3)(hG_:GOK w)(h:impl_canCut.f k l0 l1 l2 l3 p=some true)(h2:impl_itemOf.f k l0 p=some i)(h0:0<=i)(h1:i<l0.length)(hl:l0.length<=1000000):
 Calls Tryz.prog 68 #[.agg #[.slice A0 l0.length c0,.slice A1 l1.length c1,.slice A2 l2.length c2,.slice A3 l3.length c3],.agg #[.int .i64 7,.string ⟨#[]⟩,.string p,.slice none 0 0,.string ⟨#[]⟩,.int .i64 0]] w fun e w'=>∃(A:Option Addr) (c:Nat) (r_:List S103),r_=l0.take i.toNat++l0.drop (i.toNat+1)/\e= .returned (.agg #[.slice A r_.length c,.slice A1 l1.length c1,.slice A2 l2.length c2,.slice A3 l3.length c3])/\Kd.V k103 103 w' w.heap.size (fun k_=>al k_\/w.heap.size<=k_) (.slice A r_.length c) r_/\Below w.heap.size w w':=by
 have az:=Tryz.underlying38;have aU:=Tryz.underlying54;have au:=(Kd.V_reads' aj).2.2;have av:=(Kd.V_reads' aj).2.1;have aw:=zz au;have aE:=zz ao;have aF:=zz ap;have aG:=zz ar;have HV:=zz (Kd.V_bound aj);clear aj;have aH:=zz h;have aI:=zz h2;have HG:=zz hG_;clear hG_;clear h h2 au ao ap ar;have HB:=yB w;obtain⟨r_,hr_⟩:∃y,y=l0.take i.toNat++l0.drop (i.toNat+1):=⟨_,rfl⟩
 obtain⟨i1,aJ⟩:∃y,IntKind.i64.wrap (i+1)=y:=⟨_,rfl⟩
 have aA:i1=i+1:=by rw[<-aJ,i64_w];simp[wrap64,IntKind.wrap];omega
 obtain⟨i0,am,aK,ax,hz2⟩:=info_parts info103;have hsz:i0.size=5:=by have:=ax;first|exact this|simpa using this
 have aL:∀W:World,(Instr.slice 33 (.slice A0 l0.length c0) none (some (.int .i64 i)) (some (.int .i64 i))).run Tryz.prog W= .ok (.slice A0 i.toNat i.toNat) W:=by
  intro W;have hel:Tryz.prog.elem 33=103:=by simp[Program.elem,Tryz.underlying33]
  have hu:Tryz.prog.underlying 33=some (.slice (Tryz.prog.elem 33)):=by rw[hel];exact Tryz.underlying33
  have ha:(A0.map fun x=>x.add 0)=A0:=by cases A0<;>simp[Addr.add]
  rw[run_slice_hm W 33 A0 l0.length c0 hu .i64 .i64 i i h0 (Int.le_refl _) yo_,hel];simp[sizeOf,typeInfo,am,sliced,Result.andThen,ha]
 have ak:=cut_from (P:=Tryz.prog) 33 103 .i64 Tryz.underlying33 am 5 hsz A0 l0.length c0 i1 yo_ yo_;have ay:i1.toNat=i.toNat+1:=by omega
 rw[ay] at ak;obtain⟨A',hA'⟩:∃y,y=(if c0=i.toNat+1 then A0 else A0.map (·.add ((i.toNat+1)*5))):=⟨_,rfl⟩
 obtain⟨m',hm'⟩:∃y,y=l0.length - (i.toNat+1):=⟨_,rfl⟩
 obtain⟨c',hc'⟩:∃y,y=c0 - (i.toNat+1):=⟨_,rfl⟩
 rw[<-hA',<-hm',<-hc'] at ak;have XA:=zz hA';have XM:=zz hm';have XI:=zz (show i.toNat<l0.length from by omega);have XL:=zz hl;have XR:=zz hr_;clear hA' hm' hc' am aK ax hz2 hsz ay aA hr_ hl;go_enter Tryz.func68,Tryz.ntmps68
 go_wp2_with(first
  |(refine zX 2 38 #[.slice A0 l0.length c0,.slice A1 l1.length c1,.slice A2 l2.length c2,.slice A3 l3.length c3] ?_;intro gb_ hg w1 hbox hb;replace HV:=zz (Kd.V_below (zV_ HV.out) hb);have GB:=zz ((zg:w.heap.size<=gb_));have BK:=zz hbox;replace HB:=zz (zv zb hb);clear hb hbox hg)
  |(refine zX 3 54 #[.int .i64 7,.string ⟨#[]⟩,.string p,.slice none 0 0,.string ⟨#[]⟩,.int .i64 0] ?_;intro gx_ hg w2 hbox hb;replace HV:=zz (Kd.V_below (zV_ HV.out) hb);have GX:=zz ((zg:w.heap.size<=gx_));have N1:=zz (zH BK hg);have N2:=zz (zI BK hg);have BX:=zz hbox;replace HB:=zz (zv zb hb);replace BK:=zz (zJ BK hb);clear hb hbox hg)
  |(refine zX 4 38 #[.slice none 0 0,.slice none 0 0,.slice none 0 0,.slice none 0 0] ?_;intro gr_ hg w3 hbox hb;replace HV:=zz (Kd.V_below (zV_ HV.out) hb);have GR:=zz ((zg:w.heap.size<=gr_));have N3:=zz (zH BK hg);have N4:=zz (zI BK hg);have N5:=zz (zH BX hg);have N6:=zz (zI BX hg);have BR:=zz hbox;replace HB:=zz (zv zb hb);replace BK:=zz (zJ BK hb);replace BX:=zz (zJ BX hb);clear hb hbox hg;have aV:=N1.out;have aW:=N2.out;have aX:=N3.out;have aY:=N4.out;have aZ:=N5.out;have a0:=N6.out;obtain⟨aa,ab,ac,ad,ae,af,ag,ah⟩:=zc4 BK.out;have an:w3.cell? ⟨gx_,0,none⟩=some (.int .i64 7):=(qH BX.out 0).trans rfl;have ai:w3.cell? ⟨gx_,2,none⟩=some (.string p):=(qH BX.out 2).trans rfl)
  |(refine zL 75 190 Tryz.func75 #[.agg #[.slice A0 l0.length c0,.slice A1 l1.length c1,.slice A2 l2.length c2,.slice A3 l3.length c3],.string p] ?_;(with_reducible refine(impl_canCut.calls k _ _ l0 _ _ l1 _ _ l2 _ _ l3 p true _ ?s1 av ?s3 aB ?s5 aC ?s7 aD ?s9 aH.out).mono ?_);(case s1=>exact zC aw.out);(case s3=>exact zC aE.out);(case s5=>exact zC aF.out);(case s7=>exact zC aG.out);(case s9=>exact zG);rintro e w4 ⟨rfl,hb⟩;refine⟨_,rfl,?_⟩;replace HV:=zz (Kd.V_below (zV_ HV.out) hb);replace BK:=zz (zJ BK hb);replace BX:=zz (zJ BX hb);replace BR:=zz (zJ BR hb);replace HB:=zz (zv zb hb);clear hb aa ab ac ad ae af ag ah an ai;obtain⟨aa,ab,ac,ad,ae,af,ag,ah⟩:=zc4 BK.out;have ai:w4.cell? ⟨gx_,2,none⟩=some (.string p):=(qH BX.out 2).trans rfl)
  |(refine zL 81 195 Tryz.func81 #[.slice A0 l0.length c0,.string p] ?_;(with_reducible refine(impl_itemOf.calls k _ _ l0 p i _ ?s1 av aI.out).mono ?_);(case s1=>exact zC aw.out);rintro e w5 ⟨rfl,hb⟩;refine⟨_,rfl,?_⟩;replace HV:=zz (Kd.V_below (zV_ HV.out) hb);replace BK:=zz (zJ BK hb);replace BX:=zz (zJ BX hb);replace BR:=zz (zJ BR hb);replace HB:=zz (zv zb hb);clear hb aa ab ac ad ae af ag ah ai;obtain⟨aa,ab,ac,ad,ae,af,ag,ah⟩:=zc4 BK.out))
 replace BK:=zz (blk_drew BK.out);replace BR:=zz (blk_drew BR.out);replace HV:=zz (Kd.V_drew HV.out);replace HB:=zz (qL HB.out);refine start_ (n:=13) (S:=fun w'=>w'.cell? ⟨gb_,0,none⟩=some (.slice A0 l0.length c0)) (ds:=[12]) (bp 0 13) zk rfl rfl ((zy4 BK.out).1) (fun hHeld=>?_);refine with_tabW impl_step.tab45 impl_step.bits45 (fun HT_ HW_=>?_);clear aa ab ac ad ae af ag ah;generalize w5.drew=w6 at BK BR HV HB hHeld⊢;refine zp 0 196 (bp 1 12) ?_;refine zt 1 197 (bp 2 11) ?_;refine zp 2 198 (bp 3 10) ?_;refine zp 3 199 (bp 4 9) ?_;refine zp 4 200 (bp 5 8) ?_;refine zp 5 201 (bp 6 7) ?_;refine zt 6 202 (bp 7 6) ?_;refine zp 7 203 (bp 8 5) ?_;refine zp 8 204 (bp 9 4) ?_;refine zp 9 205 (bp 10 3) ?_;refine zo 10 206 (bp 11 2) fun K hK=>?_;obtain⟨v6,w7,hrun,ho,hb⟩:=V_cut (P:=Tryz.prog) k103 (W:=w6) (base:=w.heap.size) 33 103 33 (.agg #[(.string ⟨#[]⟩),(.string ⟨#[]⟩),(.slice none 0 0),(.string ⟨#[]⟩),(.slice none 0 0)]) 96 Tryz.underlying33 info103 rfl yd_ yd_ (c2:=c') XA.out XM.out HV.out XI.out (by have:=XL.out;omega);refine V_cut_step (by rfl) (.tmp 200) (.tmp 205) rfl rfl rfl hrun ?_;rw[<-XR.out] at ho;obtain⟨Ar_,cr_,rfl⟩:=Kd.V_slice ho;have HO:=zz (Kd.V_mono (ok':=fun k_=>(al k_\/w.heap.size<=k_)/\k_≠gb_/\k_≠gr_) ho (fun k_ hk_=>Or.elim hk_ (fun hs_=>⟨.inl hs_.1,Nat.ne_of_lt (Nat.lt_of_lt_of_le hs_.2 GB.out),Nat.ne_of_lt (Nat.lt_of_lt_of_le hs_.2 GR.out)⟩) (fun hn_=>⟨.inr (Nat.le_trans (qF zb) hn_),Kd.freshB BK.out k_ hn_,Kd.freshB BR.out k_ hn_⟩)));replace BK:=zz (zJ BK hb);replace BR:=zz (zJ BR hb);replace HB:=zz (zv zb hb);clear hb ho HV hrun;refine hK.out _ _ ((zy4 BK.out).1) (fun hHeld=>?_);clear hK K;refine zn 206 ?_;refine zp 11 207 (bp 12 1) ?_;obtain⟨aa,ab,ac,ad,ae,af,ag,ah⟩:=zc4 BK.out;obtain⟨aM,aN,aO,aP,aQ,aR,aS,aT⟩:=zc4 BR.out;refine last_ (i:=12) (N:=none) (bp 13 0) rfl rfl (one_of HT_.out (by kernel_rfl)) yd_ (fun K hK=>?_);refine skip_ (w1:=w7.setCell ⟨gb_,0,none⟩ (.slice Ar_ r_.length cr_)) (by rfl) rfl (by go_simp) ?_;refine hK.out _ _ ?_;clear hK K;refine done_ (done_of HT_.out zk) ?_;go_wp2;have HF:=(Kd.V_far (p:=⟨gr_,3,none⟩) (Kd.V_far (p:=⟨gr_,2,none⟩) (Kd.V_far (p:=⟨gr_,1,none⟩) (Kd.V_far (p:=⟨gr_,0,none⟩) (Kd.V_far (p:=⟨gb_,0,none⟩) HO.out (fun _ hk=>hk.2.1) (.slice Ar_ r_.length cr_)) (fun _ hk=>hk.2.2) (.slice Ar_ r_.length cr_)) (fun _ hk=>hk.2.2) (.slice A1 l1.length c1)) (fun _ hk=>hk.2.2) (.slice A2 l2.length c2)) (fun _ hk=>hk.2.2) (.slice A3 l3.length c3))
 refine bodyPost_ret (results_cell_row rfl _ _ gr_ 38 #[.slice Ar_ r_.length cr_,.slice A1 l1.length c1,.slice A2 l2.length c2,.slice A3 l3.length c3] (0,0) _ rfl (by refine blk_put (cs:= #[.slice Ar_ r_.length cr_,.slice A1 l1.length c1,.slice A2 l2.length c2,.slice none 0 0]) ?_ 3 _ rfl;refine blk_put (cs:= #[.slice Ar_ r_.length cr_,.slice A1 l1.length c1,.slice none 0 0,.slice none 0 0]) ?_ 2 _ rfl;refine blk_put (cs:= #[.slice Ar_ r_.length cr_,.slice none 0 0,.slice none 0 0,.slice none 0 0]) ?_ 1 _ rfl;refine blk_put (cs:= #[.slice none 0 0,.slice none 0 0,.slice none 0 0,.slice none 0 0]) ?_ 0 _ rfl;refine blk_far ?_ N4.out _;exact BR.out) az rfl zk) rfl ?_;exact⟨_,_,r_,XR.out,ze,Kd.V_mono HF (fun _ hk=>hk.1),zb⟩
section
variable {α : Type} {d : Kd α} {e base g : Nat} {ok : Nat -> Prop} {w : World} {v : Value} {xs : List α} {u0 u1 u2 u3 u4 u5 : Value}
theorem Vany(base':Nat)(h:Kd.V d e w base ok v xs):Kd.V d e w base' ok v xs:=h
theorem Vf4(h:Kd.V d e w base ok v xs)(hok:∀k,ok k->k≠g):Kd.V d e ((((w.setCell ⟨g,0,none⟩ u0).setCell ⟨g,1,none⟩ u1).setCell ⟨g,2,none⟩ u2).setCell ⟨g,3,none⟩ u3) base ok v xs:=
 Kd.V_far (p:=⟨g,3,none⟩) (Kd.V_far (p:=⟨g,2,none⟩) (Kd.V_far (p:=⟨g,1,none⟩) (Kd.V_far (p:=⟨g,0,none⟩) h hok u0) hok u1) hok u2) hok u3
theorem Vf6(h:Kd.V d e w base ok v xs)(hok:∀k,ok k->k≠g):Kd.V d e ((((((w.setCell ⟨g,0,none⟩ u0).setCell ⟨g,1,none⟩ u1).setCell ⟨g,2,none⟩ u2).setCell ⟨g,3,none⟩ u3).setCell ⟨g,4,none⟩ u4).setCell ⟨g,5,none⟩ u5) base ok v xs:=
 Kd.V_far (p:=⟨g,5,none⟩) (Kd.V_far (p:=⟨g,4,none⟩) (Vf4 h hok) hok u4) hok u5
theorem Sf4(h:Kd.S d e w base ok v xs)(hok:∀k,ok k->k≠g):Kd.S d e ((((w.setCell ⟨g,0,none⟩ u0).setCell ⟨g,1,none⟩ u1).setCell ⟨g,2,none⟩ u2).setCell ⟨g,3,none⟩ u3) base ok v xs:=
 Kd.S_far (p:=⟨g,3,none⟩) (Kd.S_far (p:=⟨g,2,none⟩) (Kd.S_far (p:=⟨g,1,none⟩) (Kd.S_far (p:=⟨g,0,none⟩) h hok u0) hok u1) hok u2) hok u3
theorem Sf6(h:Kd.S d e w base ok v xs)(hok:∀k,ok k->k≠g):Kd.S d e ((((((w.setCell ⟨g,0,none⟩ u0).setCell ⟨g,1,none⟩ u1).setCell ⟨g,2,none⟩ u2).setCell ⟨g,3,none⟩ u3).setCell ⟨g,4,none⟩ u4).setCell ⟨g,5,none⟩ u5) base ok v xs:=
 Kd.S_far (p:=⟨g,5,none⟩) (Kd.S_far (p:=⟨g,4,none⟩) (Sf4 h hok) hok u4) hok u5
theorem Bf4{g' t':Nat}{cs':Array Value}(h:w.heap[g']?=some (.cells cs' t' (0,0)))(hn:g'≠g):(((((w.setCell ⟨g,0,none⟩ u0).setCell ⟨g,1,none⟩ u1).setCell ⟨g,2,none⟩ u2).setCell ⟨g,3,none⟩ u3)).heap[g']?=some (.cells cs' t' (0,0)):=blk_far (blk_far (blk_far (blk_far h hn _) hn _) hn _) hn _
theorem Bf6{g' t':Nat}{cs':Array Value}(h:w.heap[g']?=some (.cells cs' t' (0,0)))(hn:g'≠g):(((((((w.setCell ⟨g,0,none⟩ u0).setCell ⟨g,1,none⟩ u1).setCell ⟨g,2,none⟩ u2).setCell ⟨g,3,none⟩ u3).setCell ⟨g,4,none⟩ u4).setCell ⟨g,5,none⟩ u5)).heap[g']?=some (.cells cs' t' (0,0)):=blk_far (blk_far (Bf4 h hn) hn _) hn _
theorem Bp4{a b c dd:Value}{t:TypeId}(h:w.heap[g]?=some (.cells #[a,b,c,dd] t (0,0))):(((((w.setCell ⟨g,0,none⟩ u0).setCell ⟨g,1,none⟩ u1).setCell ⟨g,2,none⟩ u2).setCell ⟨g,3,none⟩ u3)).heap[g]?=some (.cells #[u0,u1,u2,u3] t (0,0)):=by
 refine blk_put (cs:= #[u0,u1,u2,dd]) ?_ 3 _ rfl;refine blk_put (cs:= #[u0,u1,c,dd]) ?_ 2 _ rfl;refine blk_put (cs:= #[u0,b,c,dd]) ?_ 1 _ rfl;exact blk_put (cs:= #[a,b,c,dd]) h 0 _ rfl
theorem Bp6{a b c dd ee ff:Value}{t:TypeId}(h:w.heap[g]?=some (.cells #[a,b,c,dd,ee,ff] t (0,0))):(((((((w.setCell ⟨g,0,none⟩ u0).setCell ⟨g,1,none⟩ u1).setCell ⟨g,2,none⟩ u2).setCell ⟨g,3,none⟩ u3).setCell ⟨g,4,none⟩ u4).setCell ⟨g,5,none⟩ u5)).heap[g]?=some (.cells #[u0,u1,u2,u3,u4,u5] t (0,0)):=by
 refine blk_put (cs:= #[u0,u1,u2,u3,u4,ff]) ?_ 5 _ rfl;refine blk_put (cs:= #[u0,u1,u2,u3,ee,ff]) ?_ 4 _ rfl;refine blk_put (cs:= #[u0,u1,u2,dd,ee,ff]) ?_ 3 _ rfl;refine blk_put (cs:= #[u0,u1,c,dd,ee,ff]) ?_ 2 _ rfl;refine blk_put (cs:= #[u0,b,c,dd,ee,ff]) ?_ 1 _ rfl;exact blk_put (cs:= #[a,b,c,dd,ee,ff]) h 0 _ rfl
end
theorem zc6{w:World}{g:Nat}{t:TypeId}{a b c d e f:Value}(h:w.heap[g]?=some (.cells #[a,b,c,d,e,f] t (0,0))):w.cell? ⟨g,0,none⟩=some a/\w.cell? ⟨g,1,none⟩=some b/\w.cell? ⟨g,2,none⟩=some c/\w.cell? ⟨g,3,none⟩=some d/\w.cell? ⟨g,4,none⟩=some e/\w.cell? ⟨g,5,none⟩=some f/\w.frozen? ⟨g,0,none⟩=false/\w.frozen? ⟨g,1,none⟩=false/\w.frozen? ⟨g,2,none⟩=false/\w.frozen? ⟨g,3,none⟩=false/\w.frozen? ⟨g,4,none⟩=false/\w.frozen? ⟨g,5,none⟩=false:=
 ⟨(qH h 0).trans rfl,(qH h 1).trans rfl,(qH h 2).trans rfl,(qH h 3).trans rfl,(qH h 4).trans rfl,(qH h 5).trans rfl,vF h 0,vF h 1,vF h 2,vF h 3,vF h 4,vF h 5⟩
def spec_PlanCollect.l1:Nat->List S103->List S137->List S133->List S134->ByteArray->Int->Option ByteArray
 |0,_,_,_,_,_,_=>none
 |k+1,l0,l1,l2,l3,p,x=>if x<(l0.length:Int) then(if p.toList=[] then(if 0<=x then((spec_l19Cuts.f k l0 l1 l2 l3 (qC l0 x).f0).bind fun t=>if t=true then spec_PlanCollect.l1 k l0 l1 l2 l3 (qC l0 x).f0 (wrap64 (x+1)) else spec_PlanCollect.l1 k l0 l1 l2 l3 p (wrap64 (x+1))) else none) else some p) else some p
def spec_PlanCollect.l0:Nat->List S54->List S103->List S137->List S133->List S134->Option (List S54)
 |0,_,_,_,_,_=>none
 |k+1,o,l0,l1,l2,l3=>(spec_PlanCollect.l1 k l0 l1 l2 l3 ⟨#[]⟩ 0).bind fun pf=>if pf.toList=[] then some o else(spec_l19Cuts.f k l0 l1 l2 l3 pf).bind fun t=>if t=true then((spec_l12Without.f k l0 [pf]).bind fun rb=>if o.length<1000000000 then spec_PlanCollect.l0 k (o++[(⟨7,(⟨#[]⟩:ByteArray),pf,([]:List S87),(⟨#[]⟩:ByteArray),0⟩:S54)]) rb.1 l1 l2 l3 else none) else none
def spec_PlanCollect.f(k:Nat)(l0:List S103)(l1:List S137)(l2:List S133)(l3:List S134):Option (List S54):=(spec_WorldOk.f k l0 l1 l2 l3).bind fun t=>if t=true then spec_PlanCollect.l0 k [] l0 l1 l2 l3 else some []
def spec_PlanCollect.T8:Bool×List (List Nat×List Nat):=(true,[([],[]),([],[]),([1],[1]),([],[]),([2,3],[2,3]),([4],[4]),([5],[5]),([0,6],[0,6])])
def spec_PlanCollect.B8:List Nat:=[0,0,2,0,14,30,62,127]
theorem spec_PlanCollect.tab8:rtab .any (opsOf Tryz.f28 8)=spec_PlanCollect.T8:=by kernel_rfl
theorem spec_PlanCollect.bits8:waitsOk spec_PlanCollect.T8.2 spec_PlanCollect.B8=true:=by kernel_rfl
theorem spec_PlanCollect.calls(k:Nat)(A0:Option Addr)(c0:Nat)(l0:List S103)(A1:Option Addr)(c1:Nat)(l1:List S137)(A2:Option Addr)(c2:Nat)(l2:List S133)(A3:Option Addr)(c3:Nat)(l3:List S134)(r:List S54)(w:World)(aT:Kd.C k103 w A0 l0.length l0)(aU:l0.length<=c0)(aZ:Kd.C k137 w A1 l1.length l1)(aD:l1.length<=c1)(a0:Kd.C k133 w A2 l2.length l2)(aE:l2.length<=c2)(a1:Kd.C k134 w A3 l3.length l3)(aG:l3.length<=c3)(h:spec_PlanCollect.f k l0 l1 l2 l3=some r):
 Calls Tryz.prog 28 #[.agg #[.slice A0 l0.length c0,.slice A1 l1.length c1,.slice A2 l2.length c2,.slice A3 l3.length c3]] w fun e w'=>∃v:Value,e= .returned v/\Kd.S k54 54 w' w.heap.size (fun k_=>w.heap.size<=k_) v r/\Below w.heap.size w w':=by
 have ba:=Tryz.underlying38;have bb:=Tryz.underlying54;have a2:=zz aT;have aH:=zz aZ;have aI:=zz a0;have aJ:=zz a1;have HV:=zz (C_V aT aU);clear aT aZ a0 a1;have HB:=yB w;unfold spec_PlanCollect.f at h;obtain⟨t_,aC,H⟩:=zf h;clear h;replace aC:=zz aC;cases t_ with
 |false=>
  rw[if_neg yd_] at H;obtain rfl:=zi H;clear H;go_enter Tryz.func28,Tryz.ntmps28;go_wp2_with(first|(refine zX 1 38 #[.slice A0 l0.length c0,.slice A1 l1.length c1,.slice A2 l2.length c2,.slice A3 l3.length c3] ?_;intro gb_ hg w1 hbox hb;replace HV:=zz (Kd.V_below (zV_ HV.out) hb);have GB:=zz ((zg:w.heap.size<=gb_));have BK:=zz hbox;replace HB:=zz (zv zb hb);clear hb hbox hg;obtain⟨aa,ab,ac,ae,af,ag,ah,ai⟩:=zc4 BK.out)|(refine zN 7 ?_;refine Kd.S_lit k54 _ 54 ?hg (N:=7) ?hd (xs:=([]:List S54)) (inner:=[]) (ok:=fun _=>True) (okp:=fun _=>True) ?hr ?hp (fun _ hk=>hk) trivial (Below.refl _ _) (Nat.le_refl _) (by simp) ?_;(case hd=>rfl);(case hg=>rfl);(case hr=>first|(go_simp;done)|(go_simp;rfl));(case hp=>exact(Reps.none _ _));intro v7 w3 ho hb hg_ hnew_;clear hg_ hnew_;have HO:=zz (Kd.S_lower (Kd.S_mono (ok':=fun k_=>w.heap.size<=k_) (Kd.S_bound ho) (fun k_ hk=>Nat.le_trans (qF zb) hk.2.1)) (qF zb));replace HV:=zz (Kd.V_below (zV_ HV.out) hb);replace BK:=zz (zJ BK hb);replace HB:=zz (zv zb hb);clear hb ho aa ab ac ae af ag ah ai;obtain⟨aa,ab,ac,ae,af,ag,ah,ai⟩:=zc4 BK.out)|(refine zL 45 9 Tryz.func45 #[.agg #[.slice A0 l0.length c0,.slice A1 l1.length c1,.slice A2 l2.length c2,.slice A3 l3.length c3]] ?_;(with_reducible refine(spec_WorldOk.calls k _ _ l0 _ _ l1 _ _ l2 _ _ l3 _ _ ?s1 aU ?s3 aD ?s5 aE ?s7 aG aC.out).mono ?_);(case s1=>exact zC a2.out);(case s3=>exact zC aH.out);(case s5=>exact zC aI.out);(case s7=>exact zC aJ.out);rintro e w4 ⟨rfl,hb⟩;refine⟨_,rfl,?_⟩;replace HO:=zz (Kd.vK (zS HO.out) hb);replace HV:=zz (Kd.V_below (zV_ HV.out) hb);replace BK:=zz (zJ BK hb);replace HB:=zz (zv zb hb);clear hb aa ab ac ae af ag ah ai;obtain⟨aa,ab,ac,ae,af,ag,ah,ai⟩:=zc4 BK.out))
  go_ret;exact⟨_,ze,zS HO.out,zb⟩
 |true=>
  rw[if_pos rfl] at H;have H':=zz H;clear H;go_enter Tryz.func28,Tryz.ntmps28;go_wp2_with(first|(refine zX 1 38 #[.slice A0 l0.length c0,.slice A1 l1.length c1,.slice A2 l2.length c2,.slice A3 l3.length c3] ?_;intro gb_ hg w1 hbox hb;replace HV:=zz (Kd.V_below (zV_ HV.out) hb);have GB:=zz ((zg:w.heap.size<=gb_));have BK:=zz hbox;replace HB:=zz (zv zb hb);clear hb hbox hg;obtain⟨aa,ab,ac,ae,af,ag,ah,ai⟩:=zc4 BK.out)|(refine zN 7 ?_;refine Kd.S_lit k54 _ 54 ?hg (N:=7) ?hd (xs:=([]:List S54)) (inner:=[]) (ok:=fun _=>True) (okp:=fun _=>True) ?hr ?hp (fun _ hk=>hk) trivial (Below.refl _ _) (Nat.le_refl _) (by simp) ?_;(case hd=>rfl);(case hg=>rfl);(case hr=>first|(go_simp;done)|(go_simp;rfl));(case hp=>exact(Reps.none _ _));intro v7 w3 ho hb hg_ hnew_;clear hg_ hnew_;have HO:=zz (Kd.S_lower (Kd.S_mono (ok':=fun k_=>w.heap.size<=k_) (Kd.S_bound ho) (fun k_ hk=>Nat.le_trans (qF zb) hk.2.1)) (qF zb));replace HV:=zz (Kd.V_below (zV_ HV.out) hb);replace BK:=zz (zJ BK hb);replace HB:=zz (zv zb hb);clear hb ho aa ab ac ae af ag ah ai;obtain⟨aa,ab,ac,ae,af,ag,ah,ai⟩:=zc4 BK.out)|(refine zL 45 9 Tryz.func45 #[.agg #[.slice A0 l0.length c0,.slice A1 l1.length c1,.slice A2 l2.length c2,.slice A3 l3.length c3]] ?_;(with_reducible refine(spec_WorldOk.calls k _ _ l0 _ _ l1 _ _ l2 _ _ l3 _ _ ?s1 aU ?s3 aD ?s5 aE ?s7 aG aC.out).mono ?_);(case s1=>exact zC a2.out);(case s3=>exact zC aH.out);(case s5=>exact zC aI.out);(case s7=>exact zC aJ.out);rintro e w4 ⟨rfl,hb⟩;refine⟨_,rfl,?_⟩;replace HO:=zz (Kd.vK (zS HO.out) hb);replace HV:=zz (Kd.V_below (zV_ HV.out) hb);replace BK:=zz (zJ BK hb);replace HB:=zz (zv zb hb);clear hb aa ab ac ae af ag ah ai;obtain⟨aa,ab,ac,ae,af,ag,ah,ai⟩:=zc4 BK.out))
  go_loopg[3] k (fun kq v3 w'=>∃(o:List S54) (l:List S103) (A:Option Addr) (c:Nat),qA (spec_PlanCollect.l0 kq o l l1 l2 l3=some r)/\qA (kq<=k)/\qA (Kd.S k54 54 w' w.heap.size (fun k_=>w.heap.size<=k_) v3 o)/\qA (Kd.V k103 103 w' w.heap.size (fun k_=>k_≠gb_/\some k_≠v3.ownBlock) (.slice A l.length c) l)/\qA (w'.heap[gb_]?=some (.cells #[.slice A l.length c,.slice A1 l1.length c1,.slice A2 l2.length c2,.slice A3 l3.length c3] 38 (0,0)))/\qA (Below w.heap.size w w'))
  case atStart=>exact⟨[],l0,A0,c0,H',⟨Nat.le_refl _⟩,⟨zS HO.out⟩,⟨zV_ (Kd.V_mono (ok':=fun k_=>k_≠gb_/\some k_≠v7.ownBlock) HV.out (fun k_ hk=>⟨Nat.ne_of_lt (Nat.lt_of_lt_of_le hk GB.out),fun e_=>Nat.lt_irrefl _ (Nat.lt_of_lt_of_le hk (Kd.S_base HO.out k_ e_.symm))⟩))⟩,⟨zB BK.out⟩,⟨zb⟩⟩
  case round=>
   clear H' HO HV HB BK aC;obtain⟨o,l,A,c,HA,a3,HO,HV,BK,HB⟩:=hrel;cases gk with
   |zero=>exact absurd HA.out (by simp[spec_PlanCollect.l0])
   |succ k1=>
    have H:=HA.out;clear HA;simp only[spec_PlanCollect.l0] at H;obtain⟨pf,AP,H⟩:=zf H;have AP':=zz AP;have HX:=zz H;clear AP H;go_wp2;go_loopg[4,5] k1 (fun kq v4 v5 w'=>∃(p:ByteArray) (x:Int),v4= .string p/\v5= .int .i64 x/\qA (spec_PlanCollect.l1 kq l l1 l2 l3 p x=some pf)/\qA (kq<=k1)/\qA (Kd.S k54 54 w' w.heap.size (fun k_=>w.heap.size<=k_) u3 o)/\qA (Kd.V k103 103 w' w.heap.size (fun k_=>k_≠gb_/\some k_≠u3.ownBlock) (.slice A l.length c) l)/\qA (w'.heap[gb_]?=some (.cells #[.slice A l.length c,.slice A1 l1.length c1,.slice A2 l2.length c2,.slice A3 l3.length c3] 38 (0,0)))/\qA (Below w.heap.size w w'))
    case atStart=>exact⟨⟨#[]⟩,0,zr,zr,AP',⟨Nat.le_refl _⟩,⟨zS HO.out⟩,⟨zV_ HV.out⟩,⟨zB BK.out⟩,⟨zb⟩⟩
    case round=>
     clear AP' HO HV HB BK;obtain⟨p,x,rfl,rfl,HA,aK,HO,HV,BK,HB⟩:=hrel;cases gk with
     |zero=>exact absurd HA.out (by simp[spec_PlanCollect.l1])
     |succ k2=>
      have aM:=zz HA.out;clear HA;have HQ:=zz ((Kd.V_reads' HV.out).2.2)
      go_upto_region 6 with(fail)
      go_cut [20] (fun a7 wc=>∃(b_:Bool),a7= .bool b_/\qA (b_=true->x<(l.length:Int)/\p.toList=[])/\qA (b_=false->pf=p)/\qA (Kd.S k54 54 wc w.heap.size (fun k_=>w.heap.size<=k_) u3 o)/\qA (Kd.V k103 103 wc w.heap.size (fun k_=>k_≠gb_/\some k_≠u3.ownBlock) (.slice A l.length c) l)/\qA (wc.heap[gb_]?=some (.cells #[.slice A l.length c,.slice A1 l1.length c1,.slice A2 l2.length c2,.slice A3 l3.length c3] 38 (0,0)))/\qA (Below w.heap.size w wc))
      case first=>
       have H:=aM.out;unfold spec_PlanCollect.l1 at H;obtain⟨aa,ab,ac,ae,af,ag,ah,ai⟩:=zc4 BK.out;by_cases aj:x<(l.length:Int)
       ·have aN:=z1 aj;by_cases ak:p.toList=([]:List UInt8)
        ·obtain⟨aV,aW⟩:=zq ak;go_wp2
         go_meet
         case rel=>exact⟨true,zr,⟨fun _=>⟨aj,ak⟩⟩,⟨fun e_=>by cases e_⟩,⟨zS HO.out⟩,⟨zV_ HV.out⟩,⟨zB BK.out⟩,⟨zb⟩⟩
        ·obtain⟨aV,aW⟩:=zw ak;rw[if_pos aj,if_neg ak] at H;go_wp2
         go_meet
         case rel=>exact⟨false,zr,⟨fun e_=>by cases e_⟩,⟨fun _=>(zi H).symm⟩,⟨zS HO.out⟩,⟨zV_ HV.out⟩,⟨zB BK.out⟩,⟨zb⟩⟩
       ·have aN:=z0 aj;rw[if_neg aj] at H;go_wp2
        go_meet
        case rel=>exact⟨false,zr,⟨fun e_=>by cases e_⟩,⟨fun _=>(zi H).symm⟩,⟨zS HO.out⟩,⟨zV_ HV.out⟩,⟨zB BK.out⟩,⟨zb⟩⟩
      case rest=>
       clear HO HV HB BK HQ;obtain⟨b_,rfl,HT,HF,HO,HV,BK,HB⟩:=hcut;cases b_ with
       |true=>
        obtain⟨aj,ak⟩:=HT.out rfl;clear HT HF;have H:=aM.out;clear aM;unfold spec_PlanCollect.l1 at H;rw[if_pos aj,if_pos ak] at H;replace H:=yA H;obtain⟨aQ,H⟩:=H;obtain⟨t_,AT,H⟩:=zf H;replace AT:=zz AT;replace H:=zz H;try go_wp2
        replace HO:=zz (Kd.S_drew HO.out);replace HV:=zz (Kd.V_drew HV.out);replace BK:=zz (blk_drew BK.out);replace HB:=zz (qL HB.out);obtain⟨ad,bc,bd,be,bf,eq_,al,_,_,_,_,_,_,_,_⟩:=at_T103 (Kd.V_reads' HV.out).2.2 x aQ aj;cases eq_;have p_:=eq_true aQ;have q_:=eq_true aj;have aN:=z1 aj;have a9:=z1 aQ;clear aj ak aQ;refine start_ (n:=8) (S:=fun w'=>w'.cell? ⟨gb_,0,none⟩=some (.slice (some ad) l.length c)/\w'.cell? ⟨gb_,1,none⟩=some (.slice A1 l1.length c1)/\w'.cell? ⟨gb_,2,none⟩=some (.slice A2 l2.length c2)/\w'.cell? ⟨gb_,3,none⟩=some (.slice A3 l3.length c3)/\w'.cell? (ad.add (x.toNat*5))=some (.string (qC l x).f0)) (ds:=[]) (bp 0 8) zk rfl rfl ⟨(zy4 BK.out).1,(zy4 BK.out).2.1,(zy4 BK.out).2.2.1,(zy4 BK.out).2.2.2,al⟩ (fun hHeld=>?_);refine with_tabW spec_PlanCollect.tab8 spec_PlanCollect.bits8 (fun HT_ HW_=>?_);generalize wc.drew=w7 at HO HV BK HB al hHeld⊢;refine zp 1 24 (bm 8 2) ?_;refine zp 3 26 (bm 8 10) ?_;refine zt 0 23 (bm 8 11) ?_;refine zt 2 25 (bp 4 4) ?_;refine zp 4 27 (bp 5 3) ?_;refine zp 5 28 (bp 6 2) ?_;refine zt 6 29 (bp 7 1) ?_;refine zo 7 30 (bp 8 0) fun K hK=>?_;refine zh Tryz.func74 #[.agg #[.slice (some ad) l.length c,.slice A1 l1.length c1,.slice A2 l2.length c2,.slice A3 l3.length c3],.string (qC l x).f0] ?_;with_reducible refine(spec_l19Cuts.calls k2 _ _ l _ _ l1 _ _ l2 _ _ l3 (qC l x).f0 t_ _ ?s1 ?s2 ?s3 aD ?s5 aE ?s7 aG AT.out).mono ?_
        (case s1=>exact(Kd.V_reads' HV.out).2.2)
        (case s2=>exact(Kd.V_reads' HV.out).2.1)
        (case s3=>exact zC aH.out)
        (case s5=>exact zC aI.out)
        (case s7=>exact zC aJ.out)
        rintro e w8 ⟨rfl,hb⟩;have a8:=z3 hb al;refine⟨_,rfl,?_⟩;replace HO:=zz (Kd.vK HO.out hb);replace HV:=zz (Kd.V_below HV.out hb);replace BK:=zz (qR BK.out hb);replace HB:=zz (zv zb hb);clear hb al;refine hK.out _ _ ⟨(zy4 BK.out).1,(zy4 BK.out).2.1,(zy4 BK.out).2.2.1,(zy4 BK.out).2.2.2,a8⟩ (fun hHeld=>?_);clear hK K;refine zn 30 ?_;refine done_ (done_of HT_.out zk) ?_;clear HT_ HW_ hHeld;obtain⟨aa,ab,ac,ae,af,ag,ah,ai⟩:=zc4 BK.out;cases t_ with
        |true=>
         replace H:=H.out;rw[if_pos rfl] at H;have H':=zz H;clear H;go_wp2;go_roundg k2
         case measure=>exact yM1 aK
         case rel=>exact⟨(qC l x).f0,wrap64 (x+1),zr,zr,H',⟨yM1 aK⟩,⟨zS HO.out⟩,⟨zV_ HV.out⟩,⟨zB BK.out⟩,⟨zb⟩⟩
        |false=>
         replace H:=H.out;rw[if_neg yd_] at H;have H':=zz H;clear H;go_wp2;go_roundg k2
         case measure=>exact yM1 aK
         case rel=>exact⟨p,wrap64 (x+1),zr,zr,H',⟨yM1 aK⟩,⟨zS HO.out⟩,⟨zV_ HV.out⟩,⟨zB BK.out⟩,⟨zb⟩⟩
       |false=>
        obtain rfl:=HF.out rfl;clear HT HF aM;have H:=HX.out;clear HX;by_cases aR:pf.toList=([]:List UInt8)
        ·obtain⟨aX,aY⟩:=zq aR;rw[if_pos aR] at H;obtain rfl:=zi H;go_wp2;go_ret;exact⟨_,ze,zS HO.out,zb⟩
        obtain⟨aX,aY⟩:=zw aR;rw[if_neg aR] at H;obtain⟨t_,AT,H⟩:=zf H;cases t_ with
        |false=>rw[if_neg yd_] at H;cases H
        |true=>
         rw[if_pos rfl] at H;obtain⟨⟨rr,rb⟩,AW,H⟩:=zf H;replace H:=yA H;obtain⟨a4,H⟩:=H;have LM:=zz a4;clear a4;have H':=zz H;clear H;replace AT:=zz AT;replace AW:=zz AW
         go_wp2_with(first
          |(refine zX 6 54 #[.int .i64 0,.string (⟨#[]⟩:ByteArray),.string (⟨#[]⟩:ByteArray),.slice none 0 0,.string (⟨#[]⟩:ByteArray),.int .i64 0] ?_;intro gx_ hg w5 hbox hb;replace HO:=zz (Kd.vK (Kd.S_elderB (zS HO.out) gx_ (Nat.le_of_eq hg.symm)) hb);replace HV:=zz (Kd.V_below (Kd.V_elderB (zV_ HV.out) gx_ (Nat.le_of_eq hg.symm)) hb);have BX:=zz hbox;have GX:=zz ((zg:w.heap.size<=gx_));have N1:=zz (zH BK hg);have N2:=zz (zI BK hg);replace HB:=zz (zv zb hb);replace BK:=zz (zJ BK hb);clear hb hbox hg;have bg:=N1.out;have bh:=N2.out;obtain⟨aa,ab,ac,ae,af,ag,ah,ai⟩:=zc4 BK.out;obtain⟨am,an,ao,ap,ar,au,av,aw,ax,ay,az,aA⟩:=zc6 BX.out)
          |(refine zL 67 44 Tryz.func67 #[.agg #[.slice A l.length c,.slice A1 l1.length c1,.slice A2 l2.length c2,.slice A3 l3.length c3],.agg #[.int .i64 7,.string (⟨#[]⟩:ByteArray),.string pf,.slice none 0 0,.string (⟨#[]⟩:ByteArray),.int .i64 0]] ?_;(refine(spec_l19Do.cut k1 _ _ l _ _ l1 _ _ l2 _ _ l3 pf rr rb (fun k_=>(k_≠gb_/\some k_≠u3.ownBlock)/\k_≠gx_) _ (Vany _ (Vf6 HV.out (fun _ hk=>hk.2))) ?s3 aD ?s5 aE ?s7 aG AT.out AW.out).mono ?_);(case s3=>exact zC aH.out);(case s5=>exact zC aI.out);(case s7=>exact zC aJ.out);rintro e w6 ⟨Ar,cr,rfl,hvr,hb⟩;refine⟨_,rfl,?_⟩;replace HV:=zz (Kd.V_mono (ok':=fun k_=>(k_≠gb_/\some k_≠u3.ownBlock)/\k_≠gx_) (Vany w.heap.size hvr) (fun k_ hk_=>Or.elim hk_ (fun hs_=>hs_) (fun hn_=>⟨⟨Kd.freshB (Bf6 BK.out N1.out) k_ hn_,Kd.fresh' (Kd.S_lt (Sf6 HO.out (fun _ hk=>hk.2))) k_ hn_⟩,Kd.freshB (Bp6 BX.out) k_ hn_⟩)));replace HO:=zz (Kd.vK (Sf6 HO.out (fun _ hk=>hk.2)) hb);replace BK:=zz (qR (Bf6 BK.out N1.out) hb);replace BX:=zz (qR (Bp6 BX.out) hb);replace HB:=zz (zv zb hb);clear hb hvr aa ab ac ae af ag ah ai av aw ax ay az aA am an ao ap ar au;obtain⟨aa,ab,ac,ae,af,ag,ah,ai⟩:=zc4 BK.out;obtain⟨am,an,ao,ap,ar,au,av,aw,ax,ay,az,aA⟩:=zc6 BX.out)
          |((with_reducible refine qU (b:= .append) (xs:= #[.tmp 45,.tmp 47]) rfl ?_);at_builtin;refine Kd.S_append k54 (w0:=w) w.heap.size rfl (.tmp 45) (.tmp 47) 31 54 (.agg #[(.int .i64 0),(.string ⟨#[]⟩),(.string ⟨#[]⟩),(.slice none 0 0),(.string ⟨#[]⟩),(.int .i64 0)]) 88 rfl Tryz.underlying31 info54 rfl yd_ yo_ u3 o (⟨7,(⟨#[]⟩:ByteArray),pf,([]:List S87),(⟨#[]⟩:ByteArray),0⟩:S54) [.int .i64 7,.string (⟨#[]⟩:ByteArray),.string pf,.slice none 0 0,.string (⟨#[]⟩:ByteArray),.int .i64 0] (fun k_=>w.heap.size<=k_) (fun _=>False) rfl (by first|(go_simp;done)|(go_simp;rfl)) ?aP (fun k_ hk_=>hk_.elim) ?aF ?aO ?aB ?aS ?aL ?_;(case aP=>exact k54_mkM _ _ _ (⟨7,(⟨#[]⟩:ByteArray),pf,([]:List S87),(⟨#[]⟩:ByteArray),0⟩:S54) (Kd.R_nil _ _ _ _ _));(case aB=>exact zb);(case aF=>exact fun k_ hk=>Nat.le_trans (qF zb) hk);(case aO=>(with_reducible repeat(first|apply Kd.S_alloc|apply Kd.S_drewN|apply Kd.S_drew));exact Kd.S_mono (Sf4 (u0:= .slice Ar rr.length cr) (u1:= .slice A1 l1.length c1) (u2:= .slice A2 l2.length c2) (u3:= .slice A3 l3.length c3) (g:=gb_) (Kd.S_types HO.out BK.out yd_) (fun _ hk=>hk.2)) (fun _ hk=>⟨hk.1.1,fun e_=>e_⟩));(case aS=>exact(qF zb));(case aL=>have:=LM.out;omega);intro v8 w8 ho hb hg hat;have NE_:=Kd.S_ne HO.out BK.out yd_;have a5:=zz (Vf4 (u0:= .slice Ar rr.length cr) (u1:= .slice A1 l1.length c1) (u2:= .slice A2 l2.length c2) (u3:= .slice A3 l3.length c3) (g:=gb_) (Kd.V_mono (ok':=fun k_=>k_≠gb_/\some k_≠u3.ownBlock) HV.out (fun _ hk=>hk.1)) (fun _ hk=>hk.1));have a6:=zz (Bp4 (u0:= .slice Ar rr.length cr) (u1:= .slice A1 l1.length c1) (u2:= .slice A2 l2.length c2) (u3:= .slice A3 l3.length c3) BK.out);replace HV:=zz (Kd.V_afterv (zV_ a5.out) hg hat);replace BK:=zz (zK a6 hg NE_);replace HO:=zz ho;replace HB:=zz hb;clear ho hb hg hat a5 a6 BX NE_ aa ab ac ae af ag ah ai am an ao ap ar au av aw ax ay az aA))
         go_roundg k1
         case measure=>exact yM1 a3
         case rel=>exact⟨o++[(⟨7,(⟨#[]⟩:ByteArray),pf,([]:List S87),(⟨#[]⟩:ByteArray),0⟩:S54)],rr,Ar,cr,H',⟨yM1 a3⟩,⟨zS HO.out⟩,⟨zV_ HV.out⟩,⟨zB BK.out⟩,⟨zb⟩⟩
end Go.Proofs.YtmdoobnlehkmpaaGreatDoor.Q
