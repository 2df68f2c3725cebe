import Derived.Test.YtgccknmddhbdgaaGreatDoorE27
namespace Go.Proofs.YtgccknmddhbdgaaGreatDoor.Q
open Go.RowKit W1 W2 W3
attribute [local go_sem] max2_int min2_int max_two min_two max_three min_three max_four min_four
attribute [local go_sem high] bl_leq bl_gtr bl_geq
set_option maxHeartbeats 8000000
set_option maxRecDepth 100000
section
attribute [local go_sem] run_store_one
def laws_toPendingS.l0:Nat->List (S86)->List (S94)->Int->Option ((List (S94)))
 |0,_,_,_=>none
 |k+1,x0,x3,x4=>if x4<(x0.length:Int) then(if 0<=x4 then((laws_toPending.f k ((rd_T86 x0 x4).f0) ((rd_T86 x0 x4).f1) ((rd_T86 x0 x4).f2)).bind fun aa=>(if x4<(x3.length:Int) then(laws_toPendingS.l0 k x0 (x3.set (x4:Int).toNat (⟨aa.1,aa.2.1,aa.2.2⟩:S94)) (wrap64 (x4+1))) else(none))) else(none)) else(some x3)
def laws_toPendingS.f(k:Nat)(l0:List (S86)):Option ((List (S94))):=if 0<=(l0.length:Int) then(if((l0.length:Int):Int).toNat<=5026338869833 then(laws_toPendingS.l0 k l0 (List.replicate ((l0.length:Int):Int).toNat z94) 0) else(none)) else(none)
theorem laws_toPendingS.calls(k:Nat)(A0:Option Addr)(c0:Nat)(l0:List (S86))(r:List (S94))(w:World)(a5:Kd.C k86 w A0 l0.length l0)(a6:l0.length<=c0)(H:laws_toPendingS.f k l0=some r):
 Calls Tryz.prog 25 #[.slice A0 l0.length c0] w fun e w'=>∃a7:Value,e= .returned (a7)/\Kd.S k94 94 w' w.heap.size (fun _=>True) a7 r/\Below w.heap.size w w':=by
 have bB:=Tryz.underlying86;have bC:=Tryz.underlying94;have bj:=zz a5;have bM:=zz a6;clear a5 a6;have HB:=yB w;unfold laws_toPendingS.f at H;replace H:=yA H;obtain⟨c2,H⟩:=H;have ba:=eq_true c2;have bb:=z1 c2;clear c2;replace H:=yA H;obtain⟨c3,H⟩:=H;have bc:=eq_true c3;have bd:=z1 c3;clear c3;obtain⟨aF,au⟩:∃y_:List (S94),y_=(List.replicate ((l0.length:Int):Int).toNat z94):=⟨_,rfl⟩
 replace H:(laws_toPendingS.l0 k l0 aF 0)=some r:=yN0 au H;have aC:=zz au;clear au;have H':=zz H;clear H;go_enter Tryz.func25,Tryz.ntmps25;go_wp2_with(first|(refine zN 7 ?_;refine Kd.S_make k94 _ 94 rfl (N:=7) rfl 36 _ _ rfl (l0.length:Int) rfl rfl Tryz.underlying36 (.agg #[(.string ⟨#[]⟩),(.slice none 0 0),(.string ⟨#[]⟩)]) 56 info94 rfl yd_ yo_ z94 (ok:=fun _=>True) (okp:=fun _=>True) (k94_mkM _ _ _ z94 (Kd.R_nil _ _ _ _ _)) (fun _ hk=>hk) trivial (z2) (Nat.le_trans (Nat.mul_le_mul_right _ (z2:(l0.length:Int).toNat<=5026338869833)) yo_) (Below.refl _ _) (Nat.le_refl _) ?_;intro be w4 ay hb hg_ hnew_;clear hg_ hnew_;(first|rw[<-aC.out] at ay|(simp only[Int.reduceToNat] at ay;rw[<-aC.out] at ay));have a1:=zz (Kd.S_lower ay (qE zb));replace HB:=zz (zv zb hb);clear hb ay))
 go_loopg[4] k (fun kq v4 w'=>∃(ad:List (S94)) (aa:Int),v4= .int .i64 aa/\qB (laws_toPendingS.l0 kq l0 ad aa=some r)/\qB (kq<=k)/\qB (Kd.S k94 94 w' w.heap.size (fun _=>True) be ad)/\qB (Below w.heap.size w w'))
 case atStart=>exact⟨(aF),(0),zr,H',⟨Nat.le_refl _⟩,⟨zS a1.out⟩,⟨zb⟩⟩
 case round=>
  clear H';try clear c2
  try clear ba
  try clear bb
  try clear c3
  try clear bc
  try clear bd
  obtain⟨ad,aa,rfl,HA,a8,ab,HB⟩:=hrel;cases gk with
  |zero=>exact absurd HA.out (by simp[laws_toPendingS.l0])
  |succ k1=>
   have H:=HA.out;clear HA;simp only[laws_toPendingS.l0] at H;refine yDn H ?_ ?_<;>clear H<;>intro bD H
   ·obtain rfl:=zi H;go_wp2;go_ret;exact⟨_,ze,zS ab.out,zb⟩
   replace H:=yAD H;obtain⟨bE,H⟩:=H;replace H:=zf H;obtain⟨⟨af,av,ag⟩,a9,H⟩:=H;try dsimp only at H
   have A8:=zz a9;clear a9;replace H:=yAD H;obtain⟨bF,H⟩:=H;obtain⟨az,aw⟩:∃y_:List (S94),y_=(ad.set (aa:Int).toNat (⟨af,av,ag⟩:S94)):=⟨_,rfl⟩
   replace H:(laws_toPendingS.l0 k1 l0 az (wrap64 (aa+1)))=some r:=yN0 aw H;have a2:=zz aw;clear aw;have H':=zz H;clear H;have bG:=yt (0<=(aa:Int));have bH:=yt (aa<(l0.length:Int));obtain⟨bz,aG,aH,bf,am,an,ao,ap,ar⟩:=at_T86 bj.out aa z2 z2;cases bf;replace am:=z3 HB.out am;replace an:=z3 HB.out an;replace ao:=z3 HB.out ao;have aD:=zz ar;have aE:=zz ap;clear ar ap;go_wp2_with(first|(refine zL 56 20 Tryz.func56 #[.agg #[.string ((rd_T86 l0 aa).f0),.slice aG ((rd_T86 l0 aa).f1).length aH,.string ((rd_T86 l0 aa).f2)]] ?_;(with_reducible refine(laws_toPending.calls k1 ((rd_T86 l0 aa).f0) _ _ ((rd_T86 l0 aa).f1) ((rd_T86 l0 aa).f2) af av ag _ ?s1 ?s2 A8.out).mono ?_);(case s1=>exact zc aD.out);(case s2=>exact aE.out);rintro e ae ⟨ax,rfl,aI,hb⟩;refine⟨_,rfl,?_⟩;replace ab:=zz (Kd.S_elder' (zS ab.out) (Kd.R_base aI) hb);have ah:=zz (Kd.qU aI (qE zb));replace HB:=zz (zv zb hb);(try clear hb);(try clear hk);(try clear aI);have aJ:0<=(aa:Int):=z2;have aK:(aa:Int)<((ad.length:Int):Int):=z2;obtain⟨ac,aL,aM,aN,bg,bI,aO⟩:=Kd.S_form ab.out yo_;(first|cases aM|(injection aM with ea_ en_ ec_;(first|subst ea_|(injection ea_ with ea_;subst ea_));subst ec_;clear en_));have aA:=zz aN;have bJ:=zz aO;clear aN bg aO;obtain⟨_,bK,a3,aP,ai,aj,_,_⟩:=Kd.S_elem ab.out z94 (aa:Int) aJ aK;obtain⟨aQ,rfl,bk⟩:=k94_openM aP;have bn:ae.cell? ⟨ac,(aa:Int).toNat*3,none⟩=some (.string ((rd_T94 ad aa).f0)):=ai 0 _ rfl;have bo:ae.cell? ⟨ac,(aa:Int).toNat*3+1,none⟩=some (aQ):=ai 1 _ rfl;have bq:ae.cell? ⟨ac,(aa:Int).toNat*3+2,none⟩=some (.string ((rd_T94 ad aa).f2)):=ai 2 _ rfl;have br:ae.frozen? ⟨ac,(aa:Int).toNat*3,none⟩=false:=aj 0;have bs:ae.frozen? ⟨ac,(aa:Int).toNat*3+1,none⟩=false:=aj 1;have bu:ae.frozen? ⟨ac,(aa:Int).toNat*3+2,none⟩=false:=aj 2;clear a3 ai aj aP;replace aJ:=eq_true aJ;replace aK:=eq_true aK;have n_:=zz (Kd.S_mono (ok':=(fun k_=>some k_≠(ax:Value).ownBlock)) ab.out (fun k_ hk=>hk.2));clear ab;have ab:=n_;clear n_;have bh:=zz (show Kd.S k94 94 ae w.heap.size (fun k_=>((fun _=>True)) k_/\¬((fun k_=>some k_=(ax:Value).ownBlock)) k_) (.slice (some ⟨ac,0,none⟩) ad.length aL) ad from(by(with_reducible repeat(first|apply Kd.S_alloc|apply Kd.S_drewN|apply Kd.S_drew));exact Kd.S_mono ab.out (fun k_ hk=>⟨trivial,fun e_=>hk e_⟩)));obtain⟨bA,bL,a4,aR,ak,al,aS,aT⟩:=Kd.S_elem bh.out z94 (aa:Int) (z2) (by have h_:(aa:Int)<((ad.length:Int):Int):=z2;first|exact h_|(have e_:=(Kd.S_reads' ab.out).1;omega)|simpa using h_);obtain⟨bv,rfl,bw⟩:=k94_openM aR;have aB:=Kd.S_seg aT (z2) (by have h_:(aa:Int)<((ad.length:Int):Int):=z2;first|exact h_|(have e_:=(Kd.S_reads' ab.out).1;omega)|simpa using h_) (seg:=[.string af,ax,.string ag]) (j:=0) (show 3<=3 from by decide) (x':=(⟨af,av,ag⟩:S94)) (k94_mkM _ _ _ (⟨af,av,ag⟩:S94) (Kd.qM (Kd.R_tight rfl (Kd.qM (ok':=fun k_=>((fun _=>True)) k_/\k_≠ac) (Kd.R_apart' (ah.out) (Kd.S_typed ab.out) yd_) (fun k_ hk=>⟨trivial,fun e_=>(hk.2) (by rw[e_];rfl)⟩))) (fun _ h_=>Or.inr (h_)))) (fun _ hk=>hk) (fun k_ hk_=>((Kd.qM (ok':=fun k_=>((fun _=>True)) k_/\k_≠ac) (Kd.R_apart' (ah.out) (Kd.S_typed ab.out) yd_) (fun k_ hk=>⟨trivial,fun e_=>(hk.2) (by rw[e_];rfl)⟩))).1 k_ hk_.symm);have aU:=ak 0 _ rfl;(try simp only[show(k94).sz=3 from rfl,Nat.mul_one,Nat.add_zero] at aU);have aV:=al 0;(try simp only[show(k94).sz=3 from rfl,Nat.mul_one,Nat.add_zero] at aV);have aW:=ak 1 _ rfl;(try simp only[show(k94).sz=3 from rfl,Nat.mul_one,Nat.add_zero] at aW);have aX:=al 1;(try simp only[show(k94).sz=3 from rfl,Nat.mul_one,Nat.add_zero] at aX);have aY:=ak 2 _ rfl;(try simp only[show(k94).sz=3 from rfl,Nat.mul_one,Nat.add_zero] at aY);have aZ:=al 2;(try simp only[show(k94).sz=3 from rfl,Nat.mul_one,Nat.add_zero] at aZ);clear a4 ak al aR aS aT;have bi:=R_one ah.out)|((with_reducible refine qR (t:=94) (p:=21) rfl ?_);refine ye 94 21 (((ae.setCell ⟨ac,(aa:Int).toNat*3,none⟩ (.string af)).setCell ⟨ac,(aa:Int).toNat*3+1,none⟩ (ax)).setCell ⟨ac,(aa:Int).toNat*3+2,none⟩ (.string ag)) ?_;intro a0 hw;have hg:ae.grownBy a0 (some ac):=(by rw[hw];exact aB.2);have hp_:Kd.S k94 94 a0 w.heap.size (fun _=>True) (.slice (some ⟨ac,0,none⟩) ad.length aL) az:=(by rw[hw,a2.out];exact aB.1);clear aB;replace ab:=zz (hp_);replace HB:=zz ((by rw[hw];exact qJ (qJ (qJ (HB.out) aA.out) aA.out) aA.out:Below w.heap.size w a0));clear ah;clear hg hw hp_))
   go_roundg k1
   case measure=>exact yM1 a8
   case rel=>exact⟨(az),(wrap64 (aa+1)),zr,H',⟨yM1 a8⟩,⟨zS ab.out⟩,⟨zb⟩⟩
end
def laws_toNext.f(aa:ByteArray)(ab:ByteArray):Option (ByteArray×ByteArray):=some (aa,ab)
theorem laws_toNext.calls(ac:ByteArray)(ad:ByteArray)(r1:ByteArray)(r2:ByteArray)(w:World)(H:laws_toNext.f ac ad=some (r1,r2)):
 Calls Tryz.prog 57 #[.agg #[.string ac,.string ad]] w fun e w'=>e= .returned (.agg #[.string r1,.string r2])/\Below w.heap.size w w':=by
 have aG:=Tryz.underlying89;have aH:=Tryz.underlying96;have HB:=yB w;unfold laws_toNext.f at H;simp only[Option.some.injEq,Prod.mk.injEq] at H;obtain⟨rfl,rfl⟩:=H;go_enter Tryz.func57,Tryz.ntmps57;go_wp2_with(first|(refine zX 1 89 #[.string ac,.string ad] ?_;intro al hg w2 hbox hb;have aa:=zz (hbox);have aD:=zz ((zg:w.heap.size<=al));replace HB:=zz (zv zb hb);clear hb hbox hg)|(refine zX 2 96 #[.string (⟨#[]⟩:ByteArray),.string (⟨#[]⟩:ByteArray)] ?_;intro ak hg w3 hbox hb;have ab:=zz (hbox);have aE:=zz ((zg:w.heap.size<=ak));replace HB:=zz (zv zb hb);have ae:=zz (zH aa hg);have af:=zz (zI aa hg);replace aa:=zz (zJ aa hb);clear hb hbox hg)|(refine zX 3 96 #[.string (⟨#[]⟩:ByteArray),.string (⟨#[]⟩:ByteArray)] ?_;intro am hg w4 hbox hb;have an:=zz (hbox);have aF:=zz ((zg:w.heap.size<=am));replace HB:=zz (zv zb hb);have ag:=zz (zH aa hg);have ah:=zz (zI aa hg);replace aa:=zz (zJ aa hb);have ai:=zz (zH ab hg);have aj:=zz (zI ab hg);replace ab:=zz (zJ ab hb);clear hb hbox hg;have aI:=ae.out;have aJ:=af.out;have aK:=ag.out;have aL:=ah.out;obtain⟨av,aw,ax,ay⟩:=zc2 aa.out;have aM:=aj.out;have aN:=ai.out;obtain⟨az,aA,aB,aC⟩:=zc2 an.out;obtain⟨ao,ap,ar,au⟩:=zc2 ab.out))
 refine bodyPost_ret (results_cell_row rfl _ _ ak 96 #[.string ac,.string ad] (0,0) _ rfl (yP ab.out) Tryz.underlying96 rfl zk) rfl ?_;exact⟨ze,zb⟩
def laws_toNextS.l0:Nat->List (S89)->List (S96)->Int->Option ((List (S96)))
 |0,_,_,_=>none
 |k+1,x0,x3,x4=>if x4<(x0.length:Int) then(if 0<=x4 then((laws_toNext.f ((rd_T89 x0 x4).f0) ((rd_T89 x0 x4).f1)).bind fun aa=>(if x4<(x3.length:Int) then(laws_toNextS.l0 k x0 (x3.set (x4:Int).toNat (⟨aa.1,aa.2⟩:S96)) (wrap64 (x4+1))) else(none))) else(none)) else(some x3)
def laws_toNextS.f(k:Nat)(l0:List (S89)):Option ((List (S96))):=if 0<=(l0.length:Int) then(if((l0.length:Int):Int).toNat<=8796093022208 then(laws_toNextS.l0 k l0 (List.replicate ((l0.length:Int):Int).toNat z96) 0) else(none)) else(none)
theorem laws_toNextS.calls(k:Nat)(A0:Option Addr)(c0:Nat)(l0:List (S89))(r:List (S96))(w:World)(aQ:Kd.C k89 w A0 l0.length l0)(aR:l0.length<=c0)(H:laws_toNextS.f k l0=some r):
 Calls Tryz.prog 26 #[.slice A0 l0.length c0] w fun e w'=>∃aS:Value,e= .returned (aS)/\Kd.R k96 96 w' w.heap.size (fun _=>True) aS r/\Below w.heap.size w w':=by
 have a8:=Tryz.underlying89;have a9:=Tryz.underlying96;have a2:=zz aQ;have bj:=zz aR;clear aQ aR;have HB:=yB w;unfold laws_toNextS.f at H;replace H:=yA H;obtain⟨c2,H⟩:=H;have aV:=eq_true c2;have aW:=z1 c2;clear c2;replace H:=yA H;obtain⟨c3,H⟩:=H;have aX:=eq_true c3;have aY:=z1 c3;clear c3;obtain⟨ax,ak⟩:∃y_:List (S96),y_=(List.replicate ((l0.length:Int):Int).toNat z96):=⟨_,rfl⟩
 replace H:(laws_toNextS.l0 k l0 ax 0)=some r:=yN0 ak H;have av:=zz ak;clear ak;have H':=zz H;clear H;go_enter Tryz.func26,Tryz.ntmps26;go_wp2_with(first|(refine zN 7 ?_;refine Kd.R_make k96 _ 96 rfl (N:=7) rfl 37 _ _ rfl (l0.length:Int) rfl rfl Tryz.underlying37 (.agg #[(.string ⟨#[]⟩),(.string ⟨#[]⟩)]) 32 info96 rfl yd_ yo_ z96 (ok:=fun _=>True) (okp:=fun _=>True) (k96_mkM _ _ _ z96) (fun _ hk=>hk) trivial (z2) (Nat.le_trans (Nat.mul_le_mul_right _ (z2:(l0.length:Int).toNat<=8796093022208)) yo_) (Below.refl _ _) (Nat.le_refl _) ?_;intro aZ w4 ap hb hg_ hnew_;clear hg_ hnew_;(first|rw[<-av.out] at ap|(simp only[Int.reduceToNat] at ap;rw[<-av.out] at ap));have aN:=zz (Kd.qU ap (qE zb));replace HB:=zz (zv zb hb);clear hb ap))
 go_loopg[4] k (fun kq v4 w'=>∃(ab:List (S96)) (aa:Int),v4= .int .i64 aa/\qB (laws_toNextS.l0 kq l0 ab aa=some r)/\qB (kq<=k)/\qB (Kd.R k96 96 w' w.heap.size (fun _=>True) aZ ab)/\qB (Below w.heap.size w w'))
 case atStart=>exact⟨(ax),(0),zr,H',⟨Nat.le_refl _⟩,⟨zR aN.out⟩,⟨zb⟩⟩
 case round=>
  clear H';try clear c2
  try clear aV
  try clear aW
  try clear c3
  try clear aX
  try clear aY
  obtain⟨ab,aa,rfl,HA,aT,ac,HB⟩:=hrel;cases gk with
  |zero=>exact absurd HA.out (by simp[laws_toNextS.l0])
  |succ k1=>
   have H:=HA.out;clear HA;simp only[laws_toNextS.l0] at H;refine yDn H ?_ ?_<;>clear H<;>intro ba H
   ·obtain rfl:=zi H;go_wp2;go_ret;exact⟨_,ze,zR ac.out,zb⟩
   replace H:=yAD H;obtain⟨bb,H⟩:=H;replace H:=zf H;obtain⟨⟨ae,af⟩,aU,H⟩:=H;try dsimp only at H
   have A8:=zz aU;clear aU;replace H:=yAD H;obtain⟨bc,H⟩:=H;obtain⟨ar,al⟩:∃y_:List (S96),y_=(ab.set (aa:Int).toNat (⟨ae,af⟩:S96)):=⟨_,rfl⟩
   replace H:(laws_toNextS.l0 k1 l0 ar (wrap64 (aa+1)))=some r:=yN0 al H;have aO:=zz al;clear al;have H':=zz H;clear H;have bd:=yt (0<=(aa:Int));have be:=yt (aa<(l0.length:Int));obtain⟨a7,a0,ai,aj⟩:=at_T89 a2.out aa z2 z2;cases a0;replace ai:=z3 HB.out ai;replace aj:=z3 HB.out aj;go_wp2_with(first|(refine zL 57 20 Tryz.func57 #[.agg #[.string ((rd_T89 l0 aa).f0),.string ((rd_T89 l0 aa).f1)]] ?_;(with_reducible refine(laws_toNext.calls ((rd_T89 l0 aa).f0) ((rd_T89 l0 aa).f1) ae af _ A8.out).mono ?_);rintro e ah ⟨rfl,hb⟩;refine⟨_,rfl,?_⟩;replace ac:=zz (Kd.vH (zR ac.out) hb);replace HB:=zz (zv zb hb);(try clear hb);(try clear hk);have ay:0<=(aa:Int):=z2;have az:(aa:Int)<((ab.length:Int):Int):=z2;obtain⟨ad,aA,aB,aC,a1,bf,aD⟩:=Kd.R_form ac.out yo_;(first|cases aB|(injection aB with ea_ en_ ec_;(first|subst ea_|(injection ea_ with ea_;subst ea_));subst ec_;clear en_));have aE:=zz aC;have bg:=zz aD;clear aC a1 aD;obtain⟨bh,aP,aF,am,an⟩:=Kd.R_elem ac.out z96 (aa:Int) ay az;obtain rfl:=k96_openM aF;have a3:ah.cell? ⟨ad,(aa:Int).toNat*2,none⟩=some (.string ((rd_T96 ab aa).f0)):=am 0 _ rfl;have a4:ah.cell? ⟨ad,(aa:Int).toNat*2+1,none⟩=some (.string ((rd_T96 ab aa).f1)):=am 1 _ rfl;have a5:ah.frozen? ⟨ad,(aa:Int).toNat*2,none⟩=false:=an 0;have a6:ah.frozen? ⟨ad,(aa:Int).toNat*2+1,none⟩=false:=an 1;clear aP am an aF;replace ay:=eq_true ay;replace az:=eq_true az;have aG:=zz (show Kd.R k96 96 ah w.heap.size (fun _=>True) (.slice (some ⟨ad,0,none⟩) ab.length aA) ab from(zR ac.out));obtain⟨bi,aw,aH,ag,ao⟩:=Kd.R_elem aG.out z96 (aa:Int) (z2) (by have h_:(aa:Int)<((ab.length:Int):Int):=z2;first|exact h_|(have e_:=(Kd.qH ac.out).1;omega)|simpa using h_);obtain rfl:=k96_openM aH;have au:=Kd.R_seg aG.out (aa:Int) (z2) (by have h_:(aa:Int)<((ab.length:Int):Int):=z2;first|exact h_|(have e_:=(Kd.qH ac.out).1;omega)|simpa using h_) (seg:=[.string ae,.string af]) (j:=0) aw ag (show 2<=2 from by decide) (x':=(⟨ae,af⟩:S96)) (k96_mkM _ _ _ (⟨ae,af⟩:S96)) (fun _ hk=>hk);have aI:=ag 0 _ rfl;(try simp only[show(k96).sz=2 from rfl,Nat.mul_one,Nat.add_zero] at aI);have aJ:=ao 0;(try simp only[show(k96).sz=2 from rfl,Nat.mul_one,Nat.add_zero] at aJ);have aK:=ag 1 _ rfl;(try simp only[show(k96).sz=2 from rfl,Nat.mul_one,Nat.add_zero] at aK);have aL:=ao 1;(try simp only[show(k96).sz=2 from rfl,Nat.mul_one,Nat.add_zero] at aL);clear aw ag ao aH)|((with_reducible refine qR (t:=96) (p:=21) rfl ?_);refine ye 96 21 ((ah.setCell ⟨ad,(aa:Int).toNat*2,none⟩ (.string ae)).setCell ⟨ad,(aa:Int).toNat*2+1,none⟩ (.string af)) ?_;intro aM hw;have hg:ah.grownBy aM (some ad):=(by rw[hw];exact au.2);have hp_:Kd.R k96 96 aM w.heap.size (fun _=>True) (.slice (some ⟨ad,0,none⟩) ab.length aA) ar:=(by rw[hw,aO.out];exact au.1);clear au;replace ac:=zz (hp_);replace HB:=zz ((by rw[hw];exact qJ (qJ (HB.out) aE.out) aE.out:Below w.heap.size w aM));clear hg hw hp_))
   go_roundg k1
   case measure=>exact yM1 aT
   case rel=>exact⟨(ar),(wrap64 (aa+1)),zr,H',⟨yM1 aT⟩,⟨zR ac.out⟩,⟨zb⟩⟩
def laws_toWorld.f(k:Nat)(aa:List (S79))(ab:List (S83))(ac:List (S86))(ad:List (S89)):Option ((List (S61))×(List (S99))×(List (S94))×(List (S96))):=(laws_toItemS.f k aa).bind fun ae=>((laws_toProfileS.f k ab).bind fun af=>((laws_toPendingS.f k ac).bind fun ag=>((laws_toNextS.f k ad).bind fun ah=>(some (ae,af,ag,ah)))))
theorem laws_toWorld.calls(k:Nat)(al:Option Addr)(am:Nat)(ae:List (S79))(an:Option Addr)(ao:Nat)(af:List (S83))(ap:Option Addr)(ar:Nat)(ag:List (S86))(au:Option Addr)(av:Nat)(ah:List (S89))(r1:List (S61))(r2:List (S99))(r3:List (S94))(r4:List (S96))(w:World)(aR:Kd.C k79 w al ae.length ae)(aS:ae.length<=am)(aT:Kd.C k83 w an af.length af)(aU:af.length<=ao)(aV:Kd.C k86 w ap ag.length ag)(aW:ag.length<=ar)(aX:Kd.C k89 w au ah.length ah)(aY:ah.length<=av)(H:laws_toWorld.f k ae af ag ah=some (r1,r2,r3,r4)):
 Calls Tryz.prog 7 #[.agg #[.slice al ae.length am,.slice an af.length ao,.slice ap ag.length ar,.slice au ah.length av]] w fun e w'=>∃a8 a9 ba bb:Value,e= .returned (.agg #[a8,a9,ba,bb])/\Kd.S k61 61 w' w.heap.size (fun _=>True) a8 r1/\Kd.S k99 99 w' w.heap.size (fun _=>True) a9 r2/\Kd.S k94 94 w' w.heap.size (fun _=>True) ba r3/\Kd.R k96 96 w' w.heap.size (fun _=>True) bb r4/\Below w.heap.size w w':=by
 have cK:=Tryz.underlying27;have cL:=Tryz.underlying39;have a0:=zz aR;have a1:=zz aS;clear aR aS;have a2:=zz aT;have a3:=zz aU;clear aT aU;have a4:=zz aV;have a5:=zz aW;clear aV aW;have a6:=zz aX;have a7:=zz aY;clear aX aY;have HB:=yB w;unfold laws_toWorld.f at H;replace H:=zf H;obtain⟨ax,bc,H⟩:=H;try dsimp only at H
 have A2:=zz bc;clear bc;replace H:=zf H;obtain⟨ay,bd,H⟩:=H;try dsimp only at H
 have A3:=zz bd;clear bd;replace H:=zf H;obtain⟨az,be,H⟩:=H;try dsimp only at H
 have A4:=zz be;clear be;replace H:=zf H;obtain⟨aA,bf,H⟩:=H;try dsimp only at H
 have A5:=zz bf;clear bf;simp only[Option.some.injEq,Prod.mk.injEq] at H;obtain⟨rfl,rfl,rfl,rfl⟩:=H;go_enter Tryz.func7,Tryz.ntmps7;go_wp2_with(first|(refine zX 1 27 #[.slice al ae.length am,.slice an af.length ao,.slice ap ag.length ar,.slice au ah.length av] ?_;intro aB hg w6 hbox hb;have ab:=zz (hbox);have cD:=zz ((zg:w.heap.size<=aB));replace HB:=zz (zv zb hb);clear hb hbox hg)|(refine zX 2 39 #[.slice none 0 0,.slice none 0 0,.slice none 0 0,.slice none 0 0] ?_;intro aw hg w7 hbox hb;have ac:=zz (hbox);have cE:=zz ((zg:w.heap.size<=aw));replace HB:=zz (zv zb hb);have aL:=zz (zH ab hg);have aM:=zz (zI ab hg);replace ab:=zz (zJ ab hb);clear hb hbox hg)|(refine zX 3 39 #[.slice none 0 0,.slice none 0 0,.slice none 0 0,.slice none 0 0] ?_;intro ad hg w8 hbox hb;have aa:=zz (hbox);have cF:=zz ((zg:w.heap.size<=ad));replace HB:=zz (zv zb hb);have aN:=zz (zH ab hg);have aO:=zz (zI ab hg);replace ab:=zz (zJ ab hb);have aP:=zz (zH ac hg);have aQ:=zz (zI ac hg);replace ac:=zz (zJ ac hb);clear hb hbox hg;have cM:=aL.out;have cN:=aM.out;have cG:=aN.out;have cH:=aO.out;obtain⟨bk,bn,bo,bq,br,bs,bu,bv⟩:=zc4 ab.out)|(refine zL 23 6 Tryz.func23 #[.slice al ae.length am] ?_;(with_reducible refine(laws_toItemS.calls k _ _ ae ax _ ?s1 ?s2 A2.out).mono ?_);(case s1=>exact zc a0.out);(case s2=>exact a1.out);rintro e cS ⟨cO,rfl,aj,hb⟩;refine⟨_,rfl,?_⟩;have ai:=zz (Kd.S_lower aj (qE zb));replace ab:=zz (zJ ab hb);replace ac:=zz (zJ ac hb);replace aa:=zz (zJ aa hb);replace HB:=zz (zv zb hb);(try clear hb);(try clear aj);obtain⟨aD,aE,bg⟩:=Kd.S_slice ai.out;subst bg;have cI:=aQ.out;have cJ:=aP.out;obtain⟨bw,bz,bA,bB,bC,bD,bE,bF⟩:=zc4 aa.out;obtain⟨bG,bH,bI,bJ,bK,bL,bM,bN⟩:=zc4 ab.out)|(refine zL 24 10 Tryz.func24 #[.slice an af.length ao] ?_;(with_reducible refine(laws_toProfileS.calls k _ _ af ay _ ?s1 ?s2 A3.out).mono ?_);(case s1=>exact Kd.qD a2.out zb);(case s2=>exact a3.out);rintro e cT ⟨cP,rfl,aj,hb⟩;refine⟨_,rfl,?_⟩;replace ai:=zz (Kd.S_below (by(with_reducible repeat(first|apply Kd.S_alloc|apply Kd.S_drewN|apply Kd.S_drew));exact(Kd.S_mono (Kd.S_far (p:=⟨ad,0,none⟩) (Kd.S_types ai.out aa.out yd_) (fun _ hk=>hk.2) (.slice aD ax.length aE)) (fun _ h_=>h_.1))) hb);have ak:=zz (Kd.S_lower aj (qE zb));replace ab:=zz (qY (g:=aB) (o:= .cells #[.slice al ae.length am,.slice an af.length ao,.slice ap ag.length ar,.slice au ah.length av] 27 (0,0)) (yP ab.out) hb);replace ac:=zz (qY (g:=aw) (o:= .cells #[.slice none 0 0,.slice none 0 0,.slice none 0 0,.slice none 0 0] 39 (0,0)) (yP ac.out) hb);replace aa:=zz (qY (g:=ad) (o:= .cells #[.slice aD ax.length aE,.slice none 0 0,.slice none 0 0,.slice none 0 0] 39 (0,0)) (yP aa.out) hb);replace HB:=zz (zv zb hb);(try clear hb);(try clear hk);(try clear aj);obtain⟨aF,aG,bh⟩:=Kd.S_slice ak.out;subst bh;obtain⟨bO,bP,bQ,bR,bS,bT,bU,bV⟩:=zc4 aa.out;obtain⟨bW,bX,bY,bZ,b0,b1,b2,b3⟩:=zc4 ab.out)|(refine zL 25 14 Tryz.func25 #[.slice ap ag.length ar] ?_;(with_reducible refine(laws_toPendingS.calls k _ _ ag az _ ?s1 ?s2 A4.out).mono ?_);(case s1=>exact Kd.qD a4.out zb);(case s2=>exact a5.out);rintro e cU ⟨cQ,rfl,aj,hb⟩;refine⟨_,rfl,?_⟩;replace ai:=zz (Kd.S_below (by(with_reducible repeat(first|apply Kd.S_alloc|apply Kd.S_drewN|apply Kd.S_drew));exact(Kd.S_mono (Kd.S_far (p:=⟨ad,1,none⟩) (Kd.S_types ai.out aa.out yd_) (fun _ hk=>hk.2) (.slice aF ay.length aG)) (fun _ h_=>h_.1))) hb);replace ak:=zz (Kd.S_below (by(with_reducible repeat(first|apply Kd.S_alloc|apply Kd.S_drewN|apply Kd.S_drew));exact(Kd.S_mono (Kd.S_far (p:=⟨ad,1,none⟩) (Kd.S_types ak.out aa.out yd_) (fun _ hk=>hk.2) (.slice aF ay.length aG)) (fun _ h_=>h_.1))) hb);have aC:=zz (Kd.S_lower aj (qE zb));replace ab:=zz (qY (g:=aB) (o:= .cells #[.slice al ae.length am,.slice an af.length ao,.slice ap ag.length ar,.slice au ah.length av] 27 (0,0)) (yP ab.out) hb);replace ac:=zz (qY (g:=aw) (o:= .cells #[.slice none 0 0,.slice none 0 0,.slice none 0 0,.slice none 0 0] 39 (0,0)) (yP ac.out) hb);replace aa:=zz (qY (g:=ad) (o:= .cells #[.slice aD ax.length aE,.slice aF ay.length aG,.slice none 0 0,.slice none 0 0] 39 (0,0)) (yP aa.out) hb);replace HB:=zz (zv zb hb);(try clear hb);(try clear hk);(try clear aj);obtain⟨aH,aI,bi⟩:=Kd.S_slice aC.out;subst bi;obtain⟨b4,b5,b6,b7,b8,b9,ca,cb⟩:=zc4 aa.out;obtain⟨cc,cd,ce,cf,cg,ch,ci,cj⟩:=zc4 ab.out)|(refine zL 26 18 Tryz.func26 #[.slice au ah.length av] ?_;(with_reducible refine(laws_toNextS.calls k _ _ ah aA _ ?s1 ?s2 A5.out).mono ?_);(case s1=>exact Kd.qD a6.out zb);(case s2=>exact a7.out);rintro e cV ⟨cR,rfl,aj,hb⟩;refine⟨_,rfl,?_⟩;replace ai:=zz (Kd.S_below (by(with_reducible repeat(first|apply Kd.S_alloc|apply Kd.S_drewN|apply Kd.S_drew));exact(Kd.S_mono (Kd.S_far (p:=⟨ad,2,none⟩) (Kd.S_types ai.out aa.out yd_) (fun _ hk=>hk.2) (.slice aH az.length aI)) (fun _ h_=>h_.1))) hb);replace ak:=zz (Kd.S_below (by(with_reducible repeat(first|apply Kd.S_alloc|apply Kd.S_drewN|apply Kd.S_drew));exact(Kd.S_mono (Kd.S_far (p:=⟨ad,2,none⟩) (Kd.S_types ak.out aa.out yd_) (fun _ hk=>hk.2) (.slice aH az.length aI)) (fun _ h_=>h_.1))) hb);replace aC:=zz (Kd.S_below (by(with_reducible repeat(first|apply Kd.S_alloc|apply Kd.S_drewN|apply Kd.S_drew));exact(Kd.S_mono (Kd.S_far (p:=⟨ad,2,none⟩) (Kd.S_types aC.out aa.out yd_) (fun _ hk=>hk.2) (.slice aH az.length aI)) (fun _ h_=>h_.1))) hb);have aZ:=zz (Kd.qU aj (qE zb));replace ab:=zz (qY (g:=aB) (o:= .cells #[.slice al ae.length am,.slice an af.length ao,.slice ap ag.length ar,.slice au ah.length av] 27 (0,0)) (yP ab.out) hb);replace ac:=zz (qY (g:=aw) (o:= .cells #[.slice none 0 0,.slice none 0 0,.slice none 0 0,.slice none 0 0] 39 (0,0)) (yP ac.out) hb);replace aa:=zz (qY (g:=ad) (o:= .cells #[.slice aD ax.length aE,.slice aF ay.length aG,.slice aH az.length aI,.slice none 0 0] 39 (0,0)) (yP aa.out) hb);replace HB:=zz (zv zb hb);(try clear hb);(try clear hk);(try clear aj);obtain⟨aJ,aK,bj⟩:=Kd.qW aZ.out;subst bj;obtain⟨ck,cm,cn,co,cp,cq,cr,cu⟩:=zc4 aa.out;obtain⟨cv,cw,cx,cy,cz,cA,cB,cC⟩:=zc4 ac.out))
 refine bodyPost_ret (results_cell_row rfl _ _ aw 39 #[.slice aD ax.length aE,.slice aF ay.length aG,.slice aH az.length aI,.slice aJ aA.length aK] (0,0) _ rfl (yP ac.out) Tryz.underlying39 rfl zk) rfl ?_;exact⟨_,_,_,_,ze,yS (Kd.S_far (p:=⟨ad,3,none⟩) (Kd.S_types (Kd.S_types ai.out aa.out yd_) ac.out yd_) (fun _ hk=>hk.1.2) (.slice aJ aA.length aK)),yS (Kd.S_far (p:=⟨ad,3,none⟩) (Kd.S_types (Kd.S_types ak.out aa.out yd_) ac.out yd_) (fun _ hk=>hk.1.2) (.slice aJ aA.length aK)),yS (Kd.S_far (p:=⟨ad,3,none⟩) (Kd.S_types (Kd.S_types aC.out aa.out yd_) ac.out yd_) (fun _ hk=>hk.1.2) (.slice aJ aA.length aK)),yV (Kd.qX (p:=⟨ad,3,none⟩) (Kd.R_types (Kd.R_types aZ.out aa.out yd_) ac.out yd_) (fun _ hk=>hk.1.2) (.slice aJ aA.length aK)),zb⟩
def laws_eqEntry.f(aa:ByteArray)(ab:Int)(ac:ByteArray)(ad:Bool)(ae:ByteArray)(af:Int)(ag:ByteArray)(ah:Bool):Option (Bool):=if aa.toList=ae.toList then(if ab=af then(if ac.toList=ag.toList then(if(ad !=ah)=true then(some false) else(some true)) else(some false)) else(some false)) else(some false)
theorem laws_eqEntry.calls(ak:ByteArray)(al:Int)(am:ByteArray)(ae:Bool)(an:ByteArray)(ao:Int)(ap:ByteArray)(af:Bool)(r:Bool)(w:World)(H:laws_eqEntry.f ak al am ae an ao ap af=some r):
 Calls Tryz.prog 31 #[.agg #[.string ak,.int .i64 al,.string am,.bool ae],.agg #[.string an,.int .i64 ao,.string ap,.bool af]] w fun e w'=>e= .returned (.bool r)/\Below w.heap.size w w':=by
 have aL:=Tryz.underlying63;have HB:=yB w;unfold laws_eqEntry.f at H;replace HB:=HB.out;have HW:=yB w;go_enter Tryz.func31,Tryz.ntmps31;refine yCn H ?_ ?_<;>clear H<;>intro c3 H
 ·obtain⟨aC,aD⟩:=zw c3;obtain rfl:=zi H;go_wp2_with(first|(refine zN 2 ?_;(try(refine z4 ?_;dsimp only));refine zX 2 63 #[.string ak,.int .i64 al,.string am,.bool ae] ?_;intro ar hg av hbox hb;have hst:=zv HB hb;clear hg hb HB;replace HW:=zz (zv HW.out hst);obtain⟨aa,ab,ac,ad⟩:=zx4 hbox;have HB:=Below.refl av.heap.size av;clear hbox hst)|(refine zN 3 ?_;(try(refine z4 ?_;dsimp only));refine zX 3 63 #[.string an,.int .i64 ao,.string ap,.bool af] ?_;intro au hg aw hbox hb;have hst:=zv HB hb;clear hg hb HB;replace HW:=zz (zv HW.out hst);replace aa:=qG aa hst;replace ab:=qG ab hst;replace ac:=qG ac hst;replace ad:=qG ad hst;obtain⟨ag,ah,ai,aj⟩:=zx4 hbox;have HB:=Below.refl aw.heap.size aw;clear hbox hst))
  go_ret;exact⟨ze,zv HW.out HB⟩
 obtain⟨aC,aD⟩:=zq c3;clear c3;refine yCn H ?_ ?_<;>clear H<;>intro c4 H
 ·obtain⟨aE,aF⟩:=zw c4;obtain rfl:=zi H;go_wp2_with(first|(refine zN 2 ?_;(try(refine z4 ?_;dsimp only));refine zX 2 63 #[.string ak,.int .i64 al,.string am,.bool ae] ?_;intro ar hg ax hbox hb;have hst:=zv HB hb;clear hg hb HB;replace HW:=zz (zv HW.out hst);obtain⟨aa,ab,ac,ad⟩:=zx4 hbox;have HB:=Below.refl ax.heap.size ax;clear hbox hst)|(refine zN 3 ?_;(try(refine z4 ?_;dsimp only));refine zX 3 63 #[.string an,.int .i64 ao,.string ap,.bool af] ?_;intro au hg ay hbox hb;have hst:=zv HB hb;clear hg hb HB;replace HW:=zz (zv HW.out hst);replace aa:=qG aa hst;replace ab:=qG ab hst;replace ac:=qG ac hst;replace ad:=qG ad hst;obtain⟨ag,ah,ai,aj⟩:=zx4 hbox;have HB:=Below.refl ay.heap.size ay;clear hbox hst))
  go_ret;exact⟨ze,zv HW.out HB⟩
 obtain⟨aE,aF⟩:=zq c4;clear c4;refine yCn H ?_ ?_<;>clear H<;>intro c5 H
 ·obtain⟨aG,aH⟩:=zw c5;obtain rfl:=zi H;go_wp2_with(first|(refine zN 2 ?_;(try(refine z4 ?_;dsimp only));refine zX 2 63 #[.string ak,.int .i64 al,.string am,.bool ae] ?_;intro ar hg az hbox hb;have hst:=zv HB hb;clear hg hb HB;replace HW:=zz (zv HW.out hst);obtain⟨aa,ab,ac,ad⟩:=zx4 hbox;have HB:=Below.refl az.heap.size az;clear hbox hst)|(refine zN 3 ?_;(try(refine z4 ?_;dsimp only));refine zX 3 63 #[.string an,.int .i64 ao,.string ap,.bool af] ?_;intro au hg aA hbox hb;have hst:=zv HB hb;clear hg hb HB;replace HW:=zz (zv HW.out hst);replace aa:=qG aa hst;replace ab:=qG ab hst;replace ac:=qG ac hst;replace ad:=qG ad hst;obtain⟨ag,ah,ai,aj⟩:=zx4 hbox;have HB:=Below.refl aA.heap.size aA;clear hbox hst))
  go_ret;exact⟨ze,zv HW.out HB⟩
 obtain⟨aG,aH⟩:=zq c5;clear c5;refine yCn H ?_ ?_<;>clear H<;>intro c6 H
 ·have aI:(ae !=af)=false:=by simpa using c6
  (try(have aJ:decide (ae=af)=true:=by simpa using c6))
  (try(have aK:(ae==af)=true:=by simpa using c6))
  clear c6;obtain rfl:=zi H;go_wp2_with(first|(refine zN 2 ?_;(try(refine z4 ?_;dsimp only));refine zX 2 63 #[.string ak,.int .i64 al,.string am,.bool ae] ?_;intro ar hg w9 hbox hb;have hst:=zv HB hb;clear hg hb HB;replace HW:=zz (zv HW.out hst);obtain⟨aa,ab,ac,ad⟩:=zx4 hbox;have HB:=Below.refl w9.heap.size w9;clear hbox hst)|(refine zN 3 ?_;(try(refine z4 ?_;dsimp only));refine zX 3 63 #[.string an,.int .i64 ao,.string ap,.bool af] ?_;intro au hg aB hbox hb;have hst:=zv HB hb;clear hg hb HB;replace HW:=zz (zv HW.out hst);replace aa:=qG aa hst;replace ab:=qG ab hst;replace ac:=qG ac hst;replace ad:=qG ad hst;obtain⟨ag,ah,ai,aj⟩:=zx4 hbox;have HB:=Below.refl aB.heap.size aB;clear hbox hst))
  go_ret;exact⟨ze,zv HW.out HB⟩
 have aI:(ae !=af)=true:=c6
 (try(have aJ:decide (ae=af)=false:=by simpa using c6))
 (try(have aK:(ae==af)=false:=by simpa using c6))
 (try(have aM:¬(ae=af):=by simpa using c6))
 clear c6;obtain rfl:=zi H;go_wp2_with(first|(refine zN 2 ?_;(try(refine z4 ?_;dsimp only));refine zX 2 63 #[.string ak,.int .i64 al,.string am,.bool ae] ?_;intro ar hg w7 hbox hb;have hst:=zv HB hb;clear hg hb HB;replace HW:=zz (zv HW.out hst);obtain⟨aa,ab,ac,ad⟩:=zx4 hbox;have HB:=Below.refl w7.heap.size w7;clear hbox hst)|(refine zN 3 ?_;(try(refine z4 ?_;dsimp only));refine zX 3 63 #[.string an,.int .i64 ao,.string ap,.bool af] ?_;intro au hg w8 hbox hb;have hst:=zv HB hb;clear hg hb HB;replace HW:=zz (zv HW.out hst);replace aa:=qG aa hst;replace ab:=qG ab hst;replace ac:=qG ac hst;replace ad:=qG ad hst;obtain⟨ag,ah,ai,aj⟩:=zx4 hbox;have HB:=Below.refl w8.heap.size w8;clear hbox hst))
 go_ret;exact⟨ze,zv HW.out HB⟩
def laws_eqEntryS.l0:Nat->List (S63)->List (S63)->Int->Option (Bool)
 |0,_,_,_=>none
 |k+1,x0,x1,x5=>if x5<(x0.length:Int) then(if 0<=x5 then(if x5<(x1.length:Int) then((laws_eqEntry.f ((qA x0 x5).f0) ((qA x0 x5).f1) ((qA x0 x5).f2) ((qA x0 x5).f3) ((qA x1 x5).f0) ((qA x1 x5).f1) ((qA x1 x5).f2) ((qA x1 x5).f3)).bind fun aa=>(if aa=true then(laws_eqEntryS.l0 k x0 x1 (wrap64 (x5+1))) else(some false))) else(none)) else(none)) else(some true)
def laws_eqEntryS.f(k:Nat)(l0:List (S63))(l1:List (S63)):Option (Bool):=if(l0.length:Int)=(l1.length:Int) then(laws_eqEntryS.l0 k l0 l1 0) else(some false)
theorem laws_eqEntryS.calls(k:Nat)(A0:Option Addr)(c0:Nat)(l0:List (S63))(A1:Option Addr)(c1:Nat)(l1:List (S63))(r:Bool)(w:World)(al:Kd.C k63 w A0 l0.length l0)(am:l0.length<=c0)(an:Kd.C k63 w A1 l1.length l1)(ao:l1.length<=c1)(H:laws_eqEntryS.f k l0 l1=some r):
 Calls Tryz.prog 10 #[.slice A0 l0.length c0,.slice A1 l1.length c1] w fun e w'=>e= .returned (.bool r)/\Below w.heap.size w w':=by
 have aD:=Tryz.underlying63;have ax:=zz al;have aM:=zz am;clear al am;have ay:=zz an;have aN:=zz ao;clear an ao;have HB:=yB w;unfold laws_eqEntryS.f at H;replace HB:=HB.out;have HW:=yB w;go_enter Tryz.func10,Tryz.ntmps10;refine yCn H ?_ ?_<;>clear H<;>intro c3 H
 ·obtain⟨ap,ar⟩:=zw c3;have au:(l0.length==l1.length)=false:=by first|simpa using c3|(simp at c3⊢;omega)
  obtain rfl:=zi H;exact yR
 obtain⟨ap,ar⟩:=zq c3;have au:(l0.length==l1.length)=true:=by first|simpa using c3|(simp at c3⊢;omega)
 clear c3;go_wp2_with(fail)
 go_loopg[5] k (fun kq v5 w'=>∃(aa:Int),v5= .int .i64 aa/\qB (laws_eqEntryS.l0 kq l0 l1 aa=some r)/\qB (kq<=k)/\qB (Below w.heap.size w w'))
 case atStart=>exact⟨(0),zr,⟨H⟩,⟨Nat.le_refl _⟩,⟨HB⟩⟩
 case round=>
  clear H HB;obtain⟨aa,rfl,H,aj,HB⟩:=hrel;replace HB:=HB.out;replace H:=H.out;have ak:=yB w;cases gk with
  |zero=>simp[laws_eqEntryS.l0] at H
  |succ az=>
   simp only[laws_eqEntryS.l0] at H;refine yDn H ?_ ?_<;>clear H<;>intro aE H
   ·obtain rfl:=zi H;exact yR
   go_wp2_with(fail)
   try simp only[Act.put,List.setIfInBounds_toArray,List.set_cons_zero,List.set_cons_succ]
   refine qT (C:=fun W_=>Below w.heap.size w W_) zk zk (qK HB) ?_;replace H:=yAD H;obtain⟨aF,H⟩:=H;have aG:=yt (0<=(aa:Int));have aH:=yt ((aa:Int)<(l0.length:Int));obtain⟨aB,av,ab,ac,ad,ae⟩:=vF ax.out aa z2 z2;cases av;replace ab:=qL ab;replace ac:=qL ac;replace ad:=qL ad;replace ae:=qL ae;replace H:=yAD H;obtain⟨aI,H⟩:=H;have aJ:=yt (0<=(aa:Int));have aK:=yt ((aa:Int)<(l1.length:Int));obtain⟨aC,aw,af,ag,ah,ai⟩:=vF ay.out aa z2 z2;cases aw;replace af:=qL af;replace ag:=qL ag;replace ah:=qL ah;replace ai:=qL ai;replace H:=yf H;obtain⟨aL,A8,H⟩:=H;repeat(first|go_big_quiet_skip|(go_big_quiet_want;go_big_quiet_op;first|go_big_quiet_on|(apply zU;intro W hW;(first|with_reducible rfl|(go_at_call 31;exact callB (laws_eqEntry.calls _ _ _ _ _ _ _ _ _ _ A8.out) hW)|(go_simp;with_reducible rfl));go_big_quiet_on)))
   clear HB;refine zW fun aA (HB:Below w.heap.size w aA)=>?_;refine yT H ?_ ?_<;>clear H<;>rintro rfl H
   ·go_wp2_with(fail)
    go_roundg az
    case measure=>exact yM1 aj
    case rel=>exact⟨(wrap64 (aa+1)),zr,⟨H⟩,⟨yM1 aj⟩,⟨zv ak.out HB⟩⟩
   obtain rfl:=zi H;exact yR
def laws_eqStringS.l0:Nat->List ByteArray->List ByteArray->Int->Option (Bool)
 |0,_,_,_=>none
 |k+1,x0,x1,x5=>if x5<(x0.length:Int) then(if 0<=x5 then(if x5<(x1.length:Int) then(if(rdOf ByteArray.empty x0 x5).toList=(rdOf ByteArray.empty x1 x5).toList then(laws_eqStringS.l0 k x0 x1 (wrap64 (x5+1))) else(some false)) else(none)) else(none)) else(some true)
def laws_eqStringS.f(k:Nat)(l0:List ByteArray)(l1:List ByteArray):Option (Bool):=if(l0.length:Int)=(l1.length:Int) then(laws_eqStringS.l0 k l0 l1 0) else(some false)
theorem laws_eqStringS.calls(k:Nat)(A0:Option Addr)(c0:Nat)(l0:List ByteArray)(A1:Option Addr)(c1:Nat)(l1:List ByteArray)(r:Bool)(w:World)(aj:Kd.C Kd.string w A0 l0.length l0)(ak:l0.length<=c0)(al:Kd.C Kd.string w A1 l1.length l1)(am:l1.length<=c1)(H:laws_eqStringS.f k l0 l1=some r):
 Calls Tryz.prog 12 #[.slice A0 l0.length c0,.slice A1 l1.length c1] w fun e w'=>e= .returned (.bool r)/\Below w.heap.size w w':=by
 have ax:=zz aj;have aF:=zz ak;clear aj ak;have ay:=zz al;have aG:=zz am;clear al am;have HB:=yB w;unfold laws_eqStringS.f at H;replace HB:=HB.out;have HW:=yB w;go_enter Tryz.func12,Tryz.ntmps12;refine yCn H ?_ ?_<;>clear H<;>intro c3 H
 ·obtain⟨an,ao⟩:=zw c3;have ap:(l0.length==l1.length)=false:=by first|simpa using c3|(simp at c3⊢;omega)
  obtain rfl:=zi H;exact yR
 obtain⟨an,ao⟩:=zq c3;have ap:(l0.length==l1.length)=true:=by first|simpa using c3|(simp at c3⊢;omega)
 clear c3;go_wp2_with(fail)
 go_loopg[5] k (fun kq v5 w'=>∃(aa:Int),v5= .int .i64 aa/\qB (laws_eqStringS.l0 kq l0 l1 aa=some r)/\qB (kq<=k)/\qB (Below w.heap.size w w'))
 case atStart=>exact⟨(0),zr,⟨H⟩,⟨Nat.le_refl _⟩,⟨HB⟩⟩
 case round=>
  clear H HB;obtain⟨aa,rfl,H,ah,HB⟩:=hrel;replace HB:=HB.out;replace H:=H.out;have ai:=yB w;cases gk with
  |zero=>simp[laws_eqStringS.l0] at H
  |succ az=>
   simp only[laws_eqStringS.l0] at H;refine yDn H ?_ ?_<;>clear H<;>intro aC H
   ·obtain rfl:=zi H;exact yR
   go_wp2_with(fail)
   try simp only[Act.put,List.setIfInBounds_toArray,List.set_cons_zero,List.set_cons_succ]
   refine qT (C:=fun W_=>Below w.heap.size w W_) zk zk (qK HB) ?_;replace H:=yAD H;obtain⟨aD,H⟩:=H;have ad:0<=(aa:Int):=z2;have ae:(aa:Int)<(l0.length:Int):=z2;obtain⟨aA,ar,ab⟩:=Kd.vA ax.out aa ad ae;cases ar;replace ab:=qL ab;replace ad:=eq_true ad;replace ae:=eq_true ae;replace H:=yAD H;obtain⟨aE,H⟩:=H;have af:0<=(aa:Int):=z2;have ag:(aa:Int)<(l1.length:Int):=z2;obtain⟨aB,au,ac⟩:=Kd.vA ay.out aa af ag;cases au;replace ac:=qL ac;replace af:=eq_true af;replace ag:=eq_true ag;refine yCn H ?_ ?_<;>clear H<;>intro c8 H
   ·obtain⟨av,aw⟩:=zw c8;obtain rfl:=zi H;exact yQ
   obtain⟨av,aw⟩:=zq c8;clear c8;repeat(first|go_big_quiet_skip|(go_big_quiet_want;go_big_quiet_op;first|go_big_quiet_on|(refine zE ?_;go_big_quiet_on)))
   clear HB;refine zW fun w9 (HB:Below w.heap.size w w9)=>?_;go_wp2_with(fail)
   go_roundg az
   case measure=>exact yM1 ah
   case rel=>exact⟨(wrap64 (aa+1)),zr,⟨H⟩,⟨yM1 ah⟩,⟨zv ai.out HB⟩⟩
def laws_eqItem.f(k:Nat)(aa:ByteArray)(ab:ByteArray)(ac:List ByteArray)(ad:ByteArray)(ae:List (S63))(af:ByteArray)(ag:ByteArray)(ah:List ByteArray)(ai:ByteArray)(aj:List (S63)):Option (Bool):=if aa.toList=af.toList then(if ab.toList=ag.toList then((laws_eqStringS.f k ac ah).bind fun ak=>(if ak=true then(if ad.toList=ai.toList then((laws_eqEntryS.f k ae aj).bind fun al=>(if al=true then(some true) else(some false))) else(some false)) else(some false))) else(some false)) else(some false)
theorem laws_eqItem.calls(k:Nat)(an:ByteArray)(ao:ByteArray)(ap:Option Addr)(ar:Nat)(aj:List ByteArray)(au:ByteArray)(av:Option Addr)(aw:Nat)(ak:List (S63))(ax:ByteArray)(ay:ByteArray)(az:Option Addr)(aA:Nat)(al:List ByteArray)(aB:ByteArray)(aC:Option Addr)(aD:Nat)(am:List (S63))(r:Bool)(w:World)(aJ:Kd.C Kd.string w ap aj.length aj)(aK:aj.length<=ar)(aL:Kd.C k63 w av ak.length ak)(aM:ak.length<=aw)(aN:Kd.C Kd.string w az al.length al)(aO:al.length<=aA)(aP:Kd.C k63 w aC am.length am)(aQ:am.length<=aD)(H:laws_eqItem.f k an ao aj au ak ax ay al aB am=some r):
 Calls Tryz.prog 65 #[.agg #[.string an,.string ao,.slice ap aj.length ar,.string au,.slice av ak.length aw],.agg #[.string ax,.string ay,.slice az al.length aA,.string aB,.slice aC am.length aD]] w fun e w'=>e= .returned (.bool r)/\Below w.heap.size w w':=by
 have a9:=Tryz.underlying61;have ah:=zz aJ;have aV:=zz aK;clear aJ aK;have aa:=zz aL;have aR:=zz aM;clear aL aM;have ai:=zz aN;have aW:=zz aO;clear aN aO;have ab:=zz aP;have aS:=zz aQ;clear aP aQ;have HB:=yB w;unfold laws_eqItem.f at H;replace HB:=HB.out;have HW:=yB w;go_enter Tryz.func65,Tryz.ntmps65;refine yCn H ?_ ?_<;>clear H<;>intro c3 H
 ·obtain⟨a3,a4⟩:=zw c3;obtain rfl:=zi H;go_wp2_with(first|(refine zN 2 ?_;(try(refine z4 ?_;dsimp only));refine zX 2 61 #[.string an,.string ao,.slice ap aj.length ar,.string au,.slice av ak.length aw] ?_;intro aT hg aX hbox hb;have hst:=zv HB hb;clear hg hb HB;replace HW:=zz (zv HW.out hst);replace ah:=zz (Kd.qD ah.out hst);replace aa:=zz (Kd.qD aa.out hst);replace ai:=zz (Kd.qD ai.out hst);replace ab:=zz (Kd.qD ab.out hst);obtain⟨ac,ad,ae,af,ag⟩:=zx5 hbox;have HB:=Below.refl aX.heap.size aX;clear hbox hst)|(refine zN 3 ?_;(try(refine z4 ?_;dsimp only));refine zX 3 61 #[.string ax,.string ay,.slice az al.length aA,.string aB,.slice aC am.length aD] ?_;intro aU hg aY hbox hb;have hst:=zv HB hb;clear hg hb HB;replace HW:=zz (zv HW.out hst);replace ah:=zz (Kd.qD ah.out hst);replace aa:=zz (Kd.qD aa.out hst);replace ai:=zz (Kd.qD ai.out hst);replace ab:=zz (Kd.qD ab.out hst);replace ac:=qG ac hst;replace ad:=qG ad hst;replace ae:=qG ae hst;replace af:=qG af hst;replace ag:=qG ag hst;obtain⟨aE,aF,aG,aH,aI⟩:=zx5 hbox;have HB:=Below.refl aY.heap.size aY;clear hbox hst))
  go_ret;exact⟨ze,zv HW.out HB⟩
 obtain⟨a3,a4⟩:=zq c3;clear c3;refine yCn H ?_ ?_<;>clear H<;>intro c4 H
 ·obtain⟨a5,a6⟩:=zw c4;obtain rfl:=zi H;go_wp2_with(first|(refine zN 2 ?_;(try(refine z4 ?_;dsimp only));refine zX 2 61 #[.string an,.string ao,.slice ap aj.length ar,.string au,.slice av ak.length aw] ?_;intro aT hg aZ hbox hb;have hst:=zv HB hb;clear hg hb HB;replace HW:=zz (zv HW.out hst);replace ah:=zz (Kd.qD ah.out hst);replace aa:=zz (Kd.qD aa.out hst);replace ai:=zz (Kd.qD ai.out hst);replace ab:=zz (Kd.qD ab.out hst);obtain⟨ac,ad,ae,af,ag⟩:=zx5 hbox;have HB:=Below.refl aZ.heap.size aZ;clear hbox hst)|(refine zN 3 ?_;(try(refine z4 ?_;dsimp only));refine zX 3 61 #[.string ax,.string ay,.slice az al.length aA,.string aB,.slice aC am.length aD] ?_;intro aU hg a0 hbox hb;have hst:=zv HB hb;clear hg hb HB;replace HW:=zz (zv HW.out hst);replace ah:=zz (Kd.qD ah.out hst);replace aa:=zz (Kd.qD aa.out hst);replace ai:=zz (Kd.qD ai.out hst);replace ab:=zz (Kd.qD ab.out hst);replace ac:=qG ac hst;replace ad:=qG ad hst;replace ae:=qG ae hst;replace af:=qG af hst;replace ag:=qG ag hst;obtain⟨aE,aF,aG,aH,aI⟩:=zx5 hbox;have HB:=Below.refl a0.heap.size a0;clear hbox hst))
  go_ret;exact⟨ze,zv HW.out HB⟩
 obtain⟨a5,a6⟩:=zq c4;clear c4;replace H:=yf H;obtain⟨ba,A5,H⟩:=H;go_wp2_with(first|(refine zN 2 ?_;(try(refine z4 ?_;dsimp only));refine zX 2 61 #[.string an,.string ao,.slice ap aj.length ar,.string au,.slice av ak.length aw] ?_;intro aT hg w9 hbox hb;have hst:=zv HB hb;clear hg hb HB;replace HW:=zz (zv HW.out hst);replace ah:=zz (Kd.qD ah.out hst);replace aa:=zz (Kd.qD aa.out hst);replace ai:=zz (Kd.qD ai.out hst);replace ab:=zz (Kd.qD ab.out hst);obtain⟨ac,ad,ae,af,ag⟩:=zx5 hbox;have HB:=Below.refl w9.heap.size w9;clear hbox hst)|(refine zN 3 ?_;(try(refine z4 ?_;dsimp only));refine zX 3 61 #[.string ax,.string ay,.slice az al.length aA,.string aB,.slice aC am.length aD] ?_;intro aU hg a1 hbox hb;have hst:=zv HB hb;clear hg hb HB;replace HW:=zz (zv HW.out hst);replace ah:=zz (Kd.qD ah.out hst);replace aa:=zz (Kd.qD aa.out hst);replace ai:=zz (Kd.qD ai.out hst);replace ab:=zz (Kd.qD ab.out hst);replace ac:=qG ac hst;replace ad:=qG ad hst;replace ae:=qG ae hst;replace af:=qG af hst;replace ag:=qG ag hst;obtain⟨aE,aF,aG,aH,aI⟩:=zx5 hbox;have HB:=Below.refl a1.heap.size a1;clear hbox hst))
 refine(laws_eqStringS.calls k _ _ _ _ _ _ _ _ (Kd.qD ah.out HB) aV.out (Kd.qD ai.out HB) aW.out A5.out).mono ?_;rintro e bc ⟨rfl,hb⟩;replace HB:=zv HB hb;clear hb;refine yF H ?_ ?_<;>clear H<;>rintro rfl H
 ·obtain rfl:=zi H;exact yR
 refine yCn H ?_ ?_<;>clear H<;>intro c7 H
 ·obtain⟨a7,a8⟩:=zw c7;obtain rfl:=zi H;exact yR
 obtain⟨a7,a8⟩:=zq c7;clear c7;replace H:=yf H;obtain⟨bb,a2,H⟩:=H;refine yT H ?_ ?_<;>clear H<;>rintro rfl H
 ·go_wp2_with(fail)
  refine(laws_eqEntryS.calls k _ _ _ _ _ _ _ _ (Kd.qD aa.out HB) aR.out (Kd.qD ab.out HB) aS.out a2.out).mono ?_;rintro e bd ⟨rfl,hb⟩;replace HB:=zv HB hb;clear hb;obtain rfl:=zi H;exact yR
 go_wp2_with(fail)
 refine(laws_eqEntryS.calls k _ _ _ _ _ _ _ _ (Kd.qD aa.out HB) aR.out (Kd.qD ab.out HB) aS.out a2.out).mono ?_;rintro e be ⟨rfl,hb⟩;replace HB:=zv HB hb;clear hb;obtain rfl:=zi H;exact yR
def laws_eqItemS.l0:Nat->List (S61)->List (S61)->Int->Option (Bool)
 |0,_,_,_=>none
 |k+1,x0,x1,x5=>if x5<(x0.length:Int) then(if 0<=x5 then(if x5<(x1.length:Int) then((laws_eqItem.f k ((qC x0 x5).f0) ((qC x0 x5).f1) ((qC x0 x5).f2) ((qC x0 x5).f3) ((qC x0 x5).f4) ((qC x1 x5).f0) ((qC x1 x5).f1) ((qC x1 x5).f2) ((qC x1 x5).f3) ((qC x1 x5).f4)).bind fun aa=>(if aa=true then(laws_eqItemS.l0 k x0 x1 (wrap64 (x5+1))) else(some false))) else(none)) else(none)) else(some true)
def laws_eqItemS.f(k:Nat)(l0:List (S61))(l1:List (S61)):Option (Bool):=if(l0.length:Int)=(l1.length:Int) then(laws_eqItemS.l0 k l0 l1 0) else(some false)
theorem laws_eqItemS.calls(k:Nat)(A0:Option Addr)(c0:Nat)(l0:List (S61))(A1:Option Addr)(c1:Nat)(l1:List (S61))(r:Bool)(w:World)(aG:Kd.C k61 w A0 l0.length l0)(aH:l0.length<=c0)(aI:Kd.C k61 w A1 l1.length l1)(aJ:l1.length<=c1)(H:laws_eqItemS.f k l0 l1=some r):
 Calls Tryz.prog 32 #[.slice A0 l0.length c0,.slice A1 l1.length c1] w fun e w'=>e= .returned (.bool r)/\Below w.heap.size w w':=by
 have a3:=Tryz.underlying61;have aQ:=zz aG;have bc:=zz aH;clear aG aH;have aR:=zz aI;have bd:=zz aJ;clear aI aJ;have HB:=yB w;unfold laws_eqItemS.f at H;replace HB:=HB.out;have HW:=yB w;go_enter Tryz.func32,Tryz.ntmps32;refine yCn H ?_ ?_<;>clear H<;>intro c3 H
 ·obtain⟨aL,aM⟩:=zw c3;have aN:(l0.length==l1.length)=false:=by first|simpa using c3|(simp at c3⊢;omega)
  obtain rfl:=zi H;exact yR
 obtain⟨aL,aM⟩:=zq c3;have aN:(l0.length==l1.length)=true:=by first|simpa using c3|(simp at c3⊢;omega)
 clear c3;go_wp2_with(fail)
 go_loopg[5] k (fun kq v5 w'=>∃(aa:Int),v5= .int .i64 aa/\qB (laws_eqItemS.l0 kq l0 l1 aa=some r)/\qB (kq<=k)/\qB (Below w.heap.size w w'))
 case atStart=>exact⟨(0),zr,⟨H⟩,⟨Nat.le_refl _⟩,⟨HB⟩⟩
 case round=>
  clear H HB;obtain⟨aa,rfl,H,aw,HB⟩:=hrel;replace HB:=HB.out;replace H:=H.out;have aF:=yB w;cases gk with
  |zero=>simp[laws_eqItemS.l0] at H
  |succ aK=>
   simp only[laws_eqItemS.l0] at H;refine yDn H ?_ ?_<;>clear H<;>intro a4 H
   ·obtain rfl:=zi H;exact yR
   go_wp2_with(fail)
   try simp only[Act.put,List.setIfInBounds_toArray,List.set_cons_zero,List.set_cons_succ]
   refine qT (C:=fun W_=>Below w.heap.size w W_) zk zk (qK HB) ?_;replace H:=yAD H;obtain⟨a5,H⟩:=H;have a6:=yt (0<=(aa:Int));have a7:=yt ((aa:Int)<(l0.length:Int));obtain⟨a1,aS,aT,aU,aV,aO,ab,ac,ad,ae,af,ag,ah,ai,aj⟩:=at_T61 aQ.out aa z2 z2;cases aO;replace ab:=qL ab;replace ac:=qL ac;replace ad:=qL ad;replace ae:=qL ae;replace af:=qL af;have ax:=zz ah;have ay:=zz ag;clear ah ag;have az:=zz aj;have aA:=zz ai;clear aj ai;replace H:=yAD H;obtain⟨a8,H⟩:=H;have a9:=yt (0<=(aa:Int));have ba:=yt ((aa:Int)<(l1.length:Int));obtain⟨a2,aW,aX,aY,aZ,aP,ak,al,am,an,ao,ap,ar,au,av⟩:=at_T61 aR.out aa z2 z2;cases aP;replace ak:=qL ak;replace al:=qL al;replace am:=qL am;replace an:=qL an;replace ao:=qL ao;have aB:=zz ar;have aC:=zz ap;clear ar ap;have aD:=zz av;have aE:=zz au;clear av au;replace H:=yf H;obtain⟨bb,A8,H⟩:=H;repeat(first|go_big_quiet_skip|(go_big_quiet_want;go_big_quiet_op;first|go_big_quiet_on|(apply zU;intro W hW;(first|with_reducible rfl|(go_at_call 65;exact callB (laws_eqItem.calls aK _ _ _ _ _ _ _ _ _ _ _ _ _ _ _ _ _ _ _ _ (Kd.qD ax.out hW) ay.out (Kd.qD az.out hW) aA.out (Kd.qD aB.out hW) aC.out (Kd.qD aD.out hW) aE.out A8.out) hW)|(go_simp;with_reducible rfl));go_big_quiet_on)))
   clear HB;refine zW fun a0 (HB:Below w.heap.size w a0)=>?_;refine yT H ?_ ?_<;>clear H<;>rintro rfl H
   ·go_wp2_with(fail)
    go_roundg aK
    case measure=>exact yM1 aw
    case rel=>exact⟨(wrap64 (aa+1)),zr,⟨H⟩,⟨yM1 aw⟩,⟨zv aF.out HB⟩⟩
   obtain rfl:=zi H;exact yR
def laws_eqGen.f(aa:Int)(ab:ByteArray)(ac:Int)(ad:ByteArray):Option (Bool):=if aa=ac then(if ab.toList=ad.toList then(some true) else(some false)) else(some false)
theorem laws_eqGen.calls(ac:Int)(ad:ByteArray)(ae:Int)(af:ByteArray)(r:Bool)(w:World)(H:laws_eqGen.f ac ad ae af=some r):
 Calls Tryz.prog 112 #[.agg #[.int .i64 ac,.string ad],.agg #[.int .i64 ae,.string af]] w fun e w'=>e= .returned (.bool r)/\Below w.heap.size w w':=by
 have ap:=Tryz.underlying101;have HB:=yB w;unfold laws_eqGen.f at H;replace HB:=HB.out;have HW:=yB w;go_enter Tryz.func112,Tryz.ntmps112;refine yCn H ?_ ?_<;>clear H<;>intro c3 H
 ·obtain⟨al,am⟩:=zw c3;obtain rfl:=zi H;go_wp2_with(first|(refine zN 2 ?_;(try(refine z4 ?_;dsimp only));refine zX 2 101 #[.int .i64 ac,.string ad] ?_;intro ai hg w9 hbox hb;have hst:=zv HB hb;clear hg hb HB;replace HW:=zz (zv HW.out hst);obtain⟨aa,ab⟩:=zx2 hbox;have HB:=Below.refl w9.heap.size w9;clear hbox hst)|(refine zN 3 ?_;(try(refine z4 ?_;dsimp only));refine zX 3 101 #[.int .i64 ae,.string af] ?_;intro aj hg ak hbox hb;have hst:=zv HB hb;clear hg hb HB;replace HW:=zz (zv HW.out hst);replace aa:=qG aa hst;replace ab:=qG ab hst;obtain⟨ag,ah⟩:=zx2 hbox;have HB:=Below.refl ak.heap.size ak;clear hbox hst))
  go_ret;exact⟨ze,zv HW.out HB⟩
 obtain⟨al,am⟩:=zq c3;clear c3;refine yCn H ?_ ?_<;>clear H<;>intro c4 H
 ·obtain⟨an,ao⟩:=zw c4;obtain rfl:=zi H;go_wp2_with(first|(refine zN 2 ?_;(try(refine z4 ?_;dsimp only));refine zX 2 101 #[.int .i64 ac,.string ad] ?_;intro ai hg w7 hbox hb;have hst:=zv HB hb;clear hg hb HB;replace HW:=zz (zv HW.out hst);obtain⟨aa,ab⟩:=zx2 hbox;have HB:=Below.refl w7.heap.size w7;clear hbox hst)|(refine zN 3 ?_;(try(refine z4 ?_;dsimp only));refine zX 3 101 #[.int .i64 ae,.string af] ?_;intro aj hg w8 hbox hb;have hst:=zv HB hb;clear hg hb HB;replace HW:=zz (zv HW.out hst);replace aa:=qG aa hst;replace ab:=qG ab hst;obtain⟨ag,ah⟩:=zx2 hbox;have HB:=Below.refl w8.heap.size w8;clear hbox hst))
  go_ret;exact⟨ze,zv HW.out HB⟩
 obtain⟨an,ao⟩:=zq c4;clear c4;obtain rfl:=zi H;go_wp2_with(first|(refine zN 2 ?_;(try(refine z4 ?_;dsimp only));refine zX 2 101 #[.int .i64 ac,.string ad] ?_;intro ai hg w5 hbox hb;have hst:=zv HB hb;clear hg hb HB;replace HW:=zz (zv HW.out hst);obtain⟨aa,ab⟩:=zx2 hbox;have HB:=Below.refl w5.heap.size w5;clear hbox hst)|(refine zN 3 ?_;(try(refine z4 ?_;dsimp only));refine zX 3 101 #[.int .i64 ae,.string af] ?_;intro aj hg w6 hbox hb;have hst:=zv HB hb;clear hg hb HB;replace HW:=zz (zv HW.out hst);replace aa:=qG aa hst;replace ab:=qG ab hst;obtain⟨ag,ah⟩:=zx2 hbox;have HB:=Below.refl w6.heap.size w6;clear hbox hst))
 go_ret;exact⟨ze,zv HW.out HB⟩
def laws_eqGenS.l0:Nat->List (S101)->List (S101)->Int->Option (Bool)
 |0,_,_,_=>none
 |k+1,x0,x1,x5=>if x5<(x0.length:Int) then(if 0<=x5 then(if x5<(x1.length:Int) then((laws_eqGen.f ((qN x0 x5).f0) ((qN x0 x5).f1) ((qN x1 x5).f0) ((qN x1 x5).f1)).bind fun aa=>(if aa=true then(laws_eqGenS.l0 k x0 x1 (wrap64 (x5+1))) else(some false))) else(none)) else(none)) else(some true)
def laws_eqGenS.f(k:Nat)(l0:List (S101))(l1:List (S101)):Option (Bool):=if(l0.length:Int)=(l1.length:Int) then(laws_eqGenS.l0 k l0 l1 0) else(some false)
theorem laws_eqGenS.calls(k:Nat)(A0:Option Addr)(c0:Nat)(l0:List (S101))(A1:Option Addr)(c1:Nat)(l1:List (S101))(r:Bool)(w:World)(ah:Kd.C k101 w A0 l0.length l0)(ai:l0.length<=c0)(aj:Kd.C k101 w A1 l1.length l1)(ak:l1.length<=c1)(H:laws_eqGenS.f k l0 l1=some r):
 Calls Tryz.prog 94 #[.slice A0 l0.length c0,.slice A1 l1.length c1] w fun e w'=>e= .returned (.bool r)/\Below w.heap.size w w':=by
 have ax:=Tryz.underlying101;have ar:=zz ah;have aI:=zz ai;clear ah ai;have au:=zz aj;have aJ:=zz ak;clear aj ak;have HB:=yB w;unfold laws_eqGenS.f at H;replace HB:=HB.out;have HW:=yB w;go_enter Tryz.func94,Tryz.ntmps94;refine yCn H ?_ ?_<;>clear H<;>intro c3 H
 ·obtain⟨al,am⟩:=zw c3;have an:(l0.length==l1.length)=false:=by first|simpa using c3|(simp at c3⊢;omega)
  obtain rfl:=zi H;exact yR
 obtain⟨al,am⟩:=zq c3;have an:(l0.length==l1.length)=true:=by first|simpa using c3|(simp at c3⊢;omega)
 clear c3;go_wp2_with(fail)
 go_loopg[5] k (fun kq v5 w'=>∃(aa:Int),v5= .int .i64 aa/\qB (laws_eqGenS.l0 kq l0 l1 aa=some r)/\qB (kq<=k)/\qB (Below w.heap.size w w'))
 case atStart=>exact⟨(0),zr,⟨H⟩,⟨Nat.le_refl _⟩,⟨HB⟩⟩
 case round=>
  clear H HB;obtain⟨aa,rfl,H,af,HB⟩:=hrel;replace HB:=HB.out;replace H:=H.out;have ag:=yB w;cases gk with
  |zero=>simp[laws_eqGenS.l0] at H
  |succ av=>
   simp only[laws_eqGenS.l0] at H;refine yDn H ?_ ?_<;>clear H<;>intro aA H
   ·obtain rfl:=zi H;exact yR
   go_wp2_with(fail)
   try simp only[Act.put,List.setIfInBounds_toArray,List.set_cons_zero,List.set_cons_succ]
   refine qT (C:=fun W_=>Below w.heap.size w W_) zk zk (qK HB) ?_;replace H:=yAD H;obtain⟨aB,H⟩:=H;have aC:=yt (0<=(aa:Int));have aD:=yt ((aa:Int)<(l0.length:Int));obtain⟨ay,ao,ab,ac⟩:=at_T101 ar.out aa z2 z2;cases ao;replace ab:=qL ab;replace ac:=qL ac;replace H:=yAD H;obtain⟨aE,H⟩:=H;have aF:=yt (0<=(aa:Int));have aG:=yt ((aa:Int)<(l1.length:Int));obtain⟨az,ap,ad,ae⟩:=at_T101 au.out aa z2 z2;cases ap;replace ad:=qL ad;replace ae:=qL ae;replace H:=yf H;obtain⟨aH,A8,H⟩:=H;repeat(first|go_big_quiet_skip|(go_big_quiet_want;go_big_quiet_op;first|go_big_quiet_on|(apply zU;intro W hW;(first|with_reducible rfl|(go_at_call 112;exact callB (laws_eqGen.calls _ _ _ _ _ _ A8.out) hW)|(go_simp;with_reducible rfl));go_big_quiet_on)))
   clear HB;refine zW fun aw (HB:Below w.heap.size w aw)=>?_;refine yT H ?_ ?_<;>clear H<;>rintro rfl H
   ·go_wp2_with(fail)
    go_roundg av
    case measure=>exact yM1 af
    case rel=>exact⟨(wrap64 (aa+1)),zr,⟨H⟩,⟨yM1 af⟩,⟨zv ag.out HB⟩⟩
   obtain rfl:=zi H;exact yR
def laws_eqProfile.f(k:Nat)(aa:ByteArray)(ab:Int)(ac:List (S101))(ad:ByteArray)(ae:Int)(af:List (S101)):Option (Bool):=if aa.toList=ad.toList then(if ab=ae then((laws_eqGenS.f k ac af).bind fun ag=>(if ag=true then(some true) else(some false))) else(some false)) else(some false)
theorem laws_eqProfile.calls(k:Nat)(ah:ByteArray)(ai:Int)(aj:Option Addr)(ak:Nat)(af:List (S101))(al:ByteArray)(am:Int)(an:Option Addr)(ao:Nat)(ag:List (S101))(r:Bool)(w:World)(av:Kd.C k101 w aj af.length af)(aw:af.length<=ak)(ax:Kd.C k101 w an ag.length ag)(ay:ag.length<=ao)(H:laws_eqProfile.f k ah ai af al am ag=some r):
 Calls Tryz.prog 66 #[.agg #[.string ah,.int .i64 ai,.slice aj af.length ak],.agg #[.string al,.int .i64 am,.slice an ag.length ao]] w fun e w'=>e= .returned (.bool r)/\Below w.heap.size w w':=by
 have aL:=Tryz.underlying99;have ad:=zz av;have aB:=zz aw;clear av aw;have ae:=zz ax;have aC:=zz ay;clear ax ay;have HB:=yB w;unfold laws_eqProfile.f at H;replace HB:=HB.out;have HW:=yB w;go_enter Tryz.func66,Tryz.ntmps66;refine yCn H ?_ ?_<;>clear H<;>intro c3 H
 ·obtain⟨aH,aI⟩:=zw c3;obtain rfl:=zi H;go_wp2_with(first|(refine zN 2 ?_;(try(refine z4 ?_;dsimp only));refine zX 2 99 #[.string ah,.int .i64 ai,.slice aj af.length ak] ?_;intro az hg aD hbox hb;have hst:=zv HB hb;clear hg hb HB;replace HW:=zz (zv HW.out hst);replace ad:=zz (Kd.qD ad.out hst);replace ae:=zz (Kd.qD ae.out hst);obtain⟨aa,ab,ac⟩:=zx3 hbox;have HB:=Below.refl aD.heap.size aD;clear hbox hst)|(refine zN 3 ?_;(try(refine z4 ?_;dsimp only));refine zX 3 99 #[.string al,.int .i64 am,.slice an ag.length ao] ?_;intro aA hg aE hbox hb;have hst:=zv HB hb;clear hg hb HB;replace HW:=zz (zv HW.out hst);replace ad:=zz (Kd.qD ad.out hst);replace ae:=zz (Kd.qD ae.out hst);replace aa:=qG aa hst;replace ab:=qG ab hst;replace ac:=qG ac hst;obtain⟨ap,ar,au⟩:=zx3 hbox;have HB:=Below.refl aE.heap.size aE;clear hbox hst))
  go_ret;exact⟨ze,zv HW.out HB⟩
 obtain⟨aH,aI⟩:=zq c3;clear c3;refine yCn H ?_ ?_<;>clear H<;>intro c4 H
 ·obtain⟨aJ,aK⟩:=zw c4;obtain rfl:=zi H;go_wp2_with(first|(refine zN 2 ?_;(try(refine z4 ?_;dsimp only));refine zX 2 99 #[.string ah,.int .i64 ai,.slice aj af.length ak] ?_;intro az hg aF hbox hb;have hst:=zv HB hb;clear hg hb HB;replace HW:=zz (zv HW.out hst);replace ad:=zz (Kd.qD ad.out hst);replace ae:=zz (Kd.qD ae.out hst);obtain⟨aa,ab,ac⟩:=zx3 hbox;have HB:=Below.refl aF.heap.size aF;clear hbox hst)|(refine zN 3 ?_;(try(refine z4 ?_;dsimp only));refine zX 3 99 #[.string al,.int .i64 am,.slice an ag.length ao] ?_;intro aA hg aG hbox hb;have hst:=zv HB hb;clear hg hb HB;replace HW:=zz (zv HW.out hst);replace ad:=zz (Kd.qD ad.out hst);replace ae:=zz (Kd.qD ae.out hst);replace aa:=qG aa hst;replace ab:=qG ab hst;replace ac:=qG ac hst;obtain⟨ap,ar,au⟩:=zx3 hbox;have HB:=Below.refl aG.heap.size aG;clear hbox hst))
  go_ret;exact⟨ze,zv HW.out HB⟩
 obtain⟨aJ,aK⟩:=zq c4;clear c4;replace H:=yf H;obtain⟨aM,A5,H⟩:=H;go_wp2_with(first|(refine zN 2 ?_;(try(refine z4 ?_;dsimp only));refine zX 2 99 #[.string ah,.int .i64 ai,.slice aj af.length ak] ?_;intro az hg w8 hbox hb;have hst:=zv HB hb;clear hg hb HB;replace HW:=zz (zv HW.out hst);replace ad:=zz (Kd.qD ad.out hst);replace ae:=zz (Kd.qD ae.out hst);obtain⟨aa,ab,ac⟩:=zx3 hbox;have HB:=Below.refl w8.heap.size w8;clear hbox hst)|(refine zN 3 ?_;(try(refine z4 ?_;dsimp only));refine zX 3 99 #[.string al,.int .i64 am,.slice an ag.length ao] ?_;intro aA hg w9 hbox hb;have hst:=zv HB hb;clear hg hb HB;replace HW:=zz (zv HW.out hst);replace ad:=zz (Kd.qD ad.out hst);replace ae:=zz (Kd.qD ae.out hst);replace aa:=qG aa hst;replace ab:=qG ab hst;replace ac:=qG ac hst;obtain⟨ap,ar,au⟩:=zx3 hbox;have HB:=Below.refl w9.heap.size w9;clear hbox hst))
 refine(laws_eqGenS.calls k _ _ _ _ _ _ _ _ (Kd.qD ad.out HB) aB.out (Kd.qD ae.out HB) aC.out A5.out).mono ?_;rintro e aN ⟨rfl,hb⟩;replace HB:=zv HB hb;clear hb;refine yT H ?_ ?_<;>clear H<;>rintro rfl H
 ·obtain rfl:=zi H;exact yR
 obtain rfl:=zi H;exact yR
def laws_eqProfileS.l0:Nat->List (S99)->List (S99)->Int->Option (Bool)
 |0,_,_,_=>none
 |k+1,x0,x1,x5=>if x5<(x0.length:Int) then(if 0<=x5 then(if x5<(x1.length:Int) then((laws_eqProfile.f k ((qF x0 x5).f0) ((qF x0 x5).f1) ((qF x0 x5).f2) ((qF x1 x5).f0) ((qF x1 x5).f1) ((qF x1 x5).f2)).bind fun aa=>(if aa=true then(laws_eqProfileS.l0 k x0 x1 (wrap64 (x5+1))) else(some false))) else(none)) else(none)) else(some true)
def laws_eqProfileS.f(k:Nat)(l0:List (S99))(l1:List (S99)):Option (Bool):=if(l0.length:Int)=(l1.length:Int) then(laws_eqProfileS.l0 k l0 l1 0) else(some false)
theorem laws_eqProfileS.calls(k:Nat)(A0:Option Addr)(c0:Nat)(l0:List (S99))(A1:Option Addr)(c1:Nat)(l1:List (S99))(r:Bool)(w:World)(au:Kd.C k99 w A0 l0.length l0)(av:l0.length<=c0)(aw:Kd.C k99 w A1 l1.length l1)(ax:l1.length<=c1)(H:laws_eqProfileS.f k l0 l1=some r):
 Calls Tryz.prog 33 #[.slice A0 l0.length c0,.slice A1 l1.length c1] w fun e w'=>e= .returned (.bool r)/\Below w.heap.size w w':=by
 have aN:=Tryz.underlying99;have aE:=zz au;have aW:=zz av;clear au av;have aF:=zz aw;have aX:=zz ax;clear aw ax;have HB:=yB w;unfold laws_eqProfileS.f at H;replace HB:=HB.out;have HW:=yB w;go_enter Tryz.func33,Tryz.ntmps33;refine yCn H ?_ ?_<;>clear H<;>intro c3 H
 ·obtain⟨az,aA⟩:=zw c3;have aB:(l0.length==l1.length)=false:=by first|simpa using c3|(simp at c3⊢;omega)
  obtain rfl:=zi H;exact yR
 obtain⟨az,aA⟩:=zq c3;have aB:(l0.length==l1.length)=true:=by first|simpa using c3|(simp at c3⊢;omega)
 clear c3;go_wp2_with(fail)
 go_loopg[5] k (fun kq v5 w'=>∃(aa:Int),v5= .int .i64 aa/\qB (laws_eqProfileS.l0 kq l0 l1 aa=some r)/\qB (kq<=k)/\qB (Below w.heap.size w w'))
 case atStart=>exact⟨(0),zr,⟨H⟩,⟨Nat.le_refl _⟩,⟨HB⟩⟩
 case round=>
  clear H HB;obtain⟨aa,rfl,H,al,HB⟩:=hrel;replace HB:=HB.out;replace H:=H.out;have ar:=yB w;cases gk with
  |zero=>simp[laws_eqProfileS.l0] at H
  |succ ay=>
   simp only[laws_eqProfileS.l0] at H;refine yDn H ?_ ?_<;>clear H<;>intro aO H
   ·obtain rfl:=zi H;exact yR
   go_wp2_with(fail)
   try simp only[Act.put,List.setIfInBounds_toArray,List.set_cons_zero,List.set_cons_succ]
   refine qT (C:=fun W_=>Below w.heap.size w W_) zk zk (qK HB) ?_;replace H:=yAD H;obtain⟨aP,H⟩:=H;have aQ:=yt (0<=(aa:Int));have aR:=yt ((aa:Int)<(l0.length:Int));obtain⟨aL,aG,aH,aC,ab,ac,ad,ae,af⟩:=at_T99 aE.out aa z2 z2;cases aC;replace ab:=qL ab;replace ac:=qL ac;replace ad:=qL ad;have am:=zz af;have an:=zz ae;clear af ae;replace H:=yAD H;obtain⟨aS,H⟩:=H;have aT:=yt (0<=(aa:Int));have aU:=yt ((aa:Int)<(l1.length:Int));obtain⟨aM,aI,aJ,aD,ag,ah,ai,aj,ak⟩:=at_T99 aF.out aa z2 z2;cases aD;replace ag:=qL ag;replace ah:=qL ah;replace ai:=qL ai;have ao:=zz ak;have ap:=zz aj;clear ak aj;replace H:=yf H;obtain⟨aV,A8,H⟩:=H;repeat(first|go_big_quiet_skip|(go_big_quiet_want;go_big_quiet_op;first|go_big_quiet_on|(apply zU;intro W hW;(first|with_reducible rfl|(go_at_call 66;exact callB (laws_eqProfile.calls ay _ _ _ _ _ _ _ _ _ _ _ _ (Kd.qD am.out hW) an.out (Kd.qD ao.out hW) ap.out A8.out) hW)|(go_simp;with_reducible rfl));go_big_quiet_on)))
   clear HB;refine zW fun aK (HB:Below w.heap.size w aK)=>?_;refine yT H ?_ ?_<;>clear H<;>rintro rfl H
   ·go_wp2_with(fail)
    go_roundg ay
    case measure=>exact yM1 al
    case rel=>exact⟨(wrap64 (aa+1)),zr,⟨H⟩,⟨yM1 al⟩,⟨zv ar.out HB⟩⟩
   obtain rfl:=zi H;exact yR
def laws_eqPending.f(k:Nat)(aa:ByteArray)(ab:List (S63))(ac:ByteArray)(ad:ByteArray)(ae:List (S63))(af:ByteArray):Option (Bool):=if aa.toList=ad.toList then((laws_eqEntryS.f k ab ae).bind fun ag=>(if ag=true then(if ac.toList=af.toList then(some true) else(some false)) else(some false))) else(some false)
theorem laws_eqPending.calls(k:Nat)(ah:ByteArray)(ai:Option Addr)(aj:Nat)(af:List (S63))(ak:ByteArray)(al:ByteArray)(am:Option Addr)(an:Nat)(ag:List (S63))(ao:ByteArray)(r:Bool)(w:World)(av:Kd.C k63 w ai af.length af)(aw:af.length<=aj)(ax:Kd.C k63 w am ag.length ag)(ay:ag.length<=an)(H:laws_eqPending.f k ah af ak al ag ao=some r):
 Calls Tryz.prog 67 #[.agg #[.string ah,.slice ai af.length aj,.string ak],.agg #[.string al,.slice am ag.length an,.string ao]] w fun e w'=>e= .returned (.bool r)/\Below w.heap.size w w':=by
 have aJ:=Tryz.underlying94;have aa:=zz av;have az:=zz aw;clear av aw;have ab:=zz ax;have aA:=zz ay;clear ax ay;have HB:=yB w;unfold laws_eqPending.f at H;replace HB:=HB.out;have HW:=yB w;go_enter Tryz.func67,Tryz.ntmps67;refine yCn H ?_ ?_<;>clear H<;>intro c3 H
 ·obtain⟨aF,aG⟩:=zw c3;obtain rfl:=zi H;go_wp2_with(first|(refine zN 2 ?_;(try(refine z4 ?_;dsimp only));refine zX 2 94 #[.string ah,.slice ai af.length aj,.string ak] ?_;intro aB hg aD hbox hb;have hst:=zv HB hb;clear hg hb HB;replace HW:=zz (zv HW.out hst);replace aa:=zz (Kd.qD aa.out hst);replace ab:=zz (Kd.qD ab.out hst);obtain⟨ac,ad,ae⟩:=zx3 hbox;have HB:=Below.refl aD.heap.size aD;clear hbox hst)|(refine zN 3 ?_;(try(refine z4 ?_;dsimp only));refine zX 3 94 #[.string al,.slice am ag.length an,.string ao] ?_;intro aC hg aE hbox hb;have hst:=zv HB hb;clear hg hb HB;replace HW:=zz (zv HW.out hst);replace aa:=zz (Kd.qD aa.out hst);replace ab:=zz (Kd.qD ab.out hst);replace ac:=qG ac hst;replace ad:=qG ad hst;replace ae:=qG ae hst;obtain⟨ap,ar,au⟩:=zx3 hbox;have HB:=Below.refl aE.heap.size aE;clear hbox hst))
  go_ret;exact⟨ze,zv HW.out HB⟩
 obtain⟨aF,aG⟩:=zq c3;clear c3;replace H:=yf H;obtain⟨aK,A4,H⟩:=H;go_wp2_with(first|(refine zN 2 ?_;(try(refine z4 ?_;dsimp only));refine zX 2 94 #[.string ah,.slice ai af.length aj,.string ak] ?_;intro aB hg w8 hbox hb;have hst:=zv HB hb;clear hg hb HB;replace HW:=zz (zv HW.out hst);replace aa:=zz (Kd.qD aa.out hst);replace ab:=zz (Kd.qD ab.out hst);obtain⟨ac,ad,ae⟩:=zx3 hbox;have HB:=Below.refl w8.heap.size w8;clear hbox hst)|(refine zN 3 ?_;(try(refine z4 ?_;dsimp only));refine zX 3 94 #[.string al,.slice am ag.length an,.string ao] ?_;intro aC hg w9 hbox hb;have hst:=zv HB hb;clear hg hb HB;replace HW:=zz (zv HW.out hst);replace aa:=zz (Kd.qD aa.out hst);replace ab:=zz (Kd.qD ab.out hst);replace ac:=qG ac hst;replace ad:=qG ad hst;replace ae:=qG ae hst;obtain⟨ap,ar,au⟩:=zx3 hbox;have HB:=Below.refl w9.heap.size w9;clear hbox hst))
 refine(laws_eqEntryS.calls k _ _ _ _ _ _ _ _ (Kd.qD aa.out HB) az.out (Kd.qD ab.out HB) aA.out A4.out).mono ?_;rintro e aL ⟨rfl,hb⟩;replace HB:=zv HB hb;clear hb;refine yF H ?_ ?_<;>clear H<;>rintro rfl H
 ·obtain rfl:=zi H;exact yR
 refine yCn H ?_ ?_<;>clear H<;>intro c6 H
 ·obtain⟨aH,aI⟩:=zw c6;obtain rfl:=zi H;exact yR
 obtain⟨aH,aI⟩:=zq c6;clear c6;obtain rfl:=zi H;exact yR
def laws_eqPendingS.l0:Nat->List (S94)->List (S94)->Int->Option (Bool)
 |0,_,_,_=>none
 |k+1,x0,x1,x5=>if x5<(x0.length:Int) then(if 0<=x5 then(if x5<(x1.length:Int) then((laws_eqPending.f k ((rd_T94 x0 x5).f0) ((rd_T94 x0 x5).f1) ((rd_T94 x0 x5).f2) ((rd_T94 x1 x5).f0) ((rd_T94 x1 x5).f1) ((rd_T94 x1 x5).f2)).bind fun aa=>(if aa=true then(laws_eqPendingS.l0 k x0 x1 (wrap64 (x5+1))) else(some false))) else(none)) else(none)) else(some true)
def laws_eqPendingS.f(k:Nat)(l0:List (S94))(l1:List (S94)):Option (Bool):=if(l0.length:Int)=(l1.length:Int) then(laws_eqPendingS.l0 k l0 l1 0) else(some false)
theorem laws_eqPendingS.calls(k:Nat)(A0:Option Addr)(c0:Nat)(l0:List (S94))(A1:Option Addr)(c1:Nat)(l1:List (S94))(r:Bool)(w:World)(au:Kd.C k94 w A0 l0.length l0)(av:l0.length<=c0)(aw:Kd.C k94 w A1 l1.length l1)(ax:l1.length<=c1)(H:laws_eqPendingS.f k l0 l1=some r):
 Calls Tryz.prog 34 #[.slice A0 l0.length c0,.slice A1 l1.length c1] w fun e w'=>e= .returned (.bool r)/\Below w.heap.size w w':=by
 have aN:=Tryz.underlying94;have aE:=zz au;have aW:=zz av;clear au av;have aF:=zz aw;have aX:=zz ax;clear aw ax;have HB:=yB w;unfold laws_eqPendingS.f at H;replace HB:=HB.out;have HW:=yB w;go_enter Tryz.func34,Tryz.ntmps34;refine yCn H ?_ ?_<;>clear H<;>intro c3 H
 ·obtain⟨az,aA⟩:=zw c3;have aB:(l0.length==l1.length)=false:=by first|simpa using c3|(simp at c3⊢;omega)
  obtain rfl:=zi H;exact yR
 obtain⟨az,aA⟩:=zq c3;have aB:(l0.length==l1.length)=true:=by first|simpa using c3|(simp at c3⊢;omega)
 clear c3;go_wp2_with(fail)
 go_loopg[5] k (fun kq v5 w'=>∃(aa:Int),v5= .int .i64 aa/\qB (laws_eqPendingS.l0 kq l0 l1 aa=some r)/\qB (kq<=k)/\qB (Below w.heap.size w w'))
 case atStart=>exact⟨(0),zr,⟨H⟩,⟨Nat.le_refl _⟩,⟨HB⟩⟩
 case round=>
  clear H HB;obtain⟨aa,rfl,H,al,HB⟩:=hrel;replace HB:=HB.out;replace H:=H.out;have ar:=yB w;cases gk with
  |zero=>simp[laws_eqPendingS.l0] at H
  |succ ay=>
   simp only[laws_eqPendingS.l0] at H;refine yDn H ?_ ?_<;>clear H<;>intro aO H
   ·obtain rfl:=zi H;exact yR
   go_wp2_with(fail)
   try simp only[Act.put,List.setIfInBounds_toArray,List.set_cons_zero,List.set_cons_succ]
   refine qT (C:=fun W_=>Below w.heap.size w W_) zk zk (qK HB) ?_;replace H:=yAD H;obtain⟨aP,H⟩:=H;have aQ:=yt (0<=(aa:Int));have aR:=yt ((aa:Int)<(l0.length:Int));obtain⟨aL,aG,aH,aC,ab,ac,ad,ae,af⟩:=at_T94 aE.out aa z2 z2;cases aC;replace ab:=qL ab;replace ac:=qL ac;replace ad:=qL ad;have am:=zz af;have an:=zz ae;clear af ae;replace H:=yAD H;obtain⟨aS,H⟩:=H;have aT:=yt (0<=(aa:Int));have aU:=yt ((aa:Int)<(l1.length:Int));obtain⟨aM,aI,aJ,aD,ag,ah,ai,aj,ak⟩:=at_T94 aF.out aa z2 z2;cases aD;replace ag:=qL ag;replace ah:=qL ah;replace ai:=qL ai;have ao:=zz ak;have ap:=zz aj;clear ak aj;replace H:=yf H;obtain⟨aV,A8,H⟩:=H;repeat(first|go_big_quiet_skip|(go_big_quiet_want;go_big_quiet_op;first|go_big_quiet_on|(apply zU;intro W hW;(first|with_reducible rfl|(go_at_call 67;exact callB (laws_eqPending.calls ay _ _ _ _ _ _ _ _ _ _ _ _ (Kd.qD am.out hW) an.out (Kd.qD ao.out hW) ap.out A8.out) hW)|(go_simp;with_reducible rfl));go_big_quiet_on)))
   clear HB;refine zW fun aK (HB:Below w.heap.size w aK)=>?_;refine yT H ?_ ?_<;>clear H<;>rintro rfl H
   ·go_wp2_with(fail)
    go_roundg ay
    case measure=>exact yM1 al
    case rel=>exact⟨(wrap64 (aa+1)),zr,⟨H⟩,⟨yM1 al⟩,⟨zv ar.out HB⟩⟩
   obtain rfl:=zi H;exact yR
def laws_eqNext.f(aa:ByteArray)(ab:ByteArray)(ac:ByteArray)(ad:ByteArray):Option (Bool):=if aa.toList=ac.toList then(if ab.toList=ad.toList then(some true) else(some false)) else(some false)
theorem laws_eqNext.calls(ac:ByteArray)(ad:ByteArray)(ae:ByteArray)(af:ByteArray)(r:Bool)(w:World)(H:laws_eqNext.f ac ad ae af=some r):
 Calls Tryz.prog 68 #[.agg #[.string ac,.string ad],.agg #[.string ae,.string af]] w fun e w'=>e= .returned (.bool r)/\Below w.heap.size w w':=by
 have ap:=Tryz.underlying96;have HB:=yB w;unfold laws_eqNext.f at H;replace HB:=HB.out;have HW:=yB w;go_enter Tryz.func68,Tryz.ntmps68;refine yCn H ?_ ?_<;>clear H<;>intro c3 H
 ·obtain⟨al,am⟩:=zw c3;obtain rfl:=zi H;go_wp2_with(first|(refine zN 2 ?_;(try(refine z4 ?_;dsimp only));refine zX 2 96 #[.string ac,.string ad] ?_;intro ai hg w9 hbox hb;have hst:=zv HB hb;clear hg hb HB;replace HW:=zz (zv HW.out hst);obtain⟨aa,ab⟩:=zx2 hbox;have HB:=Below.refl w9.heap.size w9;clear hbox hst)|(refine zN 3 ?_;(try(refine z4 ?_;dsimp only));refine zX 3 96 #[.string ae,.string af] ?_;intro aj hg ak hbox hb;have hst:=zv HB hb;clear hg hb HB;replace HW:=zz (zv HW.out hst);replace aa:=qG aa hst;replace ab:=qG ab hst;obtain⟨ag,ah⟩:=zx2 hbox;have HB:=Below.refl ak.heap.size ak;clear hbox hst))
  go_ret;exact⟨ze,zv HW.out HB⟩
 obtain⟨al,am⟩:=zq c3;clear c3;refine yCn H ?_ ?_<;>clear H<;>intro c4 H
 ·obtain⟨an,ao⟩:=zw c4;obtain rfl:=zi H;go_wp2_with(first|(refine zN 2 ?_;(try(refine z4 ?_;dsimp only));refine zX 2 96 #[.string ac,.string ad] ?_;intro ai hg w7 hbox hb;have hst:=zv HB hb;clear hg hb HB;replace HW:=zz (zv HW.out hst);obtain⟨aa,ab⟩:=zx2 hbox;have HB:=Below.refl w7.heap.size w7;clear hbox hst)|(refine zN 3 ?_;(try(refine z4 ?_;dsimp only));refine zX 3 96 #[.string ae,.string af] ?_;intro aj hg w8 hbox hb;have hst:=zv HB hb;clear hg hb HB;replace HW:=zz (zv HW.out hst);replace aa:=qG aa hst;replace ab:=qG ab hst;obtain⟨ag,ah⟩:=zx2 hbox;have HB:=Below.refl w8.heap.size w8;clear hbox hst))
  go_ret;exact⟨ze,zv HW.out HB⟩
 obtain⟨an,ao⟩:=zq c4;clear c4;obtain rfl:=zi H;go_wp2_with(first|(refine zN 2 ?_;(try(refine z4 ?_;dsimp only));refine zX 2 96 #[.string ac,.string ad] ?_;intro ai hg w5 hbox hb;have hst:=zv HB hb;clear hg hb HB;replace HW:=zz (zv HW.out hst);obtain⟨aa,ab⟩:=zx2 hbox;have HB:=Below.refl w5.heap.size w5;clear hbox hst)|(refine zN 3 ?_;(try(refine z4 ?_;dsimp only));refine zX 3 96 #[.string ae,.string af] ?_;intro aj hg w6 hbox hb;have hst:=zv HB hb;clear hg hb HB;replace HW:=zz (zv HW.out hst);replace aa:=qG aa hst;replace ab:=qG ab hst;obtain⟨ag,ah⟩:=zx2 hbox;have HB:=Below.refl w6.heap.size w6;clear hbox hst))
 go_ret;exact⟨ze,zv HW.out HB⟩
def laws_eqNextS.l0:Nat->List (S96)->List (S96)->Int->Option (Bool)
 |0,_,_,_=>none
 |k+1,x0,x1,x5=>if x5<(x0.length:Int) then(if 0<=x5 then(if x5<(x1.length:Int) then((laws_eqNext.f ((rd_T96 x0 x5).f0) ((rd_T96 x0 x5).f1) ((rd_T96 x1 x5).f0) ((rd_T96 x1 x5).f1)).bind fun aa=>(if aa=true then(laws_eqNextS.l0 k x0 x1 (wrap64 (x5+1))) else(some false))) else(none)) else(none)) else(some true)
def laws_eqNextS.f(k:Nat)(l0:List (S96))(l1:List (S96)):Option (Bool):=if(l0.length:Int)=(l1.length:Int) then(laws_eqNextS.l0 k l0 l1 0) else(some false)
theorem laws_eqNextS.calls(k:Nat)(A0:Option Addr)(c0:Nat)(l0:List (S96))(A1:Option Addr)(c1:Nat)(l1:List (S96))(r:Bool)(w:World)(ah:Kd.C k96 w A0 l0.length l0)(ai:l0.length<=c0)(aj:Kd.C k96 w A1 l1.length l1)(ak:l1.length<=c1)(H:laws_eqNextS.f k l0 l1=some r):
 Calls Tryz.prog 35 #[.slice A0 l0.length c0,.slice A1 l1.length c1] w fun e w'=>e= .returned (.bool r)/\Below w.heap.size w w':=by
 have az:=Tryz.underlying96;have ar:=zz ah;have aI:=zz ai;clear ah ai;have au:=zz aj;have aJ:=zz ak;clear aj ak;have HB:=yB w;unfold laws_eqNextS.f at H;replace HB:=HB.out;have HW:=yB w;go_enter Tryz.func35,Tryz.ntmps35;refine yCn H ?_ ?_<;>clear H<;>intro c3 H
 ·obtain⟨al,am⟩:=zw c3;have an:(l0.length==l1.length)=false:=by first|simpa using c3|(simp at c3⊢;omega)
  obtain rfl:=zi H;exact yR
 obtain⟨al,am⟩:=zq c3;have an:(l0.length==l1.length)=true:=by first|simpa using c3|(simp at c3⊢;omega)
 clear c3;go_wp2_with(fail)
 go_loopg[5] k (fun kq v5 w'=>∃(aa:Int),v5= .int .i64 aa/\qB (laws_eqNextS.l0 kq l0 l1 aa=some r)/\qB (kq<=k)/\qB (Below w.heap.size w w'))
 case atStart=>exact⟨(0),zr,⟨H⟩,⟨Nat.le_refl _⟩,⟨HB⟩⟩
 case round=>
  clear H HB;obtain⟨aa,rfl,H,af,HB⟩:=hrel;replace HB:=HB.out;replace H:=H.out;have ag:=yB w;cases gk with
  |zero=>simp[laws_eqNextS.l0] at H
  |succ av=>
   simp only[laws_eqNextS.l0] at H;refine yDn H ?_ ?_<;>clear H<;>intro aA H
   ·obtain rfl:=zi H;exact yR
   go_wp2_with(fail)
   try simp only[Act.put,List.setIfInBounds_toArray,List.set_cons_zero,List.set_cons_succ]
   refine qT (C:=fun W_=>Below w.heap.size w W_) zk zk (qK HB) ?_;replace H:=yAD H;obtain⟨aB,H⟩:=H;have aC:=yt (0<=(aa:Int));have aD:=yt ((aa:Int)<(l0.length:Int));obtain⟨ax,ao,ab,ac⟩:=at_T96 ar.out aa z2 z2;cases ao;replace ab:=qL ab;replace ac:=qL ac;replace H:=yAD H;obtain⟨aE,H⟩:=H;have aF:=yt (0<=(aa:Int));have aG:=yt ((aa:Int)<(l1.length:Int));obtain⟨ay,ap,ad,ae⟩:=at_T96 au.out aa z2 z2;cases ap;replace ad:=qL ad;replace ae:=qL ae;replace H:=yf H;obtain⟨aH,A8,H⟩:=H;repeat(first|go_big_quiet_skip|(go_big_quiet_want;go_big_quiet_op;first|go_big_quiet_on|(apply zU;intro W hW;(first|with_reducible rfl|(go_at_call 68;exact callB (laws_eqNext.calls _ _ _ _ _ _ A8.out) hW)|(go_simp;with_reducible rfl));go_big_quiet_on)))
   clear HB;refine zW fun aw (HB:Below w.heap.size w aw)=>?_;refine yT H ?_ ?_<;>clear H<;>rintro rfl H
   ·go_wp2_with(fail)
    go_roundg av
    case measure=>exact yM1 af
    case rel=>exact⟨(wrap64 (aa+1)),zr,⟨H⟩,⟨yM1 af⟩,⟨zv ag.out HB⟩⟩
   obtain rfl:=zi H;exact yR
def laws_eqWorld.f(k:Nat)(aa:List (S61))(ab:List (S99))(ac:List (S94))(ad:List (S96))(ae:List (S61))(af:List (S99))(ag:List (S94))(ah:List (S96)):Option (Bool):=(laws_eqItemS.f k aa ae).bind fun ai=>(if ai=true then((laws_eqProfileS.f k ab af).bind fun aj=>(if aj=true then((laws_eqPendingS.f k ac ag).bind fun ak=>(if ak=true then((laws_eqNextS.f k ad ah).bind fun al=>(if al=true then(some true) else(some false))) else(some false))) else(some false))) else(some false))
theorem laws_eqWorld.calls(k:Nat)(ax:Option Addr)(ay:Nat)(ai:List (S61))(az:Option Addr)(aA:Nat)(aj:List (S99))(aB:Option Addr)(aC:Nat)(ak:List (S94))(aD:Option Addr)(aE:Nat)(al:List (S96))(aF:Option Addr)(aG:Nat)(am:List (S61))(aH:Option Addr)(aI:Nat)(an:List (S99))(aJ:Option Addr)(aK:Nat)(ao:List (S94))(aL:Option Addr)(aM:Nat)(ap:List (S96))(r:Bool)(w:World)(aN:Kd.C k61 w ax ai.length ai)(aO:ai.length<=ay)(aP:Kd.C k99 w az aj.length aj)(aQ:aj.length<=aA)(aR:Kd.C k94 w aB ak.length ak)(aS:ak.length<=aC)(aT:Kd.C k96 w aD al.length al)(aU:al.length<=aE)(aV:Kd.C k61 w aF am.length am)(aW:am.length<=aG)(aX:Kd.C k99 w aH an.length an)(aY:an.length<=aI)(aZ:Kd.C k94 w aJ ao.length ao)(a0:ao.length<=aK)(a1:Kd.C k96 w aL ap.length ap)(a2:ap.length<=aM)(H:laws_eqWorld.f k ai aj ak al am an ao ap=some r):
 Calls Tryz.prog 11 #[.agg #[.slice ax ai.length ay,.slice az aj.length aA,.slice aB ak.length aC,.slice aD al.length aE],.agg #[.slice aF am.length aG,.slice aH an.length aI,.slice aJ ao.length aK,.slice aL ap.length aM]] w fun e w'=>e= .returned (.bool r)/\Below w.heap.size w w':=by
 have bj:=Tryz.underlying39;have ag:=zz aN;have a9:=zz aO;clear aN aO;have aa:=zz aP;have a3:=zz aQ;clear aP aQ;have ab:=zz aR;have a4:=zz aS;clear aR aS;have ac:=zz aT;have a5:=zz aU;clear aT aU;have ah:=zz aV;have ba:=zz aW;clear aV aW;have ad:=zz aX;have a6:=zz aY;clear aX aY;have ae:=zz aZ;have a7:=zz a0;clear aZ a0;have af:=zz a1;have a8:=zz a2;clear a1 a2;have HB:=yB w;unfold laws_eqWorld.f at H;replace HB:=HB.out;have HW:=yB w;go_enter Tryz.func11,Tryz.ntmps11;replace H:=yf H;obtain⟨bk,A3,H⟩:=H;go_wp2_with(first|(refine zN 2 ?_;(try(refine z4 ?_;dsimp only));refine zX 2 39 #[.slice ax ai.length ay,.slice az aj.length aA,.slice aB ak.length aC,.slice aD al.length aE] ?_;intro bh hg w6 hbox hb;have hst:=zv HB hb;clear hg hb HB;replace HW:=zz (zv HW.out hst);replace ag:=zz (Kd.qD ag.out hst);replace aa:=zz (Kd.qD aa.out hst);replace ab:=zz (Kd.qD ab.out hst);replace ac:=zz (Kd.qD ac.out hst);replace ah:=zz (Kd.qD ah.out hst);replace ad:=zz (Kd.qD ad.out hst);replace ae:=zz (Kd.qD ae.out hst);replace af:=zz (Kd.qD af.out hst);obtain⟨ar,au,av,aw⟩:=zx4 hbox;have HB:=Below.refl w6.heap.size w6;clear hbox hst)|(refine zN 3 ?_;(try(refine z4 ?_;dsimp only));refine zX 3 39 #[.slice aF am.length aG,.slice aH an.length aI,.slice aJ ao.length aK,.slice aL ap.length aM] ?_;intro bi hg w7 hbox hb;have hst:=zv HB hb;clear hg hb HB;replace HW:=zz (zv HW.out hst);replace ag:=zz (Kd.qD ag.out hst);replace aa:=zz (Kd.qD aa.out hst);replace ab:=zz (Kd.qD ab.out hst);replace ac:=zz (Kd.qD ac.out hst);replace ah:=zz (Kd.qD ah.out hst);replace ad:=zz (Kd.qD ad.out hst);replace ae:=zz (Kd.qD ae.out hst);replace af:=zz (Kd.qD af.out hst);replace ar:=qG ar hst;replace au:=qG au hst;replace av:=qG av hst;replace aw:=qG aw hst;obtain⟨bd,be,bf,bg⟩:=zx4 hbox;have HB:=Below.refl w7.heap.size w7;clear hbox hst))
 refine(laws_eqItemS.calls k _ _ _ _ _ _ _ _ (Kd.qD ag.out HB) a9.out (Kd.qD ah.out HB) ba.out A3.out).mono ?_;rintro e w8 ⟨rfl,hb⟩;replace HB:=zv HB hb;clear hb;refine yF H ?_ ?_<;>clear H<;>rintro rfl H
 ·obtain rfl:=zi H;exact yR
 replace H:=yf H;obtain⟨bn,A9,H⟩:=H;refine yF H ?_ ?_<;>clear H<;>rintro rfl H
 ·go_wp2_with(fail)
  refine(laws_eqProfileS.calls k _ _ _ _ _ _ _ _ (Kd.qD aa.out HB) a3.out (Kd.qD ad.out HB) a6.out A9.out).mono ?_;rintro e br ⟨rfl,hb⟩;replace HB:=zv HB hb;clear hb;obtain rfl:=zi H;exact yR
 go_wp2_with(fail)
 refine(laws_eqProfileS.calls k _ _ _ _ _ _ _ _ (Kd.qD aa.out HB) a3.out (Kd.qD ad.out HB) a6.out A9.out).mono ?_;rintro e bs ⟨rfl,hb⟩;replace HB:=zv HB hb;clear hb;replace H:=yf H;obtain⟨bo,bb,H⟩:=H;refine yF H ?_ ?_<;>clear H<;>rintro rfl H
 ·go_wp2_with(fail)
  refine(laws_eqPendingS.calls k _ _ _ _ _ _ _ _ (Kd.qD ab.out HB) a4.out (Kd.qD ae.out HB) a7.out bb.out).mono ?_;rintro e bu ⟨rfl,hb⟩;replace HB:=zv HB hb;clear hb;obtain rfl:=zi H;exact yR
 go_wp2_with(fail)
 refine(laws_eqPendingS.calls k _ _ _ _ _ _ _ _ (Kd.qD ab.out HB) a4.out (Kd.qD ae.out HB) a7.out bb.out).mono ?_;rintro e bv ⟨rfl,hb⟩;replace HB:=zv HB hb;clear hb;replace H:=yf H;obtain⟨bq,bc,H⟩:=H;refine yT H ?_ ?_<;>clear H<;>rintro rfl H
 ·go_wp2_with(fail)
  refine(laws_eqNextS.calls k _ _ _ _ _ _ _ _ (Kd.qD ac.out HB) a5.out (Kd.qD af.out HB) a8.out bc.out).mono ?_;rintro e bw ⟨rfl,hb⟩;replace HB:=zv HB hb;clear hb;obtain rfl:=zi H;exact yR
 go_wp2_with(fail)
 refine(laws_eqNextS.calls k _ _ _ _ _ _ _ _ (Kd.qD ac.out HB) a5.out (Kd.qD af.out HB) a8.out bc.out).mono ?_;rintro e bz ⟨rfl,hb⟩;replace HB:=zv HB hb;clear hb;obtain rfl:=zi H;exact yR
end Go.Proofs.YtgccknmddhbdgaaGreatDoor.Q
