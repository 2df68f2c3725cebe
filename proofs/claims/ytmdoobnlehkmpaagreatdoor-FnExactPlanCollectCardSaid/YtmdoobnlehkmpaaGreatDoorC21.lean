import Derived.Test.YtmdoobnlehkmpaaGreatDoorC20
namespace Go.Proofs.YtmdoobnlehkmpaaGreatDoor.Q
open Go.RowKit W1 W2 W3
attribute [local go_sem] max2_int min2_int max_two min_two max_three min_three max_four min_four
attribute [local go_sem high] bl_leq bl_gtr bl_geq
set_option maxHeartbeats 8000000
set_option maxRecDepth 100000
section
attribute [local go_sem] run_store_one
def laws_toPendingS.l0:Nat->List (S126)->List (S133)->Int->Option ((List (S133)))
 |0,_,_,_=>none
 |k+1,x0,x3,x4=>if x4<(x0.length:Int) then(if 0<=x4 then((laws_toPending.f k ((rd_T126 x0 x4).f0) ((rd_T126 x0 x4).f1) ((rd_T126 x0 x4).f2)).bind fun aa=>(if x4<(x3.length:Int) then(laws_toPendingS.l0 k x0 (x3.set (x4:Int).toNat (⟨aa.1,aa.2.1,aa.2.2⟩:S133)) (wrap64 (x4+1))) else(none))) else(none)) else(some x3)
def laws_toPendingS.f(k:Nat)(l0:List (S126)):Option ((List (S133))):=if 0<=(l0.length:Int) then(if((l0.length:Int):Int).toNat<=5026338869833 then(laws_toPendingS.l0 k l0 (List.replicate ((l0.length:Int):Int).toNat z133) 0) else(none)) else(none)
theorem laws_toPendingS.calls(k:Nat)(A0:Option Addr)(c0:Nat)(l0:List (S126))(r:List (S133))(w:World)(a5:Kd.C k126 w A0 l0.length l0)(a6:l0.length<=c0)(H:laws_toPendingS.f k l0=some r):
 Calls Tryz.prog 50 #[.slice A0 l0.length c0] w fun e w'=>∃a7:Value,e= .returned (a7)/\Kd.S k133 133 w' w.heap.size (fun _=>True) a7 r/\Below w.heap.size w w':=by
 have bw:=Tryz.underlying126;have bz:=Tryz.underlying133;have bj:=zz a5;have bL:=zz a6;clear a5 a6;have HB:=yB w;unfold laws_toPendingS.f at H;replace H:=yA H;obtain⟨c2,H⟩:=H;have ba:=eq_true c2;have bb:=z1 c2;clear c2;replace H:=yA H;obtain⟨c3,H⟩:=H;have bc:=eq_true c3;have bd:=z1 c3;clear c3;obtain⟨aF,au⟩:∃y_:List (S133),y_=(List.replicate ((l0.length:Int):Int).toNat z133):=⟨_,rfl⟩
 replace H:(laws_toPendingS.l0 k l0 aF 0)=some r:=yN0 au H;have aC:=zz au;clear au;have H':=zz H;clear H;go_enter Tryz.func50,Tryz.ntmps50;go_wp2_with(first|(refine zN 7 ?_;refine Kd.S_make k133 _ 133 rfl (N:=7) rfl 35 _ _ rfl (l0.length:Int) rfl rfl Tryz.underlying35 (.agg #[(.string ⟨#[]⟩),(.slice none 0 0),(.string ⟨#[]⟩)]) 56 info133 rfl yd_ yo_ z133 (ok:=fun _=>True) (okp:=fun _=>True) (k133_mkM _ _ _ z133 (Kd.R_nil _ _ _ _ _)) (fun _ hk=>hk) trivial (z2) (Nat.le_trans (Nat.mul_le_mul_right _ (z2:(l0.length:Int).toNat<=5026338869833)) yo_) (Below.refl _ _) (Nat.le_refl _) ?_;intro be w4 ay hb hg_ hnew_;clear hg_ hnew_;(first|rw[<-aC.out] at ay|(simp only[Int.reduceToNat] at ay;rw[<-aC.out] at ay));have a1:=zz (Kd.S_lower ay (qF zb));replace HB:=zz (zv zb hb);clear hb ay))
 go_loopg[4] k (fun kq v4 w'=>∃(ad:List (S133)) (aa:Int),v4= .int .i64 aa/\qA (laws_toPendingS.l0 kq l0 ad aa=some r)/\qA (kq<=k)/\qA (Kd.S k133 133 w' w.heap.size (fun _=>True) be ad)/\qA (Below w.heap.size w w'))
 case atStart=>exact⟨(aF),(0),zr,H',⟨Nat.le_refl _⟩,⟨zS a1.out⟩,⟨zb⟩⟩
 case round=>
  clear H';try clear c2
  try clear ba
  try clear bb
  try clear c3
  try clear bc
  try clear bd
  obtain⟨ad,aa,rfl,HA,a8,ab,HB⟩:=hrel;cases gk with
  |zero=>exact absurd HA.out (by simp[laws_toPendingS.l0])
  |succ k1=>
   have H:=HA.out;clear HA;simp only[laws_toPendingS.l0] at H;refine yDn H ?_ ?_<;>clear H<;>intro bC H
   ·obtain rfl:=zi H;go_wp2;go_ret;exact⟨_,ze,zS ab.out,zb⟩
   replace H:=yAD H;obtain⟨bD,H⟩:=H;replace H:=zf H;obtain⟨⟨af,av,ag⟩,a9,H⟩:=H;try dsimp only at H
   have A8:=zz a9;clear a9;replace H:=yAD H;obtain⟨bE,H⟩:=H;obtain⟨az,aw⟩:∃y_:List (S133),y_=(ad.set (aa:Int).toNat (⟨af,av,ag⟩:S133)):=⟨_,rfl⟩
   replace H:(laws_toPendingS.l0 k1 l0 az (wrap64 (aa+1)))=some r:=yN0 aw H;have a2:=zz aw;clear aw;have H':=zz H;clear H;have bF:=yt (0<=(aa:Int));have bG:=yt (aa<(l0.length:Int));obtain⟨bA,aG,aH,bf,am,an,ao,ap,ar⟩:=at_T126 bj.out aa z2 z2;cases bf;replace am:=z3 HB.out am;replace an:=z3 HB.out an;replace ao:=z3 HB.out ao;have aD:=zz ar;have aE:=zz ap;clear ar ap;go_wp2_with(first|(refine zL 97 20 Tryz.func97 #[.agg #[.string ((rd_T126 l0 aa).f0),.slice aG ((rd_T126 l0 aa).f1).length aH,.string ((rd_T126 l0 aa).f2)]] ?_;(with_reducible refine(laws_toPending.calls k1 ((rd_T126 l0 aa).f0) _ _ ((rd_T126 l0 aa).f1) ((rd_T126 l0 aa).f2) af av ag _ ?s1 ?s2 A8.out).mono ?_);(case s1=>exact zc aD.out);(case s2=>exact aE.out);rintro e ae ⟨ax,rfl,aI,hb⟩;refine⟨_,rfl,?_⟩;replace ab:=zz (Kd.S_elder' (zS ab.out) (Kd.R_base aI) hb);have ah:=zz (Kd.vC aI (qF zb));replace HB:=zz (zv zb hb);(try clear hb);(try clear hk);(try clear aI);have aJ:0<=(aa:Int):=z2;have aK:(aa:Int)<((ad.length:Int):Int):=z2;obtain⟨ac,aL,aM,aN,bg,bH,aO⟩:=Kd.S_form ab.out yo_;(first|cases aM|(injection aM with ea_ en_ ec_;(first|subst ea_|(injection ea_ with ea_;subst ea_));subst ec_;clear en_));have aA:=zz aN;have bI:=zz aO;clear aN bg aO;obtain⟨_,bJ,a3,aP,ai,aj,_,_⟩:=Kd.S_elem ab.out z133 (aa:Int) aJ aK;obtain⟨aQ,rfl,bk⟩:=k133_openM aP;have bl:ae.cell? ⟨ac,(aa:Int).toNat*3,none⟩=some (.string ((qN ad aa).f0)):=ai 0 _ rfl;have bn:ae.cell? ⟨ac,(aa:Int).toNat*3+1,none⟩=some (aQ):=ai 1 _ rfl;have bo:ae.cell? ⟨ac,(aa:Int).toNat*3+2,none⟩=some (.string ((qN ad aa).f2)):=ai 2 _ rfl;have bq:ae.frozen? ⟨ac,(aa:Int).toNat*3,none⟩=false:=aj 0;have br:ae.frozen? ⟨ac,(aa:Int).toNat*3+1,none⟩=false:=aj 1;have bs:ae.frozen? ⟨ac,(aa:Int).toNat*3+2,none⟩=false:=aj 2;clear a3 ai aj aP;replace aJ:=eq_true aJ;replace aK:=eq_true aK;have n_:=zz (Kd.S_mono (ok':=(fun k_=>some k_≠(ax:Value).ownBlock)) ab.out (fun k_ hk=>hk.2));clear ab;have ab:=n_;clear n_;have bh:=zz (show Kd.S k133 133 ae w.heap.size (fun k_=>((fun _=>True)) k_/\¬((fun k_=>some k_=(ax:Value).ownBlock)) k_) (.slice (some ⟨ac,0,none⟩) ad.length aL) ad from(by(with_reducible repeat(first|apply Kd.S_alloc|apply Kd.S_drewN|apply Kd.S_drew));exact Kd.S_mono ab.out (fun k_ hk=>⟨trivial,fun e_=>hk e_⟩)));obtain⟨bB,bK,a4,aR,ak,al,aS,aT⟩:=Kd.S_elem bh.out z133 (aa:Int) (z2) (by have h_:(aa:Int)<((ad.length:Int):Int):=z2;first|exact h_|(have e_:=(Kd.S_reads' ab.out).1;omega)|simpa using h_);obtain⟨bu,rfl,bv⟩:=k133_openM aR;have aB:=Kd.S_seg aT (z2) (by have h_:(aa:Int)<((ad.length:Int):Int):=z2;first|exact h_|(have e_:=(Kd.S_reads' ab.out).1;omega)|simpa using h_) (seg:=[.string af,ax,.string ag]) (j:=0) (show 3<=3 from by decide) (x':=(⟨af,av,ag⟩:S133)) (k133_mkM _ _ _ (⟨af,av,ag⟩:S133) (Kd.qT (Kd.R_tight rfl (Kd.qT (ok':=fun k_=>((fun _=>True)) k_/\k_≠ac) (Kd.R_apart' (ah.out) (Kd.S_typed ab.out) yd_) (fun k_ hk=>⟨trivial,fun e_=>(hk.2) (by rw[e_];rfl)⟩))) (fun _ h_=>Or.inr (h_)))) (fun _ hk=>hk) (fun k_ hk_=>((Kd.qT (ok':=fun k_=>((fun _=>True)) k_/\k_≠ac) (Kd.R_apart' (ah.out) (Kd.S_typed ab.out) yd_) (fun k_ hk=>⟨trivial,fun e_=>(hk.2) (by rw[e_];rfl)⟩))).1 k_ hk_.symm);have aU:=ak 0 _ rfl;(try simp only[show(k133).sz=3 from rfl,Nat.mul_one,Nat.add_zero] at aU);have aV:=al 0;(try simp only[show(k133).sz=3 from rfl,Nat.mul_one,Nat.add_zero] at aV);have aW:=ak 1 _ rfl;(try simp only[show(k133).sz=3 from rfl,Nat.mul_one,Nat.add_zero] at aW);have aX:=al 1;(try simp only[show(k133).sz=3 from rfl,Nat.mul_one,Nat.add_zero] at aX);have aY:=ak 2 _ rfl;(try simp only[show(k133).sz=3 from rfl,Nat.mul_one,Nat.add_zero] at aY);have aZ:=al 2;(try simp only[show(k133).sz=3 from rfl,Nat.mul_one,Nat.add_zero] at aZ);clear a4 ak al aR aS aT;have bi:=R_one ah.out)|((with_reducible refine qQ (t:=133) (p:=21) rfl ?_);refine ye 133 21 (((ae.setCell ⟨ac,(aa:Int).toNat*3,none⟩ (.string af)).setCell ⟨ac,(aa:Int).toNat*3+1,none⟩ (ax)).setCell ⟨ac,(aa:Int).toNat*3+2,none⟩ (.string ag)) ?_;intro a0 hw;have hg:ae.grownBy a0 (some ac):=(by rw[hw];exact aB.2);have hp_:Kd.S k133 133 a0 w.heap.size (fun _=>True) (.slice (some ⟨ac,0,none⟩) ad.length aL) az:=(by rw[hw,a2.out];exact aB.1);clear aB;replace ab:=zz (hp_);replace HB:=zz ((by rw[hw];exact qK (qK (qK (HB.out) aA.out) aA.out) aA.out:Below w.heap.size w a0));clear ah;clear hg hw hp_))
   go_roundg k1
   case measure=>exact yM1 a8
   case rel=>exact⟨(az),(wrap64 (aa+1)),zr,H',⟨yM1 a8⟩,⟨zS ab.out⟩,⟨zb⟩⟩
end
def laws_toNext.f(aa:ByteArray)(ab:ByteArray):Option (ByteArray×ByteArray):=some (aa,ab)
theorem laws_toNext.calls(ac:ByteArray)(ad:ByteArray)(r1:ByteArray)(r2:ByteArray)(w:World)(H:laws_toNext.f ac ad=some (r1,r2)):
 Calls Tryz.prog 98 #[.agg #[.string ac,.string ad]] w fun e w'=>e= .returned (.agg #[.string r1,.string r2])/\Below w.heap.size w w':=by
 have aD:=Tryz.underlying129;have aE:=Tryz.underlying134;have HB:=yB w;unfold laws_toNext.f at H;simp only[Option.some.injEq,Prod.mk.injEq] at H;obtain⟨rfl,rfl⟩:=H;go_enter Tryz.func98,Tryz.ntmps98;go_wp2_with(first|(refine zX 1 129 #[.string ac,.string ad] ?_;intro al hg w2 hbox hb;have aa:=zz (hbox);have aF:=zz ((zg:w.heap.size<=al));replace HB:=zz (zv zb hb);clear hb hbox hg)|(refine zX 2 134 #[.string (⟨#[]⟩:ByteArray),.string (⟨#[]⟩:ByteArray)] ?_;intro ak hg w3 hbox hb;have ab:=zz (hbox);have aG:=zz ((zg:w.heap.size<=ak));replace HB:=zz (zv zb hb);have ae:=zz (zH aa hg);have af:=zz (zI aa hg);replace aa:=zz (zJ aa hb);clear hb hbox hg)|(refine zX 3 134 #[.string (⟨#[]⟩:ByteArray),.string (⟨#[]⟩:ByteArray)] ?_;intro am hg w4 hbox hb;have an:=zz (hbox);have aH:=zz ((zg:w.heap.size<=am));replace HB:=zz (zv zb hb);have ag:=zz (zH aa hg);have ah:=zz (zI aa hg);replace aa:=zz (zJ aa hb);have ai:=zz (zH ab hg);have aj:=zz (zI ab hg);replace ab:=zz (zJ ab hb);clear hb hbox hg;have aI:=ae.out;have aJ:=af.out;have aK:=ag.out;have aL:=ah.out;obtain⟨av,aw,ax,ay⟩:=zc2 aa.out;have aM:=aj.out;have aN:=ai.out;obtain⟨az,aA,aB,aC⟩:=zc2 an.out;obtain⟨ao,ap,ar,au⟩:=zc2 ab.out))
 refine bodyPost_ret (results_cell_row rfl _ _ ak 134 #[.string ac,.string ad] (0,0) _ rfl (yP ab.out) Tryz.underlying134 rfl zk) rfl ?_;exact⟨ze,zb⟩
def laws_toNextS.l0:Nat->List (S129)->List (S134)->Int->Option ((List (S134)))
 |0,_,_,_=>none
 |k+1,x0,x3,x4=>if x4<(x0.length:Int) then(if 0<=x4 then((laws_toNext.f ((rd_T129 x0 x4).f0) ((rd_T129 x0 x4).f1)).bind fun aa=>(if x4<(x3.length:Int) then(laws_toNextS.l0 k x0 (x3.set (x4:Int).toNat (⟨aa.1,aa.2⟩:S134)) (wrap64 (x4+1))) else(none))) else(none)) else(some x3)
def laws_toNextS.f(k:Nat)(l0:List (S129)):Option ((List (S134))):=if 0<=(l0.length:Int) then(if((l0.length:Int):Int).toNat<=8796093022208 then(laws_toNextS.l0 k l0 (List.replicate ((l0.length:Int):Int).toNat z134) 0) else(none)) else(none)
theorem laws_toNextS.calls(k:Nat)(A0:Option Addr)(c0:Nat)(l0:List (S129))(r:List (S134))(w:World)(aQ:Kd.C k129 w A0 l0.length l0)(aR:l0.length<=c0)(H:laws_toNextS.f k l0=some r):
 Calls Tryz.prog 51 #[.slice A0 l0.length c0] w fun e w'=>∃aS:Value,e= .returned (aS)/\Kd.R k134 134 w' w.heap.size (fun _=>True) aS r/\Below w.heap.size w w':=by
 have a7:=Tryz.underlying129;have a8:=Tryz.underlying134;have a2:=zz aQ;have bj:=zz aR;clear aQ aR;have HB:=yB w;unfold laws_toNextS.f at H;replace H:=yA H;obtain⟨c2,H⟩:=H;have aV:=eq_true c2;have aW:=z1 c2;clear c2;replace H:=yA H;obtain⟨c3,H⟩:=H;have aX:=eq_true c3;have aY:=z1 c3;clear c3;obtain⟨ax,ak⟩:∃y_:List (S134),y_=(List.replicate ((l0.length:Int):Int).toNat z134):=⟨_,rfl⟩
 replace H:(laws_toNextS.l0 k l0 ax 0)=some r:=yN0 ak H;have av:=zz ak;clear ak;have H':=zz H;clear H;go_enter Tryz.func51,Tryz.ntmps51;go_wp2_with(first|(refine zN 7 ?_;refine Kd.R_make k134 _ 134 rfl (N:=7) rfl 36 _ _ rfl (l0.length:Int) rfl rfl Tryz.underlying36 (.agg #[(.string ⟨#[]⟩),(.string ⟨#[]⟩)]) 32 info134 rfl yd_ yo_ z134 (ok:=fun _=>True) (okp:=fun _=>True) (k134_mkM _ _ _ z134) (fun _ hk=>hk) trivial (z2) (Nat.le_trans (Nat.mul_le_mul_right _ (z2:(l0.length:Int).toNat<=8796093022208)) yo_) (Below.refl _ _) (Nat.le_refl _) ?_;intro aZ w4 ap hb hg_ hnew_;clear hg_ hnew_;(first|rw[<-av.out] at ap|(simp only[Int.reduceToNat] at ap;rw[<-av.out] at ap));have aN:=zz (Kd.vC ap (qF zb));replace HB:=zz (zv zb hb);clear hb ap))
 go_loopg[4] k (fun kq v4 w'=>∃(ab:List (S134)) (aa:Int),v4= .int .i64 aa/\qA (laws_toNextS.l0 kq l0 ab aa=some r)/\qA (kq<=k)/\qA (Kd.R k134 134 w' w.heap.size (fun _=>True) aZ ab)/\qA (Below w.heap.size w w'))
 case atStart=>exact⟨(ax),(0),zr,H',⟨Nat.le_refl _⟩,⟨zR aN.out⟩,⟨zb⟩⟩
 case round=>
  clear H';try clear c2
  try clear aV
  try clear aW
  try clear c3
  try clear aX
  try clear aY
  obtain⟨ab,aa,rfl,HA,aT,ac,HB⟩:=hrel;cases gk with
  |zero=>exact absurd HA.out (by simp[laws_toNextS.l0])
  |succ k1=>
   have H:=HA.out;clear HA;simp only[laws_toNextS.l0] at H;refine yDn H ?_ ?_<;>clear H<;>intro ba H
   ·obtain rfl:=zi H;go_wp2;go_ret;exact⟨_,ze,zR ac.out,zb⟩
   replace H:=yAD H;obtain⟨bb,H⟩:=H;replace H:=zf H;obtain⟨⟨ae,af⟩,aU,H⟩:=H;try dsimp only at H
   have A8:=zz aU;clear aU;replace H:=yAD H;obtain⟨bc,H⟩:=H;obtain⟨ar,al⟩:∃y_:List (S134),y_=(ab.set (aa:Int).toNat (⟨ae,af⟩:S134)):=⟨_,rfl⟩
   replace H:(laws_toNextS.l0 k1 l0 ar (wrap64 (aa+1)))=some r:=yN0 al H;have aO:=zz al;clear al;have H':=zz H;clear H;have bd:=yt (0<=(aa:Int));have be:=yt (aa<(l0.length:Int));obtain⟨a9,a0,ai,aj⟩:=at_T129 a2.out aa z2 z2;cases a0;replace ai:=z3 HB.out ai;replace aj:=z3 HB.out aj;go_wp2_with(first|(refine zL 98 20 Tryz.func98 #[.agg #[.string ((rd_T129 l0 aa).f0),.string ((rd_T129 l0 aa).f1)]] ?_;(with_reducible refine(laws_toNext.calls ((rd_T129 l0 aa).f0) ((rd_T129 l0 aa).f1) ae af _ A8.out).mono ?_);rintro e ah ⟨rfl,hb⟩;refine⟨_,rfl,?_⟩;replace ac:=zz (Kd.R_below (zR ac.out) hb);replace HB:=zz (zv zb hb);(try clear hb);(try clear hk);have ay:0<=(aa:Int):=z2;have az:(aa:Int)<((ab.length:Int):Int):=z2;obtain⟨ad,aA,aB,aC,a1,bf,aD⟩:=Kd.R_form ac.out yo_;(first|cases aB|(injection aB with ea_ en_ ec_;(first|subst ea_|(injection ea_ with ea_;subst ea_));subst ec_;clear en_));have aE:=zz aC;have bg:=zz aD;clear aC a1 aD;obtain⟨bh,aP,aF,am,an⟩:=Kd.R_elem ac.out z134 (aa:Int) ay az;obtain rfl:=k134_openM aF;have a3:ah.cell? ⟨ad,(aa:Int).toNat*2,none⟩=some (.string ((rd_T134 ab aa).f0)):=am 0 _ rfl;have a4:ah.cell? ⟨ad,(aa:Int).toNat*2+1,none⟩=some (.string ((rd_T134 ab aa).f1)):=am 1 _ rfl;have a5:ah.frozen? ⟨ad,(aa:Int).toNat*2,none⟩=false:=an 0;have a6:ah.frozen? ⟨ad,(aa:Int).toNat*2+1,none⟩=false:=an 1;clear aP am an aF;replace ay:=eq_true ay;replace az:=eq_true az;have aG:=zz (show Kd.R k134 134 ah w.heap.size (fun _=>True) (.slice (some ⟨ad,0,none⟩) ab.length aA) ab from(zR ac.out));obtain⟨bi,aw,aH,ag,ao⟩:=Kd.R_elem aG.out z134 (aa:Int) (z2) (by have h_:(aa:Int)<((ab.length:Int):Int):=z2;first|exact h_|(have e_:=(Kd.qM ac.out).1;omega)|simpa using h_);obtain rfl:=k134_openM aH;have au:=Kd.R_seg aG.out (aa:Int) (z2) (by have h_:(aa:Int)<((ab.length:Int):Int):=z2;first|exact h_|(have e_:=(Kd.qM ac.out).1;omega)|simpa using h_) (seg:=[.string ae,.string af]) (j:=0) aw ag (show 2<=2 from by decide) (x':=(⟨ae,af⟩:S134)) (k134_mkM _ _ _ (⟨ae,af⟩:S134)) (fun _ hk=>hk);have aI:=ag 0 _ rfl;(try simp only[show(k134).sz=2 from rfl,Nat.mul_one,Nat.add_zero] at aI);have aJ:=ao 0;(try simp only[show(k134).sz=2 from rfl,Nat.mul_one,Nat.add_zero] at aJ);have aK:=ag 1 _ rfl;(try simp only[show(k134).sz=2 from rfl,Nat.mul_one,Nat.add_zero] at aK);have aL:=ao 1;(try simp only[show(k134).sz=2 from rfl,Nat.mul_one,Nat.add_zero] at aL);clear aw ag ao aH)|((with_reducible refine qQ (t:=134) (p:=21) rfl ?_);refine ye 134 21 ((ah.setCell ⟨ad,(aa:Int).toNat*2,none⟩ (.string ae)).setCell ⟨ad,(aa:Int).toNat*2+1,none⟩ (.string af)) ?_;intro aM hw;have hg:ah.grownBy aM (some ad):=(by rw[hw];exact au.2);have hp_:Kd.R k134 134 aM w.heap.size (fun _=>True) (.slice (some ⟨ad,0,none⟩) ab.length aA) ar:=(by rw[hw,aO.out];exact au.1);clear au;replace ac:=zz (hp_);replace HB:=zz ((by rw[hw];exact qK (qK (HB.out) aE.out) aE.out:Below w.heap.size w aM));clear hg hw hp_))
   go_roundg k1
   case measure=>exact yM1 aT
   case rel=>exact⟨(ar),(wrap64 (aa+1)),zr,H',⟨yM1 aT⟩,⟨zR ac.out⟩,⟨zb⟩⟩
def laws_toWorld.f(k:Nat)(aa:List (S119))(ab:List (S123))(ac:List (S126))(ad:List (S129)):Option ((List (S103))×(List (S137))×(List (S133))×(List (S134))):=(laws_toItemS.f k aa).bind fun ae=>((laws_toProfileS.f k ab).bind fun af=>((laws_toPendingS.f k ac).bind fun ag=>((laws_toNextS.f k ad).bind fun ah=>(some (ae,af,ag,ah)))))
theorem laws_toWorld.calls(k:Nat)(al:Option Addr)(am:Nat)(ae:List (S119))(an:Option Addr)(ao:Nat)(af:List (S123))(ap:Option Addr)(ar:Nat)(ag:List (S126))(au:Option Addr)(av:Nat)(ah:List (S129))(r1:List (S103))(r2:List (S137))(r3:List (S133))(r4:List (S134))(w:World)(aR:Kd.C k119 w al ae.length ae)(aS:ae.length<=am)(aT:Kd.C k123 w an af.length af)(aU:af.length<=ao)(aV:Kd.C k126 w ap ag.length ag)(aW:ag.length<=ar)(aX:Kd.C k129 w au ah.length ah)(aY:ah.length<=av)(H:laws_toWorld.f k ae af ag ah=some (r1,r2,r3,r4)):
 Calls Tryz.prog 11 #[.agg #[.slice al ae.length am,.slice an af.length ao,.slice ap ag.length ar,.slice au ah.length av]] w fun e w'=>∃a8 a9 ba bb:Value,e= .returned (.agg #[a8,a9,ba,bb])/\Kd.S k103 103 w' w.heap.size (fun _=>True) a8 r1/\Kd.S k137 137 w' w.heap.size (fun _=>True) a9 r2/\Kd.S k133 133 w' w.heap.size (fun _=>True) ba r3/\Kd.R k134 134 w' w.heap.size (fun _=>True) bb r4/\Below w.heap.size w w':=by
 have cM:=Tryz.underlying27;have cN:=Tryz.underlying38;have a0:=zz aR;have a1:=zz aS;clear aR aS;have a2:=zz aT;have a3:=zz aU;clear aT aU;have a4:=zz aV;have a5:=zz aW;clear aV aW;have a6:=zz aX;have a7:=zz aY;clear aX aY;have HB:=yB w;unfold laws_toWorld.f at H;replace H:=zf H;obtain⟨ax,bc,H⟩:=H;try dsimp only at H
 have A2:=zz bc;clear bc;replace H:=zf H;obtain⟨ay,bd,H⟩:=H;try dsimp only at H
 have A3:=zz bd;clear bd;replace H:=zf H;obtain⟨az,be,H⟩:=H;try dsimp only at H
 have A4:=zz be;clear be;replace H:=zf H;obtain⟨aA,bf,H⟩:=H;try dsimp only at H
 have A5:=zz bf;clear bf;simp only[Option.some.injEq,Prod.mk.injEq] at H;obtain⟨rfl,rfl,rfl,rfl⟩:=H;go_enter Tryz.func11,Tryz.ntmps11;go_wp2_with(first|(refine zX 1 27 #[.slice al ae.length am,.slice an af.length ao,.slice ap ag.length ar,.slice au ah.length av] ?_;intro aB hg w6 hbox hb;have ab:=zz (hbox);have cF:=zz ((zg:w.heap.size<=aB));replace HB:=zz (zv zb hb);clear hb hbox hg)|(refine zX 2 38 #[.slice none 0 0,.slice none 0 0,.slice none 0 0,.slice none 0 0] ?_;intro aw hg w7 hbox hb;have ac:=zz (hbox);have cG:=zz ((zg:w.heap.size<=aw));replace HB:=zz (zv zb hb);have aL:=zz (zH ab hg);have aM:=zz (zI ab hg);replace ab:=zz (zJ ab hb);clear hb hbox hg)|(refine zX 3 38 #[.slice none 0 0,.slice none 0 0,.slice none 0 0,.slice none 0 0] ?_;intro ad hg w8 hbox hb;have aa:=zz (hbox);have cH:=zz ((zg:w.heap.size<=ad));replace HB:=zz (zv zb hb);have aN:=zz (zH ab hg);have aO:=zz (zI ab hg);replace ab:=zz (zJ ab hb);have aP:=zz (zH ac hg);have aQ:=zz (zI ac hg);replace ac:=zz (zJ ac hb);clear hb hbox hg;have cO:=aL.out;have cP:=aM.out;have cI:=aN.out;have cJ:=aO.out;obtain⟨bk,bl,bn,bo,bq,br,bs,bu⟩:=zc4 ab.out)|(refine zL 48 6 Tryz.func48 #[.slice al ae.length am] ?_;(with_reducible refine(laws_toItemS.calls k _ _ ae ax _ ?s1 ?s2 A2.out).mono ?_);(case s1=>exact zc a0.out);(case s2=>exact a1.out);rintro e cU ⟨cQ,rfl,aj,hb⟩;refine⟨_,rfl,?_⟩;have ai:=zz (Kd.S_lower aj (qF zb));replace ab:=zz (zJ ab hb);replace ac:=zz (zJ ac hb);replace aa:=zz (zJ aa hb);replace HB:=zz (zv zb hb);(try clear hb);(try clear aj);obtain⟨aD,aE,bg⟩:=Kd.S_slice ai.out;subst bg;have cK:=aQ.out;have cL:=aP.out;obtain⟨bv,bw,bz,bA,bB,bC,bD,bE⟩:=zc4 aa.out;obtain⟨bF,bG,bH,bI,bJ,bK,bL,bM⟩:=zc4 ab.out)|(refine zL 49 10 Tryz.func49 #[.slice an af.length ao] ?_;(with_reducible refine(laws_toProfileS.calls k _ _ af ay _ ?s1 ?s2 A3.out).mono ?_);(case s1=>exact Kd.qD a2.out zb);(case s2=>exact a3.out);rintro e cV ⟨cR,rfl,aj,hb⟩;refine⟨_,rfl,?_⟩;replace ai:=zz (Kd.vK (by(with_reducible repeat(first|apply Kd.S_alloc|apply Kd.S_drewN|apply Kd.S_drew));exact(Kd.S_mono (Kd.S_far (p:=⟨ad,0,none⟩) (Kd.S_types ai.out aa.out yd_) (fun _ hk=>hk.2) (.slice aD ax.length aE)) (fun _ h_=>h_.1))) hb);have ak:=zz (Kd.S_lower aj (qF zb));replace ab:=zz (qR (g:=aB) (o:= .cells #[.slice al ae.length am,.slice an af.length ao,.slice ap ag.length ar,.slice au ah.length av] 27 (0,0)) (yP ab.out) hb);replace ac:=zz (qR (g:=aw) (o:= .cells #[.slice none 0 0,.slice none 0 0,.slice none 0 0,.slice none 0 0] 38 (0,0)) (yP ac.out) hb);replace aa:=zz (qR (g:=ad) (o:= .cells #[.slice aD ax.length aE,.slice none 0 0,.slice none 0 0,.slice none 0 0] 38 (0,0)) (yP aa.out) hb);replace HB:=zz (zv zb hb);(try clear hb);(try clear hk);(try clear aj);obtain⟨aF,aG,bh⟩:=Kd.S_slice ak.out;subst bh;obtain⟨bN,bO,bP,bQ,bR,bS,bT,bU⟩:=zc4 aa.out;obtain⟨bV,bW,bX,bY,bZ,b0,b1,b3⟩:=zc4 ab.out)|(refine zL 50 14 Tryz.func50 #[.slice ap ag.length ar] ?_;(with_reducible refine(laws_toPendingS.calls k _ _ ag az _ ?s1 ?s2 A4.out).mono ?_);(case s1=>exact Kd.qD a4.out zb);(case s2=>exact a5.out);rintro e cW ⟨cS,rfl,aj,hb⟩;refine⟨_,rfl,?_⟩;replace ai:=zz (Kd.vK (by(with_reducible repeat(first|apply Kd.S_alloc|apply Kd.S_drewN|apply Kd.S_drew));exact(Kd.S_mono (Kd.S_far (p:=⟨ad,1,none⟩) (Kd.S_types ai.out aa.out yd_) (fun _ hk=>hk.2) (.slice aF ay.length aG)) (fun _ h_=>h_.1))) hb);replace ak:=zz (Kd.vK (by(with_reducible repeat(first|apply Kd.S_alloc|apply Kd.S_drewN|apply Kd.S_drew));exact(Kd.S_mono (Kd.S_far (p:=⟨ad,1,none⟩) (Kd.S_types ak.out aa.out yd_) (fun _ hk=>hk.2) (.slice aF ay.length aG)) (fun _ h_=>h_.1))) hb);have aC:=zz (Kd.S_lower aj (qF zb));replace ab:=zz (qR (g:=aB) (o:= .cells #[.slice al ae.length am,.slice an af.length ao,.slice ap ag.length ar,.slice au ah.length av] 27 (0,0)) (yP ab.out) hb);replace ac:=zz (qR (g:=aw) (o:= .cells #[.slice none 0 0,.slice none 0 0,.slice none 0 0,.slice none 0 0] 38 (0,0)) (yP ac.out) hb);replace aa:=zz (qR (g:=ad) (o:= .cells #[.slice aD ax.length aE,.slice aF ay.length aG,.slice none 0 0,.slice none 0 0] 38 (0,0)) (yP aa.out) hb);replace HB:=zz (zv zb hb);(try clear hb);(try clear hk);(try clear aj);obtain⟨aH,aI,bi⟩:=Kd.S_slice aC.out;subst bi;obtain⟨b4,b7,b8,ca,cb,cc,cd,ce⟩:=zc4 aa.out;obtain⟨cf,cg,ch,ci,cj,ck,cm,cn⟩:=zc4 ab.out)|(refine zL 51 18 Tryz.func51 #[.slice au ah.length av] ?_;(with_reducible refine(laws_toNextS.calls k _ _ ah aA _ ?s1 ?s2 A5.out).mono ?_);(case s1=>exact Kd.qD a6.out zb);(case s2=>exact a7.out);rintro e cX ⟨cT,rfl,aj,hb⟩;refine⟨_,rfl,?_⟩;replace ai:=zz (Kd.vK (by(with_reducible repeat(first|apply Kd.S_alloc|apply Kd.S_drewN|apply Kd.S_drew));exact(Kd.S_mono (Kd.S_far (p:=⟨ad,2,none⟩) (Kd.S_types ai.out aa.out yd_) (fun _ hk=>hk.2) (.slice aH az.length aI)) (fun _ h_=>h_.1))) hb);replace ak:=zz (Kd.vK (by(with_reducible repeat(first|apply Kd.S_alloc|apply Kd.S_drewN|apply Kd.S_drew));exact(Kd.S_mono (Kd.S_far (p:=⟨ad,2,none⟩) (Kd.S_types ak.out aa.out yd_) (fun _ hk=>hk.2) (.slice aH az.length aI)) (fun _ h_=>h_.1))) hb);replace aC:=zz (Kd.vK (by(with_reducible repeat(first|apply Kd.S_alloc|apply Kd.S_drewN|apply Kd.S_drew));exact(Kd.S_mono (Kd.S_far (p:=⟨ad,2,none⟩) (Kd.S_types aC.out aa.out yd_) (fun _ hk=>hk.2) (.slice aH az.length aI)) (fun _ h_=>h_.1))) hb);have aZ:=zz (Kd.vC aj (qF zb));replace ab:=zz (qR (g:=aB) (o:= .cells #[.slice al ae.length am,.slice an af.length ao,.slice ap ag.length ar,.slice au ah.length av] 27 (0,0)) (yP ab.out) hb);replace ac:=zz (qR (g:=aw) (o:= .cells #[.slice none 0 0,.slice none 0 0,.slice none 0 0,.slice none 0 0] 38 (0,0)) (yP ac.out) hb);replace aa:=zz (qR (g:=ad) (o:= .cells #[.slice aD ax.length aE,.slice aF ay.length aG,.slice aH az.length aI,.slice none 0 0] 38 (0,0)) (yP aa.out) hb);replace HB:=zz (zv zb hb);(try clear hb);(try clear hk);(try clear aj);obtain⟨aJ,aK,bj⟩:=Kd.vA aZ.out;subst bj;obtain⟨co,cp,cq,cr,ct,cu,cv,cw⟩:=zc4 aa.out;obtain⟨cx,cy,cz,cA,cB,cC,cD,cE⟩:=zc4 ac.out))
 refine bodyPost_ret (results_cell_row rfl _ _ aw 38 #[.slice aD ax.length aE,.slice aF ay.length aG,.slice aH az.length aI,.slice aJ aA.length aK] (0,0) _ rfl (yP ac.out) Tryz.underlying38 rfl zk) rfl ?_;exact⟨_,_,_,_,ze,yS (Kd.S_far (p:=⟨ad,3,none⟩) (Kd.S_types (Kd.S_types ai.out aa.out yd_) ac.out yd_) (fun _ hk=>hk.1.2) (.slice aJ aA.length aK)),yS (Kd.S_far (p:=⟨ad,3,none⟩) (Kd.S_types (Kd.S_types ak.out aa.out yd_) ac.out yd_) (fun _ hk=>hk.1.2) (.slice aJ aA.length aK)),yS (Kd.S_far (p:=⟨ad,3,none⟩) (Kd.S_types (Kd.S_types aC.out aa.out yd_) ac.out yd_) (fun _ hk=>hk.1.2) (.slice aJ aA.length aK)),yV (Kd.R_far (p:=⟨ad,3,none⟩) (Kd.vG (Kd.vG aZ.out aa.out yd_) ac.out yd_) (fun _ hk=>hk.1.2) (.slice aJ aA.length aK)),zb⟩
def laws_eqStringS.l0:Nat->List ByteArray->List ByteArray->Int->Option (Bool)
 |0,_,_,_=>none
 |k+1,x0,x1,x5=>if x5<(x0.length:Int) then(if 0<=x5 then(if x5<(x1.length:Int) then(if(rdOf ByteArray.empty x0 x5).toList=(rdOf ByteArray.empty x1 x5).toList then(laws_eqStringS.l0 k x0 x1 (wrap64 (x5+1))) else(some false)) else(none)) else(none)) else(some true)
def laws_eqStringS.f(k:Nat)(l0:List ByteArray)(l1:List ByteArray):Option (Bool):=if(l0.length:Int)=(l1.length:Int) then(laws_eqStringS.l0 k l0 l1 0) else(some false)
theorem laws_eqStringS.calls(k:Nat)(A0:Option Addr)(c0:Nat)(l0:List ByteArray)(A1:Option Addr)(c1:Nat)(l1:List ByteArray)(r:Bool)(w:World)(aj:Kd.C Kd.string w A0 l0.length l0)(ak:l0.length<=c0)(al:Kd.C Kd.string w A1 l1.length l1)(am:l1.length<=c1)(H:laws_eqStringS.f k l0 l1=some r):
 Calls Tryz.prog 159 #[.slice A0 l0.length c0,.slice A1 l1.length c1] w fun e w'=>e= .returned (.bool r)/\Below w.heap.size w w':=by
 have ax:=zz aj;have aF:=zz ak;clear aj ak;have ay:=zz al;have aG:=zz am;clear al am;have HB:=yB w;unfold laws_eqStringS.f at H;replace HB:=HB.out;have HW:=yB w;go_enter Tryz.func159,Tryz.ntmps159;refine yCn H ?_ ?_<;>clear H<;>intro c3 H
 ·obtain⟨an,ao⟩:=zw c3;have ap:(l0.length==l1.length)=false:=by first|simpa using c3|(simp at c3⊢;omega)
  obtain rfl:=zi H;exact yR
 obtain⟨an,ao⟩:=zq c3;have ap:(l0.length==l1.length)=true:=by first|simpa using c3|(simp at c3⊢;omega)
 clear c3;go_wp2_with(fail)
 go_loopg[5] k (fun kq v5 w'=>∃(aa:Int),v5= .int .i64 aa/\qA (laws_eqStringS.l0 kq l0 l1 aa=some r)/\qA (kq<=k)/\qA (Below w.heap.size w w'))
 case atStart=>exact⟨(0),zr,⟨H⟩,⟨Nat.le_refl _⟩,⟨HB⟩⟩
 case round=>
  clear H HB;obtain⟨aa,rfl,H,ah,HB⟩:=hrel;replace HB:=HB.out;replace H:=H.out;have ai:=yB w;cases gk with
  |zero=>simp[laws_eqStringS.l0] at H
  |succ az=>
   simp only[laws_eqStringS.l0] at H;refine yDn H ?_ ?_<;>clear H<;>intro aC H
   ·obtain rfl:=zi H;exact yR
   go_wp2_with(fail)
   try simp only[Act.put,List.setIfInBounds_toArray,List.set_cons_zero,List.set_cons_succ]
   refine qS (C:=fun W_=>Below w.heap.size w W_) zk zk (qL HB) ?_;replace H:=yAD H;obtain⟨aD,H⟩:=H;have ad:0<=(aa:Int):=z2;have ae:(aa:Int)<(l0.length:Int):=z2;obtain⟨aA,ar,ab⟩:=Kd.qX ax.out aa ad ae;cases ar;replace ab:=qJ ab;replace ad:=eq_true ad;replace ae:=eq_true ae;replace H:=yAD H;obtain⟨aE,H⟩:=H;have af:0<=(aa:Int):=z2;have ag:(aa:Int)<(l1.length:Int):=z2;obtain⟨aB,au,ac⟩:=Kd.qX ay.out aa af ag;cases au;replace ac:=qJ ac;replace af:=eq_true af;replace ag:=eq_true ag;refine yCn H ?_ ?_<;>clear H<;>intro c8 H
   ·obtain⟨av,aw⟩:=zw c8;obtain rfl:=zi H;exact yQ
   obtain⟨av,aw⟩:=zq c8;clear c8;repeat(first|go_big_quiet_skip|(go_big_quiet_want;go_big_quiet_op;first|go_big_quiet_on|(refine zE ?_;go_big_quiet_on)))
   clear HB;refine zW fun w9 (HB:Below w.heap.size w w9)=>?_;go_wp2_with(fail)
   go_roundg az
   case measure=>exact yM1 ah
   case rel=>exact⟨(wrap64 (aa+1)),zr,⟨H⟩,⟨yM1 ah⟩,⟨zv ai.out HB⟩⟩
def laws_eqEntry.f(aa:ByteArray)(ab:Int)(ac:ByteArray)(ad:Bool)(ae:ByteArray)(af:Int)(ag:ByteArray)(ah:Bool):Option (Bool):=if aa.toList=ae.toList then(if ab=af then(if ac.toList=ag.toList then(if(ad !=ah)=true then(some false) else(some true)) else(some false)) else(some false)) else(some false)
theorem laws_eqEntry.calls(ak:ByteArray)(al:Int)(am:ByteArray)(ae:Bool)(an:ByteArray)(ao:Int)(ap:ByteArray)(af:Bool)(r:Bool)(w:World)(H:laws_eqEntry.f ak al am ae an ao ap af=some r):
 Calls Tryz.prog 59 #[.agg #[.string ak,.int .i64 al,.string am,.bool ae],.agg #[.string an,.int .i64 ao,.string ap,.bool af]] w fun e w'=>e= .returned (.bool r)/\Below w.heap.size w w':=by
 have aL:=Tryz.underlying87;have HB:=yB w;unfold laws_eqEntry.f at H;replace HB:=HB.out;have HW:=yB w;go_enter Tryz.func59,Tryz.ntmps59;refine yCn H ?_ ?_<;>clear H<;>intro c3 H
 ·obtain⟨aC,aD⟩:=zw c3;obtain rfl:=zi H;go_wp2_with(first|(refine zN 2 ?_;(try(refine z4 ?_;dsimp only));refine zX 2 87 #[.string ak,.int .i64 al,.string am,.bool ae] ?_;intro ar hg av hbox hb;have hst:=zv HB hb;clear hg hb HB;replace HW:=zz (zv HW.out hst);obtain⟨aa,ab,ac,ad⟩:=zx4 hbox;have HB:=Below.refl av.heap.size av;clear hbox hst)|(refine zN 3 ?_;(try(refine z4 ?_;dsimp only));refine zX 3 87 #[.string an,.int .i64 ao,.string ap,.bool af] ?_;intro au hg aw hbox hb;have hst:=zv HB hb;clear hg hb HB;replace HW:=zz (zv HW.out hst);replace aa:=qG aa hst;replace ab:=qG ab hst;replace ac:=qG ac hst;replace ad:=qG ad hst;obtain⟨ag,ah,ai,aj⟩:=zx4 hbox;have HB:=Below.refl aw.heap.size aw;clear hbox hst))
  go_ret;exact⟨ze,zv HW.out HB⟩
 obtain⟨aC,aD⟩:=zq c3;clear c3;refine yCn H ?_ ?_<;>clear H<;>intro c4 H
 ·obtain⟨aE,aF⟩:=zw c4;obtain rfl:=zi H;go_wp2_with(first|(refine zN 2 ?_;(try(refine z4 ?_;dsimp only));refine zX 2 87 #[.string ak,.int .i64 al,.string am,.bool ae] ?_;intro ar hg ax hbox hb;have hst:=zv HB hb;clear hg hb HB;replace HW:=zz (zv HW.out hst);obtain⟨aa,ab,ac,ad⟩:=zx4 hbox;have HB:=Below.refl ax.heap.size ax;clear hbox hst)|(refine zN 3 ?_;(try(refine z4 ?_;dsimp only));refine zX 3 87 #[.string an,.int .i64 ao,.string ap,.bool af] ?_;intro au hg ay hbox hb;have hst:=zv HB hb;clear hg hb HB;replace HW:=zz (zv HW.out hst);replace aa:=qG aa hst;replace ab:=qG ab hst;replace ac:=qG ac hst;replace ad:=qG ad hst;obtain⟨ag,ah,ai,aj⟩:=zx4 hbox;have HB:=Below.refl ay.heap.size ay;clear hbox hst))
  go_ret;exact⟨ze,zv HW.out HB⟩
 obtain⟨aE,aF⟩:=zq c4;clear c4;refine yCn H ?_ ?_<;>clear H<;>intro c5 H
 ·obtain⟨aG,aH⟩:=zw c5;obtain rfl:=zi H;go_wp2_with(first|(refine zN 2 ?_;(try(refine z4 ?_;dsimp only));refine zX 2 87 #[.string ak,.int .i64 al,.string am,.bool ae] ?_;intro ar hg az hbox hb;have hst:=zv HB hb;clear hg hb HB;replace HW:=zz (zv HW.out hst);obtain⟨aa,ab,ac,ad⟩:=zx4 hbox;have HB:=Below.refl az.heap.size az;clear hbox hst)|(refine zN 3 ?_;(try(refine z4 ?_;dsimp only));refine zX 3 87 #[.string an,.int .i64 ao,.string ap,.bool af] ?_;intro au hg aA hbox hb;have hst:=zv HB hb;clear hg hb HB;replace HW:=zz (zv HW.out hst);replace aa:=qG aa hst;replace ab:=qG ab hst;replace ac:=qG ac hst;replace ad:=qG ad hst;obtain⟨ag,ah,ai,aj⟩:=zx4 hbox;have HB:=Below.refl aA.heap.size aA;clear hbox hst))
  go_ret;exact⟨ze,zv HW.out HB⟩
 obtain⟨aG,aH⟩:=zq c5;clear c5;refine yCn H ?_ ?_<;>clear H<;>intro c6 H
 ·have aI:(ae !=af)=false:=by simpa using c6
  (try(have aJ:decide (ae=af)=true:=by simpa using c6))
  (try(have aK:(ae==af)=true:=by simpa using c6))
  clear c6;obtain rfl:=zi H;go_wp2_with(first|(refine zN 2 ?_;(try(refine z4 ?_;dsimp only));refine zX 2 87 #[.string ak,.int .i64 al,.string am,.bool ae] ?_;intro ar hg w9 hbox hb;have hst:=zv HB hb;clear hg hb HB;replace HW:=zz (zv HW.out hst);obtain⟨aa,ab,ac,ad⟩:=zx4 hbox;have HB:=Below.refl w9.heap.size w9;clear hbox hst)|(refine zN 3 ?_;(try(refine z4 ?_;dsimp only));refine zX 3 87 #[.string an,.int .i64 ao,.string ap,.bool af] ?_;intro au hg aB hbox hb;have hst:=zv HB hb;clear hg hb HB;replace HW:=zz (zv HW.out hst);replace aa:=qG aa hst;replace ab:=qG ab hst;replace ac:=qG ac hst;replace ad:=qG ad hst;obtain⟨ag,ah,ai,aj⟩:=zx4 hbox;have HB:=Below.refl aB.heap.size aB;clear hbox hst))
  go_ret;exact⟨ze,zv HW.out HB⟩
 have aI:(ae !=af)=true:=c6
 (try(have aJ:decide (ae=af)=false:=by simpa using c6))
 (try(have aK:(ae==af)=false:=by simpa using c6))
 (try(have aM:¬(ae=af):=by simpa using c6))
 clear c6;obtain rfl:=zi H;go_wp2_with(first|(refine zN 2 ?_;(try(refine z4 ?_;dsimp only));refine zX 2 87 #[.string ak,.int .i64 al,.string am,.bool ae] ?_;intro ar hg w7 hbox hb;have hst:=zv HB hb;clear hg hb HB;replace HW:=zz (zv HW.out hst);obtain⟨aa,ab,ac,ad⟩:=zx4 hbox;have HB:=Below.refl w7.heap.size w7;clear hbox hst)|(refine zN 3 ?_;(try(refine z4 ?_;dsimp only));refine zX 3 87 #[.string an,.int .i64 ao,.string ap,.bool af] ?_;intro au hg w8 hbox hb;have hst:=zv HB hb;clear hg hb HB;replace HW:=zz (zv HW.out hst);replace aa:=qG aa hst;replace ab:=qG ab hst;replace ac:=qG ac hst;replace ad:=qG ad hst;obtain⟨ag,ah,ai,aj⟩:=zx4 hbox;have HB:=Below.refl w8.heap.size w8;clear hbox hst))
 go_ret;exact⟨ze,zv HW.out HB⟩
def laws_eqEntryS.l0:Nat->List (S87)->List (S87)->Int->Option (Bool)
 |0,_,_,_=>none
 |k+1,x0,x1,x5=>if x5<(x0.length:Int) then(if 0<=x5 then(if x5<(x1.length:Int) then((laws_eqEntry.f ((qB x0 x5).f0) ((qB x0 x5).f1) ((qB x0 x5).f2) ((qB x0 x5).f3) ((qB x1 x5).f0) ((qB x1 x5).f1) ((qB x1 x5).f2) ((qB x1 x5).f3)).bind fun aa=>(if aa=true then(laws_eqEntryS.l0 k x0 x1 (wrap64 (x5+1))) else(some false))) else(none)) else(none)) else(some true)
def laws_eqEntryS.f(k:Nat)(l0:List (S87))(l1:List (S87)):Option (Bool):=if(l0.length:Int)=(l1.length:Int) then(laws_eqEntryS.l0 k l0 l1 0) else(some false)
theorem laws_eqEntryS.calls(k:Nat)(A0:Option Addr)(c0:Nat)(l0:List (S87))(A1:Option Addr)(c1:Nat)(l1:List (S87))(r:Bool)(w:World)(al:Kd.C k87 w A0 l0.length l0)(am:l0.length<=c0)(an:Kd.C k87 w A1 l1.length l1)(ao:l1.length<=c1)(H:laws_eqEntryS.f k l0 l1=some r):
 Calls Tryz.prog 16 #[.slice A0 l0.length c0,.slice A1 l1.length c1] w fun e w'=>e= .returned (.bool r)/\Below w.heap.size w w':=by
 have aD:=Tryz.underlying87;have ax:=zz al;have aM:=zz am;clear al am;have ay:=zz an;have aN:=zz ao;clear an ao;have HB:=yB w;unfold laws_eqEntryS.f at H;replace HB:=HB.out;have HW:=yB w;go_enter Tryz.func16,Tryz.ntmps16;refine yCn H ?_ ?_<;>clear H<;>intro c3 H
 ·obtain⟨ap,ar⟩:=zw c3;have au:(l0.length==l1.length)=false:=by first|simpa using c3|(simp at c3⊢;omega)
  obtain rfl:=zi H;exact yR
 obtain⟨ap,ar⟩:=zq c3;have au:(l0.length==l1.length)=true:=by first|simpa using c3|(simp at c3⊢;omega)
 clear c3;go_wp2_with(fail)
 go_loopg[5] k (fun kq v5 w'=>∃(aa:Int),v5= .int .i64 aa/\qA (laws_eqEntryS.l0 kq l0 l1 aa=some r)/\qA (kq<=k)/\qA (Below w.heap.size w w'))
 case atStart=>exact⟨(0),zr,⟨H⟩,⟨Nat.le_refl _⟩,⟨HB⟩⟩
 case round=>
  clear H HB;obtain⟨aa,rfl,H,aj,HB⟩:=hrel;replace HB:=HB.out;replace H:=H.out;have ak:=yB w;cases gk with
  |zero=>simp[laws_eqEntryS.l0] at H
  |succ az=>
   simp only[laws_eqEntryS.l0] at H;refine yDn H ?_ ?_<;>clear H<;>intro aE H
   ·obtain rfl:=zi H;exact yR
   go_wp2_with(fail)
   try simp only[Act.put,List.setIfInBounds_toArray,List.set_cons_zero,List.set_cons_succ]
   refine qS (C:=fun W_=>Below w.heap.size w W_) zk zk (qL HB) ?_;replace H:=yAD H;obtain⟨aF,H⟩:=H;have aG:=yt (0<=(aa:Int));have aH:=yt ((aa:Int)<(l0.length:Int));obtain⟨aB,av,ab,ac,ad,ae⟩:=at_T87 ax.out aa z2 z2;cases av;replace ab:=qJ ab;replace ac:=qJ ac;replace ad:=qJ ad;replace ae:=qJ ae;replace H:=yAD H;obtain⟨aI,H⟩:=H;have aJ:=yt (0<=(aa:Int));have aK:=yt ((aa:Int)<(l1.length:Int));obtain⟨aC,aw,af,ag,ah,ai⟩:=at_T87 ay.out aa z2 z2;cases aw;replace af:=qJ af;replace ag:=qJ ag;replace ah:=qJ ah;replace ai:=qJ ai;replace H:=yf H;obtain⟨aL,A8,H⟩:=H;repeat(first|go_big_quiet_skip|(go_big_quiet_want;go_big_quiet_op;first|go_big_quiet_on|(apply zU;intro W hW;(first|with_reducible rfl|(go_at_call 59;exact callB (laws_eqEntry.calls _ _ _ _ _ _ _ _ _ _ A8.out) hW)|(go_simp;with_reducible rfl));go_big_quiet_on)))
   clear HB;refine zW fun aA (HB:Below w.heap.size w aA)=>?_;refine yT H ?_ ?_<;>clear H<;>rintro rfl H
   ·go_wp2_with(fail)
    go_roundg az
    case measure=>exact yM1 aj
    case rel=>exact⟨(wrap64 (aa+1)),zr,⟨H⟩,⟨yM1 aj⟩,⟨zv ak.out HB⟩⟩
   obtain rfl:=zi H;exact yR
def laws_eqItem.f(k:Nat)(aa:ByteArray)(ab:ByteArray)(ac:List ByteArray)(ad:ByteArray)(ae:List (S87))(af:ByteArray)(ag:ByteArray)(ah:List ByteArray)(ai:ByteArray)(aj:List (S87)):Option (Bool):=if aa.toList=af.toList then(if ab.toList=ag.toList then((laws_eqStringS.f k ac ah).bind fun ak=>(if ak=true then(if ad.toList=ai.toList then((laws_eqEntryS.f k ae aj).bind fun al=>(if al=true then(some true) else(some false))) else(some false)) else(some false))) else(some false)) else(some false)
theorem laws_eqItem.calls(k:Nat)(an:ByteArray)(ao:ByteArray)(ap:Option Addr)(ar:Nat)(aj:List ByteArray)(au:ByteArray)(av:Option Addr)(aw:Nat)(ak:List (S87))(ax:ByteArray)(ay:ByteArray)(az:Option Addr)(aA:Nat)(al:List ByteArray)(aB:ByteArray)(aC:Option Addr)(aD:Nat)(am:List (S87))(r:Bool)(w:World)(aJ:Kd.C Kd.string w ap aj.length aj)(aK:aj.length<=ar)(aL:Kd.C k87 w av ak.length ak)(aM:ak.length<=aw)(aN:Kd.C Kd.string w az al.length al)(aO:al.length<=aA)(aP:Kd.C k87 w aC am.length am)(aQ:am.length<=aD)(H:laws_eqItem.f k an ao aj au ak ax ay al aB am=some r):
 Calls Tryz.prog 105 #[.agg #[.string an,.string ao,.slice ap aj.length ar,.string au,.slice av ak.length aw],.agg #[.string ax,.string ay,.slice az al.length aA,.string aB,.slice aC am.length aD]] w fun e w'=>e= .returned (.bool r)/\Below w.heap.size w w':=by
 have a9:=Tryz.underlying103;have ah:=zz aJ;have aV:=zz aK;clear aJ aK;have aa:=zz aL;have aR:=zz aM;clear aL aM;have ai:=zz aN;have aW:=zz aO;clear aN aO;have ab:=zz aP;have aS:=zz aQ;clear aP aQ;have HB:=yB w;unfold laws_eqItem.f at H;replace HB:=HB.out;have HW:=yB w;go_enter Tryz.func105,Tryz.ntmps105;refine yCn H ?_ ?_<;>clear H<;>intro c3 H
 ·obtain⟨a3,a4⟩:=zw c3;obtain rfl:=zi H;go_wp2_with(first|(refine zN 2 ?_;(try(refine z4 ?_;dsimp only));refine zX 2 103 #[.string an,.string ao,.slice ap aj.length ar,.string au,.slice av ak.length aw] ?_;intro aT hg aX hbox hb;have hst:=zv HB hb;clear hg hb HB;replace HW:=zz (zv HW.out hst);replace ah:=zz (Kd.qD ah.out hst);replace aa:=zz (Kd.qD aa.out hst);replace ai:=zz (Kd.qD ai.out hst);replace ab:=zz (Kd.qD ab.out hst);obtain⟨ac,ad,ae,af,ag⟩:=zx5 hbox;have HB:=Below.refl aX.heap.size aX;clear hbox hst)|(refine zN 3 ?_;(try(refine z4 ?_;dsimp only));refine zX 3 103 #[.string ax,.string ay,.slice az al.length aA,.string aB,.slice aC am.length aD] ?_;intro aU hg aY hbox hb;have hst:=zv HB hb;clear hg hb HB;replace HW:=zz (zv HW.out hst);replace ah:=zz (Kd.qD ah.out hst);replace aa:=zz (Kd.qD aa.out hst);replace ai:=zz (Kd.qD ai.out hst);replace ab:=zz (Kd.qD ab.out hst);replace ac:=qG ac hst;replace ad:=qG ad hst;replace ae:=qG ae hst;replace af:=qG af hst;replace ag:=qG ag hst;obtain⟨aE,aF,aG,aH,aI⟩:=zx5 hbox;have HB:=Below.refl aY.heap.size aY;clear hbox hst))
  go_ret;exact⟨ze,zv HW.out HB⟩
 obtain⟨a3,a4⟩:=zq c3;clear c3;refine yCn H ?_ ?_<;>clear H<;>intro c4 H
 ·obtain⟨a5,a6⟩:=zw c4;obtain rfl:=zi H;go_wp2_with(first|(refine zN 2 ?_;(try(refine z4 ?_;dsimp only));refine zX 2 103 #[.string an,.string ao,.slice ap aj.length ar,.string au,.slice av ak.length aw] ?_;intro aT hg aZ hbox hb;have hst:=zv HB hb;clear hg hb HB;replace HW:=zz (zv HW.out hst);replace ah:=zz (Kd.qD ah.out hst);replace aa:=zz (Kd.qD aa.out hst);replace ai:=zz (Kd.qD ai.out hst);replace ab:=zz (Kd.qD ab.out hst);obtain⟨ac,ad,ae,af,ag⟩:=zx5 hbox;have HB:=Below.refl aZ.heap.size aZ;clear hbox hst)|(refine zN 3 ?_;(try(refine z4 ?_;dsimp only));refine zX 3 103 #[.string ax,.string ay,.slice az al.length aA,.string aB,.slice aC am.length aD] ?_;intro aU hg a0 hbox hb;have hst:=zv HB hb;clear hg hb HB;replace HW:=zz (zv HW.out hst);replace ah:=zz (Kd.qD ah.out hst);replace aa:=zz (Kd.qD aa.out hst);replace ai:=zz (Kd.qD ai.out hst);replace ab:=zz (Kd.qD ab.out hst);replace ac:=qG ac hst;replace ad:=qG ad hst;replace ae:=qG ae hst;replace af:=qG af hst;replace ag:=qG ag hst;obtain⟨aE,aF,aG,aH,aI⟩:=zx5 hbox;have HB:=Below.refl a0.heap.size a0;clear hbox hst))
  go_ret;exact⟨ze,zv HW.out HB⟩
 obtain⟨a5,a6⟩:=zq c4;clear c4;replace H:=yf H;obtain⟨ba,A5,H⟩:=H;go_wp2_with(first|(refine zN 2 ?_;(try(refine z4 ?_;dsimp only));refine zX 2 103 #[.string an,.string ao,.slice ap aj.length ar,.string au,.slice av ak.length aw] ?_;intro aT hg w9 hbox hb;have hst:=zv HB hb;clear hg hb HB;replace HW:=zz (zv HW.out hst);replace ah:=zz (Kd.qD ah.out hst);replace aa:=zz (Kd.qD aa.out hst);replace ai:=zz (Kd.qD ai.out hst);replace ab:=zz (Kd.qD ab.out hst);obtain⟨ac,ad,ae,af,ag⟩:=zx5 hbox;have HB:=Below.refl w9.heap.size w9;clear hbox hst)|(refine zN 3 ?_;(try(refine z4 ?_;dsimp only));refine zX 3 103 #[.string ax,.string ay,.slice az al.length aA,.string aB,.slice aC am.length aD] ?_;intro aU hg a1 hbox hb;have hst:=zv HB hb;clear hg hb HB;replace HW:=zz (zv HW.out hst);replace ah:=zz (Kd.qD ah.out hst);replace aa:=zz (Kd.qD aa.out hst);replace ai:=zz (Kd.qD ai.out hst);replace ab:=zz (Kd.qD ab.out hst);replace ac:=qG ac hst;replace ad:=qG ad hst;replace ae:=qG ae hst;replace af:=qG af hst;replace ag:=qG ag hst;obtain⟨aE,aF,aG,aH,aI⟩:=zx5 hbox;have HB:=Below.refl a1.heap.size a1;clear hbox hst))
 refine(laws_eqStringS.calls k _ _ _ _ _ _ _ _ (Kd.qD ah.out HB) aV.out (Kd.qD ai.out HB) aW.out A5.out).mono ?_;rintro e bc ⟨rfl,hb⟩;replace HB:=zv HB hb;clear hb;refine yF H ?_ ?_<;>clear H<;>rintro rfl H
 ·obtain rfl:=zi H;exact yR
 refine yCn H ?_ ?_<;>clear H<;>intro c7 H
 ·obtain⟨a7,a8⟩:=zw c7;obtain rfl:=zi H;exact yR
 obtain⟨a7,a8⟩:=zq c7;clear c7;replace H:=yf H;obtain⟨bb,a2,H⟩:=H;refine yT H ?_ ?_<;>clear H<;>rintro rfl H
 ·go_wp2_with(fail)
  refine(laws_eqEntryS.calls k _ _ _ _ _ _ _ _ (Kd.qD aa.out HB) aR.out (Kd.qD ab.out HB) aS.out a2.out).mono ?_;rintro e bd ⟨rfl,hb⟩;replace HB:=zv HB hb;clear hb;obtain rfl:=zi H;exact yR
 go_wp2_with(fail)
 refine(laws_eqEntryS.calls k _ _ _ _ _ _ _ _ (Kd.qD aa.out HB) aR.out (Kd.qD ab.out HB) aS.out a2.out).mono ?_;rintro e be ⟨rfl,hb⟩;replace HB:=zv HB hb;clear hb;obtain rfl:=zi H;exact yR
def laws_eqItemS.l0:Nat->List (S103)->List (S103)->Int->Option (Bool)
 |0,_,_,_=>none
 |k+1,x0,x1,x5=>if x5<(x0.length:Int) then(if 0<=x5 then(if x5<(x1.length:Int) then((laws_eqItem.f k ((qC x0 x5).f0) ((qC x0 x5).f1) ((qC x0 x5).f2) ((qC x0 x5).f3) ((qC x0 x5).f4) ((qC x1 x5).f0) ((qC x1 x5).f1) ((qC x1 x5).f2) ((qC x1 x5).f3) ((qC x1 x5).f4)).bind fun aa=>(if aa=true then(laws_eqItemS.l0 k x0 x1 (wrap64 (x5+1))) else(some false))) else(none)) else(none)) else(some true)
def laws_eqItemS.f(k:Nat)(l0:List (S103))(l1:List (S103)):Option (Bool):=if(l0.length:Int)=(l1.length:Int) then(laws_eqItemS.l0 k l0 l1 0) else(some false)
theorem laws_eqItemS.calls(k:Nat)(A0:Option Addr)(c0:Nat)(l0:List (S103))(A1:Option Addr)(c1:Nat)(l1:List (S103))(r:Bool)(w:World)(aG:Kd.C k103 w A0 l0.length l0)(aH:l0.length<=c0)(aI:Kd.C k103 w A1 l1.length l1)(aJ:l1.length<=c1)(H:laws_eqItemS.f k l0 l1=some r):
 Calls Tryz.prog 55 #[.slice A0 l0.length c0,.slice A1 l1.length c1] w fun e w'=>e= .returned (.bool r)/\Below w.heap.size w w':=by
 have a1:=Tryz.underlying103;have aQ:=zz aG;have bc:=zz aH;clear aG aH;have aR:=zz aI;have bd:=zz aJ;clear aI aJ;have HB:=yB w;unfold laws_eqItemS.f at H;replace HB:=HB.out;have HW:=yB w;go_enter Tryz.func55,Tryz.ntmps55;refine yCn H ?_ ?_<;>clear H<;>intro c3 H
 ·obtain⟨aL,aM⟩:=zw c3;have aN:(l0.length==l1.length)=false:=by first|simpa using c3|(simp at c3⊢;omega)
  obtain rfl:=zi H;exact yR
 obtain⟨aL,aM⟩:=zq c3;have aN:(l0.length==l1.length)=true:=by first|simpa using c3|(simp at c3⊢;omega)
 clear c3;go_wp2_with(fail)
 go_loopg[5] k (fun kq v5 w'=>∃(aa:Int),v5= .int .i64 aa/\qA (laws_eqItemS.l0 kq l0 l1 aa=some r)/\qA (kq<=k)/\qA (Below w.heap.size w w'))
 case atStart=>exact⟨(0),zr,⟨H⟩,⟨Nat.le_refl _⟩,⟨HB⟩⟩
 case round=>
  clear H HB;obtain⟨aa,rfl,H,aw,HB⟩:=hrel;replace HB:=HB.out;replace H:=H.out;have aF:=yB w;cases gk with
  |zero=>simp[laws_eqItemS.l0] at H
  |succ aK=>
   simp only[laws_eqItemS.l0] at H;refine yDn H ?_ ?_<;>clear H<;>intro a4 H
   ·obtain rfl:=zi H;exact yR
   go_wp2_with(fail)
   try simp only[Act.put,List.setIfInBounds_toArray,List.set_cons_zero,List.set_cons_succ]
   refine qS (C:=fun W_=>Below w.heap.size w W_) zk zk (qL HB) ?_;replace H:=yAD H;obtain⟨a5,H⟩:=H;have a6:=yt (0<=(aa:Int));have a7:=yt ((aa:Int)<(l0.length:Int));obtain⟨a2,aS,aT,aU,aV,aO,ab,ac,ad,ae,af,ag,ah,ai,aj⟩:=at_T103 aQ.out aa z2 z2;cases aO;replace ab:=qJ ab;replace ac:=qJ ac;replace ad:=qJ ad;replace ae:=qJ ae;replace af:=qJ af;have ax:=zz ah;have ay:=zz ag;clear ah ag;have az:=zz aj;have aA:=zz ai;clear aj ai;replace H:=yAD H;obtain⟨a8,H⟩:=H;have a9:=yt (0<=(aa:Int));have ba:=yt ((aa:Int)<(l1.length:Int));obtain⟨a3,aW,aX,aY,aZ,aP,ak,al,am,an,ao,ap,ar,au,av⟩:=at_T103 aR.out aa z2 z2;cases aP;replace ak:=qJ ak;replace al:=qJ al;replace am:=qJ am;replace an:=qJ an;replace ao:=qJ ao;have aB:=zz ar;have aC:=zz ap;clear ar ap;have aD:=zz av;have aE:=zz au;clear av au;replace H:=yf H;obtain⟨bb,A8,H⟩:=H;repeat(first|go_big_quiet_skip|(go_big_quiet_want;go_big_quiet_op;first|go_big_quiet_on|(apply zU;intro W hW;(first|with_reducible rfl|(go_at_call 105;exact callB (laws_eqItem.calls aK _ _ _ _ _ _ _ _ _ _ _ _ _ _ _ _ _ _ _ _ (Kd.qD ax.out hW) ay.out (Kd.qD az.out hW) aA.out (Kd.qD aB.out hW) aC.out (Kd.qD aD.out hW) aE.out A8.out) hW)|(go_simp;with_reducible rfl));go_big_quiet_on)))
   clear HB;refine zW fun a0 (HB:Below w.heap.size w a0)=>?_;refine yT H ?_ ?_<;>clear H<;>rintro rfl H
   ·go_wp2_with(fail)
    go_roundg aK
    case measure=>exact yM1 aw
    case rel=>exact⟨(wrap64 (aa+1)),zr,⟨H⟩,⟨yM1 aw⟩,⟨zv aF.out HB⟩⟩
   obtain rfl:=zi H;exact yR
def laws_eqGen.f(aa:Int)(ab:ByteArray)(ac:Int)(ad:ByteArray):Option (Bool):=if aa=ac then(if ab.toList=ad.toList then(some true) else(some false)) else(some false)
theorem laws_eqGen.calls(ac:Int)(ad:ByteArray)(ae:Int)(af:ByteArray)(r:Bool)(w:World)(H:laws_eqGen.f ac ad ae af=some r):
 Calls Tryz.prog 188 #[.agg #[.int .i64 ac,.string ad],.agg #[.int .i64 ae,.string af]] w fun e w'=>e= .returned (.bool r)/\Below w.heap.size w w':=by
 have ap:=Tryz.underlying139;have HB:=yB w;unfold laws_eqGen.f at H;replace HB:=HB.out;have HW:=yB w;go_enter Tryz.func188,Tryz.ntmps188;refine yCn H ?_ ?_<;>clear H<;>intro c3 H
 ·obtain⟨al,am⟩:=zw c3;obtain rfl:=zi H;go_wp2_with(first|(refine zN 2 ?_;(try(refine z4 ?_;dsimp only));refine zX 2 139 #[.int .i64 ac,.string ad] ?_;intro ai hg w9 hbox hb;have hst:=zv HB hb;clear hg hb HB;replace HW:=zz (zv HW.out hst);obtain⟨aa,ab⟩:=zx2 hbox;have HB:=Below.refl w9.heap.size w9;clear hbox hst)|(refine zN 3 ?_;(try(refine z4 ?_;dsimp only));refine zX 3 139 #[.int .i64 ae,.string af] ?_;intro aj hg ak hbox hb;have hst:=zv HB hb;clear hg hb HB;replace HW:=zz (zv HW.out hst);replace aa:=qG aa hst;replace ab:=qG ab hst;obtain⟨ag,ah⟩:=zx2 hbox;have HB:=Below.refl ak.heap.size ak;clear hbox hst))
  go_ret;exact⟨ze,zv HW.out HB⟩
 obtain⟨al,am⟩:=zq c3;clear c3;refine yCn H ?_ ?_<;>clear H<;>intro c4 H
 ·obtain⟨an,ao⟩:=zw c4;obtain rfl:=zi H;go_wp2_with(first|(refine zN 2 ?_;(try(refine z4 ?_;dsimp only));refine zX 2 139 #[.int .i64 ac,.string ad] ?_;intro ai hg w7 hbox hb;have hst:=zv HB hb;clear hg hb HB;replace HW:=zz (zv HW.out hst);obtain⟨aa,ab⟩:=zx2 hbox;have HB:=Below.refl w7.heap.size w7;clear hbox hst)|(refine zN 3 ?_;(try(refine z4 ?_;dsimp only));refine zX 3 139 #[.int .i64 ae,.string af] ?_;intro aj hg w8 hbox hb;have hst:=zv HB hb;clear hg hb HB;replace HW:=zz (zv HW.out hst);replace aa:=qG aa hst;replace ab:=qG ab hst;obtain⟨ag,ah⟩:=zx2 hbox;have HB:=Below.refl w8.heap.size w8;clear hbox hst))
  go_ret;exact⟨ze,zv HW.out HB⟩
 obtain⟨an,ao⟩:=zq c4;clear c4;obtain rfl:=zi H;go_wp2_with(first|(refine zN 2 ?_;(try(refine z4 ?_;dsimp only));refine zX 2 139 #[.int .i64 ac,.string ad] ?_;intro ai hg w5 hbox hb;have hst:=zv HB hb;clear hg hb HB;replace HW:=zz (zv HW.out hst);obtain⟨aa,ab⟩:=zx2 hbox;have HB:=Below.refl w5.heap.size w5;clear hbox hst)|(refine zN 3 ?_;(try(refine z4 ?_;dsimp only));refine zX 3 139 #[.int .i64 ae,.string af] ?_;intro aj hg w6 hbox hb;have hst:=zv HB hb;clear hg hb HB;replace HW:=zz (zv HW.out hst);replace aa:=qG aa hst;replace ab:=qG ab hst;obtain⟨ag,ah⟩:=zx2 hbox;have HB:=Below.refl w6.heap.size w6;clear hbox hst))
 go_ret;exact⟨ze,zv HW.out HB⟩
def laws_eqGenS.l0:Nat->List (S139)->List (S139)->Int->Option (Bool)
 |0,_,_,_=>none
 |k+1,x0,x1,x5=>if x5<(x0.length:Int) then(if 0<=x5 then(if x5<(x1.length:Int) then((laws_eqGen.f ((qP x0 x5).f0) ((qP x0 x5).f1) ((qP x1 x5).f0) ((qP x1 x5).f1)).bind fun aa=>(if aa=true then(laws_eqGenS.l0 k x0 x1 (wrap64 (x5+1))) else(some false))) else(none)) else(none)) else(some true)
def laws_eqGenS.f(k:Nat)(l0:List (S139))(l1:List (S139)):Option (Bool):=if(l0.length:Int)=(l1.length:Int) then(laws_eqGenS.l0 k l0 l1 0) else(some false)
theorem laws_eqGenS.calls(k:Nat)(A0:Option Addr)(c0:Nat)(l0:List (S139))(A1:Option Addr)(c1:Nat)(l1:List (S139))(r:Bool)(w:World)(ah:Kd.C k139 w A0 l0.length l0)(ai:l0.length<=c0)(aj:Kd.C k139 w A1 l1.length l1)(ak:l1.length<=c1)(H:laws_eqGenS.f k l0 l1=some r):
 Calls Tryz.prog 160 #[.slice A0 l0.length c0,.slice A1 l1.length c1] w fun e w'=>e= .returned (.bool r)/\Below w.heap.size w w':=by
 have ax:=Tryz.underlying139;have ar:=zz ah;have aI:=zz ai;clear ah ai;have au:=zz aj;have aJ:=zz ak;clear aj ak;have HB:=yB w;unfold laws_eqGenS.f at H;replace HB:=HB.out;have HW:=yB w;go_enter Tryz.func160,Tryz.ntmps160;refine yCn H ?_ ?_<;>clear H<;>intro c3 H
 ·obtain⟨al,am⟩:=zw c3;have an:(l0.length==l1.length)=false:=by first|simpa using c3|(simp at c3⊢;omega)
  obtain rfl:=zi H;exact yR
 obtain⟨al,am⟩:=zq c3;have an:(l0.length==l1.length)=true:=by first|simpa using c3|(simp at c3⊢;omega)
 clear c3;go_wp2_with(fail)
 go_loopg[5] k (fun kq v5 w'=>∃(aa:Int),v5= .int .i64 aa/\qA (laws_eqGenS.l0 kq l0 l1 aa=some r)/\qA (kq<=k)/\qA (Below w.heap.size w w'))
 case atStart=>exact⟨(0),zr,⟨H⟩,⟨Nat.le_refl _⟩,⟨HB⟩⟩
 case round=>
  clear H HB;obtain⟨aa,rfl,H,af,HB⟩:=hrel;replace HB:=HB.out;replace H:=H.out;have ag:=yB w;cases gk with
  |zero=>simp[laws_eqGenS.l0] at H
  |succ av=>
   simp only[laws_eqGenS.l0] at H;refine yDn H ?_ ?_<;>clear H<;>intro aA H
   ·obtain rfl:=zi H;exact yR
   go_wp2_with(fail)
   try simp only[Act.put,List.setIfInBounds_toArray,List.set_cons_zero,List.set_cons_succ]
   refine qS (C:=fun W_=>Below w.heap.size w W_) zk zk (qL HB) ?_;replace H:=yAD H;obtain⟨aB,H⟩:=H;have aC:=yt (0<=(aa:Int));have aD:=yt ((aa:Int)<(l0.length:Int));obtain⟨ay,ao,ab,ac⟩:=at_T139 ar.out aa z2 z2;cases ao;replace ab:=qJ ab;replace ac:=qJ ac;replace H:=yAD H;obtain⟨aE,H⟩:=H;have aF:=yt (0<=(aa:Int));have aG:=yt ((aa:Int)<(l1.length:Int));obtain⟨az,ap,ad,ae⟩:=at_T139 au.out aa z2 z2;cases ap;replace ad:=qJ ad;replace ae:=qJ ae;replace H:=yf H;obtain⟨aH,A8,H⟩:=H;repeat(first|go_big_quiet_skip|(go_big_quiet_want;go_big_quiet_op;first|go_big_quiet_on|(apply zU;intro W hW;(first|with_reducible rfl|(go_at_call 188;exact callB (laws_eqGen.calls _ _ _ _ _ _ A8.out) hW)|(go_simp;with_reducible rfl));go_big_quiet_on)))
   clear HB;refine zW fun aw (HB:Below w.heap.size w aw)=>?_;refine yT H ?_ ?_<;>clear H<;>rintro rfl H
   ·go_wp2_with(fail)
    go_roundg av
    case measure=>exact yM1 af
    case rel=>exact⟨(wrap64 (aa+1)),zr,⟨H⟩,⟨yM1 af⟩,⟨zv ag.out HB⟩⟩
   obtain rfl:=zi H;exact yR
def laws_eqProfile.f(k:Nat)(aa:ByteArray)(ab:Int)(ac:List (S139))(ad:ByteArray)(ae:Int)(af:List (S139)):Option (Bool):=if aa.toList=ad.toList then(if ab=ae then((laws_eqGenS.f k ac af).bind fun ag=>(if ag=true then(some true) else(some false))) else(some false)) else(some false)
theorem laws_eqProfile.calls(k:Nat)(ah:ByteArray)(ai:Int)(aj:Option Addr)(ak:Nat)(af:List (S139))(al:ByteArray)(am:Int)(an:Option Addr)(ao:Nat)(ag:List (S139))(r:Bool)(w:World)(av:Kd.C k139 w aj af.length af)(aw:af.length<=ak)(ax:Kd.C k139 w an ag.length ag)(ay:ag.length<=ao)(H:laws_eqProfile.f k ah ai af al am ag=some r):
 Calls Tryz.prog 106 #[.agg #[.string ah,.int .i64 ai,.slice aj af.length ak],.agg #[.string al,.int .i64 am,.slice an ag.length ao]] w fun e w'=>e= .returned (.bool r)/\Below w.heap.size w w':=by
 have aL:=Tryz.underlying137;have ad:=zz av;have aB:=zz aw;clear av aw;have ae:=zz ax;have aC:=zz ay;clear ax ay;have HB:=yB w;unfold laws_eqProfile.f at H;replace HB:=HB.out;have HW:=yB w;go_enter Tryz.func106,Tryz.ntmps106;refine yCn H ?_ ?_<;>clear H<;>intro c3 H
 ·obtain⟨aH,aI⟩:=zw c3;obtain rfl:=zi H;go_wp2_with(first|(refine zN 2 ?_;(try(refine z4 ?_;dsimp only));refine zX 2 137 #[.string ah,.int .i64 ai,.slice aj af.length ak] ?_;intro az hg aD hbox hb;have hst:=zv HB hb;clear hg hb HB;replace HW:=zz (zv HW.out hst);replace ad:=zz (Kd.qD ad.out hst);replace ae:=zz (Kd.qD ae.out hst);obtain⟨aa,ab,ac⟩:=zx3 hbox;have HB:=Below.refl aD.heap.size aD;clear hbox hst)|(refine zN 3 ?_;(try(refine z4 ?_;dsimp only));refine zX 3 137 #[.string al,.int .i64 am,.slice an ag.length ao] ?_;intro aA hg aE hbox hb;have hst:=zv HB hb;clear hg hb HB;replace HW:=zz (zv HW.out hst);replace ad:=zz (Kd.qD ad.out hst);replace ae:=zz (Kd.qD ae.out hst);replace aa:=qG aa hst;replace ab:=qG ab hst;replace ac:=qG ac hst;obtain⟨ap,ar,au⟩:=zx3 hbox;have HB:=Below.refl aE.heap.size aE;clear hbox hst))
  go_ret;exact⟨ze,zv HW.out HB⟩
 obtain⟨aH,aI⟩:=zq c3;clear c3;refine yCn H ?_ ?_<;>clear H<;>intro c4 H
 ·obtain⟨aJ,aK⟩:=zw c4;obtain rfl:=zi H;go_wp2_with(first|(refine zN 2 ?_;(try(refine z4 ?_;dsimp only));refine zX 2 137 #[.string ah,.int .i64 ai,.slice aj af.length ak] ?_;intro az hg aF hbox hb;have hst:=zv HB hb;clear hg hb HB;replace HW:=zz (zv HW.out hst);replace ad:=zz (Kd.qD ad.out hst);replace ae:=zz (Kd.qD ae.out hst);obtain⟨aa,ab,ac⟩:=zx3 hbox;have HB:=Below.refl aF.heap.size aF;clear hbox hst)|(refine zN 3 ?_;(try(refine z4 ?_;dsimp only));refine zX 3 137 #[.string al,.int .i64 am,.slice an ag.length ao] ?_;intro aA hg aG hbox hb;have hst:=zv HB hb;clear hg hb HB;replace HW:=zz (zv HW.out hst);replace ad:=zz (Kd.qD ad.out hst);replace ae:=zz (Kd.qD ae.out hst);replace aa:=qG aa hst;replace ab:=qG ab hst;replace ac:=qG ac hst;obtain⟨ap,ar,au⟩:=zx3 hbox;have HB:=Below.refl aG.heap.size aG;clear hbox hst))
  go_ret;exact⟨ze,zv HW.out HB⟩
 obtain⟨aJ,aK⟩:=zq c4;clear c4;replace H:=yf H;obtain⟨aM,A5,H⟩:=H;go_wp2_with(first|(refine zN 2 ?_;(try(refine z4 ?_;dsimp only));refine zX 2 137 #[.string ah,.int .i64 ai,.slice aj af.length ak] ?_;intro az hg w8 hbox hb;have hst:=zv HB hb;clear hg hb HB;replace HW:=zz (zv HW.out hst);replace ad:=zz (Kd.qD ad.out hst);replace ae:=zz (Kd.qD ae.out hst);obtain⟨aa,ab,ac⟩:=zx3 hbox;have HB:=Below.refl w8.heap.size w8;clear hbox hst)|(refine zN 3 ?_;(try(refine z4 ?_;dsimp only));refine zX 3 137 #[.string al,.int .i64 am,.slice an ag.length ao] ?_;intro aA hg w9 hbox hb;have hst:=zv HB hb;clear hg hb HB;replace HW:=zz (zv HW.out hst);replace ad:=zz (Kd.qD ad.out hst);replace ae:=zz (Kd.qD ae.out hst);replace aa:=qG aa hst;replace ab:=qG ab hst;replace ac:=qG ac hst;obtain⟨ap,ar,au⟩:=zx3 hbox;have HB:=Below.refl w9.heap.size w9;clear hbox hst))
 refine(laws_eqGenS.calls k _ _ _ _ _ _ _ _ (Kd.qD ad.out HB) aB.out (Kd.qD ae.out HB) aC.out A5.out).mono ?_;rintro e aN ⟨rfl,hb⟩;replace HB:=zv HB hb;clear hb;refine yT H ?_ ?_<;>clear H<;>rintro rfl H
 ·obtain rfl:=zi H;exact yR
 obtain rfl:=zi H;exact yR
def laws_eqProfileS.l0:Nat->List (S137)->List (S137)->Int->Option (Bool)
 |0,_,_,_=>none
 |k+1,x0,x1,x5=>if x5<(x0.length:Int) then(if 0<=x5 then(if x5<(x1.length:Int) then((laws_eqProfile.f k ((qE x0 x5).f0) ((qE x0 x5).f1) ((qE x0 x5).f2) ((qE x1 x5).f0) ((qE x1 x5).f1) ((qE x1 x5).f2)).bind fun aa=>(if aa=true then(laws_eqProfileS.l0 k x0 x1 (wrap64 (x5+1))) else(some false))) else(none)) else(none)) else(some true)
def laws_eqProfileS.f(k:Nat)(l0:List (S137))(l1:List (S137)):Option (Bool):=if(l0.length:Int)=(l1.length:Int) then(laws_eqProfileS.l0 k l0 l1 0) else(some false)
theorem laws_eqProfileS.calls(k:Nat)(A0:Option Addr)(c0:Nat)(l0:List (S137))(A1:Option Addr)(c1:Nat)(l1:List (S137))(r:Bool)(w:World)(au:Kd.C k137 w A0 l0.length l0)(av:l0.length<=c0)(aw:Kd.C k137 w A1 l1.length l1)(ax:l1.length<=c1)(H:laws_eqProfileS.f k l0 l1=some r):
 Calls Tryz.prog 56 #[.slice A0 l0.length c0,.slice A1 l1.length c1] w fun e w'=>e= .returned (.bool r)/\Below w.heap.size w w':=by
 have aL:=Tryz.underlying137;have aE:=zz au;have aW:=zz av;clear au av;have aF:=zz aw;have aX:=zz ax;clear aw ax;have HB:=yB w;unfold laws_eqProfileS.f at H;replace HB:=HB.out;have HW:=yB w;go_enter Tryz.func56,Tryz.ntmps56;refine yCn H ?_ ?_<;>clear H<;>intro c3 H
 ·obtain⟨az,aA⟩:=zw c3;have aB:(l0.length==l1.length)=false:=by first|simpa using c3|(simp at c3⊢;omega)
  obtain rfl:=zi H;exact yR
 obtain⟨az,aA⟩:=zq c3;have aB:(l0.length==l1.length)=true:=by first|simpa using c3|(simp at c3⊢;omega)
 clear c3;go_wp2_with(fail)
 go_loopg[5] k (fun kq v5 w'=>∃(aa:Int),v5= .int .i64 aa/\qA (laws_eqProfileS.l0 kq l0 l1 aa=some r)/\qA (kq<=k)/\qA (Below w.heap.size w w'))
 case atStart=>exact⟨(0),zr,⟨H⟩,⟨Nat.le_refl _⟩,⟨HB⟩⟩
 case round=>
  clear H HB;obtain⟨aa,rfl,H,al,HB⟩:=hrel;replace HB:=HB.out;replace H:=H.out;have ar:=yB w;cases gk with
  |zero=>simp[laws_eqProfileS.l0] at H
  |succ ay=>
   simp only[laws_eqProfileS.l0] at H;refine yDn H ?_ ?_<;>clear H<;>intro aO H
   ·obtain rfl:=zi H;exact yR
   go_wp2_with(fail)
   try simp only[Act.put,List.setIfInBounds_toArray,List.set_cons_zero,List.set_cons_succ]
   refine qS (C:=fun W_=>Below w.heap.size w W_) zk zk (qL HB) ?_;replace H:=yAD H;obtain⟨aP,H⟩:=H;have aQ:=yt (0<=(aa:Int));have aR:=yt ((aa:Int)<(l0.length:Int));obtain⟨aM,aG,aH,aC,ab,ac,ad,ae,af⟩:=at_T137 aE.out aa z2 z2;cases aC;replace ab:=qJ ab;replace ac:=qJ ac;replace ad:=qJ ad;have am:=zz af;have an:=zz ae;clear af ae;replace H:=yAD H;obtain⟨aS,H⟩:=H;have aT:=yt (0<=(aa:Int));have aU:=yt ((aa:Int)<(l1.length:Int));obtain⟨aN,aI,aJ,aD,ag,ah,ai,aj,ak⟩:=at_T137 aF.out aa z2 z2;cases aD;replace ag:=qJ ag;replace ah:=qJ ah;replace ai:=qJ ai;have ao:=zz ak;have ap:=zz aj;clear ak aj;replace H:=yf H;obtain⟨aV,A8,H⟩:=H;repeat(first|go_big_quiet_skip|(go_big_quiet_want;go_big_quiet_op;first|go_big_quiet_on|(apply zU;intro W hW;(first|with_reducible rfl|(go_at_call 106;exact callB (laws_eqProfile.calls ay _ _ _ _ _ _ _ _ _ _ _ _ (Kd.qD am.out hW) an.out (Kd.qD ao.out hW) ap.out A8.out) hW)|(go_simp;with_reducible rfl));go_big_quiet_on)))
   clear HB;refine zW fun aK (HB:Below w.heap.size w aK)=>?_;refine yT H ?_ ?_<;>clear H<;>rintro rfl H
   ·go_wp2_with(fail)
    go_roundg ay
    case measure=>exact yM1 al
    case rel=>exact⟨(wrap64 (aa+1)),zr,⟨H⟩,⟨yM1 al⟩,⟨zv ar.out HB⟩⟩
   obtain rfl:=zi H;exact yR
def laws_eqPending.f(k:Nat)(aa:ByteArray)(ab:List (S87))(ac:ByteArray)(ad:ByteArray)(ae:List (S87))(af:ByteArray):Option (Bool):=if aa.toList=ad.toList then((laws_eqEntryS.f k ab ae).bind fun ag=>(if ag=true then(if ac.toList=af.toList then(some true) else(some false)) else(some false))) else(some false)
theorem laws_eqPending.calls(k:Nat)(ah:ByteArray)(ai:Option Addr)(aj:Nat)(af:List (S87))(ak:ByteArray)(al:ByteArray)(am:Option Addr)(an:Nat)(ag:List (S87))(ao:ByteArray)(r:Bool)(w:World)(av:Kd.C k87 w ai af.length af)(aw:af.length<=aj)(ax:Kd.C k87 w am ag.length ag)(ay:ag.length<=an)(H:laws_eqPending.f k ah af ak al ag ao=some r):
 Calls Tryz.prog 107 #[.agg #[.string ah,.slice ai af.length aj,.string ak],.agg #[.string al,.slice am ag.length an,.string ao]] w fun e w'=>e= .returned (.bool r)/\Below w.heap.size w w':=by
 have aJ:=Tryz.underlying133;have aa:=zz av;have az:=zz aw;clear av aw;have ab:=zz ax;have aA:=zz ay;clear ax ay;have HB:=yB w;unfold laws_eqPending.f at H;replace HB:=HB.out;have HW:=yB w;go_enter Tryz.func107,Tryz.ntmps107;refine yCn H ?_ ?_<;>clear H<;>intro c3 H
 ·obtain⟨aF,aG⟩:=zw c3;obtain rfl:=zi H;go_wp2_with(first|(refine zN 2 ?_;(try(refine z4 ?_;dsimp only));refine zX 2 133 #[.string ah,.slice ai af.length aj,.string ak] ?_;intro aB hg aD hbox hb;have hst:=zv HB hb;clear hg hb HB;replace HW:=zz (zv HW.out hst);replace aa:=zz (Kd.qD aa.out hst);replace ab:=zz (Kd.qD ab.out hst);obtain⟨ac,ad,ae⟩:=zx3 hbox;have HB:=Below.refl aD.heap.size aD;clear hbox hst)|(refine zN 3 ?_;(try(refine z4 ?_;dsimp only));refine zX 3 133 #[.string al,.slice am ag.length an,.string ao] ?_;intro aC hg aE hbox hb;have hst:=zv HB hb;clear hg hb HB;replace HW:=zz (zv HW.out hst);replace aa:=zz (Kd.qD aa.out hst);replace ab:=zz (Kd.qD ab.out hst);replace ac:=qG ac hst;replace ad:=qG ad hst;replace ae:=qG ae hst;obtain⟨ap,ar,au⟩:=zx3 hbox;have HB:=Below.refl aE.heap.size aE;clear hbox hst))
  go_ret;exact⟨ze,zv HW.out HB⟩
 obtain⟨aF,aG⟩:=zq c3;clear c3;replace H:=yf H;obtain⟨aK,A4,H⟩:=H;go_wp2_with(first|(refine zN 2 ?_;(try(refine z4 ?_;dsimp only));refine zX 2 133 #[.string ah,.slice ai af.length aj,.string ak] ?_;intro aB hg w8 hbox hb;have hst:=zv HB hb;clear hg hb HB;replace HW:=zz (zv HW.out hst);replace aa:=zz (Kd.qD aa.out hst);replace ab:=zz (Kd.qD ab.out hst);obtain⟨ac,ad,ae⟩:=zx3 hbox;have HB:=Below.refl w8.heap.size w8;clear hbox hst)|(refine zN 3 ?_;(try(refine z4 ?_;dsimp only));refine zX 3 133 #[.string al,.slice am ag.length an,.string ao] ?_;intro aC hg w9 hbox hb;have hst:=zv HB hb;clear hg hb HB;replace HW:=zz (zv HW.out hst);replace aa:=zz (Kd.qD aa.out hst);replace ab:=zz (Kd.qD ab.out hst);replace ac:=qG ac hst;replace ad:=qG ad hst;replace ae:=qG ae hst;obtain⟨ap,ar,au⟩:=zx3 hbox;have HB:=Below.refl w9.heap.size w9;clear hbox hst))
 refine(laws_eqEntryS.calls k _ _ _ _ _ _ _ _ (Kd.qD aa.out HB) az.out (Kd.qD ab.out HB) aA.out A4.out).mono ?_;rintro e aL ⟨rfl,hb⟩;replace HB:=zv HB hb;clear hb;refine yF H ?_ ?_<;>clear H<;>rintro rfl H
 ·obtain rfl:=zi H;exact yR
 refine yCn H ?_ ?_<;>clear H<;>intro c6 H
 ·obtain⟨aH,aI⟩:=zw c6;obtain rfl:=zi H;exact yR
 obtain⟨aH,aI⟩:=zq c6;clear c6;obtain rfl:=zi H;exact yR
def laws_eqPendingS.l0:Nat->List (S133)->List (S133)->Int->Option (Bool)
 |0,_,_,_=>none
 |k+1,x0,x1,x5=>if x5<(x0.length:Int) then(if 0<=x5 then(if x5<(x1.length:Int) then((laws_eqPending.f k ((qN x0 x5).f0) ((qN x0 x5).f1) ((qN x0 x5).f2) ((qN x1 x5).f0) ((qN x1 x5).f1) ((qN x1 x5).f2)).bind fun aa=>(if aa=true then(laws_eqPendingS.l0 k x0 x1 (wrap64 (x5+1))) else(some false))) else(none)) else(none)) else(some true)
def laws_eqPendingS.f(k:Nat)(l0:List (S133))(l1:List (S133)):Option (Bool):=if(l0.length:Int)=(l1.length:Int) then(laws_eqPendingS.l0 k l0 l1 0) else(some false)
theorem laws_eqPendingS.calls(k:Nat)(A0:Option Addr)(c0:Nat)(l0:List (S133))(A1:Option Addr)(c1:Nat)(l1:List (S133))(r:Bool)(w:World)(au:Kd.C k133 w A0 l0.length l0)(av:l0.length<=c0)(aw:Kd.C k133 w A1 l1.length l1)(ax:l1.length<=c1)(H:laws_eqPendingS.f k l0 l1=some r):
 Calls Tryz.prog 57 #[.slice A0 l0.length c0,.slice A1 l1.length c1] w fun e w'=>e= .returned (.bool r)/\Below w.heap.size w w':=by
 have aL:=Tryz.underlying133;have aE:=zz au;have aW:=zz av;clear au av;have aF:=zz aw;have aX:=zz ax;clear aw ax;have HB:=yB w;unfold laws_eqPendingS.f at H;replace HB:=HB.out;have HW:=yB w;go_enter Tryz.func57,Tryz.ntmps57;refine yCn H ?_ ?_<;>clear H<;>intro c3 H
 ·obtain⟨az,aA⟩:=zw c3;have aB:(l0.length==l1.length)=false:=by first|simpa using c3|(simp at c3⊢;omega)
  obtain rfl:=zi H;exact yR
 obtain⟨az,aA⟩:=zq c3;have aB:(l0.length==l1.length)=true:=by first|simpa using c3|(simp at c3⊢;omega)
 clear c3;go_wp2_with(fail)
 go_loopg[5] k (fun kq v5 w'=>∃(aa:Int),v5= .int .i64 aa/\qA (laws_eqPendingS.l0 kq l0 l1 aa=some r)/\qA (kq<=k)/\qA (Below w.heap.size w w'))
 case atStart=>exact⟨(0),zr,⟨H⟩,⟨Nat.le_refl _⟩,⟨HB⟩⟩
 case round=>
  clear H HB;obtain⟨aa,rfl,H,al,HB⟩:=hrel;replace HB:=HB.out;replace H:=H.out;have ar:=yB w;cases gk with
  |zero=>simp[laws_eqPendingS.l0] at H
  |succ ay=>
   simp only[laws_eqPendingS.l0] at H;refine yDn H ?_ ?_<;>clear H<;>intro aO H
   ·obtain rfl:=zi H;exact yR
   go_wp2_with(fail)
   try simp only[Act.put,List.setIfInBounds_toArray,List.set_cons_zero,List.set_cons_succ]
   refine qS (C:=fun W_=>Below w.heap.size w W_) zk zk (qL HB) ?_;replace H:=yAD H;obtain⟨aP,H⟩:=H;have aQ:=yt (0<=(aa:Int));have aR:=yt ((aa:Int)<(l0.length:Int));obtain⟨aM,aG,aH,aC,ab,ac,ad,ae,af⟩:=at_T133 aE.out aa z2 z2;cases aC;replace ab:=qJ ab;replace ac:=qJ ac;replace ad:=qJ ad;have am:=zz af;have an:=zz ae;clear af ae;replace H:=yAD H;obtain⟨aS,H⟩:=H;have aT:=yt (0<=(aa:Int));have aU:=yt ((aa:Int)<(l1.length:Int));obtain⟨aN,aI,aJ,aD,ag,ah,ai,aj,ak⟩:=at_T133 aF.out aa z2 z2;cases aD;replace ag:=qJ ag;replace ah:=qJ ah;replace ai:=qJ ai;have ao:=zz ak;have ap:=zz aj;clear ak aj;replace H:=yf H;obtain⟨aV,A8,H⟩:=H;repeat(first|go_big_quiet_skip|(go_big_quiet_want;go_big_quiet_op;first|go_big_quiet_on|(apply zU;intro W hW;(first|with_reducible rfl|(go_at_call 107;exact callB (laws_eqPending.calls ay _ _ _ _ _ _ _ _ _ _ _ _ (Kd.qD am.out hW) an.out (Kd.qD ao.out hW) ap.out A8.out) hW)|(go_simp;with_reducible rfl));go_big_quiet_on)))
   clear HB;refine zW fun aK (HB:Below w.heap.size w aK)=>?_;refine yT H ?_ ?_<;>clear H<;>rintro rfl H
   ·go_wp2_with(fail)
    go_roundg ay
    case measure=>exact yM1 al
    case rel=>exact⟨(wrap64 (aa+1)),zr,⟨H⟩,⟨yM1 al⟩,⟨zv ar.out HB⟩⟩
   obtain rfl:=zi H;exact yR
def laws_eqNext.f(aa:ByteArray)(ab:ByteArray)(ac:ByteArray)(ad:ByteArray):Option (Bool):=if aa.toList=ac.toList then(if ab.toList=ad.toList then(some true) else(some false)) else(some false)
theorem laws_eqNext.calls(ac:ByteArray)(ad:ByteArray)(ae:ByteArray)(af:ByteArray)(r:Bool)(w:World)(H:laws_eqNext.f ac ad ae af=some r):
 Calls Tryz.prog 108 #[.agg #[.string ac,.string ad],.agg #[.string ae,.string af]] w fun e w'=>e= .returned (.bool r)/\Below w.heap.size w w':=by
 have ap:=Tryz.underlying134;have HB:=yB w;unfold laws_eqNext.f at H;replace HB:=HB.out;have HW:=yB w;go_enter Tryz.func108,Tryz.ntmps108;refine yCn H ?_ ?_<;>clear H<;>intro c3 H
 ·obtain⟨al,am⟩:=zw c3;obtain rfl:=zi H;go_wp2_with(first|(refine zN 2 ?_;(try(refine z4 ?_;dsimp only));refine zX 2 134 #[.string ac,.string ad] ?_;intro ai hg w9 hbox hb;have hst:=zv HB hb;clear hg hb HB;replace HW:=zz (zv HW.out hst);obtain⟨aa,ab⟩:=zx2 hbox;have HB:=Below.refl w9.heap.size w9;clear hbox hst)|(refine zN 3 ?_;(try(refine z4 ?_;dsimp only));refine zX 3 134 #[.string ae,.string af] ?_;intro aj hg ak hbox hb;have hst:=zv HB hb;clear hg hb HB;replace HW:=zz (zv HW.out hst);replace aa:=qG aa hst;replace ab:=qG ab hst;obtain⟨ag,ah⟩:=zx2 hbox;have HB:=Below.refl ak.heap.size ak;clear hbox hst))
  go_ret;exact⟨ze,zv HW.out HB⟩
 obtain⟨al,am⟩:=zq c3;clear c3;refine yCn H ?_ ?_<;>clear H<;>intro c4 H
 ·obtain⟨an,ao⟩:=zw c4;obtain rfl:=zi H;go_wp2_with(first|(refine zN 2 ?_;(try(refine z4 ?_;dsimp only));refine zX 2 134 #[.string ac,.string ad] ?_;intro ai hg w7 hbox hb;have hst:=zv HB hb;clear hg hb HB;replace HW:=zz (zv HW.out hst);obtain⟨aa,ab⟩:=zx2 hbox;have HB:=Below.refl w7.heap.size w7;clear hbox hst)|(refine zN 3 ?_;(try(refine z4 ?_;dsimp only));refine zX 3 134 #[.string ae,.string af] ?_;intro aj hg w8 hbox hb;have hst:=zv HB hb;clear hg hb HB;replace HW:=zz (zv HW.out hst);replace aa:=qG aa hst;replace ab:=qG ab hst;obtain⟨ag,ah⟩:=zx2 hbox;have HB:=Below.refl w8.heap.size w8;clear hbox hst))
  go_ret;exact⟨ze,zv HW.out HB⟩
 obtain⟨an,ao⟩:=zq c4;clear c4;obtain rfl:=zi H;go_wp2_with(first|(refine zN 2 ?_;(try(refine z4 ?_;dsimp only));refine zX 2 134 #[.string ac,.string ad] ?_;intro ai hg w5 hbox hb;have hst:=zv HB hb;clear hg hb HB;replace HW:=zz (zv HW.out hst);obtain⟨aa,ab⟩:=zx2 hbox;have HB:=Below.refl w5.heap.size w5;clear hbox hst)|(refine zN 3 ?_;(try(refine z4 ?_;dsimp only));refine zX 3 134 #[.string ae,.string af] ?_;intro aj hg w6 hbox hb;have hst:=zv HB hb;clear hg hb HB;replace HW:=zz (zv HW.out hst);replace aa:=qG aa hst;replace ab:=qG ab hst;obtain⟨ag,ah⟩:=zx2 hbox;have HB:=Below.refl w6.heap.size w6;clear hbox hst))
 go_ret;exact⟨ze,zv HW.out HB⟩
def laws_eqNextS.l0:Nat->List (S134)->List (S134)->Int->Option (Bool)
 |0,_,_,_=>none
 |k+1,x0,x1,x5=>if x5<(x0.length:Int) then(if 0<=x5 then(if x5<(x1.length:Int) then((laws_eqNext.f ((rd_T134 x0 x5).f0) ((rd_T134 x0 x5).f1) ((rd_T134 x1 x5).f0) ((rd_T134 x1 x5).f1)).bind fun aa=>(if aa=true then(laws_eqNextS.l0 k x0 x1 (wrap64 (x5+1))) else(some false))) else(none)) else(none)) else(some true)
def laws_eqNextS.f(k:Nat)(l0:List (S134))(l1:List (S134)):Option (Bool):=if(l0.length:Int)=(l1.length:Int) then(laws_eqNextS.l0 k l0 l1 0) else(some false)
theorem laws_eqNextS.calls(k:Nat)(A0:Option Addr)(c0:Nat)(l0:List (S134))(A1:Option Addr)(c1:Nat)(l1:List (S134))(r:Bool)(w:World)(ah:Kd.C k134 w A0 l0.length l0)(ai:l0.length<=c0)(aj:Kd.C k134 w A1 l1.length l1)(ak:l1.length<=c1)(H:laws_eqNextS.f k l0 l1=some r):
 Calls Tryz.prog 58 #[.slice A0 l0.length c0,.slice A1 l1.length c1] w fun e w'=>e= .returned (.bool r)/\Below w.heap.size w w':=by
 have ax:=Tryz.underlying134;have ar:=zz ah;have aI:=zz ai;clear ah ai;have au:=zz aj;have aJ:=zz ak;clear aj ak;have HB:=yB w;unfold laws_eqNextS.f at H;replace HB:=HB.out;have HW:=yB w;go_enter Tryz.func58,Tryz.ntmps58;refine yCn H ?_ ?_<;>clear H<;>intro c3 H
 ·obtain⟨al,am⟩:=zw c3;have an:(l0.length==l1.length)=false:=by first|simpa using c3|(simp at c3⊢;omega)
  obtain rfl:=zi H;exact yR
 obtain⟨al,am⟩:=zq c3;have an:(l0.length==l1.length)=true:=by first|simpa using c3|(simp at c3⊢;omega)
 clear c3;go_wp2_with(fail)
 go_loopg[5] k (fun kq v5 w'=>∃(aa:Int),v5= .int .i64 aa/\qA (laws_eqNextS.l0 kq l0 l1 aa=some r)/\qA (kq<=k)/\qA (Below w.heap.size w w'))
 case atStart=>exact⟨(0),zr,⟨H⟩,⟨Nat.le_refl _⟩,⟨HB⟩⟩
 case round=>
  clear H HB;obtain⟨aa,rfl,H,af,HB⟩:=hrel;replace HB:=HB.out;replace H:=H.out;have ag:=yB w;cases gk with
  |zero=>simp[laws_eqNextS.l0] at H
  |succ av=>
   simp only[laws_eqNextS.l0] at H;refine yDn H ?_ ?_<;>clear H<;>intro aA H
   ·obtain rfl:=zi H;exact yR
   go_wp2_with(fail)
   try simp only[Act.put,List.setIfInBounds_toArray,List.set_cons_zero,List.set_cons_succ]
   refine qS (C:=fun W_=>Below w.heap.size w W_) zk zk (qL HB) ?_;replace H:=yAD H;obtain⟨aB,H⟩:=H;have aC:=yt (0<=(aa:Int));have aD:=yt ((aa:Int)<(l0.length:Int));obtain⟨ay,ao,ab,ac⟩:=at_T134 ar.out aa z2 z2;cases ao;replace ab:=qJ ab;replace ac:=qJ ac;replace H:=yAD H;obtain⟨aE,H⟩:=H;have aF:=yt (0<=(aa:Int));have aG:=yt ((aa:Int)<(l1.length:Int));obtain⟨az,ap,ad,ae⟩:=at_T134 au.out aa z2 z2;cases ap;replace ad:=qJ ad;replace ae:=qJ ae;replace H:=yf H;obtain⟨aH,A8,H⟩:=H;repeat(first|go_big_quiet_skip|(go_big_quiet_want;go_big_quiet_op;first|go_big_quiet_on|(apply zU;intro W hW;(first|with_reducible rfl|(go_at_call 108;exact callB (laws_eqNext.calls _ _ _ _ _ _ A8.out) hW)|(go_simp;with_reducible rfl));go_big_quiet_on)))
   clear HB;refine zW fun aw (HB:Below w.heap.size w aw)=>?_;refine yT H ?_ ?_<;>clear H<;>rintro rfl H
   ·go_wp2_with(fail)
    go_roundg av
    case measure=>exact yM1 af
    case rel=>exact⟨(wrap64 (aa+1)),zr,⟨H⟩,⟨yM1 af⟩,⟨zv ag.out HB⟩⟩
   obtain rfl:=zi H;exact yR
def laws_eqWorld.f(k:Nat)(aa:List (S103))(ab:List (S137))(ac:List (S133))(ad:List (S134))(ae:List (S103))(af:List (S137))(ag:List (S133))(ah:List (S134)):Option (Bool):=(laws_eqItemS.f k aa ae).bind fun ai=>(if ai=true then((laws_eqProfileS.f k ab af).bind fun aj=>(if aj=true then((laws_eqPendingS.f k ac ag).bind fun ak=>(if ak=true then((laws_eqNextS.f k ad ah).bind fun al=>(if al=true then(some true) else(some false))) else(some false))) else(some false))) else(some false))
theorem laws_eqWorld.calls(k:Nat)(ax:Option Addr)(ay:Nat)(ai:List (S103))(az:Option Addr)(aA:Nat)(aj:List (S137))(aB:Option Addr)(aC:Nat)(ak:List (S133))(aD:Option Addr)(aE:Nat)(al:List (S134))(aF:Option Addr)(aG:Nat)(am:List (S103))(aH:Option Addr)(aI:Nat)(an:List (S137))(aJ:Option Addr)(aK:Nat)(ao:List (S133))(aL:Option Addr)(aM:Nat)(ap:List (S134))(r:Bool)(w:World)(aN:Kd.C k103 w ax ai.length ai)(aO:ai.length<=ay)(aP:Kd.C k137 w az aj.length aj)(aQ:aj.length<=aA)(aR:Kd.C k133 w aB ak.length ak)(aS:ak.length<=aC)(aT:Kd.C k134 w aD al.length al)(aU:al.length<=aE)(aV:Kd.C k103 w aF am.length am)(aW:am.length<=aG)(aX:Kd.C k137 w aH an.length an)(aY:an.length<=aI)(aZ:Kd.C k133 w aJ ao.length ao)(a0:ao.length<=aK)(a1:Kd.C k134 w aL ap.length ap)(a2:ap.length<=aM)(H:laws_eqWorld.f k ai aj ak al am an ao ap=some r):
 Calls Tryz.prog 15 #[.agg #[.slice ax ai.length ay,.slice az aj.length aA,.slice aB ak.length aC,.slice aD al.length aE],.agg #[.slice aF am.length aG,.slice aH an.length aI,.slice aJ ao.length aK,.slice aL ap.length aM]] w fun e w'=>e= .returned (.bool r)/\Below w.heap.size w w':=by
 have bj:=Tryz.underlying38;have ag:=zz aN;have a9:=zz aO;clear aN aO;have aa:=zz aP;have a3:=zz aQ;clear aP aQ;have ab:=zz aR;have a4:=zz aS;clear aR aS;have ac:=zz aT;have a5:=zz aU;clear aT aU;have ah:=zz aV;have ba:=zz aW;clear aV aW;have ad:=zz aX;have a6:=zz aY;clear aX aY;have ae:=zz aZ;have a7:=zz a0;clear aZ a0;have af:=zz a1;have a8:=zz a2;clear a1 a2;have HB:=yB w;unfold laws_eqWorld.f at H;replace HB:=HB.out;have HW:=yB w;go_enter Tryz.func15,Tryz.ntmps15;replace H:=yf H;obtain⟨bk,A3,H⟩:=H;go_wp2_with(first|(refine zN 2 ?_;(try(refine z4 ?_;dsimp only));refine zX 2 38 #[.slice ax ai.length ay,.slice az aj.length aA,.slice aB ak.length aC,.slice aD al.length aE] ?_;intro bh hg w6 hbox hb;have hst:=zv HB hb;clear hg hb HB;replace HW:=zz (zv HW.out hst);replace ag:=zz (Kd.qD ag.out hst);replace aa:=zz (Kd.qD aa.out hst);replace ab:=zz (Kd.qD ab.out hst);replace ac:=zz (Kd.qD ac.out hst);replace ah:=zz (Kd.qD ah.out hst);replace ad:=zz (Kd.qD ad.out hst);replace ae:=zz (Kd.qD ae.out hst);replace af:=zz (Kd.qD af.out hst);obtain⟨ar,au,av,aw⟩:=zx4 hbox;have HB:=Below.refl w6.heap.size w6;clear hbox hst)|(refine zN 3 ?_;(try(refine z4 ?_;dsimp only));refine zX 3 38 #[.slice aF am.length aG,.slice aH an.length aI,.slice aJ ao.length aK,.slice aL ap.length aM] ?_;intro bi hg w7 hbox hb;have hst:=zv HB hb;clear hg hb HB;replace HW:=zz (zv HW.out hst);replace ag:=zz (Kd.qD ag.out hst);replace aa:=zz (Kd.qD aa.out hst);replace ab:=zz (Kd.qD ab.out hst);replace ac:=zz (Kd.qD ac.out hst);replace ah:=zz (Kd.qD ah.out hst);replace ad:=zz (Kd.qD ad.out hst);replace ae:=zz (Kd.qD ae.out hst);replace af:=zz (Kd.qD af.out hst);replace ar:=qG ar hst;replace au:=qG au hst;replace av:=qG av hst;replace aw:=qG aw hst;obtain⟨bd,be,bf,bg⟩:=zx4 hbox;have HB:=Below.refl w7.heap.size w7;clear hbox hst))
 refine(laws_eqItemS.calls k _ _ _ _ _ _ _ _ (Kd.qD ag.out HB) a9.out (Kd.qD ah.out HB) ba.out A3.out).mono ?_;rintro e w8 ⟨rfl,hb⟩;replace HB:=zv HB hb;clear hb;refine yF H ?_ ?_<;>clear H<;>rintro rfl H
 ·obtain rfl:=zi H;exact yR
 replace H:=yf H;obtain⟨bl,A9,H⟩:=H;refine yF H ?_ ?_<;>clear H<;>rintro rfl H
 ·go_wp2_with(fail)
  refine(laws_eqProfileS.calls k _ _ _ _ _ _ _ _ (Kd.qD aa.out HB) a3.out (Kd.qD ad.out HB) a6.out A9.out).mono ?_;rintro e bq ⟨rfl,hb⟩;replace HB:=zv HB hb;clear hb;obtain rfl:=zi H;exact yR
 go_wp2_with(fail)
 refine(laws_eqProfileS.calls k _ _ _ _ _ _ _ _ (Kd.qD aa.out HB) a3.out (Kd.qD ad.out HB) a6.out A9.out).mono ?_;rintro e br ⟨rfl,hb⟩;replace HB:=zv HB hb;clear hb;replace H:=yf H;obtain⟨bn,bb,H⟩:=H;refine yF H ?_ ?_<;>clear H<;>rintro rfl H
 ·go_wp2_with(fail)
  refine(laws_eqPendingS.calls k _ _ _ _ _ _ _ _ (Kd.qD ab.out HB) a4.out (Kd.qD ae.out HB) a7.out bb.out).mono ?_;rintro e bs ⟨rfl,hb⟩;replace HB:=zv HB hb;clear hb;obtain rfl:=zi H;exact yR
 go_wp2_with(fail)
 refine(laws_eqPendingS.calls k _ _ _ _ _ _ _ _ (Kd.qD ab.out HB) a4.out (Kd.qD ae.out HB) a7.out bb.out).mono ?_;rintro e bu ⟨rfl,hb⟩;replace HB:=zv HB hb;clear hb;replace H:=yf H;obtain⟨bo,bc,H⟩:=H;refine yT H ?_ ?_<;>clear H<;>rintro rfl H
 ·go_wp2_with(fail)
  refine(laws_eqNextS.calls k _ _ _ _ _ _ _ _ (Kd.qD ac.out HB) a5.out (Kd.qD af.out HB) a8.out bc.out).mono ?_;rintro e bv ⟨rfl,hb⟩;replace HB:=zv HB hb;clear hb;obtain rfl:=zi H;exact yR
 go_wp2_with(fail)
 refine(laws_eqNextS.calls k _ _ _ _ _ _ _ _ (Kd.qD ac.out HB) a5.out (Kd.qD af.out HB) a8.out bc.out).mono ?_;rintro e bw ⟨rfl,hb⟩;replace HB:=zv HB hb;clear hb;obtain rfl:=zi H;exact yR
end Go.Proofs.YtmdoobnlehkmpaaGreatDoor.Q
