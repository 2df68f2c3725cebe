import Derived.Test.YtcekmnclmldmmaaGreatDoorR19
set_option linter.unusedVariables false
set_option linter.unusedSimpArgs false
namespace Go.Proofs.YtcekmnclmldmmaaGreatDoor.Q
open Go.RowKit W1 W2 W3
attribute [local go_sem] max2_int min2_int max_two min_two max_three min_three max_four min_four
attribute [local go_sem high] bl_leq bl_gtr bl_geq
set_option maxHeartbeats 8000000
set_option maxRecDepth 100000
def laws_toPending.f(k:Nat)(aa:ByteArray)(ab:List (S159))(ac:ByteArray):Option (ByteArray×(List (S96))×ByteArray):=(laws_toEntryS.f k ab).bind fun ad=>(some (aa,ad,ac))
theorem laws_toPending.calls(k:Nat)(af:ByteArray)(ai:Option Addr)(aj:Nat)(ac:List (S159))(ag:ByteArray)(r1:ByteArray)(r2:List (S96))(r3:ByteArray)(w:World)(av:Kd.C k159 w ai ac.length ac)(aw:ac.length≤aj)(h:laws_toPending.f k af ac ag=some (r1,r2,r3)):
 Calls Tryz.prog 87 #[.agg #[.string af,.slice ai ac.length aj,.string ag]] w fun e w'=>∃aC:Value,e= .returned (.agg #[.string r1,aC,.string r3])∧Kd.R k96 96 w' w.heap.size (fun _=>True) aC r2∧Below w.heap.size w w':=by
 have ba:=Tryz.underlying110
 have bh:=Tryz.underlying61
 have aA:=zz av
 have aB:=zz aw
 clear av aw
 have HB:=yB w
 unfold laws_toPending.f at h
 have H:=h
 clear h
 replace H:=zf H
 obtain⟨au,aD,H⟩:=H
 try dsimp only at H
 have A2:=zz aD
 clear aD
 simp only[Option.some.injEq,Prod.mk.injEq] at H
 obtain⟨rfl,rfl,rfl⟩:=H
 go_enter Tryz.func87,Tryz.ntmps87
 go_wp2_with(first|(refine zX 1 110 #[.string af,.slice ai ac.length aj,.string ag] ?_;intro ak hg w3 hbox hb;have aa:=zz (hbox);have bb:=zz ((zg:w.heap.size≤ak));have bc:=zz ((zg:w.heap.size≤ak));replace HB:=zz (zv zb hb);clear hb hbox hg)|(refine zX 2 61 #[.string (⟨#[]⟩:ByteArray),.slice none 0 0,.string (⟨#[]⟩:ByteArray)] ?_;intro ah hg w4 hbox hb;have ab:=zz (hbox);have bd:=zz ((zg:w.heap.size≤ah));have be:=zz ((zg:w.heap.size≤ah));replace HB:=zz (zv zb hb);have al:=zz (zH aa hg);have am:=zz (zI aa hg);replace aa:=zz (zJ aa hb);clear hb hbox hg)|(refine zX 3 61 #[.string (⟨#[]⟩:ByteArray),.slice none 0 0,.string (⟨#[]⟩:ByteArray)] ?_;intro ad hg w5 hbox hb;have ae:=zz (hbox);have bf:=zz ((zg:w.heap.size≤ad));have bg:=zz ((zg:w.heap.size≤ad));replace HB:=zz (zv zb hb);have an:=zz (zH aa hg);have ao:=zz (zI aa hg);replace aa:=zz (zJ aa hb);have ap:=zz (zH ab hg);have ar:=zz (zI ab hg);replace ab:=zz (zJ ab hb);clear hb hbox hg;have bi:=al.out;have bj:=am.out;have bk:=an.out;have bl:=ao.out;obtain⟨a4,a5,a6,a7,a8,a9⟩:=zc3 aa.out;have bn:=ar.out;have bo:=ap.out;obtain⟨aG,aH,aI,aJ,aK,aL⟩:=zc3 ae.out)|(refine zL 123 9 Tryz.func123 #[.slice ai ac.length aj] ?_;(with_reducible refine(laws_toEntryS.calls k _ _ ac au _ ?s1 ?s2 A2.out).mono ?_);(case s1=>exact Kd.qC aA.out zb);(case s2=>exact aB.out);rintro e br ⟨bq,rfl,aE,hb⟩;refine⟨_,rfl,?_⟩;have ax:=zz (Kd.vC aE (qE zb));replace aa:=zz (qM (g:=ak) (o:= .cells #[.string af,.slice ai ac.length aj,.string ag] 110 (0,0)) (yP aa.out) hb);replace ab:=zz (qM (g:=ah) (o:= .cells #[.string (⟨#[]⟩:ByteArray),.slice none 0 0,.string (⟨#[]⟩:ByteArray)] 61 (0,0)) (yP ab.out) hb);replace ae:=zz (qM (g:=ad) (o:= .cells #[.string af,.slice none 0 0,.string (⟨#[]⟩:ByteArray)] 61 (0,0)) (yP ae.out) hb);replace HB:=zz (zv zb hb);(try clear hb);(try clear bs);(try clear hk);(try clear hi);(try clear aE);obtain⟨ay,az,aF⟩:=Kd.qV ax.out;subst aF;obtain⟨aM,aN,aO,aP,aQ,aR⟩:=zc3 ae.out;obtain⟨aS,aT,aU,aV,aW,aX⟩:=zc3 aa.out;obtain⟨aY,aZ,a0,a1,a2,a3⟩:=zc3 ab.out))
 refine bodyPost_ret (results_cell_row rfl _ _ ah 61 #[.string af,.slice ay au.length az,.string ag] (0,0) _ rfl (yP ab.out) Tryz.underlying61 rfl zk) rfl ?_
 exact⟨_,ze,yV (Kd.R_far (p:=⟨ad,2,none⟩) (Kd.R_far (p:=⟨ad,1,none⟩) (Kd.qY (Kd.qY ax.out ae.out (by decide)) ab.out (by decide)) (fun _ hk=>hk.1.2) (.slice ay au.length az)) (fun _ hk=>hk.1.2) (.string ag)),zb⟩
section
attribute [local go_sem] run_store_one
def laws_toPendingS.l0:Nat→List (S110)→List (S61)→Int→Option ((List (S61)))
 |0,_,_,_=>none
 |k+1,x0,x3,x4=>if x4<(x0.length:Int) then(if 0≤x4 then((laws_toPending.f k ((rd_T110 x0 x4).f0) ((rd_T110 x0 x4).f1) ((rd_T110 x0 x4).f2)).bind fun aa=>(if x4<(x3.length:Int) then(laws_toPendingS.l0 k x0 (x3.set (x4:Int).toNat (⟨aa.1,aa.2.1,aa.2.2⟩:S61)) (wrap64 (x4+1))) else(none))) else(none)) else(some x3)
def laws_toPendingS.f(k:Nat)(l0:List (S110)):Option ((List (S61))):=if 0≤(l0.length:Int) then(if((l0.length:Int):Int).toNat≤5026338869833 then(laws_toPendingS.l0 k l0 (List.replicate ((l0.length:Int):Int).toNat z61) 0) else(none)) else(none)
theorem laws_toPendingS.calls(k:Nat)(A0:Option Addr)(c0:Nat)(l0:List (S110))(r:List (S61))(w:World)(a6:Kd.C k110 w A0 l0.length l0)(a7:l0.length≤c0)(h:laws_toPendingS.f k l0=some r):
 Calls Tryz.prog 40 #[.slice A0 l0.length c0] w fun e w'=>∃a8:Value,e= .returned (a8)∧Kd.S k61 61 w' w.heap.size (fun _=>True) a8 r∧Below w.heap.size w w':=by
 have bA:=Tryz.underlying110
 have bD:=Tryz.underlying61
 have bk:=zz a6
 have bN:=zz a7
 clear a6 a7
 have HB:=yB w
 unfold laws_toPendingS.f at h
 have H:=h
 clear h
 replace H:=yA H
 obtain⟨c2,H⟩:=H
 have bb:=eq_true c2
 have bc:=z1 c2
 clear c2
 replace H:=yA H
 obtain⟨c3,H⟩:=H
 have bd:=eq_true c3
 have be:=z1 c3
 clear c3
 obtain⟨aG,ae⟩:∃y_:List (S61),y_=(List.replicate ((l0.length:Int):Int).toNat z61):=⟨_,rfl⟩
 replace H:(laws_toPendingS.l0 k l0 aG 0)=some r:=by first|(rw[ae];with_reducible exact H)|(have ao:=(Option.bind_some _ _).symm.trans H;rw[ae];with_reducible exact ao)|(have ao:=(Option.bind_some _ _).symm.trans H;with_reducible exact ao)|with_reducible exact H|(rw[ae];exact H)|exact H
 have aD:=zz ae
 clear ae
 have H':=zz H
 clear H
 go_enter Tryz.func40,Tryz.ntmps40
 go_wp2_with(first|(refine zN 7 ?_;refine Kd.S_make k61 _ 61 rfl (N:=7) rfl 32 _ _ rfl (l0.length:Int) rfl rfl Tryz.underlying32 (.agg #[(.string ⟨#[]⟩),(.slice none 0 0),(.string ⟨#[]⟩)]) 56 info61 rfl (by decide) (by omega) z61 (ok:=fun _=>True) (okp:=fun _=>True) (k61_mkM _ _ _ z61 (Kd.R_nil _ _ _ _ _)) (fun _ hk=>hk) trivial (z2) (Nat.le_trans (Nat.mul_le_mul_right _ (z2:(l0.length:Int).toNat≤5026338869833)) (by omega)) (Below.refl _ _) (Nat.le_refl _) ?_;intro bf w4 az hb hg_ hnew_;clear hg_ hnew_;(first|rw[←aD.out] at az|(simp only[Int.reduceToNat] at az;rw[←aD.out] at az));have a2:=zz (Kd.S_lower az (qE zb));replace HB:=zz (zv zb hb);clear hb az))
 go_loopg[4] k (fun kq v4 w'=>∃(ad:List (S61)) (aa:Int),v4= .int .i64 aa∧qA (laws_toPendingS.l0 kq l0 ad aa=some r)∧qA (kq≤k)∧qA (Kd.S k61 61 w' w.heap.size (fun _=>True) bf ad)∧qA (Below w.heap.size w w'))
 case atStart=>exact⟨(aG),(0),zr,H',⟨Nat.le_refl _⟩,⟨zS a2.out⟩,⟨zb⟩⟩
 case round=>
  clear H'
  try clear c2
  try clear bb
  try clear bc
  try clear p2
  try clear c3
  try clear bd
  try clear be
  try clear c4
  obtain⟨ad,aa,rfl,HA,a9,ab,HB⟩:=hrel
  cases gk with
  |zero=>exact absurd HA.out (by simp[laws_toPendingS.l0])
  |succ k1=>
   have H:=HA.out
   clear HA
   simp only[laws_toPendingS.l0] at H
   refine yDn H ?_ ?_<;>clear H<;>intro bE H
   ·obtain rfl:=zi H
    go_wp2
    go_ret
    exact⟨_,ze,zS ab.out,zb⟩
   replace H:=yAD H
   obtain⟨bF,H⟩:=H
   replace H:=zf H
   obtain⟨⟨ah,ax,ai⟩,ba,H⟩:=H
   try dsimp only at H
   have A8:=zz ba
   clear ba
   replace H:=yAD H
   obtain⟨bG,H⟩:=H
   obtain⟨aA,af⟩:∃y_:List (S61),y_=(ad.set (aa:Int).toNat (⟨ah,ax,ai⟩:S61)):=⟨_,rfl⟩
   replace H:(laws_toPendingS.l0 k1 l0 aA (wrap64 (aa+1)))=some r:=by first|(rw[af];with_reducible exact H)|(have ao:=(Option.bind_some _ _).symm.trans H;rw[af];with_reducible exact ao)|(have ao:=(Option.bind_some _ _).symm.trans H;with_reducible exact ao)|with_reducible exact H|(rw[af];exact H)|exact H
   have a3:=zz af
   clear af
   have H':=zz H
   clear H
   have bH:=yt (0≤(aa:Int))
   have bI:=yt (aa<(l0.length:Int))
   obtain⟨bB,aH,aI,bg,ap,ar,au,av,aw⟩:=at_T110 bk.out aa z2 z2
   cases bg
   replace ap:=z3 HB.out ap
   replace ar:=z3 HB.out ar
   replace au:=z3 HB.out au
   have aE:=zz aw
   have aF:=zz av
   clear aw av
   go_wp2_with(first|(refine zL 87 20 Tryz.func87 #[.agg #[.string ((rd_T110 l0 aa).f0),.slice aH ((rd_T110 l0 aa).f1).length aI,.string ((rd_T110 l0 aa).f2)]] ?_;(with_reducible refine(laws_toPending.calls k1 ((rd_T110 l0 aa).f0) _ _ ((rd_T110 l0 aa).f1) ((rd_T110 l0 aa).f2) ah ax ai _ ?s1 ?s2 A8.out).mono ?_);(case s1=>exact zc aE.out);(case s2=>exact aF.out);rintro e ag ⟨ay,rfl,aJ,hb⟩;refine⟨_,rfl,?_⟩;replace ab:=zz (Kd.S_elder' (zS ab.out) (Kd.R_base aJ) hb);have aj:=zz (Kd.vC aJ (qE zb));replace HB:=zz (zv zb hb);(try clear hb);(try clear bO);(try clear hk);(try clear hi);(try clear aJ);have aK:0≤(aa:Int):=z2;have aL:(aa:Int)<((ad.length:Int):Int):=z2;obtain⟨ac,aM,aN,aO,bh,bJ,aP⟩:=Kd.S_form ab.out (by omega);(first|cases aN|(injection aN with ea_ en_ ec_;(first|subst ea_|(injection ea_ with ea_;subst ea_));subst ec_;clear en_));have aB:=zz aO;have bK:=zz aP;clear aO bh aP;obtain⟨_,bL,a4,aQ,ak,al,_,_⟩:=Kd.S_elem ab.out z61 (aa:Int) aK aL;obtain⟨aR,rfl,bl⟩:=k61_openM aQ;have bn:ag.cell? ⟨ac,(aa:Int).toNat*3,none⟩=some (.string ((qR ad aa).f0)):=ak 0 _ rfl;have bo:ag.cell? ⟨ac,(aa:Int).toNat*3+1,none⟩=some (aR):=ak 1 _ rfl;have bq:ag.cell? ⟨ac,(aa:Int).toNat*3+2,none⟩=some (.string ((qR ad aa).f2)):=ak 2 _ rfl;have br:ag.frozen? ⟨ac,(aa:Int).toNat*3,none⟩=false:=al 0;have bs:ag.frozen? ⟨ac,(aa:Int).toNat*3+1,none⟩=false:=al 1;have bu:ag.frozen? ⟨ac,(aa:Int).toNat*3+2,none⟩=false:=al 2;clear a4 ak al aQ;replace aK:=eq_true aK;replace aL:=eq_true aL;have n_:=zz (Kd.qZ (ok':=(fun k_=>some k_≠(ay:Value).ownBlock)) ab.out (fun k_ hk=>hk.2));clear ab;have ab:=n_;clear n_;have bi:=zz (show Kd.S k61 61 ag w.heap.size (fun k_=>((fun _=>True)) k_∧¬((fun k_=>some k_=(ay:Value).ownBlock)) k_) (.slice (some ⟨ac,0,none⟩) ad.length aM) ad from(by(with_reducible repeat(first|apply Kd.vM|apply Kd.vN|apply Kd.S_drew));exact Kd.qZ ab.out (fun k_ hk=>⟨trivial,fun e_=>hk e_⟩)));obtain⟨bC,bM,a5,aS,am,an,aT,aU⟩:=Kd.S_elem bi.out z61 (aa:Int) (z2) (by have h_:(aa:Int)<((ad.length:Int):Int):=z2;first|exact h_|(have e_:=(Kd.S_reads' ab.out).1;omega)|simpa using h_);obtain⟨bv,rfl,bw⟩:=k61_openM aS;have aC:=Kd.S_seg aU (z2) (by have h_:(aa:Int)<((ad.length:Int):Int):=z2;first|exact h_|(have e_:=(Kd.S_reads' ab.out).1;omega)|simpa using h_) (seg:=[.string ah,ay,.string ai]) (j:=0) (show 3≤3 from by decide) (x':=(⟨ah,ax,ai⟩:S61)) (k61_mkM _ _ _ (⟨ah,ax,ai⟩:S61) (Kd.qT (Kd.R_tight rfl (Kd.qT (ok':=fun k_=>((fun _=>True)) k_∧k_≠ac) (Kd.R_apart' (aj.out) (Kd.S_typed ab.out) (by decide)) (fun k_ hk=>⟨trivial,fun e_=>(hk.2) (by rw[e_];rfl)⟩))) (fun _ h_=>Or.inr (h_)))) (fun _ hk=>hk) (fun k_ hk_=>((Kd.qT (ok':=fun k_=>((fun _=>True)) k_∧k_≠ac) (Kd.R_apart' (aj.out) (Kd.S_typed ab.out) (by decide)) (fun k_ hk=>⟨trivial,fun e_=>(hk.2) (by rw[e_];rfl)⟩))).1 k_ hk_.symm);have aV:=am 0 _ rfl;(try simp only[show(k61).sz=3 from rfl,Nat.mul_one,Nat.add_zero] at aV);have aW:=an 0;(try simp only[show(k61).sz=3 from rfl,Nat.mul_one,Nat.add_zero] at aW);have aX:=am 1 _ rfl;(try simp only[show(k61).sz=3 from rfl,Nat.mul_one,Nat.add_zero] at aX);have aY:=an 1;(try simp only[show(k61).sz=3 from rfl,Nat.mul_one,Nat.add_zero] at aY);have aZ:=am 2 _ rfl;(try simp only[show(k61).sz=3 from rfl,Nat.mul_one,Nat.add_zero] at aZ);have a0:=an 2;(try simp only[show(k61).sz=3 from rfl,Nat.mul_one,Nat.add_zero] at a0);clear a5 am an aS aT aU;have bj:=R_one aj.out)|((with_reducible refine qP (t:=61) (p:=21) rfl ?_);refine qL (t:=61) (p:=21) (v:=?bz) (w1:=(((ag.setCell ⟨ac,(aa:Int).toNat*3,none⟩ (.string ah)).setCell ⟨ac,(aa:Int).toNat*3+1,none⟩ (ay)).setCell ⟨ac,(aa:Int).toNat*3+2,none⟩ (.string ai))) ?hg ?ho ?hn ?hr ?_;(case ho=>rfl);(case hg=>rfl);(case hn=>rfl);(case hr=>first|(go_simp;done)|(go_simp;rfl));intro a1 hw;have hg:ag.grownBy a1 (some ac):=(by rw[hw];exact aC.2);have hp_:Kd.S k61 61 a1 w.heap.size (fun _=>True) (.slice (some ⟨ac,0,none⟩) ad.length aM) aA:=(by rw[hw,a3.out];exact aC.1);clear aC;replace ab:=zz (hp_);replace HB:=zz ((by rw[hw];exact qH (qH (qH (HB.out) aB.out) aB.out) aB.out:Below w.heap.size w a1));clear aj;clear hg hw hp_))
   go_roundg k1
   case measure=>have:=a9.out;omega
   case rel=>exact⟨(aA),(wrap64 (aa+1)),zr,H',⟨by have:=a9.out;omega⟩,⟨zS ab.out⟩,⟨zb⟩⟩
end
def laws_toNext.f(aa:ByteArray)(ab:ByteArray):Option (ByteArray×ByteArray):=some (aa,ab)
theorem laws_toNext.calls(ac:ByteArray)(ad:ByteArray)(r1:ByteArray)(r2:ByteArray)(w:World)(h:laws_toNext.f ac ad=some (r1,r2)):
 Calls Tryz.prog 88 #[.agg #[.string ac,.string ad]] w fun e w'=>e= .returned (.agg #[.string r1,.string r2])∧Below w.heap.size w w':=by
 have aD:=Tryz.underlying112
 have aK:=Tryz.underlying64
 have HB:=yB w
 unfold laws_toNext.f at h
 have H:=h
 clear h
 simp only[Option.some.injEq,Prod.mk.injEq] at H
 obtain⟨rfl,rfl⟩:=H
 go_enter Tryz.func88,Tryz.ntmps88
 go_wp2_with(first|(refine zX 1 112 #[.string ac,.string ad] ?_;intro al hg w2 hbox hb;have aa:=zz (hbox);have aE:=zz ((zg:w.heap.size≤al));have aF:=zz ((zg:w.heap.size≤al));replace HB:=zz (zv zb hb);clear hb hbox hg)|(refine zX 2 64 #[.string (⟨#[]⟩:ByteArray),.string (⟨#[]⟩:ByteArray)] ?_;intro ae hg w3 hbox hb;have ab:=zz (hbox);have aG:=zz ((zg:w.heap.size≤ae));have aH:=zz ((zg:w.heap.size≤ae));replace HB:=zz (zv zb hb);have af:=zz (zH aa hg);have ag:=zz (zI aa hg);replace aa:=zz (zJ aa hb);clear hb hbox hg)|(refine zX 3 64 #[.string (⟨#[]⟩:ByteArray),.string (⟨#[]⟩:ByteArray)] ?_;intro am hg w4 hbox hb;have an:=zz (hbox);have aI:=zz ((zg:w.heap.size≤am));have aJ:=zz ((zg:w.heap.size≤am));replace HB:=zz (zv zb hb);have ah:=zz (zH aa hg);have ai:=zz (zI aa hg);replace aa:=zz (zJ aa hb);have aj:=zz (zH ab hg);have ak:=zz (zI ab hg);replace ab:=zz (zJ ab hb);clear hb hbox hg;have aL:=af.out;have aM:=ag.out;have aN:=ah.out;have aO:=ai.out;obtain⟨av,aw,ax,ay⟩:=zc2 aa.out;have aP:=ak.out;have aQ:=aj.out;obtain⟨az,aA,aB,aC⟩:=zc2 an.out;obtain⟨ao,ap,ar,au⟩:=zc2 ab.out))
 refine bodyPost_ret (results_cell_row rfl _ _ ae 64 #[.string ac,.string ad] (0,0) _ rfl (yP ab.out) Tryz.underlying64 rfl zk) rfl ?_
 exact⟨ze,zb⟩
def laws_toNextS.l0:Nat→List (S112)→List (S64)→Int→Option ((List (S64)))
 |0,_,_,_=>none
 |k+1,x0,x3,x4=>if x4<(x0.length:Int) then(if 0≤x4 then((laws_toNext.f ((rd_T112 x0 x4).f0) ((rd_T112 x0 x4).f1)).bind fun aa=>(if x4<(x3.length:Int) then(laws_toNextS.l0 k x0 (x3.set (x4:Int).toNat (⟨aa.1,aa.2⟩:S64)) (wrap64 (x4+1))) else(none))) else(none)) else(some x3)
def laws_toNextS.f(k:Nat)(l0:List (S112)):Option ((List (S64))):=if 0≤(l0.length:Int) then(if((l0.length:Int):Int).toNat≤8796093022208 then(laws_toNextS.l0 k l0 (List.replicate ((l0.length:Int):Int).toNat z64) 0) else(none)) else(none)
theorem laws_toNextS.calls(k:Nat)(A0:Option Addr)(c0:Nat)(l0:List (S112))(r:List (S64))(w:World)(aR:Kd.C k112 w A0 l0.length l0)(aS:l0.length≤c0)(h:laws_toNextS.f k l0=some r):
 Calls Tryz.prog 41 #[.slice A0 l0.length c0] w fun e w'=>∃aT:Value,e= .returned (aT)∧Kd.R k64 64 w' w.heap.size (fun _=>True) aT r∧Below w.heap.size w w':=by
 have a9:=Tryz.underlying112
 have bb:=Tryz.underlying64
 have a3:=zz aR
 have bl:=zz aS
 clear aR aS
 have HB:=yB w
 unfold laws_toNextS.f at h
 have H:=h
 clear h
 replace H:=yA H
 obtain⟨c2,H⟩:=H
 have aW:=eq_true c2
 have aX:=z1 c2
 clear c2
 replace H:=yA H
 obtain⟨c3,H⟩:=H
 have aY:=eq_true c3
 have aZ:=z1 c3
 clear c3
 obtain⟨ay,ae⟩:∃y_:List (S64),y_=(List.replicate ((l0.length:Int):Int).toNat z64):=⟨_,rfl⟩
 replace H:(laws_toNextS.l0 k l0 ay 0)=some r:=by first|(rw[ae];with_reducible exact H)|(have aj:=(Option.bind_some _ _).symm.trans H;rw[ae];with_reducible exact aj)|(have aj:=(Option.bind_some _ _).symm.trans H;with_reducible exact aj)|with_reducible exact H|(rw[ae];exact H)|exact H
 have aw:=zz ae
 clear ae
 have H':=zz H
 clear H
 go_enter Tryz.func41,Tryz.ntmps41
 go_wp2_with(first|(refine zN 7 ?_;refine Kd.R_make k64 _ 64 rfl (N:=7) rfl 33 _ _ rfl (l0.length:Int) rfl rfl Tryz.underlying33 (.agg #[(.string ⟨#[]⟩),(.string ⟨#[]⟩)]) 32 info64 rfl (by decide) (by omega) z64 (ok:=fun _=>True) (okp:=fun _=>True) (k64_mkM _ _ _ z64) (fun _ hk=>hk) trivial (z2) (Nat.le_trans (Nat.mul_le_mul_right _ (z2:(l0.length:Int).toNat≤8796093022208)) (by omega)) (Below.refl _ _) (Nat.le_refl _) ?_;intro a0 w4 ar hb hg_ hnew_;clear hg_ hnew_;(first|rw[←aw.out] at ar|(simp only[Int.reduceToNat] at ar;rw[←aw.out] at ar));have aO:=zz (Kd.vC ar (qE zb));replace HB:=zz (zv zb hb);clear hb ar))
 go_loopg[4] k (fun kq v4 w'=>∃(ab:List (S64)) (aa:Int),v4= .int .i64 aa∧qA (laws_toNextS.l0 kq l0 ab aa=some r)∧qA (kq≤k)∧qA (Kd.R k64 64 w' w.heap.size (fun _=>True) a0 ab)∧qA (Below w.heap.size w w'))
 case atStart=>exact⟨(ay),(0),zr,H',⟨Nat.le_refl _⟩,⟨zR aO.out⟩,⟨zb⟩⟩
 case round=>
  clear H'
  try clear c2
  try clear aW
  try clear aX
  try clear p2
  try clear c3
  try clear aY
  try clear aZ
  try clear c4
  obtain⟨ab,aa,rfl,HA,aU,ac,HB⟩:=hrel
  cases gk with
  |zero=>exact absurd HA.out (by simp[laws_toNextS.l0])
  |succ k1=>
   have H:=HA.out
   clear HA
   simp only[laws_toNextS.l0] at H
   refine yDn H ?_ ?_<;>clear H<;>intro bc H
   ·obtain rfl:=zi H
    go_wp2
    go_ret
    exact⟨_,ze,zR ac.out,zb⟩
   replace H:=yAD H
   obtain⟨bd,H⟩:=H
   replace H:=zf H
   obtain⟨⟨ag,ah⟩,aV,H⟩:=H
   try dsimp only at H
   have A8:=zz aV
   clear aV
   replace H:=yAD H
   obtain⟨be,H⟩:=H
   obtain⟨au,af⟩:∃y_:List (S64),y_=(ab.set (aa:Int).toNat (⟨ag,ah⟩:S64)):=⟨_,rfl⟩
   replace H:(laws_toNextS.l0 k1 l0 au (wrap64 (aa+1)))=some r:=by first|(rw[af];with_reducible exact H)|(have aj:=(Option.bind_some _ _).symm.trans H;rw[af];with_reducible exact aj)|(have aj:=(Option.bind_some _ _).symm.trans H;with_reducible exact aj)|with_reducible exact H|(rw[af];exact H)|exact H
   have aP:=zz af
   clear af
   have H':=zz H
   clear H
   have bf:=yt (0≤(aa:Int))
   have bg:=yt (aa<(l0.length:Int))
   obtain⟨ba,a1,al,am⟩:=at_T112 a3.out aa z2 z2
   cases a1
   replace al:=z3 HB.out al
   replace am:=z3 HB.out am
   go_wp2_with(first|(refine zL 88 20 Tryz.func88 #[.agg #[.string ((rd_T112 l0 aa).f0),.string ((rd_T112 l0 aa).f1)]] ?_;(with_reducible refine(laws_toNext.calls ((rd_T112 l0 aa).f0) ((rd_T112 l0 aa).f1) ag ah _ A8.out).mono ?_);rintro e ak ⟨rfl,hb⟩;refine⟨_,rfl,?_⟩;replace ac:=zz (Kd.R_below (zR ac.out) hb);replace HB:=zz (zv zb hb);(try clear hb);(try clear bn);(try clear hk);(try clear hi);have az:0≤(aa:Int):=z2;have aA:(aa:Int)<((ab.length:Int):Int):=z2;obtain⟨ad,aB,aC,aD,a2,bh,aE⟩:=Kd.R_form ac.out (by omega);(first|cases aC|(injection aC with ea_ en_ ec_;(first|subst ea_|(injection ea_ with ea_;subst ea_));subst ec_;clear en_));have aF:=zz aD;have bi:=zz aE;clear aD a2 aE;obtain⟨bj,aQ,aG,an,ao⟩:=Kd.R_elem ac.out z64 (aa:Int) az aA;obtain rfl:=k64_openM aG;have a4:ak.cell? ⟨ad,(aa:Int).toNat*2,none⟩=some (.string ((rd_T64 ab aa).f0)):=an 0 _ rfl;have a5:ak.cell? ⟨ad,(aa:Int).toNat*2+1,none⟩=some (.string ((rd_T64 ab aa).f1)):=an 1 _ rfl;have a6:ak.frozen? ⟨ad,(aa:Int).toNat*2,none⟩=false:=ao 0;have a7:ak.frozen? ⟨ad,(aa:Int).toNat*2+1,none⟩=false:=ao 1;clear aQ an ao aG;replace az:=eq_true az;replace aA:=eq_true aA;have aH:=zz (show Kd.R k64 64 ak w.heap.size (fun _=>True) (.slice (some ⟨ad,0,none⟩) ab.length aB) ab from(zR ac.out));obtain⟨bk,ax,aI,ai,ap⟩:=Kd.R_elem aH.out z64 (aa:Int) (z2) (by have h_:(aa:Int)<((ab.length:Int):Int):=z2;first|exact h_|(have e_:=(Kd.qS ac.out).1;omega)|simpa using h_);obtain rfl:=k64_openM aI;have av:=Kd.R_seg aH.out (aa:Int) (z2) (by have h_:(aa:Int)<((ab.length:Int):Int):=z2;first|exact h_|(have e_:=(Kd.qS ac.out).1;omega)|simpa using h_) (seg:=[.string ag,.string ah]) (j:=0) ax ai (show 2≤2 from by decide) (x':=(⟨ag,ah⟩:S64)) (k64_mkM _ _ _ (⟨ag,ah⟩:S64)) (fun _ hk=>hk);have aJ:=ai 0 _ rfl;(try simp only[show(k64).sz=2 from rfl,Nat.mul_one,Nat.add_zero] at aJ);have aK:=ap 0;(try simp only[show(k64).sz=2 from rfl,Nat.mul_one,Nat.add_zero] at aK);have aL:=ai 1 _ rfl;(try simp only[show(k64).sz=2 from rfl,Nat.mul_one,Nat.add_zero] at aL);have aM:=ap 1;(try simp only[show(k64).sz=2 from rfl,Nat.mul_one,Nat.add_zero] at aM);clear ax ai ap aI)|((with_reducible refine qP (t:=64) (p:=21) rfl ?_);refine qL (t:=64) (p:=21) (v:=?a8) (w1:=((ak.setCell ⟨ad,(aa:Int).toNat*2,none⟩ (.string ag)).setCell ⟨ad,(aa:Int).toNat*2+1,none⟩ (.string ah))) ?hg ?ho ?hn ?hr ?_;(case ho=>rfl);(case hg=>rfl);(case hn=>rfl);(case hr=>first|(go_simp;done)|(go_simp;rfl));intro aN hw;have hg:ak.grownBy aN (some ad):=(by rw[hw];exact av.2);have hp_:Kd.R k64 64 aN w.heap.size (fun _=>True) (.slice (some ⟨ad,0,none⟩) ab.length aB) au:=(by rw[hw,aP.out];exact av.1);clear av;replace ac:=zz (hp_);replace HB:=zz ((by rw[hw];exact qH (qH (HB.out) aF.out) aF.out:Below w.heap.size w aN));clear hg hw hp_))
   go_roundg k1
   case measure=>have:=aU.out;omega
   case rel=>exact⟨(au),(wrap64 (aa+1)),zr,H',⟨by have:=aU.out;omega⟩,⟨zR ac.out⟩,⟨zb⟩⟩
def laws_toWorld.f(k:Nat)(aa:List (S103))(ab:List (S107))(ac:List (S110))(ad:List (S112)):Option ((List (S94))×(List (S67))×(List (S61))×(List (S64))):=(laws_toItemS.f k aa).bind fun ae=>((laws_toProfileS.f k ab).bind fun af=>((laws_toPendingS.f k ac).bind fun ag=>((laws_toNextS.f k ad).bind fun ah=>(some (ae,af,ag,ah)))))
theorem laws_toWorld.calls(k:Nat)(am:Option Addr)(an:Nat)(ae:List (S103))(ao:Option Addr)(ap:Nat)(af:List (S107))(ar:Option Addr)(au:Nat)(ag:List (S110))(av:Option Addr)(aw:Nat)(ah:List (S112))(r1:List (S94))(r2:List (S67))(r3:List (S61))(r4:List (S64))(w:World)(aR:Kd.C k103 w am ae.length ae)(aS:ae.length≤an)(aT:Kd.C k107 w ao af.length af)(aU:af.length≤ap)(aV:Kd.C k110 w ar ag.length ag)(aW:ag.length≤au)(aX:Kd.C k112 w av ah.length ah)(aY:ah.length≤aw)(h:laws_toWorld.f k ae af ag ah=some (r1,r2,r3,r4)):
 Calls Tryz.prog 9 #[.agg #[.slice am ae.length an,.slice ao af.length ap,.slice ar ag.length au,.slice av ah.length aw]] w fun e w'=>∃a9 ba bb bc:Value,e= .returned (.agg #[a9,ba,bb,bc])∧Kd.S k94 94 w' w.heap.size (fun _=>True) a9 r1∧Kd.S k67 67 w' w.heap.size (fun _=>True) ba r2∧Kd.S k61 61 w' w.heap.size (fun _=>True) bb r3∧Kd.R k64 64 w' w.heap.size (fun _=>True) bc r4∧Below w.heap.size w w':=by
 have cQ:=Tryz.underlying27
 have cR:=Tryz.underlying35
 have a1:=zz aR
 have a2:=zz aS
 clear aR aS
 have a3:=zz aT
 have a4:=zz aU
 clear aT aU
 have a5:=zz aV
 have a6:=zz aW
 clear aV aW
 have a7:=zz aX
 have a8:=zz aY
 clear aX aY
 have HB:=yB w
 unfold laws_toWorld.f at h
 have H:=h
 clear h
 replace H:=zf H
 obtain⟨ay,bd,H⟩:=H
 try dsimp only at H
 have A2:=zz bd
 clear bd
 replace H:=zf H
 obtain⟨az,be,H⟩:=H
 try dsimp only at H
 have A3:=zz be
 clear be
 replace H:=zf H
 obtain⟨aA,bf,H⟩:=H
 try dsimp only at H
 have A4:=zz bf
 clear bf
 replace H:=zf H
 obtain⟨aB,bg,H⟩:=H
 try dsimp only at H
 have A5:=zz bg
 clear bg
 simp only[Option.some.injEq,Prod.mk.injEq] at H
 obtain⟨rfl,rfl,rfl,rfl⟩:=H
 go_enter Tryz.func9,Tryz.ntmps9
 go_wp2_with(first|(refine zX 1 27 #[.slice am ae.length an,.slice ao af.length ap,.slice ar ag.length au,.slice av ah.length aw] ?_;intro ax hg w6 hbox hb;have ab:=zz (hbox);have cG:=zz ((zg:w.heap.size≤ax));have cH:=zz ((zg:w.heap.size≤ax));replace HB:=zz (zv zb hb);clear hb hbox hg)|(refine zX 2 35 #[.slice none 0 0,.slice none 0 0,.slice none 0 0,.slice none 0 0] ?_;intro ak hg w7 hbox hb;have ac:=zz (hbox);have cI:=zz ((zg:w.heap.size≤ak));have cJ:=zz ((zg:w.heap.size≤ak));replace HB:=zz (zv zb hb);have aL:=zz (zH ab hg);have aM:=zz (zI ab hg);replace ab:=zz (zJ ab hb);clear hb hbox hg)|(refine zX 3 35 #[.slice none 0 0,.slice none 0 0,.slice none 0 0,.slice none 0 0] ?_;intro ad hg w8 hbox hb;have aa:=zz (hbox);have cK:=zz ((zg:w.heap.size≤ad));have cL:=zz ((zg:w.heap.size≤ad));replace HB:=zz (zv zb hb);have aN:=zz (zH ab hg);have aO:=zz (zI ab hg);replace ab:=zz (zJ ab hb);have aP:=zz (zH ac hg);have aQ:=zz (zI ac hg);replace ac:=zz (zJ ac hb);clear hb hbox hg;have cS:=aL.out;have cT:=aM.out;have cM:=aN.out;have cN:=aO.out;obtain⟨bl,bn,bo,bq,br,bs,bu,bv⟩:=zc4 ab.out)|(refine zL 38 6 Tryz.func38 #[.slice am ae.length an] ?_;(with_reducible refine(laws_toItemS.calls k _ _ ae ay _ ?s1 ?s2 A2.out).mono ?_);(case s1=>exact zc a1.out);(case s2=>exact a2.out);rintro e cY ⟨cU,rfl,aj,hb⟩;refine⟨_,rfl,?_⟩;have ai:=zz (Kd.S_lower aj (qE zb));replace ab:=zz (zJ ab hb);replace ac:=zz (zJ ac hb);replace aa:=zz (zJ aa hb);replace HB:=zz (zv zb hb);(try clear hb);(try clear a0);(try clear hk);(try clear hi);(try clear aj);obtain⟨aD,aE,bh⟩:=Kd.S_slice ai.out;subst bh;have cO:=aQ.out;have cP:=aP.out;obtain⟨bw,bz,bA,bB,bC,bD,bE,bF⟩:=zc4 aa.out;obtain⟨bG,bH,bI,bJ,bK,bL,bM,bN⟩:=zc4 ab.out)|(refine zL 39 10 Tryz.func39 #[.slice ao af.length ap] ?_;(with_reducible refine(laws_toProfileS.calls k _ _ af az _ ?s1 ?s2 A3.out).mono ?_);(case s1=>exact Kd.qC a3.out zb);(case s2=>exact a4.out);rintro e cZ ⟨cV,rfl,aj,hb⟩;refine⟨_,rfl,?_⟩;replace ai:=zz (Kd.vE (by(with_reducible repeat(first|apply Kd.vM|apply Kd.vN|apply Kd.S_drew));exact(Kd.qZ (Kd.vK (p:=⟨ad,0,none⟩) (Kd.vB ai.out aa.out (by decide)) (fun _ hk=>hk.2) (.slice aD ay.length aE)) (fun _ h_=>h_.1))) hb);have al:=zz (Kd.S_lower aj (qE zb));replace ab:=zz (qM (g:=ax) (o:= .cells #[.slice am ae.length an,.slice ao af.length ap,.slice ar ag.length au,.slice av ah.length aw] 27 (0,0)) (yP ab.out) hb);replace ac:=zz (qM (g:=ak) (o:= .cells #[.slice none 0 0,.slice none 0 0,.slice none 0 0,.slice none 0 0] 35 (0,0)) (yP ac.out) hb);replace aa:=zz (qM (g:=ad) (o:= .cells #[.slice aD ay.length aE,.slice none 0 0,.slice none 0 0,.slice none 0 0] 35 (0,0)) (yP aa.out) hb);replace HB:=zz (zv zb hb);(try clear hb);(try clear a0);(try clear hk);(try clear hi);(try clear aj);obtain⟨aF,aG,bi⟩:=Kd.S_slice al.out;subst bi;obtain⟨bO,bP,bQ,bR,bS,bT,bU,bV⟩:=zc4 aa.out;obtain⟨bW,bX,bY,bZ,b0,b1,b3,b4⟩:=zc4 ab.out)|(refine zL 40 14 Tryz.func40 #[.slice ar ag.length au] ?_;(with_reducible refine(laws_toPendingS.calls k _ _ ag aA _ ?s1 ?s2 A4.out).mono ?_);(case s1=>exact Kd.qC a5.out zb);(case s2=>exact a6.out);rintro e c5 ⟨cW,rfl,aj,hb⟩;refine⟨_,rfl,?_⟩;replace ai:=zz (Kd.vE (by(with_reducible repeat(first|apply Kd.vM|apply Kd.vN|apply Kd.S_drew));exact(Kd.qZ (Kd.vK (p:=⟨ad,1,none⟩) (Kd.vB ai.out aa.out (by decide)) (fun _ hk=>hk.2) (.slice aF az.length aG)) (fun _ h_=>h_.1))) hb);replace al:=zz (Kd.vE (by(with_reducible repeat(first|apply Kd.vM|apply Kd.vN|apply Kd.S_drew));exact(Kd.qZ (Kd.vK (p:=⟨ad,1,none⟩) (Kd.vB al.out aa.out (by decide)) (fun _ hk=>hk.2) (.slice aF az.length aG)) (fun _ h_=>h_.1))) hb);have aC:=zz (Kd.S_lower aj (qE zb));replace ab:=zz (qM (g:=ax) (o:= .cells #[.slice am ae.length an,.slice ao af.length ap,.slice ar ag.length au,.slice av ah.length aw] 27 (0,0)) (yP ab.out) hb);replace ac:=zz (qM (g:=ak) (o:= .cells #[.slice none 0 0,.slice none 0 0,.slice none 0 0,.slice none 0 0] 35 (0,0)) (yP ac.out) hb);replace aa:=zz (qM (g:=ad) (o:= .cells #[.slice aD ay.length aE,.slice aF az.length aG,.slice none 0 0,.slice none 0 0] 35 (0,0)) (yP aa.out) hb);replace HB:=zz (zv zb hb);(try clear hb);(try clear a0);(try clear hk);(try clear hi);(try clear aj);obtain⟨aH,aI,bj⟩:=Kd.S_slice aC.out;subst bj;obtain⟨b7,b8,ca,cb,cc,cd,ce,cf⟩:=zc4 aa.out;obtain⟨cg,ch,ci,cj,ck,cm,cn,co⟩:=zc4 ab.out)|(refine zL 41 18 Tryz.func41 #[.slice av ah.length aw] ?_;(with_reducible refine(laws_toNextS.calls k _ _ ah aB _ ?s1 ?s2 A5.out).mono ?_);(case s1=>exact Kd.qC a7.out zb);(case s2=>exact a8.out);rintro e c6 ⟨cX,rfl,aj,hb⟩;refine⟨_,rfl,?_⟩;replace ai:=zz (Kd.vE (by(with_reducible repeat(first|apply Kd.vM|apply Kd.vN|apply Kd.S_drew));exact(Kd.qZ (Kd.vK (p:=⟨ad,2,none⟩) (Kd.vB ai.out aa.out (by decide)) (fun _ hk=>hk.2) (.slice aH aA.length aI)) (fun _ h_=>h_.1))) hb);replace al:=zz (Kd.vE (by(with_reducible repeat(first|apply Kd.vM|apply Kd.vN|apply Kd.S_drew));exact(Kd.qZ (Kd.vK (p:=⟨ad,2,none⟩) (Kd.vB al.out aa.out (by decide)) (fun _ hk=>hk.2) (.slice aH aA.length aI)) (fun _ h_=>h_.1))) hb);replace aC:=zz (Kd.vE (by(with_reducible repeat(first|apply Kd.vM|apply Kd.vN|apply Kd.S_drew));exact(Kd.qZ (Kd.vK (p:=⟨ad,2,none⟩) (Kd.vB aC.out aa.out (by decide)) (fun _ hk=>hk.2) (.slice aH aA.length aI)) (fun _ h_=>h_.1))) hb);have aZ:=zz (Kd.vC aj (qE zb));replace ab:=zz (qM (g:=ax) (o:= .cells #[.slice am ae.length an,.slice ao af.length ap,.slice ar ag.length au,.slice av ah.length aw] 27 (0,0)) (yP ab.out) hb);replace ac:=zz (qM (g:=ak) (o:= .cells #[.slice none 0 0,.slice none 0 0,.slice none 0 0,.slice none 0 0] 35 (0,0)) (yP ac.out) hb);replace aa:=zz (qM (g:=ad) (o:= .cells #[.slice aD ay.length aE,.slice aF az.length aG,.slice aH aA.length aI,.slice none 0 0] 35 (0,0)) (yP aa.out) hb);replace HB:=zz (zv zb hb);(try clear hb);(try clear a0);(try clear hk);(try clear hi);(try clear aj);obtain⟨aJ,aK,bk⟩:=Kd.qV aZ.out;subst bk;obtain⟨cp,cq,cr,ct,cu,cv,cw,cx⟩:=zc4 aa.out;obtain⟨cy,cz,cA,cB,cC,cD,cE,cF⟩:=zc4 ac.out))
 refine bodyPost_ret (results_cell_row rfl _ _ ak 35 #[.slice aD ay.length aE,.slice aF az.length aG,.slice aH aA.length aI,.slice aJ aB.length aK] (0,0) _ rfl (yP ac.out) Tryz.underlying35 rfl zk) rfl ?_
 exact⟨_,_,_,_,ze,yS (Kd.vK (p:=⟨ad,3,none⟩) (Kd.vB (Kd.vB ai.out aa.out (by decide)) ac.out (by decide)) (fun _ hk=>hk.1.2) (.slice aJ aB.length aK)),yS (Kd.vK (p:=⟨ad,3,none⟩) (Kd.vB (Kd.vB al.out aa.out (by decide)) ac.out (by decide)) (fun _ hk=>hk.1.2) (.slice aJ aB.length aK)),yS (Kd.vK (p:=⟨ad,3,none⟩) (Kd.vB (Kd.vB aC.out aa.out (by decide)) ac.out (by decide)) (fun _ hk=>hk.1.2) (.slice aJ aB.length aK)),yV (Kd.R_far (p:=⟨ad,3,none⟩) (Kd.qY (Kd.qY aZ.out aa.out (by decide)) ac.out (by decide)) (fun _ hk=>hk.1.2) (.slice aJ aB.length aK)),zb⟩
def laws_eqStringS.l0:Nat→List ByteArray→List ByteArray→Int→Option (Bool)
 |0,_,_,_=>none
 |k+1,x0,x1,x5=>if x5<(x0.length:Int) then(if 0≤x5 then(if x5<(x1.length:Int) then(if(rdOf ByteArray.empty x0 x5).toList=(rdOf ByteArray.empty x1 x5).toList then(laws_eqStringS.l0 k x0 x1 (wrap64 (x5+1))) else(some false)) else(none)) else(none)) else(some true)
def laws_eqStringS.f(k:Nat)(l0:List ByteArray)(l1:List ByteArray):Option (Bool):=if(l0.length:Int)=(l1.length:Int) then(laws_eqStringS.l0 k l0 l1 0) else(some false)
theorem laws_eqStringS.calls(k:Nat)(A0:Option Addr)(c0:Nat)(l0:List ByteArray)(A1:Option Addr)(c1:Nat)(l1:List ByteArray)(r:Bool)(w:World)(aj:Kd.C Kd.string w A0 l0.length l0)(ak:l0.length≤c0)(al:Kd.C Kd.string w A1 l1.length l1)(am:l1.length≤c1)(h:laws_eqStringS.f k l0 l1=some r):
 Calls Tryz.prog 14 #[.slice A0 l0.length c0,.slice A1 l1.length c1] w fun e w'=>e= .returned (.bool r)∧Below w.heap.size w w':=by
 have ax:=zz aj
 have aF:=zz ak
 clear aj ak
 have ay:=zz al
 have aG:=zz am
 clear al am
 have HB:=yB w
 unfold laws_eqStringS.f at h
 have H:=h
 clear h
 replace HB:=HB.out
 have HW:=yB w
 go_enter Tryz.func14,Tryz.ntmps14
 refine yCn H ?_ ?_<;>clear H<;>intro c3 H
 ·obtain⟨an,ao⟩:=zw c3
  have ap:(l0.length==l1.length)=false:=by first|simpa using c3|(simp at c3⊢;omega)
  obtain rfl:=zi H
  exact yR
 obtain⟨an,ao⟩:=zq c3
 have ap:(l0.length==l1.length)=true:=by first|simpa using c3|(simp at c3⊢;omega)
 clear c3
 go_wp2_with(fail)
 go_loopg[5] k (fun kq v5 w'=>∃(aa:Int),v5= .int .i64 aa∧qA (laws_eqStringS.l0 kq l0 l1 aa=some r)∧qA (kq≤k)∧qA (Below w.heap.size w w'))
 case atStart=>exact⟨(0),zr,⟨H⟩,⟨Nat.le_refl _⟩,⟨HB⟩⟩
 case round=>
  clear H HB
  obtain⟨aa,rfl,H,ah,HB⟩:=hrel
  replace HB:=HB.out
  replace H:=H.out
  have ai:=yB w
  cases gk with
  |zero=>exact absurd H (by simp[laws_eqStringS.l0])
  |succ az=>
   simp only[laws_eqStringS.l0] at H
   refine yDn H ?_ ?_<;>clear H<;>intro aC H
   ·obtain rfl:=zi H
    exact yR
   go_wp2_with(fail)
   try simp only[Act.put,List.setIfInBounds_toArray,List.set_cons_zero,List.set_cons_succ]
   refine qN (C:=fun W_=>Below w.heap.size w W_) zk zk (qJ HB) ?_
   replace H:=yAD H
   obtain⟨aD,H⟩:=H
   have ad:0≤(aa:Int):=z2
   have ae:(aa:Int)<(l0.length:Int):=z2
   obtain⟨aA,ar,ab⟩:=Kd.vJ ax.out aa ad ae
   cases ar
   replace ab:=qK ab
   replace ad:=eq_true ad
   replace ae:=eq_true ae
   replace H:=yAD H
   obtain⟨aE,H⟩:=H
   have af:0≤(aa:Int):=z2
   have ag:(aa:Int)<(l1.length:Int):=z2
   obtain⟨aB,au,ac⟩:=Kd.vJ ay.out aa af ag
   cases au
   replace ac:=qK ac
   replace af:=eq_true af
   replace ag:=eq_true ag
   refine yCn H ?_ ?_<;>clear H<;>intro c8 H
   ·obtain⟨av,aw⟩:=zw c8
    obtain rfl:=zi H
    exact yQ
   obtain⟨av,aw⟩:=zq c8
   clear c8
   repeat(first|go_big_quiet_skip|(go_big_quiet_want;go_big_quiet_op;first|go_big_quiet_on|(refine zE ?_;go_big_quiet_on)))
   clear HB
   refine zW fun w9 (HB:Below w.heap.size w w9)=>?_
   go_wp2_with(fail)
   go_roundg az
   case measure=>have:=ah.out;omega
   case rel=>exact⟨(wrap64 (aa+1)),zr,⟨H⟩,⟨by have:=ah.out;omega⟩,⟨zv ai.out HB⟩⟩
def laws_eqEntry.f(aa:ByteArray)(ab:Int)(ac:ByteArray)(ad:Bool)(ae:ByteArray)(af:Int)(ag:ByteArray)(ah:Bool):Option (Bool):=if aa.toList=ae.toList then(if ab=af then(if ac.toList=ag.toList then(if(ad !=ah)=true then(some false) else(some true)) else(some false)) else(some false)) else(some false)
theorem laws_eqEntry.calls(ak:ByteArray)(al:Int)(am:ByteArray)(ae:Bool)(an:ByteArray)(ao:Int)(ap:ByteArray)(af:Bool)(r:Bool)(w:World)(h:laws_eqEntry.f ak al am ae an ao ap af=some r):
 Calls Tryz.prog 67 #[.agg #[.string ak,.int .i64 al,.string am,.bool ae],.agg #[.string an,.int .i64 ao,.string ap,.bool af]] w fun e w'=>e= .returned (.bool r)∧Below w.heap.size w w':=by
 have aL:=Tryz.underlying96
 have HB:=yB w
 unfold laws_eqEntry.f at h
 have H:=h
 clear h
 replace HB:=HB.out
 have HW:=yB w
 go_enter Tryz.func67,Tryz.ntmps67
 refine yCn H ?_ ?_<;>clear H<;>intro c3 H
 ·obtain⟨aC,aD⟩:=zw c3
  obtain rfl:=zi H
  go_wp2_with(first|(refine zN 2 ?_;(try(refine z4 ?_;dsimp only));refine zX 2 96 #[.string ak,.int .i64 al,.string am,.bool ae] ?_;intro ar hg av hbox hb;have hst:=zv HB hb;clear hg hb HB;replace HW:=zz (zv HW.out hst);obtain⟨aa,ab,ac,ad⟩:=zx4 hbox;have HB:=Below.refl av.heap.size av;clear hbox hst)|(refine zN 3 ?_;(try(refine z4 ?_;dsimp only));refine zX 3 96 #[.string an,.int .i64 ao,.string ap,.bool af] ?_;intro au hg aw hbox hb;have hst:=zv HB hb;clear hg hb HB;replace HW:=zz (zv HW.out hst);replace aa:=qF aa hst;replace ab:=qF ab hst;replace ac:=qF ac hst;replace ad:=qF ad hst;obtain⟨ag,ah,ai,aj⟩:=zx4 hbox;have HB:=Below.refl aw.heap.size aw;clear hbox hst))
  go_ret
  exact⟨ze,zv HW.out HB⟩
 obtain⟨aC,aD⟩:=zq c3
 clear c3
 refine yCn H ?_ ?_<;>clear H<;>intro c4 H
 ·obtain⟨aE,aF⟩:=zw c4
  obtain rfl:=zi H
  go_wp2_with(first|(refine zN 2 ?_;(try(refine z4 ?_;dsimp only));refine zX 2 96 #[.string ak,.int .i64 al,.string am,.bool ae] ?_;intro ar hg ax hbox hb;have hst:=zv HB hb;clear hg hb HB;replace HW:=zz (zv HW.out hst);obtain⟨aa,ab,ac,ad⟩:=zx4 hbox;have HB:=Below.refl ax.heap.size ax;clear hbox hst)|(refine zN 3 ?_;(try(refine z4 ?_;dsimp only));refine zX 3 96 #[.string an,.int .i64 ao,.string ap,.bool af] ?_;intro au hg ay hbox hb;have hst:=zv HB hb;clear hg hb HB;replace HW:=zz (zv HW.out hst);replace aa:=qF aa hst;replace ab:=qF ab hst;replace ac:=qF ac hst;replace ad:=qF ad hst;obtain⟨ag,ah,ai,aj⟩:=zx4 hbox;have HB:=Below.refl ay.heap.size ay;clear hbox hst))
  go_ret
  exact⟨ze,zv HW.out HB⟩
 obtain⟨aE,aF⟩:=zq c4
 clear c4
 refine yCn H ?_ ?_<;>clear H<;>intro c5 H
 ·obtain⟨aG,aH⟩:=zw c5
  obtain rfl:=zi H
  go_wp2_with(first|(refine zN 2 ?_;(try(refine z4 ?_;dsimp only));refine zX 2 96 #[.string ak,.int .i64 al,.string am,.bool ae] ?_;intro ar hg az hbox hb;have hst:=zv HB hb;clear hg hb HB;replace HW:=zz (zv HW.out hst);obtain⟨aa,ab,ac,ad⟩:=zx4 hbox;have HB:=Below.refl az.heap.size az;clear hbox hst)|(refine zN 3 ?_;(try(refine z4 ?_;dsimp only));refine zX 3 96 #[.string an,.int .i64 ao,.string ap,.bool af] ?_;intro au hg aA hbox hb;have hst:=zv HB hb;clear hg hb HB;replace HW:=zz (zv HW.out hst);replace aa:=qF aa hst;replace ab:=qF ab hst;replace ac:=qF ac hst;replace ad:=qF ad hst;obtain⟨ag,ah,ai,aj⟩:=zx4 hbox;have HB:=Below.refl aA.heap.size aA;clear hbox hst))
  go_ret
  exact⟨ze,zv HW.out HB⟩
 obtain⟨aG,aH⟩:=zq c5
 clear c5
 refine yCn H ?_ ?_<;>clear H<;>intro c6 H
 ·have aI:(ae !=af)=false:=by simpa using c6
  (try(have aJ:decide (ae=af)=true:=by simpa using c6))
  (try(have aK:(ae==af)=true:=by simpa using c6))
  clear c6
  obtain rfl:=zi H
  go_wp2_with(first|(refine zN 2 ?_;(try(refine z4 ?_;dsimp only));refine zX 2 96 #[.string ak,.int .i64 al,.string am,.bool ae] ?_;intro ar hg w9 hbox hb;have hst:=zv HB hb;clear hg hb HB;replace HW:=zz (zv HW.out hst);obtain⟨aa,ab,ac,ad⟩:=zx4 hbox;have HB:=Below.refl w9.heap.size w9;clear hbox hst)|(refine zN 3 ?_;(try(refine z4 ?_;dsimp only));refine zX 3 96 #[.string an,.int .i64 ao,.string ap,.bool af] ?_;intro au hg aB hbox hb;have hst:=zv HB hb;clear hg hb HB;replace HW:=zz (zv HW.out hst);replace aa:=qF aa hst;replace ab:=qF ab hst;replace ac:=qF ac hst;replace ad:=qF ad hst;obtain⟨ag,ah,ai,aj⟩:=zx4 hbox;have HB:=Below.refl aB.heap.size aB;clear hbox hst))
  go_ret
  exact⟨ze,zv HW.out HB⟩
 have aI:(ae !=af)=true:=c6
 (try(have aJ:decide (ae=af)=false:=by simpa using c6))
 (try(have aK:(ae==af)=false:=by simpa using c6))
 (try(have aM:¬(ae=af):=by simpa using c6))
 clear c6
 obtain rfl:=zi H
 go_wp2_with(first|(refine zN 2 ?_;(try(refine z4 ?_;dsimp only));refine zX 2 96 #[.string ak,.int .i64 al,.string am,.bool ae] ?_;intro ar hg w7 hbox hb;have hst:=zv HB hb;clear hg hb HB;replace HW:=zz (zv HW.out hst);obtain⟨aa,ab,ac,ad⟩:=zx4 hbox;have HB:=Below.refl w7.heap.size w7;clear hbox hst)|(refine zN 3 ?_;(try(refine z4 ?_;dsimp only));refine zX 3 96 #[.string an,.int .i64 ao,.string ap,.bool af] ?_;intro au hg w8 hbox hb;have hst:=zv HB hb;clear hg hb HB;replace HW:=zz (zv HW.out hst);replace aa:=qF aa hst;replace ab:=qF ab hst;replace ac:=qF ac hst;replace ad:=qF ad hst;obtain⟨ag,ah,ai,aj⟩:=zx4 hbox;have HB:=Below.refl w8.heap.size w8;clear hbox hst))
 go_ret
 exact⟨ze,zv HW.out HB⟩
def laws_eqEntryS.l0:Nat→List (S96)→List (S96)→Int→Option (Bool)
 |0,_,_,_=>none
 |k+1,x0,x1,x5=>if x5<(x0.length:Int) then(if 0≤x5 then(if x5<(x1.length:Int) then((laws_eqEntry.f ((qB x0 x5).f0) ((qB x0 x5).f1) ((qB x0 x5).f2) ((qB x0 x5).f3) ((qB x1 x5).f0) ((qB x1 x5).f1) ((qB x1 x5).f2) ((qB x1 x5).f3)).bind fun aa=>(if aa=true then(laws_eqEntryS.l0 k x0 x1 (wrap64 (x5+1))) else(some false))) else(none)) else(none)) else(some true)
def laws_eqEntryS.f(k:Nat)(l0:List (S96))(l1:List (S96)):Option (Bool):=if(l0.length:Int)=(l1.length:Int) then(laws_eqEntryS.l0 k l0 l1 0) else(some false)
theorem laws_eqEntryS.calls(k:Nat)(A0:Option Addr)(c0:Nat)(l0:List (S96))(A1:Option Addr)(c1:Nat)(l1:List (S96))(r:Bool)(w:World)(al:Kd.C k96 w A0 l0.length l0)(am:l0.length≤c0)(an:Kd.C k96 w A1 l1.length l1)(ao:l1.length≤c1)(h:laws_eqEntryS.f k l0 l1=some r):
 Calls Tryz.prog 22 #[.slice A0 l0.length c0,.slice A1 l1.length c1] w fun e w'=>e= .returned (.bool r)∧Below w.heap.size w w':=by
 have aE:=Tryz.underlying96
 have ax:=zz al
 have aN:=zz am
 clear al am
 have ay:=zz an
 have aO:=zz ao
 clear an ao
 have HB:=yB w
 unfold laws_eqEntryS.f at h
 have H:=h
 clear h
 replace HB:=HB.out
 have HW:=yB w
 go_enter Tryz.func22,Tryz.ntmps22
 refine yCn H ?_ ?_<;>clear H<;>intro c3 H
 ·obtain⟨ap,ar⟩:=zw c3
  have au:(l0.length==l1.length)=false:=by first|simpa using c3|(simp at c3⊢;omega)
  obtain rfl:=zi H
  exact yR
 obtain⟨ap,ar⟩:=zq c3
 have au:(l0.length==l1.length)=true:=by first|simpa using c3|(simp at c3⊢;omega)
 clear c3
 go_wp2_with(fail)
 go_loopg[5] k (fun kq v5 w'=>∃(aa:Int),v5= .int .i64 aa∧qA (laws_eqEntryS.l0 kq l0 l1 aa=some r)∧qA (kq≤k)∧qA (Below w.heap.size w w'))
 case atStart=>exact⟨(0),zr,⟨H⟩,⟨Nat.le_refl _⟩,⟨HB⟩⟩
 case round=>
  clear H HB
  obtain⟨aa,rfl,H,aj,HB⟩:=hrel
  replace HB:=HB.out
  replace H:=H.out
  have ak:=yB w
  cases gk with
  |zero=>exact absurd H (by simp[laws_eqEntryS.l0])
  |succ az=>
   simp only[laws_eqEntryS.l0] at H
   refine yDn H ?_ ?_<;>clear H<;>intro aF H
   ·obtain rfl:=zi H
    exact yR
   go_wp2_with(fail)
   try simp only[Act.put,List.setIfInBounds_toArray,List.set_cons_zero,List.set_cons_succ]
   refine qN (C:=fun W_=>Below w.heap.size w W_) zk zk (qJ HB) ?_
   replace H:=yAD H
   obtain⟨aG,H⟩:=H
   have aH:=yt (0≤(aa:Int))
   have aI:=yt ((aa:Int)<(l0.length:Int))
   obtain⟨aC,av,ab,ac,ad,ae⟩:=at_T96 ax.out aa z2 z2
   cases av
   replace ab:=qK ab
   replace ac:=qK ac
   replace ad:=qK ad
   replace ae:=qK ae
   replace H:=yAD H
   obtain⟨aJ,H⟩:=H
   have aK:=yt (0≤(aa:Int))
   have aL:=yt ((aa:Int)<(l1.length:Int))
   obtain⟨aD,aw,af,ag,ah,ai⟩:=at_T96 ay.out aa z2 z2
   cases aw
   replace af:=qK af
   replace ag:=qK ag
   replace ah:=qK ah
   replace ai:=qK ai
   replace H:=yf H
   obtain⟨aM,A8,H⟩:=H
   refine yT H ?_ ?_<;>clear H<;>rintro rfl H
   ·repeat(first|go_big_quiet_skip|(go_big_quiet_want;go_big_quiet_op;first|go_big_quiet_on|(with_reducible apply Exists.intro;refine⟨fun W hW=>?_,?_⟩;(first|with_reducible rfl|(go_at_call 67;exact vH (laws_eqEntry.calls _ _ _ _ _ _ _ _ _ _ A8.out) hW)|(go_simp;with_reducible rfl));go_big_quiet_on)))
    clear HB
    refine zW fun aA (HB:Below w.heap.size w aA)=>?_
    go_wp2_with(fail)
    go_roundg az
    case measure=>have:=aj.out;omega
    case rel=>exact⟨(wrap64 (aa+1)),zr,⟨H⟩,⟨by have:=aj.out;omega⟩,⟨zv ak.out HB⟩⟩
   obtain rfl:=zi H
   repeat(first|go_big_quiet_skip|(go_big_quiet_want;go_big_quiet_op;first|go_big_quiet_on|(with_reducible apply Exists.intro;refine⟨fun W hW=>?_,?_⟩;(first|with_reducible rfl|(go_at_call 67;exact vH (laws_eqEntry.calls _ _ _ _ _ _ _ _ _ _ A8.out) hW)|(go_simp;with_reducible rfl));go_big_quiet_on)))
   clear HB
   refine zW fun aB (HB:Below w.heap.size w aB)=>?_
   exact yR
def laws_eqItem.f(k:Nat)(aa:ByteArray)(ab:ByteArray)(ac:List ByteArray)(ad:ByteArray)(ae:List (S96))(af:ByteArray)(ag:ByteArray)(ah:List ByteArray)(ai:ByteArray)(aj:List (S96)):Option (Bool):=if aa.toList=af.toList then(if ab.toList=ag.toList then((laws_eqStringS.f k ac ah).bind fun ak=>(if ak=true then(if ad.toList=ai.toList then((laws_eqEntryS.f k ae aj).bind fun al=>(if al=true then(some true) else(some false))) else(some false)) else(some false))) else(some false)) else(some false)
theorem laws_eqItem.calls(k:Nat)(an:ByteArray)(ao:ByteArray)(ap:Option Addr)(ar:Nat)(aj:List ByteArray)(au:ByteArray)(av:Option Addr)(aw:Nat)(ak:List (S96))(ax:ByteArray)(ay:ByteArray)(az:Option Addr)(aA:Nat)(al:List ByteArray)(aB:ByteArray)(aC:Option Addr)(aD:Nat)(am:List (S96))(r:Bool)(w:World)(aJ:Kd.C Kd.string w ap aj.length aj)(aK:aj.length≤ar)(aL:Kd.C k96 w av ak.length ak)(aM:ak.length≤aw)(aN:Kd.C Kd.string w az al.length al)(aO:al.length≤aA)(aP:Kd.C k96 w aC am.length am)(aQ:am.length≤aD)(h:laws_eqItem.f k an ao aj au ak ax ay al aB am=some r):
 Calls Tryz.prog 96 #[.agg #[.string an,.string ao,.slice ap aj.length ar,.string au,.slice av ak.length aw],.agg #[.string ax,.string ay,.slice az al.length aA,.string aB,.slice aC am.length aD]] w fun e w'=>e= .returned (.bool r)∧Below w.heap.size w w':=by
 have a9:=Tryz.underlying94
 have ah:=zz aJ
 have aV:=zz aK
 clear aJ aK
 have aa:=zz aL
 have aR:=zz aM
 clear aL aM
 have ai:=zz aN
 have aW:=zz aO
 clear aN aO
 have ab:=zz aP
 have aS:=zz aQ
 clear aP aQ
 have HB:=yB w
 unfold laws_eqItem.f at h
 have H:=h
 clear h
 replace HB:=HB.out
 have HW:=yB w
 go_enter Tryz.func96,Tryz.ntmps96
 refine yCn H ?_ ?_<;>clear H<;>intro c3 H
 ·obtain⟨a3,a4⟩:=zw c3
  obtain rfl:=zi H
  go_wp2_with(first|(refine zN 2 ?_;(try(refine z4 ?_;dsimp only));refine zX 2 94 #[.string an,.string ao,.slice ap aj.length ar,.string au,.slice av ak.length aw] ?_;intro aT hg aX hbox hb;have hst:=zv HB hb;clear hg hb HB;replace HW:=zz (zv HW.out hst);replace ah:=zz (Kd.qC ah.out hst);replace aa:=zz (Kd.qC aa.out hst);replace ai:=zz (Kd.qC ai.out hst);replace ab:=zz (Kd.qC ab.out hst);obtain⟨ac,ad,ae,af,ag⟩:=zx5 hbox;have HB:=Below.refl aX.heap.size aX;clear hbox hst)|(refine zN 3 ?_;(try(refine z4 ?_;dsimp only));refine zX 3 94 #[.string ax,.string ay,.slice az al.length aA,.string aB,.slice aC am.length aD] ?_;intro aU hg aY hbox hb;have hst:=zv HB hb;clear hg hb HB;replace HW:=zz (zv HW.out hst);replace ah:=zz (Kd.qC ah.out hst);replace aa:=zz (Kd.qC aa.out hst);replace ai:=zz (Kd.qC ai.out hst);replace ab:=zz (Kd.qC ab.out hst);replace ac:=qF ac hst;replace ad:=qF ad hst;replace ae:=qF ae hst;replace af:=qF af hst;replace ag:=qF ag hst;obtain⟨aE,aF,aG,aH,aI⟩:=zx5 hbox;have HB:=Below.refl aY.heap.size aY;clear hbox hst))
  go_ret
  exact⟨ze,zv HW.out HB⟩
 obtain⟨a3,a4⟩:=zq c3
 clear c3
 refine yCn H ?_ ?_<;>clear H<;>intro c4 H
 ·obtain⟨a5,a6⟩:=zw c4
  obtain rfl:=zi H
  go_wp2_with(first|(refine zN 2 ?_;(try(refine z4 ?_;dsimp only));refine zX 2 94 #[.string an,.string ao,.slice ap aj.length ar,.string au,.slice av ak.length aw] ?_;intro aT hg aZ hbox hb;have hst:=zv HB hb;clear hg hb HB;replace HW:=zz (zv HW.out hst);replace ah:=zz (Kd.qC ah.out hst);replace aa:=zz (Kd.qC aa.out hst);replace ai:=zz (Kd.qC ai.out hst);replace ab:=zz (Kd.qC ab.out hst);obtain⟨ac,ad,ae,af,ag⟩:=zx5 hbox;have HB:=Below.refl aZ.heap.size aZ;clear hbox hst)|(refine zN 3 ?_;(try(refine z4 ?_;dsimp only));refine zX 3 94 #[.string ax,.string ay,.slice az al.length aA,.string aB,.slice aC am.length aD] ?_;intro aU hg a0 hbox hb;have hst:=zv HB hb;clear hg hb HB;replace HW:=zz (zv HW.out hst);replace ah:=zz (Kd.qC ah.out hst);replace aa:=zz (Kd.qC aa.out hst);replace ai:=zz (Kd.qC ai.out hst);replace ab:=zz (Kd.qC ab.out hst);replace ac:=qF ac hst;replace ad:=qF ad hst;replace ae:=qF ae hst;replace af:=qF af hst;replace ag:=qF ag hst;obtain⟨aE,aF,aG,aH,aI⟩:=zx5 hbox;have HB:=Below.refl a0.heap.size a0;clear hbox hst))
  go_ret
  exact⟨ze,zv HW.out HB⟩
 obtain⟨a5,a6⟩:=zq c4
 clear c4
 replace H:=yf H
 obtain⟨ba,A5,H⟩:=H
 go_wp2_with(first|(refine zN 2 ?_;(try(refine z4 ?_;dsimp only));refine zX 2 94 #[.string an,.string ao,.slice ap aj.length ar,.string au,.slice av ak.length aw] ?_;intro aT hg w9 hbox hb;have hst:=zv HB hb;clear hg hb HB;replace HW:=zz (zv HW.out hst);replace ah:=zz (Kd.qC ah.out hst);replace aa:=zz (Kd.qC aa.out hst);replace ai:=zz (Kd.qC ai.out hst);replace ab:=zz (Kd.qC ab.out hst);obtain⟨ac,ad,ae,af,ag⟩:=zx5 hbox;have HB:=Below.refl w9.heap.size w9;clear hbox hst)|(refine zN 3 ?_;(try(refine z4 ?_;dsimp only));refine zX 3 94 #[.string ax,.string ay,.slice az al.length aA,.string aB,.slice aC am.length aD] ?_;intro aU hg a1 hbox hb;have hst:=zv HB hb;clear hg hb HB;replace HW:=zz (zv HW.out hst);replace ah:=zz (Kd.qC ah.out hst);replace aa:=zz (Kd.qC aa.out hst);replace ai:=zz (Kd.qC ai.out hst);replace ab:=zz (Kd.qC ab.out hst);replace ac:=qF ac hst;replace ad:=qF ad hst;replace ae:=qF ae hst;replace af:=qF af hst;replace ag:=qF ag hst;obtain⟨aE,aF,aG,aH,aI⟩:=zx5 hbox;have HB:=Below.refl a1.heap.size a1;clear hbox hst))
 refine(laws_eqStringS.calls k _ _ _ _ _ _ _ _ (Kd.qC ah.out HB) aV.out (Kd.qC ai.out HB) aW.out A5.out).mono ?_
 rintro e bc ⟨rfl,hb⟩
 replace HB:=zv HB hb
 clear hb
 refine yF H ?_ ?_<;>clear H<;>rintro rfl H
 ·obtain rfl:=zi H
  exact yR
 refine yCn H ?_ ?_<;>clear H<;>intro c7 H
 ·obtain⟨a7,a8⟩:=zw c7
  obtain rfl:=zi H
  exact yR
 obtain⟨a7,a8⟩:=zq c7
 clear c7
 replace H:=yf H
 obtain⟨bb,a2,H⟩:=H
 refine yT H ?_ ?_<;>clear H<;>rintro rfl H
 ·go_wp2_with(fail)
  refine(laws_eqEntryS.calls k _ _ _ _ _ _ _ _ (Kd.qC aa.out HB) aR.out (Kd.qC ab.out HB) aS.out a2.out).mono ?_
  rintro e bd ⟨rfl,hb⟩
  replace HB:=zv HB hb
  clear hb
  obtain rfl:=zi H
  exact yR
 go_wp2_with(fail)
 refine(laws_eqEntryS.calls k _ _ _ _ _ _ _ _ (Kd.qC aa.out HB) aR.out (Kd.qC ab.out HB) aS.out a2.out).mono ?_
 rintro e be ⟨rfl,hb⟩
 replace HB:=zv HB hb
 clear hb
 obtain rfl:=zi H
 exact yR
def laws_eqItemS.l0:Nat→List (S94)→List (S94)→Int→Option (Bool)
 |0,_,_,_=>none
 |k+1,x0,x1,x5=>if x5<(x0.length:Int) then(if 0≤x5 then(if x5<(x1.length:Int) then((laws_eqItem.f k ((qG x0 x5).f0) ((qG x0 x5).f1) ((qG x0 x5).f2) ((qG x0 x5).f3) ((qG x0 x5).f4) ((qG x1 x5).f0) ((qG x1 x5).f1) ((qG x1 x5).f2) ((qG x1 x5).f3) ((qG x1 x5).f4)).bind fun aa=>(if aa=true then(laws_eqItemS.l0 k x0 x1 (wrap64 (x5+1))) else(some false))) else(none)) else(none)) else(some true)
def laws_eqItemS.f(k:Nat)(l0:List (S94))(l1:List (S94)):Option (Bool):=if(l0.length:Int)=(l1.length:Int) then(laws_eqItemS.l0 k l0 l1 0) else(some false)
theorem laws_eqItemS.calls(k:Nat)(A0:Option Addr)(c0:Nat)(l0:List (S94))(A1:Option Addr)(c1:Nat)(l1:List (S94))(r:Bool)(w:World)(aH:Kd.C k94 w A0 l0.length l0)(aI:l0.length≤c0)(aJ:Kd.C k94 w A1 l1.length l1)(aK:l1.length≤c1)(h:laws_eqItemS.f k l0 l1=some r):
 Calls Tryz.prog 48 #[.slice A0 l0.length c0,.slice A1 l1.length c1] w fun e w'=>e= .returned (.bool r)∧Below w.heap.size w w':=by
 have a4:=Tryz.underlying94
 have aQ:=zz aH
 have bd:=zz aI
 clear aH aI
 have aR:=zz aJ
 have be:=zz aK
 clear aJ aK
 have HB:=yB w
 unfold laws_eqItemS.f at h
 have H:=h
 clear h
 replace HB:=HB.out
 have HW:=yB w
 go_enter Tryz.func48,Tryz.ntmps48
 refine yCn H ?_ ?_<;>clear H<;>intro c3 H
 ·obtain⟨aL,aM⟩:=zw c3
  have aN:(l0.length==l1.length)=false:=by first|simpa using c3|(simp at c3⊢;omega)
  obtain rfl:=zi H
  exact yR
 obtain⟨aL,aM⟩:=zq c3
 have aN:(l0.length==l1.length)=true:=by first|simpa using c3|(simp at c3⊢;omega)
 clear c3
 go_wp2_with(fail)
 go_loopg[5] k (fun kq v5 w'=>∃(aa:Int),v5= .int .i64 aa∧qA (laws_eqItemS.l0 kq l0 l1 aa=some r)∧qA (kq≤k)∧qA (Below w.heap.size w w'))
 case atStart=>exact⟨(0),zr,⟨H⟩,⟨Nat.le_refl _⟩,⟨HB⟩⟩
 case round=>
  clear H HB
  obtain⟨aa,rfl,H,aE,HB⟩:=hrel
  replace HB:=HB.out
  replace H:=H.out
  have aG:=yB w
  cases gk with
  |zero=>exact absurd H (by simp[laws_eqItemS.l0])
  |succ aF=>
   simp only[laws_eqItemS.l0] at H
   refine yDn H ?_ ?_<;>clear H<;>intro a5 H
   ·obtain rfl:=zi H
    exact yR
   go_wp2_with(fail)
   try simp only[Act.put,List.setIfInBounds_toArray,List.set_cons_zero,List.set_cons_succ]
   refine qN (C:=fun W_=>Below w.heap.size w W_) zk zk (qJ HB) ?_
   replace H:=yAD H
   obtain⟨a6,H⟩:=H
   have a7:=yt (0≤(aa:Int))
   have a8:=yt ((aa:Int)<(l0.length:Int))
   obtain⟨a2,aS,aT,aU,aV,aO,ab,ac,ad,ae,af,ag,ah,ai,aj⟩:=at_T94 aQ.out aa z2 z2
   cases aO
   replace ab:=qK ab
   replace ac:=qK ac
   replace ad:=qK ad
   replace ae:=qK ae
   replace af:=qK af
   have ak:=zz ah
   have al:=zz ag
   clear ah ag
   have am:=zz aj
   have an:=zz ai
   clear aj ai
   replace H:=yAD H
   obtain⟨a9,H⟩:=H
   have ba:=yt (0≤(aa:Int))
   have bb:=yt ((aa:Int)<(l1.length:Int))
   obtain⟨a3,aW,aX,aY,aZ,aP,ao,ap,ar,au,av,aw,ax,ay,az⟩:=at_T94 aR.out aa z2 z2
   cases aP
   replace ao:=qK ao
   replace ap:=qK ap
   replace ar:=qK ar
   replace au:=qK au
   replace av:=qK av
   have aA:=zz ax
   have aB:=zz aw
   clear ax aw
   have aC:=zz az
   have aD:=zz ay
   clear az ay
   replace H:=yf H
   obtain⟨bc,A8,H⟩:=H
   refine yT H ?_ ?_<;>clear H<;>rintro rfl H
   ·repeat(first|go_big_quiet_skip|(go_big_quiet_want;go_big_quiet_op;first|go_big_quiet_on|(with_reducible apply Exists.intro;refine⟨fun W hW=>?_,?_⟩;(first|with_reducible rfl|(go_at_call 96;exact vH (laws_eqItem.calls aF _ _ _ _ _ _ _ _ _ _ _ _ _ _ _ _ _ _ _ _ (Kd.qC ak.out hW) al.out (Kd.qC am.out hW) an.out (Kd.qC aA.out hW) aB.out (Kd.qC aC.out hW) aD.out A8.out) hW)|(go_simp;with_reducible rfl));go_big_quiet_on)))
    clear HB
    refine zW fun a0 (HB:Below w.heap.size w a0)=>?_
    go_wp2_with(fail)
    go_roundg aF
    case measure=>have:=aE.out;omega
    case rel=>exact⟨(wrap64 (aa+1)),zr,⟨H⟩,⟨by have:=aE.out;omega⟩,⟨zv aG.out HB⟩⟩
   obtain rfl:=zi H
   repeat(first|go_big_quiet_skip|(go_big_quiet_want;go_big_quiet_op;first|go_big_quiet_on|(with_reducible apply Exists.intro;refine⟨fun W hW=>?_,?_⟩;(first|with_reducible rfl|(go_at_call 96;exact vH (laws_eqItem.calls aF _ _ _ _ _ _ _ _ _ _ _ _ _ _ _ _ _ _ _ _ (Kd.qC ak.out hW) al.out (Kd.qC am.out hW) an.out (Kd.qC aA.out hW) aB.out (Kd.qC aC.out hW) aD.out A8.out) hW)|(go_simp;with_reducible rfl));go_big_quiet_on)))
   clear HB
   refine zW fun a1 (HB:Below w.heap.size w a1)=>?_
   exact yR
def laws_eqGen.f(aa:Int)(ab:ByteArray)(ac:Int)(ad:ByteArray):Option (Bool):=if aa=ac then(if ab.toList=ad.toList then(some true) else(some false)) else(some false)
theorem laws_eqGen.calls(ac:Int)(ad:ByteArray)(ae:Int)(af:ByteArray)(r:Bool)(w:World)(h:laws_eqGen.f ac ad ae af=some r):
 Calls Tryz.prog 154 #[.agg #[.int .i64 ac,.string ad],.agg #[.int .i64 ae,.string af]] w fun e w'=>e= .returned (.bool r)∧Below w.heap.size w w':=by
 have ap:=Tryz.underlying70
 have HB:=yB w
 unfold laws_eqGen.f at h
 have H:=h
 clear h
 replace HB:=HB.out
 have HW:=yB w
 go_enter Tryz.func154,Tryz.ntmps154
 refine yCn H ?_ ?_<;>clear H<;>intro c3 H
 ·obtain⟨al,am⟩:=zw c3
  obtain rfl:=zi H
  go_wp2_with(first|(refine zN 2 ?_;(try(refine z4 ?_;dsimp only));refine zX 2 70 #[.int .i64 ac,.string ad] ?_;intro ai hg w9 hbox hb;have hst:=zv HB hb;clear hg hb HB;replace HW:=zz (zv HW.out hst);obtain⟨aa,ab⟩:=zx2 hbox;have HB:=Below.refl w9.heap.size w9;clear hbox hst)|(refine zN 3 ?_;(try(refine z4 ?_;dsimp only));refine zX 3 70 #[.int .i64 ae,.string af] ?_;intro aj hg ak hbox hb;have hst:=zv HB hb;clear hg hb HB;replace HW:=zz (zv HW.out hst);replace aa:=qF aa hst;replace ab:=qF ab hst;obtain⟨ag,ah⟩:=zx2 hbox;have HB:=Below.refl ak.heap.size ak;clear hbox hst))
  go_ret
  exact⟨ze,zv HW.out HB⟩
 obtain⟨al,am⟩:=zq c3
 clear c3
 refine yCn H ?_ ?_<;>clear H<;>intro c4 H
 ·obtain⟨an,ao⟩:=zw c4
  obtain rfl:=zi H
  go_wp2_with(first|(refine zN 2 ?_;(try(refine z4 ?_;dsimp only));refine zX 2 70 #[.int .i64 ac,.string ad] ?_;intro ai hg w7 hbox hb;have hst:=zv HB hb;clear hg hb HB;replace HW:=zz (zv HW.out hst);obtain⟨aa,ab⟩:=zx2 hbox;have HB:=Below.refl w7.heap.size w7;clear hbox hst)|(refine zN 3 ?_;(try(refine z4 ?_;dsimp only));refine zX 3 70 #[.int .i64 ae,.string af] ?_;intro aj hg w8 hbox hb;have hst:=zv HB hb;clear hg hb HB;replace HW:=zz (zv HW.out hst);replace aa:=qF aa hst;replace ab:=qF ab hst;obtain⟨ag,ah⟩:=zx2 hbox;have HB:=Below.refl w8.heap.size w8;clear hbox hst))
  go_ret
  exact⟨ze,zv HW.out HB⟩
 obtain⟨an,ao⟩:=zq c4
 clear c4
 obtain rfl:=zi H
 go_wp2_with(first|(refine zN 2 ?_;(try(refine z4 ?_;dsimp only));refine zX 2 70 #[.int .i64 ac,.string ad] ?_;intro ai hg w5 hbox hb;have hst:=zv HB hb;clear hg hb HB;replace HW:=zz (zv HW.out hst);obtain⟨aa,ab⟩:=zx2 hbox;have HB:=Below.refl w5.heap.size w5;clear hbox hst)|(refine zN 3 ?_;(try(refine z4 ?_;dsimp only));refine zX 3 70 #[.int .i64 ae,.string af] ?_;intro aj hg w6 hbox hb;have hst:=zv HB hb;clear hg hb HB;replace HW:=zz (zv HW.out hst);replace aa:=qF aa hst;replace ab:=qF ab hst;obtain⟨ag,ah⟩:=zx2 hbox;have HB:=Below.refl w6.heap.size w6;clear hbox hst))
 go_ret
 exact⟨ze,zv HW.out HB⟩
def laws_eqGenS.l0:Nat→List (S70)→List (S70)→Int→Option (Bool)
 |0,_,_,_=>none
 |k+1,x0,x1,x5=>if x5<(x0.length:Int) then(if 0≤x5 then(if x5<(x1.length:Int) then((laws_eqGen.f ((qQ x0 x5).f0) ((qQ x0 x5).f1) ((qQ x1 x5).f0) ((qQ x1 x5).f1)).bind fun aa=>(if aa=true then(laws_eqGenS.l0 k x0 x1 (wrap64 (x5+1))) else(some false))) else(none)) else(none)) else(some true)
def laws_eqGenS.f(k:Nat)(l0:List (S70))(l1:List (S70)):Option (Bool):=if(l0.length:Int)=(l1.length:Int) then(laws_eqGenS.l0 k l0 l1 0) else(some false)
theorem laws_eqGenS.calls(k:Nat)(A0:Option Addr)(c0:Nat)(l0:List (S70))(A1:Option Addr)(c1:Nat)(l1:List (S70))(r:Bool)(w:World)(ah:Kd.C k70 w A0 l0.length l0)(ai:l0.length≤c0)(aj:Kd.C k70 w A1 l1.length l1)(ak:l1.length≤c1)(h:laws_eqGenS.f k l0 l1=some r):
 Calls Tryz.prog 130 #[.slice A0 l0.length c0,.slice A1 l1.length c1] w fun e w'=>e= .returned (.bool r)∧Below w.heap.size w w':=by
 have aA:=Tryz.underlying70
 have ar:=zz ah
 have aJ:=zz ai
 clear ah ai
 have au:=zz aj
 have aK:=zz ak
 clear aj ak
 have HB:=yB w
 unfold laws_eqGenS.f at h
 have H:=h
 clear h
 replace HB:=HB.out
 have HW:=yB w
 go_enter Tryz.func130,Tryz.ntmps130
 refine yCn H ?_ ?_<;>clear H<;>intro c3 H
 ·obtain⟨al,am⟩:=zw c3
  have an:(l0.length==l1.length)=false:=by first|simpa using c3|(simp at c3⊢;omega)
  obtain rfl:=zi H
  exact yR
 obtain⟨al,am⟩:=zq c3
 have an:(l0.length==l1.length)=true:=by first|simpa using c3|(simp at c3⊢;omega)
 clear c3
 go_wp2_with(fail)
 go_loopg[5] k (fun kq v5 w'=>∃(aa:Int),v5= .int .i64 aa∧qA (laws_eqGenS.l0 kq l0 l1 aa=some r)∧qA (kq≤k)∧qA (Below w.heap.size w w'))
 case atStart=>exact⟨(0),zr,⟨H⟩,⟨Nat.le_refl _⟩,⟨HB⟩⟩
 case round=>
  clear H HB
  obtain⟨aa,rfl,H,af,HB⟩:=hrel
  replace HB:=HB.out
  replace H:=H.out
  have ag:=yB w
  cases gk with
  |zero=>exact absurd H (by simp[laws_eqGenS.l0])
  |succ av=>
   simp only[laws_eqGenS.l0] at H
   refine yDn H ?_ ?_<;>clear H<;>intro aB H
   ·obtain rfl:=zi H
    exact yR
   go_wp2_with(fail)
   try simp only[Act.put,List.setIfInBounds_toArray,List.set_cons_zero,List.set_cons_succ]
   refine qN (C:=fun W_=>Below w.heap.size w W_) zk zk (qJ HB) ?_
   replace H:=yAD H
   obtain⟨aC,H⟩:=H
   have aD:=yt (0≤(aa:Int))
   have aE:=yt ((aa:Int)<(l0.length:Int))
   obtain⟨ay,ao,ab,ac⟩:=at_T70 ar.out aa z2 z2
   cases ao
   replace ab:=qK ab
   replace ac:=qK ac
   replace H:=yAD H
   obtain⟨aF,H⟩:=H
   have aG:=yt (0≤(aa:Int))
   have aH:=yt ((aa:Int)<(l1.length:Int))
   obtain⟨az,ap,ad,ae⟩:=at_T70 au.out aa z2 z2
   cases ap
   replace ad:=qK ad
   replace ae:=qK ae
   replace H:=yf H
   obtain⟨aI,A8,H⟩:=H
   refine yT H ?_ ?_<;>clear H<;>rintro rfl H
   ·repeat(first|go_big_quiet_skip|(go_big_quiet_want;go_big_quiet_op;first|go_big_quiet_on|(with_reducible apply Exists.intro;refine⟨fun W hW=>?_,?_⟩;(first|with_reducible rfl|(go_at_call 154;exact vH (laws_eqGen.calls _ _ _ _ _ _ A8.out) hW)|(go_simp;with_reducible rfl));go_big_quiet_on)))
    clear HB
    refine zW fun aw (HB:Below w.heap.size w aw)=>?_
    go_wp2_with(fail)
    go_roundg av
    case measure=>have:=af.out;omega
    case rel=>exact⟨(wrap64 (aa+1)),zr,⟨H⟩,⟨by have:=af.out;omega⟩,⟨zv ag.out HB⟩⟩
   obtain rfl:=zi H
   repeat(first|go_big_quiet_skip|(go_big_quiet_want;go_big_quiet_op;first|go_big_quiet_on|(with_reducible apply Exists.intro;refine⟨fun W hW=>?_,?_⟩;(first|with_reducible rfl|(go_at_call 154;exact vH (laws_eqGen.calls _ _ _ _ _ _ A8.out) hW)|(go_simp;with_reducible rfl));go_big_quiet_on)))
   clear HB
   refine zW fun ax (HB:Below w.heap.size w ax)=>?_
   exact yR
def laws_eqProfile.f(k:Nat)(aa:ByteArray)(ab:Int)(ac:List (S70))(ad:ByteArray)(ae:Int)(af:List (S70)):Option (Bool):=if aa.toList=ad.toList then(if ab=ae then((laws_eqGenS.f k ac af).bind fun ag=>(if ag=true then(some true) else(some false))) else(some false)) else(some false)
theorem laws_eqProfile.calls(k:Nat)(ah:ByteArray)(ai:Int)(aj:Option Addr)(ak:Nat)(af:List (S70))(al:ByteArray)(am:Int)(an:Option Addr)(ao:Nat)(ag:List (S70))(r:Bool)(w:World)(av:Kd.C k70 w aj af.length af)(aw:af.length≤ak)(ax:Kd.C k70 w an ag.length ag)(ay:ag.length≤ao)(h:laws_eqProfile.f k ah ai af al am ag=some r):
 Calls Tryz.prog 97 #[.agg #[.string ah,.int .i64 ai,.slice aj af.length ak],.agg #[.string al,.int .i64 am,.slice an ag.length ao]] w fun e w'=>e= .returned (.bool r)∧Below w.heap.size w w':=by
 have aL:=Tryz.underlying67
 have ad:=zz av
 have aB:=zz aw
 clear av aw
 have ae:=zz ax
 have aC:=zz ay
 clear ax ay
 have HB:=yB w
 unfold laws_eqProfile.f at h
 have H:=h
 clear h
 replace HB:=HB.out
 have HW:=yB w
 go_enter Tryz.func97,Tryz.ntmps97
 refine yCn H ?_ ?_<;>clear H<;>intro c3 H
 ·obtain⟨aH,aI⟩:=zw c3
  obtain rfl:=zi H
  go_wp2_with(first|(refine zN 2 ?_;(try(refine z4 ?_;dsimp only));refine zX 2 67 #[.string ah,.int .i64 ai,.slice aj af.length ak] ?_;intro az hg aD hbox hb;have hst:=zv HB hb;clear hg hb HB;replace HW:=zz (zv HW.out hst);replace ad:=zz (Kd.qC ad.out hst);replace ae:=zz (Kd.qC ae.out hst);obtain⟨aa,ab,ac⟩:=zx3 hbox;have HB:=Below.refl aD.heap.size aD;clear hbox hst)|(refine zN 3 ?_;(try(refine z4 ?_;dsimp only));refine zX 3 67 #[.string al,.int .i64 am,.slice an ag.length ao] ?_;intro aA hg aE hbox hb;have hst:=zv HB hb;clear hg hb HB;replace HW:=zz (zv HW.out hst);replace ad:=zz (Kd.qC ad.out hst);replace ae:=zz (Kd.qC ae.out hst);replace aa:=qF aa hst;replace ab:=qF ab hst;replace ac:=qF ac hst;obtain⟨ap,ar,au⟩:=zx3 hbox;have HB:=Below.refl aE.heap.size aE;clear hbox hst))
  go_ret
  exact⟨ze,zv HW.out HB⟩
 obtain⟨aH,aI⟩:=zq c3
 clear c3
 refine yCn H ?_ ?_<;>clear H<;>intro c4 H
 ·obtain⟨aJ,aK⟩:=zw c4
  obtain rfl:=zi H
  go_wp2_with(first|(refine zN 2 ?_;(try(refine z4 ?_;dsimp only));refine zX 2 67 #[.string ah,.int .i64 ai,.slice aj af.length ak] ?_;intro az hg aF hbox hb;have hst:=zv HB hb;clear hg hb HB;replace HW:=zz (zv HW.out hst);replace ad:=zz (Kd.qC ad.out hst);replace ae:=zz (Kd.qC ae.out hst);obtain⟨aa,ab,ac⟩:=zx3 hbox;have HB:=Below.refl aF.heap.size aF;clear hbox hst)|(refine zN 3 ?_;(try(refine z4 ?_;dsimp only));refine zX 3 67 #[.string al,.int .i64 am,.slice an ag.length ao] ?_;intro aA hg aG hbox hb;have hst:=zv HB hb;clear hg hb HB;replace HW:=zz (zv HW.out hst);replace ad:=zz (Kd.qC ad.out hst);replace ae:=zz (Kd.qC ae.out hst);replace aa:=qF aa hst;replace ab:=qF ab hst;replace ac:=qF ac hst;obtain⟨ap,ar,au⟩:=zx3 hbox;have HB:=Below.refl aG.heap.size aG;clear hbox hst))
  go_ret
  exact⟨ze,zv HW.out HB⟩
 obtain⟨aJ,aK⟩:=zq c4
 clear c4
 replace H:=yf H
 obtain⟨aM,A5,H⟩:=H
 go_wp2_with(first|(refine zN 2 ?_;(try(refine z4 ?_;dsimp only));refine zX 2 67 #[.string ah,.int .i64 ai,.slice aj af.length ak] ?_;intro az hg w8 hbox hb;have hst:=zv HB hb;clear hg hb HB;replace HW:=zz (zv HW.out hst);replace ad:=zz (Kd.qC ad.out hst);replace ae:=zz (Kd.qC ae.out hst);obtain⟨aa,ab,ac⟩:=zx3 hbox;have HB:=Below.refl w8.heap.size w8;clear hbox hst)|(refine zN 3 ?_;(try(refine z4 ?_;dsimp only));refine zX 3 67 #[.string al,.int .i64 am,.slice an ag.length ao] ?_;intro aA hg w9 hbox hb;have hst:=zv HB hb;clear hg hb HB;replace HW:=zz (zv HW.out hst);replace ad:=zz (Kd.qC ad.out hst);replace ae:=zz (Kd.qC ae.out hst);replace aa:=qF aa hst;replace ab:=qF ab hst;replace ac:=qF ac hst;obtain⟨ap,ar,au⟩:=zx3 hbox;have HB:=Below.refl w9.heap.size w9;clear hbox hst))
 refine(laws_eqGenS.calls k _ _ _ _ _ _ _ _ (Kd.qC ad.out HB) aB.out (Kd.qC ae.out HB) aC.out A5.out).mono ?_
 rintro e aN ⟨rfl,hb⟩
 replace HB:=zv HB hb
 clear hb
 refine yT H ?_ ?_<;>clear H<;>rintro rfl H
 ·obtain rfl:=zi H
  exact yR
 obtain rfl:=zi H
 exact yR
def laws_eqProfileS.l0:Nat→List (S67)→List (S67)→Int→Option (Bool)
 |0,_,_,_=>none
 |k+1,x0,x1,x5=>if x5<(x0.length:Int) then(if 0≤x5 then(if x5<(x1.length:Int) then((laws_eqProfile.f k ((qD x0 x5).f0) ((qD x0 x5).f1) ((qD x0 x5).f2) ((qD x1 x5).f0) ((qD x1 x5).f1) ((qD x1 x5).f2)).bind fun aa=>(if aa=true then(laws_eqProfileS.l0 k x0 x1 (wrap64 (x5+1))) else(some false))) else(none)) else(none)) else(some true)
def laws_eqProfileS.f(k:Nat)(l0:List (S67))(l1:List (S67)):Option (Bool):=if(l0.length:Int)=(l1.length:Int) then(laws_eqProfileS.l0 k l0 l1 0) else(some false)
theorem laws_eqProfileS.calls(k:Nat)(A0:Option Addr)(c0:Nat)(l0:List (S67))(A1:Option Addr)(c1:Nat)(l1:List (S67))(r:Bool)(w:World)(av:Kd.C k67 w A0 l0.length l0)(aw:l0.length≤c0)(ax:Kd.C k67 w A1 l1.length l1)(ay:l1.length≤c1)(h:laws_eqProfileS.f k l0 l1=some r):
 Calls Tryz.prog 49 #[.slice A0 l0.length c0,.slice A1 l1.length c1] w fun e w'=>e= .returned (.bool r)∧Below w.heap.size w w':=by
 have aO:=Tryz.underlying67
 have aE:=zz av
 have aX:=zz aw
 clear av aw
 have aF:=zz ax
 have aY:=zz ay
 clear ax ay
 have HB:=yB w
 unfold laws_eqProfileS.f at h
 have H:=h
 clear h
 replace HB:=HB.out
 have HW:=yB w
 go_enter Tryz.func49,Tryz.ntmps49
 refine yCn H ?_ ?_<;>clear H<;>intro c3 H
 ·obtain⟨az,aA⟩:=zw c3
  have aB:(l0.length==l1.length)=false:=by first|simpa using c3|(simp at c3⊢;omega)
  obtain rfl:=zi H
  exact yR
 obtain⟨az,aA⟩:=zq c3
 have aB:(l0.length==l1.length)=true:=by first|simpa using c3|(simp at c3⊢;omega)
 clear c3
 go_wp2_with(fail)
 go_loopg[5] k (fun kq v5 w'=>∃(aa:Int),v5= .int .i64 aa∧qA (laws_eqProfileS.l0 kq l0 l1 aa=some r)∧qA (kq≤k)∧qA (Below w.heap.size w w'))
 case atStart=>exact⟨(0),zr,⟨H⟩,⟨Nat.le_refl _⟩,⟨HB⟩⟩
 case round=>
  clear H HB
  obtain⟨aa,rfl,H,ap,HB⟩:=hrel
  replace HB:=HB.out
  replace H:=H.out
  have au:=yB w
  cases gk with
  |zero=>exact absurd H (by simp[laws_eqProfileS.l0])
  |succ ar=>
   simp only[laws_eqProfileS.l0] at H
   refine yDn H ?_ ?_<;>clear H<;>intro aP H
   ·obtain rfl:=zi H
    exact yR
   go_wp2_with(fail)
   try simp only[Act.put,List.setIfInBounds_toArray,List.set_cons_zero,List.set_cons_succ]
   refine qN (C:=fun W_=>Below w.heap.size w W_) zk zk (qJ HB) ?_
   replace H:=yAD H
   obtain⟨aQ,H⟩:=H
   have aR:=yt (0≤(aa:Int))
   have aS:=yt ((aa:Int)<(l0.length:Int))
   obtain⟨aM,aG,aH,aC,ab,ac,ad,ae,af⟩:=at_T67 aE.out aa z2 z2
   cases aC
   replace ab:=qK ab
   replace ac:=qK ac
   replace ad:=qK ad
   have ag:=zz af
   have ah:=zz ae
   clear af ae
   replace H:=yAD H
   obtain⟨aT,H⟩:=H
   have aU:=yt (0≤(aa:Int))
   have aV:=yt ((aa:Int)<(l1.length:Int))
   obtain⟨aN,aI,aJ,aD,ai,aj,ak,al,am⟩:=at_T67 aF.out aa z2 z2
   cases aD
   replace ai:=qK ai
   replace aj:=qK aj
   replace ak:=qK ak
   have an:=zz am
   have ao:=zz al
   clear am al
   replace H:=yf H
   obtain⟨aW,A8,H⟩:=H
   refine yT H ?_ ?_<;>clear H<;>rintro rfl H
   ·repeat(first|go_big_quiet_skip|(go_big_quiet_want;go_big_quiet_op;first|go_big_quiet_on|(with_reducible apply Exists.intro;refine⟨fun W hW=>?_,?_⟩;(first|with_reducible rfl|(go_at_call 97;exact vH (laws_eqProfile.calls ar _ _ _ _ _ _ _ _ _ _ _ _ (Kd.qC ag.out hW) ah.out (Kd.qC an.out hW) ao.out A8.out) hW)|(go_simp;with_reducible rfl));go_big_quiet_on)))
    clear HB
    refine zW fun aK (HB:Below w.heap.size w aK)=>?_
    go_wp2_with(fail)
    go_roundg ar
    case measure=>have:=ap.out;omega
    case rel=>exact⟨(wrap64 (aa+1)),zr,⟨H⟩,⟨by have:=ap.out;omega⟩,⟨zv au.out HB⟩⟩
   obtain rfl:=zi H
   repeat(first|go_big_quiet_skip|(go_big_quiet_want;go_big_quiet_op;first|go_big_quiet_on|(with_reducible apply Exists.intro;refine⟨fun W hW=>?_,?_⟩;(first|with_reducible rfl|(go_at_call 97;exact vH (laws_eqProfile.calls ar _ _ _ _ _ _ _ _ _ _ _ _ (Kd.qC ag.out hW) ah.out (Kd.qC an.out hW) ao.out A8.out) hW)|(go_simp;with_reducible rfl));go_big_quiet_on)))
   clear HB
   refine zW fun aL (HB:Below w.heap.size w aL)=>?_
   exact yR
def laws_eqPending.f(k:Nat)(aa:ByteArray)(ab:List (S96))(ac:ByteArray)(ad:ByteArray)(ae:List (S96))(af:ByteArray):Option (Bool):=if aa.toList=ad.toList then((laws_eqEntryS.f k ab ae).bind fun ag=>(if ag=true then(if ac.toList=af.toList then(some true) else(some false)) else(some false))) else(some false)
theorem laws_eqPending.calls(k:Nat)(ah:ByteArray)(ai:Option Addr)(aj:Nat)(af:List (S96))(ak:ByteArray)(al:ByteArray)(am:Option Addr)(an:Nat)(ag:List (S96))(ao:ByteArray)(r:Bool)(w:World)(av:Kd.C k96 w ai af.length af)(aw:af.length≤aj)(ax:Kd.C k96 w am ag.length ag)(ay:ag.length≤an)(h:laws_eqPending.f k ah af ak al ag ao=some r):
 Calls Tryz.prog 98 #[.agg #[.string ah,.slice ai af.length aj,.string ak],.agg #[.string al,.slice am ag.length an,.string ao]] w fun e w'=>e= .returned (.bool r)∧Below w.heap.size w w':=by
 have aJ:=Tryz.underlying61
 have aa:=zz av
 have az:=zz aw
 clear av aw
 have ab:=zz ax
 have aA:=zz ay
 clear ax ay
 have HB:=yB w
 unfold laws_eqPending.f at h
 have H:=h
 clear h
 replace HB:=HB.out
 have HW:=yB w
 go_enter Tryz.func98,Tryz.ntmps98
 refine yCn H ?_ ?_<;>clear H<;>intro c3 H
 ·obtain⟨aF,aG⟩:=zw c3
  obtain rfl:=zi H
  go_wp2_with(first|(refine zN 2 ?_;(try(refine z4 ?_;dsimp only));refine zX 2 61 #[.string ah,.slice ai af.length aj,.string ak] ?_;intro aB hg aD hbox hb;have hst:=zv HB hb;clear hg hb HB;replace HW:=zz (zv HW.out hst);replace aa:=zz (Kd.qC aa.out hst);replace ab:=zz (Kd.qC ab.out hst);obtain⟨ac,ad,ae⟩:=zx3 hbox;have HB:=Below.refl aD.heap.size aD;clear hbox hst)|(refine zN 3 ?_;(try(refine z4 ?_;dsimp only));refine zX 3 61 #[.string al,.slice am ag.length an,.string ao] ?_;intro aC hg aE hbox hb;have hst:=zv HB hb;clear hg hb HB;replace HW:=zz (zv HW.out hst);replace aa:=zz (Kd.qC aa.out hst);replace ab:=zz (Kd.qC ab.out hst);replace ac:=qF ac hst;replace ad:=qF ad hst;replace ae:=qF ae hst;obtain⟨ap,ar,au⟩:=zx3 hbox;have HB:=Below.refl aE.heap.size aE;clear hbox hst))
  go_ret
  exact⟨ze,zv HW.out HB⟩
 obtain⟨aF,aG⟩:=zq c3
 clear c3
 replace H:=yf H
 obtain⟨aK,A4,H⟩:=H
 go_wp2_with(first|(refine zN 2 ?_;(try(refine z4 ?_;dsimp only));refine zX 2 61 #[.string ah,.slice ai af.length aj,.string ak] ?_;intro aB hg w8 hbox hb;have hst:=zv HB hb;clear hg hb HB;replace HW:=zz (zv HW.out hst);replace aa:=zz (Kd.qC aa.out hst);replace ab:=zz (Kd.qC ab.out hst);obtain⟨ac,ad,ae⟩:=zx3 hbox;have HB:=Below.refl w8.heap.size w8;clear hbox hst)|(refine zN 3 ?_;(try(refine z4 ?_;dsimp only));refine zX 3 61 #[.string al,.slice am ag.length an,.string ao] ?_;intro aC hg w9 hbox hb;have hst:=zv HB hb;clear hg hb HB;replace HW:=zz (zv HW.out hst);replace aa:=zz (Kd.qC aa.out hst);replace ab:=zz (Kd.qC ab.out hst);replace ac:=qF ac hst;replace ad:=qF ad hst;replace ae:=qF ae hst;obtain⟨ap,ar,au⟩:=zx3 hbox;have HB:=Below.refl w9.heap.size w9;clear hbox hst))
 refine(laws_eqEntryS.calls k _ _ _ _ _ _ _ _ (Kd.qC aa.out HB) az.out (Kd.qC ab.out HB) aA.out A4.out).mono ?_
 rintro e aL ⟨rfl,hb⟩
 replace HB:=zv HB hb
 clear hb
 refine yF H ?_ ?_<;>clear H<;>rintro rfl H
 ·obtain rfl:=zi H
  exact yR
 refine yCn H ?_ ?_<;>clear H<;>intro c6 H
 ·obtain⟨aH,aI⟩:=zw c6
  obtain rfl:=zi H
  exact yR
 obtain⟨aH,aI⟩:=zq c6
 clear c6
 obtain rfl:=zi H
 exact yR
def laws_eqPendingS.l0:Nat→List (S61)→List (S61)→Int→Option (Bool)
 |0,_,_,_=>none
 |k+1,x0,x1,x5=>if x5<(x0.length:Int) then(if 0≤x5 then(if x5<(x1.length:Int) then((laws_eqPending.f k ((qR x0 x5).f0) ((qR x0 x5).f1) ((qR x0 x5).f2) ((qR x1 x5).f0) ((qR x1 x5).f1) ((qR x1 x5).f2)).bind fun aa=>(if aa=true then(laws_eqPendingS.l0 k x0 x1 (wrap64 (x5+1))) else(some false))) else(none)) else(none)) else(some true)
def laws_eqPendingS.f(k:Nat)(l0:List (S61))(l1:List (S61)):Option (Bool):=if(l0.length:Int)=(l1.length:Int) then(laws_eqPendingS.l0 k l0 l1 0) else(some false)
theorem laws_eqPendingS.calls(k:Nat)(A0:Option Addr)(c0:Nat)(l0:List (S61))(A1:Option Addr)(c1:Nat)(l1:List (S61))(r:Bool)(w:World)(av:Kd.C k61 w A0 l0.length l0)(aw:l0.length≤c0)(ax:Kd.C k61 w A1 l1.length l1)(ay:l1.length≤c1)(h:laws_eqPendingS.f k l0 l1=some r):
 Calls Tryz.prog 50 #[.slice A0 l0.length c0,.slice A1 l1.length c1] w fun e w'=>e= .returned (.bool r)∧Below w.heap.size w w':=by
 have aO:=Tryz.underlying61
 have aE:=zz av
 have aX:=zz aw
 clear av aw
 have aF:=zz ax
 have aY:=zz ay
 clear ax ay
 have HB:=yB w
 unfold laws_eqPendingS.f at h
 have H:=h
 clear h
 replace HB:=HB.out
 have HW:=yB w
 go_enter Tryz.func50,Tryz.ntmps50
 refine yCn H ?_ ?_<;>clear H<;>intro c3 H
 ·obtain⟨az,aA⟩:=zw c3
  have aB:(l0.length==l1.length)=false:=by first|simpa using c3|(simp at c3⊢;omega)
  obtain rfl:=zi H
  exact yR
 obtain⟨az,aA⟩:=zq c3
 have aB:(l0.length==l1.length)=true:=by first|simpa using c3|(simp at c3⊢;omega)
 clear c3
 go_wp2_with(fail)
 go_loopg[5] k (fun kq v5 w'=>∃(aa:Int),v5= .int .i64 aa∧qA (laws_eqPendingS.l0 kq l0 l1 aa=some r)∧qA (kq≤k)∧qA (Below w.heap.size w w'))
 case atStart=>exact⟨(0),zr,⟨H⟩,⟨Nat.le_refl _⟩,⟨HB⟩⟩
 case round=>
  clear H HB
  obtain⟨aa,rfl,H,ap,HB⟩:=hrel
  replace HB:=HB.out
  replace H:=H.out
  have au:=yB w
  cases gk with
  |zero=>exact absurd H (by simp[laws_eqPendingS.l0])
  |succ ar=>
   simp only[laws_eqPendingS.l0] at H
   refine yDn H ?_ ?_<;>clear H<;>intro aP H
   ·obtain rfl:=zi H
    exact yR
   go_wp2_with(fail)
   try simp only[Act.put,List.setIfInBounds_toArray,List.set_cons_zero,List.set_cons_succ]
   refine qN (C:=fun W_=>Below w.heap.size w W_) zk zk (qJ HB) ?_
   replace H:=yAD H
   obtain⟨aQ,H⟩:=H
   have aR:=yt (0≤(aa:Int))
   have aS:=yt ((aa:Int)<(l0.length:Int))
   obtain⟨aM,aG,aH,aC,ab,ac,ad,ae,af⟩:=at_T61 aE.out aa z2 z2
   cases aC
   replace ab:=qK ab
   replace ac:=qK ac
   replace ad:=qK ad
   have ag:=zz af
   have ah:=zz ae
   clear af ae
   replace H:=yAD H
   obtain⟨aT,H⟩:=H
   have aU:=yt (0≤(aa:Int))
   have aV:=yt ((aa:Int)<(l1.length:Int))
   obtain⟨aN,aI,aJ,aD,ai,aj,ak,al,am⟩:=at_T61 aF.out aa z2 z2
   cases aD
   replace ai:=qK ai
   replace aj:=qK aj
   replace ak:=qK ak
   have an:=zz am
   have ao:=zz al
   clear am al
   replace H:=yf H
   obtain⟨aW,A8,H⟩:=H
   refine yT H ?_ ?_<;>clear H<;>rintro rfl H
   ·repeat(first|go_big_quiet_skip|(go_big_quiet_want;go_big_quiet_op;first|go_big_quiet_on|(with_reducible apply Exists.intro;refine⟨fun W hW=>?_,?_⟩;(first|with_reducible rfl|(go_at_call 98;exact vH (laws_eqPending.calls ar _ _ _ _ _ _ _ _ _ _ _ _ (Kd.qC ag.out hW) ah.out (Kd.qC an.out hW) ao.out A8.out) hW)|(go_simp;with_reducible rfl));go_big_quiet_on)))
    clear HB
    refine zW fun aK (HB:Below w.heap.size w aK)=>?_
    go_wp2_with(fail)
    go_roundg ar
    case measure=>have:=ap.out;omega
    case rel=>exact⟨(wrap64 (aa+1)),zr,⟨H⟩,⟨by have:=ap.out;omega⟩,⟨zv au.out HB⟩⟩
   obtain rfl:=zi H
   repeat(first|go_big_quiet_skip|(go_big_quiet_want;go_big_quiet_op;first|go_big_quiet_on|(with_reducible apply Exists.intro;refine⟨fun W hW=>?_,?_⟩;(first|with_reducible rfl|(go_at_call 98;exact vH (laws_eqPending.calls ar _ _ _ _ _ _ _ _ _ _ _ _ (Kd.qC ag.out hW) ah.out (Kd.qC an.out hW) ao.out A8.out) hW)|(go_simp;with_reducible rfl));go_big_quiet_on)))
   clear HB
   refine zW fun aL (HB:Below w.heap.size w aL)=>?_
   exact yR
def laws_eqNext.f(aa:ByteArray)(ab:ByteArray)(ac:ByteArray)(ad:ByteArray):Option (Bool):=if aa.toList=ac.toList then(if ab.toList=ad.toList then(some true) else(some false)) else(some false)
theorem laws_eqNext.calls(ac:ByteArray)(ad:ByteArray)(ae:ByteArray)(af:ByteArray)(r:Bool)(w:World)(h:laws_eqNext.f ac ad ae af=some r):
 Calls Tryz.prog 99 #[.agg #[.string ac,.string ad],.agg #[.string ae,.string af]] w fun e w'=>e= .returned (.bool r)∧Below w.heap.size w w':=by
 have ap:=Tryz.underlying64
 have HB:=yB w
 unfold laws_eqNext.f at h
 have H:=h
 clear h
 replace HB:=HB.out
 have HW:=yB w
 go_enter Tryz.func99,Tryz.ntmps99
 refine yCn H ?_ ?_<;>clear H<;>intro c3 H
 ·obtain⟨al,am⟩:=zw c3
  obtain rfl:=zi H
  go_wp2_with(first|(refine zN 2 ?_;(try(refine z4 ?_;dsimp only));refine zX 2 64 #[.string ac,.string ad] ?_;intro ai hg w9 hbox hb;have hst:=zv HB hb;clear hg hb HB;replace HW:=zz (zv HW.out hst);obtain⟨aa,ab⟩:=zx2 hbox;have HB:=Below.refl w9.heap.size w9;clear hbox hst)|(refine zN 3 ?_;(try(refine z4 ?_;dsimp only));refine zX 3 64 #[.string ae,.string af] ?_;intro aj hg ak hbox hb;have hst:=zv HB hb;clear hg hb HB;replace HW:=zz (zv HW.out hst);replace aa:=qF aa hst;replace ab:=qF ab hst;obtain⟨ag,ah⟩:=zx2 hbox;have HB:=Below.refl ak.heap.size ak;clear hbox hst))
  go_ret
  exact⟨ze,zv HW.out HB⟩
 obtain⟨al,am⟩:=zq c3
 clear c3
 refine yCn H ?_ ?_<;>clear H<;>intro c4 H
 ·obtain⟨an,ao⟩:=zw c4
  obtain rfl:=zi H
  go_wp2_with(first|(refine zN 2 ?_;(try(refine z4 ?_;dsimp only));refine zX 2 64 #[.string ac,.string ad] ?_;intro ai hg w7 hbox hb;have hst:=zv HB hb;clear hg hb HB;replace HW:=zz (zv HW.out hst);obtain⟨aa,ab⟩:=zx2 hbox;have HB:=Below.refl w7.heap.size w7;clear hbox hst)|(refine zN 3 ?_;(try(refine z4 ?_;dsimp only));refine zX 3 64 #[.string ae,.string af] ?_;intro aj hg w8 hbox hb;have hst:=zv HB hb;clear hg hb HB;replace HW:=zz (zv HW.out hst);replace aa:=qF aa hst;replace ab:=qF ab hst;obtain⟨ag,ah⟩:=zx2 hbox;have HB:=Below.refl w8.heap.size w8;clear hbox hst))
  go_ret
  exact⟨ze,zv HW.out HB⟩
 obtain⟨an,ao⟩:=zq c4
 clear c4
 obtain rfl:=zi H
 go_wp2_with(first|(refine zN 2 ?_;(try(refine z4 ?_;dsimp only));refine zX 2 64 #[.string ac,.string ad] ?_;intro ai hg w5 hbox hb;have hst:=zv HB hb;clear hg hb HB;replace HW:=zz (zv HW.out hst);obtain⟨aa,ab⟩:=zx2 hbox;have HB:=Below.refl w5.heap.size w5;clear hbox hst)|(refine zN 3 ?_;(try(refine z4 ?_;dsimp only));refine zX 3 64 #[.string ae,.string af] ?_;intro aj hg w6 hbox hb;have hst:=zv HB hb;clear hg hb HB;replace HW:=zz (zv HW.out hst);replace aa:=qF aa hst;replace ab:=qF ab hst;obtain⟨ag,ah⟩:=zx2 hbox;have HB:=Below.refl w6.heap.size w6;clear hbox hst))
 go_ret
 exact⟨ze,zv HW.out HB⟩
def laws_eqNextS.l0:Nat→List (S64)→List (S64)→Int→Option (Bool)
 |0,_,_,_=>none
 |k+1,x0,x1,x5=>if x5<(x0.length:Int) then(if 0≤x5 then(if x5<(x1.length:Int) then((laws_eqNext.f ((rd_T64 x0 x5).f0) ((rd_T64 x0 x5).f1) ((rd_T64 x1 x5).f0) ((rd_T64 x1 x5).f1)).bind fun aa=>(if aa=true then(laws_eqNextS.l0 k x0 x1 (wrap64 (x5+1))) else(some false))) else(none)) else(none)) else(some true)
def laws_eqNextS.f(k:Nat)(l0:List (S64))(l1:List (S64)):Option (Bool):=if(l0.length:Int)=(l1.length:Int) then(laws_eqNextS.l0 k l0 l1 0) else(some false)
theorem laws_eqNextS.calls(k:Nat)(A0:Option Addr)(c0:Nat)(l0:List (S64))(A1:Option Addr)(c1:Nat)(l1:List (S64))(r:Bool)(w:World)(ah:Kd.C k64 w A0 l0.length l0)(ai:l0.length≤c0)(aj:Kd.C k64 w A1 l1.length l1)(ak:l1.length≤c1)(h:laws_eqNextS.f k l0 l1=some r):
 Calls Tryz.prog 51 #[.slice A0 l0.length c0,.slice A1 l1.length c1] w fun e w'=>e= .returned (.bool r)∧Below w.heap.size w w':=by
 have aA:=Tryz.underlying64
 have ar:=zz ah
 have aJ:=zz ai
 clear ah ai
 have au:=zz aj
 have aK:=zz ak
 clear aj ak
 have HB:=yB w
 unfold laws_eqNextS.f at h
 have H:=h
 clear h
 replace HB:=HB.out
 have HW:=yB w
 go_enter Tryz.func51,Tryz.ntmps51
 refine yCn H ?_ ?_<;>clear H<;>intro c3 H
 ·obtain⟨al,am⟩:=zw c3
  have an:(l0.length==l1.length)=false:=by first|simpa using c3|(simp at c3⊢;omega)
  obtain rfl:=zi H
  exact yR
 obtain⟨al,am⟩:=zq c3
 have an:(l0.length==l1.length)=true:=by first|simpa using c3|(simp at c3⊢;omega)
 clear c3
 go_wp2_with(fail)
 go_loopg[5] k (fun kq v5 w'=>∃(aa:Int),v5= .int .i64 aa∧qA (laws_eqNextS.l0 kq l0 l1 aa=some r)∧qA (kq≤k)∧qA (Below w.heap.size w w'))
 case atStart=>exact⟨(0),zr,⟨H⟩,⟨Nat.le_refl _⟩,⟨HB⟩⟩
 case round=>
  clear H HB
  obtain⟨aa,rfl,H,af,HB⟩:=hrel
  replace HB:=HB.out
  replace H:=H.out
  have ag:=yB w
  cases gk with
  |zero=>exact absurd H (by simp[laws_eqNextS.l0])
  |succ av=>
   simp only[laws_eqNextS.l0] at H
   refine yDn H ?_ ?_<;>clear H<;>intro aB H
   ·obtain rfl:=zi H
    exact yR
   go_wp2_with(fail)
   try simp only[Act.put,List.setIfInBounds_toArray,List.set_cons_zero,List.set_cons_succ]
   refine qN (C:=fun W_=>Below w.heap.size w W_) zk zk (qJ HB) ?_
   replace H:=yAD H
   obtain⟨aC,H⟩:=H
   have aD:=yt (0≤(aa:Int))
   have aE:=yt ((aa:Int)<(l0.length:Int))
   obtain⟨ay,ao,ab,ac⟩:=at_T64 ar.out aa z2 z2
   cases ao
   replace ab:=qK ab
   replace ac:=qK ac
   replace H:=yAD H
   obtain⟨aF,H⟩:=H
   have aG:=yt (0≤(aa:Int))
   have aH:=yt ((aa:Int)<(l1.length:Int))
   obtain⟨az,ap,ad,ae⟩:=at_T64 au.out aa z2 z2
   cases ap
   replace ad:=qK ad
   replace ae:=qK ae
   replace H:=yf H
   obtain⟨aI,A8,H⟩:=H
   refine yT H ?_ ?_<;>clear H<;>rintro rfl H
   ·repeat(first|go_big_quiet_skip|(go_big_quiet_want;go_big_quiet_op;first|go_big_quiet_on|(with_reducible apply Exists.intro;refine⟨fun W hW=>?_,?_⟩;(first|with_reducible rfl|(go_at_call 99;exact vH (laws_eqNext.calls _ _ _ _ _ _ A8.out) hW)|(go_simp;with_reducible rfl));go_big_quiet_on)))
    clear HB
    refine zW fun aw (HB:Below w.heap.size w aw)=>?_
    go_wp2_with(fail)
    go_roundg av
    case measure=>have:=af.out;omega
    case rel=>exact⟨(wrap64 (aa+1)),zr,⟨H⟩,⟨by have:=af.out;omega⟩,⟨zv ag.out HB⟩⟩
   obtain rfl:=zi H
   repeat(first|go_big_quiet_skip|(go_big_quiet_want;go_big_quiet_op;first|go_big_quiet_on|(with_reducible apply Exists.intro;refine⟨fun W hW=>?_,?_⟩;(first|with_reducible rfl|(go_at_call 99;exact vH (laws_eqNext.calls _ _ _ _ _ _ A8.out) hW)|(go_simp;with_reducible rfl));go_big_quiet_on)))
   clear HB
   refine zW fun ax (HB:Below w.heap.size w ax)=>?_
   exact yR
def laws_eqWorld.f(k:Nat)(aa:List (S94))(ab:List (S67))(ac:List (S61))(ad:List (S64))(ae:List (S94))(af:List (S67))(ag:List (S61))(ah:List (S64)):Option (Bool):=(laws_eqItemS.f k aa ae).bind fun ai=>(if ai=true then((laws_eqProfileS.f k ab af).bind fun aj=>(if aj=true then((laws_eqPendingS.f k ac ag).bind fun ak=>(if ak=true then((laws_eqNextS.f k ad ah).bind fun al=>(if al=true then(some true) else(some false))) else(some false))) else(some false))) else(some false))
theorem laws_eqWorld.calls(k:Nat)(ax:Option Addr)(ay:Nat)(ai:List (S94))(az:Option Addr)(aA:Nat)(aj:List (S67))(aB:Option Addr)(aC:Nat)(ak:List (S61))(aD:Option Addr)(aE:Nat)(al:List (S64))(aF:Option Addr)(aG:Nat)(am:List (S94))(aH:Option Addr)(aI:Nat)(an:List (S67))(aJ:Option Addr)(aK:Nat)(ao:List (S61))(aL:Option Addr)(aM:Nat)(ap:List (S64))(r:Bool)(w:World)(aN:Kd.C k94 w ax ai.length ai)(aO:ai.length≤ay)(aP:Kd.C k67 w az aj.length aj)(aQ:aj.length≤aA)(aR:Kd.C k61 w aB ak.length ak)(aS:ak.length≤aC)(aT:Kd.C k64 w aD al.length al)(aU:al.length≤aE)(aV:Kd.C k94 w aF am.length am)(aW:am.length≤aG)(aX:Kd.C k67 w aH an.length an)(aY:an.length≤aI)(aZ:Kd.C k61 w aJ ao.length ao)(a0:ao.length≤aK)(a1:Kd.C k64 w aL ap.length ap)(a2:ap.length≤aM)(h:laws_eqWorld.f k ai aj ak al am an ao ap=some r):
 Calls Tryz.prog 11 #[.agg #[.slice ax ai.length ay,.slice az aj.length aA,.slice aB ak.length aC,.slice aD al.length aE],.agg #[.slice aF am.length aG,.slice aH an.length aI,.slice aJ ao.length aK,.slice aL ap.length aM]] w fun e w'=>e= .returned (.bool r)∧Below w.heap.size w w':=by
 have bj:=Tryz.underlying35
 have ag:=zz aN
 have a9:=zz aO
 clear aN aO
 have aa:=zz aP
 have a3:=zz aQ
 clear aP aQ
 have ab:=zz aR
 have a4:=zz aS
 clear aR aS
 have ac:=zz aT
 have a5:=zz aU
 clear aT aU
 have ah:=zz aV
 have ba:=zz aW
 clear aV aW
 have ad:=zz aX
 have a6:=zz aY
 clear aX aY
 have ae:=zz aZ
 have a7:=zz a0
 clear aZ a0
 have af:=zz a1
 have a8:=zz a2
 clear a1 a2
 have HB:=yB w
 unfold laws_eqWorld.f at h
 have H:=h
 clear h
 replace HB:=HB.out
 have HW:=yB w
 go_enter Tryz.func11,Tryz.ntmps11
 replace H:=yf H
 obtain⟨bk,A3,H⟩:=H
 go_wp2_with(first|(refine zN 2 ?_;(try(refine z4 ?_;dsimp only));refine zX 2 35 #[.slice ax ai.length ay,.slice az aj.length aA,.slice aB ak.length aC,.slice aD al.length aE] ?_;intro bh hg w6 hbox hb;have hst:=zv HB hb;clear hg hb HB;replace HW:=zz (zv HW.out hst);replace ag:=zz (Kd.qC ag.out hst);replace aa:=zz (Kd.qC aa.out hst);replace ab:=zz (Kd.qC ab.out hst);replace ac:=zz (Kd.qC ac.out hst);replace ah:=zz (Kd.qC ah.out hst);replace ad:=zz (Kd.qC ad.out hst);replace ae:=zz (Kd.qC ae.out hst);replace af:=zz (Kd.qC af.out hst);obtain⟨ar,au,av,aw⟩:=zx4 hbox;have HB:=Below.refl w6.heap.size w6;clear hbox hst)|(refine zN 3 ?_;(try(refine z4 ?_;dsimp only));refine zX 3 35 #[.slice aF am.length aG,.slice aH an.length aI,.slice aJ ao.length aK,.slice aL ap.length aM] ?_;intro bi hg w7 hbox hb;have hst:=zv HB hb;clear hg hb HB;replace HW:=zz (zv HW.out hst);replace ag:=zz (Kd.qC ag.out hst);replace aa:=zz (Kd.qC aa.out hst);replace ab:=zz (Kd.qC ab.out hst);replace ac:=zz (Kd.qC ac.out hst);replace ah:=zz (Kd.qC ah.out hst);replace ad:=zz (Kd.qC ad.out hst);replace ae:=zz (Kd.qC ae.out hst);replace af:=zz (Kd.qC af.out hst);replace ar:=qF ar hst;replace au:=qF au hst;replace av:=qF av hst;replace aw:=qF aw hst;obtain⟨bd,be,bf,bg⟩:=zx4 hbox;have HB:=Below.refl w7.heap.size w7;clear hbox hst))
 refine(laws_eqItemS.calls k _ _ _ _ _ _ _ _ (Kd.qC ag.out HB) a9.out (Kd.qC ah.out HB) ba.out A3.out).mono ?_
 rintro e w8 ⟨rfl,hb⟩
 replace HB:=zv HB hb
 clear hb
 refine yF H ?_ ?_<;>clear H<;>rintro rfl H
 ·obtain rfl:=zi H
  exact yR
 replace H:=yf H
 obtain⟨bl,A9,H⟩:=H
 refine yF H ?_ ?_<;>clear H<;>rintro rfl H
 ·go_wp2_with(fail)
  refine(laws_eqProfileS.calls k _ _ _ _ _ _ _ _ (Kd.qC aa.out HB) a3.out (Kd.qC ad.out HB) a6.out A9.out).mono ?_
  rintro e bq ⟨rfl,hb⟩
  replace HB:=zv HB hb
  clear hb
  obtain rfl:=zi H
  exact yR
 go_wp2_with(fail)
 refine(laws_eqProfileS.calls k _ _ _ _ _ _ _ _ (Kd.qC aa.out HB) a3.out (Kd.qC ad.out HB) a6.out A9.out).mono ?_
 rintro e br ⟨rfl,hb⟩
 replace HB:=zv HB hb
 clear hb
 replace H:=yf H
 obtain⟨bn,bb,H⟩:=H
 refine yF H ?_ ?_<;>clear H<;>rintro rfl H
 ·go_wp2_with(fail)
  refine(laws_eqPendingS.calls k _ _ _ _ _ _ _ _ (Kd.qC ab.out HB) a4.out (Kd.qC ae.out HB) a7.out bb.out).mono ?_
  rintro e bs ⟨rfl,hb⟩
  replace HB:=zv HB hb
  clear hb
  obtain rfl:=zi H
  exact yR
 go_wp2_with(fail)
 refine(laws_eqPendingS.calls k _ _ _ _ _ _ _ _ (Kd.qC ab.out HB) a4.out (Kd.qC ae.out HB) a7.out bb.out).mono ?_
 rintro e bu ⟨rfl,hb⟩
 replace HB:=zv HB hb
 clear hb
 replace H:=yf H
 obtain⟨bo,bc,H⟩:=H
 refine yT H ?_ ?_<;>clear H<;>rintro rfl H
 ·go_wp2_with(fail)
  refine(laws_eqNextS.calls k _ _ _ _ _ _ _ _ (Kd.qC ac.out HB) a5.out (Kd.qC af.out HB) a8.out bc.out).mono ?_
  rintro e bv ⟨rfl,hb⟩
  replace HB:=zv HB hb
  clear hb
  obtain rfl:=zi H
  exact yR
 go_wp2_with(fail)
 refine(laws_eqNextS.calls k _ _ _ _ _ _ _ _ (Kd.qC ac.out HB) a5.out (Kd.qC af.out HB) a8.out bc.out).mono ?_
 rintro e bw ⟨rfl,hb⟩
 replace HB:=zv HB hb
 clear hb
 obtain rfl:=zi H
 exact yR
end Go.Proofs.YtcekmnclmldmmaaGreatDoor.Q
