import Derived.Test.YtmdoobnlehkmpaaGreatDoorA19
set_option linter.unusedVariables false
set_option linter.unusedSimpArgs false
namespace Go.Proofs.YtmdoobnlehkmpaaGreatDoor.Q
open Go.RowKit W1 W2 W3
attribute [local go_sem] max2_int min2_int max_two min_two max_three min_three max_four min_four
attribute [local go_sem high] bl_leq bl_gtr bl_geq
set_option maxHeartbeats 8000000
set_option maxRecDepth 100000
def laws_toPending.f(k:Nat)(aa:ByteArray)(ab:List (S80))(ac:ByteArray):Option (ByteArray×(List (S87))×ByteArray):=(laws_toEntryS.f k ab).bind fun ad=>(some (aa,ad,ac))
theorem laws_toPending.calls(k:Nat)(af:ByteArray)(ai:Option Addr)(aj:Nat)(ac:List (S80))(ag:ByteArray)(r1:ByteArray)(r2:List (S87))(r3:ByteArray)(w:World)(av:Kd.C k80 w ai ac.length ac)(aw:ac.length≤aj)(h:laws_toPending.f k af ac ag=some (r1,r2,r3)):
 Calls Tryz.prog 97 #[.agg #[.string af,.slice ai ac.length aj,.string ag]] w fun e w'=>∃aC:Value,e= .returned (.agg #[.string r1,aC,.string r3])∧Kd.R k87 87 w' w.heap.size (fun _=>True) aC r2∧Below w.heap.size w w':=by
 have ba:=Tryz.underlying126
 have bb:=Tryz.underlying133
 have aA:=zz av
 have aB:=zz aw
 clear av aw
 have HB:=yB w
 unfold laws_toPending.f at h
 have H:=h
 clear h
 replace H:=zf H
 obtain⟨au,aD,H⟩:=H
 try dsimp only at H
 have A2:=zz aD
 clear aD
 simp only[Option.some.injEq,Prod.mk.injEq] at H
 obtain⟨rfl,rfl,rfl⟩:=H
 go_enter Tryz.func97,Tryz.ntmps97
 go_wp2_with(first|(refine zX 1 126 #[.string af,.slice ai ac.length aj,.string ag] ?_;intro ak hg w3 hbox hb;have aa:=zz (hbox);have bc:=zz ((zg:w.heap.size≤ak));have bd:=zz ((zg:w.heap.size≤ak));replace HB:=zz (zv zb hb);clear hb hbox hg)|(refine zX 2 133 #[.string (⟨#[]⟩:ByteArray),.slice none 0 0,.string (⟨#[]⟩:ByteArray)] ?_;intro ah hg w4 hbox hb;have ab:=zz (hbox);have be:=zz ((zg:w.heap.size≤ah));have bf:=zz ((zg:w.heap.size≤ah));replace HB:=zz (zv zb hb);have al:=zz (zH aa hg);have am:=zz (zI aa hg);replace aa:=zz (zJ aa hb);clear hb hbox hg)|(refine zX 3 133 #[.string (⟨#[]⟩:ByteArray),.slice none 0 0,.string (⟨#[]⟩:ByteArray)] ?_;intro ad hg w5 hbox hb;have ae:=zz (hbox);have bg:=zz ((zg:w.heap.size≤ad));have bh:=zz ((zg:w.heap.size≤ad));replace HB:=zz (zv zb hb);have an:=zz (zH aa hg);have ao:=zz (zI aa hg);replace aa:=zz (zJ aa hb);have ap:=zz (zH ab hg);have ar:=zz (zI ab hg);replace ab:=zz (zJ ab hb);clear hb hbox hg;have bi:=al.out;have bj:=am.out;have bk:=an.out;have bl:=ao.out;obtain⟨a4,a5,a6,a7,a8,a9⟩:=zc3 aa.out;have bn:=ar.out;have bo:=ap.out;obtain⟨aG,aH,aI,aJ,aK,aL⟩:=zc3 ae.out)|(refine zL 12 9 Tryz.func12 #[.slice ai ac.length aj] ?_;(with_reducible refine(laws_toEntryS.calls k _ _ ac au _ ?s1 ?s2 A2.out).mono ?_);(case s1=>exact Kd.qB aA.out zb);(case s2=>exact aB.out);rintro e br ⟨bq,rfl,aE,hb⟩;refine⟨_,rfl,?_⟩;have ax:=zz (Kd.qY aE (qF zb));replace aa:=zz (qS (g:=ak) (o:= .cells #[.string af,.slice ai ac.length aj,.string ag] 126 (0,0)) (yP aa.out) hb);replace ab:=zz (qS (g:=ah) (o:= .cells #[.string (⟨#[]⟩:ByteArray),.slice none 0 0,.string (⟨#[]⟩:ByteArray)] 133 (0,0)) (yP ab.out) hb);replace ae:=zz (qS (g:=ad) (o:= .cells #[.string af,.slice none 0 0,.string (⟨#[]⟩:ByteArray)] 133 (0,0)) (yP ae.out) hb);replace HB:=zz (zv zb hb);(try clear hb);(try clear bs);(try clear hk);(try clear hi);(try clear aE);obtain⟨ay,az,aF⟩:=Kd.qZ ax.out;subst aF;obtain⟨aM,aN,aO,aP,aQ,aR⟩:=zc3 ae.out;obtain⟨aS,aT,aU,aV,aW,aX⟩:=zc3 aa.out;obtain⟨aY,aZ,a0,a1,a2,a3⟩:=zc3 ab.out))
 refine bodyPost_ret (results_cell_row rfl _ _ ah 133 #[.string af,.slice ay au.length az,.string ag] (0,0) _ rfl (yP ab.out) Tryz.underlying133 rfl zk) rfl ?_
 exact⟨_,ze,yV (Kd.R_far (p:=⟨ad,2,none⟩) (Kd.R_far (p:=⟨ad,1,none⟩) (Kd.R_types (Kd.R_types ax.out ae.out (by decide)) ab.out (by decide)) (fun _ hk=>hk.1.2) (.slice ay au.length az)) (fun _ hk=>hk.1.2) (.string ag)),zb⟩
section
attribute [local go_sem] run_store_one
def laws_toPendingS.l0:Nat→List (S126)→List (S133)→Int→Option ((List (S133)))
 |0,_,_,_=>none
 |k+1,x0,x3,x4=>if x4<(x0.length:Int) then(if 0≤x4 then((laws_toPending.f k ((rd_T126 x0 x4).f0) ((rd_T126 x0 x4).f1) ((rd_T126 x0 x4).f2)).bind fun aa=>(if x4<(x3.length:Int) then(laws_toPendingS.l0 k x0 (x3.set (x4:Int).toNat (⟨aa.1,aa.2.1,aa.2.2⟩:S133)) (wrap64 (x4+1))) else(none))) else(none)) else(some x3)
def laws_toPendingS.f(k:Nat)(l0:List (S126)):Option ((List (S133))):=if 0≤(l0.length:Int) then(if((l0.length:Int):Int).toNat≤5026338869833 then(laws_toPendingS.l0 k l0 (List.replicate ((l0.length:Int):Int).toNat z133) 0) else(none)) else(none)
theorem laws_toPendingS.calls(k:Nat)(A0:Option Addr)(c0:Nat)(l0:List (S126))(r:List (S133))(w:World)(a6:Kd.C k126 w A0 l0.length l0)(a7:l0.length≤c0)(h:laws_toPendingS.f k l0=some r):
 Calls Tryz.prog 50 #[.slice A0 l0.length c0] w fun e w'=>∃a8:Value,e= .returned (a8)∧Kd.S k133 133 w' w.heap.size (fun _=>True) a8 r∧Below w.heap.size w w':=by
 have bA:=Tryz.underlying126
 have bB:=Tryz.underlying133
 have bk:=zz a6
 have bN:=zz a7
 clear a6 a7
 have HB:=yB w
 unfold laws_toPendingS.f at h
 have H:=h
 clear h
 replace H:=yA H
 obtain⟨c2,H⟩:=H
 have bb:=eq_true c2
 have bc:=z1 c2
 clear c2
 replace H:=yA H
 obtain⟨c3,H⟩:=H
 have bd:=eq_true c3
 have be:=z1 c3
 clear c3
 obtain⟨aG,ae⟩:∃y_:List (S133),y_=(List.replicate ((l0.length:Int):Int).toNat z133):=⟨_,rfl⟩
 replace H:(laws_toPendingS.l0 k l0 aG 0)=some r:=by first|(rw[ae];with_reducible exact H)|(have ao:=(Option.bind_some _ _).symm.trans H;rw[ae];with_reducible exact ao)|(have ao:=(Option.bind_some _ _).symm.trans H;with_reducible exact ao)|with_reducible exact H|(rw[ae];exact H)|exact H
 have aD:=zz ae
 clear ae
 have H':=zz H
 clear H
 go_enter Tryz.func50,Tryz.ntmps50
 go_wp2_with(first|(refine zN 7 ?_;refine Kd.S_make k133 _ 133 rfl (N:=7) rfl 35 _ _ rfl (l0.length:Int) rfl rfl Tryz.underlying35 (.agg #[(.string ⟨#[]⟩),(.slice none 0 0),(.string ⟨#[]⟩)]) 56 info133 rfl (by decide) (by omega) z133 (ok:=fun _=>True) (okp:=fun _=>True) (k133_mkM _ _ _ z133 (Kd.R_nil _ _ _ _ _)) (fun _ hk=>hk) trivial (z2) (Nat.le_trans (Nat.mul_le_mul_right _ (z2:(l0.length:Int).toNat≤5026338869833)) (by omega)) (Below.refl _ _) (Nat.le_refl _) ?_;intro bf w4 az hb hg_ hnew_;clear hg_ hnew_;(first|rw[←aD.out] at az|(simp only[Int.reduceToNat] at az;rw[←aD.out] at az));have a2:=zz (Kd.S_lower az (qF zb));replace HB:=zz (zv zb hb);clear hb az))
 go_loopg[4] k (fun kq v4 w'=>∃(ad:List (S133)) (aa:Int),v4= .int .i64 aa∧qC (laws_toPendingS.l0 kq l0 ad aa=some r)∧qC (kq≤k)∧qC (Kd.S k133 133 w' w.heap.size (fun _=>True) bf ad)∧qC (Below w.heap.size w w'))
 case atStart=>exact⟨(aG),(0),zr,H',⟨Nat.le_refl _⟩,⟨zS a2.out⟩,⟨zb⟩⟩
 case round=>
  clear H'
  try clear c2
  try clear bb
  try clear bc
  try clear p2
  try clear c3
  try clear bd
  try clear be
  try clear c5
  obtain⟨ad,aa,rfl,HA,a9,ab,HB⟩:=hrel
  cases gk with
  |zero=>exact absurd HA.out (by simp[laws_toPendingS.l0])
  |succ k1=>
   have H:=HA.out
   clear HA
   simp only[laws_toPendingS.l0] at H
   refine yDn H ?_ ?_<;>clear H<;>intro bE H
   ·obtain rfl:=zi H
    go_wp2
    go_ret
    exact⟨_,ze,zS ab.out,zb⟩
   replace H:=yAD H
   obtain⟨bF,H⟩:=H
   replace H:=zf H
   obtain⟨⟨ah,ax,ai⟩,ba,H⟩:=H
   try dsimp only at H
   have A8:=zz ba
   clear ba
   replace H:=yAD H
   obtain⟨bG,H⟩:=H
   obtain⟨aA,af⟩:∃y_:List (S133),y_=(ad.set (aa:Int).toNat (⟨ah,ax,ai⟩:S133)):=⟨_,rfl⟩
   replace H:(laws_toPendingS.l0 k1 l0 aA (wrap64 (aa+1)))=some r:=by first|(rw[af];with_reducible exact H)|(have ao:=(Option.bind_some _ _).symm.trans H;rw[af];with_reducible exact ao)|(have ao:=(Option.bind_some _ _).symm.trans H;with_reducible exact ao)|with_reducible exact H|(rw[af];exact H)|exact H
   have a3:=zz af
   clear af
   have H':=zz H
   clear H
   have bH:=yt (0≤(aa:Int))
   have bI:=yt (aa<(l0.length:Int))
   obtain⟨bC,aH,aI,bg,ap,ar,au,av,aw⟩:=at_T126 bk.out aa z2 z2
   cases bg
   replace ap:=z3 HB.out ap
   replace ar:=z3 HB.out ar
   replace au:=z3 HB.out au
   have aE:=zz aw
   have aF:=zz av
   clear aw av
   go_wp2_with(first|(refine zL 97 20 Tryz.func97 #[.agg #[.string ((rd_T126 l0 aa).f0),.slice aH ((rd_T126 l0 aa).f1).length aI,.string ((rd_T126 l0 aa).f2)]] ?_;(with_reducible refine(laws_toPending.calls k1 ((rd_T126 l0 aa).f0) _ _ ((rd_T126 l0 aa).f1) ((rd_T126 l0 aa).f2) ah ax ai _ ?s1 ?s2 A8.out).mono ?_);(case s1=>exact zc aE.out);(case s2=>exact aF.out);rintro e ag ⟨ay,rfl,aJ,hb⟩;refine⟨_,rfl,?_⟩;replace ab:=zz (Kd.S_elder' (zS ab.out) (Kd.R_base aJ) hb);have aj:=zz (Kd.qY aJ (qF zb));replace HB:=zz (zv zb hb);(try clear hb);(try clear bO);(try clear hk);(try clear hi);(try clear aJ);have aK:0≤(aa:Int):=z2;have aL:(aa:Int)<((ad.length:Int):Int):=z2;obtain⟨ac,aM,aN,aO,bh,bJ,aP⟩:=Kd.S_form ab.out (by omega);(first|cases aN|(injection aN with ea_ en_ ec_;(first|subst ea_|(injection ea_ with ea_;subst ea_));subst ec_;clear en_));have aB:=zz aO;have bK:=zz aP;clear aO bh aP;obtain⟨_,bL,a4,aQ,ak,al,_,_⟩:=Kd.S_elem ab.out z133 (aa:Int) aK aL;obtain⟨aR,rfl,bl⟩:=k133_openM aQ;have bn:ag.cell? ⟨ac,(aa:Int).toNat*3,none⟩=some (.string ((rd_T133 ad aa).f0)):=ak 0 _ rfl;have bo:ag.cell? ⟨ac,(aa:Int).toNat*3+1,none⟩=some (aR):=ak 1 _ rfl;have bq:ag.cell? ⟨ac,(aa:Int).toNat*3+2,none⟩=some (.string ((rd_T133 ad aa).f2)):=ak 2 _ rfl;have br:ag.frozen? ⟨ac,(aa:Int).toNat*3,none⟩=false:=al 0;have bs:ag.frozen? ⟨ac,(aa:Int).toNat*3+1,none⟩=false:=al 1;have bu:ag.frozen? ⟨ac,(aa:Int).toNat*3+2,none⟩=false:=al 2;clear a4 ak al aQ;replace aK:=eq_true aK;replace aL:=eq_true aL;have n_:=zz (Kd.S_mono (ok':=(fun k_=>some k_≠(ay:Value).ownBlock)) ab.out (fun k_ hk=>hk.2));clear ab;have ab:=n_;clear n_;have bi:=zz (show Kd.S k133 133 ag w.heap.size (fun k_=>((fun _=>True)) k_∧¬((fun k_=>some k_=(ay:Value).ownBlock)) k_) (.slice (some ⟨ac,0,none⟩) ad.length aM) ad from(by(with_reducible repeat(first|apply Kd.S_alloc|apply Kd.S_drewN|apply Kd.S_drew));exact Kd.S_mono ab.out (fun k_ hk=>⟨trivial,fun e_=>hk e_⟩)));obtain⟨bD,bM,a5,aS,am,an,aT,aU⟩:=Kd.S_elem bi.out z133 (aa:Int) (z2) (by have h_:(aa:Int)<((ad.length:Int):Int):=z2;first|exact h_|(have e_:=(Kd.S_reads' ab.out).1;omega)|simpa using h_);obtain⟨bv,rfl,bw⟩:=k133_openM aS;have aC:=Kd.S_seg aU (z2) (by have h_:(aa:Int)<((ad.length:Int):Int):=z2;first|exact h_|(have e_:=(Kd.S_reads' ab.out).1;omega)|simpa using h_) (seg:=[.string ah,ay,.string ai]) (j:=0) (show 3≤3 from by decide) (x':=(⟨ah,ax,ai⟩:S133)) (k133_mkM _ _ _ (⟨ah,ax,ai⟩:S133) (Kd.vC (Kd.R_tight rfl (Kd.vC (ok':=fun k_=>((fun _=>True)) k_∧k_≠ac) (Kd.R_apart' (aj.out) (Kd.S_typed ab.out) (by decide)) (fun k_ hk=>⟨trivial,fun e_=>(hk.2) (by rw[e_];rfl)⟩))) (fun _ h_=>Or.inr (h_)))) (fun _ hk=>hk) (fun k_ hk_=>((Kd.vC (ok':=fun k_=>((fun _=>True)) k_∧k_≠ac) (Kd.R_apart' (aj.out) (Kd.S_typed ab.out) (by decide)) (fun k_ hk=>⟨trivial,fun e_=>(hk.2) (by rw[e_];rfl)⟩))).1 k_ hk_.symm);have aV:=am 0 _ rfl;(try simp only[show(k133).sz=3 from rfl,Nat.mul_one,Nat.add_zero] at aV);have aW:=an 0;(try simp only[show(k133).sz=3 from rfl,Nat.mul_one,Nat.add_zero] at aW);have aX:=am 1 _ rfl;(try simp only[show(k133).sz=3 from rfl,Nat.mul_one,Nat.add_zero] at aX);have aY:=an 1;(try simp only[show(k133).sz=3 from rfl,Nat.mul_one,Nat.add_zero] at aY);have aZ:=am 2 _ rfl;(try simp only[show(k133).sz=3 from rfl,Nat.mul_one,Nat.add_zero] at aZ);have a0:=an 2;(try simp only[show(k133).sz=3 from rfl,Nat.mul_one,Nat.add_zero] at a0);clear a5 am an aS aT aU;have bj:=R_one aj.out)|((with_reducible refine qQ (t:=133) (p:=21) rfl ?_);refine qN (t:=133) (p:=21) (v:=?bz) (w1:=(((ag.setCell ⟨ac,(aa:Int).toNat*3,none⟩ (.string ah)).setCell ⟨ac,(aa:Int).toNat*3+1,none⟩ (ay)).setCell ⟨ac,(aa:Int).toNat*3+2,none⟩ (.string ai))) ?hg ?ho ?hn ?hr ?_;(case ho=>rfl);(case hg=>rfl);(case hn=>rfl);(case hr=>first|(go_simp;done)|(go_simp;rfl));intro a1 hw;have hg:ag.grownBy a1 (some ac):=(by rw[hw];exact aC.2);have hp_:Kd.S k133 133 a1 w.heap.size (fun _=>True) (.slice (some ⟨ac,0,none⟩) ad.length aM) aA:=(by rw[hw,a3.out];exact aC.1);clear aC;replace ab:=zz (hp_);replace HB:=zz ((by rw[hw];exact qJ (qJ (qJ (HB.out) aB.out) aB.out) aB.out:Below w.heap.size w a1));clear aj;clear hg hw hp_))
   go_roundg k1
   case measure=>have:=a9.out;omega
   case rel=>exact⟨(aA),(wrap64 (aa+1)),zr,H',⟨by have:=a9.out;omega⟩,⟨zS ab.out⟩,⟨zb⟩⟩
end
def laws_toNext.f(aa:ByteArray)(ab:ByteArray):Option (ByteArray×ByteArray):=some (aa,ab)
theorem laws_toNext.calls(ac:ByteArray)(ad:ByteArray)(r1:ByteArray)(r2:ByteArray)(w:World)(h:laws_toNext.f ac ad=some (r1,r2)):
 Calls Tryz.prog 98 #[.agg #[.string ac,.string ad]] w fun e w'=>e= .returned (.agg #[.string r1,.string r2])∧Below w.heap.size w w':=by
 have aD:=Tryz.underlying129
 have aE:=Tryz.underlying134
 have HB:=yB w
 unfold laws_toNext.f at h
 have H:=h
 clear h
 simp only[Option.some.injEq,Prod.mk.injEq] at H
 obtain⟨rfl,rfl⟩:=H
 go_enter Tryz.func98,Tryz.ntmps98
 go_wp2_with(first|(refine zX 1 129 #[.string ac,.string ad] ?_;intro al hg w2 hbox hb;have aa:=zz (hbox);have aF:=zz ((zg:w.heap.size≤al));have aG:=zz ((zg:w.heap.size≤al));replace HB:=zz (zv zb hb);clear hb hbox hg)|(refine zX 2 134 #[.string (⟨#[]⟩:ByteArray),.string (⟨#[]⟩:ByteArray)] ?_;intro ae hg w3 hbox hb;have ab:=zz (hbox);have aH:=zz ((zg:w.heap.size≤ae));have aI:=zz ((zg:w.heap.size≤ae));replace HB:=zz (zv zb hb);have af:=zz (zH aa hg);have ag:=zz (zI aa hg);replace aa:=zz (zJ aa hb);clear hb hbox hg)|(refine zX 3 134 #[.string (⟨#[]⟩:ByteArray),.string (⟨#[]⟩:ByteArray)] ?_;intro am hg w4 hbox hb;have an:=zz (hbox);have aJ:=zz ((zg:w.heap.size≤am));have aK:=zz ((zg:w.heap.size≤am));replace HB:=zz (zv zb hb);have ah:=zz (zH aa hg);have ai:=zz (zI aa hg);replace aa:=zz (zJ aa hb);have aj:=zz (zH ab hg);have ak:=zz (zI ab hg);replace ab:=zz (zJ ab hb);clear hb hbox hg;have aL:=af.out;have aM:=ag.out;have aN:=ah.out;have aO:=ai.out;obtain⟨av,aw,ax,ay⟩:=zc2 aa.out;have aP:=ak.out;have aQ:=aj.out;obtain⟨az,aA,aB,aC⟩:=zc2 an.out;obtain⟨ao,ap,ar,au⟩:=zc2 ab.out))
 refine bodyPost_ret (results_cell_row rfl _ _ ae 134 #[.string ac,.string ad] (0,0) _ rfl (yP ab.out) Tryz.underlying134 rfl zk) rfl ?_
 exact⟨ze,zb⟩
def laws_toNextS.l0:Nat→List (S129)→List (S134)→Int→Option ((List (S134)))
 |0,_,_,_=>none
 |k+1,x0,x3,x4=>if x4<(x0.length:Int) then(if 0≤x4 then((laws_toNext.f ((rd_T129 x0 x4).f0) ((rd_T129 x0 x4).f1)).bind fun aa=>(if x4<(x3.length:Int) then(laws_toNextS.l0 k x0 (x3.set (x4:Int).toNat (⟨aa.1,aa.2⟩:S134)) (wrap64 (x4+1))) else(none))) else(none)) else(some x3)
def laws_toNextS.f(k:Nat)(l0:List (S129)):Option ((List (S134))):=if 0≤(l0.length:Int) then(if((l0.length:Int):Int).toNat≤8796093022208 then(laws_toNextS.l0 k l0 (List.replicate ((l0.length:Int):Int).toNat z134) 0) else(none)) else(none)
theorem laws_toNextS.calls(k:Nat)(A0:Option Addr)(c0:Nat)(l0:List (S129))(r:List (S134))(w:World)(aR:Kd.C k129 w A0 l0.length l0)(aS:l0.length≤c0)(h:laws_toNextS.f k l0=some r):
 Calls Tryz.prog 51 #[.slice A0 l0.length c0] w fun e w'=>∃aT:Value,e= .returned (aT)∧Kd.R k134 134 w' w.heap.size (fun _=>True) aT r∧Below w.heap.size w w':=by
 have a9:=Tryz.underlying129
 have ba:=Tryz.underlying134
 have a3:=zz aR
 have bl:=zz aS
 clear aR aS
 have HB:=yB w
 unfold laws_toNextS.f at h
 have H:=h
 clear h
 replace H:=yA H
 obtain⟨c2,H⟩:=H
 have aW:=eq_true c2
 have aX:=z1 c2
 clear c2
 replace H:=yA H
 obtain⟨c3,H⟩:=H
 have aY:=eq_true c3
 have aZ:=z1 c3
 clear c3
 obtain⟨ay,ae⟩:∃y_:List (S134),y_=(List.replicate ((l0.length:Int):Int).toNat z134):=⟨_,rfl⟩
 replace H:(laws_toNextS.l0 k l0 ay 0)=some r:=by first|(rw[ae];with_reducible exact H)|(have aj:=(Option.bind_some _ _).symm.trans H;rw[ae];with_reducible exact aj)|(have aj:=(Option.bind_some _ _).symm.trans H;with_reducible exact aj)|with_reducible exact H|(rw[ae];exact H)|exact H
 have aw:=zz ae
 clear ae
 have H':=zz H
 clear H
 go_enter Tryz.func51,Tryz.ntmps51
 go_wp2_with(first|(refine zN 7 ?_;refine Kd.R_make k134 _ 134 rfl (N:=7) rfl 36 _ _ rfl (l0.length:Int) rfl rfl Tryz.underlying36 (.agg #[(.string ⟨#[]⟩),(.string ⟨#[]⟩)]) 32 info134 rfl (by decide) (by omega) z134 (ok:=fun _=>True) (okp:=fun _=>True) (k134_mkM _ _ _ z134) (fun _ hk=>hk) trivial (z2) (Nat.le_trans (Nat.mul_le_mul_right _ (z2:(l0.length:Int).toNat≤8796093022208)) (by omega)) (Below.refl _ _) (Nat.le_refl _) ?_;intro a0 w4 ar hb hg_ hnew_;clear hg_ hnew_;(first|rw[←aw.out] at ar|(simp only[Int.reduceToNat] at ar;rw[←aw.out] at ar));have aO:=zz (Kd.qY ar (qF zb));replace HB:=zz (zv zb hb);clear hb ar))
 go_loopg[4] k (fun kq v4 w'=>∃(ab:List (S134)) (aa:Int),v4= .int .i64 aa∧qC (laws_toNextS.l0 kq l0 ab aa=some r)∧qC (kq≤k)∧qC (Kd.R k134 134 w' w.heap.size (fun _=>True) a0 ab)∧qC (Below w.heap.size w w'))
 case atStart=>exact⟨(ay),(0),zr,H',⟨Nat.le_refl _⟩,⟨zR aO.out⟩,⟨zb⟩⟩
 case round=>
  clear H'
  try clear c2
  try clear aW
  try clear aX
  try clear p2
  try clear c3
  try clear aY
  try clear aZ
  try clear c5
  obtain⟨ab,aa,rfl,HA,aU,ac,HB⟩:=hrel
  cases gk with
  |zero=>exact absurd HA.out (by simp[laws_toNextS.l0])
  |succ k1=>
   have H:=HA.out
   clear HA
   simp only[laws_toNextS.l0] at H
   refine yDn H ?_ ?_<;>clear H<;>intro bc H
   ·obtain rfl:=zi H
    go_wp2
    go_ret
    exact⟨_,ze,zR ac.out,zb⟩
   replace H:=yAD H
   obtain⟨bd,H⟩:=H
   replace H:=zf H
   obtain⟨⟨ag,ah⟩,aV,H⟩:=H
   try dsimp only at H
   have A8:=zz aV
   clear aV
   replace H:=yAD H
   obtain⟨be,H⟩:=H
   obtain⟨au,af⟩:∃y_:List (S134),y_=(ab.set (aa:Int).toNat (⟨ag,ah⟩:S134)):=⟨_,rfl⟩
   replace H:(laws_toNextS.l0 k1 l0 au (wrap64 (aa+1)))=some r:=by first|(rw[af];with_reducible exact H)|(have aj:=(Option.bind_some _ _).symm.trans H;rw[af];with_reducible exact aj)|(have aj:=(Option.bind_some _ _).symm.trans H;with_reducible exact aj)|with_reducible exact H|(rw[af];exact H)|exact H
   have aP:=zz af
   clear af
   have H':=zz H
   clear H
   have bf:=yt (0≤(aa:Int))
   have bg:=yt (aa<(l0.length:Int))
   obtain⟨bb,a1,al,am⟩:=at_T129 a3.out aa z2 z2
   cases a1
   replace al:=z3 HB.out al
   replace am:=z3 HB.out am
   go_wp2_with(first|(refine zL 98 20 Tryz.func98 #[.agg #[.string ((rd_T129 l0 aa).f0),.string ((rd_T129 l0 aa).f1)]] ?_;(with_reducible refine(laws_toNext.calls ((rd_T129 l0 aa).f0) ((rd_T129 l0 aa).f1) ag ah _ A8.out).mono ?_);rintro e ak ⟨rfl,hb⟩;refine⟨_,rfl,?_⟩;replace ac:=zz (Kd.R_below (zR ac.out) hb);replace HB:=zz (zv zb hb);(try clear hb);(try clear bn);(try clear hk);(try clear hi);have az:0≤(aa:Int):=z2;have aA:(aa:Int)<((ab.length:Int):Int):=z2;obtain⟨ad,aB,aC,aD,a2,bh,aE⟩:=Kd.R_form ac.out (by omega);(first|cases aC|(injection aC with ea_ en_ ec_;(first|subst ea_|(injection ea_ with ea_;subst ea_));subst ec_;clear en_));have aF:=zz aD;have bi:=zz aE;clear aD a2 aE;obtain⟨bj,aQ,aG,an,ao⟩:=Kd.R_elem ac.out z134 (aa:Int) az aA;obtain rfl:=k134_openM aG;have a4:ak.cell? ⟨ad,(aa:Int).toNat*2,none⟩=some (.string ((rd_T134 ab aa).f0)):=an 0 _ rfl;have a5:ak.cell? ⟨ad,(aa:Int).toNat*2+1,none⟩=some (.string ((rd_T134 ab aa).f1)):=an 1 _ rfl;have a6:ak.frozen? ⟨ad,(aa:Int).toNat*2,none⟩=false:=ao 0;have a7:ak.frozen? ⟨ad,(aa:Int).toNat*2+1,none⟩=false:=ao 1;clear aQ an ao aG;replace az:=eq_true az;replace aA:=eq_true aA;have aH:=zz (show Kd.R k134 134 ak w.heap.size (fun _=>True) (.slice (some ⟨ad,0,none⟩) ab.length aB) ab from(zR ac.out));obtain⟨bk,ax,aI,ai,ap⟩:=Kd.R_elem aH.out z134 (aa:Int) (z2) (by have h_:(aa:Int)<((ab.length:Int):Int):=z2;first|exact h_|(have e_:=(Kd.qM ac.out).1;omega)|simpa using h_);obtain rfl:=k134_openM aI;have av:=Kd.R_seg aH.out (aa:Int) (z2) (by have h_:(aa:Int)<((ab.length:Int):Int):=z2;first|exact h_|(have e_:=(Kd.qM ac.out).1;omega)|simpa using h_) (seg:=[.string ag,.string ah]) (j:=0) ax ai (show 2≤2 from by decide) (x':=(⟨ag,ah⟩:S134)) (k134_mkM _ _ _ (⟨ag,ah⟩:S134)) (fun _ hk=>hk);have aJ:=ai 0 _ rfl;(try simp only[show(k134).sz=2 from rfl,Nat.mul_one,Nat.add_zero] at aJ);have aK:=ap 0;(try simp only[show(k134).sz=2 from rfl,Nat.mul_one,Nat.add_zero] at aK);have aL:=ai 1 _ rfl;(try simp only[show(k134).sz=2 from rfl,Nat.mul_one,Nat.add_zero] at aL);have aM:=ap 1;(try simp only[show(k134).sz=2 from rfl,Nat.mul_one,Nat.add_zero] at aM);clear ax ai ap aI)|((with_reducible refine qQ (t:=134) (p:=21) rfl ?_);refine qN (t:=134) (p:=21) (v:=?a8) (w1:=((ak.setCell ⟨ad,(aa:Int).toNat*2,none⟩ (.string ag)).setCell ⟨ad,(aa:Int).toNat*2+1,none⟩ (.string ah))) ?hg ?ho ?hn ?hr ?_;(case ho=>rfl);(case hg=>rfl);(case hn=>rfl);(case hr=>first|(go_simp;done)|(go_simp;rfl));intro aN hw;have hg:ak.grownBy aN (some ad):=(by rw[hw];exact av.2);have hp_:Kd.R k134 134 aN w.heap.size (fun _=>True) (.slice (some ⟨ad,0,none⟩) ab.length aB) au:=(by rw[hw,aP.out];exact av.1);clear av;replace ac:=zz (hp_);replace HB:=zz ((by rw[hw];exact qJ (qJ (HB.out) aF.out) aF.out:Below w.heap.size w aN));clear hg hw hp_))
   go_roundg k1
   case measure=>have:=aU.out;omega
   case rel=>exact⟨(au),(wrap64 (aa+1)),zr,H',⟨by have:=aU.out;omega⟩,⟨zR ac.out⟩,⟨zb⟩⟩
def laws_toWorld.f(k:Nat)(aa:List (S119))(ab:List (S123))(ac:List (S126))(ad:List (S129)):Option ((List (S103))×(List (S137))×(List (S133))×(List (S134))):=(laws_toItemS.f k aa).bind fun ae=>((laws_toProfileS.f k ab).bind fun af=>((laws_toPendingS.f k ac).bind fun ag=>((laws_toNextS.f k ad).bind fun ah=>(some (ae,af,ag,ah)))))
theorem laws_toWorld.calls(k:Nat)(am:Option Addr)(an:Nat)(ae:List (S119))(ao:Option Addr)(ap:Nat)(af:List (S123))(ar:Option Addr)(au:Nat)(ag:List (S126))(av:Option Addr)(aw:Nat)(ah:List (S129))(r1:List (S103))(r2:List (S137))(r3:List (S133))(r4:List (S134))(w:World)(aR:Kd.C k119 w am ae.length ae)(aS:ae.length≤an)(aT:Kd.C k123 w ao af.length af)(aU:af.length≤ap)(aV:Kd.C k126 w ar ag.length ag)(aW:ag.length≤au)(aX:Kd.C k129 w av ah.length ah)(aY:ah.length≤aw)(h:laws_toWorld.f k ae af ag ah=some (r1,r2,r3,r4)):
 Calls Tryz.prog 11 #[.agg #[.slice am ae.length an,.slice ao af.length ap,.slice ar ag.length au,.slice av ah.length aw]] w fun e w'=>∃a9 ba bb bc:Value,e= .returned (.agg #[a9,ba,bb,bc])∧Kd.S k103 103 w' w.heap.size (fun _=>True) a9 r1∧Kd.S k137 137 w' w.heap.size (fun _=>True) ba r2∧Kd.S k133 133 w' w.heap.size (fun _=>True) bb r3∧Kd.R k134 134 w' w.heap.size (fun _=>True) bc r4∧Below w.heap.size w w':=by
 have cM:=Tryz.underlying27
 have cN:=Tryz.underlying38
 have a1:=zz aR
 have a2:=zz aS
 clear aR aS
 have a3:=zz aT
 have a4:=zz aU
 clear aT aU
 have a5:=zz aV
 have a6:=zz aW
 clear aV aW
 have a7:=zz aX
 have a8:=zz aY
 clear aX aY
 have HB:=yB w
 unfold laws_toWorld.f at h
 have H:=h
 clear h
 replace H:=zf H
 obtain⟨ay,bd,H⟩:=H
 try dsimp only at H
 have A2:=zz bd
 clear bd
 replace H:=zf H
 obtain⟨az,be,H⟩:=H
 try dsimp only at H
 have A3:=zz be
 clear be
 replace H:=zf H
 obtain⟨aA,bf,H⟩:=H
 try dsimp only at H
 have A4:=zz bf
 clear bf
 replace H:=zf H
 obtain⟨aB,bg,H⟩:=H
 try dsimp only at H
 have A5:=zz bg
 clear bg
 simp only[Option.some.injEq,Prod.mk.injEq] at H
 obtain⟨rfl,rfl,rfl,rfl⟩:=H
 go_enter Tryz.func11,Tryz.ntmps11
 go_wp2_with(first|(refine zX 1 27 #[.slice am ae.length an,.slice ao af.length ap,.slice ar ag.length au,.slice av ah.length aw] ?_;intro ax hg w6 hbox hb;have ab:=zz (hbox);have cC:=zz ((zg:w.heap.size≤ax));have cD:=zz ((zg:w.heap.size≤ax));replace HB:=zz (zv zb hb);clear hb hbox hg)|(refine zX 2 38 #[.slice none 0 0,.slice none 0 0,.slice none 0 0,.slice none 0 0] ?_;intro ak hg w7 hbox hb;have ac:=zz (hbox);have cE:=zz ((zg:w.heap.size≤ak));have cF:=zz ((zg:w.heap.size≤ak));replace HB:=zz (zv zb hb);have aL:=zz (zH ab hg);have aM:=zz (zI ab hg);replace ab:=zz (zJ ab hb);clear hb hbox hg)|(refine zX 3 38 #[.slice none 0 0,.slice none 0 0,.slice none 0 0,.slice none 0 0] ?_;intro ad hg w8 hbox hb;have aa:=zz (hbox);have cG:=zz ((zg:w.heap.size≤ad));have cH:=zz ((zg:w.heap.size≤ad));replace HB:=zz (zv zb hb);have aN:=zz (zH ab hg);have aO:=zz (zI ab hg);replace ab:=zz (zJ ab hb);have aP:=zz (zH ac hg);have aQ:=zz (zI ac hg);replace ac:=zz (zJ ac hb);clear hb hbox hg;have cO:=aL.out;have cP:=aM.out;have cI:=aN.out;have cJ:=aO.out;obtain⟨bl,bn,bo,bq,br,bs,bu,bv⟩:=zc4 ab.out)|(refine zL 48 6 Tryz.func48 #[.slice am ae.length an] ?_;(with_reducible refine(laws_toItemS.calls k _ _ ae ay _ ?s1 ?s2 A2.out).mono ?_);(case s1=>exact zc a1.out);(case s2=>exact a2.out);rintro e cU ⟨cQ,rfl,aj,hb⟩;refine⟨_,rfl,?_⟩;have ai:=zz (Kd.S_lower aj (qF zb));replace ab:=zz (zJ ab hb);replace ac:=zz (zJ ac hb);replace aa:=zz (zJ aa hb);replace HB:=zz (zv zb hb);(try clear hb);(try clear a0);(try clear hk);(try clear hi);(try clear aj);obtain⟨aD,aE,bh⟩:=Kd.S_slice ai.out;subst bh;have cK:=aQ.out;have cL:=aP.out;obtain⟨bw,bz,bA,bB,bC,bD,bE,bF⟩:=zc4 aa.out;obtain⟨bG,bH,bI,bJ,bK,bL,bM,bN⟩:=zc4 ab.out)|(refine zL 49 10 Tryz.func49 #[.slice ao af.length ap] ?_;(with_reducible refine(laws_toProfileS.calls k _ _ af az _ ?s1 ?s2 A3.out).mono ?_);(case s1=>exact Kd.qB a3.out zb);(case s2=>exact a4.out);rintro e cV ⟨cR,rfl,aj,hb⟩;refine⟨_,rfl,?_⟩;replace ai:=zz (Kd.S_below (by(with_reducible repeat(first|apply Kd.S_alloc|apply Kd.S_drewN|apply Kd.S_drew));exact(Kd.S_mono (Kd.S_far (p:=⟨ad,0,none⟩) (Kd.S_types ai.out aa.out (by decide)) (fun _ hk=>hk.2) (.slice aD ay.length aE)) (fun _ h_=>h_.1))) hb);have al:=zz (Kd.S_lower aj (qF zb));replace ab:=zz (qS (g:=ax) (o:= .cells #[.slice am ae.length an,.slice ao af.length ap,.slice ar ag.length au,.slice av ah.length aw] 27 (0,0)) (yP ab.out) hb);replace ac:=zz (qS (g:=ak) (o:= .cells #[.slice none 0 0,.slice none 0 0,.slice none 0 0,.slice none 0 0] 38 (0,0)) (yP ac.out) hb);replace aa:=zz (qS (g:=ad) (o:= .cells #[.slice aD ay.length aE,.slice none 0 0,.slice none 0 0,.slice none 0 0] 38 (0,0)) (yP aa.out) hb);replace HB:=zz (zv zb hb);(try clear hb);(try clear a0);(try clear hk);(try clear hi);(try clear aj);obtain⟨aF,aG,bi⟩:=Kd.S_slice al.out;subst bi;obtain⟨bO,bP,bQ,bR,bS,bT,bU,bV⟩:=zc4 aa.out;obtain⟨bW,bX,bY,bZ,b0,b1,b2,b3⟩:=zc4 ab.out)|(refine zL 50 14 Tryz.func50 #[.slice ar ag.length au] ?_;(with_reducible refine(laws_toPendingS.calls k _ _ ag aA _ ?s1 ?s2 A4.out).mono ?_);(case s1=>exact Kd.qB a5.out zb);(case s2=>exact a6.out);rintro e cW ⟨cS,rfl,aj,hb⟩;refine⟨_,rfl,?_⟩;replace ai:=zz (Kd.S_below (by(with_reducible repeat(first|apply Kd.S_alloc|apply Kd.S_drewN|apply Kd.S_drew));exact(Kd.S_mono (Kd.S_far (p:=⟨ad,1,none⟩) (Kd.S_types ai.out aa.out (by decide)) (fun _ hk=>hk.2) (.slice aF az.length aG)) (fun _ h_=>h_.1))) hb);replace al:=zz (Kd.S_below (by(with_reducible repeat(first|apply Kd.S_alloc|apply Kd.S_drewN|apply Kd.S_drew));exact(Kd.S_mono (Kd.S_far (p:=⟨ad,1,none⟩) (Kd.S_types al.out aa.out (by decide)) (fun _ hk=>hk.2) (.slice aF az.length aG)) (fun _ h_=>h_.1))) hb);have aC:=zz (Kd.S_lower aj (qF zb));replace ab:=zz (qS (g:=ax) (o:= .cells #[.slice am ae.length an,.slice ao af.length ap,.slice ar ag.length au,.slice av ah.length aw] 27 (0,0)) (yP ab.out) hb);replace ac:=zz (qS (g:=ak) (o:= .cells #[.slice none 0 0,.slice none 0 0,.slice none 0 0,.slice none 0 0] 38 (0,0)) (yP ac.out) hb);replace aa:=zz (qS (g:=ad) (o:= .cells #[.slice aD ay.length aE,.slice aF az.length aG,.slice none 0 0,.slice none 0 0] 38 (0,0)) (yP aa.out) hb);replace HB:=zz (zv zb hb);(try clear hb);(try clear a0);(try clear hk);(try clear hi);(try clear aj);obtain⟨aH,aI,bj⟩:=Kd.S_slice aC.out;subst bj;obtain⟨b4,b5,b6,b7,b8,b9,ca,cb⟩:=zc4 aa.out;obtain⟨cc,cd,ce,cf,cg,ch,ci,cj⟩:=zc4 ab.out)|(refine zL 51 18 Tryz.func51 #[.slice av ah.length aw] ?_;(with_reducible refine(laws_toNextS.calls k _ _ ah aB _ ?s1 ?s2 A5.out).mono ?_);(case s1=>exact Kd.qB a7.out zb);(case s2=>exact a8.out);rintro e cX ⟨cT,rfl,aj,hb⟩;refine⟨_,rfl,?_⟩;replace ai:=zz (Kd.S_below (by(with_reducible repeat(first|apply Kd.S_alloc|apply Kd.S_drewN|apply Kd.S_drew));exact(Kd.S_mono (Kd.S_far (p:=⟨ad,2,none⟩) (Kd.S_types ai.out aa.out (by decide)) (fun _ hk=>hk.2) (.slice aH aA.length aI)) (fun _ h_=>h_.1))) hb);replace al:=zz (Kd.S_below (by(with_reducible repeat(first|apply Kd.S_alloc|apply Kd.S_drewN|apply Kd.S_drew));exact(Kd.S_mono (Kd.S_far (p:=⟨ad,2,none⟩) (Kd.S_types al.out aa.out (by decide)) (fun _ hk=>hk.2) (.slice aH aA.length aI)) (fun _ h_=>h_.1))) hb);replace aC:=zz (Kd.S_below (by(with_reducible repeat(first|apply Kd.S_alloc|apply Kd.S_drewN|apply Kd.S_drew));exact(Kd.S_mono (Kd.S_far (p:=⟨ad,2,none⟩) (Kd.S_types aC.out aa.out (by decide)) (fun _ hk=>hk.2) (.slice aH aA.length aI)) (fun _ h_=>h_.1))) hb);have aZ:=zz (Kd.qY aj (qF zb));replace ab:=zz (qS (g:=ax) (o:= .cells #[.slice am ae.length an,.slice ao af.length ap,.slice ar ag.length au,.slice av ah.length aw] 27 (0,0)) (yP ab.out) hb);replace ac:=zz (qS (g:=ak) (o:= .cells #[.slice none 0 0,.slice none 0 0,.slice none 0 0,.slice none 0 0] 38 (0,0)) (yP ac.out) hb);replace aa:=zz (qS (g:=ad) (o:= .cells #[.slice aD ay.length aE,.slice aF az.length aG,.slice aH aA.length aI,.slice none 0 0] 38 (0,0)) (yP aa.out) hb);replace HB:=zz (zv zb hb);(try clear hb);(try clear a0);(try clear hk);(try clear hi);(try clear aj);obtain⟨aJ,aK,bk⟩:=Kd.qZ aZ.out;subst bk;obtain⟨ck,cm,cn,co,cp,cq,cr,ct⟩:=zc4 aa.out;obtain⟨cu,cv,cw,cx,cy,cz,cA,cB⟩:=zc4 ac.out))
 refine bodyPost_ret (results_cell_row rfl _ _ ak 38 #[.slice aD ay.length aE,.slice aF az.length aG,.slice aH aA.length aI,.slice aJ aB.length aK] (0,0) _ rfl (yP ac.out) Tryz.underlying38 rfl zk) rfl ?_
 exact⟨_,_,_,_,ze,yS (Kd.S_far (p:=⟨ad,3,none⟩) (Kd.S_types (Kd.S_types ai.out aa.out (by decide)) ac.out (by decide)) (fun _ hk=>hk.1.2) (.slice aJ aB.length aK)),yS (Kd.S_far (p:=⟨ad,3,none⟩) (Kd.S_types (Kd.S_types al.out aa.out (by decide)) ac.out (by decide)) (fun _ hk=>hk.1.2) (.slice aJ aB.length aK)),yS (Kd.S_far (p:=⟨ad,3,none⟩) (Kd.S_types (Kd.S_types aC.out aa.out (by decide)) ac.out (by decide)) (fun _ hk=>hk.1.2) (.slice aJ aB.length aK)),yV (Kd.R_far (p:=⟨ad,3,none⟩) (Kd.R_types (Kd.R_types aZ.out aa.out (by decide)) ac.out (by decide)) (fun _ hk=>hk.1.2) (.slice aJ aB.length aK)),zb⟩
def laws_eqStringS.l0:Nat→List ByteArray→List ByteArray→Int→Option (Bool)
 |0,_,_,_=>none
 |k+1,x0,x1,x5=>if x5<(x0.length:Int) then(if 0≤x5 then(if x5<(x1.length:Int) then(if(rdOf ByteArray.empty x0 x5).toList=(rdOf ByteArray.empty x1 x5).toList then(laws_eqStringS.l0 k x0 x1 (wrap64 (x5+1))) else(some false)) else(none)) else(none)) else(some true)
def laws_eqStringS.f(k:Nat)(l0:List ByteArray)(l1:List ByteArray):Option (Bool):=if(l0.length:Int)=(l1.length:Int) then(laws_eqStringS.l0 k l0 l1 0) else(some false)
theorem laws_eqStringS.calls(k:Nat)(A0:Option Addr)(c0:Nat)(l0:List ByteArray)(A1:Option Addr)(c1:Nat)(l1:List ByteArray)(r:Bool)(w:World)(aj:Kd.C Kd.string w A0 l0.length l0)(ak:l0.length≤c0)(al:Kd.C Kd.string w A1 l1.length l1)(am:l1.length≤c1)(h:laws_eqStringS.f k l0 l1=some r):
 Calls Tryz.prog 159 #[.slice A0 l0.length c0,.slice A1 l1.length c1] w fun e w'=>e= .returned (.bool r)∧Below w.heap.size w w':=by
 have ax:=zz aj
 have aF:=zz ak
 clear aj ak
 have ay:=zz al
 have aG:=zz am
 clear al am
 have HB:=yB w
 unfold laws_eqStringS.f at h
 have H:=h
 clear h
 replace HB:=HB.out
 have HW:=yB w
 go_enter Tryz.func159,Tryz.ntmps159
 refine yCn H ?_ ?_<;>clear H<;>intro c3 H
 ·obtain⟨an,ao⟩:=zw c3
  have ap:(l0.length==l1.length)=false:=by first|simpa using c3|(simp at c3⊢;omega)
  obtain rfl:=zi H
  exact yR
 obtain⟨an,ao⟩:=zq c3
 have ap:(l0.length==l1.length)=true:=by first|simpa using c3|(simp at c3⊢;omega)
 clear c3
 go_wp2_with(fail)
 go_loopg[5] k (fun kq v5 w'=>∃(aa:Int),v5= .int .i64 aa∧qC (laws_eqStringS.l0 kq l0 l1 aa=some r)∧qC (kq≤k)∧qC (Below w.heap.size w w'))
 case atStart=>exact⟨(0),zr,⟨H⟩,⟨Nat.le_refl _⟩,⟨HB⟩⟩
 case round=>
  clear H HB
  obtain⟨aa,rfl,H,ah,HB⟩:=hrel
  replace HB:=HB.out
  replace H:=H.out
  have ai:=yB w
  cases gk with
  |zero=>exact absurd H (by simp[laws_eqStringS.l0])
  |succ az=>
   simp only[laws_eqStringS.l0] at H
   refine yDn H ?_ ?_<;>clear H<;>intro aC H
   ·obtain rfl:=zi H
    exact yR
   go_wp2_with(fail)
   try simp only[Act.put,List.setIfInBounds_toArray,List.set_cons_zero,List.set_cons_succ]
   refine qR (C:=fun W_=>Below w.heap.size w W_) zk zk (qK HB) ?_
   replace H:=yAD H
   obtain⟨aD,H⟩:=H
   have ad:0≤(aa:Int):=z2
   have ae:(aa:Int)<(l0.length:Int):=z2
   obtain⟨aA,ar,ab⟩:=Kd.vA ax.out aa ad ae
   cases ar
   replace ab:=qH ab
   replace ad:=eq_true ad
   replace ae:=eq_true ae
   replace H:=yAD H
   obtain⟨aE,H⟩:=H
   have af:0≤(aa:Int):=z2
   have ag:(aa:Int)<(l1.length:Int):=z2
   obtain⟨aB,au,ac⟩:=Kd.vA ay.out aa af ag
   cases au
   replace ac:=qH ac
   replace af:=eq_true af
   replace ag:=eq_true ag
   refine yCn H ?_ ?_<;>clear H<;>intro c8 H
   ·obtain⟨av,aw⟩:=zw c8
    obtain rfl:=zi H
    exact yQ
   obtain⟨av,aw⟩:=zq c8
   clear c8
   repeat(first|go_big_quiet_skip|(go_big_quiet_want;go_big_quiet_op;first|go_big_quiet_on|(refine zE ?_;go_big_quiet_on)))
   clear HB
   refine zW fun w9 (HB:Below w.heap.size w w9)=>?_
   go_wp2_with(fail)
   go_roundg az
   case measure=>have:=ah.out;omega
   case rel=>exact⟨(wrap64 (aa+1)),zr,⟨H⟩,⟨by have:=ah.out;omega⟩,⟨zv ai.out HB⟩⟩
def laws_eqEntry.f(aa:ByteArray)(ab:Int)(ac:ByteArray)(ad:Bool)(ae:ByteArray)(af:Int)(ag:ByteArray)(ah:Bool):Option (Bool):=if aa.toList=ae.toList then(if ab=af then(if ac.toList=ag.toList then(if(ad !=ah)=true then(some false) else(some true)) else(some false)) else(some false)) else(some false)
theorem laws_eqEntry.calls(ak:ByteArray)(al:Int)(am:ByteArray)(ae:Bool)(an:ByteArray)(ao:Int)(ap:ByteArray)(af:Bool)(r:Bool)(w:World)(h:laws_eqEntry.f ak al am ae an ao ap af=some r):
 Calls Tryz.prog 59 #[.agg #[.string ak,.int .i64 al,.string am,.bool ae],.agg #[.string an,.int .i64 ao,.string ap,.bool af]] w fun e w'=>e= .returned (.bool r)∧Below w.heap.size w w':=by
 have aL:=Tryz.underlying87
 have HB:=yB w
 unfold laws_eqEntry.f at h
 have H:=h
 clear h
 replace HB:=HB.out
 have HW:=yB w
 go_enter Tryz.func59,Tryz.ntmps59
 refine yCn H ?_ ?_<;>clear H<;>intro c3 H
 ·obtain⟨aC,aD⟩:=zw c3
  obtain rfl:=zi H
  go_wp2_with(first|(refine zN 2 ?_;(try(refine z4 ?_;dsimp only));refine zX 2 87 #[.string ak,.int .i64 al,.string am,.bool ae] ?_;intro ar hg av hbox hb;have hst:=zv HB hb;clear hg hb HB;replace HW:=zz (zv HW.out hst);obtain⟨aa,ab,ac,ad⟩:=zx4 hbox;have HB:=Below.refl av.heap.size av;clear hbox hst)|(refine zN 3 ?_;(try(refine z4 ?_;dsimp only));refine zX 3 87 #[.string an,.int .i64 ao,.string ap,.bool af] ?_;intro au hg aw hbox hb;have hst:=zv HB hb;clear hg hb HB;replace HW:=zz (zv HW.out hst);replace aa:=qG aa hst;replace ab:=qG ab hst;replace ac:=qG ac hst;replace ad:=qG ad hst;obtain⟨ag,ah,ai,aj⟩:=zx4 hbox;have HB:=Below.refl aw.heap.size aw;clear hbox hst))
  go_ret
  exact⟨ze,zv HW.out HB⟩
 obtain⟨aC,aD⟩:=zq c3
 clear c3
 refine yCn H ?_ ?_<;>clear H<;>intro c4 H
 ·obtain⟨aE,aF⟩:=zw c4
  obtain rfl:=zi H
  go_wp2_with(first|(refine zN 2 ?_;(try(refine z4 ?_;dsimp only));refine zX 2 87 #[.string ak,.int .i64 al,.string am,.bool ae] ?_;intro ar hg ax hbox hb;have hst:=zv HB hb;clear hg hb HB;replace HW:=zz (zv HW.out hst);obtain⟨aa,ab,ac,ad⟩:=zx4 hbox;have HB:=Below.refl ax.heap.size ax;clear hbox hst)|(refine zN 3 ?_;(try(refine z4 ?_;dsimp only));refine zX 3 87 #[.string an,.int .i64 ao,.string ap,.bool af] ?_;intro au hg ay hbox hb;have hst:=zv HB hb;clear hg hb HB;replace HW:=zz (zv HW.out hst);replace aa:=qG aa hst;replace ab:=qG ab hst;replace ac:=qG ac hst;replace ad:=qG ad hst;obtain⟨ag,ah,ai,aj⟩:=zx4 hbox;have HB:=Below.refl ay.heap.size ay;clear hbox hst))
  go_ret
  exact⟨ze,zv HW.out HB⟩
 obtain⟨aE,aF⟩:=zq c4
 clear c4
 refine yCn H ?_ ?_<;>clear H<;>intro c5 H
 ·obtain⟨aG,aH⟩:=zw c5
  obtain rfl:=zi H
  go_wp2_with(first|(refine zN 2 ?_;(try(refine z4 ?_;dsimp only));refine zX 2 87 #[.string ak,.int .i64 al,.string am,.bool ae] ?_;intro ar hg az hbox hb;have hst:=zv HB hb;clear hg hb HB;replace HW:=zz (zv HW.out hst);obtain⟨aa,ab,ac,ad⟩:=zx4 hbox;have HB:=Below.refl az.heap.size az;clear hbox hst)|(refine zN 3 ?_;(try(refine z4 ?_;dsimp only));refine zX 3 87 #[.string an,.int .i64 ao,.string ap,.bool af] ?_;intro au hg aA hbox hb;have hst:=zv HB hb;clear hg hb HB;replace HW:=zz (zv HW.out hst);replace aa:=qG aa hst;replace ab:=qG ab hst;replace ac:=qG ac hst;replace ad:=qG ad hst;obtain⟨ag,ah,ai,aj⟩:=zx4 hbox;have HB:=Below.refl aA.heap.size aA;clear hbox hst))
  go_ret
  exact⟨ze,zv HW.out HB⟩
 obtain⟨aG,aH⟩:=zq c5
 clear c5
 refine yCn H ?_ ?_<;>clear H<;>intro c6 H
 ·have aI:(ae !=af)=false:=by simpa using c6
  (try(have aJ:decide (ae=af)=true:=by simpa using c6))
  (try(have aK:(ae==af)=true:=by simpa using c6))
  clear c6
  obtain rfl:=zi H
  go_wp2_with(first|(refine zN 2 ?_;(try(refine z4 ?_;dsimp only));refine zX 2 87 #[.string ak,.int .i64 al,.string am,.bool ae] ?_;intro ar hg w9 hbox hb;have hst:=zv HB hb;clear hg hb HB;replace HW:=zz (zv HW.out hst);obtain⟨aa,ab,ac,ad⟩:=zx4 hbox;have HB:=Below.refl w9.heap.size w9;clear hbox hst)|(refine zN 3 ?_;(try(refine z4 ?_;dsimp only));refine zX 3 87 #[.string an,.int .i64 ao,.string ap,.bool af] ?_;intro au hg aB hbox hb;have hst:=zv HB hb;clear hg hb HB;replace HW:=zz (zv HW.out hst);replace aa:=qG aa hst;replace ab:=qG ab hst;replace ac:=qG ac hst;replace ad:=qG ad hst;obtain⟨ag,ah,ai,aj⟩:=zx4 hbox;have HB:=Below.refl aB.heap.size aB;clear hbox hst))
  go_ret
  exact⟨ze,zv HW.out HB⟩
 have aI:(ae !=af)=true:=c6
 (try(have aJ:decide (ae=af)=false:=by simpa using c6))
 (try(have aK:(ae==af)=false:=by simpa using c6))
 (try(have aM:¬(ae=af):=by simpa using c6))
 clear c6
 obtain rfl:=zi H
 go_wp2_with(first|(refine zN 2 ?_;(try(refine z4 ?_;dsimp only));refine zX 2 87 #[.string ak,.int .i64 al,.string am,.bool ae] ?_;intro ar hg w7 hbox hb;have hst:=zv HB hb;clear hg hb HB;replace HW:=zz (zv HW.out hst);obtain⟨aa,ab,ac,ad⟩:=zx4 hbox;have HB:=Below.refl w7.heap.size w7;clear hbox hst)|(refine zN 3 ?_;(try(refine z4 ?_;dsimp only));refine zX 3 87 #[.string an,.int .i64 ao,.string ap,.bool af] ?_;intro au hg w8 hbox hb;have hst:=zv HB hb;clear hg hb HB;replace HW:=zz (zv HW.out hst);replace aa:=qG aa hst;replace ab:=qG ab hst;replace ac:=qG ac hst;replace ad:=qG ad hst;obtain⟨ag,ah,ai,aj⟩:=zx4 hbox;have HB:=Below.refl w8.heap.size w8;clear hbox hst))
 go_ret
 exact⟨ze,zv HW.out HB⟩
def laws_eqEntryS.l0:Nat→List (S87)→List (S87)→Int→Option (Bool)
 |0,_,_,_=>none
 |k+1,x0,x1,x5=>if x5<(x0.length:Int) then(if 0≤x5 then(if x5<(x1.length:Int) then((laws_eqEntry.f ((qA x0 x5).f0) ((qA x0 x5).f1) ((qA x0 x5).f2) ((qA x0 x5).f3) ((qA x1 x5).f0) ((qA x1 x5).f1) ((qA x1 x5).f2) ((qA x1 x5).f3)).bind fun aa=>(if aa=true then(laws_eqEntryS.l0 k x0 x1 (wrap64 (x5+1))) else(some false))) else(none)) else(none)) else(some true)
def laws_eqEntryS.f(k:Nat)(l0:List (S87))(l1:List (S87)):Option (Bool):=if(l0.length:Int)=(l1.length:Int) then(laws_eqEntryS.l0 k l0 l1 0) else(some false)
theorem laws_eqEntryS.calls(k:Nat)(A0:Option Addr)(c0:Nat)(l0:List (S87))(A1:Option Addr)(c1:Nat)(l1:List (S87))(r:Bool)(w:World)(al:Kd.C k87 w A0 l0.length l0)(am:l0.length≤c0)(an:Kd.C k87 w A1 l1.length l1)(ao:l1.length≤c1)(h:laws_eqEntryS.f k l0 l1=some r):
 Calls Tryz.prog 16 #[.slice A0 l0.length c0,.slice A1 l1.length c1] w fun e w'=>e= .returned (.bool r)∧Below w.heap.size w w':=by
 have aE:=Tryz.underlying87
 have ax:=zz al
 have aN:=zz am
 clear al am
 have ay:=zz an
 have aO:=zz ao
 clear an ao
 have HB:=yB w
 unfold laws_eqEntryS.f at h
 have H:=h
 clear h
 replace HB:=HB.out
 have HW:=yB w
 go_enter Tryz.func16,Tryz.ntmps16
 refine yCn H ?_ ?_<;>clear H<;>intro c3 H
 ·obtain⟨ap,ar⟩:=zw c3
  have au:(l0.length==l1.length)=false:=by first|simpa using c3|(simp at c3⊢;omega)
  obtain rfl:=zi H
  exact yR
 obtain⟨ap,ar⟩:=zq c3
 have au:(l0.length==l1.length)=true:=by first|simpa using c3|(simp at c3⊢;omega)
 clear c3
 go_wp2_with(fail)
 go_loopg[5] k (fun kq v5 w'=>∃(aa:Int),v5= .int .i64 aa∧qC (laws_eqEntryS.l0 kq l0 l1 aa=some r)∧qC (kq≤k)∧qC (Below w.heap.size w w'))
 case atStart=>exact⟨(0),zr,⟨H⟩,⟨Nat.le_refl _⟩,⟨HB⟩⟩
 case round=>
  clear H HB
  obtain⟨aa,rfl,H,aj,HB⟩:=hrel
  replace HB:=HB.out
  replace H:=H.out
  have ak:=yB w
  cases gk with
  |zero=>exact absurd H (by simp[laws_eqEntryS.l0])
  |succ az=>
   simp only[laws_eqEntryS.l0] at H
   refine yDn H ?_ ?_<;>clear H<;>intro aF H
   ·obtain rfl:=zi H
    exact yR
   go_wp2_with(fail)
   try simp only[Act.put,List.setIfInBounds_toArray,List.set_cons_zero,List.set_cons_succ]
   refine qR (C:=fun W_=>Below w.heap.size w W_) zk zk (qK HB) ?_
   replace H:=yAD H
   obtain⟨aG,H⟩:=H
   have aH:=yt (0≤(aa:Int))
   have aI:=yt ((aa:Int)<(l0.length:Int))
   obtain⟨aC,av,ab,ac,ad,ae⟩:=at_T87 ax.out aa z2 z2
   cases av
   replace ab:=qH ab
   replace ac:=qH ac
   replace ad:=qH ad
   replace ae:=qH ae
   replace H:=yAD H
   obtain⟨aJ,H⟩:=H
   have aK:=yt (0≤(aa:Int))
   have aL:=yt ((aa:Int)<(l1.length:Int))
   obtain⟨aD,aw,af,ag,ah,ai⟩:=at_T87 ay.out aa z2 z2
   cases aw
   replace af:=qH af
   replace ag:=qH ag
   replace ah:=qH ah
   replace ai:=qH ai
   replace H:=yf H
   obtain⟨aM,A8,H⟩:=H
   refine yT H ?_ ?_<;>clear H<;>rintro rfl H
   ·repeat(first|go_big_quiet_skip|(go_big_quiet_want;go_big_quiet_op;first|go_big_quiet_on|(with_reducible apply Exists.intro;refine⟨fun W hW=>?_,?_⟩;(first|with_reducible rfl|(go_at_call 59;exact vE (laws_eqEntry.calls _ _ _ _ _ _ _ _ _ _ A8.out) hW)|(go_simp;with_reducible rfl));go_big_quiet_on)))
    clear HB
    refine zW fun aA (HB:Below w.heap.size w aA)=>?_
    go_wp2_with(fail)
    go_roundg az
    case measure=>have:=aj.out;omega
    case rel=>exact⟨(wrap64 (aa+1)),zr,⟨H⟩,⟨by have:=aj.out;omega⟩,⟨zv ak.out HB⟩⟩
   obtain rfl:=zi H
   repeat(first|go_big_quiet_skip|(go_big_quiet_want;go_big_quiet_op;first|go_big_quiet_on|(with_reducible apply Exists.intro;refine⟨fun W hW=>?_,?_⟩;(first|with_reducible rfl|(go_at_call 59;exact vE (laws_eqEntry.calls _ _ _ _ _ _ _ _ _ _ A8.out) hW)|(go_simp;with_reducible rfl));go_big_quiet_on)))
   clear HB
   refine zW fun aB (HB:Below w.heap.size w aB)=>?_
   exact yR
def laws_eqItem.f(k:Nat)(aa:ByteArray)(ab:ByteArray)(ac:List ByteArray)(ad:ByteArray)(ae:List (S87))(af:ByteArray)(ag:ByteArray)(ah:List ByteArray)(ai:ByteArray)(aj:List (S87)):Option (Bool):=if aa.toList=af.toList then(if ab.toList=ag.toList then((laws_eqStringS.f k ac ah).bind fun ak=>(if ak=true then(if ad.toList=ai.toList then((laws_eqEntryS.f k ae aj).bind fun al=>(if al=true then(some true) else(some false))) else(some false)) else(some false))) else(some false)) else(some false)
theorem laws_eqItem.calls(k:Nat)(an:ByteArray)(ao:ByteArray)(ap:Option Addr)(ar:Nat)(aj:List ByteArray)(au:ByteArray)(av:Option Addr)(aw:Nat)(ak:List (S87))(ax:ByteArray)(ay:ByteArray)(az:Option Addr)(aA:Nat)(al:List ByteArray)(aB:ByteArray)(aC:Option Addr)(aD:Nat)(am:List (S87))(r:Bool)(w:World)(aJ:Kd.C Kd.string w ap aj.length aj)(aK:aj.length≤ar)(aL:Kd.C k87 w av ak.length ak)(aM:ak.length≤aw)(aN:Kd.C Kd.string w az al.length al)(aO:al.length≤aA)(aP:Kd.C k87 w aC am.length am)(aQ:am.length≤aD)(h:laws_eqItem.f k an ao aj au ak ax ay al aB am=some r):
 Calls Tryz.prog 105 #[.agg #[.string an,.string ao,.slice ap aj.length ar,.string au,.slice av ak.length aw],.agg #[.string ax,.string ay,.slice az al.length aA,.string aB,.slice aC am.length aD]] w fun e w'=>e= .returned (.bool r)∧Below w.heap.size w w':=by
 have a9:=Tryz.underlying103
 have ah:=zz aJ
 have aV:=zz aK
 clear aJ aK
 have aa:=zz aL
 have aR:=zz aM
 clear aL aM
 have ai:=zz aN
 have aW:=zz aO
 clear aN aO
 have ab:=zz aP
 have aS:=zz aQ
 clear aP aQ
 have HB:=yB w
 unfold laws_eqItem.f at h
 have H:=h
 clear h
 replace HB:=HB.out
 have HW:=yB w
 go_enter Tryz.func105,Tryz.ntmps105
 refine yCn H ?_ ?_<;>clear H<;>intro c3 H
 ·obtain⟨a3,a4⟩:=zw c3
  obtain rfl:=zi H
  go_wp2_with(first|(refine zN 2 ?_;(try(refine z4 ?_;dsimp only));refine zX 2 103 #[.string an,.string ao,.slice ap aj.length ar,.string au,.slice av ak.length aw] ?_;intro aT hg aX hbox hb;have hst:=zv HB hb;clear hg hb HB;replace HW:=zz (zv HW.out hst);replace ah:=zz (Kd.qB ah.out hst);replace aa:=zz (Kd.qB aa.out hst);replace ai:=zz (Kd.qB ai.out hst);replace ab:=zz (Kd.qB ab.out hst);obtain⟨ac,ad,ae,af,ag⟩:=zx5 hbox;have HB:=Below.refl aX.heap.size aX;clear hbox hst)|(refine zN 3 ?_;(try(refine z4 ?_;dsimp only));refine zX 3 103 #[.string ax,.string ay,.slice az al.length aA,.string aB,.slice aC am.length aD] ?_;intro aU hg aY hbox hb;have hst:=zv HB hb;clear hg hb HB;replace HW:=zz (zv HW.out hst);replace ah:=zz (Kd.qB ah.out hst);replace aa:=zz (Kd.qB aa.out hst);replace ai:=zz (Kd.qB ai.out hst);replace ab:=zz (Kd.qB ab.out hst);replace ac:=qG ac hst;replace ad:=qG ad hst;replace ae:=qG ae hst;replace af:=qG af hst;replace ag:=qG ag hst;obtain⟨aE,aF,aG,aH,aI⟩:=zx5 hbox;have HB:=Below.refl aY.heap.size aY;clear hbox hst))
  go_ret
  exact⟨ze,zv HW.out HB⟩
 obtain⟨a3,a4⟩:=zq c3
 clear c3
 refine yCn H ?_ ?_<;>clear H<;>intro c4 H
 ·obtain⟨a5,a6⟩:=zw c4
  obtain rfl:=zi H
  go_wp2_with(first|(refine zN 2 ?_;(try(refine z4 ?_;dsimp only));refine zX 2 103 #[.string an,.string ao,.slice ap aj.length ar,.string au,.slice av ak.length aw] ?_;intro aT hg aZ hbox hb;have hst:=zv HB hb;clear hg hb HB;replace HW:=zz (zv HW.out hst);replace ah:=zz (Kd.qB ah.out hst);replace aa:=zz (Kd.qB aa.out hst);replace ai:=zz (Kd.qB ai.out hst);replace ab:=zz (Kd.qB ab.out hst);obtain⟨ac,ad,ae,af,ag⟩:=zx5 hbox;have HB:=Below.refl aZ.heap.size aZ;clear hbox hst)|(refine zN 3 ?_;(try(refine z4 ?_;dsimp only));refine zX 3 103 #[.string ax,.string ay,.slice az al.length aA,.string aB,.slice aC am.length aD] ?_;intro aU hg a0 hbox hb;have hst:=zv HB hb;clear hg hb HB;replace HW:=zz (zv HW.out hst);replace ah:=zz (Kd.qB ah.out hst);replace aa:=zz (Kd.qB aa.out hst);replace ai:=zz (Kd.qB ai.out hst);replace ab:=zz (Kd.qB ab.out hst);replace ac:=qG ac hst;replace ad:=qG ad hst;replace ae:=qG ae hst;replace af:=qG af hst;replace ag:=qG ag hst;obtain⟨aE,aF,aG,aH,aI⟩:=zx5 hbox;have HB:=Below.refl a0.heap.size a0;clear hbox hst))
  go_ret
  exact⟨ze,zv HW.out HB⟩
 obtain⟨a5,a6⟩:=zq c4
 clear c4
 replace H:=yf H
 obtain⟨ba,A5,H⟩:=H
 go_wp2_with(first|(refine zN 2 ?_;(try(refine z4 ?_;dsimp only));refine zX 2 103 #[.string an,.string ao,.slice ap aj.length ar,.string au,.slice av ak.length aw] ?_;intro aT hg w9 hbox hb;have hst:=zv HB hb;clear hg hb HB;replace HW:=zz (zv HW.out hst);replace ah:=zz (Kd.qB ah.out hst);replace aa:=zz (Kd.qB aa.out hst);replace ai:=zz (Kd.qB ai.out hst);replace ab:=zz (Kd.qB ab.out hst);obtain⟨ac,ad,ae,af,ag⟩:=zx5 hbox;have HB:=Below.refl w9.heap.size w9;clear hbox hst)|(refine zN 3 ?_;(try(refine z4 ?_;dsimp only));refine zX 3 103 #[.string ax,.string ay,.slice az al.length aA,.string aB,.slice aC am.length aD] ?_;intro aU hg a1 hbox hb;have hst:=zv HB hb;clear hg hb HB;replace HW:=zz (zv HW.out hst);replace ah:=zz (Kd.qB ah.out hst);replace aa:=zz (Kd.qB aa.out hst);replace ai:=zz (Kd.qB ai.out hst);replace ab:=zz (Kd.qB ab.out hst);replace ac:=qG ac hst;replace ad:=qG ad hst;replace ae:=qG ae hst;replace af:=qG af hst;replace ag:=qG ag hst;obtain⟨aE,aF,aG,aH,aI⟩:=zx5 hbox;have HB:=Below.refl a1.heap.size a1;clear hbox hst))
 refine(laws_eqStringS.calls k _ _ _ _ _ _ _ _ (Kd.qB ah.out HB) aV.out (Kd.qB ai.out HB) aW.out A5.out).mono ?_
 rintro e bc ⟨rfl,hb⟩
 replace HB:=zv HB hb
 clear hb
 refine yF H ?_ ?_<;>clear H<;>rintro rfl H
 ·obtain rfl:=zi H
  exact yR
 refine yCn H ?_ ?_<;>clear H<;>intro c7 H
 ·obtain⟨a7,a8⟩:=zw c7
  obtain rfl:=zi H
  exact yR
 obtain⟨a7,a8⟩:=zq c7
 clear c7
 replace H:=yf H
 obtain⟨bb,a2,H⟩:=H
 refine yT H ?_ ?_<;>clear H<;>rintro rfl H
 ·go_wp2_with(fail)
  refine(laws_eqEntryS.calls k _ _ _ _ _ _ _ _ (Kd.qB aa.out HB) aR.out (Kd.qB ab.out HB) aS.out a2.out).mono ?_
  rintro e bd ⟨rfl,hb⟩
  replace HB:=zv HB hb
  clear hb
  obtain rfl:=zi H
  exact yR
 go_wp2_with(fail)
 refine(laws_eqEntryS.calls k _ _ _ _ _ _ _ _ (Kd.qB aa.out HB) aR.out (Kd.qB ab.out HB) aS.out a2.out).mono ?_
 rintro e be ⟨rfl,hb⟩
 replace HB:=zv HB hb
 clear hb
 obtain rfl:=zi H
 exact yR
def laws_eqItemS.l0:Nat→List (S103)→List (S103)→Int→Option (Bool)
 |0,_,_,_=>none
 |k+1,x0,x1,x5=>if x5<(x0.length:Int) then(if 0≤x5 then(if x5<(x1.length:Int) then((laws_eqItem.f k ((qE x0 x5).f0) ((qE x0 x5).f1) ((qE x0 x5).f2) ((qE x0 x5).f3) ((qE x0 x5).f4) ((qE x1 x5).f0) ((qE x1 x5).f1) ((qE x1 x5).f2) ((qE x1 x5).f3) ((qE x1 x5).f4)).bind fun aa=>(if aa=true then(laws_eqItemS.l0 k x0 x1 (wrap64 (x5+1))) else(some false))) else(none)) else(none)) else(some true)
def laws_eqItemS.f(k:Nat)(l0:List (S103))(l1:List (S103)):Option (Bool):=if(l0.length:Int)=(l1.length:Int) then(laws_eqItemS.l0 k l0 l1 0) else(some false)
theorem laws_eqItemS.calls(k:Nat)(A0:Option Addr)(c0:Nat)(l0:List (S103))(A1:Option Addr)(c1:Nat)(l1:List (S103))(r:Bool)(w:World)(aH:Kd.C k103 w A0 l0.length l0)(aI:l0.length≤c0)(aJ:Kd.C k103 w A1 l1.length l1)(aK:l1.length≤c1)(h:laws_eqItemS.f k l0 l1=some r):
 Calls Tryz.prog 55 #[.slice A0 l0.length c0,.slice A1 l1.length c1] w fun e w'=>e= .returned (.bool r)∧Below w.heap.size w w':=by
 have a2:=Tryz.underlying103
 have aQ:=zz aH
 have bd:=zz aI
 clear aH aI
 have aR:=zz aJ
 have be:=zz aK
 clear aJ aK
 have HB:=yB w
 unfold laws_eqItemS.f at h
 have H:=h
 clear h
 replace HB:=HB.out
 have HW:=yB w
 go_enter Tryz.func55,Tryz.ntmps55
 refine yCn H ?_ ?_<;>clear H<;>intro c3 H
 ·obtain⟨aL,aM⟩:=zw c3
  have aN:(l0.length==l1.length)=false:=by first|simpa using c3|(simp at c3⊢;omega)
  obtain rfl:=zi H
  exact yR
 obtain⟨aL,aM⟩:=zq c3
 have aN:(l0.length==l1.length)=true:=by first|simpa using c3|(simp at c3⊢;omega)
 clear c3
 go_wp2_with(fail)
 go_loopg[5] k (fun kq v5 w'=>∃(aa:Int),v5= .int .i64 aa∧qC (laws_eqItemS.l0 kq l0 l1 aa=some r)∧qC (kq≤k)∧qC (Below w.heap.size w w'))
 case atStart=>exact⟨(0),zr,⟨H⟩,⟨Nat.le_refl _⟩,⟨HB⟩⟩
 case round=>
  clear H HB
  obtain⟨aa,rfl,H,aE,HB⟩:=hrel
  replace HB:=HB.out
  replace H:=H.out
  have aG:=yB w
  cases gk with
  |zero=>exact absurd H (by simp[laws_eqItemS.l0])
  |succ aF=>
   simp only[laws_eqItemS.l0] at H
   refine yDn H ?_ ?_<;>clear H<;>intro a5 H
   ·obtain rfl:=zi H
    exact yR
   go_wp2_with(fail)
   try simp only[Act.put,List.setIfInBounds_toArray,List.set_cons_zero,List.set_cons_succ]
   refine qR (C:=fun W_=>Below w.heap.size w W_) zk zk (qK HB) ?_
   replace H:=yAD H
   obtain⟨a6,H⟩:=H
   have a7:=yt (0≤(aa:Int))
   have a8:=yt ((aa:Int)<(l0.length:Int))
   obtain⟨a3,aS,aT,aU,aV,aO,ab,ac,ad,ae,af,ag,ah,ai,aj⟩:=at_T103 aQ.out aa z2 z2
   cases aO
   replace ab:=qH ab
   replace ac:=qH ac
   replace ad:=qH ad
   replace ae:=qH ae
   replace af:=qH af
   have ak:=zz ah
   have al:=zz ag
   clear ah ag
   have am:=zz aj
   have an:=zz ai
   clear aj ai
   replace H:=yAD H
   obtain⟨a9,H⟩:=H
   have ba:=yt (0≤(aa:Int))
   have bb:=yt ((aa:Int)<(l1.length:Int))
   obtain⟨a4,aW,aX,aY,aZ,aP,ao,ap,ar,au,av,aw,ax,ay,az⟩:=at_T103 aR.out aa z2 z2
   cases aP
   replace ao:=qH ao
   replace ap:=qH ap
   replace ar:=qH ar
   replace au:=qH au
   replace av:=qH av
   have aA:=zz ax
   have aB:=zz aw
   clear ax aw
   have aC:=zz az
   have aD:=zz ay
   clear az ay
   replace H:=yf H
   obtain⟨bc,A8,H⟩:=H
   refine yT H ?_ ?_<;>clear H<;>rintro rfl H
   ·repeat(first|go_big_quiet_skip|(go_big_quiet_want;go_big_quiet_op;first|go_big_quiet_on|(with_reducible apply Exists.intro;refine⟨fun W hW=>?_,?_⟩;(first|with_reducible rfl|(go_at_call 105;exact vE (laws_eqItem.calls aF _ _ _ _ _ _ _ _ _ _ _ _ _ _ _ _ _ _ _ _ (Kd.qB ak.out hW) al.out (Kd.qB am.out hW) an.out (Kd.qB aA.out hW) aB.out (Kd.qB aC.out hW) aD.out A8.out) hW)|(go_simp;with_reducible rfl));go_big_quiet_on)))
    clear HB
    refine zW fun a0 (HB:Below w.heap.size w a0)=>?_
    go_wp2_with(fail)
    go_roundg aF
    case measure=>have:=aE.out;omega
    case rel=>exact⟨(wrap64 (aa+1)),zr,⟨H⟩,⟨by have:=aE.out;omega⟩,⟨zv aG.out HB⟩⟩
   obtain rfl:=zi H
   repeat(first|go_big_quiet_skip|(go_big_quiet_want;go_big_quiet_op;first|go_big_quiet_on|(with_reducible apply Exists.intro;refine⟨fun W hW=>?_,?_⟩;(first|with_reducible rfl|(go_at_call 105;exact vE (laws_eqItem.calls aF _ _ _ _ _ _ _ _ _ _ _ _ _ _ _ _ _ _ _ _ (Kd.qB ak.out hW) al.out (Kd.qB am.out hW) an.out (Kd.qB aA.out hW) aB.out (Kd.qB aC.out hW) aD.out A8.out) hW)|(go_simp;with_reducible rfl));go_big_quiet_on)))
   clear HB
   refine zW fun a1 (HB:Below w.heap.size w a1)=>?_
   exact yR
def laws_eqGen.f(aa:Int)(ab:ByteArray)(ac:Int)(ad:ByteArray):Option (Bool):=if aa=ac then(if ab.toList=ad.toList then(some true) else(some false)) else(some false)
theorem laws_eqGen.calls(ac:Int)(ad:ByteArray)(ae:Int)(af:ByteArray)(r:Bool)(w:World)(h:laws_eqGen.f ac ad ae af=some r):
 Calls Tryz.prog 188 #[.agg #[.int .i64 ac,.string ad],.agg #[.int .i64 ae,.string af]] w fun e w'=>e= .returned (.bool r)∧Below w.heap.size w w':=by
 have ap:=Tryz.underlying139
 have HB:=yB w
 unfold laws_eqGen.f at h
 have H:=h
 clear h
 replace HB:=HB.out
 have HW:=yB w
 go_enter Tryz.func188,Tryz.ntmps188
 refine yCn H ?_ ?_<;>clear H<;>intro c3 H
 ·obtain⟨al,am⟩:=zw c3
  obtain rfl:=zi H
  go_wp2_with(first|(refine zN 2 ?_;(try(refine z4 ?_;dsimp only));refine zX 2 139 #[.int .i64 ac,.string ad] ?_;intro ai hg w9 hbox hb;have hst:=zv HB hb;clear hg hb HB;replace HW:=zz (zv HW.out hst);obtain⟨aa,ab⟩:=zx2 hbox;have HB:=Below.refl w9.heap.size w9;clear hbox hst)|(refine zN 3 ?_;(try(refine z4 ?_;dsimp only));refine zX 3 139 #[.int .i64 ae,.string af] ?_;intro aj hg ak hbox hb;have hst:=zv HB hb;clear hg hb HB;replace HW:=zz (zv HW.out hst);replace aa:=qG aa hst;replace ab:=qG ab hst;obtain⟨ag,ah⟩:=zx2 hbox;have HB:=Below.refl ak.heap.size ak;clear hbox hst))
  go_ret
  exact⟨ze,zv HW.out HB⟩
 obtain⟨al,am⟩:=zq c3
 clear c3
 refine yCn H ?_ ?_<;>clear H<;>intro c4 H
 ·obtain⟨an,ao⟩:=zw c4
  obtain rfl:=zi H
  go_wp2_with(first|(refine zN 2 ?_;(try(refine z4 ?_;dsimp only));refine zX 2 139 #[.int .i64 ac,.string ad] ?_;intro ai hg w7 hbox hb;have hst:=zv HB hb;clear hg hb HB;replace HW:=zz (zv HW.out hst);obtain⟨aa,ab⟩:=zx2 hbox;have HB:=Below.refl w7.heap.size w7;clear hbox hst)|(refine zN 3 ?_;(try(refine z4 ?_;dsimp only));refine zX 3 139 #[.int .i64 ae,.string af] ?_;intro aj hg w8 hbox hb;have hst:=zv HB hb;clear hg hb HB;replace HW:=zz (zv HW.out hst);replace aa:=qG aa hst;replace ab:=qG ab hst;obtain⟨ag,ah⟩:=zx2 hbox;have HB:=Below.refl w8.heap.size w8;clear hbox hst))
  go_ret
  exact⟨ze,zv HW.out HB⟩
 obtain⟨an,ao⟩:=zq c4
 clear c4
 obtain rfl:=zi H
 go_wp2_with(first|(refine zN 2 ?_;(try(refine z4 ?_;dsimp only));refine zX 2 139 #[.int .i64 ac,.string ad] ?_;intro ai hg w5 hbox hb;have hst:=zv HB hb;clear hg hb HB;replace HW:=zz (zv HW.out hst);obtain⟨aa,ab⟩:=zx2 hbox;have HB:=Below.refl w5.heap.size w5;clear hbox hst)|(refine zN 3 ?_;(try(refine z4 ?_;dsimp only));refine zX 3 139 #[.int .i64 ae,.string af] ?_;intro aj hg w6 hbox hb;have hst:=zv HB hb;clear hg hb HB;replace HW:=zz (zv HW.out hst);replace aa:=qG aa hst;replace ab:=qG ab hst;obtain⟨ag,ah⟩:=zx2 hbox;have HB:=Below.refl w6.heap.size w6;clear hbox hst))
 go_ret
 exact⟨ze,zv HW.out HB⟩
def laws_eqGenS.l0:Nat→List (S139)→List (S139)→Int→Option (Bool)
 |0,_,_,_=>none
 |k+1,x0,x1,x5=>if x5<(x0.length:Int) then(if 0≤x5 then(if x5<(x1.length:Int) then((laws_eqGen.f ((qP x0 x5).f0) ((qP x0 x5).f1) ((qP x1 x5).f0) ((qP x1 x5).f1)).bind fun aa=>(if aa=true then(laws_eqGenS.l0 k x0 x1 (wrap64 (x5+1))) else(some false))) else(none)) else(none)) else(some true)
def laws_eqGenS.f(k:Nat)(l0:List (S139))(l1:List (S139)):Option (Bool):=if(l0.length:Int)=(l1.length:Int) then(laws_eqGenS.l0 k l0 l1 0) else(some false)
theorem laws_eqGenS.calls(k:Nat)(A0:Option Addr)(c0:Nat)(l0:List (S139))(A1:Option Addr)(c1:Nat)(l1:List (S139))(r:Bool)(w:World)(ah:Kd.C k139 w A0 l0.length l0)(ai:l0.length≤c0)(aj:Kd.C k139 w A1 l1.length l1)(ak:l1.length≤c1)(h:laws_eqGenS.f k l0 l1=some r):
 Calls Tryz.prog 160 #[.slice A0 l0.length c0,.slice A1 l1.length c1] w fun e w'=>e= .returned (.bool r)∧Below w.heap.size w w':=by
 have ay:=Tryz.underlying139
 have ar:=zz ah
 have aJ:=zz ai
 clear ah ai
 have au:=zz aj
 have aK:=zz ak
 clear aj ak
 have HB:=yB w
 unfold laws_eqGenS.f at h
 have H:=h
 clear h
 replace HB:=HB.out
 have HW:=yB w
 go_enter Tryz.func160,Tryz.ntmps160
 refine yCn H ?_ ?_<;>clear H<;>intro c3 H
 ·obtain⟨al,am⟩:=zw c3
  have an:(l0.length==l1.length)=false:=by first|simpa using c3|(simp at c3⊢;omega)
  obtain rfl:=zi H
  exact yR
 obtain⟨al,am⟩:=zq c3
 have an:(l0.length==l1.length)=true:=by first|simpa using c3|(simp at c3⊢;omega)
 clear c3
 go_wp2_with(fail)
 go_loopg[5] k (fun kq v5 w'=>∃(aa:Int),v5= .int .i64 aa∧qC (laws_eqGenS.l0 kq l0 l1 aa=some r)∧qC (kq≤k)∧qC (Below w.heap.size w w'))
 case atStart=>exact⟨(0),zr,⟨H⟩,⟨Nat.le_refl _⟩,⟨HB⟩⟩
 case round=>
  clear H HB
  obtain⟨aa,rfl,H,af,HB⟩:=hrel
  replace HB:=HB.out
  replace H:=H.out
  have ag:=yB w
  cases gk with
  |zero=>exact absurd H (by simp[laws_eqGenS.l0])
  |succ av=>
   simp only[laws_eqGenS.l0] at H
   refine yDn H ?_ ?_<;>clear H<;>intro aB H
   ·obtain rfl:=zi H
    exact yR
   go_wp2_with(fail)
   try simp only[Act.put,List.setIfInBounds_toArray,List.set_cons_zero,List.set_cons_succ]
   refine qR (C:=fun W_=>Below w.heap.size w W_) zk zk (qK HB) ?_
   replace H:=yAD H
   obtain⟨aC,H⟩:=H
   have aD:=yt (0≤(aa:Int))
   have aE:=yt ((aa:Int)<(l0.length:Int))
   obtain⟨az,ao,ab,ac⟩:=at_T139 ar.out aa z2 z2
   cases ao
   replace ab:=qH ab
   replace ac:=qH ac
   replace H:=yAD H
   obtain⟨aF,H⟩:=H
   have aG:=yt (0≤(aa:Int))
   have aH:=yt ((aa:Int)<(l1.length:Int))
   obtain⟨aA,ap,ad,ae⟩:=at_T139 au.out aa z2 z2
   cases ap
   replace ad:=qH ad
   replace ae:=qH ae
   replace H:=yf H
   obtain⟨aI,A8,H⟩:=H
   refine yT H ?_ ?_<;>clear H<;>rintro rfl H
   ·repeat(first|go_big_quiet_skip|(go_big_quiet_want;go_big_quiet_op;first|go_big_quiet_on|(with_reducible apply Exists.intro;refine⟨fun W hW=>?_,?_⟩;(first|with_reducible rfl|(go_at_call 188;exact vE (laws_eqGen.calls _ _ _ _ _ _ A8.out) hW)|(go_simp;with_reducible rfl));go_big_quiet_on)))
    clear HB
    refine zW fun aw (HB:Below w.heap.size w aw)=>?_
    go_wp2_with(fail)
    go_roundg av
    case measure=>have:=af.out;omega
    case rel=>exact⟨(wrap64 (aa+1)),zr,⟨H⟩,⟨by have:=af.out;omega⟩,⟨zv ag.out HB⟩⟩
   obtain rfl:=zi H
   repeat(first|go_big_quiet_skip|(go_big_quiet_want;go_big_quiet_op;first|go_big_quiet_on|(with_reducible apply Exists.intro;refine⟨fun W hW=>?_,?_⟩;(first|with_reducible rfl|(go_at_call 188;exact vE (laws_eqGen.calls _ _ _ _ _ _ A8.out) hW)|(go_simp;with_reducible rfl));go_big_quiet_on)))
   clear HB
   refine zW fun ax (HB:Below w.heap.size w ax)=>?_
   exact yR
def laws_eqProfile.f(k:Nat)(aa:ByteArray)(ab:Int)(ac:List (S139))(ad:ByteArray)(ae:Int)(af:List (S139)):Option (Bool):=if aa.toList=ad.toList then(if ab=ae then((laws_eqGenS.f k ac af).bind fun ag=>(if ag=true then(some true) else(some false))) else(some false)) else(some false)
theorem laws_eqProfile.calls(k:Nat)(ah:ByteArray)(ai:Int)(aj:Option Addr)(ak:Nat)(af:List (S139))(al:ByteArray)(am:Int)(an:Option Addr)(ao:Nat)(ag:List (S139))(r:Bool)(w:World)(av:Kd.C k139 w aj af.length af)(aw:af.length≤ak)(ax:Kd.C k139 w an ag.length ag)(ay:ag.length≤ao)(h:laws_eqProfile.f k ah ai af al am ag=some r):
 Calls Tryz.prog 106 #[.agg #[.string ah,.int .i64 ai,.slice aj af.length ak],.agg #[.string al,.int .i64 am,.slice an ag.length ao]] w fun e w'=>e= .returned (.bool r)∧Below w.heap.size w w':=by
 have aL:=Tryz.underlying137
 have ad:=zz av
 have aB:=zz aw
 clear av aw
 have ae:=zz ax
 have aC:=zz ay
 clear ax ay
 have HB:=yB w
 unfold laws_eqProfile.f at h
 have H:=h
 clear h
 replace HB:=HB.out
 have HW:=yB w
 go_enter Tryz.func106,Tryz.ntmps106
 refine yCn H ?_ ?_<;>clear H<;>intro c3 H
 ·obtain⟨aH,aI⟩:=zw c3
  obtain rfl:=zi H
  go_wp2_with(first|(refine zN 2 ?_;(try(refine z4 ?_;dsimp only));refine zX 2 137 #[.string ah,.int .i64 ai,.slice aj af.length ak] ?_;intro az hg aD hbox hb;have hst:=zv HB hb;clear hg hb HB;replace HW:=zz (zv HW.out hst);replace ad:=zz (Kd.qB ad.out hst);replace ae:=zz (Kd.qB ae.out hst);obtain⟨aa,ab,ac⟩:=zx3 hbox;have HB:=Below.refl aD.heap.size aD;clear hbox hst)|(refine zN 3 ?_;(try(refine z4 ?_;dsimp only));refine zX 3 137 #[.string al,.int .i64 am,.slice an ag.length ao] ?_;intro aA hg aE hbox hb;have hst:=zv HB hb;clear hg hb HB;replace HW:=zz (zv HW.out hst);replace ad:=zz (Kd.qB ad.out hst);replace ae:=zz (Kd.qB ae.out hst);replace aa:=qG aa hst;replace ab:=qG ab hst;replace ac:=qG ac hst;obtain⟨ap,ar,au⟩:=zx3 hbox;have HB:=Below.refl aE.heap.size aE;clear hbox hst))
  go_ret
  exact⟨ze,zv HW.out HB⟩
 obtain⟨aH,aI⟩:=zq c3
 clear c3
 refine yCn H ?_ ?_<;>clear H<;>intro c4 H
 ·obtain⟨aJ,aK⟩:=zw c4
  obtain rfl:=zi H
  go_wp2_with(first|(refine zN 2 ?_;(try(refine z4 ?_;dsimp only));refine zX 2 137 #[.string ah,.int .i64 ai,.slice aj af.length ak] ?_;intro az hg aF hbox hb;have hst:=zv HB hb;clear hg hb HB;replace HW:=zz (zv HW.out hst);replace ad:=zz (Kd.qB ad.out hst);replace ae:=zz (Kd.qB ae.out hst);obtain⟨aa,ab,ac⟩:=zx3 hbox;have HB:=Below.refl aF.heap.size aF;clear hbox hst)|(refine zN 3 ?_;(try(refine z4 ?_;dsimp only));refine zX 3 137 #[.string al,.int .i64 am,.slice an ag.length ao] ?_;intro aA hg aG hbox hb;have hst:=zv HB hb;clear hg hb HB;replace HW:=zz (zv HW.out hst);replace ad:=zz (Kd.qB ad.out hst);replace ae:=zz (Kd.qB ae.out hst);replace aa:=qG aa hst;replace ab:=qG ab hst;replace ac:=qG ac hst;obtain⟨ap,ar,au⟩:=zx3 hbox;have HB:=Below.refl aG.heap.size aG;clear hbox hst))
  go_ret
  exact⟨ze,zv HW.out HB⟩
 obtain⟨aJ,aK⟩:=zq c4
 clear c4
 replace H:=yf H
 obtain⟨aM,A5,H⟩:=H
 go_wp2_with(first|(refine zN 2 ?_;(try(refine z4 ?_;dsimp only));refine zX 2 137 #[.string ah,.int .i64 ai,.slice aj af.length ak] ?_;intro az hg w8 hbox hb;have hst:=zv HB hb;clear hg hb HB;replace HW:=zz (zv HW.out hst);replace ad:=zz (Kd.qB ad.out hst);replace ae:=zz (Kd.qB ae.out hst);obtain⟨aa,ab,ac⟩:=zx3 hbox;have HB:=Below.refl w8.heap.size w8;clear hbox hst)|(refine zN 3 ?_;(try(refine z4 ?_;dsimp only));refine zX 3 137 #[.string al,.int .i64 am,.slice an ag.length ao] ?_;intro aA hg w9 hbox hb;have hst:=zv HB hb;clear hg hb HB;replace HW:=zz (zv HW.out hst);replace ad:=zz (Kd.qB ad.out hst);replace ae:=zz (Kd.qB ae.out hst);replace aa:=qG aa hst;replace ab:=qG ab hst;replace ac:=qG ac hst;obtain⟨ap,ar,au⟩:=zx3 hbox;have HB:=Below.refl w9.heap.size w9;clear hbox hst))
 refine(laws_eqGenS.calls k _ _ _ _ _ _ _ _ (Kd.qB ad.out HB) aB.out (Kd.qB ae.out HB) aC.out A5.out).mono ?_
 rintro e aN ⟨rfl,hb⟩
 replace HB:=zv HB hb
 clear hb
 refine yT H ?_ ?_<;>clear H<;>rintro rfl H
 ·obtain rfl:=zi H
  exact yR
 obtain rfl:=zi H
 exact yR
def laws_eqProfileS.l0:Nat→List (S137)→List (S137)→Int→Option (Bool)
 |0,_,_,_=>none
 |k+1,x0,x1,x5=>if x5<(x0.length:Int) then(if 0≤x5 then(if x5<(x1.length:Int) then((laws_eqProfile.f k ((qD x0 x5).f0) ((qD x0 x5).f1) ((qD x0 x5).f2) ((qD x1 x5).f0) ((qD x1 x5).f1) ((qD x1 x5).f2)).bind fun aa=>(if aa=true then(laws_eqProfileS.l0 k x0 x1 (wrap64 (x5+1))) else(some false))) else(none)) else(none)) else(some true)
def laws_eqProfileS.f(k:Nat)(l0:List (S137))(l1:List (S137)):Option (Bool):=if(l0.length:Int)=(l1.length:Int) then(laws_eqProfileS.l0 k l0 l1 0) else(some false)
theorem laws_eqProfileS.calls(k:Nat)(A0:Option Addr)(c0:Nat)(l0:List (S137))(A1:Option Addr)(c1:Nat)(l1:List (S137))(r:Bool)(w:World)(av:Kd.C k137 w A0 l0.length l0)(aw:l0.length≤c0)(ax:Kd.C k137 w A1 l1.length l1)(ay:l1.length≤c1)(h:laws_eqProfileS.f k l0 l1=some r):
 Calls Tryz.prog 56 #[.slice A0 l0.length c0,.slice A1 l1.length c1] w fun e w'=>e= .returned (.bool r)∧Below w.heap.size w w':=by
 have aM:=Tryz.underlying137
 have aE:=zz av
 have aX:=zz aw
 clear av aw
 have aF:=zz ax
 have aY:=zz ay
 clear ax ay
 have HB:=yB w
 unfold laws_eqProfileS.f at h
 have H:=h
 clear h
 replace HB:=HB.out
 have HW:=yB w
 go_enter Tryz.func56,Tryz.ntmps56
 refine yCn H ?_ ?_<;>clear H<;>intro c3 H
 ·obtain⟨az,aA⟩:=zw c3
  have aB:(l0.length==l1.length)=false:=by first|simpa using c3|(simp at c3⊢;omega)
  obtain rfl:=zi H
  exact yR
 obtain⟨az,aA⟩:=zq c3
 have aB:(l0.length==l1.length)=true:=by first|simpa using c3|(simp at c3⊢;omega)
 clear c3
 go_wp2_with(fail)
 go_loopg[5] k (fun kq v5 w'=>∃(aa:Int),v5= .int .i64 aa∧qC (laws_eqProfileS.l0 kq l0 l1 aa=some r)∧qC (kq≤k)∧qC (Below w.heap.size w w'))
 case atStart=>exact⟨(0),zr,⟨H⟩,⟨Nat.le_refl _⟩,⟨HB⟩⟩
 case round=>
  clear H HB
  obtain⟨aa,rfl,H,ap,HB⟩:=hrel
  replace HB:=HB.out
  replace H:=H.out
  have au:=yB w
  cases gk with
  |zero=>exact absurd H (by simp[laws_eqProfileS.l0])
  |succ ar=>
   simp only[laws_eqProfileS.l0] at H
   refine yDn H ?_ ?_<;>clear H<;>intro aP H
   ·obtain rfl:=zi H
    exact yR
   go_wp2_with(fail)
   try simp only[Act.put,List.setIfInBounds_toArray,List.set_cons_zero,List.set_cons_succ]
   refine qR (C:=fun W_=>Below w.heap.size w W_) zk zk (qK HB) ?_
   replace H:=yAD H
   obtain⟨aQ,H⟩:=H
   have aR:=yt (0≤(aa:Int))
   have aS:=yt ((aa:Int)<(l0.length:Int))
   obtain⟨aN,aG,aH,aC,ab,ac,ad,ae,af⟩:=at_T137 aE.out aa z2 z2
   cases aC
   replace ab:=qH ab
   replace ac:=qH ac
   replace ad:=qH ad
   have ag:=zz af
   have ah:=zz ae
   clear af ae
   replace H:=yAD H
   obtain⟨aT,H⟩:=H
   have aU:=yt (0≤(aa:Int))
   have aV:=yt ((aa:Int)<(l1.length:Int))
   obtain⟨aO,aI,aJ,aD,ai,aj,ak,al,am⟩:=at_T137 aF.out aa z2 z2
   cases aD
   replace ai:=qH ai
   replace aj:=qH aj
   replace ak:=qH ak
   have an:=zz am
   have ao:=zz al
   clear am al
   replace H:=yf H
   obtain⟨aW,A8,H⟩:=H
   refine yT H ?_ ?_<;>clear H<;>rintro rfl H
   ·repeat(first|go_big_quiet_skip|(go_big_quiet_want;go_big_quiet_op;first|go_big_quiet_on|(with_reducible apply Exists.intro;refine⟨fun W hW=>?_,?_⟩;(first|with_reducible rfl|(go_at_call 106;exact vE (laws_eqProfile.calls ar _ _ _ _ _ _ _ _ _ _ _ _ (Kd.qB ag.out hW) ah.out (Kd.qB an.out hW) ao.out A8.out) hW)|(go_simp;with_reducible rfl));go_big_quiet_on)))
    clear HB
    refine zW fun aK (HB:Below w.heap.size w aK)=>?_
    go_wp2_with(fail)
    go_roundg ar
    case measure=>have:=ap.out;omega
    case rel=>exact⟨(wrap64 (aa+1)),zr,⟨H⟩,⟨by have:=ap.out;omega⟩,⟨zv au.out HB⟩⟩
   obtain rfl:=zi H
   repeat(first|go_big_quiet_skip|(go_big_quiet_want;go_big_quiet_op;first|go_big_quiet_on|(with_reducible apply Exists.intro;refine⟨fun W hW=>?_,?_⟩;(first|with_reducible rfl|(go_at_call 106;exact vE (laws_eqProfile.calls ar _ _ _ _ _ _ _ _ _ _ _ _ (Kd.qB ag.out hW) ah.out (Kd.qB an.out hW) ao.out A8.out) hW)|(go_simp;with_reducible rfl));go_big_quiet_on)))
   clear HB
   refine zW fun aL (HB:Below w.heap.size w aL)=>?_
   exact yR
def laws_eqPending.f(k:Nat)(aa:ByteArray)(ab:List (S87))(ac:ByteArray)(ad:ByteArray)(ae:List (S87))(af:ByteArray):Option (Bool):=if aa.toList=ad.toList then((laws_eqEntryS.f k ab ae).bind fun ag=>(if ag=true then(if ac.toList=af.toList then(some true) else(some false)) else(some false))) else(some false)
theorem laws_eqPending.calls(k:Nat)(ah:ByteArray)(ai:Option Addr)(aj:Nat)(af:List (S87))(ak:ByteArray)(al:ByteArray)(am:Option Addr)(an:Nat)(ag:List (S87))(ao:ByteArray)(r:Bool)(w:World)(av:Kd.C k87 w ai af.length af)(aw:af.length≤aj)(ax:Kd.C k87 w am ag.length ag)(ay:ag.length≤an)(h:laws_eqPending.f k ah af ak al ag ao=some r):
 Calls Tryz.prog 107 #[.agg #[.string ah,.slice ai af.length aj,.string ak],.agg #[.string al,.slice am ag.length an,.string ao]] w fun e w'=>e= .returned (.bool r)∧Below w.heap.size w w':=by
 have aJ:=Tryz.underlying133
 have aa:=zz av
 have az:=zz aw
 clear av aw
 have ab:=zz ax
 have aA:=zz ay
 clear ax ay
 have HB:=yB w
 unfold laws_eqPending.f at h
 have H:=h
 clear h
 replace HB:=HB.out
 have HW:=yB w
 go_enter Tryz.func107,Tryz.ntmps107
 refine yCn H ?_ ?_<;>clear H<;>intro c3 H
 ·obtain⟨aF,aG⟩:=zw c3
  obtain rfl:=zi H
  go_wp2_with(first|(refine zN 2 ?_;(try(refine z4 ?_;dsimp only));refine zX 2 133 #[.string ah,.slice ai af.length aj,.string ak] ?_;intro aB hg aD hbox hb;have hst:=zv HB hb;clear hg hb HB;replace HW:=zz (zv HW.out hst);replace aa:=zz (Kd.qB aa.out hst);replace ab:=zz (Kd.qB ab.out hst);obtain⟨ac,ad,ae⟩:=zx3 hbox;have HB:=Below.refl aD.heap.size aD;clear hbox hst)|(refine zN 3 ?_;(try(refine z4 ?_;dsimp only));refine zX 3 133 #[.string al,.slice am ag.length an,.string ao] ?_;intro aC hg aE hbox hb;have hst:=zv HB hb;clear hg hb HB;replace HW:=zz (zv HW.out hst);replace aa:=zz (Kd.qB aa.out hst);replace ab:=zz (Kd.qB ab.out hst);replace ac:=qG ac hst;replace ad:=qG ad hst;replace ae:=qG ae hst;obtain⟨ap,ar,au⟩:=zx3 hbox;have HB:=Below.refl aE.heap.size aE;clear hbox hst))
  go_ret
  exact⟨ze,zv HW.out HB⟩
 obtain⟨aF,aG⟩:=zq c3
 clear c3
 replace H:=yf H
 obtain⟨aK,A4,H⟩:=H
 go_wp2_with(first|(refine zN 2 ?_;(try(refine z4 ?_;dsimp only));refine zX 2 133 #[.string ah,.slice ai af.length aj,.string ak] ?_;intro aB hg w8 hbox hb;have hst:=zv HB hb;clear hg hb HB;replace HW:=zz (zv HW.out hst);replace aa:=zz (Kd.qB aa.out hst);replace ab:=zz (Kd.qB ab.out hst);obtain⟨ac,ad,ae⟩:=zx3 hbox;have HB:=Below.refl w8.heap.size w8;clear hbox hst)|(refine zN 3 ?_;(try(refine z4 ?_;dsimp only));refine zX 3 133 #[.string al,.slice am ag.length an,.string ao] ?_;intro aC hg w9 hbox hb;have hst:=zv HB hb;clear hg hb HB;replace HW:=zz (zv HW.out hst);replace aa:=zz (Kd.qB aa.out hst);replace ab:=zz (Kd.qB ab.out hst);replace ac:=qG ac hst;replace ad:=qG ad hst;replace ae:=qG ae hst;obtain⟨ap,ar,au⟩:=zx3 hbox;have HB:=Below.refl w9.heap.size w9;clear hbox hst))
 refine(laws_eqEntryS.calls k _ _ _ _ _ _ _ _ (Kd.qB aa.out HB) az.out (Kd.qB ab.out HB) aA.out A4.out).mono ?_
 rintro e aL ⟨rfl,hb⟩
 replace HB:=zv HB hb
 clear hb
 refine yF H ?_ ?_<;>clear H<;>rintro rfl H
 ·obtain rfl:=zi H
  exact yR
 refine yCn H ?_ ?_<;>clear H<;>intro c6 H
 ·obtain⟨aH,aI⟩:=zw c6
  obtain rfl:=zi H
  exact yR
 obtain⟨aH,aI⟩:=zq c6
 clear c6
 obtain rfl:=zi H
 exact yR
def laws_eqPendingS.l0:Nat→List (S133)→List (S133)→Int→Option (Bool)
 |0,_,_,_=>none
 |k+1,x0,x1,x5=>if x5<(x0.length:Int) then(if 0≤x5 then(if x5<(x1.length:Int) then((laws_eqPending.f k ((rd_T133 x0 x5).f0) ((rd_T133 x0 x5).f1) ((rd_T133 x0 x5).f2) ((rd_T133 x1 x5).f0) ((rd_T133 x1 x5).f1) ((rd_T133 x1 x5).f2)).bind fun aa=>(if aa=true then(laws_eqPendingS.l0 k x0 x1 (wrap64 (x5+1))) else(some false))) else(none)) else(none)) else(some true)
def laws_eqPendingS.f(k:Nat)(l0:List (S133))(l1:List (S133)):Option (Bool):=if(l0.length:Int)=(l1.length:Int) then(laws_eqPendingS.l0 k l0 l1 0) else(some false)
theorem laws_eqPendingS.calls(k:Nat)(A0:Option Addr)(c0:Nat)(l0:List (S133))(A1:Option Addr)(c1:Nat)(l1:List (S133))(r:Bool)(w:World)(av:Kd.C k133 w A0 l0.length l0)(aw:l0.length≤c0)(ax:Kd.C k133 w A1 l1.length l1)(ay:l1.length≤c1)(h:laws_eqPendingS.f k l0 l1=some r):
 Calls Tryz.prog 57 #[.slice A0 l0.length c0,.slice A1 l1.length c1] w fun e w'=>e= .returned (.bool r)∧Below w.heap.size w w':=by
 have aM:=Tryz.underlying133
 have aE:=zz av
 have aX:=zz aw
 clear av aw
 have aF:=zz ax
 have aY:=zz ay
 clear ax ay
 have HB:=yB w
 unfold laws_eqPendingS.f at h
 have H:=h
 clear h
 replace HB:=HB.out
 have HW:=yB w
 go_enter Tryz.func57,Tryz.ntmps57
 refine yCn H ?_ ?_<;>clear H<;>intro c3 H
 ·obtain⟨az,aA⟩:=zw c3
  have aB:(l0.length==l1.length)=false:=by first|simpa using c3|(simp at c3⊢;omega)
  obtain rfl:=zi H
  exact yR
 obtain⟨az,aA⟩:=zq c3
 have aB:(l0.length==l1.length)=true:=by first|simpa using c3|(simp at c3⊢;omega)
 clear c3
 go_wp2_with(fail)
 go_loopg[5] k (fun kq v5 w'=>∃(aa:Int),v5= .int .i64 aa∧qC (laws_eqPendingS.l0 kq l0 l1 aa=some r)∧qC (kq≤k)∧qC (Below w.heap.size w w'))
 case atStart=>exact⟨(0),zr,⟨H⟩,⟨Nat.le_refl _⟩,⟨HB⟩⟩
 case round=>
  clear H HB
  obtain⟨aa,rfl,H,ap,HB⟩:=hrel
  replace HB:=HB.out
  replace H:=H.out
  have au:=yB w
  cases gk with
  |zero=>exact absurd H (by simp[laws_eqPendingS.l0])
  |succ ar=>
   simp only[laws_eqPendingS.l0] at H
   refine yDn H ?_ ?_<;>clear H<;>intro aP H
   ·obtain rfl:=zi H
    exact yR
   go_wp2_with(fail)
   try simp only[Act.put,List.setIfInBounds_toArray,List.set_cons_zero,List.set_cons_succ]
   refine qR (C:=fun W_=>Below w.heap.size w W_) zk zk (qK HB) ?_
   replace H:=yAD H
   obtain⟨aQ,H⟩:=H
   have aR:=yt (0≤(aa:Int))
   have aS:=yt ((aa:Int)<(l0.length:Int))
   obtain⟨aN,aG,aH,aC,ab,ac,ad,ae,af⟩:=at_T133 aE.out aa z2 z2
   cases aC
   replace ab:=qH ab
   replace ac:=qH ac
   replace ad:=qH ad
   have ag:=zz af
   have ah:=zz ae
   clear af ae
   replace H:=yAD H
   obtain⟨aT,H⟩:=H
   have aU:=yt (0≤(aa:Int))
   have aV:=yt ((aa:Int)<(l1.length:Int))
   obtain⟨aO,aI,aJ,aD,ai,aj,ak,al,am⟩:=at_T133 aF.out aa z2 z2
   cases aD
   replace ai:=qH ai
   replace aj:=qH aj
   replace ak:=qH ak
   have an:=zz am
   have ao:=zz al
   clear am al
   replace H:=yf H
   obtain⟨aW,A8,H⟩:=H
   refine yT H ?_ ?_<;>clear H<;>rintro rfl H
   ·repeat(first|go_big_quiet_skip|(go_big_quiet_want;go_big_quiet_op;first|go_big_quiet_on|(with_reducible apply Exists.intro;refine⟨fun W hW=>?_,?_⟩;(first|with_reducible rfl|(go_at_call 107;exact vE (laws_eqPending.calls ar _ _ _ _ _ _ _ _ _ _ _ _ (Kd.qB ag.out hW) ah.out (Kd.qB an.out hW) ao.out A8.out) hW)|(go_simp;with_reducible rfl));go_big_quiet_on)))
    clear HB
    refine zW fun aK (HB:Below w.heap.size w aK)=>?_
    go_wp2_with(fail)
    go_roundg ar
    case measure=>have:=ap.out;omega
    case rel=>exact⟨(wrap64 (aa+1)),zr,⟨H⟩,⟨by have:=ap.out;omega⟩,⟨zv au.out HB⟩⟩
   obtain rfl:=zi H
   repeat(first|go_big_quiet_skip|(go_big_quiet_want;go_big_quiet_op;first|go_big_quiet_on|(with_reducible apply Exists.intro;refine⟨fun W hW=>?_,?_⟩;(first|with_reducible rfl|(go_at_call 107;exact vE (laws_eqPending.calls ar _ _ _ _ _ _ _ _ _ _ _ _ (Kd.qB ag.out hW) ah.out (Kd.qB an.out hW) ao.out A8.out) hW)|(go_simp;with_reducible rfl));go_big_quiet_on)))
   clear HB
   refine zW fun aL (HB:Below w.heap.size w aL)=>?_
   exact yR
def laws_eqNext.f(aa:ByteArray)(ab:ByteArray)(ac:ByteArray)(ad:ByteArray):Option (Bool):=if aa.toList=ac.toList then(if ab.toList=ad.toList then(some true) else(some false)) else(some false)
theorem laws_eqNext.calls(ac:ByteArray)(ad:ByteArray)(ae:ByteArray)(af:ByteArray)(r:Bool)(w:World)(h:laws_eqNext.f ac ad ae af=some r):
 Calls Tryz.prog 108 #[.agg #[.string ac,.string ad],.agg #[.string ae,.string af]] w fun e w'=>e= .returned (.bool r)∧Below w.heap.size w w':=by
 have ap:=Tryz.underlying134
 have HB:=yB w
 unfold laws_eqNext.f at h
 have H:=h
 clear h
 replace HB:=HB.out
 have HW:=yB w
 go_enter Tryz.func108,Tryz.ntmps108
 refine yCn H ?_ ?_<;>clear H<;>intro c3 H
 ·obtain⟨al,am⟩:=zw c3
  obtain rfl:=zi H
  go_wp2_with(first|(refine zN 2 ?_;(try(refine z4 ?_;dsimp only));refine zX 2 134 #[.string ac,.string ad] ?_;intro ai hg w9 hbox hb;have hst:=zv HB hb;clear hg hb HB;replace HW:=zz (zv HW.out hst);obtain⟨aa,ab⟩:=zx2 hbox;have HB:=Below.refl w9.heap.size w9;clear hbox hst)|(refine zN 3 ?_;(try(refine z4 ?_;dsimp only));refine zX 3 134 #[.string ae,.string af] ?_;intro aj hg ak hbox hb;have hst:=zv HB hb;clear hg hb HB;replace HW:=zz (zv HW.out hst);replace aa:=qG aa hst;replace ab:=qG ab hst;obtain⟨ag,ah⟩:=zx2 hbox;have HB:=Below.refl ak.heap.size ak;clear hbox hst))
  go_ret
  exact⟨ze,zv HW.out HB⟩
 obtain⟨al,am⟩:=zq c3
 clear c3
 refine yCn H ?_ ?_<;>clear H<;>intro c4 H
 ·obtain⟨an,ao⟩:=zw c4
  obtain rfl:=zi H
  go_wp2_with(first|(refine zN 2 ?_;(try(refine z4 ?_;dsimp only));refine zX 2 134 #[.string ac,.string ad] ?_;intro ai hg w7 hbox hb;have hst:=zv HB hb;clear hg hb HB;replace HW:=zz (zv HW.out hst);obtain⟨aa,ab⟩:=zx2 hbox;have HB:=Below.refl w7.heap.size w7;clear hbox hst)|(refine zN 3 ?_;(try(refine z4 ?_;dsimp only));refine zX 3 134 #[.string ae,.string af] ?_;intro aj hg w8 hbox hb;have hst:=zv HB hb;clear hg hb HB;replace HW:=zz (zv HW.out hst);replace aa:=qG aa hst;replace ab:=qG ab hst;obtain⟨ag,ah⟩:=zx2 hbox;have HB:=Below.refl w8.heap.size w8;clear hbox hst))
  go_ret
  exact⟨ze,zv HW.out HB⟩
 obtain⟨an,ao⟩:=zq c4
 clear c4
 obtain rfl:=zi H
 go_wp2_with(first|(refine zN 2 ?_;(try(refine z4 ?_;dsimp only));refine zX 2 134 #[.string ac,.string ad] ?_;intro ai hg w5 hbox hb;have hst:=zv HB hb;clear hg hb HB;replace HW:=zz (zv HW.out hst);obtain⟨aa,ab⟩:=zx2 hbox;have HB:=Below.refl w5.heap.size w5;clear hbox hst)|(refine zN 3 ?_;(try(refine z4 ?_;dsimp only));refine zX 3 134 #[.string ae,.string af] ?_;intro aj hg w6 hbox hb;have hst:=zv HB hb;clear hg hb HB;replace HW:=zz (zv HW.out hst);replace aa:=qG aa hst;replace ab:=qG ab hst;obtain⟨ag,ah⟩:=zx2 hbox;have HB:=Below.refl w6.heap.size w6;clear hbox hst))
 go_ret
 exact⟨ze,zv HW.out HB⟩
def laws_eqNextS.l0:Nat→List (S134)→List (S134)→Int→Option (Bool)
 |0,_,_,_=>none
 |k+1,x0,x1,x5=>if x5<(x0.length:Int) then(if 0≤x5 then(if x5<(x1.length:Int) then((laws_eqNext.f ((rd_T134 x0 x5).f0) ((rd_T134 x0 x5).f1) ((rd_T134 x1 x5).f0) ((rd_T134 x1 x5).f1)).bind fun aa=>(if aa=true then(laws_eqNextS.l0 k x0 x1 (wrap64 (x5+1))) else(some false))) else(none)) else(none)) else(some true)
def laws_eqNextS.f(k:Nat)(l0:List (S134))(l1:List (S134)):Option (Bool):=if(l0.length:Int)=(l1.length:Int) then(laws_eqNextS.l0 k l0 l1 0) else(some false)
theorem laws_eqNextS.calls(k:Nat)(A0:Option Addr)(c0:Nat)(l0:List (S134))(A1:Option Addr)(c1:Nat)(l1:List (S134))(r:Bool)(w:World)(ah:Kd.C k134 w A0 l0.length l0)(ai:l0.length≤c0)(aj:Kd.C k134 w A1 l1.length l1)(ak:l1.length≤c1)(h:laws_eqNextS.f k l0 l1=some r):
 Calls Tryz.prog 58 #[.slice A0 l0.length c0,.slice A1 l1.length c1] w fun e w'=>e= .returned (.bool r)∧Below w.heap.size w w':=by
 have ay:=Tryz.underlying134
 have ar:=zz ah
 have aJ:=zz ai
 clear ah ai
 have au:=zz aj
 have aK:=zz ak
 clear aj ak
 have HB:=yB w
 unfold laws_eqNextS.f at h
 have H:=h
 clear h
 replace HB:=HB.out
 have HW:=yB w
 go_enter Tryz.func58,Tryz.ntmps58
 refine yCn H ?_ ?_<;>clear H<;>intro c3 H
 ·obtain⟨al,am⟩:=zw c3
  have an:(l0.length==l1.length)=false:=by first|simpa using c3|(simp at c3⊢;omega)
  obtain rfl:=zi H
  exact yR
 obtain⟨al,am⟩:=zq c3
 have an:(l0.length==l1.length)=true:=by first|simpa using c3|(simp at c3⊢;omega)
 clear c3
 go_wp2_with(fail)
 go_loopg[5] k (fun kq v5 w'=>∃(aa:Int),v5= .int .i64 aa∧qC (laws_eqNextS.l0 kq l0 l1 aa=some r)∧qC (kq≤k)∧qC (Below w.heap.size w w'))
 case atStart=>exact⟨(0),zr,⟨H⟩,⟨Nat.le_refl _⟩,⟨HB⟩⟩
 case round=>
  clear H HB
  obtain⟨aa,rfl,H,af,HB⟩:=hrel
  replace HB:=HB.out
  replace H:=H.out
  have ag:=yB w
  cases gk with
  |zero=>exact absurd H (by simp[laws_eqNextS.l0])
  |succ av=>
   simp only[laws_eqNextS.l0] at H
   refine yDn H ?_ ?_<;>clear H<;>intro aB H
   ·obtain rfl:=zi H
    exact yR
   go_wp2_with(fail)
   try simp only[Act.put,List.setIfInBounds_toArray,List.set_cons_zero,List.set_cons_succ]
   refine qR (C:=fun W_=>Below w.heap.size w W_) zk zk (qK HB) ?_
   replace H:=yAD H
   obtain⟨aC,H⟩:=H
   have aD:=yt (0≤(aa:Int))
   have aE:=yt ((aa:Int)<(l0.length:Int))
   obtain⟨az,ao,ab,ac⟩:=at_T134 ar.out aa z2 z2
   cases ao
   replace ab:=qH ab
   replace ac:=qH ac
   replace H:=yAD H
   obtain⟨aF,H⟩:=H
   have aG:=yt (0≤(aa:Int))
   have aH:=yt ((aa:Int)<(l1.length:Int))
   obtain⟨aA,ap,ad,ae⟩:=at_T134 au.out aa z2 z2
   cases ap
   replace ad:=qH ad
   replace ae:=qH ae
   replace H:=yf H
   obtain⟨aI,A8,H⟩:=H
   refine yT H ?_ ?_<;>clear H<;>rintro rfl H
   ·repeat(first|go_big_quiet_skip|(go_big_quiet_want;go_big_quiet_op;first|go_big_quiet_on|(with_reducible apply Exists.intro;refine⟨fun W hW=>?_,?_⟩;(first|with_reducible rfl|(go_at_call 108;exact vE (laws_eqNext.calls _ _ _ _ _ _ A8.out) hW)|(go_simp;with_reducible rfl));go_big_quiet_on)))
    clear HB
    refine zW fun aw (HB:Below w.heap.size w aw)=>?_
    go_wp2_with(fail)
    go_roundg av
    case measure=>have:=af.out;omega
    case rel=>exact⟨(wrap64 (aa+1)),zr,⟨H⟩,⟨by have:=af.out;omega⟩,⟨zv ag.out HB⟩⟩
   obtain rfl:=zi H
   repeat(first|go_big_quiet_skip|(go_big_quiet_want;go_big_quiet_op;first|go_big_quiet_on|(with_reducible apply Exists.intro;refine⟨fun W hW=>?_,?_⟩;(first|with_reducible rfl|(go_at_call 108;exact vE (laws_eqNext.calls _ _ _ _ _ _ A8.out) hW)|(go_simp;with_reducible rfl));go_big_quiet_on)))
   clear HB
   refine zW fun ax (HB:Below w.heap.size w ax)=>?_
   exact yR
def laws_eqWorld.f(k:Nat)(aa:List (S103))(ab:List (S137))(ac:List (S133))(ad:List (S134))(ae:List (S103))(af:List (S137))(ag:List (S133))(ah:List (S134)):Option (Bool):=(laws_eqItemS.f k aa ae).bind fun ai=>(if ai=true then((laws_eqProfileS.f k ab af).bind fun aj=>(if aj=true then((laws_eqPendingS.f k ac ag).bind fun ak=>(if ak=true then((laws_eqNextS.f k ad ah).bind fun al=>(if al=true then(some true) else(some false))) else(some false))) else(some false))) else(some false))
theorem laws_eqWorld.calls(k:Nat)(ax:Option Addr)(ay:Nat)(ai:List (S103))(az:Option Addr)(aA:Nat)(aj:List (S137))(aB:Option Addr)(aC:Nat)(ak:List (S133))(aD:Option Addr)(aE:Nat)(al:List (S134))(aF:Option Addr)(aG:Nat)(am:List (S103))(aH:Option Addr)(aI:Nat)(an:List (S137))(aJ:Option Addr)(aK:Nat)(ao:List (S133))(aL:Option Addr)(aM:Nat)(ap:List (S134))(r:Bool)(w:World)(aN:Kd.C k103 w ax ai.length ai)(aO:ai.length≤ay)(aP:Kd.C k137 w az aj.length aj)(aQ:aj.length≤aA)(aR:Kd.C k133 w aB ak.length ak)(aS:ak.length≤aC)(aT:Kd.C k134 w aD al.length al)(aU:al.length≤aE)(aV:Kd.C k103 w aF am.length am)(aW:am.length≤aG)(aX:Kd.C k137 w aH an.length an)(aY:an.length≤aI)(aZ:Kd.C k133 w aJ ao.length ao)(a0:ao.length≤aK)(a1:Kd.C k134 w aL ap.length ap)(a2:ap.length≤aM)(h:laws_eqWorld.f k ai aj ak al am an ao ap=some r):
 Calls Tryz.prog 15 #[.agg #[.slice ax ai.length ay,.slice az aj.length aA,.slice aB ak.length aC,.slice aD al.length aE],.agg #[.slice aF am.length aG,.slice aH an.length aI,.slice aJ ao.length aK,.slice aL ap.length aM]] w fun e w'=>e= .returned (.bool r)∧Below w.heap.size w w':=by
 have bj:=Tryz.underlying38
 have ag:=zz aN
 have a9:=zz aO
 clear aN aO
 have aa:=zz aP
 have a3:=zz aQ
 clear aP aQ
 have ab:=zz aR
 have a4:=zz aS
 clear aR aS
 have ac:=zz aT
 have a5:=zz aU
 clear aT aU
 have ah:=zz aV
 have ba:=zz aW
 clear aV aW
 have ad:=zz aX
 have a6:=zz aY
 clear aX aY
 have ae:=zz aZ
 have a7:=zz a0
 clear aZ a0
 have af:=zz a1
 have a8:=zz a2
 clear a1 a2
 have HB:=yB w
 unfold laws_eqWorld.f at h
 have H:=h
 clear h
 replace HB:=HB.out
 have HW:=yB w
 go_enter Tryz.func15,Tryz.ntmps15
 replace H:=yf H
 obtain⟨bk,A3,H⟩:=H
 go_wp2_with(first|(refine zN 2 ?_;(try(refine z4 ?_;dsimp only));refine zX 2 38 #[.slice ax ai.length ay,.slice az aj.length aA,.slice aB ak.length aC,.slice aD al.length aE] ?_;intro bh hg w6 hbox hb;have hst:=zv HB hb;clear hg hb HB;replace HW:=zz (zv HW.out hst);replace ag:=zz (Kd.qB ag.out hst);replace aa:=zz (Kd.qB aa.out hst);replace ab:=zz (Kd.qB ab.out hst);replace ac:=zz (Kd.qB ac.out hst);replace ah:=zz (Kd.qB ah.out hst);replace ad:=zz (Kd.qB ad.out hst);replace ae:=zz (Kd.qB ae.out hst);replace af:=zz (Kd.qB af.out hst);obtain⟨ar,au,av,aw⟩:=zx4 hbox;have HB:=Below.refl w6.heap.size w6;clear hbox hst)|(refine zN 3 ?_;(try(refine z4 ?_;dsimp only));refine zX 3 38 #[.slice aF am.length aG,.slice aH an.length aI,.slice aJ ao.length aK,.slice aL ap.length aM] ?_;intro bi hg w7 hbox hb;have hst:=zv HB hb;clear hg hb HB;replace HW:=zz (zv HW.out hst);replace ag:=zz (Kd.qB ag.out hst);replace aa:=zz (Kd.qB aa.out hst);replace ab:=zz (Kd.qB ab.out hst);replace ac:=zz (Kd.qB ac.out hst);replace ah:=zz (Kd.qB ah.out hst);replace ad:=zz (Kd.qB ad.out hst);replace ae:=zz (Kd.qB ae.out hst);replace af:=zz (Kd.qB af.out hst);replace ar:=qG ar hst;replace au:=qG au hst;replace av:=qG av hst;replace aw:=qG aw hst;obtain⟨bd,be,bf,bg⟩:=zx4 hbox;have HB:=Below.refl w7.heap.size w7;clear hbox hst))
 refine(laws_eqItemS.calls k _ _ _ _ _ _ _ _ (Kd.qB ag.out HB) a9.out (Kd.qB ah.out HB) ba.out A3.out).mono ?_
 rintro e w8 ⟨rfl,hb⟩
 replace HB:=zv HB hb
 clear hb
 refine yF H ?_ ?_<;>clear H<;>rintro rfl H
 ·obtain rfl:=zi H
  exact yR
 replace H:=yf H
 obtain⟨bl,A9,H⟩:=H
 refine yF H ?_ ?_<;>clear H<;>rintro rfl H
 ·go_wp2_with(fail)
  refine(laws_eqProfileS.calls k _ _ _ _ _ _ _ _ (Kd.qB aa.out HB) a3.out (Kd.qB ad.out HB) a6.out A9.out).mono ?_
  rintro e bq ⟨rfl,hb⟩
  replace HB:=zv HB hb
  clear hb
  obtain rfl:=zi H
  exact yR
 go_wp2_with(fail)
 refine(laws_eqProfileS.calls k _ _ _ _ _ _ _ _ (Kd.qB aa.out HB) a3.out (Kd.qB ad.out HB) a6.out A9.out).mono ?_
 rintro e br ⟨rfl,hb⟩
 replace HB:=zv HB hb
 clear hb
 replace H:=yf H
 obtain⟨bn,bb,H⟩:=H
 refine yF H ?_ ?_<;>clear H<;>rintro rfl H
 ·go_wp2_with(fail)
  refine(laws_eqPendingS.calls k _ _ _ _ _ _ _ _ (Kd.qB ab.out HB) a4.out (Kd.qB ae.out HB) a7.out bb.out).mono ?_
  rintro e bs ⟨rfl,hb⟩
  replace HB:=zv HB hb
  clear hb
  obtain rfl:=zi H
  exact yR
 go_wp2_with(fail)
 refine(laws_eqPendingS.calls k _ _ _ _ _ _ _ _ (Kd.qB ab.out HB) a4.out (Kd.qB ae.out HB) a7.out bb.out).mono ?_
 rintro e bu ⟨rfl,hb⟩
 replace HB:=zv HB hb
 clear hb
 replace H:=yf H
 obtain⟨bo,bc,H⟩:=H
 refine yT H ?_ ?_<;>clear H<;>rintro rfl H
 ·go_wp2_with(fail)
  refine(laws_eqNextS.calls k _ _ _ _ _ _ _ _ (Kd.qB ac.out HB) a5.out (Kd.qB af.out HB) a8.out bc.out).mono ?_
  rintro e bv ⟨rfl,hb⟩
  replace HB:=zv HB hb
  clear hb
  obtain rfl:=zi H
  exact yR
 go_wp2_with(fail)
 refine(laws_eqNextS.calls k _ _ _ _ _ _ _ _ (Kd.qB ac.out HB) a5.out (Kd.qB af.out HB) a8.out bc.out).mono ?_
 rintro e bw ⟨rfl,hb⟩
 replace HB:=zv HB hb
 clear hb
 obtain rfl:=zi H
 exact yR
end Go.Proofs.YtmdoobnlehkmpaaGreatDoor.Q
