import Derived.Test.YtcekmnclmldmmaaGreatDoorR22
set_option linter.unusedVariables false
set_option linter.unusedSimpArgs false
namespace Go.Proofs.YtcekmnclmldmmaaGreatDoor.Q
open Go.RowKit W1 W2 W3
attribute [local go_sem] max2_int min2_int max_two min_two max_three min_three max_four min_four
attribute [local go_sem high] bl_leq bl_gtr bl_geq
set_option maxHeartbeats 8000000
set_option maxRecDepth 100000
def laws_markGenS.l0:Nat→List (S70)→Int→Int→Option (Int×(List (S70)))
 |0,_,_,_=>none
 |k+1,x0,x1,x5=>if x5<(x0.length:Int) then(if 0≤x5 then((some (x0.set (x5:Int).toNat (⟨x1,(qQ x0 x5).f1⟩:S70):List (S70))).bind fun aa=>((laws_markText.f k (wrap64 (x1+1))).bind fun ab=>(laws_markGenS.l0 k (aa.set (x5:Int).toNat (⟨(qQ aa x5).f0,ab⟩:S70)) (wrap64 ((wrap64 (x1+1))+1)) (wrap64 (x5+1))))) else(none)) else(some (x1,x0))
def laws_markGenS.f(k:Nat)(l0:List (S70))(a1:Int):Option (Int×(List (S70))):=laws_markGenS.l0 k l0 a1 0
theorem laws_markGenS.calls(k:Nat)(af:Nat→Prop)(ah:Value)(l0:List (S70))(a1:Int)(r1:Int)(r2:List (S70))(w0 w:World)(hB:Below w0.heap.size w0 w)(a2:Kd.R k70 70 w w0.heap.size af ah l0)(h:laws_markGenS.f k l0 a1=some (r1,r2)):
 Calls Tryz.prog 102 #[ah,.int .i64 a1] w fun e w'=>e= .returned (.int .i64 r1)∧Kd.R k70 70 w' w0.heap.size (fun k_=>(af k_∨w.heap.size≤k_)) ah r2∧Below w0.heap.size w0 w'∧Kept w w' (fun k_=>af k_):=by
 have a3:=zz (show Kd.R k70 70 w w0.heap.size (fun k_=>(af k_∨w.heap.size≤k_)) ah l0 from Kd.qT a2 (fun k_ hk=>(.inl hk)))
 have HK:=zz (Kept.refl w (fun k_=>af k_))
 have bn:=zz hB.size
 have HB:=zz hB
 clear hB
 unfold laws_markGenS.f at h
 have H:=h
 clear h
 have H':=zz H
 clear H
 go_enter Tryz.func102,Tryz.ntmps102
 go_wp2
 go_loopg[1,5] k (fun kq v1 v5 w'=>∃(ab:List (S70)) (ad:Int) (aa:Int),v1= .int .i64 ad∧v5= .int .i64 aa∧qA (laws_markGenS.l0 kq ab ad aa=some (r1,r2))∧qA (kq≤k)∧qA (Kd.R k70 70 w' w0.heap.size (fun k_=>(af k_∨w.heap.size≤k_)) ah ab)∧qA (Kept w w' (fun k_=>af k_))∧qA (Below w0.heap.size w0 w'))
 case atStart=>exact⟨(l0),(a1),(0),zr,zr,H',⟨Nat.le_refl _⟩,⟨zR a3.out⟩,⟨by repeat(first|(with_reducible first|exact HK.out|apply Kept.alloc|apply Kept.drewN|apply Kept.drew)|exact HK.out)⟩,⟨zb⟩⟩
 case round=>
  clear H'
  try clear c1
  try clear p2
  obtain⟨ab,ad,aa,rfl,rfl,HA,aO,ac,HK,HB⟩:=hrel
  cases gk with
  |zero=>exact absurd HA.out (by simp[laws_markGenS.l0])
  |succ k1=>
   have H:=HA.out
   clear HA
   simp only[laws_markGenS.l0] at H
   refine yDn H ?_ ?_<;>clear H<;>intro bh H
   ·simp only[Option.some.injEq,Prod.mk.injEq] at H
    obtain⟨rfl,rfl⟩:=H
    obtain⟨bi,bj,aY⟩:=Kd.qV ac.out
    subst aY
    go_wp2
    go_ret
    exact⟨ze,zR ac.out,zb,by repeat(first|(with_reducible first|exact HK.out|apply Kept.alloc|apply Kept.drewN|apply Kept.drew)|exact HK.out)⟩
   replace H:=yAD H
   obtain⟨bk,H⟩:=H
   obtain⟨ag,aj⟩:∃y_:List (S70),y_=(ab.set (aa:Int).toNat (⟨ad,(qQ ab aa).f1⟩:S70)):=⟨_,rfl⟩
   replace H:((laws_markText.f k1 (wrap64 (ad+1))).bind fun ai=>(laws_markGenS.l0 k1 (ag.set (aa:Int).toNat (⟨(qQ ag aa).f0,ai⟩:S70)) (wrap64 ((wrap64 (ad+1))+1)) (wrap64 (aa+1))))=some (r1,r2):=by first|(rw[aj];with_reducible exact H)|(have al:=(Option.bind_some _ _).symm.trans H;rw[aj];with_reducible exact al)|(have al:=(Option.bind_some _ _).symm.trans H;with_reducible exact al)|with_reducible exact H|(rw[aj];exact H)|exact H
   have aK:=zz aj
   clear aj
   replace H:=zf H
   obtain⟨ai,aP,H⟩:=H
   try dsimp only at H
   have A6:=zz aP
   clear aP
   obtain⟨ao,ak⟩:∃y_:List (S70),y_=(ag.set (aa:Int).toNat (⟨(qQ ag aa).f0,ai⟩:S70)):=⟨_,rfl⟩
   replace H:(laws_markGenS.l0 k1 ao (wrap64 ((wrap64 (ad+1))+1)) (wrap64 (aa+1)))=some (r1,r2):=by first|(rw[ak];with_reducible exact H)|(have al:=(Option.bind_some _ _).symm.trans H;rw[ak];with_reducible exact al)|(have al:=(Option.bind_some _ _).symm.trans H;with_reducible exact al)|with_reducible exact H|(rw[ak];exact H)|exact H
   have aL:=zz ak
   clear ak
   have H':=zz H
   clear H
   obtain⟨bo,ay,a4⟩:=Kd.qV ac.out
   subst a4
   have p5:0≤(aa:Int):=z2
   have q5:(aa:Int)<((ab.length:Int):Int):=z2
   obtain⟨ae,bq,aQ,aR,a5,br,aS⟩:=Kd.R_form ac.out (by omega)
   (first|cases aQ|(injection aQ with ea_ en_ ec_;(first|subst ea_|(injection ea_ with ea_;subst ea_));subst ec_;clear en_))
   have aT:=zz aR
   have bs:=zz aS
   clear aR a5 aS
   have a8:=zz (show(af ae∨w.heap.size≤ae) from(ac.out.1 _ rfl))
   obtain⟨bu,aZ,aU,ap,ar⟩:=Kd.R_elem ac.out z70 (aa:Int) p5 q5
   obtain rfl:=k70_openM aU
   have a9:wr.cell? ⟨ae,(aa:Int).toNat*2,none⟩=some (.int .i64 ((qQ ab aa).f0)):=ap 0 _ rfl
   have ba:wr.cell? ⟨ae,(aa:Int).toNat*2+1,none⟩=some (.string ((qQ ab aa).f1)):=ap 1 _ rfl
   have bb:wr.frozen? ⟨ae,(aa:Int).toNat*2,none⟩=false:=ar 0
   have bc:wr.frozen? ⟨ae,(aa:Int).toNat*2+1,none⟩=false:=ar 1
   clear aZ ap ar aU
   replace p5:=eq_true p5
   replace q5:=eq_true q5
   have aV:=zz (show Kd.R k70 70 wr w0.heap.size (fun k_=>(af k_∨w.heap.size≤k_)) (.slice (some ⟨ae,0,none⟩) ab.length ay) ab from(zR ac.out))
   obtain⟨bv,aB,aW,au,aC⟩:=Kd.R_elem aV.out z70 (aa:Int) (z2) (by have h_:(aa:Int)<((ab.length:Int):Int):=z2;first|exact h_|(have e_:=(Kd.qS ac.out).1;omega)|simpa using h_)
   obtain rfl:=k70_openM aW
   have aD:=Kd.R_seg aV.out (aa:Int) (z2) (by have h_:(aa:Int)<((ab.length:Int):Int):=z2;first|exact h_|(have e_:=(Kd.qS ac.out).1;omega)|simpa using h_) (seg:=[.int .i64 ad]) (j:=0) aB au (show 1≤2 from by decide) (x':=(⟨ad,(qQ ab aa).f1⟩:S70)) (k70_mkM _ _ _ (⟨ad,(qQ ab aa).f1⟩:S70)) (fun _ hk=>hk)
   have aM:=au 0 _ rfl
   (try simp only[show(k70).sz=2 from rfl,Nat.mul_one,Nat.add_zero] at aM)
   have aN:=aC 0
   (try simp only[show(k70).sz=2 from rfl,Nat.mul_one,Nat.add_zero] at aN)
   clear aB au aC aW
   go_wp2_with(first|((with_reducible refine qP (t:=2) (p:=16) rfl ?_);refine qL (t:=2) (p:=16) (v:=?a6) (w1:=(wr.setCell ⟨ae,(aa:Int).toNat*2,none⟩ (.int .i64 ad))) ?hg ?ho ?hn ?hr ?_;(case ho=>rfl);(case hg=>rfl);(case hn=>rfl);(case hr=>first|(go_simp;done)|(go_simp;rfl));intro aE hw;have hg:wr.grownBy aE (some ae):=(by rw[hw];exact aD.2);have hp_:Kd.R k70 70 aE w0.heap.size (fun k_=>(af k_∨w.heap.size≤k_)) (.slice (some ⟨ae,0,none⟩) ab.length ay) ag:=(by rw[hw,aK.out];exact aD.1);clear aD;replace HB:=zz ((by rw[hw];exact qH (HB.out) aT.out:Below w0.heap.size w0 aE));replace HK:=zz (Kept.of_grown (S:=(fun k_=>af k_)) hg (by repeat(first|(with_reducible first|exact HK.out|apply Kept.alloc|apply Kept.drewN|apply Kept.drew)|exact HK.out)) (fun k_ e_=>(ac.out.1 k_ e_)));replace ac:=zz (hp_);clear hg hw hp_)|(refine zL 63 22 Tryz.func63 #[.int .i64 (wrap64 (ad+1))] ?_;(with_reducible refine(laws_markText.calls k1 (wrap64 (ad+1)) ai _ A6.out).mono ?_);rintro e am ⟨rfl,hb⟩;refine⟨_,rfl,?_⟩;replace ac:=zz (Kd.R_below (zR ac.out) hb);replace HK:=zz (Kept.below (S:=(fun k_=>af k_)) (by repeat(first|(with_reducible first|exact HK.out|apply Kept.alloc|apply Kept.drewN|apply Kept.drew)|exact HK.out)) hb);replace HB:=zz (zv zb hb);(try clear hb);(try clear bw);(try clear hk);(try clear hi);have p7:0≤(aa:Int):=z2;have q7:(aa:Int)<((ab.length:Int):Int):=z2;obtain⟨bz,a0,aX,av,aw⟩:=Kd.R_elem ac.out z70 (aa:Int) p7 q7;obtain rfl:=k70_openM aX;have bd:am.cell? ⟨ae,(aa:Int).toNat*2,none⟩=some (.int .i64 ((qQ ag aa).f0)):=av 0 _ rfl;have be:am.cell? ⟨ae,(aa:Int).toNat*2+1,none⟩=some (.string ((qQ ag aa).f1)):=av 1 _ rfl;have bf:am.frozen? ⟨ae,(aa:Int).toNat*2,none⟩=false:=aw 0;have bg:am.frozen? ⟨ae,(aa:Int).toNat*2+1,none⟩=false:=aw 1;clear a0 av aw aX;replace p7:=eq_true p7;replace q7:=eq_true q7;have aF:=zz (show Kd.R k70 70 am w0.heap.size (fun k_=>(af k_∨w.heap.size≤k_)) (.slice (some ⟨ae,0,none⟩) ab.length ay) ag from(zR ac.out));obtain⟨bl,az,aG,an,aA⟩:=Kd.R_elem aF.out z70 (aa:Int) (z2) (by have h_:(aa:Int)<((ab.length:Int):Int):=z2;first|exact h_|(have e_:=(Kd.qS ac.out).1;omega)|simpa using h_);obtain rfl:=k70_openM aG;have ax:=Kd.R_seg aF.out (aa:Int) (z2) (by have h_:(aa:Int)<((ab.length:Int):Int):=z2;first|exact h_|(have e_:=(Kd.qS ac.out).1;omega)|simpa using h_) (seg:=[.string ai]) (j:=1) az an (show 2≤2 from by decide) (x':=(⟨(qQ ag aa).f0,ai⟩:S70)) (k70_mkM _ _ _ (⟨(qQ ag aa).f0,ai⟩:S70)) (fun _ hk=>hk);have aH:=an 1 _ rfl;(try simp only[show(k70).sz=2 from rfl,Nat.mul_one,Nat.add_zero] at aH);have aI:=aA 1;(try simp only[show(k70).sz=2 from rfl,Nat.mul_one,Nat.add_zero] at aI);clear az an aA aG)|((with_reducible refine qP (t:=9) (p:=24) rfl ?_);refine qL (t:=9) (p:=24) (v:=?a7) (w1:=(am.setCell ⟨ae,(aa:Int).toNat*2+1,none⟩ (.string ai))) ?hg ?ho ?hn ?hr ?_;(case ho=>rfl);(case hg=>rfl);(case hn=>rfl);(case hr=>first|(go_simp;done)|(go_simp;rfl));intro aJ hw;have hg:am.grownBy aJ (some ae):=(by rw[hw];exact ax.2);have hp_:Kd.R k70 70 aJ w0.heap.size (fun k_=>(af k_∨w.heap.size≤k_)) (.slice (some ⟨ae,0,none⟩) ab.length ay) ao:=(by rw[hw,aL.out];exact ax.1);clear ax;replace HB:=zz ((by rw[hw];exact qH (HB.out) aT.out:Below w0.heap.size w0 aJ));replace HK:=zz (Kept.of_grown (S:=(fun k_=>af k_)) hg (by repeat(first|(with_reducible first|exact HK.out|apply Kept.alloc|apply Kept.drewN|apply Kept.drew)|exact HK.out)) (fun k_ e_=>(ac.out.1 k_ e_)));replace ac:=zz (hp_);clear hg hw hp_))
   go_roundg k1
   case measure=>have:=aO.out;omega
   case rel=>exact⟨(ao),(wrap64 ((wrap64 (ad+1))+1)),(wrap64 (aa+1)),zr,zr,H',⟨by have:=aO.out;omega⟩,⟨zR ac.out⟩,⟨by repeat(first|(with_reducible first|exact HK.out|apply Kept.alloc|apply Kept.drewN|apply Kept.drew)|exact HK.out)⟩,⟨zb⟩⟩
def laws_markStringS.l0:Nat→List ByteArray→Int→Int→Option (Int×List ByteArray)
 |0,_,_,_=>none
 |k+1,x0,x1,x5=>if x5<(x0.length:Int) then((laws_markText.f k x1).bind fun aa=>(if 0≤x5 then(laws_markStringS.l0 k (x0.set (x5:Int).toNat aa) (wrap64 (x1+1)) (wrap64 (x5+1))) else(none))) else(some (x1,x0))
def laws_markStringS.f(k:Nat)(l0:List ByteArray)(a1:Int):Option (Int×List ByteArray):=laws_markStringS.l0 k l0 a1 0
theorem laws_markStringS.calls(k:Nat)(ac:Nat→Prop)(ad:Value)(l0:List ByteArray)(a1:Int)(r1:Int)(r2:List ByteArray)(w0 w:World)(hB:Below w0.heap.size w0 w)(ax:Kd.R Kd.string 9 w w0.heap.size ac ad l0)(h:laws_markStringS.f k l0 a1=some (r1,r2)):
 Calls Tryz.prog 16 #[ad,.int .i64 a1] w fun e w'=>e= .returned (.int .i64 r1)∧Kd.R Kd.string 9 w' w0.heap.size (fun k_=>(ac k_∨w.heap.size≤k_)) ad r2∧Below w0.heap.size w0 w'∧Kept w w' (fun k_=>ac k_):=by
 have ay:=zz (show Kd.R Kd.string 9 w w0.heap.size (fun k_=>(ac k_∨w.heap.size≤k_)) ad l0 from Kd.qT ax (fun k_ hk=>(.inl hk)))
 have HK:=zz (Kept.refl w (fun k_=>ac k_))
 have aN:=zz hB.size
 have HB:=zz hB
 clear hB
 unfold laws_markStringS.f at h
 have H:=h
 clear h
 have H':=zz H
 clear H
 go_enter Tryz.func16,Tryz.ntmps16
 go_wp2
 go_loopg[1,5] k (fun kq v1 v5 w'=>∃(ag:List ByteArray) (ae:Int) (ab:Int),v1= .int .i64 ae∧v5= .int .i64 ab∧qA (laws_markStringS.l0 kq ag ae ab=some (r1,r2))∧qA (kq≤k)∧qA (Kd.R Kd.string 9 w' w0.heap.size (fun k_=>(ac k_∨w.heap.size≤k_)) ad ag)∧qA (Kept w w' (fun k_=>ac k_))∧qA (Below w0.heap.size w0 w'))
 case atStart=>exact⟨(l0),(a1),(0),zr,zr,H',⟨Nat.le_refl _⟩,⟨zR ay.out⟩,⟨by repeat(first|(with_reducible first|exact HK.out|apply Kept.alloc|apply Kept.drewN|apply Kept.drew)|exact HK.out)⟩,⟨zb⟩⟩
 case round=>
  clear H'
  try clear c1
  try clear p2
  obtain⟨ag,ae,ab,rfl,rfl,HA,ao,aa,HK,HB⟩:=hrel
  cases gk with
  |zero=>exact absurd HA.out (by simp[laws_markStringS.l0])
  |succ k1=>
   have H:=HA.out
   clear HA
   simp only[laws_markStringS.l0] at H
   refine yDn H ?_ ?_<;>clear H<;>intro aH H
   ·simp only[Option.some.injEq,Prod.mk.injEq] at H
    obtain⟨rfl,rfl⟩:=H
    obtain⟨aI,aJ,aw⟩:=Kd.qV aa.out
    subst aw
    go_wp2
    go_ret
    exact⟨ze,zR aa.out,zb,by repeat(first|(with_reducible first|exact HK.out|apply Kept.alloc|apply Kept.drewN|apply Kept.drew)|exact HK.out)⟩
   replace H:=zf H
   obtain⟨ah,ap,H⟩:=H
   try dsimp only at H
   have A4:=zz ap
   clear ap
   replace H:=yAD H
   obtain⟨aK,H⟩:=H
   obtain⟨aj,af⟩:∃y_:List ByteArray,y_=(ag.set (ab:Int).toNat ah):=⟨_,rfl⟩
   replace H:(laws_markStringS.l0 k1 aj (wrap64 (ae+1)) (wrap64 (ab+1)))=some (r1,r2):=by first|(rw[af];with_reducible exact H)|(have ak:=(Option.bind_some _ _).symm.trans H;rw[af];with_reducible exact ak)|(have ak:=(Option.bind_some _ _).symm.trans H;with_reducible exact ak)|with_reducible exact H|(rw[af];exact H)|exact H
   have an:=zz af
   clear af
   have H':=zz H
   clear H
   obtain⟨aO,az,aA⟩:=Kd.qV aa.out
   subst aA
   go_wp2_with(first|(refine zL 63 15 Tryz.func63 #[.int .i64 ae] ?_;(with_reducible refine(laws_markText.calls k1 ae ah _ A4.out).mono ?_);rintro e w8 ⟨rfl,hb⟩;refine⟨_,rfl,?_⟩;replace aa:=zz (Kd.R_below (zR aa.out) hb);replace HK:=zz (Kept.below (S:=(fun k_=>ac k_)) (by repeat(first|(with_reducible first|exact HK.out|apply Kept.alloc|apply Kept.drewN|apply Kept.drew)|exact HK.out)) hb);replace HB:=zz (zv zb hb);(try clear hb);(try clear aP);(try clear hk);(try clear hi);have p6:0≤(ab:Int):=z2;have q6:(ab:Int)<((ag.length:Int):Int):=z2;obtain⟨ai,aQ,ar,au,aB,aR,av⟩:=Kd.R_form aa.out (by omega);(first|cases ar|(injection ar with ea_ en_ ec_;(first|subst ea_|(injection ea_ with ea_;subst ea_));subst ec_;clear en_));have aC:=zz au;have aS:=zz av;clear au aB av;have aE:=zz (show(ac ai∨w.heap.size≤ai) from(aa.out.1 _ rfl));obtain⟨aF,aG⟩:=Kd.R_celln (⟨#[]⟩:ByteArray) aa.out (ab:Int) p6 q6;replace p6:=eq_true p6;replace q6:=eq_true q6;obtain⟨aL,aM⟩:=Kd.R_celln (⟨#[]⟩:ByteArray) aa.out (ab:Int) (z2) (z2);have al:=Kd.R_putg aa.out (ab:Int) ah)|((with_reducible refine qP (t:=9) (p:=16) rfl ?_);refine qL (t:=9) (p:=16) (v:=?aD) (w1:=(w8.setCell ⟨ai,(ab:Int).toNat,none⟩ (.string ah))) ?hg ?ho ?hn ?hr ?_;(case ho=>rfl);(case hg=>rfl);(case hn=>rfl);(case hr=>first|(go_simp;done)|(go_simp;rfl));intro am hw;have hg:w8.grownBy am (some ai):=(by rw[hw];exact al.2);have hp_:Kd.R Kd.string 9 am w0.heap.size (fun k_=>(ac k_∨w.heap.size≤k_)) (.slice (some ⟨ai,0,none⟩) ag.length az) aj:=(by rw[hw,an.out];exact al.1);clear al;replace HB:=zz ((by rw[hw];exact qH (HB.out) aC.out:Below w0.heap.size w0 am));replace HK:=zz (Kept.of_grown (S:=(fun k_=>ac k_)) hg (by repeat(first|(with_reducible first|exact HK.out|apply Kept.alloc|apply Kept.drewN|apply Kept.drew)|exact HK.out)) (fun k_ e_=>(aa.out.1 k_ e_)));replace aa:=zz (hp_);clear hg hw hp_))
   go_roundg k1
   case measure=>have:=ao.out;omega
   case rel=>exact⟨(aj),(wrap64 (ae+1)),(wrap64 (ab+1)),zr,zr,H',⟨by have:=ao.out;omega⟩,⟨zR aa.out⟩,⟨by repeat(first|(with_reducible first|exact HK.out|apply Kept.alloc|apply Kept.drewN|apply Kept.drew)|exact HK.out)⟩,⟨zb⟩⟩
def laws_markEntryS.l0:Nat→List (S96)→Int→Int→Option (Int×(List (S96)))
 |0,_,_,_=>none
 |k+1,x0,x1,x5=>if x5<(x0.length:Int) then((laws_markText.f k x1).bind fun ad=>(if 0≤x5 then((some (x0.set (x5:Int).toNat (⟨ad,(qB x0 x5).f1,(qB x0 x5).f2,(qB x0 x5).f3⟩:S96):List (S96))).bind fun aa=>((some (aa.set (x5:Int).toNat (⟨(qB aa x5).f0,wrap64 (x1+1),(qB aa x5).f2,(qB aa x5).f3⟩:S96):List (S96))).bind fun ab=>((laws_markText.f k (wrap64 ((wrap64 (x1+1))+1))).bind fun ae=>((some (ab.set (x5:Int).toNat (⟨(qB ab x5).f0,(qB ab x5).f1,ae,(qB ab x5).f3⟩:S96):List (S96))).bind fun ac=>(laws_markEntryS.l0 k (ac.set (x5:Int).toNat (⟨(qB ac x5).f0,(qB ac x5).f1,(qB ac x5).f2,((Int.tmod (wrap64 ((wrap64 ((wrap64 (x1+1))+1))+1)) 3)==0)⟩:S96)) (wrap64 ((wrap64 ((wrap64 ((wrap64 (x1+1))+1))+1))+1)) (wrap64 (x5+1))))))) else(none))) else(some (x1,x0))
def laws_markEntryS.f(k:Nat)(l0:List (S96))(a1:Int):Option (Int×(List (S96))):=laws_markEntryS.l0 k l0 a1 0
theorem laws_markEntryS.calls(k:Nat)(ai:Nat→Prop)(an:Value)(l0:List (S96))(a1:Int)(r1:Int)(r2:List (S96))(w0 w:World)(hB:Below w0.heap.size w0 w)(bJ:Kd.R k96 96 w w0.heap.size ai an l0)(h:laws_markEntryS.f k l0 a1=some (r1,r2)):
 Calls Tryz.prog 23 #[an,.int .i64 a1] w fun e w'=>e= .returned (.int .i64 r1)∧Kd.R k96 96 w' w0.heap.size (fun k_=>(ai k_∨w.heap.size≤k_)) an r2∧Below w0.heap.size w0 w'∧Kept w w' (fun k_=>ai k_):=by
 have bK:=zz (show Kd.R k96 96 w w0.heap.size (fun k_=>(ai k_∨w.heap.size≤k_)) an l0 from Kd.qT bJ (fun k_ hk=>(.inl hk)))
 have HK:=zz (Kept.refl w (fun k_=>ai k_))
 have cE:=zz hB.size
 have HB:=zz hB
 clear hB
 unfold laws_markEntryS.f at h
 have H:=h
 clear h
 have H':=zz H
 clear H
 go_enter Tryz.func23,Tryz.ntmps23
 go_wp2
 go_loopg[1,5] k (fun kq v1 v5 w'=>∃(ab:List (S96)) (af:Int) (aa:Int),v1= .int .i64 af∧v5= .int .i64 aa∧qA (laws_markEntryS.l0 kq ab af aa=some (r1,r2))∧qA (kq≤k)∧qA (Kd.R k96 96 w' w0.heap.size (fun k_=>(ai k_∨w.heap.size≤k_)) an ab)∧qA (Kept w w' (fun k_=>ai k_))∧qA (Below w0.heap.size w0 w'))
 case atStart=>exact⟨(l0),(a1),(0),zr,zr,H',⟨Nat.le_refl _⟩,⟨zR bK.out⟩,⟨by repeat(first|(with_reducible first|exact HK.out|apply Kept.alloc|apply Kept.drewN|apply Kept.drew)|exact HK.out)⟩,⟨zb⟩⟩
 case round=>
  clear H'
  try clear c2
  try clear p2
  obtain⟨ab,af,aa,rfl,rfl,HA,bs,ad,HK,HB⟩:=hrel
  cases gk with
  |zero=>exact absurd HA.out (by simp[laws_markEntryS.l0])
  |succ k1=>
   have H:=HA.out
   clear HA
   simp only[laws_markEntryS.l0] at H
   refine yDn H ?_ ?_<;>clear H<;>intro cu H
   ·simp only[Option.some.injEq,Prod.mk.injEq] at H
    obtain⟨rfl,rfl⟩:=H
    obtain⟨cv,cw,bE⟩:=Kd.qV ad.out
    subst bE
    go_wp2
    go_ret
    exact⟨ze,zR ad.out,zb,by repeat(first|(with_reducible first|exact HK.out|apply Kept.alloc|apply Kept.drewN|apply Kept.drew)|exact HK.out)⟩
   replace H:=zf H
   obtain⟨aA,bu,H⟩:=H
   try dsimp only at H
   have A4:=zz bu
   clear bu
   replace H:=yAD H
   obtain⟨cx,H⟩:=H
   obtain⟨ah,au⟩:∃y_:List (S96),y_=(ab.set (aa:Int).toNat (⟨aA,(qB ab aa).f1,(qB ab aa).f2,(qB ab aa).f3⟩:S96)):=⟨_,rfl⟩
   replace H:((some (ah.set (aa:Int).toNat (⟨(qB ah aa).f0,wrap64 (af+1),(qB ah aa).f2,(qB ah aa).f3⟩:S96):List (S96))).bind fun ag=>((laws_markText.f k1 (wrap64 ((wrap64 (af+1))+1))).bind fun am=>((some (ag.set (aa:Int).toNat (⟨(qB ag aa).f0,(qB ag aa).f1,am,(qB ag aa).f3⟩:S96):List (S96))).bind fun ae=>(laws_markEntryS.l0 k1 (ae.set (aa:Int).toNat (⟨(qB ae aa).f0,(qB ae aa).f1,(qB ae aa).f2,((Int.tmod (wrap64 ((wrap64 ((wrap64 (af+1))+1))+1)) 3)==0)⟩:S96)) (wrap64 ((wrap64 ((wrap64 ((wrap64 (af+1))+1))+1))+1)) (wrap64 (aa+1))))))=some (r1,r2):=by first|(rw[au];with_reducible exact H)|(have aj:=(Option.bind_some _ _).symm.trans H;rw[au];with_reducible exact aj)|(have aj:=(Option.bind_some _ _).symm.trans H;with_reducible exact aj)|with_reducible exact H|(rw[au];exact H)|exact H
   have bl:=zz au
   clear au
   obtain⟨ag,av⟩:∃y_:List (S96),y_=(ah.set (aa:Int).toNat (⟨(qB ah aa).f0,wrap64 (af+1),(qB ah aa).f2,(qB ah aa).f3⟩:S96)):=⟨_,rfl⟩
   replace H:((laws_markText.f k1 (wrap64 ((wrap64 (af+1))+1))).bind fun am=>((some (ag.set (aa:Int).toNat (⟨(qB ag aa).f0,(qB ag aa).f1,am,(qB ag aa).f3⟩:S96):List (S96))).bind fun ae=>(laws_markEntryS.l0 k1 (ae.set (aa:Int).toNat (⟨(qB ae aa).f0,(qB ae aa).f1,(qB ae aa).f2,((Int.tmod (wrap64 ((wrap64 ((wrap64 (af+1))+1))+1)) 3)==0)⟩:S96)) (wrap64 ((wrap64 ((wrap64 ((wrap64 (af+1))+1))+1))+1)) (wrap64 (aa+1)))))=some (r1,r2):=by first|(rw[av];with_reducible exact H)|(have aj:=(Option.bind_some _ _).symm.trans H;rw[av];with_reducible exact aj)|(have aj:=(Option.bind_some _ _).symm.trans H;with_reducible exact aj)|with_reducible exact H|(rw[av];exact H)|exact H
   have bn:=zz av
   clear av
   replace H:=zf H
   obtain⟨am,bv,H⟩:=H
   try dsimp only at H
   have A8:=zz bv
   clear bv
   obtain⟨ae,aw⟩:∃y_:List (S96),y_=(ag.set (aa:Int).toNat (⟨(qB ag aa).f0,(qB ag aa).f1,am,(qB ag aa).f3⟩:S96)):=⟨_,rfl⟩
   replace H:(laws_markEntryS.l0 k1 (ae.set (aa:Int).toNat (⟨(qB ae aa).f0,(qB ae aa).f1,(qB ae aa).f2,((Int.tmod (wrap64 ((wrap64 ((wrap64 (af+1))+1))+1)) 3)==0)⟩:S96)) (wrap64 ((wrap64 ((wrap64 ((wrap64 (af+1))+1))+1))+1)) (wrap64 (aa+1)))=some (r1,r2):=by first|(rw[aw];with_reducible exact H)|(have aj:=(Option.bind_some _ _).symm.trans H;rw[aw];with_reducible exact aj)|(have aj:=(Option.bind_some _ _).symm.trans H;with_reducible exact aj)|with_reducible exact H|(rw[aw];exact H)|exact H
   have bo:=zz aw
   clear aw
   obtain⟨aL,ax⟩:∃y_:List (S96),y_=(ae.set (aa:Int).toNat (⟨(qB ae aa).f0,(qB ae aa).f1,(qB ae aa).f2,((Int.tmod (wrap64 ((wrap64 ((wrap64 (af+1))+1))+1)) 3)==0)⟩:S96)):=⟨_,rfl⟩
   replace H:(laws_markEntryS.l0 k1 aL (wrap64 ((wrap64 ((wrap64 ((wrap64 (af+1))+1))+1))+1)) (wrap64 (aa+1)))=some (r1,r2):=by first|(rw[ax];with_reducible exact H)|(have aj:=(Option.bind_some _ _).symm.trans H;rw[ax];with_reducible exact aj)|(have aj:=(Option.bind_some _ _).symm.trans H;with_reducible exact aj)|with_reducible exact H|(rw[ax];exact H)|exact H
   have bq:=zz ax
   clear ax
   have H':=zz H
   clear H
   obtain⟨cy,ao,bF⟩:=Kd.qV ad.out
   subst bF
   go_wp2_with(first|(refine zL 63 15 Tryz.func63 #[.int .i64 af] ?_;(with_reducible refine(laws_markText.calls k1 af aA _ A4.out).mono ?_);rintro e ap ⟨rfl,hb⟩;refine⟨_,rfl,?_⟩;replace ad:=zz (Kd.R_below (zR ad.out) hb);replace HK:=zz (Kept.below (S:=(fun k_=>ai k_)) (by repeat(first|(with_reducible first|exact HK.out|apply Kept.alloc|apply Kept.drewN|apply Kept.drew)|exact HK.out)) hb);replace HB:=zz (zv zb hb);(try clear hb);(try clear bL);(try clear hk);(try clear hi);have p6:0≤(aa:Int):=z2;have q6:(aa:Int)<((ab.length:Int):Int):=z2;obtain⟨ac,cF,bw,bz,bM,cG,bA⟩:=Kd.R_form ad.out (by omega);(first|cases bw|(injection bw with ea_ en_ ec_;(first|subst ea_|(injection ea_ with ea_;subst ea_));subst ec_;clear en_));have aQ:=zz bz;have cH:=zz bA;clear bz bM bA;have bZ:=zz (show(ai ac∨w.heap.size≤ac) from(ad.out.1 _ rfl));obtain⟨cI,bG,bB,aB,aC⟩:=Kd.R_elem ad.out z96 (aa:Int) p6 q6;obtain rfl:=k96_openM bB;have b0:ap.cell? ⟨ac,(aa:Int).toNat*4,none⟩=some (.string ((qB ab aa).f0)):=aB 0 _ rfl;have b1:ap.cell? ⟨ac,(aa:Int).toNat*4+1,none⟩=some (.int .i64 ((qB ab aa).f1)):=aB 1 _ rfl;have b3:ap.cell? ⟨ac,(aa:Int).toNat*4+2,none⟩=some (.string ((qB ab aa).f2)):=aB 2 _ rfl;have b4:ap.cell? ⟨ac,(aa:Int).toNat*4+3,none⟩=some (.bool ((qB ab aa).f3)):=aB 3 _ rfl;have b7:ap.frozen? ⟨ac,(aa:Int).toNat*4,none⟩=false:=aC 0;have b8:ap.frozen? ⟨ac,(aa:Int).toNat*4+1,none⟩=false:=aC 1;have ca:ap.frozen? ⟨ac,(aa:Int).toNat*4+2,none⟩=false:=aC 2;have cb:ap.frozen? ⟨ac,(aa:Int).toNat*4+3,none⟩=false:=aC 3;clear bG aB aC bB;replace p6:=eq_true p6;replace q6:=eq_true q6;have aZ:=zz (show Kd.R k96 96 ap w0.heap.size (fun k_=>(ai k_∨w.heap.size≤k_)) (.slice (some ⟨ac,0,none⟩) ab.length ao) ab from(zR ad.out));obtain⟨cz,aR,a0,aH,aS⟩:=Kd.R_elem aZ.out z96 (aa:Int) (z2) (by have h_:(aa:Int)<((ab.length:Int):Int):=z2;first|exact h_|(have e_:=(Kd.qS ad.out).1;omega)|simpa using h_);obtain rfl:=k96_openM a0;have aM:=Kd.R_seg aZ.out (aa:Int) (z2) (by have h_:(aa:Int)<((ab.length:Int):Int):=z2;first|exact h_|(have e_:=(Kd.qS ad.out).1;omega)|simpa using h_) (seg:=[.string aA]) (j:=0) aR aH (show 1≤4 from by decide) (x':=(⟨aA,(qB ab aa).f1,(qB ab aa).f2,(qB ab aa).f3⟩:S96)) (k96_mkM _ _ _ (⟨aA,(qB ab aa).f1,(qB ab aa).f2,(qB ab aa).f3⟩:S96)) (fun _ hk=>hk);have a2:=aH 0 _ rfl;(try simp only[show(k96).sz=4 from rfl,Nat.mul_one,Nat.add_zero] at a2);have a3:=aS 0;(try simp only[show(k96).sz=4 from rfl,Nat.mul_one,Nat.add_zero] at a3);clear aR aH aS a0)|((with_reducible refine qP (t:=9) (p:=17) rfl ?_);refine qL (t:=9) (p:=17) (v:=?bN) (w1:=(ap.setCell ⟨ac,(aa:Int).toNat*4,none⟩ (.string aA))) ?hg ?ho ?hn ?hr ?_;(case ho=>rfl);(case hg=>rfl);(case hn=>rfl);(case hr=>first|(go_simp;done)|(go_simp;rfl));intro ak hw;have hg:ap.grownBy ak (some ac):=(by rw[hw];exact aM.2);have hp_:Kd.R k96 96 ak w0.heap.size (fun k_=>(ai k_∨w.heap.size≤k_)) (.slice (some ⟨ac,0,none⟩) ab.length ao) ah:=(by rw[hw,bl.out];exact aM.1);clear aM;replace HB:=zz ((by rw[hw];exact qH (HB.out) aQ.out:Below w0.heap.size w0 ak));replace HK:=zz (Kept.of_grown (S:=(fun k_=>ai k_)) hg (by repeat(first|(with_reducible first|exact HK.out|apply Kept.alloc|apply Kept.drewN|apply Kept.drew)|exact HK.out)) (fun k_ e_=>(ad.out.1 k_ e_)));replace ad:=zz (hp_);clear hg hw hp_;have p7:0≤(aa:Int):=z2;have q7:(aa:Int)<((ab.length:Int):Int):=z2;obtain⟨cJ,bH,bC,aD,aE⟩:=Kd.R_elem ad.out z96 (aa:Int) p7 q7;obtain rfl:=k96_openM bC;have cc:ak.cell? ⟨ac,(aa:Int).toNat*4,none⟩=some (.string ((qB ah aa).f0)):=aD 0 _ rfl;have cd:ak.cell? ⟨ac,(aa:Int).toNat*4+1,none⟩=some (.int .i64 ((qB ah aa).f1)):=aD 1 _ rfl;have ce:ak.cell? ⟨ac,(aa:Int).toNat*4+2,none⟩=some (.string ((qB ah aa).f2)):=aD 2 _ rfl;have cf:ak.cell? ⟨ac,(aa:Int).toNat*4+3,none⟩=some (.bool ((qB ah aa).f3)):=aD 3 _ rfl;have cg:ak.frozen? ⟨ac,(aa:Int).toNat*4,none⟩=false:=aE 0;have ch:ak.frozen? ⟨ac,(aa:Int).toNat*4+1,none⟩=false:=aE 1;have ci:ak.frozen? ⟨ac,(aa:Int).toNat*4+2,none⟩=false:=aE 2;have cj:ak.frozen? ⟨ac,(aa:Int).toNat*4+3,none⟩=false:=aE 3;clear bH aD aE bC;replace p7:=eq_true p7;replace q7:=eq_true q7;have a4:=zz (show Kd.R k96 96 ak w0.heap.size (fun k_=>(ai k_∨w.heap.size≤k_)) (.slice (some ⟨ac,0,none⟩) ab.length ao) ah from(zR ad.out));obtain⟨cA,aT,a5,aI,aU⟩:=Kd.R_elem a4.out z96 (aa:Int) (z2) (by have h_:(aa:Int)<((ab.length:Int):Int):=z2;first|exact h_|(have e_:=(Kd.qS ad.out).1;omega)|simpa using h_);obtain rfl:=k96_openM a5;have aN:=Kd.R_seg a4.out (aa:Int) (z2) (by have h_:(aa:Int)<((ab.length:Int):Int):=z2;first|exact h_|(have e_:=(Kd.qS ad.out).1;omega)|simpa using h_) (seg:=[.int .i64 (wrap64 (af+1))]) (j:=1) aT aI (show 2≤4 from by decide) (x':=(⟨(qB ah aa).f0,wrap64 (af+1),(qB ah aa).f2,(qB ah aa).f3⟩:S96)) (k96_mkM _ _ _ (⟨(qB ah aa).f0,wrap64 (af+1),(qB ah aa).f2,(qB ah aa).f3⟩:S96)) (fun _ hk=>hk);have a6:=aI 1 _ rfl;(try simp only[show(k96).sz=4 from rfl,Nat.mul_one,Nat.add_zero] at a6);have a7:=aU 1;(try simp only[show(k96).sz=4 from rfl,Nat.mul_one,Nat.add_zero] at a7);clear aT aI aU a5)|((with_reducible refine qP (t:=2) (p:=24) rfl ?_);refine qL (t:=2) (p:=24) (v:=?bO) (w1:=(ak.setCell ⟨ac,(aa:Int).toNat*4+1,none⟩ (.int .i64 (wrap64 (af+1))))) ?hg ?ho ?hn ?hr ?_;(case ho=>rfl);(case hg=>rfl);(case hn=>rfl);(case hr=>first|(go_simp;done)|(go_simp;rfl));intro a8 hw;have hg:ak.grownBy a8 (some ac):=(by rw[hw];exact aN.2);have hp_:Kd.R k96 96 a8 w0.heap.size (fun k_=>(ai k_∨w.heap.size≤k_)) (.slice (some ⟨ac,0,none⟩) ab.length ao) ag:=(by rw[hw,bn.out];exact aN.1);clear aN;replace HB:=zz ((by rw[hw];exact qH (HB.out) aQ.out:Below w0.heap.size w0 a8));replace HK:=zz (Kept.of_grown (S:=(fun k_=>ai k_)) hg (by repeat(first|(with_reducible first|exact HK.out|apply Kept.alloc|apply Kept.drewN|apply Kept.drew)|exact HK.out)) (fun k_ e_=>(ad.out.1 k_ e_)));replace ad:=zz (hp_);clear hg hw hp_)|(refine zL 63 30 Tryz.func63 #[.int .i64 (wrap64 ((wrap64 (af+1))+1))] ?_;(with_reducible refine(laws_markText.calls k1 (wrap64 ((wrap64 (af+1))+1)) am _ A8.out).mono ?_);rintro e ar ⟨rfl,hb⟩;refine⟨_,rfl,?_⟩;replace ad:=zz (Kd.R_below (zR ad.out) hb);replace HK:=zz (Kept.below (S:=(fun k_=>ai k_)) (by repeat(first|(with_reducible first|exact HK.out|apply Kept.alloc|apply Kept.drewN|apply Kept.drew)|exact HK.out)) hb);replace HB:=zz (zv zb hb);(try clear hb);(try clear bL);(try clear hk);(try clear hi);have p9:0≤(aa:Int):=z2;have q9:(aa:Int)<((ab.length:Int):Int):=z2;obtain⟨cK,bI,bD,aF,aG⟩:=Kd.R_elem ad.out z96 (aa:Int) p9 q9;obtain rfl:=k96_openM bD;have ck:ar.cell? ⟨ac,(aa:Int).toNat*4,none⟩=some (.string ((qB ag aa).f0)):=aF 0 _ rfl;have cm:ar.cell? ⟨ac,(aa:Int).toNat*4+1,none⟩=some (.int .i64 ((qB ag aa).f1)):=aF 1 _ rfl;have cn:ar.cell? ⟨ac,(aa:Int).toNat*4+2,none⟩=some (.string ((qB ag aa).f2)):=aF 2 _ rfl;have co:ar.cell? ⟨ac,(aa:Int).toNat*4+3,none⟩=some (.bool ((qB ag aa).f3)):=aF 3 _ rfl;have cp:ar.frozen? ⟨ac,(aa:Int).toNat*4,none⟩=false:=aG 0;have cq:ar.frozen? ⟨ac,(aa:Int).toNat*4+1,none⟩=false:=aG 1;have cr:ar.frozen? ⟨ac,(aa:Int).toNat*4+2,none⟩=false:=aG 2;have ct:ar.frozen? ⟨ac,(aa:Int).toNat*4+3,none⟩=false:=aG 3;clear bI aF aG bD;replace p9:=eq_true p9;replace q9:=eq_true q9;have a9:=zz (show Kd.R k96 96 ar w0.heap.size (fun k_=>(ai k_∨w.heap.size≤k_)) (.slice (some ⟨ac,0,none⟩) ab.length ao) ag from(zR ad.out));obtain⟨cB,aV,ba,aJ,aW⟩:=Kd.R_elem a9.out z96 (aa:Int) (z2) (by have h_:(aa:Int)<((ab.length:Int):Int):=z2;first|exact h_|(have e_:=(Kd.qS ad.out).1;omega)|simpa using h_);obtain rfl:=k96_openM ba;have aO:=Kd.R_seg a9.out (aa:Int) (z2) (by have h_:(aa:Int)<((ab.length:Int):Int):=z2;first|exact h_|(have e_:=(Kd.qS ad.out).1;omega)|simpa using h_) (seg:=[.string am]) (j:=2) aV aJ (show 3≤4 from by decide) (x':=(⟨(qB ag aa).f0,(qB ag aa).f1,am,(qB ag aa).f3⟩:S96)) (k96_mkM _ _ _ (⟨(qB ag aa).f0,(qB ag aa).f1,am,(qB ag aa).f3⟩:S96)) (fun _ hk=>hk);have bb:=aJ 2 _ rfl;(try simp only[show(k96).sz=4 from rfl,Nat.mul_one,Nat.add_zero] at bb);have bc:=aW 2;(try simp only[show(k96).sz=4 from rfl,Nat.mul_one,Nat.add_zero] at bc);clear aV aJ aW ba)|((with_reducible refine qP (t:=9) (p:=32) rfl ?_);refine qL (t:=9) (p:=32) (v:=?bP) (w1:=(ar.setCell ⟨ac,(aa:Int).toNat*4+2,none⟩ (.string am))) ?hg ?ho ?hn ?hr ?_;(case ho=>rfl);(case hg=>rfl);(case hn=>rfl);(case hr=>first|(go_simp;done)|(go_simp;rfl));intro al hw;have hg:ar.grownBy al (some ac):=(by rw[hw];exact aO.2);have hp_:Kd.R k96 96 al w0.heap.size (fun k_=>(ai k_∨w.heap.size≤k_)) (.slice (some ⟨ac,0,none⟩) ab.length ao) ae:=(by rw[hw,bo.out];exact aO.1);clear aO;replace HB:=zz ((by rw[hw];exact qH (HB.out) aQ.out:Below w0.heap.size w0 al));replace HK:=zz (Kept.of_grown (S:=(fun k_=>ai k_)) hg (by repeat(first|(with_reducible first|exact HK.out|apply Kept.alloc|apply Kept.drewN|apply Kept.drew)|exact HK.out)) (fun k_ e_=>(ad.out.1 k_ e_)));replace ad:=zz (hp_);clear hg hw hp_;have bd:0≤(aa:Int):=z2;have be:(aa:Int)<((ab.length:Int):Int):=z2;obtain⟨cC,br,bf,ay,az⟩:=Kd.R_elem ad.out z96 (aa:Int) bd be;obtain rfl:=k96_openM bf;have bQ:al.cell? ⟨ac,(aa:Int).toNat*4,none⟩=some (.string ((qB ae aa).f0)):=ay 0 _ rfl;have bR:al.cell? ⟨ac,(aa:Int).toNat*4+1,none⟩=some (.int .i64 ((qB ae aa).f1)):=ay 1 _ rfl;have bS:al.cell? ⟨ac,(aa:Int).toNat*4+2,none⟩=some (.string ((qB ae aa).f2)):=ay 2 _ rfl;have bT:al.cell? ⟨ac,(aa:Int).toNat*4+3,none⟩=some (.bool ((qB ae aa).f3)):=ay 3 _ rfl;have bU:al.frozen? ⟨ac,(aa:Int).toNat*4,none⟩=false:=az 0;have bV:al.frozen? ⟨ac,(aa:Int).toNat*4+1,none⟩=false:=az 1;have bW:al.frozen? ⟨ac,(aa:Int).toNat*4+2,none⟩=false:=az 2;have bX:al.frozen? ⟨ac,(aa:Int).toNat*4+3,none⟩=false:=az 3;clear br ay az bf;replace bd:=eq_true bd;replace be:=eq_true be;have bg:=zz (show Kd.R k96 96 al w0.heap.size (fun k_=>(ai k_∨w.heap.size≤k_)) (.slice (some ⟨ac,0,none⟩) ab.length ao) ae from(zR ad.out));obtain⟨cD,aX,bh,aK,aY⟩:=Kd.R_elem bg.out z96 (aa:Int) (z2) (by have h_:(aa:Int)<((ab.length:Int):Int):=z2;first|exact h_|(have e_:=(Kd.qS ad.out).1;omega)|simpa using h_);obtain rfl:=k96_openM bh;have aP:=Kd.R_seg bg.out (aa:Int) (z2) (by have h_:(aa:Int)<((ab.length:Int):Int):=z2;first|exact h_|(have e_:=(Kd.qS ad.out).1;omega)|simpa using h_) (seg:=[.bool ((Int.tmod (wrap64 ((wrap64 ((wrap64 (af+1))+1))+1)) 3)==0)]) (j:=3) aX aK (show 4≤4 from by decide) (x':=(⟨(qB ae aa).f0,(qB ae aa).f1,(qB ae aa).f2,((Int.tmod (wrap64 ((wrap64 ((wrap64 (af+1))+1))+1)) 3)==0)⟩:S96)) (k96_mkM _ _ _ (⟨(qB ae aa).f0,(qB ae aa).f1,(qB ae aa).f2,((Int.tmod (wrap64 ((wrap64 ((wrap64 (af+1))+1))+1)) 3)==0)⟩:S96)) (fun _ hk=>hk);have bi:=aK 3 _ rfl;(try simp only[show(k96).sz=4 from rfl,Nat.mul_one,Nat.add_zero] at bi);have bj:=aY 3;(try simp only[show(k96).sz=4 from rfl,Nat.mul_one,Nat.add_zero] at bj);clear aX aK aY bh)|((with_reducible refine qP (t:=4) (p:=41) rfl ?_);refine qL (t:=4) (p:=41) (v:=?bY) (w1:=(al.setCell ⟨ac,(aa:Int).toNat*4+3,none⟩ (.bool ((Int.tmod (wrap64 ((wrap64 ((wrap64 (af+1))+1))+1)) 3)==0)))) ?hg ?ho ?hn ?hr ?_;(case ho=>rfl);(case hg=>rfl);(case hn=>rfl);(case hr=>first|(go_simp;done)|(go_simp;rfl));intro bk hw;have hg:al.grownBy bk (some ac):=(by rw[hw];exact aP.2);have hp_:Kd.R k96 96 bk w0.heap.size (fun k_=>(ai k_∨w.heap.size≤k_)) (.slice (some ⟨ac,0,none⟩) ab.length ao) aL:=(by rw[hw,bq.out];exact aP.1);clear aP;replace HB:=zz ((by rw[hw];exact qH (HB.out) aQ.out:Below w0.heap.size w0 bk));replace HK:=zz (Kept.of_grown (S:=(fun k_=>ai k_)) hg (by repeat(first|(with_reducible first|exact HK.out|apply Kept.alloc|apply Kept.drewN|apply Kept.drew)|exact HK.out)) (fun k_ e_=>(ad.out.1 k_ e_)));replace ad:=zz (hp_);clear hg hw hp_))
   go_roundg k1
   case measure=>have:=bs.out;omega
   case rel=>exact⟨(aL),(wrap64 ((wrap64 ((wrap64 ((wrap64 (af+1))+1))+1))+1)),(wrap64 (aa+1)),zr,zr,H',⟨by have:=bs.out;omega⟩,⟨zR ad.out⟩,⟨by repeat(first|(with_reducible first|exact HK.out|apply Kept.alloc|apply Kept.drewN|apply Kept.drew)|exact HK.out)⟩,⟨zb⟩⟩
namespace Ms
section
variable {α : Type} {d : Kd α} {e base g n cap : Nat} {ok : Nat → Prop} {W : World} {xs : List α} {y y' : α} {i : Int} {j : Nat} {u : Value}
theorem getD_set(xs:List α)(i:Nat)(y z:α)(h:i<xs.length):(xs.set i y).getD i z=y:=by
 rw[List.getD_eq_getElem?_getD,List.getElem?_set_self h]
 rfl
theorem put(z:α)(h:Kd.S d e W base ok (.slice (some ⟨g,0,none⟩) n cap) (xs.set i.toNat y))(h0:0≤i)(h1:i<n)(hj:j+1≤d.sz)(hM:∀okp c,d.M W base okp y c→d.M W base okp y' (c.take j++[u]++c.drop (j+1))):
 ∃u0,W.cell? ⟨g,i.toNat*d.sz+j,none⟩=some u0∧W.frozen? ⟨g,i.toNat*d.sz+j,none⟩=false∧qA (∀W',W'=W.setCell ⟨g,i.toNat*d.sz+j,none⟩ u→Kd.S d e W' base ok (.slice (some ⟨g,0,none⟩) n cap) (xs.set i.toNat y')∧W.grownBy W' (some g)):=by
 have hn:n=xs.length:=by have:=(Kd.S_reads' h).1;rwa [List.length_set] at this
 obtain⟨oki,c,hcl,hm,hcc,hf,ho,hH⟩:=Kd.S_elem h z i h0 h1
 rw[getD_set xs i.toNat y z (by omega)] at hm
 obtain⟨u0,hu⟩:∃u0,c[j]?=some u0:=⟨c[j]'(by omega),List.getElem?_eq_getElem (by omega)⟩
 refine⟨u0,hcc j u0 hu,hf j,⟨fun W' hW=>?_⟩⟩
 subst hW
 have hH2:Kd.H d e W base (fun k=>ok k∧¬False) (.slice (some ⟨g,0,none⟩) n cap) (xs.set i.toNat y) i oki c:=Kd.H_mono hH (fun k hk=>⟨hk,id⟩)
 obtain⟨r1,r2⟩:=Kd.S_seg (okg:=fun _=>False) hH2 h0 h1 (seg:=[u]) (j:=j) hj (hM oki c hm) (fun k hk=> .inl hk) (fun k hk=>hk.elim)
 rw[List.set_set] at r1
 exact⟨r1,r2⟩
end
end Ms
def laws_markItemS.l0:Nat→List S94→Int→Int→Option (Int×List S94)
 |0,_,_,_=>none
 |k+1,x0,x1,x5=>if x5<(x0.length:Int) then((laws_markText.f k (x1)).bind fun t0=>(laws_markText.f k (wrap64 ((x1)+1))).bind fun t1=>(laws_markStringS.f k (qG x0 x5).f2 (wrap64 ((wrap64 ((x1)+1))+1))).bind fun q2=>(laws_markText.f k (q2.1)).bind fun t3=>(laws_markEntryS.f k (qG x0 x5).f4 (wrap64 ((q2.1)+1))).bind fun q4=>(laws_markItemS.l0 k (x0.set x5.toNat ⟨t0,t1,q2.2,t3,q4.2⟩) (q4.1) (wrap64 (x5+1)))) else some (x1,x0)
def laws_markItemS.f(k:Nat)(l0:List S94)(a1:Int):Option (Int×List S94):=laws_markItemS.l0 k l0 a1 0
theorem laws_markItemS.calls(k:Nat)(P0_:Nat→Prop)(u:Value)(l0:List S94)(a1 r1:Int)(r2:List S94)(w0 w:World)(hB:Below w0.heap.size w0 w)(ho0:Kd.S k94 94 w w0.heap.size P0_ u l0)(h:laws_markItemS.f k l0 a1=some (r1,r2))(hlen:l0.length<4611686018427387904):
 Calls Tryz.prog 59 #[u,.int .i64 a1] w fun e w'=>e= .returned (.int .i64 r1)∧Kd.S k94 94 w' w0.heap.size P0_ u r2∧Below w0.heap.size w0 w'∧Kept w w' P0_:=by
 unfold laws_markItemS.f at h
 have H':=zz h
 obtain⟨A,cp,rfl⟩:=Kd.S_slice ho0
 have HO:=zz ho0
 have HB:=zz hB
 have HK:=zz (Kept.refl w P0_)
 have HL:=zz hlen
 clear h ho0 hB hlen
 go_enter Tryz.func59,Tryz.ntmps59
 go_wp2
 go_loopg[1,5] k (fun kq v1 v5 w'=>∃(X:List S94) (K x:Int),v1= .int .i64 K∧v5= .int .i64 x∧qA (laws_markItemS.l0 kq X K x=some (r1,r2))∧qA (kq≤k∧0≤x∧X.length=l0.length)∧qA (Kd.S k94 94 w' w0.heap.size P0_ (.slice A l0.length cp) X)∧qA (Kept w w' P0_)∧qA (Below w0.heap.size w0 w'))
 case atStart=>exact⟨l0,a1,0,rfl,rfl,H',⟨⟨Nat.le_refl _,by omega,rfl⟩⟩,⟨zS HO.out⟩,⟨by repeat(first|exact HK.out|apply Kept.alloc|apply Kept.drewN|apply Kept.drew)⟩,⟨zb⟩⟩
 case round=>
  clear H' HO HK HB
  obtain⟨X,K,x,rfl,rfl,HA,HX,HO,HK,HB⟩:=hrel
  cases gk with
  |zero=>exact absurd HA.out (by simp[laws_markItemS.l0])
  |succ k1=>
   have H:=HA.out
   clear HA
   simp only[laws_markItemS.l0] at H
   by_cases c3:x<(l0.length:Int)
   case neg=>
    rw[if_neg (show¬x<(X.length:Int) by have:=HX.out.2.2;omega)] at H
    have c3b0:=z0 c3
    clear c3
    simp only[Option.some.injEq,Prod.mk.injEq] at H
    obtain⟨rfl,rfl⟩:=H
    go_wp2
    go_ret
    exact⟨rfl,zS HO.out,zb,by repeat(first|exact HK.out|apply Kept.alloc|apply Kept.drewN|apply Kept.drew)⟩
   rw[if_pos (show x<(X.length:Int) by have:=HX.out.2.2;omega)] at H
   have c3b0:=z1 c3
   replace H:=yf H
   obtain⟨t0,T0,H⟩:=H
   replace H:=yf H
   obtain⟨t1,T1,H⟩:=H
   replace H:=zf H
   obtain⟨⟨n2,m2⟩,T2,H⟩:=H
   replace T2:=zz T2
   dsimp only at H
   replace H:=yf H
   obtain⟨t3,T3,H⟩:=H
   replace H:=zf H
   obtain⟨⟨n4,m4⟩,T4,H⟩:=H
   replace T4:=zz T4
   dsimp only at H
   have H':=zz H
   clear H
   have h0:0≤x:=HX.out.2.1
   have p0:=eq_true h0
   have q0:=eq_true c3
   have HC:=zz (And.intro h0 c3)
   clear h0 c3
   obtain⟨g,cp',eo,gb,gl,cl,hcl⟩:=Kd.R_form (Kd.S_R HO.out) (by have h1:=HC.out;have h2:=HX.out.2.2;omega)
   (first|cases eo|(injection eo with ea_ en_ ec_;(first|subst ea_|(injection ea_ with ea_;subst ea_));subst ec_;clear en_))
   have GB:=zz gb
   have GP:=zz ((Kd.S_R HO.out).1 g rfl)
   have HXW:=zz (show wrap64 (x+1)=x+1 from by have h1:=HC.out;have h2:=HL.out;simp[wrap64,IntKind.wrap];omega)
   clear gb gl hcl
   obtain⟨y,hy⟩:∃y,y=qG X x:=⟨_,rfl⟩
   rw[←hy] at T2 T4
   have HO:=zz (show Kd.S k94 94 _ w0.heap.size P0_ (.slice (some ⟨g,0,none⟩) l0.length cp) (X.set x.toNat y) from by
    have e:X.set x.toNat y=X:=by
     rw[hy]
     show X.set x.toNat (X.getD x.toNat z94)=X
     rw[List.getD_eq_getElem?_getD,List.getElem?_eq_getElem (show x.toNat<X.length by have h1:=HC.out;have h2:=HX.out.2.2;omega)]
     exact List.set_getElem_self _
    rw[e]
    exact HO.out)
   clear hy
   go_wp2_with(first|(refine zL 63 15 Tryz.func63 #[.int .i64 K] ?_;(with_reducible refine(laws_markText.calls k1 K t0 _ T0.out).mono ?_);rintro e w1_ ⟨rfl,hb⟩;refine⟨_,rfl,?_⟩;replace HO:=zz (Kd.vE (zS HO.out) hb);replace HK:=zz (Kept.below (by repeat(first|exact HK.out|apply Kept.alloc|apply Kept.drewN|apply Kept.drew)) hb);replace HB:=zz (zv zb hb);clear hb;obtain⟨u0,hx0,hf0,HP0⟩:=Ms.put (j:=0) (y':=(⟨t0,y.f1,y.f2,y.f3,y.f4⟩:S94)) (u:= .string t0) z94 HO.out HC.out.1 HC.out.2 (by decide) (fun okp c hM=>by obtain⟨v2,v4,rfl,g2,g4⟩:=k94_openM hM;exact k94_mkM _ _ _ (⟨t0,y.f1,y.f2,y.f3,y.f4⟩:S94) g2 g4);replace hx0:w1_.cell? ⟨g,x.toNat*5,none⟩=some u0:=hx0;replace hf0:w1_.frozen? ⟨g,x.toNat*5,none⟩=false:=hf0)|((with_reducible refine qP (t:=9) (p:=17) rfl ?_);refine qL (t:=9) (p:=17) (v:=?vo0) (w1:=(w1_.setCell ⟨g,x.toNat*5,none⟩ (.string t0))) ?hg ?ho ?hn ?hr ?_;(case ho=>rfl);(case hg=>rfl);(case hn=>rfl);(case hr=>first|(go_simp;done)|(go_simp;rfl));intro w2_ hw;have hp:=HP0.out w2_ hw;replace HO:=zz hp.1;replace HK:=zz (Kept.of_grown hp.2 HK.out (fun k h=> .inl (by injection h with h;rw[←h];exact GP.out)));replace HB:=zz (show Below w0.heap.size w0 w2_ from by rw[hw];exact qH HB.out GB.out);clear hp hw hx0 hf0 HP0)|(refine zL 63 23 Tryz.func63 #[.int .i64 (wrap64 (K+1))] ?_;(with_reducible refine(laws_markText.calls k1 (wrap64 (K+1)) t1 _ T1.out).mono ?_);rintro e w3_ ⟨rfl,hb⟩;refine⟨_,rfl,?_⟩;replace HO:=zz (Kd.vE (zS HO.out) hb);replace HK:=zz (Kept.below (by repeat(first|exact HK.out|apply Kept.alloc|apply Kept.drewN|apply Kept.drew)) hb);replace HB:=zz (zv zb hb);clear hb;obtain⟨u1,hx1,hf1,HP1⟩:=Ms.put (j:=1) (y':=(⟨t0,t1,y.f2,y.f3,y.f4⟩:S94)) (u:= .string t1) z94 HO.out HC.out.1 HC.out.2 (by decide) (fun okp c hM=>by obtain⟨v2,v4,rfl,g2,g4⟩:=k94_openM hM;exact k94_mkM _ _ _ (⟨t0,t1,y.f2,y.f3,y.f4⟩:S94) g2 g4);replace hx1:w3_.cell? ⟨g,x.toNat*5+1,none⟩=some u1:=hx1;replace hf1:w3_.frozen? ⟨g,x.toNat*5+1,none⟩=false:=hf1)|((with_reducible refine qP (t:=9) (p:=25) rfl ?_);refine qL (t:=9) (p:=25) (v:=?vo1) (w1:=(w3_.setCell ⟨g,x.toNat*5+1,none⟩ (.string t1))) ?hg ?ho ?hn ?hr ?_;(case ho=>rfl);(case hg=>rfl);(case hn=>rfl);(case hr=>first|(go_simp;done)|(go_simp;rfl));intro w4_ hw;have hp:=HP1.out w4_ hw;replace HO:=zz hp.1;replace HK:=zz (Kept.of_grown hp.2 HK.out (fun k h=> .inl (by injection h with h;rw[←h];exact GP.out)));replace HB:=zz (show Below w0.heap.size w0 w4_ from by rw[hw];exact qH HB.out GB.out);clear hp hw hx1 hf1 HP1;obtain⟨oki,c,hcl,hM,hcc,hoki,hH⟩:=Kd.S_lend HO.out z94 x HC.out.1 HC.out.2;rw[Ms.getD_set X x.toNat _ z94 (by have h1:=HC.out;have h2:=HX.out.2.2;omega)] at hM;obtain⟨v2,v4,rfl,g2,g4⟩:=k94_openM hM;obtain⟨A2,c2,rfl⟩:=Kd.qV g2;obtain⟨A4,c4,rfl⟩:=Kd.qV g4;have hx2:w4_.cell? ⟨g,x.toNat*5+2,none⟩=some (.slice A2 (y.f2).length c2):=hcc 2 _ rfl;have HH:=zz hH;have HOK:=zz hoki;have G2:=zz g2;have G4:=zz g4;clear hcl hM hcc hoki hH g2 g4)|(refine zL 16 34 Tryz.func16 #[.slice A2 (y.f2).length c2,.int .i64 (wrap64 ((wrap64 (K+1))+1))] ?_;(with_reducible refine(laws_markStringS.calls k1 (fun k=>some k=(.slice A2 (y.f2).length c2:Value).ownBlock) _ y.f2 (wrap64 ((wrap64 (K+1))+1)) n2 m2 w0 _ HB.out (Kd.R_tight rfl G2.out) T2.out).mono ?_);rintro e w5_ ⟨rfl,ho,hb,hk⟩;refine⟨_,rfl,?_⟩;have G4':=Kd.R_kept (Kd.R_apart' (v:= .slice A2 (y.f2).length c2) G4.out (Kd.R_typed G2.out) (by decide)) hk (fun k h1 h2=>h1.2 h2);replace HO:=zz (show Kd.S k94 94 w5_ w0.heap.size P0_ (.slice (some ⟨g,0,none⟩) l0.length cp) (X.set x.toNat (⟨t0,t1,m2,y.f3,y.f4⟩:S94)) from by have h3:=Kd.H_back (Kd.H_kept HH.out hk (fun k h1 h2 h3=>h2 (G2.out.1 k h3.symm))) (k94_mkM w5_ _ _ (⟨t0,t1,m2,y.f3,y.f4⟩:S94) (Kd.qT (Kd.R_tight rfl ho) (fun k hk=>G2.out.1 k hk.symm)) (Kd.qT G4' (fun _ h=>h.1))) (fun _ h=>h);rwa [List.set_set] at h3);replace HK:=zz (Kept.then_ HK.out hk (fun k h=> .inl (HOK.out k (G2.out.1 k h.symm)).1));replace HB:=zz hb;clear ho hb hk hx2 HH HOK G2 G4 G4')|(refine zL 63 38 Tryz.func63 #[.int .i64 n2] ?_;(with_reducible refine(laws_markText.calls k1 n2 t3 _ T3.out).mono ?_);rintro e w6_ ⟨rfl,hb⟩;refine⟨_,rfl,?_⟩;replace HO:=zz (Kd.vE (zS HO.out) hb);replace HK:=zz (Kept.below (by repeat(first|exact HK.out|apply Kept.alloc|apply Kept.drewN|apply Kept.drew)) hb);replace HB:=zz (zv zb hb);clear hb;obtain⟨u3,hx3,hf3,HP3⟩:=Ms.put (j:=3) (y':=(⟨t0,t1,m2,t3,y.f4⟩:S94)) (u:= .string t3) z94 HO.out HC.out.1 HC.out.2 (by decide) (fun okp c hM=>by obtain⟨v2,v4,rfl,g2,g4⟩:=k94_openM hM;exact k94_mkM _ _ _ (⟨t0,t1,m2,t3,y.f4⟩:S94) g2 g4);replace hx3:w6_.cell? ⟨g,x.toNat*5+3,none⟩=some u3:=hx3;replace hf3:w6_.frozen? ⟨g,x.toNat*5+3,none⟩=false:=hf3)|((with_reducible refine qP (t:=9) (p:=40) rfl ?_);refine qL (t:=9) (p:=40) (v:=?vo3) (w1:=(w6_.setCell ⟨g,x.toNat*5+3,none⟩ (.string t3))) ?hg ?ho ?hn ?hr ?_;(case ho=>rfl);(case hg=>rfl);(case hn=>rfl);(case hr=>first|(go_simp;done)|(go_simp;rfl));intro w7_ hw;have hp:=HP3.out w7_ hw;replace HO:=zz hp.1;replace HK:=zz (Kept.of_grown hp.2 HK.out (fun k h=> .inl (by injection h with h;rw[←h];exact GP.out)));replace HB:=zz (show Below w0.heap.size w0 w7_ from by rw[hw];exact qH HB.out GB.out);clear hp hw hx3 hf3 HP3;obtain⟨oki,c,hcl,hM,hcc,hoki,hH⟩:=Kd.S_lend HO.out z94 x HC.out.1 HC.out.2;rw[Ms.getD_set X x.toNat _ z94 (by have h1:=HC.out;have h2:=HX.out.2.2;omega)] at hM;obtain⟨v2,v4,rfl,g2,g4⟩:=k94_openM hM;obtain⟨A2,c2,rfl⟩:=Kd.qV g2;obtain⟨A4,c4,rfl⟩:=Kd.qV g4;have hx4:w7_.cell? ⟨g,x.toNat*5+4,none⟩=some (.slice A4 (y.f4).length c4):=hcc 4 _ rfl;have HH:=zz hH;have HOK:=zz hoki;have G2:=zz g2;have G4:=zz g4;clear hcl hM hcc hoki hH g2 g4)|(refine zL 23 49 Tryz.func23 #[.slice A4 (y.f4).length c4,.int .i64 (wrap64 (n2+1))] ?_;(with_reducible refine(laws_markEntryS.calls k1 (fun k=>some k=(.slice A4 (y.f4).length c4:Value).ownBlock) _ y.f4 (wrap64 (n2+1)) n4 m4 w0 _ HB.out (Kd.R_tight rfl G4.out) T4.out).mono ?_);rintro e w8_ ⟨rfl,ho,hb,hk⟩;refine⟨_,rfl,?_⟩;have G2':=Kd.R_kept (Kd.R_apart' (v:= .slice A4 (y.f4).length c4) G2.out (Kd.R_typed G4.out) (by decide)) hk (fun k h1 h2=>h1.2 h2);replace HO:=zz (show Kd.S k94 94 w8_ w0.heap.size P0_ (.slice (some ⟨g,0,none⟩) l0.length cp) (X.set x.toNat (⟨t0,t1,m2,t3,m4⟩:S94)) from by have h3:=Kd.H_back (Kd.H_kept HH.out hk (fun k h1 h2 h3=>h2 (G4.out.1 k h3.symm))) (k94_mkM w8_ _ _ (⟨t0,t1,m2,t3,m4⟩:S94) (Kd.qT G2' (fun _ h=>h.1)) (Kd.qT (Kd.R_tight rfl ho) (fun k hk=>G4.out.1 k hk.symm))) (fun _ h=>h);rwa [List.set_set] at h3);replace HK:=zz (Kept.then_ HK.out hk (fun k h=> .inl (HOK.out k (G4.out.1 k h.symm)).1));replace HB:=zz hb;clear ho hb hk hx4 HH HOK G2 G4 G2'))
   go_roundg k1
   case measure=>have:=HX.out.1;omega
   case rel=>exact⟨X.set x.toNat (⟨t0,t1,m2,t3,m4⟩:S94),n4,wrap64 (x+1),rfl,rfl,H',⟨⟨by have:=HX.out.1;omega,by have h1:=HXW.out;have h2:=HC.out;omega,by rw[List.length_set];exact HX.out.2.2⟩⟩,⟨zS HO.out⟩,⟨(by repeat(first|exact HK.out|apply Kept.alloc|apply Kept.drewN|apply Kept.drew))⟩,⟨zb⟩⟩
def laws_markProfileS.l0:Nat→List S67→Int→Int→Option (Int×List S67)
 |0,_,_,_=>none
 |k+1,x0,x1,x5=>if x5<(x0.length:Int) then((laws_markText.f k (x1)).bind fun t0=>(laws_markGenS.f k (qD x0 x5).f2 (wrap64 ((wrap64 ((x1)+1))+1))).bind fun q2=>(laws_markProfileS.l0 k (x0.set x5.toNat ⟨t0,wrap64 ((x1)+1),q2.2⟩) (q2.1) (wrap64 (x5+1)))) else some (x1,x0)
def laws_markProfileS.f(k:Nat)(l0:List S67)(a1:Int):Option (Int×List S67):=laws_markProfileS.l0 k l0 a1 0
theorem laws_markProfileS.calls(k:Nat)(P0_:Nat→Prop)(u:Value)(l0:List S67)(a1 r1:Int)(r2:List S67)(w0 w:World)(hB:Below w0.heap.size w0 w)(ho0:Kd.S k67 67 w w0.heap.size P0_ u l0)(h:laws_markProfileS.f k l0 a1=some (r1,r2))(hlen:l0.length<4611686018427387904):
 Calls Tryz.prog 60 #[u,.int .i64 a1] w fun e w'=>e= .returned (.int .i64 r1)∧Kd.S k67 67 w' w0.heap.size P0_ u r2∧Below w0.heap.size w0 w'∧Kept w w' P0_:=by
 unfold laws_markProfileS.f at h
 have H':=zz h
 obtain⟨A,cp,rfl⟩:=Kd.S_slice ho0
 have HO:=zz ho0
 have HB:=zz hB
 have HK:=zz (Kept.refl w P0_)
 have HL:=zz hlen
 clear h ho0 hB hlen
 go_enter Tryz.func60,Tryz.ntmps60
 go_wp2
 go_loopg[1,5] k (fun kq v1 v5 w'=>∃(X:List S67) (K x:Int),v1= .int .i64 K∧v5= .int .i64 x∧qA (laws_markProfileS.l0 kq X K x=some (r1,r2))∧qA (kq≤k∧0≤x∧X.length=l0.length)∧qA (Kd.S k67 67 w' w0.heap.size P0_ (.slice A l0.length cp) X)∧qA (Kept w w' P0_)∧qA (Below w0.heap.size w0 w'))
 case atStart=>exact⟨l0,a1,0,rfl,rfl,H',⟨⟨Nat.le_refl _,by omega,rfl⟩⟩,⟨zS HO.out⟩,⟨by repeat(first|exact HK.out|apply Kept.alloc|apply Kept.drewN|apply Kept.drew)⟩,⟨zb⟩⟩
 case round=>
  clear H' HO HK HB
  obtain⟨X,K,x,rfl,rfl,HA,HX,HO,HK,HB⟩:=hrel
  cases gk with
  |zero=>exact absurd HA.out (by simp[laws_markProfileS.l0])
  |succ k1=>
   have H:=HA.out
   clear HA
   simp only[laws_markProfileS.l0] at H
   by_cases c3:x<(l0.length:Int)
   case neg=>
    rw[if_neg (show¬x<(X.length:Int) by have:=HX.out.2.2;omega)] at H
    have c3b0:=z0 c3
    clear c3
    simp only[Option.some.injEq,Prod.mk.injEq] at H
    obtain⟨rfl,rfl⟩:=H
    go_wp2
    go_ret
    exact⟨rfl,zS HO.out,zb,by repeat(first|exact HK.out|apply Kept.alloc|apply Kept.drewN|apply Kept.drew)⟩
   rw[if_pos (show x<(X.length:Int) by have:=HX.out.2.2;omega)] at H
   have c3b0:=z1 c3
   replace H:=yf H
   obtain⟨t0,T0,H⟩:=H
   replace H:=zf H
   obtain⟨⟨n2,m2⟩,T2,H⟩:=H
   replace T2:=zz T2
   dsimp only at H
   have H':=zz H
   clear H
   have h0:0≤x:=HX.out.2.1
   have p0:=eq_true h0
   have q0:=eq_true c3
   have HC:=zz (And.intro h0 c3)
   clear h0 c3
   obtain⟨g,cp',eo,gb,gl,cl,hcl⟩:=Kd.R_form (Kd.S_R HO.out) (by have h1:=HC.out;have h2:=HX.out.2.2;omega)
   (first|cases eo|(injection eo with ea_ en_ ec_;(first|subst ea_|(injection ea_ with ea_;subst ea_));subst ec_;clear en_))
   have GB:=zz gb
   have GP:=zz ((Kd.S_R HO.out).1 g rfl)
   have HXW:=zz (show wrap64 (x+1)=x+1 from by have h1:=HC.out;have h2:=HL.out;simp[wrap64,IntKind.wrap];omega)
   clear gb gl hcl
   obtain⟨y,hy⟩:∃y,y=qD X x:=⟨_,rfl⟩
   rw[←hy] at T2
   have HO:=zz (show Kd.S k67 67 _ w0.heap.size P0_ (.slice (some ⟨g,0,none⟩) l0.length cp) (X.set x.toNat y) from by
    have e:X.set x.toNat y=X:=by
     rw[hy]
     show X.set x.toNat (X.getD x.toNat z67)=X
     rw[List.getD_eq_getElem?_getD,List.getElem?_eq_getElem (show x.toNat<X.length by have h1:=HC.out;have h2:=HX.out.2.2;omega)]
     exact List.set_getElem_self _
    rw[e]
    exact HO.out)
   clear hy
   go_wp2_with(first|(refine zL 63 15 Tryz.func63 #[.int .i64 K] ?_;(with_reducible refine(laws_markText.calls k1 K t0 _ T0.out).mono ?_);rintro e w1_ ⟨rfl,hb⟩;refine⟨_,rfl,?_⟩;replace HO:=zz (Kd.vE (zS HO.out) hb);replace HK:=zz (Kept.below (by repeat(first|exact HK.out|apply Kept.alloc|apply Kept.drewN|apply Kept.drew)) hb);replace HB:=zz (zv zb hb);clear hb;obtain⟨u0,hx0,hf0,HP0⟩:=Ms.put (j:=0) (y':=(⟨t0,y.f1,y.f2⟩:S67)) (u:= .string t0) z67 HO.out HC.out.1 HC.out.2 (by decide) (fun okp c hM=>by obtain⟨v2,rfl,g2⟩:=k67_openM hM;exact k67_mkM _ _ _ (⟨t0,y.f1,y.f2⟩:S67) g2);replace hx0:w1_.cell? ⟨g,x.toNat*3,none⟩=some u0:=hx0;replace hf0:w1_.frozen? ⟨g,x.toNat*3,none⟩=false:=hf0)|((with_reducible refine qP (t:=9) (p:=17) rfl ?_);refine qL (t:=9) (p:=17) (v:=?vo0) (w1:=(w1_.setCell ⟨g,x.toNat*3,none⟩ (.string t0))) ?hg ?ho ?hn ?hr ?_;(case ho=>rfl);(case hg=>rfl);(case hn=>rfl);(case hr=>first|(go_simp;done)|(go_simp;rfl));intro w2_ hw;have hp:=HP0.out w2_ hw;replace HO:=zz hp.1;replace HK:=zz (Kept.of_grown hp.2 HK.out (fun k h=> .inl (by injection h with h;rw[←h];exact GP.out)));replace HB:=zz (show Below w0.heap.size w0 w2_ from by rw[hw];exact qH HB.out GB.out);clear hp hw hx0 hf0 HP0;obtain⟨u1,hx1,hf1,HP1⟩:=Ms.put (j:=1) (y':=(⟨t0,(wrap64 (K+1)),y.f2⟩:S67)) (u:= .int .i64 (wrap64 (K+1))) z67 HO.out HC.out.1 HC.out.2 (by decide) (fun okp c hM=>by obtain⟨v2,rfl,g2⟩:=k67_openM hM;exact k67_mkM _ _ _ (⟨t0,(wrap64 (K+1)),y.f2⟩:S67) g2);replace hx1:w2_.cell? ⟨g,x.toNat*3+1,none⟩=some u1:=hx1;replace hf1:w2_.frozen? ⟨g,x.toNat*3+1,none⟩=false:=hf1)|((with_reducible refine qP (t:=2) (p:=24) rfl ?_);refine qL (t:=2) (p:=24) (v:=?vo1) (w1:=(w2_.setCell ⟨g,x.toNat*3+1,none⟩ (.int .i64 (wrap64 (K+1))))) ?hg ?ho ?hn ?hr ?_;(case ho=>rfl);(case hg=>rfl);(case hn=>rfl);(case hr=>first|(go_simp;done)|(go_simp;rfl));intro w3_ hw;have hp:=HP1.out w3_ hw;replace HO:=zz hp.1;replace HK:=zz (Kept.of_grown hp.2 HK.out (fun k h=> .inl (by injection h with h;rw[←h];exact GP.out)));replace HB:=zz (show Below w0.heap.size w0 w3_ from by rw[hw];exact qH HB.out GB.out);clear hp hw hx1 hf1 HP1;obtain⟨oki,c,hcl,hM,hcc,hoki,hH⟩:=Kd.S_lend HO.out z67 x HC.out.1 HC.out.2;rw[Ms.getD_set X x.toNat _ z67 (by have h1:=HC.out;have h2:=HX.out.2.2;omega)] at hM;obtain⟨v2,rfl,g2⟩:=k67_openM hM;obtain⟨A2,c2,rfl⟩:=Kd.qV g2;have hx2:w3_.cell? ⟨g,x.toNat*3+2,none⟩=some (.slice A2 (y.f2).length c2):=hcc 2 _ rfl;have HH:=zz hH;have HOK:=zz hoki;have G2:=zz g2;clear hcl hM hcc hoki hH g2)|(refine zL 102 33 Tryz.func102 #[.slice A2 (y.f2).length c2,.int .i64 (wrap64 ((wrap64 (K+1))+1))] ?_;(with_reducible refine(laws_markGenS.calls k1 (fun k=>some k=(.slice A2 (y.f2).length c2:Value).ownBlock) _ y.f2 (wrap64 ((wrap64 (K+1))+1)) n2 m2 w0 _ HB.out (Kd.R_tight rfl G2.out) T2.out).mono ?_);rintro e w4_ ⟨rfl,ho,hb,hk⟩;refine⟨_,rfl,?_⟩;replace HO:=zz (show Kd.S k67 67 w4_ w0.heap.size P0_ (.slice (some ⟨g,0,none⟩) l0.length cp) (X.set x.toNat (⟨t0,(wrap64 (K+1)),m2⟩:S67)) from by have h3:=Kd.H_back (Kd.H_kept HH.out hk (fun k h1 h2 h3=>h2 (G2.out.1 k h3.symm))) (k67_mkM w4_ _ _ (⟨t0,(wrap64 (K+1)),m2⟩:S67) (Kd.qT (Kd.R_tight rfl ho) (fun k hk=>G2.out.1 k hk.symm))) (fun _ h=>h);rwa [List.set_set] at h3);replace HK:=zz (Kept.then_ HK.out hk (fun k h=> .inl (HOK.out k (G2.out.1 k h.symm)).1));replace HB:=zz hb;clear ho hb hk hx2 HH HOK G2))
   go_roundg k1
   case measure=>have:=HX.out.1;omega
   case rel=>exact⟨X.set x.toNat (⟨t0,(wrap64 (K+1)),m2⟩:S67),n2,wrap64 (x+1),rfl,rfl,H',⟨⟨by have:=HX.out.1;omega,by have h1:=HXW.out;have h2:=HC.out;omega,by rw[List.length_set];exact HX.out.2.2⟩⟩,⟨zS HO.out⟩,⟨(by repeat(first|exact HK.out|apply Kept.alloc|apply Kept.drewN|apply Kept.drew))⟩,⟨zb⟩⟩
def laws_heldStringS.l0:Nat→List ByteArray→Int→Int→Option (Int)
 |0,_,_,_=>none
 |k+1,x0,x1,x5=>if x5<(x0.length:Int) then(if 0≤x5 then((laws_markText.f k x1).bind fun aa=>(if(rdOf ByteArray.empty x0 x5).toList=aa.toList then(laws_heldStringS.l0 k x0 (wrap64 (x1+1)) (wrap64 (x5+1))) else(some (-1)))) else(none)) else(some x1)
def laws_heldStringS.f(k:Nat)(l0:List ByteArray)(a1:Int):Option (Int):=laws_heldStringS.l0 k l0 a1 0
theorem laws_heldStringS.calls(k:Nat)(A0:Option Addr)(c0:Nat)(l0:List ByteArray)(a1:Int)(r:Int)(w:World)(ai:Kd.C Kd.string w A0 l0.length l0)(aj:l0.length≤c0)(h:laws_heldStringS.f k l0 a1=some r):
 Calls Tryz.prog 17 #[.slice A0 l0.length c0,.int .i64 a1] w fun e w'=>e= .returned (.int .i64 r)∧Below w.heap.size w w':=by
 have an:=zz ai
 have av:=zz aj
 clear ai aj
 have HB:=yB w
 unfold laws_heldStringS.f at h
 have H:=h
 clear h
 replace HB:=HB.out
 have HW:=yB w
 go_enter Tryz.func17,Tryz.ntmps17
 go_wp2_with(fail)
 go_loopg[1,5] k (fun kq v1 v5 w'=>∃(ab:Int) (aa:Int),v1= .int .i64 ab∧v5= .int .i64 aa∧qA (laws_heldStringS.l0 kq l0 ab aa=some r)∧qA (kq≤k)∧qA (Below w.heap.size w w'))
 case atStart=>exact⟨(a1),(0),zr,zr,⟨H⟩,⟨Nat.le_refl _⟩,⟨HB⟩⟩
 case round=>
  clear H HB
  obtain⟨ab,aa,rfl,rfl,H,af,HB⟩:=hrel
  replace HB:=HB.out
  replace H:=H.out
  have ah:=yB w
  cases gk with
  |zero=>exact absurd H (by simp[laws_heldStringS.l0])
  |succ ag=>
   simp only[laws_heldStringS.l0] at H
   refine yDn H ?_ ?_<;>clear H<;>intro ap H
   ·obtain rfl:=zi H
    exact yR
   go_wp2_with(fail)
   try simp only[Act.put,List.setIfInBounds_toArray,List.set_cons_zero,List.set_cons_succ]
   refine qN (C:=fun W_=>Below w.heap.size w W_) zk zk (qJ HB) ?_
   replace H:=yAD H
   obtain⟨ar,H⟩:=H
   have ad:0≤(aa:Int):=z2
   have ae:(aa:Int)<(l0.length:Int):=z2
   obtain⟨ao,ak,ac⟩:=Kd.vJ an.out aa ad ae
   cases ak
   replace ac:=qK ac
   replace ad:=eq_true ad
   replace ae:=eq_true ae
   replace H:=yf H
   obtain⟨au,A6,H⟩:=H
   refine yCn H ?_ ?_<;>clear H<;>intro c7 H
   ·obtain⟨al,am⟩:=zw c7
    obtain rfl:=zi H
    repeat(first|go_big_quiet_skip|(go_big_quiet_want;go_big_quiet_op;first|go_big_quiet_on|(with_reducible apply Exists.intro;refine⟨fun W hW=>?_,?_⟩;(first|with_reducible rfl|(go_at_call 63;exact vH (laws_markText.calls ag _ _ _ A6.out) hW)|(go_simp;with_reducible rfl));go_big_quiet_on)))
    clear HB
    refine zW fun w9 (HB:Below w.heap.size w w9)=>?_
    exact yR
   obtain⟨al,am⟩:=zq c7
   clear c7
   repeat(first|go_big_quiet_skip|(go_big_quiet_want;go_big_quiet_op;first|go_big_quiet_on|(with_reducible apply Exists.intro;refine⟨fun W hW=>?_,?_⟩;(first|with_reducible rfl|(go_at_call 63;exact vH (laws_markText.calls ag _ _ _ A6.out) hW)|(go_simp;with_reducible rfl));go_big_quiet_on)))
   clear HB
   refine zW fun w8 (HB:Below w.heap.size w w8)=>?_
   go_wp2_with(fail)
   go_roundg ag
   case measure=>have:=af.out;omega
   case rel=>exact⟨(wrap64 (ab+1)),(wrap64 (aa+1)),zr,zr,⟨H⟩,⟨by have:=af.out;omega⟩,⟨zv ah.out HB⟩⟩
def laws_heldEntryS.l0:Nat→List (S96)→Int→Int→Option (Int)
 |0,_,_,_=>none
 |k+1,x0,x1,x5=>if x5<(x0.length:Int) then(if 0≤x5 then((laws_markText.f k x1).bind fun aa=>(if((qB x0 x5).f0).toList=aa.toList then(if((qB x0 x5).f1)=(wrap64 (x1+1)) then((laws_markText.f k (wrap64 ((wrap64 (x1+1))+1))).bind fun ab=>(if((qB x0 x5).f2).toList=ab.toList then(if(((qB x0 x5).f3) !=((Int.tmod (wrap64 ((wrap64 ((wrap64 (x1+1))+1))+1)) 3)==0))=true then(some (-1)) else(laws_heldEntryS.l0 k x0 (wrap64 ((wrap64 ((wrap64 ((wrap64 (x1+1))+1))+1))+1)) (wrap64 (x5+1)))) else(some (-1)))) else(some (-1))) else(some (-1)))) else(none)) else(some x1)
def laws_heldEntryS.f(k:Nat)(l0:List (S96))(a1:Int):Option (Int):=laws_heldEntryS.l0 k l0 a1 0
theorem laws_heldEntryS.calls(k:Nat)(A0:Option Addr)(c0:Nat)(l0:List (S96))(a1:Int)(r:Int)(w:World)(au:Kd.C k96 w A0 l0.length l0)(av:l0.length≤c0)(h:laws_heldEntryS.f k l0 a1=some r):
 Calls Tryz.prog 24 #[.slice A0 l0.length c0,.int .i64 a1] w fun e w'=>e= .returned (.int .i64 r)∧Below w.heap.size w w':=by
 have aB:=zz au
 have aP:=zz av
 clear au av
 have HB:=yB w
 unfold laws_heldEntryS.f at h
 have H:=h
 clear h
 replace HB:=HB.out
 have HW:=yB w
 go_enter Tryz.func24,Tryz.ntmps24
 go_wp2_with(fail)
 go_loopg[1,5] k (fun kq v1 v5 w'=>∃(ab:Int) (aa:Int),v1= .int .i64 ab∧v5= .int .i64 aa∧qA (laws_heldEntryS.l0 kq l0 ab aa=some r)∧qA (kq≤k)∧qA (Below w.heap.size w w'))
 case atStart=>exact⟨(a1),(0),zr,zr,⟨H⟩,⟨Nat.le_refl _⟩,⟨HB⟩⟩
 case round=>
  clear H HB
  obtain⟨ab,aa,rfl,rfl,H,ai,HB⟩:=hrel
  replace HB:=HB.out
  replace H:=H.out
  have al:=yB w
  cases gk with
  |zero=>exact absurd H (by simp[laws_heldEntryS.l0])
  |succ ad=>
   simp only[laws_heldEntryS.l0] at H
   refine yDn H ?_ ?_<;>clear H<;>intro aJ H
   ·obtain rfl:=zi H
    exact yR
   go_wp2_with(fail)
   try simp only[Act.put,List.setIfInBounds_toArray,List.set_cons_zero,List.set_cons_succ]
   refine qN (C:=fun W_=>Below w.heap.size w W_) zk zk (qJ HB) ?_
   replace H:=yAD H
   obtain⟨aK,H⟩:=H
   have aL:=yt (0≤(aa:Int))
   have aM:=yt ((aa:Int)<(l0.length:Int))
   obtain⟨aH,aw,ae,af,ag,ah⟩:=at_T96 aB.out aa z2 z2
   cases aw
   replace ae:=qK ae
   replace af:=qK af
   replace ag:=qK ag
   replace ah:=qK ah
   replace H:=yf H
   obtain⟨aN,A6,H⟩:=H
   refine yCn H ?_ ?_<;>clear H<;>intro c7 H
   ·obtain⟨ax,ay⟩:=zw c7
    obtain rfl:=zi H
    repeat(first|go_big_quiet_skip|(go_big_quiet_want;go_big_quiet_op;first|go_big_quiet_on|(with_reducible apply Exists.intro;refine⟨fun W hW=>?_,?_⟩;(first|with_reducible rfl|(go_at_call 63;exact vH (laws_markText.calls ad _ _ _ A6.out) hW)|(go_simp;with_reducible rfl));go_big_quiet_on)))
    clear HB
    refine zW fun aC (HB:Below w.heap.size w aC)=>?_
    exact yR
   obtain⟨ax,ay⟩:=zq c7
   clear c7
   refine yCn H ?_ ?_<;>clear H<;>intro c8 H
   ·obtain⟨az,aA⟩:=zw c8
    obtain rfl:=zi H
    repeat(first|go_big_quiet_skip|(go_big_quiet_want;go_big_quiet_op;first|go_big_quiet_on|(with_reducible apply Exists.intro;refine⟨fun W hW=>?_,?_⟩;(first|with_reducible rfl|(go_at_call 63;exact vH (laws_markText.calls ad _ _ _ A6.out) hW)|(go_simp;with_reducible rfl));go_big_quiet_on)))
    clear HB
    refine zW fun aD (HB:Below w.heap.size w aD)=>?_
    exact yR
   obtain⟨az,aA⟩:=zq c8
   clear c8
   repeat(first|go_big_quiet_skip|(go_big_quiet_want;go_big_quiet_op;first|go_big_quiet_on|(with_reducible apply Exists.intro;refine⟨fun W hW=>?_,?_⟩;(first|with_reducible rfl|(go_at_call 63;exact vH (laws_markText.calls ad _ _ _ A6.out) hW)|(go_simp;with_reducible rfl));go_big_quiet_on)))
   clear HB
   refine zW fun w9 (HB:Below w.heap.size w w9)=>?_
   go_wp2_with(fail)
   try simp only[Act.put,List.setIfInBounds_toArray,List.set_cons_zero,List.set_cons_succ]
   refine qN (C:=fun W_=>Below w.heap.size w W_) zk zk (qJ HB) ?_
   replace H:=yf H
   obtain⟨aO,aj,H⟩:=H
   refine yCn H ?_ ?_<;>clear H<;>intro ak H
   ·obtain⟨am,an⟩:=zw ak
    obtain rfl:=zi H
    repeat(first|go_big_quiet_skip|(go_big_quiet_want;go_big_quiet_op;first|go_big_quiet_on|(with_reducible apply Exists.intro;refine⟨fun W hW=>?_,?_⟩;(first|with_reducible rfl|(go_at_call 63;exact vH (laws_markText.calls ad _ _ _ aj.out) hW)|(go_simp;with_reducible rfl));go_big_quiet_on)))
    clear HB
    refine zW fun aE (HB:Below w.heap.size w aE)=>?_
    exact yR
   obtain⟨am,an⟩:=zq ak
   clear ak
   refine yCn H ?_ ?_<;>clear H<;>intro ac H
   ·have ao:(((qB l0 aa).f3) !=((Int.tmod (wrap64 ((wrap64 ((wrap64 (ab+1))+1))+1)) 3)==0))=false:=by simpa using ac
    (try(have ap:decide (((qB l0 aa).f3)=((Int.tmod (wrap64 ((wrap64 ((wrap64 (ab+1))+1))+1)) 3)==0))=true:=by simpa using ac))
    (try(have ar:(((qB l0 aa).f3)==((Int.tmod (wrap64 ((wrap64 ((wrap64 (ab+1))+1))+1)) 3)==0))=true:=by simpa using ac))
    clear ac
    repeat(first|go_big_quiet_skip|(go_big_quiet_want;go_big_quiet_op;first|go_big_quiet_on|(with_reducible apply Exists.intro;refine⟨fun W hW=>?_,?_⟩;(first|with_reducible rfl|(go_at_call 63;exact vH (laws_markText.calls ad _ _ _ aj.out) hW)|(go_simp;with_reducible rfl));go_big_quiet_on)))
    clear HB
    refine zW fun aF (HB:Below w.heap.size w aF)=>?_
    go_wp2_with(fail)
    go_roundg ad
    case measure=>have:=ai.out;omega
    case rel=>exact⟨(wrap64 ((wrap64 ((wrap64 ((wrap64 (ab+1))+1))+1))+1)),(wrap64 (aa+1)),zr,zr,⟨H⟩,⟨by have:=ai.out;omega⟩,⟨zv al.out HB⟩⟩
   have ao:(((qB l0 aa).f3) !=((Int.tmod (wrap64 ((wrap64 ((wrap64 (ab+1))+1))+1)) 3)==0))=true:=ac
   (try(have ap:decide (((qB l0 aa).f3)=((Int.tmod (wrap64 ((wrap64 ((wrap64 (ab+1))+1))+1)) 3)==0))=false:=by simpa using ac))
   (try(have ar:(((qB l0 aa).f3)==((Int.tmod (wrap64 ((wrap64 ((wrap64 (ab+1))+1))+1)) 3)==0))=false:=by simpa using ac))
   (try(have aI:¬(((qB l0 aa).f3)=((Int.tmod (wrap64 ((wrap64 ((wrap64 (ab+1))+1))+1)) 3)==0)):=by simpa using ac))
   clear ac
   obtain rfl:=zi H
   repeat(first|go_big_quiet_skip|(go_big_quiet_want;go_big_quiet_op;first|go_big_quiet_on|(with_reducible apply Exists.intro;refine⟨fun W hW=>?_,?_⟩;(first|with_reducible rfl|(go_at_call 63;exact vH (laws_markText.calls ad _ _ _ aj.out) hW)|(go_simp;with_reducible rfl));go_big_quiet_on)))
   clear HB
   refine zW fun aG (HB:Below w.heap.size w aG)=>?_
   exact yR
def laws_heldItemS.l0:Nat→List (S94)→Int→Int→Option (Int)
 |0,_,_,_=>none
 |k+1,x0,x1,x5=>if x5<(x0.length:Int) then(if 0≤x5 then((laws_markText.f k x1).bind fun ac=>(if((qG x0 x5).f0).toList=ac.toList then((laws_markText.f k (wrap64 (x1+1))).bind fun ad=>(if((qG x0 x5).f1).toList=ad.toList then((laws_heldStringS.f k ((qG x0 x5).f2) (wrap64 ((wrap64 (x1+1))+1))).bind fun aa=>(if aa<0 then(some (-1)) else((laws_markText.f k aa).bind fun ae=>(if((qG x0 x5).f3).toList=ae.toList then((laws_heldEntryS.f k ((qG x0 x5).f4) (wrap64 (aa+1))).bind fun ab=>(if ab<0 then(some (-1)) else(laws_heldItemS.l0 k x0 ab (wrap64 (x5+1))))) else(some (-1)))))) else(some (-1)))) else(some (-1)))) else(none)) else(some x1)
def laws_heldItemS.f(k:Nat)(l0:List (S94))(a1:Int):Option (Int):=laws_heldItemS.l0 k l0 a1 0
theorem laws_heldItemS.calls(k:Nat)(A0:Option Addr)(c0:Nat)(l0:List (S94))(a1:Int)(r:Int)(w:World)(aC:Kd.C k94 w A0 l0.length l0)(aD:l0.length≤c0)(h:laws_heldItemS.f k l0 a1=some r):
 Calls Tryz.prog 70 #[.slice A0 l0.length c0,.int .i64 a1] w fun e w'=>e= .returned (.int .i64 r)∧Below w.heap.size w w':=by
 have aK:=zz aC
 have a8:=zz aD
 clear aC aD
 have HB:=yB w
 unfold laws_heldItemS.f at h
 have H:=h
 clear h
 replace HB:=HB.out
 have HW:=yB w
 go_enter Tryz.func70,Tryz.ntmps70
 go_wp2_with(fail)
 go_loopg[1,5] k (fun kq v1 v5 w'=>∃(ac:Int) (aa:Int),v1= .int .i64 ac∧v5= .int .i64 aa∧qA (laws_heldItemS.l0 kq l0 ac aa=some r)∧qA (kq≤k)∧qA (Below w.heap.size w w'))
 case atStart=>exact⟨(a1),(0),zr,zr,⟨H⟩,⟨Nat.le_refl _⟩,⟨HB⟩⟩
 case round=>
  clear H HB
  obtain⟨ac,aa,rfl,rfl,H,ar,HB⟩:=hrel
  replace HB:=HB.out
  replace H:=H.out
  have ax:=yB w
  cases gk with
  |zero=>exact absurd H (by simp[laws_heldItemS.l0])
  |succ ab=>
   simp only[laws_heldItemS.l0] at H
   refine yDn H ?_ ?_<;>clear H<;>intro aZ H
   ·obtain rfl:=zi H
    exact yR
   go_wp2_with(fail)
   try simp only[Act.put,List.setIfInBounds_toArray,List.set_cons_zero,List.set_cons_succ]
   refine qN (C:=fun W_=>Below w.heap.size w W_) zk zk (qJ HB) ?_
   replace H:=yAD H
   obtain⟨a0,H⟩:=H
   have a2:=yt (0≤(aa:Int))
   have a3:=yt ((aa:Int)<(l0.length:Int))
   obtain⟨aW,aL,aM,aN,aO,aG,ad,ae,af,ag,ah,ai,aj,ak,al⟩:=at_T94 aK.out aa z2 z2
   cases aG
   replace ad:=qK ad
   replace ae:=qK ae
   replace af:=qK af
   replace ag:=qK ag
   replace ah:=qK ah
   have am:=zz aj
   have an:=zz ai
   clear aj ai
   have ao:=zz al
   have ap:=zz ak
   clear al ak
   replace H:=yf H
   obtain⟨a4,A6,H⟩:=H
   refine yCn H ?_ ?_<;>clear H<;>intro c7 H
   ·obtain⟨aH,aI⟩:=zw c7
    obtain rfl:=zi H
    repeat(first|go_big_quiet_skip|(go_big_quiet_want;go_big_quiet_op;first|go_big_quiet_on|(with_reducible apply Exists.intro;refine⟨fun W hW=>?_,?_⟩;(first|with_reducible rfl|(go_at_call 63;exact vH (laws_markText.calls ab _ _ _ A6.out) hW)|(go_simp;with_reducible rfl));go_big_quiet_on)))
    clear HB
    refine zW fun aP (HB:Below w.heap.size w aP)=>?_
    exact yR
   obtain⟨aH,aI⟩:=zq c7
   clear c7
   repeat(first|go_big_quiet_skip|(go_big_quiet_want;go_big_quiet_op;first|go_big_quiet_on|(with_reducible apply Exists.intro;refine⟨fun W hW=>?_,?_⟩;(first|with_reducible rfl|(go_at_call 63;exact vH (laws_markText.calls ab _ _ _ A6.out) hW)|(go_simp;with_reducible rfl));go_big_quiet_on)))
   clear HB
   refine zW fun w8 (HB:Below w.heap.size w w8)=>?_
   go_wp2_with(fail)
   try simp only[Act.put,List.setIfInBounds_toArray,List.set_cons_zero,List.set_cons_succ]
   refine qN (C:=fun W_=>Below w.heap.size w W_) zk zk (qJ HB) ?_
   replace H:=yf H
   obtain⟨a5,A9,H⟩:=H
   refine yCn H ?_ ?_<;>clear H<;>intro au H
   ·obtain⟨ay,az⟩:=zw au
    obtain rfl:=zi H
    repeat(first|go_big_quiet_skip|(go_big_quiet_want;go_big_quiet_op;first|go_big_quiet_on|(with_reducible apply Exists.intro;refine⟨fun W hW=>?_,?_⟩;(first|with_reducible rfl|(go_at_call 63;exact vH (laws_markText.calls ab _ _ _ A9.out) hW)|(go_simp;with_reducible rfl));go_big_quiet_on)))
    clear HB
    refine zW fun aQ (HB:Below w.heap.size w aQ)=>?_
    exact yR
   obtain⟨ay,az⟩:=zq au
   clear au
   replace H:=yf H
   obtain⟨a6,aE,H⟩:=H
   refine yD H ?_ ?_<;>clear H<;>intro aX H
   ·repeat(first|go_big_quiet_skip|(go_big_quiet_want;go_big_quiet_op;first|go_big_quiet_on|(with_reducible apply Exists.intro;refine⟨fun W hW=>?_,?_⟩;(first|with_reducible rfl|(go_at_call 63;exact vH (laws_markText.calls ab _ _ _ A9.out) hW)|(go_simp;with_reducible rfl));go_big_quiet_on)))
    clear HB
    refine zW fun aR (HB:Below w.heap.size w aR)=>?_
    go_wp2_with(fail)
    refine(laws_heldStringS.calls ab _ _ _ _ _ _ (Kd.qC am.out HB) an.out aE.out).mono ?_
    rintro e a9 ⟨rfl,hb⟩
    replace HB:=zv HB hb
    clear hb
    obtain rfl:=zi H
    exact yR
   repeat(first|go_big_quiet_skip|(go_big_quiet_want;go_big_quiet_op;first|go_big_quiet_on|(with_reducible apply Exists.intro;refine⟨fun W hW=>?_,?_⟩;(first|with_reducible rfl|(go_at_call 63;exact vH (laws_markText.calls ab _ _ _ A9.out) hW)|(go_simp;with_reducible rfl));go_big_quiet_on)))
   clear HB
   refine zW fun aS (HB:Below w.heap.size w aS)=>?_
   go_wp2_with(fail)
   refine(laws_heldStringS.calls ab _ _ _ _ _ _ (Kd.qC am.out HB) an.out aE.out).mono ?_
   rintro e ba ⟨rfl,hb⟩
   replace HB:=zv HB hb
   clear hb
   go_wp2_with(fail)
   try simp only[Act.put,List.setIfInBounds_toArray,List.set_cons_zero,List.set_cons_succ]
   refine qN (C:=fun W_=>Below w.heap.size w W_) zk zk (qJ HB) ?_
   replace H:=yf H
   obtain⟨a7,av,H⟩:=H
   refine yCn H ?_ ?_<;>clear H<;>intro aw H
   ·obtain⟨aA,aB⟩:=zw aw
    obtain rfl:=zi H
    repeat(first|go_big_quiet_skip|(go_big_quiet_want;go_big_quiet_op;first|go_big_quiet_on|(with_reducible apply Exists.intro;refine⟨fun W hW=>?_,?_⟩;(first|with_reducible rfl|(go_at_call 63;exact vH (laws_markText.calls ab _ _ _ av.out) hW)|(go_simp;with_reducible rfl));go_big_quiet_on)))
    clear HB
    refine zW fun aT (HB:Below w.heap.size w aT)=>?_
    exact yR
   obtain⟨aA,aB⟩:=zq aw
   clear aw
   replace H:=yf H
   obtain⟨aJ,aF,H⟩:=H
   refine yD H ?_ ?_<;>clear H<;>intro aY H
   ·repeat(first|go_big_quiet_skip|(go_big_quiet_want;go_big_quiet_op;first|go_big_quiet_on|(with_reducible apply Exists.intro;refine⟨fun W hW=>?_,?_⟩;(first|with_reducible rfl|(go_at_call 63;exact vH (laws_markText.calls ab _ _ _ av.out) hW)|(go_simp;with_reducible rfl));go_big_quiet_on)))
    clear HB
    refine zW fun aU (HB:Below w.heap.size w aU)=>?_
    go_wp2_with(fail)
    refine(laws_heldEntryS.calls ab _ _ _ _ _ _ (Kd.qC ao.out HB) ap.out aF.out).mono ?_
    rintro e bb ⟨rfl,hb⟩
    replace HB:=zv HB hb
    clear hb
    obtain rfl:=zi H
    exact yR
   repeat(first|go_big_quiet_skip|(go_big_quiet_want;go_big_quiet_op;first|go_big_quiet_on|(with_reducible apply Exists.intro;refine⟨fun W hW=>?_,?_⟩;(first|with_reducible rfl|(go_at_call 63;exact vH (laws_markText.calls ab _ _ _ av.out) hW)|(go_simp;with_reducible rfl));go_big_quiet_on)))
   clear HB
   refine zW fun aV (HB:Below w.heap.size w aV)=>?_
   go_wp2_with(fail)
   refine(laws_heldEntryS.calls ab _ _ _ _ _ _ (Kd.qC ao.out HB) ap.out aF.out).mono ?_
   rintro e bc ⟨rfl,hb⟩
   replace HB:=zv HB hb
   clear hb
   go_wp2_with(fail)
   go_roundg ab
   case measure=>have:=ar.out;omega
   case rel=>exact⟨(aJ),(wrap64 (aa+1)),zr,zr,⟨H⟩,⟨by have:=ar.out;omega⟩,⟨zv ax.out HB⟩⟩
def laws_heldGenS.l0:Nat→List (S70)→Int→Int→Option (Int)
 |0,_,_,_=>none
 |k+1,x0,x1,x5=>if x5<(x0.length:Int) then(if 0≤x5 then(if((qQ x0 x5).f0)=x1 then((laws_markText.f k (wrap64 (x1+1))).bind fun aa=>(if((qQ x0 x5).f1).toList=aa.toList then(laws_heldGenS.l0 k x0 (wrap64 ((wrap64 (x1+1))+1)) (wrap64 (x5+1))) else(some (-1)))) else(some (-1))) else(none)) else(some x1)
def laws_heldGenS.f(k:Nat)(l0:List (S70))(a1:Int):Option (Int):=laws_heldGenS.l0 k l0 a1 0
theorem laws_heldGenS.calls(k:Nat)(A0:Option Addr)(c0:Nat)(l0:List (S70))(a1:Int)(r:Int)(w:World)(ah:Kd.C k70 w A0 l0.length l0)(ai:l0.length≤c0)(h:laws_heldGenS.f k l0 a1=some r):
 Calls Tryz.prog 113 #[.slice A0 l0.length c0,.int .i64 a1] w fun e w'=>e= .returned (.int .i64 r)∧Below w.heap.size w w':=by
 have ao:=zz ah
 have az:=zz ai
 clear ah ai
 have HB:=yB w
 unfold laws_heldGenS.f at h
 have H:=h
 clear h
 replace HB:=HB.out
 have HW:=yB w
 go_enter Tryz.func113,Tryz.ntmps113
 go_wp2_with(fail)
 go_loopg[1,5] k (fun kq v1 v5 w'=>∃(ab:Int) (aa:Int),v1= .int .i64 ab∧v5= .int .i64 aa∧qA (laws_heldGenS.l0 kq l0 ab aa=some r)∧qA (kq≤k)∧qA (Below w.heap.size w w'))
 case atStart=>exact⟨(a1),(0),zr,zr,⟨H⟩,⟨Nat.le_refl _⟩,⟨HB⟩⟩
 case round=>
  clear H HB
  obtain⟨ab,aa,rfl,rfl,H,ae,HB⟩:=hrel
  replace HB:=HB.out
  replace H:=H.out
  have ag:=yB w
  cases gk with
  |zero=>exact absurd H (by simp[laws_heldGenS.l0])
  |succ af=>
   simp only[laws_heldGenS.l0] at H
   refine yDn H ?_ ?_<;>clear H<;>intro au H
   ·obtain rfl:=zi H
    exact yR
   replace H:=yAD H
   obtain⟨av,H⟩:=H
   have aw:=yt (0≤(aa:Int))
   have ax:=yt ((aa:Int)<(l0.length:Int))
   obtain⟨ar,aj,ac,ad⟩:=at_T70 ao.out aa z2 z2
   cases aj
   replace ac:=qK ac
   replace ad:=qK ad
   refine yCn H ?_ ?_<;>clear H<;>intro c6 H
   ·obtain⟨ak,al⟩:=zw c6
    obtain rfl:=zi H
    exact yR
   obtain⟨ak,al⟩:=zq c6
   clear c6
   go_wp2_with(fail)
   try simp only[Act.put,List.setIfInBounds_toArray,List.set_cons_zero,List.set_cons_succ]
   refine qN (C:=fun W_=>Below w.heap.size w W_) zk zk (qJ HB) ?_
   replace H:=yf H
   obtain⟨ay,A7,H⟩:=H
   refine yCn H ?_ ?_<;>clear H<;>intro c8 H
   ·obtain⟨am,an⟩:=zw c8
    obtain rfl:=zi H
    repeat(first|go_big_quiet_skip|(go_big_quiet_want;go_big_quiet_op;first|go_big_quiet_on|(with_reducible apply Exists.intro;refine⟨fun W hW=>?_,?_⟩;(first|with_reducible rfl|(go_at_call 63;exact vH (laws_markText.calls af _ _ _ A7.out) hW)|(go_simp;with_reducible rfl));go_big_quiet_on)))
    clear HB
    refine zW fun ap (HB:Below w.heap.size w ap)=>?_
    exact yR
   obtain⟨am,an⟩:=zq c8
   clear c8
   repeat(first|go_big_quiet_skip|(go_big_quiet_want;go_big_quiet_op;first|go_big_quiet_on|(with_reducible apply Exists.intro;refine⟨fun W hW=>?_,?_⟩;(first|with_reducible rfl|(go_at_call 63;exact vH (laws_markText.calls af _ _ _ A7.out) hW)|(go_simp;with_reducible rfl));go_big_quiet_on)))
   clear HB
   refine zW fun w9 (HB:Below w.heap.size w w9)=>?_
   go_wp2_with(fail)
   go_roundg af
   case measure=>have:=ae.out;omega
   case rel=>exact⟨(wrap64 ((wrap64 (ab+1))+1)),(wrap64 (aa+1)),zr,zr,⟨H⟩,⟨by have:=ae.out;omega⟩,⟨zv ag.out HB⟩⟩
def laws_heldProfileS.l0:Nat→List (S67)→Int→Int→Option (Int)
 |0,_,_,_=>none
 |k+1,x0,x1,x5=>if x5<(x0.length:Int) then(if 0≤x5 then((laws_markText.f k x1).bind fun ab=>(if((qD x0 x5).f0).toList=ab.toList then(if((qD x0 x5).f1)=(wrap64 (x1+1)) then((laws_heldGenS.f k ((qD x0 x5).f2) (wrap64 ((wrap64 (x1+1))+1))).bind fun aa=>(if aa<0 then(some (-1)) else(laws_heldProfileS.l0 k x0 aa (wrap64 (x5+1))))) else(some (-1))) else(some (-1)))) else(none)) else(some x1)
def laws_heldProfileS.f(k:Nat)(l0:List (S67))(a1:Int):Option (Int):=laws_heldProfileS.l0 k l0 a1 0
theorem laws_heldProfileS.calls(k:Nat)(A0:Option Addr)(c0:Nat)(l0:List (S67))(a1:Int)(r:Int)(w:World)(am:Kd.C k67 w A0 l0.length l0)(an:l0.length≤c0)(h:laws_heldProfileS.f k l0 a1=some r):
 Calls Tryz.prog 71 #[.slice A0 l0.length c0,.int .i64 a1] w fun e w'=>e= .returned (.int .i64 r)∧Below w.heap.size w w':=by
 have ax:=zz am
 have aL:=zz an
 clear am an
 have HB:=yB w
 unfold laws_heldProfileS.f at h
 have H:=h
 clear h
 replace HB:=HB.out
 have HW:=yB w
 go_enter Tryz.func71,Tryz.ntmps71
 go_wp2_with(fail)
 go_loopg[1,5] k (fun kq v1 v5 w'=>∃(ab:Int) (aa:Int),v1= .int .i64 ab∧v5= .int .i64 aa∧qA (laws_heldProfileS.l0 kq l0 ab aa=some r)∧qA (kq≤k)∧qA (Below w.heap.size w w'))
 case atStart=>exact⟨(a1),(0),zr,zr,⟨H⟩,⟨Nat.le_refl _⟩,⟨HB⟩⟩
 case round=>
  clear H HB
  obtain⟨ab,aa,rfl,rfl,H,ak,HB⟩:=hrel
  replace HB:=HB.out
  replace H:=H.out
  have al:=yB w
  cases gk with
  |zero=>exact absurd H (by simp[laws_heldProfileS.l0])
  |succ ac=>
   simp only[laws_heldProfileS.l0] at H
   refine yDn H ?_ ?_<;>clear H<;>intro aG H
   ·obtain rfl:=zi H
    exact yR
   go_wp2_with(fail)
   try simp only[Act.put,List.setIfInBounds_toArray,List.set_cons_zero,List.set_cons_succ]
   refine qN (C:=fun W_=>Below w.heap.size w W_) zk zk (qJ HB) ?_
   replace H:=yAD H
   obtain⟨aH,H⟩:=H
   have aI:=yt (0≤(aa:Int))
   have aJ:=yt ((aa:Int)<(l0.length:Int))
   obtain⟨aE,ay,az,ao,ad,ae,af,ag,ah⟩:=at_T67 ax.out aa z2 z2
   cases ao
   replace ad:=qK ad
   replace ae:=qK ae
   replace af:=qK af
   have ai:=zz ah
   have aj:=zz ag
   clear ah ag
   replace H:=yf H
   obtain⟨aK,A6,H⟩:=H
   refine yCn H ?_ ?_<;>clear H<;>intro c7 H
   ·obtain⟨ap,ar⟩:=zw c7
    obtain rfl:=zi H
    repeat(first|go_big_quiet_skip|(go_big_quiet_want;go_big_quiet_op;first|go_big_quiet_on|(with_reducible apply Exists.intro;refine⟨fun W hW=>?_,?_⟩;(first|with_reducible rfl|(go_at_call 63;exact vH (laws_markText.calls ac _ _ _ A6.out) hW)|(go_simp;with_reducible rfl));go_big_quiet_on)))
    clear HB
    refine zW fun aA (HB:Below w.heap.size w aA)=>?_
    exact yR
   obtain⟨ap,ar⟩:=zq c7
   clear c7
   refine yCn H ?_ ?_<;>clear H<;>intro c8 H
   ·obtain⟨au,av⟩:=zw c8
    obtain rfl:=zi H
    repeat(first|go_big_quiet_skip|(go_big_quiet_want;go_big_quiet_op;first|go_big_quiet_on|(with_reducible apply Exists.intro;refine⟨fun W hW=>?_,?_⟩;(first|with_reducible rfl|(go_at_call 63;exact vH (laws_markText.calls ac _ _ _ A6.out) hW)|(go_simp;with_reducible rfl));go_big_quiet_on)))
    clear HB
    refine zW fun aB (HB:Below w.heap.size w aB)=>?_
    exact yR
   obtain⟨au,av⟩:=zq c8
   clear c8
   replace H:=yf H
   obtain⟨aw,A9,H⟩:=H
   refine yD H ?_ ?_<;>clear H<;>intro aF H
   ·repeat(first|go_big_quiet_skip|(go_big_quiet_want;go_big_quiet_op;first|go_big_quiet_on|(with_reducible apply Exists.intro;refine⟨fun W hW=>?_,?_⟩;(first|with_reducible rfl|(go_at_call 63;exact vH (laws_markText.calls ac _ _ _ A6.out) hW)|(go_simp;with_reducible rfl));go_big_quiet_on)))
    clear HB
    refine zW fun aC (HB:Below w.heap.size w aC)=>?_
    go_wp2_with(fail)
    refine(laws_heldGenS.calls ac _ _ _ _ _ _ (Kd.qC ai.out HB) aj.out A9.out).mono ?_
    rintro e aM ⟨rfl,hb⟩
    replace HB:=zv HB hb
    clear hb
    obtain rfl:=zi H
    exact yR
   repeat(first|go_big_quiet_skip|(go_big_quiet_want;go_big_quiet_op;first|go_big_quiet_on|(with_reducible apply Exists.intro;refine⟨fun W hW=>?_,?_⟩;(first|with_reducible rfl|(go_at_call 63;exact vH (laws_markText.calls ac _ _ _ A6.out) hW)|(go_simp;with_reducible rfl));go_big_quiet_on)))
   clear HB
   refine zW fun aD (HB:Below w.heap.size w aD)=>?_
   go_wp2_with(fail)
   refine(laws_heldGenS.calls ac _ _ _ _ _ _ (Kd.qC ai.out HB) aj.out A9.out).mono ?_
   rintro e aN ⟨rfl,hb⟩
   replace HB:=zv HB hb
   clear hb
   go_wp2_with(fail)
   go_roundg ac
   case measure=>have:=ak.out;omega
   case rel=>exact⟨(aw),(wrap64 (aa+1)),zr,zr,⟨H⟩,⟨by have:=ak.out;omega⟩,⟨zv al.out HB⟩⟩
def laws_heldPendingS.l0:Nat→List (S61)→Int→Int→Option (Int)
 |0,_,_,_=>none
 |k+1,x0,x1,x5=>if x5<(x0.length:Int) then(if 0≤x5 then((laws_markText.f k x1).bind fun ab=>(if((qR x0 x5).f0).toList=ab.toList then((laws_heldEntryS.f k ((qR x0 x5).f1) (wrap64 (x1+1))).bind fun aa=>(if aa<0 then(some (-1)) else((laws_markText.f k aa).bind fun ac=>(if((qR x0 x5).f2).toList=ac.toList then(laws_heldPendingS.l0 k x0 (wrap64 (aa+1)) (wrap64 (x5+1))) else(some (-1)))))) else(some (-1)))) else(none)) else(some x1)
def laws_heldPendingS.f(k:Nat)(l0:List (S61))(a1:Int):Option (Int):=laws_heldPendingS.l0 k l0 a1 0
theorem laws_heldPendingS.calls(k:Nat)(A0:Option Addr)(c0:Nat)(l0:List (S61))(a1:Int)(r:Int)(w:World)(ap:Kd.C k61 w A0 l0.length l0)(ar:l0.length≤c0)(h:laws_heldPendingS.f k l0 a1=some r):
 Calls Tryz.prog 72 #[.slice A0 l0.length c0,.int .i64 a1] w fun e w'=>e= .returned (.int .i64 r)∧Below w.heap.size w w':=by
 have az:=zz ap
 have aP:=zz ar
 clear ap ar
 have HB:=yB w
 unfold laws_heldPendingS.f at h
 have H:=h
 clear h
 replace HB:=HB.out
 have HW:=yB w
 go_enter Tryz.func72,Tryz.ntmps72
 go_wp2_with(fail)
 go_loopg[1,5] k (fun kq v1 v5 w'=>∃(ac:Int) (aa:Int),v1= .int .i64 ac∧v5= .int .i64 aa∧qA (laws_heldPendingS.l0 kq l0 ac aa=some r)∧qA (kq≤k)∧qA (Below w.heap.size w w'))
 case atStart=>exact⟨(a1),(0),zr,zr,⟨H⟩,⟨Nat.le_refl _⟩,⟨HB⟩⟩
 case round=>
  clear H HB
  obtain⟨ac,aa,rfl,rfl,H,ak,HB⟩:=hrel
  replace HB:=HB.out
  replace H:=H.out
  have am:=yB w
  cases gk with
  |zero=>exact absurd H (by simp[laws_heldPendingS.l0])
  |succ ab=>
   simp only[laws_heldPendingS.l0] at H
   refine yDn H ?_ ?_<;>clear H<;>intro aI H
   ·obtain rfl:=zi H
    exact yR
   go_wp2_with(fail)
   try simp only[Act.put,List.setIfInBounds_toArray,List.set_cons_zero,List.set_cons_succ]
   refine qN (C:=fun W_=>Below w.heap.size w W_) zk zk (qJ HB) ?_
   replace H:=yAD H
   obtain⟨aJ,H⟩:=H
   have aK:=yt (0≤(aa:Int))
   have aL:=yt ((aa:Int)<(l0.length:Int))
   obtain⟨aH,aA,aB,av,ad,ae,af,ag,ah⟩:=at_T61 az.out aa z2 z2
   cases av
   replace ad:=qK ad
   replace ae:=qK ae
   replace af:=qK af
   have ai:=zz ah
   have aj:=zz ag
   clear ah ag
   replace H:=yf H
   obtain⟨aM,A6,H⟩:=H
   refine yCn H ?_ ?_<;>clear H<;>intro c7 H
   ·obtain⟨aw,ax⟩:=zw c7
    obtain rfl:=zi H
    repeat(first|go_big_quiet_skip|(go_big_quiet_want;go_big_quiet_op;first|go_big_quiet_on|(with_reducible apply Exists.intro;refine⟨fun W hW=>?_,?_⟩;(first|with_reducible rfl|(go_at_call 63;exact vH (laws_markText.calls ab _ _ _ A6.out) hW)|(go_simp;with_reducible rfl));go_big_quiet_on)))
    clear HB
    refine zW fun aC (HB:Below w.heap.size w aC)=>?_
    exact yR
   obtain⟨aw,ax⟩:=zq c7
   clear c7
   replace H:=yf H
   obtain⟨ay,A8,H⟩:=H
   refine yD H ?_ ?_<;>clear H<;>intro aN H
   ·repeat(first|go_big_quiet_skip|(go_big_quiet_want;go_big_quiet_op;first|go_big_quiet_on|(with_reducible apply Exists.intro;refine⟨fun W hW=>?_,?_⟩;(first|with_reducible rfl|(go_at_call 63;exact vH (laws_markText.calls ab _ _ _ A6.out) hW)|(go_simp;with_reducible rfl));go_big_quiet_on)))
    clear HB
    refine zW fun aD (HB:Below w.heap.size w aD)=>?_
    go_wp2_with(fail)
    refine(laws_heldEntryS.calls ab _ _ _ _ _ _ (Kd.qC ai.out HB) aj.out A8.out).mono ?_
    rintro e aQ ⟨rfl,hb⟩
    replace HB:=zv HB hb
    clear hb
    obtain rfl:=zi H
    exact yR
   repeat(first|go_big_quiet_skip|(go_big_quiet_want;go_big_quiet_op;first|go_big_quiet_on|(with_reducible apply Exists.intro;refine⟨fun W hW=>?_,?_⟩;(first|with_reducible rfl|(go_at_call 63;exact vH (laws_markText.calls ab _ _ _ A6.out) hW)|(go_simp;with_reducible rfl));go_big_quiet_on)))
   clear HB
   refine zW fun aE (HB:Below w.heap.size w aE)=>?_
   go_wp2_with(fail)
   refine(laws_heldEntryS.calls ab _ _ _ _ _ _ (Kd.qC ai.out HB) aj.out A8.out).mono ?_
   rintro e aR ⟨rfl,hb⟩
   replace HB:=zv HB hb
   clear hb
   go_wp2_with(fail)
   try simp only[Act.put,List.setIfInBounds_toArray,List.set_cons_zero,List.set_cons_succ]
   refine qN (C:=fun W_=>Below w.heap.size w W_) zk zk (qJ HB) ?_
   replace H:=yf H
   obtain⟨aO,au,H⟩:=H
   refine yCn H ?_ ?_<;>clear H<;>intro al H
   ·obtain⟨an,ao⟩:=zw al
    obtain rfl:=zi H
    repeat(first|go_big_quiet_skip|(go_big_quiet_want;go_big_quiet_op;first|go_big_quiet_on|(with_reducible apply Exists.intro;refine⟨fun W hW=>?_,?_⟩;(first|with_reducible rfl|(go_at_call 63;exact vH (laws_markText.calls ab _ _ _ au.out) hW)|(go_simp;with_reducible rfl));go_big_quiet_on)))
    clear HB
    refine zW fun aF (HB:Below w.heap.size w aF)=>?_
    exact yR
   obtain⟨an,ao⟩:=zq al
   clear al
   repeat(first|go_big_quiet_skip|(go_big_quiet_want;go_big_quiet_op;first|go_big_quiet_on|(with_reducible apply Exists.intro;refine⟨fun W hW=>?_,?_⟩;(first|with_reducible rfl|(go_at_call 63;exact vH (laws_markText.calls ab _ _ _ au.out) hW)|(go_simp;with_reducible rfl));go_big_quiet_on)))
   clear HB
   refine zW fun aG (HB:Below w.heap.size w aG)=>?_
   go_wp2_with(fail)
   go_roundg ab
   case measure=>have:=ak.out;omega
   case rel=>exact⟨(wrap64 (ay+1)),(wrap64 (aa+1)),zr,zr,⟨H⟩,⟨by have:=ak.out;omega⟩,⟨zv am.out HB⟩⟩
def laws_heldNextS.l0:Nat→List (S64)→Int→Int→Option (Int)
 |0,_,_,_=>none
 |k+1,x0,x1,x5=>if x5<(x0.length:Int) then(if 0≤x5 then((laws_markText.f k x1).bind fun aa=>(if((rd_T64 x0 x5).f0).toList=aa.toList then((laws_markText.f k (wrap64 (x1+1))).bind fun ab=>(if((rd_T64 x0 x5).f1).toList=ab.toList then(laws_heldNextS.l0 k x0 (wrap64 ((wrap64 (x1+1))+1)) (wrap64 (x5+1))) else(some (-1)))) else(some (-1)))) else(none)) else(some x1)
def laws_heldNextS.f(k:Nat)(l0:List (S64))(a1:Int):Option (Int):=laws_heldNextS.l0 k l0 a1 0
theorem laws_heldNextS.calls(k:Nat)(A0:Option Addr)(c0:Nat)(l0:List (S64))(a1:Int)(r:Int)(w:World)(ak:Kd.C k64 w A0 l0.length l0)(al:l0.length≤c0)(h:laws_heldNextS.f k l0 a1=some r):
 Calls Tryz.prog 73 #[.slice A0 l0.length c0,.int .i64 a1] w fun e w'=>e= .returned (.int .i64 r)∧Below w.heap.size w w':=by
 have ap:=zz ak
 have aD:=zz al
 clear ak al
 have HB:=yB w
 unfold laws_heldNextS.f at h
 have H:=h
 clear h
 replace HB:=HB.out
 have HW:=yB w
 go_enter Tryz.func73,Tryz.ntmps73
 go_wp2_with(fail)
 go_loopg[1,5] k (fun kq v1 v5 w'=>∃(ab:Int) (aa:Int),v1= .int .i64 ab∧v5= .int .i64 aa∧qA (laws_heldNextS.l0 kq l0 ab aa=some r)∧qA (kq≤k)∧qA (Below w.heap.size w w'))
 case atStart=>exact⟨(a1),(0),zr,zr,⟨H⟩,⟨Nat.le_refl _⟩,⟨HB⟩⟩
 case round=>
  clear H HB
  obtain⟨ab,aa,rfl,rfl,H,af,HB⟩:=hrel
  replace HB:=HB.out
  replace H:=H.out
  have ah:=yB w
  cases gk with
  |zero=>exact absurd H (by simp[laws_heldNextS.l0])
  |succ ae=>
   simp only[laws_heldNextS.l0] at H
   refine yDn H ?_ ?_<;>clear H<;>intro ax H
   ·obtain rfl:=zi H
    exact yR
   go_wp2_with(fail)
   try simp only[Act.put,List.setIfInBounds_toArray,List.set_cons_zero,List.set_cons_succ]
   refine qN (C:=fun W_=>Below w.heap.size w W_) zk zk (qJ HB) ?_
   replace H:=yAD H
   obtain⟨ay,H⟩:=H
   have az:=yt (0≤(aa:Int))
   have aA:=yt ((aa:Int)<(l0.length:Int))
   obtain⟨aw,am,ac,ad⟩:=at_T64 ap.out aa z2 z2
   cases am
   replace ac:=qK ac
   replace ad:=qK ad
   replace H:=yf H
   obtain⟨aB,A6,H⟩:=H
   refine yCn H ?_ ?_<;>clear H<;>intro c7 H
   ·obtain⟨an,ao⟩:=zw c7
    obtain rfl:=zi H
    repeat(first|go_big_quiet_skip|(go_big_quiet_want;go_big_quiet_op;first|go_big_quiet_on|(with_reducible apply Exists.intro;refine⟨fun W hW=>?_,?_⟩;(first|with_reducible rfl|(go_at_call 63;exact vH (laws_markText.calls ae _ _ _ A6.out) hW)|(go_simp;with_reducible rfl));go_big_quiet_on)))
    clear HB
    refine zW fun ar (HB:Below w.heap.size w ar)=>?_
    exact yR
   obtain⟨an,ao⟩:=zq c7
   clear c7
   repeat(first|go_big_quiet_skip|(go_big_quiet_want;go_big_quiet_op;first|go_big_quiet_on|(with_reducible apply Exists.intro;refine⟨fun W hW=>?_,?_⟩;(first|with_reducible rfl|(go_at_call 63;exact vH (laws_markText.calls ae _ _ _ A6.out) hW)|(go_simp;with_reducible rfl));go_big_quiet_on)))
   clear HB
   refine zW fun w8 (HB:Below w.heap.size w w8)=>?_
   go_wp2_with(fail)
   try simp only[Act.put,List.setIfInBounds_toArray,List.set_cons_zero,List.set_cons_succ]
   refine qN (C:=fun W_=>Below w.heap.size w W_) zk zk (qJ HB) ?_
   replace H:=yf H
   obtain⟨aC,A9,H⟩:=H
   refine yCn H ?_ ?_<;>clear H<;>intro ag H
   ·obtain⟨ai,aj⟩:=zw ag
    obtain rfl:=zi H
    repeat(first|go_big_quiet_skip|(go_big_quiet_want;go_big_quiet_op;first|go_big_quiet_on|(with_reducible apply Exists.intro;refine⟨fun W hW=>?_,?_⟩;(first|with_reducible rfl|(go_at_call 63;exact vH (laws_markText.calls ae _ _ _ A9.out) hW)|(go_simp;with_reducible rfl));go_big_quiet_on)))
    clear HB
    refine zW fun au (HB:Below w.heap.size w au)=>?_
    exact yR
   obtain⟨ai,aj⟩:=zq ag
   clear ag
   repeat(first|go_big_quiet_skip|(go_big_quiet_want;go_big_quiet_op;first|go_big_quiet_on|(with_reducible apply Exists.intro;refine⟨fun W hW=>?_,?_⟩;(first|with_reducible rfl|(go_at_call 63;exact vH (laws_markText.calls ae _ _ _ A9.out) hW)|(go_simp;with_reducible rfl));go_big_quiet_on)))
   clear HB
   refine zW fun av (HB:Below w.heap.size w av)=>?_
   go_wp2_with(fail)
   go_roundg ae
   case measure=>have:=af.out;omega
   case rel=>exact⟨(wrap64 ((wrap64 (ab+1))+1)),(wrap64 (aa+1)),zr,zr,⟨H⟩,⟨by have:=af.out;omega⟩,⟨zv ah.out HB⟩⟩
def laws_heldWorld.f(k:Nat)(ae:List (S94))(af:List (S67))(ag:List (S61))(ah:List (S64))(a1:Int):Option (Int):=(laws_heldItemS.f k ae a1).bind fun aa=>(if aa<0 then(some (-1)) else((laws_heldProfileS.f k af aa).bind fun ab=>(if ab<0 then(some (-1)) else((laws_heldPendingS.f k ag ab).bind fun ac=>(if ac<0 then(some (-1)) else((laws_heldNextS.f k ah ac).bind fun ad=>(if ad<0 then(some (-1)) else(some ad))))))))
theorem laws_heldWorld.calls(k:Nat)(ai:Option Addr)(aj:Nat)(aa:List (S94))(ak:Option Addr)(al:Nat)(ab:List (S67))(am:Option Addr)(an:Nat)(ac:List (S61))(ao:Option Addr)(ap:Nat)(ad:List (S64))(a1:Int)(r:Int)(w:World)(ar:Kd.C k94 w ai aa.length aa)(au:aa.length≤aj)(av:Kd.C k67 w ak ab.length ab)(aw:ab.length≤al)(ax:Kd.C k61 w am ac.length ac)(ay:ac.length≤an)(az:Kd.C k64 w ao ad.length ad)(aA:ad.length≤ap)(h:laws_heldWorld.f k aa ab ac ad a1=some r):
 Calls Tryz.prog 27 #[.agg #[.slice ai aa.length aj,.slice ak ab.length al,.slice am ac.length an,.slice ao ad.length ap],.int .i64 a1] w fun e w'=>e= .returned (.int .i64 r)∧Below w.heap.size w w':=by
 have aQ:=Tryz.underlying35
 have ah:=zz ar
 have aE:=zz au
 clear ar au
 have ae:=zz av
 have aB:=zz aw
 clear av aw
 have af:=zz ax
 have aC:=zz ay
 clear ax ay
 have ag:=zz az
 have aD:=zz aA
 clear az aA
 have HB:=yB w
 unfold laws_heldWorld.f at h
 have H:=h
 clear h
 replace HB:=HB.out
 have HW:=yB w
 go_enter Tryz.func27,Tryz.ntmps27
 replace H:=yf H
 obtain⟨aR,A3,H⟩:=H
 go_wp2_with(first|(refine zN 2 ?_;(try(refine z4 ?_;dsimp only));refine zX 2 35 #[.slice ai aa.length aj,.slice ak ab.length al,.slice am ac.length an,.slice ao ad.length ap] ?_;intro aM hg w6 hbox hb;have hst:=zv HB hb;clear hg hb HB;replace HW:=zz (zv HW.out hst);replace ah:=zz (Kd.qC ah.out hst);replace ae:=zz (Kd.qC ae.out hst);replace af:=zz (Kd.qC af.out hst);replace ag:=zz (Kd.qC ag.out hst);obtain⟨aI,aJ,aK,aL⟩:=zx4 hbox;have HB:=Below.refl w6.heap.size w6;clear hbox hst))
 refine(laws_heldItemS.calls k _ _ _ _ _ _ (Kd.qC ah.out HB) aE.out A3.out).mono ?_
 rintro e w7 ⟨rfl,hb⟩
 replace HB:=zv HB hb
 clear hb
 refine yD H ?_ ?_<;>clear H<;>intro aS H
 ·obtain rfl:=zi H
  exact yR
 replace H:=yf H
 obtain⟨aT,aF,H⟩:=H
 refine yD H ?_ ?_<;>clear H<;>intro aN H
 ·go_wp2_with(fail)
  refine(laws_heldProfileS.calls k _ _ _ _ _ _ (Kd.qC ae.out HB) aB.out aF.out).mono ?_
  rintro e aW ⟨rfl,hb⟩
  replace HB:=zv HB hb
  clear hb
  obtain rfl:=zi H
  exact yR
 go_wp2_with(fail)
 refine(laws_heldProfileS.calls k _ _ _ _ _ _ (Kd.qC ae.out HB) aB.out aF.out).mono ?_
 rintro e aX ⟨rfl,hb⟩
 replace HB:=zv HB hb
 clear hb
 replace H:=yf H
 obtain⟨aU,aG,H⟩:=H
 refine yD H ?_ ?_<;>clear H<;>intro aO H
 ·go_wp2_with(fail)
  refine(laws_heldPendingS.calls k _ _ _ _ _ _ (Kd.qC af.out HB) aC.out aG.out).mono ?_
  rintro e aY ⟨rfl,hb⟩
  replace HB:=zv HB hb
  clear hb
  obtain rfl:=zi H
  exact yR
 go_wp2_with(fail)
 refine(laws_heldPendingS.calls k _ _ _ _ _ _ (Kd.qC af.out HB) aC.out aG.out).mono ?_
 rintro e aZ ⟨rfl,hb⟩
 replace HB:=zv HB hb
 clear hb
 replace H:=yf H
 obtain⟨aV,aH,H⟩:=H
 refine yD H ?_ ?_<;>clear H<;>intro aP H
 ·go_wp2_with(fail)
  refine(laws_heldNextS.calls k _ _ _ _ _ _ (Kd.qC ag.out HB) aD.out aH.out).mono ?_
  rintro e a0 ⟨rfl,hb⟩
  replace HB:=zv HB hb
  clear hb
  obtain rfl:=zi H
  exact yR
 go_wp2_with(fail)
 refine(laws_heldNextS.calls k _ _ _ _ _ _ (Kd.qC ag.out HB) aD.out aH.out).mono ?_
 rintro e a2 ⟨rfl,hb⟩
 replace HB:=zv HB hb
 clear hb
 obtain rfl:=zi H
 exact yR
end Go.Proofs.YtcekmnclmldmmaaGreatDoor.Q
