import Derived.Test.YtmdoobnlehkmpaaGreatDoorA22
set_option linter.unusedVariables false
set_option linter.unusedSimpArgs false
namespace Go.Proofs.YtmdoobnlehkmpaaGreatDoor.Q
open Go.RowKit W1 W2 W3
attribute [local go_sem] max2_int min2_int max_two min_two max_three min_three max_four min_four
attribute [local go_sem high] bl_leq bl_gtr bl_geq
set_option maxHeartbeats 8000000
set_option maxRecDepth 100000
def laws_markEntryS.l0:Nat→List (S87)→Int→Int→Option (Int×(List (S87)))
 |0,_,_,_=>none
 |k+1,x0,x1,x5=>if x5<(x0.length:Int) then((laws_markText.f k x1).bind fun ad=>(if 0≤x5 then((some (x0.set (x5:Int).toNat (⟨ad,(qA x0 x5).f1,(qA x0 x5).f2,(qA x0 x5).f3⟩:S87):List (S87))).bind fun aa=>((some (aa.set (x5:Int).toNat (⟨(qA aa x5).f0,wrap64 (x1+1),(qA aa x5).f2,(qA aa x5).f3⟩:S87):List (S87))).bind fun ab=>((laws_markText.f k (wrap64 ((wrap64 (x1+1))+1))).bind fun ae=>((some (ab.set (x5:Int).toNat (⟨(qA ab x5).f0,(qA ab x5).f1,ae,(qA ab x5).f3⟩:S87):List (S87))).bind fun ac=>(laws_markEntryS.l0 k (ac.set (x5:Int).toNat (⟨(qA ac x5).f0,(qA ac x5).f1,(qA ac x5).f2,((Int.tmod (wrap64 ((wrap64 ((wrap64 (x1+1))+1))+1)) 3)==0)⟩:S87)) (wrap64 ((wrap64 ((wrap64 ((wrap64 (x1+1))+1))+1))+1)) (wrap64 (x5+1))))))) else(none))) else(some (x1,x0))
def laws_markEntryS.f(k:Nat)(l0:List (S87))(a1:Int):Option (Int×(List (S87))):=laws_markEntryS.l0 k l0 a1 0
theorem laws_markEntryS.calls(k:Nat)(ai:Nat→Prop)(an:Value)(l0:List (S87))(a1:Int)(r1:Int)(r2:List (S87))(w0 w:World)(hB:Below w0.heap.size w0 w)(bJ:Kd.R k87 87 w w0.heap.size ai an l0)(h:laws_markEntryS.f k l0 a1=some (r1,r2)):
 Calls Tryz.prog 18 #[an,.int .i64 a1] w fun e w'=>e= .returned (.int .i64 r1)∧Kd.R k87 87 w' w0.heap.size (fun k_=>(ai k_∨w.heap.size≤k_)) an r2∧Below w0.heap.size w0 w'∧Kept w w' (fun k_=>ai k_):=by
 have bK:=zz (show Kd.R k87 87 w w0.heap.size (fun k_=>(ai k_∨w.heap.size≤k_)) an l0 from Kd.vC bJ (fun k_ hk=>(.inl hk)))
 have HK:=zz (Kept.refl w (fun k_=>ai k_))
 have cA:=zz hB.size
 have HB:=zz hB
 clear hB
 unfold laws_markEntryS.f at h
 have H:=h
 clear h
 have H':=zz H
 clear H
 go_enter Tryz.func18,Tryz.ntmps18
 go_wp2
 go_loopg[1,5] k (fun kq v1 v5 w'=>∃(ab:List (S87)) (af:Int) (aa:Int),v1= .int .i64 af∧v5= .int .i64 aa∧qC (laws_markEntryS.l0 kq ab af aa=some (r1,r2))∧qC (kq≤k)∧qC (Kd.R k87 87 w' w0.heap.size (fun k_=>(ai k_∨w.heap.size≤k_)) an ab)∧qC (Kept w w' (fun k_=>ai k_))∧qC (Below w0.heap.size w0 w'))
 case atStart=>exact⟨(l0),(a1),(0),zr,zr,H',⟨Nat.le_refl _⟩,⟨zR bK.out⟩,⟨by repeat(first|(with_reducible first|exact HK.out|apply Kept.alloc|apply Kept.drewN|apply Kept.drew)|exact HK.out)⟩,⟨zb⟩⟩
 case round=>
  clear H'
  try clear c1
  try clear p2
  obtain⟨ab,af,aa,rfl,rfl,HA,bs,ad,HK,HB⟩:=hrel
  cases gk with
  |zero=>exact absurd HA.out (by simp[laws_markEntryS.l0])
  |succ k1=>
   have H:=HA.out
   clear HA
   simp only[laws_markEntryS.l0] at H
   refine yDn H ?_ ?_<;>clear H<;>intro cp H
   ·simp only[Option.some.injEq,Prod.mk.injEq] at H
    obtain⟨rfl,rfl⟩:=H
    obtain⟨cq,cr,bE⟩:=Kd.qZ ad.out
    subst bE
    go_wp2
    go_ret
    exact⟨ze,zR ad.out,zb,by repeat(first|(with_reducible first|exact HK.out|apply Kept.alloc|apply Kept.drewN|apply Kept.drew)|exact HK.out)⟩
   replace H:=zf H
   obtain⟨aA,bu,H⟩:=H
   try dsimp only at H
   have A4:=zz bu
   clear bu
   replace H:=yAD H
   obtain⟨ct,H⟩:=H
   obtain⟨ah,au⟩:∃y_:List (S87),y_=(ab.set (aa:Int).toNat (⟨aA,(qA ab aa).f1,(qA ab aa).f2,(qA ab aa).f3⟩:S87)):=⟨_,rfl⟩
   replace H:((some (ah.set (aa:Int).toNat (⟨(qA ah aa).f0,wrap64 (af+1),(qA ah aa).f2,(qA ah aa).f3⟩:S87):List (S87))).bind fun ag=>((laws_markText.f k1 (wrap64 ((wrap64 (af+1))+1))).bind fun am=>((some (ag.set (aa:Int).toNat (⟨(qA ag aa).f0,(qA ag aa).f1,am,(qA ag aa).f3⟩:S87):List (S87))).bind fun ae=>(laws_markEntryS.l0 k1 (ae.set (aa:Int).toNat (⟨(qA ae aa).f0,(qA ae aa).f1,(qA ae aa).f2,((Int.tmod (wrap64 ((wrap64 ((wrap64 (af+1))+1))+1)) 3)==0)⟩:S87)) (wrap64 ((wrap64 ((wrap64 ((wrap64 (af+1))+1))+1))+1)) (wrap64 (aa+1))))))=some (r1,r2):=by first|(rw[au];with_reducible exact H)|(have aj:=(Option.bind_some _ _).symm.trans H;rw[au];with_reducible exact aj)|(have aj:=(Option.bind_some _ _).symm.trans H;with_reducible exact aj)|with_reducible exact H|(rw[au];exact H)|exact H
   have bl:=zz au
   clear au
   obtain⟨ag,av⟩:∃y_:List (S87),y_=(ah.set (aa:Int).toNat (⟨(qA ah aa).f0,wrap64 (af+1),(qA ah aa).f2,(qA ah aa).f3⟩:S87)):=⟨_,rfl⟩
   replace H:((laws_markText.f k1 (wrap64 ((wrap64 (af+1))+1))).bind fun am=>((some (ag.set (aa:Int).toNat (⟨(qA ag aa).f0,(qA ag aa).f1,am,(qA ag aa).f3⟩:S87):List (S87))).bind fun ae=>(laws_markEntryS.l0 k1 (ae.set (aa:Int).toNat (⟨(qA ae aa).f0,(qA ae aa).f1,(qA ae aa).f2,((Int.tmod (wrap64 ((wrap64 ((wrap64 (af+1))+1))+1)) 3)==0)⟩:S87)) (wrap64 ((wrap64 ((wrap64 ((wrap64 (af+1))+1))+1))+1)) (wrap64 (aa+1)))))=some (r1,r2):=by first|(rw[av];with_reducible exact H)|(have aj:=(Option.bind_some _ _).symm.trans H;rw[av];with_reducible exact aj)|(have aj:=(Option.bind_some _ _).symm.trans H;with_reducible exact aj)|with_reducible exact H|(rw[av];exact H)|exact H
   have bn:=zz av
   clear av
   replace H:=zf H
   obtain⟨am,bv,H⟩:=H
   try dsimp only at H
   have A8:=zz bv
   clear bv
   obtain⟨ae,aw⟩:∃y_:List (S87),y_=(ag.set (aa:Int).toNat (⟨(qA ag aa).f0,(qA ag aa).f1,am,(qA ag aa).f3⟩:S87)):=⟨_,rfl⟩
   replace H:(laws_markEntryS.l0 k1 (ae.set (aa:Int).toNat (⟨(qA ae aa).f0,(qA ae aa).f1,(qA ae aa).f2,((Int.tmod (wrap64 ((wrap64 ((wrap64 (af+1))+1))+1)) 3)==0)⟩:S87)) (wrap64 ((wrap64 ((wrap64 ((wrap64 (af+1))+1))+1))+1)) (wrap64 (aa+1)))=some (r1,r2):=by first|(rw[aw];with_reducible exact H)|(have aj:=(Option.bind_some _ _).symm.trans H;rw[aw];with_reducible exact aj)|(have aj:=(Option.bind_some _ _).symm.trans H;with_reducible exact aj)|with_reducible exact H|(rw[aw];exact H)|exact H
   have bo:=zz aw
   clear aw
   obtain⟨aL,ax⟩:∃y_:List (S87),y_=(ae.set (aa:Int).toNat (⟨(qA ae aa).f0,(qA ae aa).f1,(qA ae aa).f2,((Int.tmod (wrap64 ((wrap64 ((wrap64 (af+1))+1))+1)) 3)==0)⟩:S87)):=⟨_,rfl⟩
   replace H:(laws_markEntryS.l0 k1 aL (wrap64 ((wrap64 ((wrap64 ((wrap64 (af+1))+1))+1))+1)) (wrap64 (aa+1)))=some (r1,r2):=by first|(rw[ax];with_reducible exact H)|(have aj:=(Option.bind_some _ _).symm.trans H;rw[ax];with_reducible exact aj)|(have aj:=(Option.bind_some _ _).symm.trans H;with_reducible exact aj)|with_reducible exact H|(rw[ax];exact H)|exact H
   have bq:=zz ax
   clear ax
   have H':=zz H
   clear H
   obtain⟨cu,ao,bF⟩:=Kd.qZ ad.out
   subst bF
   go_wp2_with(first|(refine zL 64 15 Tryz.func64 #[.int .i64 af] ?_;(with_reducible refine(laws_markText.calls k1 af aA _ A4.out).mono ?_);rintro e ap ⟨rfl,hb⟩;refine⟨_,rfl,?_⟩;replace ad:=zz (Kd.R_below (zR ad.out) hb);replace HK:=zz (Kept.below (S:=(fun k_=>ai k_)) (by repeat(first|(with_reducible first|exact HK.out|apply Kept.alloc|apply Kept.drewN|apply Kept.drew)|exact HK.out)) hb);replace HB:=zz (zv zb hb);(try clear hb);(try clear bL);(try clear hk);(try clear hi);have p6:0≤(aa:Int):=z2;have q6:(aa:Int)<((ab.length:Int):Int):=z2;obtain⟨ac,cB,bw,bz,bM,cC,bA⟩:=Kd.R_form ad.out (by omega);(first|cases bw|(injection bw with ea_ en_ ec_;(first|subst ea_|(injection ea_ with ea_;subst ea_));subst ec_;clear en_));have aQ:=zz bz;have cD:=zz bA;clear bz bM bA;have bZ:=zz (show(ai ac∨w.heap.size≤ac) from(ad.out.1 _ rfl));obtain⟨cE,bG,bB,aB,aC⟩:=Kd.R_elem ad.out z87 (aa:Int) p6 q6;obtain rfl:=k87_openM bB;have b0:ap.cell? ⟨ac,(aa:Int).toNat*4,none⟩=some (.string ((qA ab aa).f0)):=aB 0 _ rfl;have b1:ap.cell? ⟨ac,(aa:Int).toNat*4+1,none⟩=some (.int .i64 ((qA ab aa).f1)):=aB 1 _ rfl;have b2:ap.cell? ⟨ac,(aa:Int).toNat*4+2,none⟩=some (.string ((qA ab aa).f2)):=aB 2 _ rfl;have b3:ap.cell? ⟨ac,(aa:Int).toNat*4+3,none⟩=some (.bool ((qA ab aa).f3)):=aB 3 _ rfl;have b4:ap.frozen? ⟨ac,(aa:Int).toNat*4,none⟩=false:=aC 0;have b5:ap.frozen? ⟨ac,(aa:Int).toNat*4+1,none⟩=false:=aC 1;have b6:ap.frozen? ⟨ac,(aa:Int).toNat*4+2,none⟩=false:=aC 2;have b7:ap.frozen? ⟨ac,(aa:Int).toNat*4+3,none⟩=false:=aC 3;clear bG aB aC bB;replace p6:=eq_true p6;replace q6:=eq_true q6;have aZ:=zz (show Kd.R k87 87 ap w0.heap.size (fun k_=>(ai k_∨w.heap.size≤k_)) (.slice (some ⟨ac,0,none⟩) ab.length ao) ab from(zR ad.out));obtain⟨cv,aR,a0,aH,aS⟩:=Kd.R_elem aZ.out z87 (aa:Int) (z2) (by have h_:(aa:Int)<((ab.length:Int):Int):=z2;first|exact h_|(have e_:=(Kd.qM ad.out).1;omega)|simpa using h_);obtain rfl:=k87_openM a0;have aM:=Kd.R_seg aZ.out (aa:Int) (z2) (by have h_:(aa:Int)<((ab.length:Int):Int):=z2;first|exact h_|(have e_:=(Kd.qM ad.out).1;omega)|simpa using h_) (seg:=[.string aA]) (j:=0) aR aH (show 1≤4 from by decide) (x':=(⟨aA,(qA ab aa).f1,(qA ab aa).f2,(qA ab aa).f3⟩:S87)) (k87_mkM _ _ _ (⟨aA,(qA ab aa).f1,(qA ab aa).f2,(qA ab aa).f3⟩:S87)) (fun _ hk=>hk);have a2:=aH 0 _ rfl;(try simp only[show(k87).sz=4 from rfl,Nat.mul_one,Nat.add_zero] at a2);have a3:=aS 0;(try simp only[show(k87).sz=4 from rfl,Nat.mul_one,Nat.add_zero] at a3);clear aR aH aS a0)|((with_reducible refine qQ (t:=9) (p:=17) rfl ?_);refine qN (t:=9) (p:=17) (v:=?bN) (w1:=(ap.setCell ⟨ac,(aa:Int).toNat*4,none⟩ (.string aA))) ?hg ?ho ?hn ?hr ?_;(case ho=>rfl);(case hg=>rfl);(case hn=>rfl);(case hr=>first|(go_simp;done)|(go_simp;rfl));intro ak hw;have hg:ap.grownBy ak (some ac):=(by rw[hw];exact aM.2);have hp_:Kd.R k87 87 ak w0.heap.size (fun k_=>(ai k_∨w.heap.size≤k_)) (.slice (some ⟨ac,0,none⟩) ab.length ao) ah:=(by rw[hw,bl.out];exact aM.1);clear aM;replace HB:=zz ((by rw[hw];exact qJ (HB.out) aQ.out:Below w0.heap.size w0 ak));replace HK:=zz (Kept.of_grown (S:=(fun k_=>ai k_)) hg (by repeat(first|(with_reducible first|exact HK.out|apply Kept.alloc|apply Kept.drewN|apply Kept.drew)|exact HK.out)) (fun k_ e_=>(ad.out.1 k_ e_)));replace ad:=zz (hp_);clear hg hw hp_;have p7:0≤(aa:Int):=z2;have q7:(aa:Int)<((ab.length:Int):Int):=z2;obtain⟨cF,bH,bC,aD,aE⟩:=Kd.R_elem ad.out z87 (aa:Int) p7 q7;obtain rfl:=k87_openM bC;have b8:ak.cell? ⟨ac,(aa:Int).toNat*4,none⟩=some (.string ((qA ah aa).f0)):=aD 0 _ rfl;have b9:ak.cell? ⟨ac,(aa:Int).toNat*4+1,none⟩=some (.int .i64 ((qA ah aa).f1)):=aD 1 _ rfl;have ca:ak.cell? ⟨ac,(aa:Int).toNat*4+2,none⟩=some (.string ((qA ah aa).f2)):=aD 2 _ rfl;have cb:ak.cell? ⟨ac,(aa:Int).toNat*4+3,none⟩=some (.bool ((qA ah aa).f3)):=aD 3 _ rfl;have cc:ak.frozen? ⟨ac,(aa:Int).toNat*4,none⟩=false:=aE 0;have cd:ak.frozen? ⟨ac,(aa:Int).toNat*4+1,none⟩=false:=aE 1;have ce:ak.frozen? ⟨ac,(aa:Int).toNat*4+2,none⟩=false:=aE 2;have cf:ak.frozen? ⟨ac,(aa:Int).toNat*4+3,none⟩=false:=aE 3;clear bH aD aE bC;replace p7:=eq_true p7;replace q7:=eq_true q7;have a4:=zz (show Kd.R k87 87 ak w0.heap.size (fun k_=>(ai k_∨w.heap.size≤k_)) (.slice (some ⟨ac,0,none⟩) ab.length ao) ah from(zR ad.out));obtain⟨cw,aT,a5,aI,aU⟩:=Kd.R_elem a4.out z87 (aa:Int) (z2) (by have h_:(aa:Int)<((ab.length:Int):Int):=z2;first|exact h_|(have e_:=(Kd.qM ad.out).1;omega)|simpa using h_);obtain rfl:=k87_openM a5;have aN:=Kd.R_seg a4.out (aa:Int) (z2) (by have h_:(aa:Int)<((ab.length:Int):Int):=z2;first|exact h_|(have e_:=(Kd.qM ad.out).1;omega)|simpa using h_) (seg:=[.int .i64 (wrap64 (af+1))]) (j:=1) aT aI (show 2≤4 from by decide) (x':=(⟨(qA ah aa).f0,wrap64 (af+1),(qA ah aa).f2,(qA ah aa).f3⟩:S87)) (k87_mkM _ _ _ (⟨(qA ah aa).f0,wrap64 (af+1),(qA ah aa).f2,(qA ah aa).f3⟩:S87)) (fun _ hk=>hk);have a6:=aI 1 _ rfl;(try simp only[show(k87).sz=4 from rfl,Nat.mul_one,Nat.add_zero] at a6);have a7:=aU 1;(try simp only[show(k87).sz=4 from rfl,Nat.mul_one,Nat.add_zero] at a7);clear aT aI aU a5)|((with_reducible refine qQ (t:=2) (p:=24) rfl ?_);refine qN (t:=2) (p:=24) (v:=?bO) (w1:=(ak.setCell ⟨ac,(aa:Int).toNat*4+1,none⟩ (.int .i64 (wrap64 (af+1))))) ?hg ?ho ?hn ?hr ?_;(case ho=>rfl);(case hg=>rfl);(case hn=>rfl);(case hr=>first|(go_simp;done)|(go_simp;rfl));intro a8 hw;have hg:ak.grownBy a8 (some ac):=(by rw[hw];exact aN.2);have hp_:Kd.R k87 87 a8 w0.heap.size (fun k_=>(ai k_∨w.heap.size≤k_)) (.slice (some ⟨ac,0,none⟩) ab.length ao) ag:=(by rw[hw,bn.out];exact aN.1);clear aN;replace HB:=zz ((by rw[hw];exact qJ (HB.out) aQ.out:Below w0.heap.size w0 a8));replace HK:=zz (Kept.of_grown (S:=(fun k_=>ai k_)) hg (by repeat(first|(with_reducible first|exact HK.out|apply Kept.alloc|apply Kept.drewN|apply Kept.drew)|exact HK.out)) (fun k_ e_=>(ad.out.1 k_ e_)));replace ad:=zz (hp_);clear hg hw hp_)|(refine zL 64 30 Tryz.func64 #[.int .i64 (wrap64 ((wrap64 (af+1))+1))] ?_;(with_reducible refine(laws_markText.calls k1 (wrap64 ((wrap64 (af+1))+1)) am _ A8.out).mono ?_);rintro e ar ⟨rfl,hb⟩;refine⟨_,rfl,?_⟩;replace ad:=zz (Kd.R_below (zR ad.out) hb);replace HK:=zz (Kept.below (S:=(fun k_=>ai k_)) (by repeat(first|(with_reducible first|exact HK.out|apply Kept.alloc|apply Kept.drewN|apply Kept.drew)|exact HK.out)) hb);replace HB:=zz (zv zb hb);(try clear hb);(try clear bL);(try clear hk);(try clear hi);have p9:0≤(aa:Int):=z2;have q9:(aa:Int)<((ab.length:Int):Int):=z2;obtain⟨cG,bI,bD,aF,aG⟩:=Kd.R_elem ad.out z87 (aa:Int) p9 q9;obtain rfl:=k87_openM bD;have cg:ar.cell? ⟨ac,(aa:Int).toNat*4,none⟩=some (.string ((qA ag aa).f0)):=aF 0 _ rfl;have ch:ar.cell? ⟨ac,(aa:Int).toNat*4+1,none⟩=some (.int .i64 ((qA ag aa).f1)):=aF 1 _ rfl;have ci:ar.cell? ⟨ac,(aa:Int).toNat*4+2,none⟩=some (.string ((qA ag aa).f2)):=aF 2 _ rfl;have cj:ar.cell? ⟨ac,(aa:Int).toNat*4+3,none⟩=some (.bool ((qA ag aa).f3)):=aF 3 _ rfl;have ck:ar.frozen? ⟨ac,(aa:Int).toNat*4,none⟩=false:=aG 0;have cm:ar.frozen? ⟨ac,(aa:Int).toNat*4+1,none⟩=false:=aG 1;have cn:ar.frozen? ⟨ac,(aa:Int).toNat*4+2,none⟩=false:=aG 2;have co:ar.frozen? ⟨ac,(aa:Int).toNat*4+3,none⟩=false:=aG 3;clear bI aF aG bD;replace p9:=eq_true p9;replace q9:=eq_true q9;have a9:=zz (show Kd.R k87 87 ar w0.heap.size (fun k_=>(ai k_∨w.heap.size≤k_)) (.slice (some ⟨ac,0,none⟩) ab.length ao) ag from(zR ad.out));obtain⟨cx,aV,ba,aJ,aW⟩:=Kd.R_elem a9.out z87 (aa:Int) (z2) (by have h_:(aa:Int)<((ab.length:Int):Int):=z2;first|exact h_|(have e_:=(Kd.qM ad.out).1;omega)|simpa using h_);obtain rfl:=k87_openM ba;have aO:=Kd.R_seg a9.out (aa:Int) (z2) (by have h_:(aa:Int)<((ab.length:Int):Int):=z2;first|exact h_|(have e_:=(Kd.qM ad.out).1;omega)|simpa using h_) (seg:=[.string am]) (j:=2) aV aJ (show 3≤4 from by decide) (x':=(⟨(qA ag aa).f0,(qA ag aa).f1,am,(qA ag aa).f3⟩:S87)) (k87_mkM _ _ _ (⟨(qA ag aa).f0,(qA ag aa).f1,am,(qA ag aa).f3⟩:S87)) (fun _ hk=>hk);have bb:=aJ 2 _ rfl;(try simp only[show(k87).sz=4 from rfl,Nat.mul_one,Nat.add_zero] at bb);have bc:=aW 2;(try simp only[show(k87).sz=4 from rfl,Nat.mul_one,Nat.add_zero] at bc);clear aV aJ aW ba)|((with_reducible refine qQ (t:=9) (p:=32) rfl ?_);refine qN (t:=9) (p:=32) (v:=?bP) (w1:=(ar.setCell ⟨ac,(aa:Int).toNat*4+2,none⟩ (.string am))) ?hg ?ho ?hn ?hr ?_;(case ho=>rfl);(case hg=>rfl);(case hn=>rfl);(case hr=>first|(go_simp;done)|(go_simp;rfl));intro al hw;have hg:ar.grownBy al (some ac):=(by rw[hw];exact aO.2);have hp_:Kd.R k87 87 al w0.heap.size (fun k_=>(ai k_∨w.heap.size≤k_)) (.slice (some ⟨ac,0,none⟩) ab.length ao) ae:=(by rw[hw,bo.out];exact aO.1);clear aO;replace HB:=zz ((by rw[hw];exact qJ (HB.out) aQ.out:Below w0.heap.size w0 al));replace HK:=zz (Kept.of_grown (S:=(fun k_=>ai k_)) hg (by repeat(first|(with_reducible first|exact HK.out|apply Kept.alloc|apply Kept.drewN|apply Kept.drew)|exact HK.out)) (fun k_ e_=>(ad.out.1 k_ e_)));replace ad:=zz (hp_);clear hg hw hp_;have bd:0≤(aa:Int):=z2;have be:(aa:Int)<((ab.length:Int):Int):=z2;obtain⟨cy,br,bf,ay,az⟩:=Kd.R_elem ad.out z87 (aa:Int) bd be;obtain rfl:=k87_openM bf;have bQ:al.cell? ⟨ac,(aa:Int).toNat*4,none⟩=some (.string ((qA ae aa).f0)):=ay 0 _ rfl;have bR:al.cell? ⟨ac,(aa:Int).toNat*4+1,none⟩=some (.int .i64 ((qA ae aa).f1)):=ay 1 _ rfl;have bS:al.cell? ⟨ac,(aa:Int).toNat*4+2,none⟩=some (.string ((qA ae aa).f2)):=ay 2 _ rfl;have bT:al.cell? ⟨ac,(aa:Int).toNat*4+3,none⟩=some (.bool ((qA ae aa).f3)):=ay 3 _ rfl;have bU:al.frozen? ⟨ac,(aa:Int).toNat*4,none⟩=false:=az 0;have bV:al.frozen? ⟨ac,(aa:Int).toNat*4+1,none⟩=false:=az 1;have bW:al.frozen? ⟨ac,(aa:Int).toNat*4+2,none⟩=false:=az 2;have bX:al.frozen? ⟨ac,(aa:Int).toNat*4+3,none⟩=false:=az 3;clear br ay az bf;replace bd:=eq_true bd;replace be:=eq_true be;have bg:=zz (show Kd.R k87 87 al w0.heap.size (fun k_=>(ai k_∨w.heap.size≤k_)) (.slice (some ⟨ac,0,none⟩) ab.length ao) ae from(zR ad.out));obtain⟨cz,aX,bh,aK,aY⟩:=Kd.R_elem bg.out z87 (aa:Int) (z2) (by have h_:(aa:Int)<((ab.length:Int):Int):=z2;first|exact h_|(have e_:=(Kd.qM ad.out).1;omega)|simpa using h_);obtain rfl:=k87_openM bh;have aP:=Kd.R_seg bg.out (aa:Int) (z2) (by have h_:(aa:Int)<((ab.length:Int):Int):=z2;first|exact h_|(have e_:=(Kd.qM ad.out).1;omega)|simpa using h_) (seg:=[.bool ((Int.tmod (wrap64 ((wrap64 ((wrap64 (af+1))+1))+1)) 3)==0)]) (j:=3) aX aK (show 4≤4 from by decide) (x':=(⟨(qA ae aa).f0,(qA ae aa).f1,(qA ae aa).f2,((Int.tmod (wrap64 ((wrap64 ((wrap64 (af+1))+1))+1)) 3)==0)⟩:S87)) (k87_mkM _ _ _ (⟨(qA ae aa).f0,(qA ae aa).f1,(qA ae aa).f2,((Int.tmod (wrap64 ((wrap64 ((wrap64 (af+1))+1))+1)) 3)==0)⟩:S87)) (fun _ hk=>hk);have bi:=aK 3 _ rfl;(try simp only[show(k87).sz=4 from rfl,Nat.mul_one,Nat.add_zero] at bi);have bj:=aY 3;(try simp only[show(k87).sz=4 from rfl,Nat.mul_one,Nat.add_zero] at bj);clear aX aK aY bh)|((with_reducible refine qQ (t:=4) (p:=41) rfl ?_);refine qN (t:=4) (p:=41) (v:=?bY) (w1:=(al.setCell ⟨ac,(aa:Int).toNat*4+3,none⟩ (.bool ((Int.tmod (wrap64 ((wrap64 ((wrap64 (af+1))+1))+1)) 3)==0)))) ?hg ?ho ?hn ?hr ?_;(case ho=>rfl);(case hg=>rfl);(case hn=>rfl);(case hr=>first|(go_simp;done)|(go_simp;rfl));intro bk hw;have hg:al.grownBy bk (some ac):=(by rw[hw];exact aP.2);have hp_:Kd.R k87 87 bk w0.heap.size (fun k_=>(ai k_∨w.heap.size≤k_)) (.slice (some ⟨ac,0,none⟩) ab.length ao) aL:=(by rw[hw,bq.out];exact aP.1);clear aP;replace HB:=zz ((by rw[hw];exact qJ (HB.out) aQ.out:Below w0.heap.size w0 bk));replace HK:=zz (Kept.of_grown (S:=(fun k_=>ai k_)) hg (by repeat(first|(with_reducible first|exact HK.out|apply Kept.alloc|apply Kept.drewN|apply Kept.drew)|exact HK.out)) (fun k_ e_=>(ad.out.1 k_ e_)));replace ad:=zz (hp_);clear hg hw hp_))
   go_roundg k1
   case measure=>have:=bs.out;omega
   case rel=>exact⟨(aL),(wrap64 ((wrap64 ((wrap64 ((wrap64 (af+1))+1))+1))+1)),(wrap64 (aa+1)),zr,zr,H',⟨by have:=bs.out;omega⟩,⟨zR ad.out⟩,⟨by repeat(first|(with_reducible first|exact HK.out|apply Kept.alloc|apply Kept.drewN|apply Kept.drew)|exact HK.out)⟩,⟨zb⟩⟩
def laws_heldEntryS.l0:Nat→List (S87)→Int→Int→Option (Int)
 |0,_,_,_=>none
 |k+1,x0,x1,x5=>if x5<(x0.length:Int) then(if 0≤x5 then((laws_markText.f k x1).bind fun aa=>(if((qA x0 x5).f0).toList=aa.toList then(if((qA x0 x5).f1)=(wrap64 (x1+1)) then((laws_markText.f k (wrap64 ((wrap64 (x1+1))+1))).bind fun ab=>(if((qA x0 x5).f2).toList=ab.toList then(if(((qA x0 x5).f3) !=((Int.tmod (wrap64 ((wrap64 ((wrap64 (x1+1))+1))+1)) 3)==0))=true then(some (-1)) else(laws_heldEntryS.l0 k x0 (wrap64 ((wrap64 ((wrap64 ((wrap64 (x1+1))+1))+1))+1)) (wrap64 (x5+1)))) else(some (-1)))) else(some (-1))) else(some (-1)))) else(none)) else(some x1)
def laws_heldEntryS.f(k:Nat)(l0:List (S87))(a1:Int):Option (Int):=laws_heldEntryS.l0 k l0 a1 0
theorem laws_heldEntryS.calls(k:Nat)(A0:Option Addr)(c0:Nat)(l0:List (S87))(a1:Int)(r:Int)(w:World)(au:Kd.C k87 w A0 l0.length l0)(av:l0.length≤c0)(h:laws_heldEntryS.f k l0 a1=some r):
 Calls Tryz.prog 65 #[.slice A0 l0.length c0,.int .i64 a1] w fun e w'=>e= .returned (.int .i64 r)∧Below w.heap.size w w':=by
 have aB:=zz au
 have aP:=zz av
 clear au av
 have HB:=yB w
 unfold laws_heldEntryS.f at h
 have H:=h
 clear h
 replace HB:=HB.out
 have HW:=yB w
 go_enter Tryz.func65,Tryz.ntmps65
 go_wp2_with(fail)
 go_loopg[1,5] k (fun kq v1 v5 w'=>∃(ab:Int) (aa:Int),v1= .int .i64 ab∧v5= .int .i64 aa∧qC (laws_heldEntryS.l0 kq l0 ab aa=some r)∧qC (kq≤k)∧qC (Below w.heap.size w w'))
 case atStart=>exact⟨(a1),(0),zr,zr,⟨H⟩,⟨Nat.le_refl _⟩,⟨HB⟩⟩
 case round=>
  clear H HB
  obtain⟨ab,aa,rfl,rfl,H,ai,HB⟩:=hrel
  replace HB:=HB.out
  replace H:=H.out
  have al:=yB w
  cases gk with
  |zero=>exact absurd H (by simp[laws_heldEntryS.l0])
  |succ ad=>
   simp only[laws_heldEntryS.l0] at H
   refine yDn H ?_ ?_<;>clear H<;>intro aJ H
   ·obtain rfl:=zi H
    exact yR
   go_wp2_with(fail)
   try simp only[Act.put,List.setIfInBounds_toArray,List.set_cons_zero,List.set_cons_succ]
   refine qR (C:=fun W_=>Below w.heap.size w W_) zk zk (qK HB) ?_
   replace H:=yAD H
   obtain⟨aK,H⟩:=H
   have aL:=yt (0≤(aa:Int))
   have aM:=yt ((aa:Int)<(l0.length:Int))
   obtain⟨aH,aw,ae,af,ag,ah⟩:=at_T87 aB.out aa z2 z2
   cases aw
   replace ae:=qH ae
   replace af:=qH af
   replace ag:=qH ag
   replace ah:=qH ah
   replace H:=yf H
   obtain⟨aN,A6,H⟩:=H
   refine yCn H ?_ ?_<;>clear H<;>intro c7 H
   ·obtain⟨ax,ay⟩:=zw c7
    obtain rfl:=zi H
    repeat(first|go_big_quiet_skip|(go_big_quiet_want;go_big_quiet_op;first|go_big_quiet_on|(with_reducible apply Exists.intro;refine⟨fun W hW=>?_,?_⟩;(first|with_reducible rfl|(go_at_call 64;exact vE (laws_markText.calls ad _ _ _ A6.out) hW)|(go_simp;with_reducible rfl));go_big_quiet_on)))
    clear HB
    refine zW fun aC (HB:Below w.heap.size w aC)=>?_
    exact yR
   obtain⟨ax,ay⟩:=zq c7
   clear c7
   refine yCn H ?_ ?_<;>clear H<;>intro c8 H
   ·obtain⟨az,aA⟩:=zw c8
    obtain rfl:=zi H
    repeat(first|go_big_quiet_skip|(go_big_quiet_want;go_big_quiet_op;first|go_big_quiet_on|(with_reducible apply Exists.intro;refine⟨fun W hW=>?_,?_⟩;(first|with_reducible rfl|(go_at_call 64;exact vE (laws_markText.calls ad _ _ _ A6.out) hW)|(go_simp;with_reducible rfl));go_big_quiet_on)))
    clear HB
    refine zW fun aD (HB:Below w.heap.size w aD)=>?_
    exact yR
   obtain⟨az,aA⟩:=zq c8
   clear c8
   repeat(first|go_big_quiet_skip|(go_big_quiet_want;go_big_quiet_op;first|go_big_quiet_on|(with_reducible apply Exists.intro;refine⟨fun W hW=>?_,?_⟩;(first|with_reducible rfl|(go_at_call 64;exact vE (laws_markText.calls ad _ _ _ A6.out) hW)|(go_simp;with_reducible rfl));go_big_quiet_on)))
   clear HB
   refine zW fun w9 (HB:Below w.heap.size w w9)=>?_
   go_wp2_with(fail)
   try simp only[Act.put,List.setIfInBounds_toArray,List.set_cons_zero,List.set_cons_succ]
   refine qR (C:=fun W_=>Below w.heap.size w W_) zk zk (qK HB) ?_
   replace H:=yf H
   obtain⟨aO,aj,H⟩:=H
   refine yCn H ?_ ?_<;>clear H<;>intro ak H
   ·obtain⟨am,an⟩:=zw ak
    obtain rfl:=zi H
    repeat(first|go_big_quiet_skip|(go_big_quiet_want;go_big_quiet_op;first|go_big_quiet_on|(with_reducible apply Exists.intro;refine⟨fun W hW=>?_,?_⟩;(first|with_reducible rfl|(go_at_call 64;exact vE (laws_markText.calls ad _ _ _ aj.out) hW)|(go_simp;with_reducible rfl));go_big_quiet_on)))
    clear HB
    refine zW fun aE (HB:Below w.heap.size w aE)=>?_
    exact yR
   obtain⟨am,an⟩:=zq ak
   clear ak
   refine yCn H ?_ ?_<;>clear H<;>intro ac H
   ·have ao:(((qA l0 aa).f3) !=((Int.tmod (wrap64 ((wrap64 ((wrap64 (ab+1))+1))+1)) 3)==0))=false:=by simpa using ac
    (try(have ap:decide (((qA l0 aa).f3)=((Int.tmod (wrap64 ((wrap64 ((wrap64 (ab+1))+1))+1)) 3)==0))=true:=by simpa using ac))
    (try(have ar:(((qA l0 aa).f3)==((Int.tmod (wrap64 ((wrap64 ((wrap64 (ab+1))+1))+1)) 3)==0))=true:=by simpa using ac))
    clear ac
    repeat(first|go_big_quiet_skip|(go_big_quiet_want;go_big_quiet_op;first|go_big_quiet_on|(with_reducible apply Exists.intro;refine⟨fun W hW=>?_,?_⟩;(first|with_reducible rfl|(go_at_call 64;exact vE (laws_markText.calls ad _ _ _ aj.out) hW)|(go_simp;with_reducible rfl));go_big_quiet_on)))
    clear HB
    refine zW fun aF (HB:Below w.heap.size w aF)=>?_
    go_wp2_with(fail)
    go_roundg ad
    case measure=>have:=ai.out;omega
    case rel=>exact⟨(wrap64 ((wrap64 ((wrap64 ((wrap64 (ab+1))+1))+1))+1)),(wrap64 (aa+1)),zr,zr,⟨H⟩,⟨by have:=ai.out;omega⟩,⟨zv al.out HB⟩⟩
   have ao:(((qA l0 aa).f3) !=((Int.tmod (wrap64 ((wrap64 ((wrap64 (ab+1))+1))+1)) 3)==0))=true:=ac
   (try(have ap:decide (((qA l0 aa).f3)=((Int.tmod (wrap64 ((wrap64 ((wrap64 (ab+1))+1))+1)) 3)==0))=false:=by simpa using ac))
   (try(have ar:(((qA l0 aa).f3)==((Int.tmod (wrap64 ((wrap64 ((wrap64 (ab+1))+1))+1)) 3)==0))=false:=by simpa using ac))
   (try(have aI:¬(((qA l0 aa).f3)=((Int.tmod (wrap64 ((wrap64 ((wrap64 (ab+1))+1))+1)) 3)==0)):=by simpa using ac))
   clear ac
   obtain rfl:=zi H
   repeat(first|go_big_quiet_skip|(go_big_quiet_want;go_big_quiet_op;first|go_big_quiet_on|(with_reducible apply Exists.intro;refine⟨fun W hW=>?_,?_⟩;(first|with_reducible rfl|(go_at_call 64;exact vE (laws_markText.calls ad _ _ _ aj.out) hW)|(go_simp;with_reducible rfl));go_big_quiet_on)))
   clear HB
   refine zW fun aG (HB:Below w.heap.size w aG)=>?_
   exact yR
end Go.Proofs.YtmdoobnlehkmpaaGreatDoor.Q
