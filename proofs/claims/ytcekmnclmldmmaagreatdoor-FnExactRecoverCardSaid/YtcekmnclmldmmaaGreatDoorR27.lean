import Derived.Test.YtcekmnclmldmmaaGreatDoorR26
set_option linter.unusedVariables false
set_option linter.unusedSimpArgs false
namespace Go.Proofs.YtcekmnclmldmmaaGreatDoor.Q
open Go.RowKit W1 W2 W3
attribute [local go_sem] max2_int min2_int max_two min_two max_three min_three max_four min_four
attribute [local go_sem high] bl_leq bl_gtr bl_geq
set_option maxHeartbeats 8000000
set_option maxRecDepth 100000
def impl_copyItem.f(ac:ByteArray)(ad:ByteArray)(aa:List ByteArray)(ae:ByteArray)(af:List (S96)):Option (ByteArray×ByteArray×List ByteArray×ByteArray×(List (S96))):=(some (([]:List ByteArray):List ByteArray)).bind fun ab=>(if ab.length+aa.length<8796093022208 then((impl_copyTree.f af).bind fun ag=>(some (ac,ad,(ab++aa),ae,ag))) else(none))
theorem impl_copyItem.calls(ag:ByteArray)(ah:ByteArray)(az:Option Addr)(aA:Nat)(ad:List ByteArray)(ai:ByteArray)(ao:Option Addr)(ap:Nat)(ac:List (S96))(r1:ByteArray)(r2:ByteArray)(r3:List ByteArray)(r4:ByteArray)(r5:List (S96))(w:World)(aH:Kd.C Kd.string w az ad.length ad)(aI:ad.length≤aA)(aJ:Kd.C k96 w ao ac.length ac)(aK:ac.length≤ap)(h:impl_copyItem.f ag ah ad ai ac=some (r1,r2,r3,r4,r5)):
 Calls Tryz.prog 135 #[.agg #[.string ag,.string ah,.slice az ad.length aA,.string ai,.slice ao ac.length ap]] w fun e w'=>∃aV aW:Value,e= .returned (.agg #[.string r1,.string r2,aV,.string r4,aW])∧Kd.R Kd.string 9 w' w.heap.size (fun _=>True) aV r3∧Kd.R k96 96 w' w.heap.size (fun _=>True) aW r5∧Below w.heap.size w w':=by
 have bR:=Tryz.underlying94
 have aP:=zz aH
 have bM:=zz aI
 clear aH aI
 have aQ:=zz aJ
 have aT:=zz aK
 clear aJ aK
 have HB:=yB w
 unfold impl_copyItem.f at h
 have H:=h
 clear h
 obtain⟨au,aj⟩:∃y_:List ByteArray,y_=(([]:List ByteArray)):=⟨_,rfl⟩
 replace H:(if au.length+ad.length<8796093022208 then((impl_copyTree.f ac).bind fun ae=>(some (ag,ah,(au++ad),ai,ae))) else(none))=some (r1,r2,r3,r4,r5):=by first|(rw[aj];with_reducible exact H)|(have ar:=(Option.bind_some _ _).symm.trans H;rw[aj];with_reducible exact ar)|(have ar:=(Option.bind_some _ _).symm.trans H;with_reducible exact ar)|with_reducible exact H|(rw[aj];exact H)|exact H
 have aM:=zz aj
 clear aj
 replace H:=yA H
 obtain⟨c2,H⟩:=H
 have aZ:=zz c2
 clear c2
 obtain⟨av,ak⟩:∃y_:List ByteArray,y_=(au++ad):=⟨_,rfl⟩
 replace H:((impl_copyTree.f ac).bind fun ae=>(some (ag,ah,av,ai,ae)))=some (r1,r2,r3,r4,r5):=by first|(rw[ak];with_reducible exact H)|(have ar:=(Option.bind_some _ _).symm.trans H;rw[ak];with_reducible exact ar)|(have ar:=(Option.bind_some _ _).symm.trans H;with_reducible exact ar)|with_reducible exact H|(rw[ak];exact H)|exact H
 have aU:=zz ak
 clear ak
 replace H:=zf H
 obtain⟨ae,aX,H⟩:=H
 try dsimp only at H
 have A3:=zz aX
 clear aX
 simp only[Option.some.injEq,Prod.mk.injEq] at H
 obtain⟨rfl,rfl,rfl,rfl,rfl⟩:=H
 go_enter Tryz.func135,Tryz.ntmps135
 go_wp2_with(first|(refine zX 1 94 #[.string ag,.string ah,.slice az ad.length aA,.string ai,.slice ao ac.length ap] ?_;intro af hg w4 hbox hb;have aa:=zz (hbox);have bN:=zz ((zg:w.heap.size≤af));have bO:=zz ((zg:w.heap.size≤af));replace HB:=zz (zv zb hb);clear hb hbox hg)|(refine zX 2 94 #[.string (⟨#[]⟩:ByteArray),.string (⟨#[]⟩:ByteArray),.slice none 0 0,.string (⟨#[]⟩:ByteArray),.slice none 0 0] ?_;intro al hg w5 hbox hb;have ab:=zz (hbox);have bP:=zz ((zg:w.heap.size≤al));have bQ:=zz ((zg:w.heap.size≤al));replace HB:=zz (zv zb hb);have aw:=zz (zH aa hg);have ax:=zz (zI aa hg);replace aa:=zz (zJ aa hb);clear hb hbox hg)|(refine zN 3 ?_;refine Kd.R_lit Kd.string _ 9 ?hg (N:=3) ?hd (xs:=([]:List ByteArray)) (inner:=[]) (ok:=fun _=>True) (okp:=fun _=>True) ?hr ?hp (fun _ hk=>hk) trivial (Below.refl _ _) (Nat.le_refl _) (by simp) ?_;(case hd=>rfl);(case hg=>rfl);(case hr=>first|(go_simp;done)|(go_simp;rfl));(case hp=>exact(Reps.none _ _));intro a0 w6 ay hb hg_ hnew_;clear hg_ hnew_;(first|rw[←aM.out] at ay|(simp only[Int.reduceToNat] at ay;rw[←aM.out] at ay));have am:=zz (Kd.vC ay (qE zb));replace aa:=zz (zJ aa hb);replace ab:=zz (zJ ab hb);replace HB:=zz (zv zb hb);clear hb ay;have bS:=aw.out;have bT:=ax.out;obtain⟨bC,bD,bE,bF,bG,bH,bI,bJ,bK,bL⟩:=zc5 aa.out)|((with_reducible refine qW (b:= .append) (xs:= #[.tmp 3,.tmp 5]) rfl ?_);at_builtin;refine Kd.R_append_rows Kd.string (w0:=w) w.heap.size rfl (.tmp 3) (.tmp 5) 39 9 (.string ⟨#[]⟩) 16 rfl Tryz.underlying39 info9 rfl (by decide) (by omega) a0 au ad _ _ _ (fun _=>True) (fun _=>False) rfl rfl ?aO ?aR (fun _ _ h=>h) (fun _ h=>h.elim) ?aF ?aB ?aS ?aL ?_;(case aR=>exact zc aP.out);(case aB=>exact zb);(case aF=>exact(fun _ _=>trivial));(case aO=>exact(zR am.out));(case aS=>exact(qE zb));(case aL=>have:=aZ.out;omega);intro bU bW ho hb hg hat;rw[←aU.out] at ho;replace aa:=zz (zK aa hg (Kd.R_ne am.out aa.out (by decide)));replace ab:=zz (zK ab hg (Kd.R_ne am.out ab.out (by decide)));replace HB:=zz (hb);have an:=zz (ho);clear am;clear ho hb hg hat;obtain⟨aC,aD,a1⟩:=Kd.qV an.out;subst a1;obtain⟨a3,a4,a5,a6,a7,a8,a9,ba,bb,bc⟩:=zc5 aa.out)|(refine zL 112 10 Tryz.func112 #[.slice ao ac.length ap] ?_;(with_reducible refine(impl_copyTree.calls _ _ ac ae _ ?s1 ?s2 A3.out).mono ?_);(case s1=>exact Kd.qC aQ.out zb);(case s2=>exact aT.out);rintro e bX ⟨bV,rfl,aY,hb⟩;refine⟨_,rfl,?_⟩;replace an:=zz (Kd.R_below (by(with_reducible repeat(first|apply Kd.R_alloc|apply Kd.R_drewN|apply Kd.R_drew));exact(Kd.qT (Kd.R_far (p:=⟨af,2,none⟩) (Kd.qY an.out aa.out (by decide)) (fun _ hk=>hk.2) (.slice aC av.length aD)) (fun _ h_=>h_.1))) hb);have aN:=zz (Kd.vC aY (qE zb));replace aa:=zz (qM (g:=af) (o:= .cells #[.string ag,.string ah,.slice aC av.length aD,.string ai,.slice ao ac.length ap] 94 (0,0)) (yP aa.out) hb);replace ab:=zz (qM (g:=al) (o:= .cells #[.string (⟨#[]⟩:ByteArray),.string (⟨#[]⟩:ByteArray),.slice none 0 0,.string (⟨#[]⟩:ByteArray),.slice none 0 0] 94 (0,0)) (yP ab.out) hb);replace HB:=zz (zv zb hb);(try clear hb);(try clear bY);(try clear hk);(try clear hi);(try clear aY);obtain⟨aE,aG,a2⟩:=Kd.qV aN.out;subst a2;obtain⟨bd,be,bf,bg,bh,bi,bj,bk,bl,bn⟩:=zc5 aa.out;obtain⟨bo,bq,br,bs,bu,bv,bw,bz,bA,bB⟩:=zc5 ab.out))
 refine bodyPost_ret (results_cell_row rfl _ _ al 94 #[.string ag,.string ah,.slice aC av.length aD,.string ai,.slice aE ae.length aG] (0,0) _ rfl (yP ab.out) Tryz.underlying94 rfl zk) rfl ?_
 exact⟨_,_,ze,yV (Kd.R_far (p:=⟨af,4,none⟩) (Kd.qY (Kd.qY an.out aa.out (by decide)) ab.out (by decide)) (fun _ hk=>hk.1.2) (.slice aE ae.length aG)),yV (Kd.R_far (p:=⟨af,4,none⟩) (Kd.qY (Kd.qY aN.out aa.out (by decide)) ab.out (by decide)) (fun _ hk=>hk.1.2) (.slice aE ae.length aG)),zb⟩
def impl_copyStore.l0:Nat→List (S94)→List (S94)→Int→Int→Option ((List (S94)))
 |0,_,_,_,_=>none
 |k+1,x3,x7,x8,x9=>if x9<x8 then(if 0≤x9 then(if x9<(x7.length:Int) then((impl_copyItem.f ((qG x7 x9).f0) ((qG x7 x9).f1) ((qG x7 x9).f2) ((qG x7 x9).f3) ((qG x7 x9).f4)).bind fun aa=>(if x3.length<1466015503701 then(impl_copyStore.l0 k (x3++[(⟨aa.1,aa.2.1,aa.2.2.1,aa.2.2.2.1,aa.2.2.2.2⟩:S94)]) x7 x8 (wrap64 (x9+1))) else(none))) else(none)) else(none)) else(some x3)
def impl_copyStore.f(k:Nat)(l0:List (S94)):Option ((List (S94))):=impl_copyStore.l0 k (([]:List (S94))) l0 (l0.length:Int) 0
theorem impl_copyStore.calls(k:Nat)(A0:Option Addr)(c0:Nat)(l0:List (S94))(r:List (S94))(w:World)(a2:Kd.C k94 w A0 l0.length l0)(a3:l0.length≤c0)(h:impl_copyStore.f k l0=some r):
 Calls Tryz.prog 110 #[.slice A0 l0.length c0] w fun e w'=>∃a4:Value,e= .returned (a4)∧Kd.S k94 94 w' w.heap.size (fun _=>True) a4 r∧Below w.heap.size w w':=by
 have br:=Tryz.underlying94
 have bl:=zz a2
 have bE:=zz a3
 clear a2 a3
 have HB:=yB w
 unfold impl_copyStore.f at h
 have H:=h
 clear h
 obtain⟨aQ,ae⟩:∃y_:List (S94),y_=(([]:List (S94))):=⟨_,rfl⟩
 replace H:(impl_copyStore.l0 k aQ l0 (l0.length:Int) 0)=some r:=by first|(rw[ae];with_reducible exact H)|(have ao:=(Option.bind_some _ _).symm.trans H;rw[ae];with_reducible exact ao)|(have ao:=(Option.bind_some _ _).symm.trans H;with_reducible exact ao)|with_reducible exact H|(rw[ae];exact H)|exact H
 have aI:=zz ae
 clear ae
 have H':=zz H
 clear H
 go_enter Tryz.func110,Tryz.ntmps110
 go_wp2_with(first|(refine zN 6 ?_;refine Kd.S_lit k94 _ 94 ?hg (N:=6) ?hd (xs:=([]:List (S94))) (inner:=[]) (ok:=fun _=>True) (okp:=fun _=>True) ?hr ?hp (fun _ hk=>hk) trivial (Below.refl _ _) (Nat.le_refl _) (by simp) ?_;(case hd=>rfl);(case hg=>rfl);(case hr=>first|(go_simp;done)|(go_simp;rfl));(case hp=>exact(Reps.none _ _));intro bs w2 aH hb hg_ hnew_;clear hg_ hnew_;(first|rw[←aI.out] at aH|(simp only[Int.reduceToNat] at aH;rw[←aI.out] at aH));have aZ:=zz (Kd.S_lower aH (qE zb));replace HB:=zz (zv zb hb);clear hb aH))
 go_loopg[3,9] k (fun kq v3 v9 w'=>∃(ap:List (S94)) (aa:Int),v9= .int .i64 aa∧qA (impl_copyStore.l0 kq ap l0 (l0.length:Int) aa=some r)∧qA (kq≤k)∧qA (Kd.S k94 94 w' w.heap.size (fun _=>True) v3 ap)∧qA (Below w.heap.size w w'))
 case atStart=>exact⟨(aQ),(0),zr,H',⟨Nat.le_refl _⟩,⟨zS aZ.out⟩,⟨zb⟩⟩
 case round=>
  clear H'
  try clear c1
  try clear p2
  obtain⟨ap,aa,rfl,HA,a5,ad,HB⟩:=hrel
  cases gk with
  |zero=>exact absurd HA.out (by simp[impl_copyStore.l0])
  |succ k1=>
   have H:=HA.out
   clear HA
   simp only[impl_copyStore.l0] at H
   refine yDn H ?_ ?_<;>clear H<;>intro bu H
   ·obtain rfl:=zi H
    go_wp2
    go_ret
    exact⟨_,ze,zS ad.out,zb⟩
   replace H:=yAD H
   obtain⟨bv,H⟩:=H
   replace H:=yAD H
   obtain⟨bw,H⟩:=H
   replace H:=zf H
   obtain⟨⟨ar,au,ak,av,al⟩,a6,H⟩:=H
   try dsimp only at H
   have A7:=zz a6
   clear a6
   replace H:=yA H
   obtain⟨c8,H⟩:=H
   have a7:=zz c8
   clear c8
   obtain⟨aR,af⟩:∃y_:List (S94),y_=(ap++[(⟨ar,au,ak,av,al⟩:S94)]):=⟨_,rfl⟩
   replace H:(impl_copyStore.l0 k1 aR l0 (l0.length:Int) (wrap64 (aa+1)))=some r:=by first|(rw[af];with_reducible exact H)|(have ao:=(Option.bind_some _ _).symm.trans H;rw[af];with_reducible exact ao)|(have ao:=(Option.bind_some _ _).symm.trans H;with_reducible exact ao)|with_reducible exact H|(rw[af];exact H)|exact H
   have a0:=zz af
   clear af
   have H':=zz H
   clear H
   have bz:=yt (0≤(aa:Int))
   have bA:=yt (aa<(l0.length:Int))
   obtain⟨bn,ag,ah,ai,aj,a8,aw,ax,ay,az,aA,aC,aD,aE,aG⟩:=at_T94 bl.out aa z2 z2
   cases a8
   replace aw:=z3 HB.out aw
   replace ax:=z3 HB.out ax
   replace ay:=z3 HB.out ay
   replace az:=z3 HB.out az
   replace aA:=z3 HB.out aA
   have aJ:=zz aD
   have aK:=zz aC
   clear aD aC
   have aM:=zz aG
   have aN:=zz aE
   clear aG aE
   go_wp2_with(first|(refine zX 5 94 #[.string (⟨#[]⟩:ByteArray),.string (⟨#[]⟩:ByteArray),.slice none 0 0,.string (⟨#[]⟩:ByteArray),.slice none 0 0] ?_;intro ab hg w9 hbox hb;replace ad:=zz (Kd.vE (Kd.S_elderB (zS ad.out) ab (Nat.le_of_eq hg.symm)) hb);have ac:=zz (hbox);have bo:=zz ((zg:w.heap.size≤ab));have bq:=zz ((zg:w.heap.size≤ab));replace HB:=zz (zv zb hb);clear hb hbox hg;obtain⟨bb,bc,bd,be,bf,bg,bh,bi,bj,bk⟩:=zc5 ac.out)|(refine zL 135 15 Tryz.func135 #[.agg #[.string ((qG l0 aa).f0),.string ((qG l0 aa).f1),.slice ag ((qG l0 aa).f2).length ah,.string ((qG l0 aa).f3),.slice ai ((qG l0 aa).f4).length aj]] ?_;(with_reducible refine(impl_copyItem.calls ((qG l0 aa).f0) ((qG l0 aa).f1) _ _ ((qG l0 aa).f2) ((qG l0 aa).f3) _ _ ((qG l0 aa).f4) ar au ak av al _ ?s1 ?s2 ?s3 ?s4 A7.out).mono ?_);(case s1=>exact Kd.qC aJ.out zb);(case s2=>exact aK.out);(case s3=>exact Kd.qC aM.out zb);(case s4=>exact aN.out);rintro e bF ⟨bB,bC,rfl,aT,aU,hb⟩;refine⟨_,rfl,?_⟩;replace ad:=zz (Kd.qZ (Kd.S_told (Kd.S_told (Kd.S_old (by(with_reducible repeat(first|apply Kd.vM|apply Kd.vN|apply Kd.S_drew));exact(Kd.qZ (Kd.vK (p:=⟨ab,4,none⟩) (Kd.vK (p:=⟨ab,3,none⟩) (Kd.vK (p:=⟨ab,2,none⟩) (Kd.vK (p:=⟨ab,1,none⟩) (Kd.vK (p:=⟨ab,0,none⟩) (Kd.qZ ad.out (fun k_ hk=>(⟨hk,hk.2⟩:_∧k_≠ab))) (fun _ hk=>hk.2) (.string ((qG l0 aa).f0))) (fun _ hk=>hk.2) (.string ((qG l0 aa).f1))) (fun _ hk=>hk.2) (.slice ag ((qG l0 aa).f2).length ah)) (fun _ hk=>hk.2) (.string ((qG l0 aa).f3))) (fun _ hk=>hk.2) (.slice ai ((qG l0 aa).f4).length aj)) (fun _ h_=>h_.1))) hb) (Kd.R_base aT)) (Kd.R_base aU)) (fun _ h_=>h_.1));have am:=zz (Kd.vC aT (qE zb));have an:=zz (Kd.vC aU (qE zb));replace ac:=zz (qM (g:=ab) (o:= .cells #[.string ((qG l0 aa).f0),.string ((qG l0 aa).f1),.slice ag ((qG l0 aa).f2).length ah,.string ((qG l0 aa).f3),.slice ai ((qG l0 aa).f4).length aj] 94 (0,0)) (yP ac.out) hb);replace HB:=zz (zv zb hb);(try clear hb);(try clear bG);(try clear hk);(try clear hi);(try clear aT);(try clear aU);obtain⟨aV,aW,a9⟩:=Kd.qV am.out;subst a9;obtain⟨aX,aY,ba⟩:=Kd.qV an.out;subst ba)|((with_reducible refine qW (b:= .append) (xs:= #[.tmp 13,.tmp 16]) rfl ?_);at_builtin;refine Kd.S_append k94 (w0:=w) w.heap.size rfl (.tmp 13) (.tmp 16) 30 94 (.agg #[(.string ⟨#[]⟩),(.string ⟨#[]⟩),(.slice none 0 0),(.string ⟨#[]⟩),(.slice none 0 0)]) 96 rfl Tryz.underlying30 info94 rfl (by decide) (by omega) u3 ap (⟨ar,au,ak,av,al⟩:S94) [.string ar,.string au,.slice aV ak.length aW,.string av,.slice aX al.length aY] (fun k_=>k_≠ab) (fun k_=>some k_=(.slice aV ak.length aW:Value).ownBlock∨some k_=(.slice aX al.length aY:Value).ownBlock) rfl rfl ?aP (fun k_ hk_=>hk_.elim (fun h_=>((Kd.qT (ok':=fun k_=>((fun k_=>k_≠ab)) k_∧some k_≠(u3:Value).ownBlock) (Kd.qY (Kd.R_apart' (am.out) (Kd.S_typed ad.out) (by decide)) ac.out (by decide)) (fun k_ hk=>⟨hk.2,hk.1.2⟩))).1 k_ h_.symm) (fun h_=>((Kd.qT (ok':=fun k_=>((fun k_=>k_≠ab)) k_∧some k_≠(u3:Value).ownBlock) (Kd.qY (Kd.R_apart' (an.out) (Kd.S_typed ad.out) (by decide)) ac.out (by decide)) (fun k_ hk=>⟨hk.2,hk.1.2⟩))).1 k_ h_.symm)) ?aF ?aO ?aB ?aS ?aL ?_;(case aP=>exact k94_mkM _ _ _ (⟨ar,au,ak,av,al⟩:S94) (Kd.qT (Kd.R_tight rfl (Kd.qT (ok':=fun k_=>((fun k_=>k_≠ab)) k_∧some k_≠(u3:Value).ownBlock) (Kd.qY (Kd.R_apart' (am.out) (Kd.S_typed ad.out) (by decide)) ac.out (by decide)) (fun k_ hk=>⟨hk.2,hk.1.2⟩))) (fun _ h_=>Or.inl h_)) (Kd.qT (Kd.R_tight rfl (Kd.qT (ok':=fun k_=>((fun k_=>k_≠ab)) k_∧some k_≠(u3:Value).ownBlock) (Kd.qY (Kd.R_apart' (an.out) (Kd.S_typed ad.out) (by decide)) ac.out (by decide)) (fun k_ hk=>⟨hk.2,hk.1.2⟩))) (fun _ h_=>Or.inr (h_))));(case aB=>exact zb);(case aF=>exact(fun k_ hk=>Kd.freshB (g:=ab) (o:= .cells #[.string ((qG l0 aa).f0),.string ((qG l0 aa).f1),.slice ag ((qG l0 aa).f2).length ah,.string ((qG l0 aa).f3),.slice ai ((qG l0 aa).f4).length aj] 94 (0,0)) (zB ac.out) k_ hk));(case aO=>exact(by(with_reducible repeat(first|apply Kd.vM|apply Kd.vN|apply Kd.S_drew));exact Kd.qZ ad.out (fun k_ hk=>⟨hk.1.1.2,fun e_=>e_.elim (fun h_=>hk.1.2 h_) (fun h_=>hk.2 h_)⟩)));(case aS=>exact(qE zb));(case aL=>have:=a7.out;omega);intro bD bH ho hb hg hat;rw[←a0.out] at ho;replace ac:=zz (zK ac hg (Kd.S_away ad.out (fun _ hk=>hk.1.1.2)));replace HB:=zz (hb);have a1:=zz (ho);clear ad am an;clear ho hb hg hat))
   go_roundg k1
   case measure=>have:=a5.out;omega
   case rel=>exact⟨(aR),(wrap64 (aa+1)),zr,H',⟨by have:=a5.out;omega⟩,⟨by(with_reducible repeat(first|apply Kd.vM|apply Kd.vN|apply Kd.S_drew));exact Kd.qZ a1.out (fun _ hk=>trivial)⟩,⟨zb⟩⟩
def impl_copyProfiles.l0:Nat→List (S67)→List (S67)→Int→Int→Option ((List (S67)))
 |0,_,_,_,_=>none
 |k+1,x3,x7,x8,x9=>if x9<x8 then(if 0≤x9 then(if x9<(x7.length:Int) then((some (([]:List (S70)):List (S70))).bind fun aa=>(if aa.length+((qD x7 x9).f2).length<5864062014805 then(if x3.length<2932031007402 then(impl_copyProfiles.l0 k (x3++[(⟨(qD x7 x9).f0,(qD x7 x9).f1,(aa++((qD x7 x9).f2))⟩:S67)]) x7 x8 (wrap64 (x9+1))) else(none)) else(none))) else(none)) else(none)) else(some x3)
def impl_copyProfiles.f(k:Nat)(l0:List (S67)):Option ((List (S67))):=impl_copyProfiles.l0 k (([]:List (S67))) l0 (l0.length:Int) 0
theorem impl_copyProfiles.calls(k:Nat)(A0:Option Addr)(c0:Nat)(l0:List (S67))(r:List (S67))(w:World)(aT:Kd.C k67 w A0 l0.length l0)(aU:l0.length≤c0)(h:impl_copyProfiles.f k l0=some r):
 Calls Tryz.prog 111 #[.slice A0 l0.length c0] w fun e w'=>∃aV:Value,e= .returned (aV)∧Kd.S k67 67 w' w.heap.size (fun _=>True) aV r∧Below w.heap.size w w':=by
 have bG:=Tryz.underlying67
 have bA:=zz aT
 have bP:=zz aU
 clear aT aU
 have HB:=yB w
 unfold impl_copyProfiles.f at h
 have H:=h
 clear h
 obtain⟨aI,ak⟩:∃y_:List (S67),y_=(([]:List (S67))):=⟨_,rfl⟩
 replace H:(impl_copyProfiles.l0 k aI l0 (l0.length:Int) 0)=some r:=by first|(rw[ak];with_reducible exact H)|(have af:=(Option.bind_some _ _).symm.trans H;rw[ak];with_reducible exact af)|(have af:=(Option.bind_some _ _).symm.trans H;with_reducible exact af)|with_reducible exact H|(rw[ak];exact H)|exact H
 have aD:=zz ak
 clear ak
 have H':=zz H
 clear H
 go_enter Tryz.func111,Tryz.ntmps111
 go_wp2_with(first|(refine zN 6 ?_;refine Kd.S_lit k67 _ 67 ?hg (N:=6) ?hd (xs:=([]:List (S67))) (inner:=[]) (ok:=fun _=>True) (okp:=fun _=>True) ?hr ?hp (fun _ hk=>hk) trivial (Below.refl _ _) (Nat.le_refl _) (by simp) ?_;(case hd=>rfl);(case hg=>rfl);(case hr=>first|(go_simp;done)|(go_simp;rfl));(case hp=>exact(Reps.none _ _));intro bH w2 az hb hg_ hnew_;clear hg_ hnew_;(first|rw[←aD.out] at az|(simp only[Int.reduceToNat] at az;rw[←aD.out] at az));have aK:=zz (Kd.S_lower az (qE zb));replace HB:=zz (zv zb hb);clear hb az))
 go_loopg[3,9] k (fun kq v3 v9 w'=>∃(ag:List (S67)) (aa:Int),v9= .int .i64 aa∧qA (impl_copyProfiles.l0 kq ag l0 (l0.length:Int) aa=some r)∧qA (kq≤k)∧qA (Kd.S k67 67 w' w.heap.size (fun _=>True) v3 ag)∧qA (Below w.heap.size w w'))
 case atStart=>exact⟨(aI),(0),zr,H',⟨Nat.le_refl _⟩,⟨zS aK.out⟩,⟨zb⟩⟩
 case round=>
  clear H'
  try clear c1
  try clear p2
  obtain⟨ag,aa,rfl,HA,aW,ad,HB⟩:=hrel
  cases gk with
  |zero=>exact absurd HA.out (by simp[impl_copyProfiles.l0])
  |succ k1=>
   have H:=HA.out
   clear HA
   simp only[impl_copyProfiles.l0] at H
   refine yDn H ?_ ?_<;>clear H<;>intro bI H
   ·obtain rfl:=zi H
    go_wp2
    go_ret
    exact⟨_,ze,zS ad.out,zb⟩
   replace H:=yAD H
   obtain⟨bJ,H⟩:=H
   replace H:=yAD H
   obtain⟨bK,H⟩:=H
   obtain⟨ax,al⟩:∃y_:List (S70),y_=(([]:List (S70))):=⟨_,rfl⟩
   replace H:(if ax.length+((qD l0 aa).f2).length<5864062014805 then(if ag.length<2932031007402 then(impl_copyProfiles.l0 k1 (ag++[(⟨(qD l0 aa).f0,(qD l0 aa).f1,(ax++((qD l0 aa).f2))⟩:S67)]) l0 (l0.length:Int) (wrap64 (aa+1))) else(none)) else(none))=some r:=by first|(rw[al];with_reducible exact H)|(have af:=(Option.bind_some _ _).symm.trans H;rw[al];with_reducible exact af)|(have af:=(Option.bind_some _ _).symm.trans H;with_reducible exact af)|with_reducible exact H|(rw[al];exact H)|exact H
   have aE:=zz al
   clear al
   replace H:=yA H
   obtain⟨c7,H⟩:=H
   have a1:=zz c7
   clear c7
   obtain⟨ae,am⟩:∃y_:List (S70),y_=(ax++((qD l0 aa).f2)):=⟨_,rfl⟩
   replace H:(if ag.length<2932031007402 then(impl_copyProfiles.l0 k1 (ag++[(⟨(qD l0 aa).f0,(qD l0 aa).f1,ae⟩:S67)]) l0 (l0.length:Int) (wrap64 (aa+1))) else(none))=some r:=by first|(rw[am];with_reducible exact H)|(have af:=(Option.bind_some _ _).symm.trans H;rw[am];with_reducible exact af)|(have af:=(Option.bind_some _ _).symm.trans H;with_reducible exact af)|with_reducible exact H|(rw[am];exact H)|exact H
   have aM:=zz am
   clear am
   replace H:=yA H
   obtain⟨c8,H⟩:=H
   have a2:=zz c8
   clear c8
   obtain⟨aJ,an⟩:∃y_:List (S67),y_=(ag++[(⟨(qD l0 aa).f0,(qD l0 aa).f1,ae⟩:S67)]):=⟨_,rfl⟩
   replace H:(impl_copyProfiles.l0 k1 aJ l0 (l0.length:Int) (wrap64 (aa+1)))=some r:=by first|(rw[an];with_reducible exact H)|(have af:=(Option.bind_some _ _).symm.trans H;rw[an];with_reducible exact af)|(have af:=(Option.bind_some _ _).symm.trans H;with_reducible exact af)|with_reducible exact H|(rw[an];exact H)|exact H
   have aN:=zz an
   clear an
   have H':=zz H
   clear H
   have bL:=yt (0≤(aa:Int))
   have bM:=yt (aa<(l0.length:Int))
   obtain⟨bD,aA,aC,a3,ap,ar,au,av,aw⟩:=at_T67 bA.out aa z2 z2
   cases a3
   replace ap:=z3 HB.out ap
   replace ar:=z3 HB.out ar
   replace au:=z3 HB.out au
   have aH:=zz aw
   have a6:=zz av
   clear aw av
   go_wp2_with(first|(refine zX 5 67 #[.string (⟨#[]⟩:ByteArray),.int .i64 0,.slice none 0 0] ?_;intro ab hg w9 hbox hb;replace ad:=zz (Kd.vE (Kd.S_elderB (zS ad.out) ab (Nat.le_of_eq hg.symm)) hb);have ac:=zz (hbox);have bE:=zz ((zg:w.heap.size≤ab));have bF:=zz ((zg:w.heap.size≤ab));replace HB:=zz (zv zb hb);clear hb hbox hg;obtain⟨a7,a8,a9,ba,bb,bc⟩:=zc3 ac.out)|(refine zN 13 ?_;refine Kd.R_lit k70 _ 70 ?hg (N:=13) ?hd (xs:=([]:List (S70))) (inner:=[]) (ok:=fun _=>True) (okp:=fun _=>True) ?hr ?hp (fun _ hk=>hk) trivial (Below.refl _ _) (Nat.le_refl _) (by simp) ?_;(case hd=>rfl);(case hg=>rfl);(case hr=>first|(go_simp;done)|(go_simp;rfl));(case hp=>exact(Reps.none _ _));intro a4 bQ ao hb hg_ hnew_;clear hg_ hnew_;(first|rw[←aE.out] at ao|(simp only[Int.reduceToNat] at ao;rw[←aE.out] at ao));replace ad:=zz (Kd.S_elder' (by(with_reducible repeat(first|apply Kd.vM|apply Kd.vN|apply Kd.S_drew));exact(Kd.qZ (Kd.vK (p:=⟨ab,2,none⟩) (Kd.vK (p:=⟨ab,1,none⟩) (Kd.vK (p:=⟨ab,0,none⟩) (Kd.qZ ad.out (fun k_ hk=>(⟨hk,hk.2⟩:_∧k_≠ab))) (fun _ hk=>hk.2) (.string ((qD l0 aa).f0))) (fun _ hk=>hk.2) (.int .i64 ((qD l0 aa).f1))) (fun _ hk=>hk.2) (.slice aA ((qD l0 aa).f2).length aC)) (fun _ h_=>h_.1))) (Kd.R_base ao) hb);have ay:=zz (Kd.vC ao (qE zb));replace ac:=zz (qM (g:=ab) (o:= .cells #[.string ((qD l0 aa).f0),.int .i64 ((qD l0 aa).f1),.slice aA ((qD l0 aa).f2).length aC] 67 (0,0)) (yP ac.out) hb);replace HB:=zz (zv zb hb);clear hb ao;obtain⟨bd,be,bf,bg,bh,bi⟩:=zc3 ac.out)|((with_reducible refine qW (b:= .append) (xs:= #[.tmp 13,.tmp 15]) rfl ?_);at_builtin;refine Kd.R_append_rows k70 (w0:=w) w.heap.size rfl (.tmp 13) (.tmp 15) 65 70 (.agg #[(.int .i64 0),(.string ⟨#[]⟩)]) 24 rfl Tryz.underlying65 info70 rfl (by decide) (by omega) a4 ax ((qD l0 aa).f2) _ _ _ (fun _=>True) (fun _=>False) rfl rfl ?aO ?aR (fun _ _ h=>h) (fun _ h=>h.elim) ?aF ?aB ?aS ?aL ?_;(case aR=>exact zc aH.out);(case aB=>exact zb);(case aF=>exact(fun _ _=>trivial));(case aO=>exact(zR ay.out));(case aS=>exact(qE zb));(case aL=>have:=a1.out;omega);intro bN bB ho hb hg hat;rw[←aM.out] at ho;replace ad:=zz (Kd.S_after (ok:=(fun k_=>k_≠ab)) (by(with_reducible repeat(first|apply Kd.vM|apply Kd.vN|apply Kd.S_drew));exact Kd.qZ ad.out (fun _ hk=>⟨hk.1.2,hk.2⟩)) hg hat);replace ac:=zz (zK ac hg (Kd.R_ne ay.out ac.out (by decide)));replace HB:=zz (hb);have ah:=zz (ho);clear ay;clear ho hb hg hat;obtain⟨ai,aj,a5⟩:=Kd.qV ah.out;subst a5;obtain⟨bj,bk,bl,bn,bo,bq⟩:=zc3 ac.out)|((with_reducible refine qP (t:=65) (p:=17) rfl ?_);refine qL (t:=65) (p:=17) (v:=?bC) (w1:=(bB.setCell ⟨ab,2,none⟩ (.slice ai ae.length aj))) ?hg ?ho ?hn ?hr ?_;(case ho=>rfl);(case hg=>rfl);(case hn=>rfl);(case hr=>first|(go_simp;done)|(go_simp;rfl));intro aG hw;have aX:qA (Kd.S k67 67 aG w.heap.size (fun k_=>some k_≠(.slice ai ae.length aj:Value).ownBlock∧k_≠ab) u3 ag):=⟨(by rw[hw];exact(by(with_reducible repeat(first|apply Kd.vM|apply Kd.vN|apply Kd.S_drew));exact Kd.qZ (Kd.vK (p:=⟨ab,2,none⟩) (Kd.qZ ad.out (fun k_ hk=>(⟨hk,hk.1⟩:_∧k_≠ab))) (fun _ hk=>hk.2) (.slice ai ae.length aj)) (fun _ hk=>⟨hk.1.2,hk.1.1⟩)))⟩;have aY:qA (Kd.R k70 70 aG w.heap.size (fun _=>True) (.slice ai ae.length aj) ae):=⟨(by rw[hw];exact(yV (Kd.qY ah.out ac.out (by decide))))⟩;have aZ:qA (aG.heap[ab]?=some (.cells #[.string ((qD l0 aa).f0),.int .i64 ((qD l0 aa).f1),.slice ai ae.length aj] 67 (0,0))):=⟨(by rw[hw];exact(yP ac.out))⟩;have a0:qA (Below w.heap.size w aG):=⟨(by rw[hw];exact zb)⟩;clear hw;clear ad;clear ah;clear ac;clear HB;have ad:=aX;have ah:=aY;have ac:=aZ;have HB:=a0;clear aX aY aZ a0;obtain⟨br,bs,bu,bv,bw,bz⟩:=zc3 ac.out)|((with_reducible refine qW (b:= .append) (xs:= #[.tmp 18,.tmp 20]) rfl ?_);at_builtin;refine Kd.S_append k67 (w0:=w) w.heap.size rfl (.tmp 18) (.tmp 20) 31 67 (.agg #[(.string ⟨#[]⟩),(.int .i64 0),(.slice none 0 0)]) 48 rfl Tryz.underlying31 info67 rfl (by decide) (by omega) u3 ag (⟨(qD l0 aa).f0,(qD l0 aa).f1,ae⟩:S67) [.string ((qD l0 aa).f0),.int .i64 ((qD l0 aa).f1),.slice ai ae.length aj] (fun k_=>k_≠ab) (fun k_=>some k_=(.slice ai ae.length aj:Value).ownBlock) rfl rfl ?aP (fun k_ hk_=>((Kd.qT (ok':=fun k_=>((fun k_=>k_≠ab)) k_∧some k_≠(u3:Value).ownBlock) (Kd.qY (Kd.R_apart' (ah.out) (Kd.S_typed ad.out) (by decide)) ac.out (by decide)) (fun k_ hk=>⟨hk.2,hk.1.2⟩))).1 k_ hk_.symm) ?aF ?aO ?aB ?aS ?aL ?_;(case aP=>exact k67_mkM _ _ _ (⟨(qD l0 aa).f0,(qD l0 aa).f1,ae⟩:S67) (Kd.qT (Kd.R_tight rfl (Kd.qT (ok':=fun k_=>((fun k_=>k_≠ab)) k_∧some k_≠(u3:Value).ownBlock) (Kd.qY (Kd.R_apart' (ah.out) (Kd.S_typed ad.out) (by decide)) ac.out (by decide)) (fun k_ hk=>⟨hk.2,hk.1.2⟩))) (fun _ h_=>h_)));(case aB=>exact zb);(case aF=>exact(fun k_ hk=>Kd.freshB (g:=ab) (o:= .cells #[.string ((qD l0 aa).f0),.int .i64 ((qD l0 aa).f1),.slice ai ae.length aj] 67 (0,0)) (zB ac.out) k_ hk));(case aO=>exact(by(with_reducible repeat(first|apply Kd.vM|apply Kd.vN|apply Kd.S_drew));exact Kd.qZ ad.out (fun k_ hk=>⟨hk.2,fun e_=>hk.1 e_⟩)));(case aS=>exact(qE zb));(case aL=>have:=a2.out;omega);intro bO bR ho hb hg hat;rw[←aN.out] at ho;replace ac:=zz (zK ac hg (Kd.S_away ad.out (fun _ hk=>hk.2)));replace HB:=zz (hb);have aQ:=zz (ho);clear ad ah;clear ho hb hg hat))
   go_roundg k1
   case measure=>have:=aW.out;omega
   case rel=>exact⟨(aJ),(wrap64 (aa+1)),zr,H',⟨by have:=aW.out;omega⟩,⟨by(with_reducible repeat(first|apply Kd.vM|apply Kd.vN|apply Kd.S_drew));exact Kd.qZ aQ.out (fun _ hk=>trivial)⟩,⟨zb⟩⟩
def impl_copyWorld.l0:Nat→List (S61)→Int→Int→List (S94)→List (S67)→List (S61)→List (S64)→Option ((List (S94))×(List (S67))×(List (S61))×(List (S64)))
 |0,_,_,_,_,_,_,_=>none
 |k+1,af,ag,ab,ac,ad,aa,ae=>if ab<ag then(if 0≤ab then(if ab<(af.length:Int) then((impl_copyTree.f ((qR af ab).f1)).bind fun ah=>(if aa.length<2513169434916 then(impl_copyWorld.l0 k af ag (wrap64 (ab+1)) ac ad (aa++[(⟨(qR af ab).f0,ah,(qR af ab).f2⟩:S61)]) ae) else(none))) else(none)) else(none)) else(some (ac,ad,aa,ae))
def impl_copyWorld.f(k:Nat)(ad:List (S94))(ae:List (S67))(aa:List (S61))(ab:List (S64)):Option ((List (S94))×(List (S67))×(List (S61))×(List (S64))):=(impl_copyStore.f k ad).bind fun af=>((impl_copyProfiles.f k ae).bind fun ag=>((some (([]:List (S64)):List (S64))).bind fun ac=>(if ac.length+ab.length<4398046511104 then(impl_copyWorld.l0 k aa (aa.length:Int) 0 af ag ([]:List (S61)) (ac++ab)) else(none))))
def impl_copyWorld.T1:Bool×List (List Nat×List Nat):=(true,[([],[]),([0],[0]),([1],[1]),([],[]),([3],[3]),([4,2],[4]),([],[]),([],[]),([7],[7]),([6,8,5],[6,8]),([2,5,9],[2,5,9]),([],[]),([11,10,9,0,1,2,3,4,5,6,7,8,9,10,11],[10,11])])
def impl_copyWorld.B1:List Nat:=[0,1,3,0,8,31,0,0,128,511,1023,0,4095]
theorem impl_copyWorld.tab1:rtab .any (opsOf Tryz.f69 1)=impl_copyWorld.T1:=by kernel_rfl
theorem impl_copyWorld.bits1:waitsOk impl_copyWorld.T1.2 impl_copyWorld.B1=true:=by kernel_rfl
theorem impl_copyWorld.calls(k:Nat)(aG:Option Addr)(aH:Nat)(ap:List (S94))(aI:Option Addr)(aJ:Nat)(ar:List (S67))(aT:Option Addr)(aK:Nat)(aa:List (S61))(aM:Option Addr)(aN:Nat)(ao:List (S64))(r1:List (S94))(r2:List (S67))(r3:List (S61))(r4:List (S64))(w:World)(bK:Kd.C k94 w aG ap.length ap)(bL:ap.length≤aH)(bM:Kd.C k67 w aI ar.length ar)(bN:ar.length≤aJ)(bO:Kd.C k61 w aT aa.length aa)(bP:aa.length≤aK)(bQ:Kd.C k64 w aM ao.length ao)(bR:ao.length≤aN)(h:impl_copyWorld.f k ap ar aa ao=some (r1,r2,r3,r4)):
 Calls Tryz.prog 69 #[.agg #[.slice aG ap.length aH,.slice aI ar.length aJ,.slice aT aa.length aK,.slice aM ao.length aN]] w fun e w'=>∃cz cA cB cC:Value,e= .returned (.agg #[cz,cA,cB,cC])∧Kd.S k94 94 w' w.heap.size (fun _=>True) cz r1∧Kd.S k67 67 w' w.heap.size (fun _=>True) cA r2∧Kd.S k61 61 w' w.heap.size (fun _=>True) cB r3∧Kd.R k64 64 w' w.heap.size (fun _=>True) cC r4∧Below w.heap.size w w':=by
 have e6:=Tryz.underlying35
 have e7:=Tryz.underlying61
 have cp:=zz bK
 have cq:=zz bL
 clear bK bL
 have cr:=zz bM
 have ct:=zz bN
 clear bM bN
 have cu:=zz bO
 have er:=zz bP
 clear bO bP
 have cv:=zz bQ
 have et:=zz bR
 clear bQ bR
 have HB:=yB w
 unfold impl_copyWorld.f at h
 have H:=h
 clear h
 replace H:=zf H
 obtain⟨au,cD,H⟩:=H
 try dsimp only at H
 have A2:=zz cD
 clear cD
 replace H:=zf H
 obtain⟨av,cE,H⟩:=H
 try dsimp only at H
 have A3:=zz cE
 clear cE
 obtain⟨be,a1⟩:∃y_:List (S64),y_=(([]:List (S64))):=⟨_,rfl⟩
 replace H:(if be.length+ao.length<4398046511104 then(impl_copyWorld.l0 k aa (aa.length:Int) 0 au av ([]:List (S61)) (be++ao)) else(none))=some (r1,r2,r3,r4):=by first|(rw[a1];with_reducible exact H)|(have aZ:=(Option.bind_some _ _).symm.trans H;rw[a1];with_reducible exact aZ)|(have aZ:=(Option.bind_some _ _).symm.trans H;with_reducible exact aZ)|with_reducible exact H|(rw[a1];exact H)|exact H
 have bS:=zz a1
 clear a1
 replace H:=yA H
 obtain⟨c4,H⟩:=H
 have cS:=zz c4
 clear c4
 obtain⟨aA,a2⟩:∃y_:List (S64),y_=(be++ao):=⟨_,rfl⟩
 replace H:(impl_copyWorld.l0 k aa (aa.length:Int) 0 au av ([]:List (S61)) aA)=some (r1,r2,r3,r4):=by first|(rw[a2];with_reducible exact H)|(have aZ:=(Option.bind_some _ _).symm.trans H;rw[a2];with_reducible exact aZ)|(have aZ:=(Option.bind_some _ _).symm.trans H;with_reducible exact aZ)|with_reducible exact H|(rw[a2];exact H)|exact H
 have cw:=zz a2
 clear a2
 have H':=zz H
 clear H
 go_enter Tryz.func69,Tryz.ntmps69
 try go_wp2_with(first|(refine zX 1 35 #[.slice aG ap.length aH,.slice aI ar.length aJ,.slice aT aa.length aK,.slice aM ao.length aN] ?_;intro aj hg w5 hbox hb;have ag:=zz (hbox);have eu:=zz ((zg:w.heap.size≤aj));have ev:=zz ((zg:w.heap.size≤aj));replace HB:=zz (zv zb hb);clear hb hbox hg)|(refine zX 2 35 #[.slice none 0 0,.slice none 0 0,.slice none 0 0,.slice none 0 0] ?_;intro ay hg w6 hbox hb;have ah:=zz (hbox);have ew:=zz ((zg:w.heap.size≤ay));have ey:=zz ((zg:w.heap.size≤ay));replace HB:=zz (zv zb hb);have ba:=zz (zH ag hg);have bb:=zz (zI ag hg);replace ag:=zz (zJ ag hb);clear hb hbox hg))
 replace ag:=zz (blk_drew ag.out)
 replace ah:=zz (blk_drew ah.out)
 replace HB:=zz (qJ HB.out)
 refine start_ (n:=13) (S:=fun w'=>w'.cell? ⟨aj,0,none⟩=some (.slice aG ap.length aH)∧w'.cell? ⟨aj,1,none⟩=some (.slice aI ar.length aJ)∧w'.cell? ⟨aj,2,none⟩=some (.slice aT aa.length aK)∧w'.cell? ⟨aj,3,none⟩=some (.slice aM ao.length aN)) (ds:=[]) (bp 0 13) zk rfl rfl (zy4 ag.out) (fun hHeld=>?_);refine with_tabW impl_copyWorld.tab1 impl_copyWorld.bits1 (fun HT_ HW_=>?_)
 generalize w6.drew=w7 at ag ah HB hHeld⊢
 refine zp 0 6 (bp 1 12) ?_
 refine zp 3 9 (bm 13 9) ?_
 refine zp 7 13 (bm 13 137) ?_
 refine zt 1 7 (bm 13 139) ?_
 refine zt 4 10 (bm 13 155) ?_
 refine zt 8 14 (bm 13 411) ?_
 refine join_ (σ:=Value×Value×Value×Value×Nat) 1 #[true,true,true,true,true,true,true,true,true,true,true,true,false] (fun s_=>[(8,s_.1),(11,s_.2.1),(12,s_.2.2.1),(15,s_.2.2.2.1),(3,.pointer (some ⟨s_.2.2.2.2,0,none⟩)),(16,.agg #[s_.1,s_.2.1,.slice none 0 0,s_.2.2.2.1])]) (fun s_ w'=>(w'.cell? ⟨aj,0,none⟩=some (.slice aG ap.length aH)∧w'.cell? ⟨aj,1,none⟩=some (.slice aI ar.length aJ)∧w'.cell? ⟨aj,2,none⟩=some (.slice aT aa.length aK)∧w'.cell? ⟨aj,3,none⟩=some (.slice aM ao.length aN))∧(Kd.S k94 94 w' w.heap.size (fun _=>True) s_.1 au)∧(Kd.S k67 67 w' w.heap.size (fun _=>True) s_.2.1 av)∧(Kd.R k64 64 w' w.heap.size (fun _=>True) s_.2.2.2.1 aA)∧(w'.heap[aj]?=some (.cells #[.slice aG ap.length aH,.slice aI ar.length aJ,.slice aT aa.length aK,.slice aM ao.length aN] 35 (0,0)))∧(w'.heap[ay]?=some (.cells #[.slice none 0 0,.slice none 0 0,.slice none 0 0,.slice none 0 0] 35 (0,0)))∧(w'.heap[s_.2.2.2.2]?=some (.cells #[.slice none 0 0,.slice none 0 0,.slice none 0 0,.slice none 0 0] 35 (0,0)))∧(w.heap.size≤s_.2.2.2.2)∧(w.heap.size≤s_.2.2.2.2)∧(aj≠s_.2.2.2.2)∧(s_.2.2.2.2≠aj)∧(ay≠s_.2.2.2.2)∧(s_.2.2.2.2≠ay)∧(Below w.heap.size w w')) ?_ ?_
 rotate_left
 ·intro bf
  refine E5.walk (F:=Cw w aj ay #[.slice aG ap.length aH,.slice aI ar.length aJ,.slice aT aa.length aK,.slice aM ao.length aN] au av be aA) HT_.out rfl rfl rfl rfl rfl rfl rfl ?q2 ?q5 ?q6 ?q9 ?ek ?em ?qe ⟨HB.out,ag.out,ah.out,nofun,nofun,(fun h=>nomatch h),nofun,nofun,nofun⟩
  case q2=>
   intro s W ok c F K hK
   refine E5.at_ 8 ?_
   refine zh Tryz.func110 #[.slice aG ap.length aH] ?_
   with_reducible refine(impl_copyStore.calls k _ _ ap au _ (Kd.qC cp.out F.hB) cq.out A2.out).mono ?_
   rintro e W' ⟨v,rfl,ho,hb⟩
   have F':=F.t2 ok c hb ho
   exact⟨_,rfl,E5.pk (hK v W' (zy4 F'.x1) F')⟩
  case q5=>
   intro s W ok c F K hK
   refine E5.at_ 11 ?_
   refine zh Tryz.func111 #[.slice aI ar.length aJ] ?_
   with_reducible refine(impl_copyProfiles.calls k _ _ ar av _ (Kd.qC cr.out F.hB) ct.out A3.out).mono ?_
   rintro e W' ⟨v,rfl,ho,hb⟩
   have F':=F.t5 ok c hb ho
   exact⟨_,rfl,E5.pk (hK v W' (zy4 F'.x1) F')⟩
  case q6=>
   intro s W ok c F K hK
   refine E5.at_ 12 ?_
   refine Kd.R_lit_step k64 _ 64 ?hg (N:=12) ?hd (xs:=([]:List (S64))) (inner:=[]) (ok:=fun _=>True) (okp:=fun _=>True) ?hr ?hp (fun _ hk=>hk) trivial (Below.refl _ _) (Nat.le_refl _) (by simp) ?_;(case hd=>rfl);(case hg=>rfl);(case hr=>first|(go_simp;done)|(go_simp;rfl));(case hp=>exact(Reps.none _ _))
   intro v W' ho hb _ _
   (first|rw[←bS.out] at ho|(simp only[Int.reduceToNat] at ho;rw[←bS.out] at ho))
   have F':=F.t6 hb ho
   exact E5.pn 12 (hK v W' (zy4 F'.x1) F')
  case q9=>
   intro s W ok c9 c6 F K hK
   obtain⟨b2,b5,b6,b9,b10,b11,v2,v5,v6,v9,v10,gb⟩:=s
   dsimp only at*
   subst c6
   refine E5.at_ 15 ?_
   refine Kd.R_append_rows_step k64 (w0:=w) w.heap.size (by rfl) (.tmp 12) (.tmp 14) 33 64 (.agg #[(.string ⟨#[]⟩),(.string ⟨#[]⟩)]) 32 rfl Tryz.underlying33 info64 rfl (by decide) (by omega) v6 be ao _ _ _ (fun _=>True) (fun _=>False) rfl rfl ?aO ?aR (fun _ _ h=>h) (fun _ h=>h.elim) ?aF ?aB ?aS ?aL ?_
   (case aR=>exact Kd.qC cv.out F.hB)
   (case aB=>exact F.hB)
   (case aF=>exact(fun _ _=>trivial))
   (case aO=>exact F.h6 rfl c9)
   (case aS=>exact qE F.hB)
   (case aL=>have:=cS.out;omega)
   intro v W' ho hb hg hat
   rw[←cw.out] at ho
   have F':=F.t9 ok c9 rfl ho hb hg
   exact E5.pn 15 (hK v W' (zy4 F'.x1) F')
  case ek=>
   intro s W ok cd c2 c5 c9 F K hK
   obtain⟨b2,b5,b6,b9,b10,b11,v2,v5,v6,v9,v10,gb⟩:=s
   dsimp only at*
   subst c2 c5 c9 cd
   obtain⟨P2,p2,e2⟩:=Kd.S_slice (F.h2 rfl)
   obtain⟨P5,p5,e5⟩:=Kd.S_slice (F.h5 rfl)
   obtain⟨P9,p9,e9⟩:=Kd.qV (F.h9 rfl)
   dsimp only at e2 e5 e9
   subst e2 e5 e9
   refine E5.at_ 16 ?_
   refine value_ (v:= .agg #[.slice P2 au.length p2,.slice P5 av.length p5,.slice none 0 0,.slice P9 aA.length p9]) (w1:=W) rfl rfl (by first|(go_simp;done)|(go_simp;rfl)) ?_
   have F':=F.t10
   exact E5.pk (hK _ _ (zy4 F'.x1) F')
  case em=>
   intro s W ok c F K hK
   refine E5.at_ 3 ?_
   refine box_step ?hg (N:=3) ?hd (cs:= #[.slice none 0 0,.slice none 0 0,.slice none 0 0,.slice none 0 0]) (t:=35) ?hr ?_;(case hd=>rfl);(case hg=>rfl);(case hr=>first|(go_simp;done)|(go_simp;rfl))
   intro g hg W' hbox hb
   have F':=F.t11 hg hb hbox
   exact E5.pn 3 (hK g W' (zy4 F'.x1) F')
  case qe=>
   intro s W ok c2 c5 c6 c9 cd cF F
   obtain⟨b2,b5,b6,b9,b10,b11,v2,v5,v6,v9,v10,gb⟩:=s
   dsimp only at*
   subst c2 c5 c6 c9 cd cF
   obtain rfl:v10= .agg #[v2,v5,.slice none 0 0,v9]:=F.h10 rfl
   obtain⟨x3,g3,n1,n2⟩:=F.h11 rfl
   exact norm_ (by simp only[E5.act,putAll,Act.put,List.setIfInBounds_toArray,List.set_cons_zero,List.set_cons_succ,cond_true]) (bf (v2,v5,v6,v9,gb) W ⟨zy4 F.x1,F.h2 rfl,F.h5 rfl,F.h9 rfl,F.x1,F.x2,x3,g3,g3,n1,n1.symm,n2,n2.symm,F.hB⟩)
 rintro⟨cT,cU,e8,cV,af⟩ aQ ⟨hS_,cG,cH,cI,cJ,cK,cL,cM,cN,cO,cP,ce,cf,cg⟩
 have bl:qA (Kd.S k94 94 aQ w.heap.size (fun _=>True) cT au):=⟨cG⟩
 have bn:qA (Kd.S k67 67 aQ w.heap.size (fun _=>True) cU av):=⟨cH⟩
 have bo:qA (Kd.R k64 64 aQ w.heap.size (fun _=>True) cV aA):=⟨cI⟩
 have bq:qA (aQ.heap[aj]?=some (.cells #[.slice aG ap.length aH,.slice aI ar.length aJ,.slice aT aa.length aK,.slice aM ao.length aN] 35 (0,0))):=⟨cJ⟩
 have br:qA (aQ.heap[ay]?=some (.cells #[.slice none 0 0,.slice none 0 0,.slice none 0 0,.slice none 0 0] 35 (0,0))):=⟨cK⟩
 have bs:qA (aQ.heap[af]?=some (.cells #[.slice none 0 0,.slice none 0 0,.slice none 0 0,.slice none 0 0] 35 (0,0))):=⟨cL⟩
 have bu:qA (w.heap.size≤af):=⟨cM⟩
 have bv:qA (w.heap.size≤af):=⟨cN⟩
 have bw:qA (aj≠af):=⟨cO⟩
 have bz:qA (af≠aj):=⟨cP⟩
 have ch:qA (ay≠af):=⟨ce⟩
 have ci:qA (af≠ay):=⟨cf⟩
 have cj:qA (Below w.heap.size w aQ):=⟨cg⟩
 clear ag
 clear ah
 clear HB
 clear cG cH cI cJ cK cL cM cN cO cP ce cf cg
 have bT:=bl
 have bU:=bn
 have bV:=bo
 have ag:=bq
 have ah:=br
 have ae:=bs
 have ez:=bu
 have eA:=bv
 have ab:=bw
 have aw:=bz
 have aD:=ch
 have aE:=ci
 have HB:=cj
 clear bl bn bo bq br bs bu bv bw bz ch ci cj
 have hHeld:aQ.cell? ⟨aj,0,none⟩=some (.slice aG ap.length aH)∧aQ.cell? ⟨aj,1,none⟩=some (.slice aI ar.length aJ)∧aQ.cell? ⟨aj,2,none⟩=some (.slice aT aa.length aK)∧aQ.cell? ⟨aj,3,none⟩=some (.slice aM ao.length aN):=hS_
 obtain⟨a4,a5,ck⟩:=Kd.qV bV.out
 (first|subst ck|(injection ck with bc bA bd;have bB:=bc.symm;have bC:=bd.symm;clear bc bA bd;subst bB;subst bC))
 obtain⟨a6,a7,cm⟩:=Kd.S_slice bU.out
 (first|subst cm|(injection cm with bc bA bd;have bB:=bc.symm;have bC:=bd.symm;clear bc bA bd;subst bB;subst bC))
 obtain⟨a8,a9,cn⟩:=Kd.S_slice bT.out
 (first|subst cn|(injection cn with bc bA bd;have bB:=bc.symm;have bC:=bd.symm;clear bc bA bd;subst bB;subst bC))
 refine norm_ (a':=?_) ?_ ?_
 rotate_left
 ·simp only[putAll,Act.put,List.setIfInBounds_toArray,List.set_cons_zero,List.set_cons_succ]
  rfl
 refine one_ (i:=12) (N:=none) #[true,true,true,true,true,true,true,true,true,true,true,true,true] rfl rfl (one_of HT_.out zk) (by decide) (fun K hK=>?_)
 have fa:aQ.cell? ⟨af,0,none⟩=some (.slice none 0 0):=(vG ae.out 0).trans rfl
 have eB:=vQ ae.out 0
 have dc:=ab.out
 have de:=aD.out
 have df:=aw.out
 have dh:=aE.out
 have fb:aQ.cell? ⟨af,1,none⟩=some (.slice none 0 0):=(vG ae.out 1).trans rfl
 have eC:=vQ ae.out 1
 have di:=ab.out
 have dj:=aD.out
 have dk:=aw.out
 have dl:=aE.out
 have fc:aQ.cell? ⟨af,2,none⟩=some (.slice none 0 0):=(vG ae.out 2).trans rfl
 have eD:=vQ ae.out 2
 have dm:=ab.out
 have dn:=aD.out
 have dp:=aw.out
 have dq:=aE.out
 have fe:aQ.cell? ⟨af,3,none⟩=some (.slice none 0 0):=(vG ae.out 3).trans rfl
 have eE:=vQ ae.out 3
 have dr:=ab.out
 have dt:=aD.out
 have du:=aw.out
 have dv:=aE.out
 refine skip_ (w1:=?_) (by rfl) rfl ?_ ?_
 rotate_left
 ·go_simp
  rfl
 refine hK.out _ _ ⟨((cell_far (p:=⟨af,_,none⟩) ab.out _).trans (((cell_far (p:=⟨af,_,none⟩) ab.out _).trans (((cell_far (p:=⟨af,_,none⟩) ab.out _).trans (((cell_far (p:=⟨af,_,none⟩) ab.out _).trans (hHeld.1)))))))),((cell_far (p:=⟨af,_,none⟩) ab.out _).trans (((cell_far (p:=⟨af,_,none⟩) ab.out _).trans (((cell_far (p:=⟨af,_,none⟩) ab.out _).trans (((cell_far (p:=⟨af,_,none⟩) ab.out _).trans (hHeld.2.1)))))))),((cell_far (p:=⟨af,_,none⟩) ab.out _).trans (((cell_far (p:=⟨af,_,none⟩) ab.out _).trans (((cell_far (p:=⟨af,_,none⟩) ab.out _).trans (((cell_far (p:=⟨af,_,none⟩) ab.out _).trans (hHeld.2.2.1)))))))),((cell_far (p:=⟨af,_,none⟩) ab.out _).trans (((cell_far (p:=⟨af,_,none⟩) ab.out _).trans (((cell_far (p:=⟨af,_,none⟩) ab.out _).trans (((cell_far (p:=⟨af,_,none⟩) ab.out _).trans (hHeld.2.2.2))))))))⟩ (fun hHeld=>?_)
 clear hK K
 refine done_ (done_of HT_.out zk) ?_
 have eF:=ba.out
 have eG:=bb.out
 have eH:=ab.out
 have eI:=aw.out
 obtain⟨bZ,b0,b1,b3,b4,b7,b8,ca⟩:=zc4 ag.out
 try go_wp2
 go_loopg[20] k (fun kq en w'=>∃(ac:Int) (ax:List (S61)) (az:Value),en= .int .i64 ac∧qA (impl_copyWorld.l0 kq aa (aa.length:Int) ac au av ax aA=some (r1,r2,r3,r4))∧qA (kq≤k)∧qA (Kd.S k94 94 w' w.heap.size (fun _=>True) (.slice a8 au.length a9) au)∧qA (Kd.S k67 67 w' w.heap.size (fun _=>True) (.slice a6 av.length a7) av)∧qA (Kd.S k61 61 w' w.heap.size (fun _=>True) az ax)∧qA (Kd.R k64 64 w' w.heap.size (fun _=>True) (.slice a4 aA.length a5) aA)∧qA (w'.heap[aj]?=some (.cells #[(.slice aG ap.length aH),(.slice aI ar.length aJ),(.slice aT aa.length aK),(.slice aM ao.length aN)] 35 (0,0)))∧qA (w'.heap[ay]?=some (.cells #[(.slice none 0 0),(.slice none 0 0),(.slice none 0 0),(.slice none 0 0)] 35 (0,0)))∧qA (w'.heap[af]?=some (.cells #[(.slice a8 au.length a9),(.slice a6 av.length a7),az,(.slice a4 aA.length a5)] 35 (0,0)))∧qA (Below w.heap.size w w'))
 case atStart=>exact⟨(0),(([]:List (S61))),(.slice none 0 0),zr,H',⟨Nat.le_refl _⟩,⟨yS (Kd.vB bT.out ae.out (by decide))⟩,⟨yS (Kd.vB bU.out ae.out (by decide))⟩,⟨by first|exact Kd.S_nil _ _ _ _ _|exact Kd.N_nil _ _ _ _ _|exact Kd.V_nil _ _ _ _ _|exact Kd.Q_nil _ _ _ _ _|exact Kd.R_nil _ _ _ _ _⟩,⟨yV (Kd.qY bV.out ae.out (by decide))⟩,⟨yP ag.out⟩,⟨yP ah.out⟩,⟨yP ae.out⟩,⟨zb⟩⟩
 case round=>
  clear H'
  try clear c1
  try clear c2
  try clear p2
  try clear c4
  try clear cF
  try clear fj
  try clear fk
  try clear bZ
  try clear b0
  try clear b1
  try clear b3
  try clear b4
  try clear b7
  try clear b8
  try clear ca
  obtain⟨ac,ax,az,rfl,HA,cQ,ak,al,ad,am,ag,ah,ae,HB⟩:=hrel
  cases gk with
  |zero=>exact absurd HA.out (by simp[impl_copyWorld.l0])
  |succ k1=>
   have H:=HA.out
   clear HA
   simp only[impl_copyWorld.l0] at H
   refine yDn H ?_ ?_<;>clear H<;>intro eJ H
   ·simp only[Option.some.injEq,Prod.mk.injEq] at H
    obtain⟨rfl,rfl,rfl,rfl⟩:=H
    have eK:=aw.out
    have eL:=ab.out
    have eM:=aE.out
    have eN:=aD.out
    obtain⟨dw,dx,dy,dz,dA,dB,dC,dD⟩:=zc4 ae.out
    have eO:=bb.out
    have eP:=ba.out
    obtain⟨dE,dF,dG,dH,dI,dJ,dK,dL⟩:=zc4 ah.out
    obtain⟨cW,cX,cY⟩:=Kd.S_slice ad.out
    subst cY
    go_wp2
    refine bodyPost_ret (results_cell_row rfl _ _ ay 35 #[.slice a8 au.length a9,.slice a6 av.length a7,.slice cW ax.length cX,.slice a4 aA.length a5] (0,0) _ rfl (yP ah.out) Tryz.underlying35 rfl zk) rfl ?_
    exact⟨_,_,_,_,ze,yS (Kd.vB ak.out ah.out (by decide)),yS (Kd.vB al.out ah.out (by decide)),yS (Kd.vB ad.out ah.out (by decide)),yV (Kd.qY am.out ah.out (by decide)),zb⟩
   replace H:=yAD H
   obtain⟨eQ,H⟩:=H
   replace H:=yAD H
   obtain⟨eR,H⟩:=H
   replace H:=zf H
   obtain⟨aC,co,H⟩:=H
   try dsimp only at H
   have eo:=zz co
   clear co
   replace H:=yA H
   obtain⟨cR,H⟩:=H
   have cx:=zz cR
   clear cR
   obtain⟨bJ,a3⟩:∃y_:List (S61),y_=(ax++[(⟨(qR aa ac).f0,aC,(qR aa ac).f2⟩:S61)]):=⟨_,rfl⟩
   replace H:(impl_copyWorld.l0 k1 aa (aa.length:Int) (wrap64 (ac+1)) au av bJ aA)=some (r1,r2,r3,r4):=by first|(rw[a3];with_reducible exact H)|(have aZ:=(Option.bind_some _ _).symm.trans H;rw[a3];with_reducible exact aZ)|(have aZ:=(Option.bind_some _ _).symm.trans H;with_reducible exact aZ)|with_reducible exact H|(rw[a3];exact H)|exact H
   have cy:=zz a3
   clear a3
   have H':=zz H
   clear H
   have ff:=yt (0≤(ac:Int))
   have fg:=yt (ac<(aa.length:Int))
   obtain⟨bW,aW,aX,cZ,bg,bh,bi,bj,bk⟩:=at_T61 cu.out ac z2 z2
   cases cZ
   replace bg:=z3 HB.out bg
   replace bh:=z3 HB.out bh
   replace bi:=z3 HB.out bi
   have cb:=zz bk
   have cc:=zz bj
   clear bk bj
   go_wp2_with(first|(refine zX 5 61 #[.string (⟨#[]⟩:ByteArray),.slice none 0 0,.string (⟨#[]⟩:ByteArray)] ?_;intro ai hg fl hbox hb;replace ak:=zz (Kd.vE (zS ak.out) hb);replace al:=zz (Kd.vE (zS al.out) hb);replace ad:=zz (Kd.vE (Kd.S_elderB (zS ad.out) ai (Nat.le_of_eq hg.symm)) hb);replace am:=zz (Kd.R_below (zR am.out) hb);have an:=zz (hbox);have eS:=zz ((zg:w.heap.size≤ai));have eT:=zz ((zg:w.heap.size≤ai));replace HB:=zz (zv zb hb);have bD:=zz (zH ag hg);have bE:=zz (zI ag hg);replace ag:=zz (zJ ag hb);have bF:=zz (zH ah hg);have bG:=zz (zI ah hg);replace ah:=zz (zJ ah hb);have bH:=zz (zH ae hg);have bI:=zz (zI ae hg);replace ae:=zz (zJ ae hb);clear hb hbox hg;have eU:=bE.out;have eV:=bD.out;have eW:=bG.out;have eX:=bF.out;have eY:=bI.out;have eZ:=bH.out;obtain⟨dM,dN,dO,dP,dQ,dR⟩:=zc3 an.out)|(refine zL 112 26 Tryz.func112 #[.slice aW ((qR aa ac).f1).length aX] ?_;(with_reducible refine(impl_copyTree.calls _ _ ((qR aa ac).f1) aC _ ?s1 ?s2 eo.out).mono ?_);(case s1=>exact Kd.qC cb.out zb);(case s2=>exact cc.out);rintro e ep ⟨fh,rfl,bX,hb⟩;refine⟨_,rfl,?_⟩;replace ak:=zz (Kd.S_elder' (by(with_reducible repeat(first|apply Kd.vM|apply Kd.vN|apply Kd.S_drew));exact(Kd.qZ (Kd.vK (p:=⟨ai,2,none⟩) (Kd.vK (p:=⟨ai,1,none⟩) (Kd.vK (p:=⟨ai,0,none⟩) (Kd.vB ak.out an.out (by decide)) (fun _ hk=>hk.2) (.string ((qR aa ac).f0))) (fun _ hk=>hk.2) (.slice aW ((qR aa ac).f1).length aX)) (fun _ hk=>hk.2) (.string ((qR aa ac).f2))) (fun _ h_=>h_.1))) (Kd.R_base bX) hb);replace al:=zz (Kd.vE (by(with_reducible repeat(first|apply Kd.vM|apply Kd.vN|apply Kd.S_drew));exact(Kd.qZ (Kd.vK (p:=⟨ai,2,none⟩) (Kd.vK (p:=⟨ai,1,none⟩) (Kd.vK (p:=⟨ai,0,none⟩) (Kd.vB al.out an.out (by decide)) (fun _ hk=>hk.2) (.string ((qR aa ac).f0))) (fun _ hk=>hk.2) (.slice aW ((qR aa ac).f1).length aX)) (fun _ hk=>hk.2) (.string ((qR aa ac).f2))) (fun _ h_=>h_.1))) hb);replace ad:=zz (Kd.S_elder' (by(with_reducible repeat(first|apply Kd.vM|apply Kd.vN|apply Kd.S_drew));exact(Kd.qZ (Kd.vK (p:=⟨ai,2,none⟩) (Kd.vK (p:=⟨ai,1,none⟩) (Kd.vK (p:=⟨ai,0,none⟩) (Kd.qZ ad.out (fun k_ hk=>(⟨hk,hk.2⟩:_∧k_≠ai))) (fun _ hk=>hk.2) (.string ((qR aa ac).f0))) (fun _ hk=>hk.2) (.slice aW ((qR aa ac).f1).length aX)) (fun _ hk=>hk.2) (.string ((qR aa ac).f2))) (fun _ h_=>h_.1))) (Kd.R_base bX) hb);replace am:=zz (Kd.R_below (by(with_reducible repeat(first|apply Kd.R_alloc|apply Kd.R_drewN|apply Kd.R_drew));exact(Kd.qT (Kd.R_far (p:=⟨ai,2,none⟩) (Kd.R_far (p:=⟨ai,1,none⟩) (Kd.R_far (p:=⟨ai,0,none⟩) (Kd.qY am.out an.out (by decide)) (fun _ hk=>hk.2) (.string ((qR aa ac).f0))) (fun _ hk=>hk.2) (.slice aW ((qR aa ac).f1).length aX)) (fun _ hk=>hk.2) (.string ((qR aa ac).f2))) (fun _ h_=>h_.1))) hb);have aY:=zz (Kd.vC bX (qE zb));replace ag:=zz (qM (g:=aj) (o:= .cells #[.slice aG ap.length aH,.slice aI ar.length aJ,.slice (some bW) aa.length aK,.slice aM ao.length aN] 35 (0,0)) (yP ag.out) hb);replace ah:=zz (qM (g:=ay) (o:= .cells #[.slice none 0 0,.slice none 0 0,.slice none 0 0,.slice none 0 0] 35 (0,0)) (yP ah.out) hb);replace ae:=zz (qM (g:=af) (o:= .cells #[.slice a8 au.length a9,.slice a6 av.length a7,az,.slice a4 aA.length a5] 35 (0,0)) (yP ae.out) hb);replace an:=zz (qM (g:=ai) (o:= .cells #[.string ((qR aa ac).f0),.slice aW ((qR aa ac).f1).length aX,.string ((qR aa ac).f2)] 61 (0,0)) (yP an.out) hb);replace HB:=zz (zv zb hb);(try clear hb);(try clear fm);(try clear hk);(try clear hi);(try clear bX);obtain⟨aU,aV,c7⟩:=Kd.qV aY.out;subst c7;obtain⟨dS,dT,dU,dV,dW,dX⟩:=zc3 an.out)|((with_reducible refine qP (t:=45) (p:=27) rfl ?_);refine qL (t:=45) (p:=27) (v:=?eq) (w1:=(ep.setCell ⟨ai,1,none⟩ (.slice aU aC.length aV))) ?hg ?ho ?hn ?hr ?_;(case ho=>rfl);(case hg=>rfl);(case hn=>rfl);(case hr=>first|(go_simp;done)|(go_simp;rfl));intro a0 hw;have bl:qA (Kd.S k94 94 a0 w.heap.size (fun k_=>some k_≠(.slice aU aC.length aV:Value).ownBlock) (.slice a8 au.length a9) au):=⟨(by rw[hw];exact(by(with_reducible repeat(first|apply Kd.vM|apply Kd.vN|apply Kd.S_drew));exact Kd.qZ (Kd.vK (p:=⟨ai,1,none⟩) (Kd.vB ak.out an.out (by decide)) (fun _ hk=>hk.2) (.slice aU aC.length aV)) (fun _ hk=>hk.1.2)))⟩;have bn:qA (Kd.S k67 67 a0 w.heap.size (fun _=>True) (.slice a6 av.length a7) av):=⟨(by rw[hw];exact(yS (Kd.vB al.out an.out (by decide))))⟩;have bo:qA (Kd.S k61 61 a0 w.heap.size (fun k_=>some k_≠(.slice aU aC.length aV:Value).ownBlock∧k_≠ai) az ax):=⟨(by rw[hw];exact(by(with_reducible repeat(first|apply Kd.vM|apply Kd.vN|apply Kd.S_drew));exact Kd.qZ (Kd.vK (p:=⟨ai,1,none⟩) (Kd.qZ ad.out (fun k_ hk=>(⟨hk,hk.1.2⟩:_∧k_≠ai))) (fun _ hk=>hk.2) (.slice aU aC.length aV)) (fun _ hk=>⟨hk.1.2,hk.1.1.2⟩)))⟩;have bq:qA (Kd.R k64 64 a0 w.heap.size (fun _=>True) (.slice a4 aA.length a5) aA):=⟨(by rw[hw];exact(yV (Kd.qY am.out an.out (by decide))))⟩;have br:qA (Kd.R k96 96 a0 w.heap.size (fun _=>True) (.slice aU aC.length aV) aC):=⟨(by rw[hw];exact(yV (Kd.qY aY.out an.out (by decide))))⟩;have bs:qA (a0.heap[aj]?=some (.cells #[.slice aG ap.length aH,.slice aI ar.length aJ,.slice (some bW) aa.length aK,.slice aM ao.length aN] 35 (0,0))):=⟨(by rw[hw];exact(yP ag.out))⟩;have bu:qA (a0.heap[ay]?=some (.cells #[.slice none 0 0,.slice none 0 0,.slice none 0 0,.slice none 0 0] 35 (0,0))):=⟨(by rw[hw];exact(yP ah.out))⟩;have bv:qA (a0.heap[af]?=some (.cells #[.slice a8 au.length a9,.slice a6 av.length a7,az,.slice a4 aA.length a5] 35 (0,0))):=⟨(by rw[hw];exact(yP ae.out))⟩;have bw:qA (a0.heap[ai]?=some (.cells #[.string ((qR aa ac).f0),.slice aU aC.length aV,.string ((qR aa ac).f2)] 61 (0,0))):=⟨(by rw[hw];exact(yP an.out))⟩;have bz:qA (Below w.heap.size w a0):=⟨(by rw[hw];exact zb)⟩;clear hw;clear ak;clear al;clear ad;clear am;clear aY;clear ag;clear ah;clear ae;clear an;clear HB;have ak:=bl;have al:=bn;have ad:=bo;have am:=bq;have aY:=br;have ag:=bs;have ah:=bu;have ae:=bv;have an:=bw;have HB:=bz;clear bl bn bo bq br bs bu bv bw bz;have e0:=aw.out;have e1:=ab.out;have e3:=aE.out;have e4:=aD.out;obtain⟨dY,dZ,d0,d1,d2,d3,d4,d5⟩:=zc4 ae.out;obtain⟨d6,d7,d8,d9,ea,eb⟩:=zc3 an.out)|((with_reducible refine qW (b:= .append) (xs:= #[.tmp 29,.tmp 31]) rfl ?_);at_builtin;refine Kd.S_append k61 (w0:=w) w.heap.size rfl (.tmp 29) (.tmp 31) 32 61 (.agg #[(.string ⟨#[]⟩),(.slice none 0 0),(.string ⟨#[]⟩)]) 56 rfl Tryz.underlying32 info61 rfl (by decide) (by omega) az ax (⟨(qR aa ac).f0,aC,(qR aa ac).f2⟩:S61) [.string ((qR aa ac).f0),.slice aU aC.length aV,.string ((qR aa ac).f2)] (fun k_=>k_≠ai) (fun k_=>some k_=(.slice aU aC.length aV:Value).ownBlock) rfl rfl ?aP (fun k_ hk_=>((Kd.qT (ok':=fun k_=>((fun k_=>k_≠ai)) k_∧some k_≠(az:Value).ownBlock) (Kd.qY (Kd.R_apart' (aY.out) (Kd.S_typed ad.out) (by decide)) an.out (by decide)) (fun k_ hk=>⟨hk.2,hk.1.2⟩))).1 k_ hk_.symm) ?aF ?aO ?aB ?aS ?aL ?_;(case aP=>exact k61_mkM _ _ _ (⟨(qR aa ac).f0,aC,(qR aa ac).f2⟩:S61) (Kd.qT (Kd.R_tight rfl (Kd.qT (ok':=fun k_=>((fun k_=>k_≠ai)) k_∧some k_≠(az:Value).ownBlock) (Kd.qY (Kd.R_apart' (aY.out) (Kd.S_typed ad.out) (by decide)) an.out (by decide)) (fun k_ hk=>⟨hk.2,hk.1.2⟩))) (fun _ h_=>h_)));(case aB=>exact zb);(case aF=>exact(fun k_ hk=>Kd.freshB (g:=ai) (o:= .cells #[.string ((qR aa ac).f0),.slice aU aC.length aV,.string ((qR aa ac).f2)] 61 (0,0)) (zB an.out) k_ hk));(case aO=>exact(by(with_reducible repeat(first|apply Kd.vM|apply Kd.vN|apply Kd.S_drew));exact Kd.qZ ad.out (fun k_ hk=>⟨hk.2,fun e_=>hk.1 e_⟩)));(case aS=>exact(qE zb));(case aL=>have:=cx.out;omega);intro fi fo ho hb hg hat;rw[←cy.out] at ho;replace ak:=zz (Kd.S_over' (zS ak.out) (Kd.S_typed (zS ad.out)) (by decide) hg);replace al:=zz (Kd.S_over' (zS al.out) (Kd.S_typed (zS ad.out)) (by decide) hg);replace am:=zz (Kd.R_over' (zR am.out) (Kd.S_typed (zS ad.out)) (by decide) hg);replace ag:=zz (zK ag hg (Kd.S_ne ad.out ag.out (by decide)));replace ah:=zz (zK ah hg (Kd.S_ne ad.out ah.out (by decide)));replace ae:=zz (zK ae hg (Kd.S_ne ad.out ae.out (by decide)));replace an:=zz (zK an hg (Kd.S_away ad.out (fun _ hk=>hk.2)));replace HB:=zz (hb);have bY:=zz (ho);clear ad aY;clear ho hb hg hat;obtain⟨c8,da,db⟩:=Kd.S_slice bY.out;subst db;obtain⟨ec,ed,ee,ef,eg,eh,ei,ej⟩:=zc4 ae.out))
   go_roundg k1
   case measure=>have:=cQ.out;omega
   case rel=>exact⟨(wrap64 (ac+1)),(bJ),(.slice c8 bJ.length da),zr,H',⟨by have:=cQ.out;omega⟩,⟨yS (Kd.vB ak.out ae.out (by decide))⟩,⟨yS (Kd.vB al.out ae.out (by decide))⟩,⟨yS (Kd.vB bY.out ae.out (by decide))⟩,⟨yV (Kd.qY am.out ae.out (by decide))⟩,⟨yP ag.out⟩,⟨yP ah.out⟩,⟨yP ae.out⟩,⟨zb⟩⟩
def impl_Recover.f(k:Nat)(ab:List (S94))(ac:List (S67))(ad:List (S61))(ae:List (S64)):Option ((List (S94))×(List (S67))×(List (S61))×(List (S64))):=(impl_WorldOk.f k ab ac ad ae).bind fun af=>(if af=true then((impl_copyWorld.f k ab ac ad ae).bind fun aa=>(some (aa.1,aa.2.1,([]:List (S61)),([]:List (S64))))) else(some (([]:List (S94)),([]:List (S67)),([]:List (S61)),([]:List (S64)))))
theorem zRun_{P:Program}{ops:Array Oper}{Q:Exit→Act→World→Prop}{o:Oper}{rest:List Oper}{a:Act}{W:World}(v:Value)(h:wpList P ops Q rest (a.put o.dst v) W)(hg:o.guard=none:=by rfl)(hr:(execOp a.eval o).run P W= .ok (.value v) W:=by first|(go_simp;done)|(go_simp;rfl)):wpList P ops Q (o::rest) a W:=Kd.event_run hg hr h
theorem impl_Recover.calls(k:Nat)(ar:Option Addr)(au:Nat)(ah:List (S94))(av:Option Addr)(aw:Nat)(ai:List (S67))(ax:Option Addr)(ay:Nat)(aj:List (S61))(az:Option Addr)(aA:Nat)(ak:List (S64))(r1:List (S94))(r2:List (S67))(r3:List (S61))(r4:List (S64))(w:World)(aZ:Kd.C k94 w ar ah.length ah)(a0:ah.length≤au)(a1:Kd.C k67 w av ai.length ai)(a2:ai.length≤aw)(a3:Kd.C k61 w ax aj.length aj)(a4:aj.length≤ay)(a5:Kd.C k64 w az ak.length ak)(a6:ak.length≤aA)(hG_:GOK w)(h:impl_Recover.f k ah ai aj ak=some (r1,r2,r3,r4)):
 Calls Tryz.prog 26 #[.agg #[.slice ar ah.length au,.slice av ai.length aw,.slice ax aj.length ay,.slice az ak.length aA]] w fun e w'=>∃bb bc bd be:Value,e= .returned (.agg #[bb,bc,bd,be])∧Kd.S k94 94 w' w.heap.size (fun _=>True) bb r1∧Kd.S k67 67 w' w.heap.size (fun _=>True) bc r2∧Kd.S k61 61 w' w.heap.size (fun _=>True) bd r3∧Kd.R k64 64 w' w.heap.size (fun _=>True) be r4∧Below w.heap.size w w':=by
 have cw:=Tryz.underlying35
 have HG:=zz hG_
 clear hG_
 have aL:=zz aZ
 have aM:=zz a0
 clear aZ a0
 have aN:=zz a1
 have aO:=zz a2
 clear a1 a2
 have aP:=zz a3
 have aQ:=zz a4
 clear a3 a4
 have aR:=zz a5
 have aS:=zz a6
 clear a5 a6
 have HB:=yB w
 unfold impl_Recover.f at h
 have H:=h
 clear h
 replace H:=zf H
 obtain⟨bn,bf,H⟩:=H
 try dsimp only at H
 have A2:=zz bf
 clear bf
 by_cases c3:bn=true
 case neg=>
  replace c3:=Bool.eq_false_iff.mpr c3
  subst c3
  rw[if_neg (show¬(false=true) by decide)] at H
  simp only[Option.some.injEq,Prod.mk.injEq] at H
  obtain⟨rfl,rfl,rfl,rfl⟩:=H
  go_enter Tryz.func26,Tryz.ntmps26
  go_wp2_with(first|(refine zX 1 35 #[.slice ar ah.length au,.slice av ai.length aw,.slice ax aj.length ay,.slice az ak.length aA] ?_;intro aD hg cD hbox hb;have aa:=zz (hbox);have a7:=zz ((zg:w.heap.size≤aD));have a8:=zz ((zg:w.heap.size≤aD));replace HB:=zz (zv zb hb);clear hb hbox hg)|(refine zX 2 35 #[.slice none 0 0,.slice none 0 0,.slice none 0 0,.slice none 0 0] ?_;intro an hg cE hbox hb;have ab:=zz (hbox);have a9:=zz ((zg:w.heap.size≤an));have ba:=zz ((zg:w.heap.size≤an));replace HB:=zz (zv zb hb);have ao:=zz (zH aa hg);have ap:=zz (zI aa hg);replace aa:=zz (zJ aa hb);clear hb hbox hg;have cn:=ao.out;have co:=ap.out;obtain⟨bu,bv,bw,bz,bA,bB,bC,bD⟩:=zc4 aa.out)|(refine zL 10 5 Tryz.func10 #[.agg #[.slice ar ah.length au,.slice av ai.length aw,.slice ax aj.length ay,.slice az ak.length aA]] ?_;(with_reducible refine(impl_WorldOk.calls k _ _ ah _ _ ai _ _ aj _ _ ak false _ ?s1 ?s2 ?s3 ?s4 ?s5 ?s6 ?s7 ?s8 ?s9 A2.out).mono ?_);(case s1=>exact zc aL.out);(case s2=>exact aM.out);(case s3=>exact zc aN.out);(case s4=>exact aO.out);(case s5=>exact zc aP.out);(case s6=>exact aQ.out);(case s7=>exact zc aR.out);(case s8=>exact aS.out);(case s9=>exact zG);rintro e cF ⟨rfl,hb⟩;refine⟨_,rfl,?_⟩;replace aa:=zz (zJ aa hb);replace ab:=zz (zJ ab hb);replace HB:=zz (zv zb hb);(try clear hb);(try clear bg);(try clear hk);(try clear hi);obtain⟨bE,bF,bG,bH,bI,bJ,bK,bL⟩:=zc4 ab.out))
  refine bodyPost_ret (results_cell_row rfl _ _ an 35 #[.slice none 0 0,.slice none 0 0,.slice none 0 0,.slice none 0 0] (0,0) _ rfl (yP ab.out) Tryz.underlying35 rfl zk) rfl ?_
  exact⟨_,_,_,_,ze,by first|exact Kd.S_nil _ _ _ _ _|exact Kd.N_nil _ _ _ _ _|exact Kd.V_nil _ _ _ _ _|exact Kd.Q_nil _ _ _ _ _|exact Kd.R_nil _ _ _ _ _,by first|exact Kd.S_nil _ _ _ _ _|exact Kd.N_nil _ _ _ _ _|exact Kd.V_nil _ _ _ _ _|exact Kd.Q_nil _ _ _ _ _|exact Kd.R_nil _ _ _ _ _,by first|exact Kd.S_nil _ _ _ _ _|exact Kd.N_nil _ _ _ _ _|exact Kd.V_nil _ _ _ _ _|exact Kd.Q_nil _ _ _ _ _|exact Kd.R_nil _ _ _ _ _,by first|exact Kd.R_nil _ _ _ _ _|exact Kd.N_nil _ _ _ _ _|exact Kd.V_nil _ _ _ _ _|exact Kd.Q_nil _ _ _ _ _|exact Kd.S_nil _ _ _ _ _,zb⟩
 subst c3
 rw[if_pos rfl] at H
 replace H:=zf H
 obtain⟨⟨ad,ag,aB,aC⟩,bh,H⟩:=H
 try dsimp only at H
 have A4:=zz bh
 clear bh
 simp only[Option.some.injEq,Prod.mk.injEq] at H
 obtain⟨rfl,rfl,rfl,rfl⟩:=H
 go_enter Tryz.func26,Tryz.ntmps26
 go_wp2_with(first|(refine zX 1 35 #[.slice ar ah.length au,.slice av ai.length aw,.slice ax aj.length ay,.slice az ak.length aA] ?_;intro aD hg w5 hbox hb;have aa:=zz (hbox);have a7:=zz ((zg:w.heap.size≤aD));have a8:=zz ((zg:w.heap.size≤aD));replace HB:=zz (zv zb hb);clear hb hbox hg)|(refine zX 2 35 #[.slice none 0 0,.slice none 0 0,.slice none 0 0,.slice none 0 0] ?_;intro an hg w6 hbox hb;have ab:=zz (hbox);have a9:=zz ((zg:w.heap.size≤an));have ba:=zz ((zg:w.heap.size≤an));replace HB:=zz (zv zb hb);have ao:=zz (zH aa hg);have ap:=zz (zI aa hg);replace aa:=zz (zJ aa hb);clear hb hbox hg;have cx:=ao.out;have cy:=ap.out;obtain⟨ce,cf,cg,ch,ci,cj,ck,cm⟩:=zc4 aa.out)|(refine zL 10 5 Tryz.func10 #[.agg #[.slice ar ah.length au,.slice av ai.length aw,.slice ax aj.length ay,.slice az ak.length aA]] ?_;(with_reducible refine(impl_WorldOk.calls k _ _ ah _ _ ai _ _ aj _ _ ak true _ ?s1 ?s2 ?s3 ?s4 ?s5 ?s6 ?s7 ?s8 ?s9 A2.out).mono ?_);(case s1=>exact zc aL.out);(case s2=>exact aM.out);(case s3=>exact zc aN.out);(case s4=>exact aO.out);(case s5=>exact zc aP.out);(case s6=>exact aQ.out);(case s7=>exact zc aR.out);(case s8=>exact aS.out);(case s9=>exact zG);rintro e w9 ⟨rfl,hb⟩;refine⟨_,rfl,?_⟩;replace aa:=zz (zJ aa hb);replace ab:=zz (zJ ab hb);replace HB:=zz (zv zb hb);(try clear hb);(try clear bg);(try clear hk);(try clear hi);obtain⟨bM,bN,bO,bP,bQ,bR,bS,bT⟩:=zc4 aa.out)|(refine zL 69 9 Tryz.func69 #[.agg #[.slice ar ah.length au,.slice av ai.length aw,.slice ax aj.length ay,.slice az ak.length aA]] ?_;(with_reducible refine(impl_copyWorld.calls k _ _ ah _ _ ai _ _ aj _ _ ak ad ag aB aC _ ?s1 ?s2 ?s3 ?s4 ?s5 ?s6 ?s7 ?s8 A4.out).mono ?_);(case s1=>exact zc aL.out);(case s2=>exact aM.out);(case s3=>exact zc aN.out);(case s4=>exact aO.out);(case s5=>exact zc aP.out);(case s6=>exact aQ.out);(case s7=>exact zc aR.out);(case s8=>exact aS.out);rintro e cG ⟨cz,cA,cB,cC,rfl,bi,bj,bk,bl,hb⟩;refine⟨_,rfl,?_⟩;have aI:=zz (Kd.S_lower bi (qE zb));have aJ:=zz (Kd.S_lower bj (qE zb));have aT:=zz (Kd.S_lower bk (qE zb));have aU:=zz (Kd.vC bl (qE zb));replace aa:=zz (zJ aa hb);replace ab:=zz (zJ ab hb);replace HB:=zz (zv zb hb);(try clear hb);(try clear bg);(try clear hk);(try clear hi);(try clear bi);(try clear bj);(try clear bk);(try clear bl))|(refine zX 3 35 #[.slice none 0 0,.slice none 0 0,.slice none 0 0,.slice none 0 0] ?_;intro ac hg cH hbox hb;replace aI:=zz (Kd.vE (zS aI.out) hb);replace aJ:=zz (Kd.vE (zS aJ.out) hb);replace aT:=zz (Kd.vE (zS aT.out) hb);replace aU:=zz (Kd.R_below (zR aU.out) hb);have aK:=zz (hbox);have cp:=zz ((zg:w.heap.size≤ac));have cq:=zz ((zg:w.heap.size≤ac));replace HB:=zz (zv zb hb);have aV:=zz (zH aa hg);have aW:=zz (zI aa hg);replace aa:=zz (zJ aa hb);have aX:=zz (zH ab hg);have aY:=zz (zI ab hg);replace ab:=zz (zJ ab hb);clear hb hbox hg;obtain⟨ae,af,bo⟩:=Kd.S_slice aI.out;subst bo;have cr:=aW.out;have ct:=aV.out;have cu:=aY.out;have cv:=aX.out;obtain⟨bU,bV,bW,bX,bY,bZ,b0,b1⟩:=zc4 aK.out;obtain⟨al,am,bq⟩:=Kd.S_slice aJ.out;subst bq;obtain⟨aE,aF,br⟩:=Kd.S_slice aT.out;subst br;obtain⟨aG,aH,bs⟩:=Kd.qV aU.out;subst bs;obtain⟨b3,b4,b7,b8,ca,cb,cc,cd⟩:=zc4 ab.out)|(refine zN 12 ?_;obtain⟨cI,cJ,cK,cL,cM,cN,cO,cP⟩:=zc4 (blk_put (cs:= #[.slice ae ad.length af,.slice al ag.length am,.slice none 0 0,.slice aG aC.length aH]) (cs':= #[.slice ae ad.length af,.slice al ag.length am,.slice none 0 0,.slice none 0 0]) (blk_put (cs:= #[.slice ae ad.length af,.slice al ag.length am,.slice aE aB.length aF,.slice aG aC.length aH]) (cs':= #[.slice ae ad.length af,.slice al ag.length am,.slice none 0 0,.slice aG aC.length aH]) (blk_put (cs:= #[.slice ae ad.length af,.slice al ag.length am,.slice aE aB.length aF,.slice none 0 0]) (cs':= #[.slice ae ad.length af,.slice al ag.length am,.slice aE aB.length aF,.slice aG aC.length aH]) (blk_put (cs:= #[.slice ae ad.length af,.slice al ag.length am,.slice none 0 0,.slice none 0 0]) (cs':= #[.slice ae ad.length af,.slice al ag.length am,.slice aE aB.length aF,.slice none 0 0]) (blk_put (cs:= #[.slice ae ad.length af,.slice none 0 0,.slice none 0 0,.slice none 0 0]) (cs':= #[.slice ae ad.length af,.slice al ag.length am,.slice none 0 0,.slice none 0 0]) (blk_put (cs:= #[.slice none 0 0,.slice none 0 0,.slice none 0 0,.slice none 0 0]) (cs':= #[.slice ae ad.length af,.slice none 0 0,.slice none 0 0,.slice none 0 0]) aK.out 0 _ rfl) 1 _ rfl) 2 _ rfl) 3 _ rfl) 2 _ rfl) 3 _ rfl);refine zRun_ (.agg #[.slice ae ad.length af,.slice al ag.length am,.slice none 0 0,.slice none 0 0]) ?_))
 refine bodyPost_ret (results_cell_row rfl _ _ an 35 #[.slice ae ad.length af,.slice al ag.length am,.slice none 0 0,.slice none 0 0] (0,0) _ rfl (yP ab.out) Tryz.underlying35 rfl zk) rfl ?_
 exact⟨_,_,_,_,ze,yS (Kd.vK (p:=⟨ac,3,none⟩) (Kd.vK (p:=⟨ac,2,none⟩) (Kd.vK (p:=⟨ac,3,none⟩) (Kd.vK (p:=⟨ac,2,none⟩) (Kd.vK (p:=⟨ac,1,none⟩) (Kd.vK (p:=⟨ac,0,none⟩) (Kd.vB (Kd.vB aI.out aK.out (by decide)) ab.out (by decide)) (fun _ hk=>hk.1.2) (.slice ae ad.length af)) (fun _ hk=>hk.1.2) (.slice al ag.length am)) (fun _ hk=>hk.1.2) (.slice aE aB.length aF)) (fun _ hk=>hk.1.2) (.slice aG aC.length aH)) (fun _ hk=>hk.1.2) (.slice none 0 0)) (fun _ hk=>hk.1.2) (.slice none 0 0)),yS (Kd.vK (p:=⟨ac,3,none⟩) (Kd.vK (p:=⟨ac,2,none⟩) (Kd.vK (p:=⟨ac,3,none⟩) (Kd.vK (p:=⟨ac,2,none⟩) (Kd.vK (p:=⟨ac,1,none⟩) (Kd.vK (p:=⟨ac,0,none⟩) (Kd.vB (Kd.vB aJ.out aK.out (by decide)) ab.out (by decide)) (fun _ hk=>hk.1.2) (.slice ae ad.length af)) (fun _ hk=>hk.1.2) (.slice al ag.length am)) (fun _ hk=>hk.1.2) (.slice aE aB.length aF)) (fun _ hk=>hk.1.2) (.slice aG aC.length aH)) (fun _ hk=>hk.1.2) (.slice none 0 0)) (fun _ hk=>hk.1.2) (.slice none 0 0)),by first|exact Kd.S_nil _ _ _ _ _|exact Kd.N_nil _ _ _ _ _|exact Kd.V_nil _ _ _ _ _|exact Kd.Q_nil _ _ _ _ _|exact Kd.R_nil _ _ _ _ _,by first|exact Kd.R_nil _ _ _ _ _|exact Kd.N_nil _ _ _ _ _|exact Kd.V_nil _ _ _ _ _|exact Kd.Q_nil _ _ _ _ _|exact Kd.S_nil _ _ _ _ _,zb⟩
namespace Nd
structure S2(W:World)(base:Nat)(ok:Nat→Prop)(A0:Option Addr)(c0:Nat)(A1:Option Addr)(c1:Nat)(r0:List TItem)(r1:List TProf):Prop where
 h0:Kd.S k94 94 W base ok (.slice A0 r0.length c0) r0
 h1:Kd.S k67 67 W base ok (.slice A1 r1.length c1) r1
section
variable {W W' W2 : World} {base : Nat} {ok ok' Z : Nat → Prop} {A0 A1 A2 A3 B0 B1 B2 B3 : Option Addr} {c0 c1 c2 c3 d0 d1 d2 d3 : Nat} {r0 s0 M0 : List TItem} {r1 s1 M1 : List TProf} {r2 : List TPend} {r3 : List TNext}
theorem S2.below(h:S2 W base ok A0 c0 A1 c1 r0 r1)(hb:Below W.heap.size W W'):S2 W' base ok A0 c0 A1 c1 r0 r1:=⟨Kd.vE h.h0 hb,Kd.vE h.h1 hb⟩
theorem S2.kept(h:S2 W base ok A0 c0 A1 c1 r0 r1)(hk:Kept W W2 Z)(hne:∀k,ok k→¬Z k):S2 W2 base ok A0 c0 A1 c1 r0 r1:=⟨Kd.S_kept h.h0 hk hne,Kd.S_kept h.h1 hk hne⟩
theorem S2.mono(h:S2 W base ok A0 c0 A1 c1 r0 r1)(hk:∀k,ok k→ok' k):S2 W base ok' A0 c0 A1 c1 r0 r1:=⟨Kd.qZ h.h0 hk,Kd.qZ h.h1 hk⟩
theorem S2.lower{b:Nat}(h:S2 W base ok A0 c0 A1 c1 r0 r1)(hb:b≤base):S2 W b ok A0 c0 A1 c1 r0 r1:=⟨Kd.S_lower h.h0 hb,Kd.S_lower h.h1 hb⟩
theorem C0{α:Type}(d:Kd α)(w:World)(A:Option Addr):d.C w A ([]:List α).length []:=⟨rfl,Nat.zero_le _,fun h=>absurd h (Nat.lt_irrefl 0)⟩
theorem cut(o0:Kd.S k94 94 W base ok (.slice A0 r0.length c0) r0)(o1:Kd.S k67 67 W base ok (.slice A1 r1.length c1) r1):S2 W base (fun k=>base≤k∧k<W.heap.size) A0 c0 A1 c1 r0 r1:=
 ⟨Kd.qZ (Kd.S_bound o0) (fun k hk=>⟨hk.2.1,hk.2.2.1⟩),Kd.qZ (Kd.S_bound o1) (fun k hk=>⟨hk.2.1,hk.2.2.1⟩)⟩
theorem recI{k:Nat}(h:W4 W A0 c0 A1 c1 A2 c2 A3 c3 r0 r1 r2 r3)(hG:GOK W)(hi:impl_Recover.f k r0 r1 r2 r3=some (s0,s1,[],[])):
 Calls Tryz.prog 26 #[.agg #[.slice A0 r0.length c0,.slice A1 r1.length c1,.slice A2 r2.length c2,.slice A3 r3.length c3]] W fun e W'=>∃E0 f0 E1 f1 E2 f2 E3 f3,e= .returned (.agg #[.slice E0 s0.length f0,.slice E1 s1.length f1,.slice E2 0 f2,.slice E3 0 f3])∧S2 W' W.heap.size (fun k=>W.heap.size≤k∧k<W'.heap.size) E0 f0 E1 f1 s0 s1∧Below W.heap.size W W':=by
 refine(impl_Recover.calls k _ _ r0 _ _ r1 _ _ r2 _ _ r3 s0 s1 [] [] W h.h0 h.g0 h.h1 h.g1 h.h2 h.g2 h.h3 h.g3 hG hi).mono ?_
 rintro e W' ⟨v0,v1,v2,v3,rfl,o0,o1,o2,o3,hb⟩
 obtain⟨E0,f0,rfl⟩:=Kd.S_slice o0
 obtain⟨E1,f1,rfl⟩:=Kd.S_slice o1
 obtain⟨E2,f2,rfl⟩:=Kd.S_slice o2
 obtain⟨E3,f3,rfl⟩:=Kd.qV o3
 exact⟨E0,f0,E1,f1,E2,f2,E3,f3,rfl,cut o0 o1,hb⟩
theorem recS{k:Nat}(h:W4 W A0 c0 A1 c1 A2 c2 A3 c3 r0 r1 r2 r3)(hi:spec_Recover.f k r0 r1 r2 r3=some (s0,s1,[],[])):
 Calls Tryz.prog 25 #[.agg #[.slice A0 r0.length c0,.slice A1 r1.length c1,.slice A2 r2.length c2,.slice A3 r3.length c3]] W fun e W'=>∃E0 f0 E1 f1 E2 f2 E3 f3,e= .returned (.agg #[.slice E0 s0.length f0,.slice E1 s1.length f1,.slice E2 0 f2,.slice E3 0 f3])∧S2 W' W.heap.size (fun k=>W.heap.size≤k∧k<W'.heap.size) E0 f0 E1 f1 s0 s1∧Below W.heap.size W W':=by
 refine(spec_Recover.calls k _ _ r0 _ _ r1 _ _ r2 _ _ r3 s0 s1 [] [] W h.h0 h.g0 h.h1 h.g1 h.h2 h.g2 h.h3 h.g3 hi).mono ?_
 rintro e W' ⟨v0,v1,v2,v3,rfl,o0,o1,o2,o3,hb⟩
 obtain⟨E0,f0,rfl⟩:=Kd.S_slice o0
 obtain⟨E1,f1,rfl⟩:=Kd.S_slice o1
 obtain⟨E2,f2,rfl⟩:=Kd.S_slice o2
 obtain⟨E3,f3,rfl⟩:=Kd.qV o3
 exact⟨E0,f0,E1,f1,E2,f2,E3,f3,rfl,cut o0 o1,hb⟩
theorem eq2{k b:Nat}(h:S2 W base ok A0 c0 A1 c1 s0 s1)(h':S2 W b ok' B0 d0 B1 d1 s0 s1)(he:laws_eqWorld.f k s0 s1 [] [] s0 s1 [] []=some true):
 Calls Tryz.prog 11 #[.agg #[.slice A0 s0.length c0,.slice A1 s1.length c1,.slice A2 0 c2,.slice A3 0 c3],.agg #[.slice B0 s0.length d0,.slice B1 s1.length d1,.slice B2 0 d2,.slice B3 0 d3]] W fun e W'=>e= .returned (.bool true)∧Below W.heap.size W W':=
 laws_eqWorld.calls k _ _ s0 _ _ s1 _ _ [] _ _ [] _ _ s0 _ _ s1 _ _ [] _ _ [] true W (Kd.S_reads' h.h0).2.2 (Kd.S_reads' h.h0).2.1 (Kd.S_reads' h.h1).2.2 (Kd.S_reads' h.h1).2.1 (C0 _ _ _) (Nat.zero_le _) (C0 _ _ _) (Nat.zero_le _) (Kd.S_reads' h'.h0).2.2 (Kd.S_reads' h'.h0).2.1 (Kd.S_reads' h'.h1).2.2 (Kd.S_reads' h'.h1).2.1 (C0 _ _ _) (Nat.zero_le _) (C0 _ _ _) (Nat.zero_le _) he
theorem held2{k n0 n1:Nat}{m:Int}(h0:Kd.S k94 94 W base ok (.slice A0 n0 c0) M0)(h1:Kd.S k67 67 W base ok (.slice A1 n1 c1) M1)(hh:laws_heldWorld.f k M0 M1 [] [] 1=some m):
 Calls Tryz.prog 27 #[.agg #[.slice A0 n0 c0,.slice A1 n1 c1,.slice A2 0 c2,.slice A3 0 c3],.int .i64 1] W fun e W'=>e= .returned (.int .i64 m)∧Below W.heap.size W W':=by
 obtain⟨rfl,h01,h02⟩:=Kd.S_reads' h0
 obtain⟨rfl,h11,h12⟩:=Kd.S_reads' h1
 exact laws_heldWorld.calls k _ _ M0 _ _ M1 _ _ [] _ _ [] 1 m W h02 h01 h12 h11 (C0 _ _ _) (Nat.zero_le _) (C0 _ _ _) (Nat.zero_le _) hh
end
end Nd
theorem laws_FnExactRecover.calls{w:World}{A0 A1 A2 A3:Option Addr}{c0 c1 c2 c3:Nat}{l0:List S103}{l1:List S107}{l2:List S110}{l3:List S112}{r0 s0 M0:List TItem}{r1 s1 M1:List TProf}{r2:List TPend}{r3:List TNext}{lf n1 n2:Int}{kz kt ks ki ke kw k1 k2 kh:Nat}
 (hL:Nd.L4 w A0 c0 A1 c1 A2 c2 A3 c3 l0 l1 l2 l3) (hG_:GOK w) (hz:laws_szWorld.f kz l0 l1 l2 l3 1048576=some lf) (hlf:¬lf<0) (ht:laws_toWorld.f kt l0 l1 l2 l3=some (r0,r1,r2,r3))
 (hs:spec_Recover.f ks r0 r1 r2 r3=some (s0,s1,[],[])) (hi:impl_Recover.f ki r0 r1 r2 r3=some (s0,s1,[],[])) (he:laws_eqWorld.f ke s0 s1 [] [] s0 s1 [] []=some true) (hw:laws_eqWorld.f kw r0 r1 r2 r3 r0 r1 r2 r3=some true)
 (hm0:laws_markItemS.f k1 s0 1=some (n1,M0)) (hm1:laws_markProfileS.f k2 s1 n1=some (n2,M1)) (hh:laws_heldWorld.f kh M0 M1 [] [] 1=some n2) (hn0:¬n2<0) (hn:n2≤4611686018427387904) (hs0:s0.length<4611686018427387904) (hs1:s1.length<4611686018427387904)
 (hb:1+Mk.tot (Mk.sItemS (Nd.i2 r0) (Nd.i4 r0)) r0.length+Mk.tot (Mk.sProfileS (Nd.p2 r1)) r1.length+Mk.tot (Mk.sPendingS (Nd.q1 r2)) r2.length+Mk.tot Mk.sNextS r3.length≤4611686018427387904):
 Calls Tryz.prog 6 #[.agg #[.slice A0 l0.length c0,.slice A1 l1.length c1,.slice A2 l2.length c2,.slice A3 l3.length c3]] w fun e w'=>e= .returned (.bool true)∧Below w.heap.size w w':=by
 have hu27:=Tryz.underlying27
 have hu35:=Tryz.underlying35
 have HL:=zz hL
 have HG:=zz hG_
 have HZ:=zz hz
 have HT:=zz ht
 have HS:=zz hs
 have HI:=zz hi
 have HE:=zz he
 have HW:=zz hw
 have HM0:=zz hm0
 have HM1:=zz hm1
 have HH:=zz hh
 have HSL:=zz (And.intro hs0 hs1)
 have HN:=zz (And.intro (show 0≤n2 by omega) hn)
 have n2_:=z0 hlf
 have n3_:=z0 hn0
 obtain⟨kk,hkk⟩:∃z:Int,z=1+Mk.tot (Mk.sItemS (Nd.i2 r0) (Nd.i4 r0)) r0.length+Mk.tot (Mk.sProfileS (Nd.p2 r1)) r1.length+Mk.tot (Mk.sPendingS (Nd.q1 r2)) r2.length+Mk.tot Mk.sNextS r3.length:=⟨_,rfl⟩
 have n4_:decide (kk<0)=false:=z0 (by omega)
 have HK:=zz (And.intro hkk (show kk≤4611686018427387904 by omega))
 clear hL hG_ hz hlf ht hs hi he hw hm0 hm1 hh hn0 hn hs0 hs1 hb hkk
 have HC:=zz (show Nd.Ch [w] w from fun x hx=>by rw[List.mem_singleton.1 hx];exact Below.refl _ _)
 go_enter Tryz.func6,Tryz.ntmps6
 go_wp2_with(first
  |(refine zN 1 ?_;(try(refine z4 ?_;dsimp only));refine zX 1 27 #[.slice A0 l0.length c0,.slice A1 l1.length c1,.slice A2 l2.length c2,.slice A3 l3.length c3] ?_;intro g1 hg w1 hbox hb;replace HC:=zz (Nd.Ch.new (Nd.Ch.step (Nd.zh HC.out) hb));have BX:=zz hbox;have HG1:=zz (show w.heap.size≤g1∧g1<w1.heap.size from⟨Nat.le_of_eq hg.symm,blk_lt hbox⟩);obtain⟨x0,x1,x2,x3⟩:=zy4 hbox;clear hg hb hbox)
  |(refine zL 7 13 Tryz.func7 #[.agg #[.slice A0 l0.length c0,.slice A1 l1.length c1,.slice A2 l2.length c2,.slice A3 l3.length c3],.int .i64 1048576] ?_;have HLw:=HL.out.below (HC.out w (by simp));(with_reducible refine(laws_szWorld.calls kz _ _ l0 _ _ l1 _ _ l2 _ _ l3 1048576 lf _ HLw.h0 HLw.g0 HLw.h1 HLw.g1 HLw.h2 HLw.g2 HLw.h3 HLw.g3 HZ.out).mono ?_);rintro e w2 ⟨rfl,hb⟩;refine⟨_,rfl,?_⟩;replace HC:=zz (Nd.Ch.step HC.out hb);clear hb HLw x0 x1 x2 x3;obtain⟨x0,x1,x2,x3⟩:=zy4 (qM BX.out (HC.out w1 (by simp))))
  |(refine zL 9 17 Tryz.func9 #[.agg #[.slice A0 l0.length c0,.slice A1 l1.length c1,.slice A2 l2.length c2,.slice A3 l3.length c3]] ?_;(with_reducible refine(Nd.toWorld kt (HL.out.below (HC.out w (by simp))) HT.out).mono ?_);rintro e w3 ⟨D0,b0,D1,b1,D2,b2,D3,b3,rfl,h4,_,hb⟩;refine⟨_,rfl,?_⟩;replace HC:=zz (Nd.Ch.new (Nd.Ch.step HC.out hb));have H4:=zz h4;clear hb h4 x0 x1 x2 x3)
  |(refine zL 25 18 Tryz.func25 #[.agg #[.slice D0 r0.length b0,.slice D1 r1.length b1,.slice D2 r2.length b2,.slice D3 r3.length b3]] ?_;(with_reducible refine(Nd.recS H4.out HS.out).mono ?_);rintro e w4 ⟨E0,f0,E1,f1,E2,f2,E3,f3,rfl,h2,hb⟩;refine⟨_,rfl,?_⟩;replace HC:=zz (Nd.Ch.new (Nd.Ch.step HC.out hb).tl);have HS4:=zz (And.intro (HC.out w (by simp)).size (HC.out w1 (by simp)).size);have HQ0:=zz (h2.mono (ok':=fun k=>k<w4.heap.size) (fun k hk=>hk.2));have m1:=trivial;clear hb h2 H4)
  |(refine zN 19 ?_;clear m1;generalize hw4:w4.alloc (Obj.cells #[Value.slice E0 s0.length f0,Value.slice E1 s1.length f1,Value.slice E2 0 f2,Value.slice E3 0 f3] 35)=w5;generalize hg4:w4.heap.size=g4;have hb4:Below w4.heap.size w4 w5:=hw4 ▸ qX (Below.refl _ _) _;have HX4:=zz (show w5.heap[g4]?=some (.cells #[Value.slice E0 s0.length f0,Value.slice E1 s1.length f1,Value.slice E2 0 f2,Value.slice E3 0 f3] 35 (0,0)) from by rw[←hw4,←hg4];exact blk_new w4 _);have HGE4:=zz hg4;replace HC:=zz (Nd.Ch.new (Nd.Ch.step HC.out hb4));clear hw4 hg4 hb4;have HS5:=zz (HC.out w4 (by simp)).size;have HLT4:=zz (blk_lt HX4.out);obtain⟨x0,x1,x2,x3⟩:=zy4 (qM BX.out (HC.out w1 (by simp))))
  |(refine zL 9 20 Tryz.func9 #[.agg #[.slice A0 l0.length c0,.slice A1 l1.length c1,.slice A2 l2.length c2,.slice A3 l3.length c3]] ?_;clear x0 x1 x2 x3;(with_reducible refine(Nd.toWorld kt (HL.out.below (HC.out w (by simp))) HT.out).mono ?_);rintro e w6 ⟨C0,e0,C1,e1,C2,e2,C3,e3,rfl,h4,hrow,hb⟩;refine⟨_,rfl,?_⟩;replace HC:=zz (Nd.Ch.new (Nd.Ch.step HC.out hb));have HS6:=zz (And.intro (HC.out w4 (by simp)).size (HC.out w5 (by simp)).size);have H4:=zz h4;have HRW:=zz hrow;clear hb h4 hrow)
  |(refine zL 26 22 Tryz.func26 #[.agg #[.slice C0 r0.length e0,.slice C1 r1.length e1,.slice C2 r2.length e2,.slice C3 r3.length e3]] ?_;generalize hw5:w6.alloc (Obj.cells #[Value.slice C0 r0.length e0,Value.slice C1 r1.length e1,Value.slice C2 r2.length e2,Value.slice C3 r3.length e3] 35)=w7;generalize hg5:w6.heap.size=g5;have hb5:Below w6.heap.size w6 w7:=hw5 ▸ qX (Below.refl _ _) _;have HX5:=zz (show w7.heap[g5]?=some (.cells #[Value.slice C0 r0.length e0,Value.slice C1 r1.length e1,Value.slice C2 r2.length e2,Value.slice C3 r3.length e3] 35 (0,0)) from by rw[←hw5,←hg5];exact blk_new w6 _);have HGE5:=zz hg5;replace HC:=zz (Nd.Ch.new (Nd.Ch.step HC.out hb5));clear hw5 hg5 hb5;(with_reducible refine(Nd.recI (H4.out.below (HC.out w6 (by simp))) (HG.out.below (HC.out w (by simp))) HI.out).mono ?_);rintro e w8 ⟨G0,h0_,G1,h1_,G2,h2_,G3,h3_,rfl,h2,hb⟩;refine⟨_,rfl,?_⟩;have HS7:=zz (HC.out w6 (by simp)).size;replace HC:=zz (Nd.Ch.new (Nd.Ch.step HC.out hb));have HS8:=zz (HC.out w6 (by simp)).size;have HQ1:=zz (h2.mono (ok':=fun k=>w6.heap.size≤k∧k<w8.heap.size) (fun k hk=>⟨Nat.le_trans HS7.out hk.1,hk.2⟩));have m4:=trivial;clear hb h2)
  |(refine zN 23 ?_;clear m4;generalize hw6:w8.alloc (Obj.cells #[Value.slice G0 s0.length h0_,Value.slice G1 s1.length h1_,Value.slice G2 0 h2_,Value.slice G3 0 h3_] 35)=w9;generalize hg6:w8.heap.size=g6;have hb6:Below w8.heap.size w8 w9:=hw6 ▸ qX (Below.refl _ _) _;have HX6:=zz (show w9.heap[g6]?=some (.cells #[Value.slice G0 s0.length h0_,Value.slice G1 s1.length h1_,Value.slice G2 0 h2_,Value.slice G3 0 h3_] 35 (0,0)) from by rw[←hw6,←hg6];exact blk_new w8 _);have HGE6:=zz hg6;replace HC:=zz (Nd.Ch.new (Nd.Ch.step HC.out hb6));clear hw6 hg6 hb6;obtain⟨y0,y1,y2,y3⟩:=zy4 HX6.out;obtain⟨q0,q1,q2,q3⟩:=zy4 (qM HX4.out (HC.out w5 (by simp))))
  |(refine zL 11 25 Tryz.func11 #[.agg #[.slice G0 s0.length h0_,.slice G1 s1.length h1_,.slice G2 0 h2_,.slice G3 0 h3_],.agg #[.slice E0 s0.length f0,.slice E1 s1.length f1,.slice E2 0 f2,.slice E3 0 f3]] ?_;clear y0 y1 y2 y3 q0 q1 q2 q3;(with_reducible refine(Nd.eq2 (HQ1.out.below (HC.out w8 (by simp))) (HQ0.out.below (HC.out w4 (by simp))) HE.out).mono ?_);rintro e w10 ⟨rfl,hb⟩;refine⟨_,rfl,?_⟩;replace HC:=zz (Nd.Ch.new (Nd.Ch.step HC.out hb));clear hb))
 replace HC:=zz (Nd.Ch.drew HC.out)
 refine start_ (n:=5) (S:=fun w'=>(w'.cell? ⟨g5,0,none⟩=some (.slice C0 r0.length e0)∧w'.cell? ⟨g5,1,none⟩=some (.slice C1 r1.length e1)∧w'.cell? ⟨g5,2,none⟩=some (.slice C2 r2.length e2)∧w'.cell? ⟨g5,3,none⟩=some (.slice C3 r3.length e3))∧(w'.cell? ⟨g1,0,none⟩=some (.slice A0 l0.length c0)∧w'.cell? ⟨g1,1,none⟩=some (.slice A1 l1.length c1)∧w'.cell? ⟨g1,2,none⟩=some (.slice A2 l2.length c2)∧w'.cell? ⟨g1,3,none⟩=some (.slice A3 l3.length c3))) (ds:=[]) (bp 0 5) zk rfl rfl ⟨Nd.c4 (qM HX5.out (HC.out w7 (by simp))),Nd.c4 (qM BX.out (HC.out w1 (by simp)))⟩ (fun hHeld=>?_)
 generalize w10.drew=w11 at HC hHeld⊢
 refine take_ (i:=0) (N:=some 27) (v:=?_) (a':=?_) #[true,false,false,false,false] rfl rfl zk (fun _ _ _ h=>h) (Or.inl ⟨by rfl,?_⟩) hHeld ?_ ?_
 rotate_left
 ·rintro w' ⟨⟨s0_,s1_,s2_,s3_⟩,s4_,s5_,s6_,s7_⟩
  go_simp
  with_reducible rfl
 rotate_left
 ·simp only[Act.put,List.setIfInBounds_toArray,List.set_cons_zero,List.set_cons_succ,i64_w,i32_w]
  rfl
 refine take_ (i:=1) (N:=some 28) (v:=?_) (a':=?_) #[true,true,false,false,false] rfl rfl zk (fun _ _ _ h=>h) (Or.inl ⟨by rfl,?_⟩) hHeld ?_ ?_
 rotate_left
 ·rintro w' ⟨⟨s0_,s1_,s2_,s3_⟩,s4_,s5_,s6_,s7_⟩
  go_simp
  with_reducible rfl
 rotate_left
 ·simp only[Act.put,List.setIfInBounds_toArray,List.set_cons_zero,List.set_cons_succ,i64_w,i32_w]
  rfl
 refine one_ (i:=2) (N:=some 29) #[true,true,true,false,false] rfl rfl zk (by decide) (fun K hK=>?_)
 refine zh Tryz.func9 #[.agg #[.slice A0 l0.length c0,.slice A1 l1.length c1,.slice A2 l2.length c2,.slice A3 l3.length c3]] ?_
 with_reducible refine(Nd.toWorld kt (HL.out.below (HC.out w (by simp))) HT.out).mono ?_
 rintro e w12 ⟨D0,b0,D1,b1,D2,b2,D3,b3,rfl,h4,_,hb⟩
 refine⟨_,rfl,?_⟩
 replace HC:=zz (Nd.Ch.step HC.out hb)
 refine hK.out _ _ ⟨Nd.c4 (qM HX5.out (HC.out w7 (by simp))),Nd.c4 (qM BX.out (HC.out w1 (by simp)))⟩ (fun hHeld=>?_)
 clear hK K
 refine zn 29 ?_
 refine one_ (i:=3) (N:=some 30) #[true,true,true,true,false] rfl rfl zk (by decide) (fun K hK=>?_)
 refine zh Tryz.func11 #[.agg #[.slice C0 r0.length e0,.slice C1 r1.length e1,.slice C2 r2.length e2,.slice C3 r3.length e3],.agg #[.slice D0 r0.length b0,.slice D1 r1.length b1,.slice D2 r2.length b2,.slice D3 r3.length b3]] ?_
 have h5:=H4.out.below (HC.out w6 (by simp))
 with_reducible refine(laws_eqWorld.calls kw _ _ r0 _ _ r1 _ _ r2 _ _ r3 _ _ r0 _ _ r1 _ _ r2 _ _ r3 true _ h5.h0 h5.g0 h5.h1 h5.g1 h5.h2 h5.g2 h5.h3 h5.g3 h4.h0 h4.g0 h4.h1 h4.g1 h4.h2 h4.g2 h4.h3 h4.g3 HW.out).mono ?_
 clear hb h4 h5
 rintro e w13 ⟨rfl,hb⟩
 refine⟨_,rfl,?_⟩
 replace HC:=zz (Nd.Ch.step HC.out hb)
 refine hK.out _ _ ⟨Nd.c4 (qM HX5.out (HC.out w7 (by simp))),Nd.c4 (qM BX.out (HC.out w1 (by simp)))⟩ (fun hHeld=>?_)
 clear hK K hb
 refine zn 30 ?_
 refine pure_ (i:=4) (N:=some 31) (v:=?_) (a':=?_) #[true,true,true,true,true] rfl rfl zk (fun _ _ _ h=>h) (Or.inl ⟨by rfl,?_⟩) ?_ ?_
 rotate_left
 ·intro w'
  go_simp
  with_reducible rfl
 rotate_left
 ·simp only[Act.put,List.setIfInBounds_toArray,List.set_cons_zero,List.set_cons_succ,i64_w,i32_w]
  rfl
 refine done_ zk ?_
 clear hHeld
 have HP:=zz (show∀k,w5.heap.size≤k∧k<w6.heap.size→k<w13.heap.size from fun k hk=>Nat.lt_of_lt_of_le hk.2 (HC.out w6 (by simp)).size)
 obtain⟨y0,y1,y2,y3⟩:=zy4 (qM HX5.out (HC.out w7 (by simp)))
 go_wp2_with(first
  |(refine zL 15 34 Tryz.func15 #[.agg #[.slice C0 r0.length e0,.slice C1 r1.length e1,.slice C2 r2.length e2,.slice C3 r3.length e3],.int .i64 1] ?_;have hl5:=Mk.Like.below (P:=fun k=>w5.heap.size≤k∧k<w6.heap.size) (HC.out w6 (by simp));(with_reducible refine(Mk.World (P:=fun k=>w5.heap.size≤k∧k<w6.heap.size) (r:=kk) HP.out (HRW.out.h0.like hl5) (HRW.out.h1.like hl5) (HRW.out.h2.like hl5) (HRW.out.h3.like hl5) (by decide) HK.out.1 HK.out.2).mono ?_);rintro e w14 ⟨rfl,hl⟩;refine⟨_,rfl,?_⟩;have HB1:=zz ((hl.kept g1 (blk_lt (qM BX.out (HC.out w1 (by simp)))) (fun hp=>by have h1:=hp.1;have h2:=HG1.out.2;have h3:=HS4.out.2;have h4:=HS5.out;omega)).trans (qM BX.out (HC.out w1 (by simp))));have HB4:=zz ((hl.kept g4 (blk_lt (qM HX4.out (HC.out w5 (by simp)))) (fun hp=>by have h1:=hp.1;have h2:=blk_lt HX4.out;omega)).trans (qM HX4.out (HC.out w5 (by simp))));have HB6:=zz ((hl.kept g6 (blk_lt (qM HX6.out (HC.out w9 (by simp)))) (fun hp=>by have h1:=hp.2;have h2:=HGE6.out;have h3:=HS8.out;omega)).trans (qM HX6.out (HC.out w9 (by simp))));have HR0:=zz ((HQ0.out.below (HC.out w4 (by simp))).kept hl.to_kept (fun k hk hp=>by have h1:=hp.1;have h2:=HS5.out;omega));have HR1:=zz ((HQ1.out.below (HC.out w8 (by simp))).kept hl.to_kept (fun k hk hp=>by have h1:=hp.2;have h2:=hk.1;omega));have hB:=Mk.Like.to_below (HC.out w (by simp)) (HC.out w (by simp)).size hl (fun k hk=>Nat.le_trans HS4.out.1 (Nat.le_trans HS5.out hk.1));replace HC:=zz (Nd.Ch.new (l:=[w]) (fun x hx=>by rw[List.mem_singleton.1 hx];exact hB));clear hl hl5 hB y0 y1 y2 y3 BX H4 HRW HP HX4 HX5 HX6 HQ0 HQ1;obtain⟨y0,y1,y2,y3⟩:=zy4 HB6.out;obtain⟨q0,q1,q2,q3⟩:=zy4 HB4.out)
  |(refine zN 40 ?_;refine z4 ?_;dsimp only;refine zL 11 40 Tryz.func11 #[.agg #[.slice G0 s0.length h0_,.slice G1 s1.length h1_,.slice G2 0 h2_,.slice G3 0 h3_],.agg #[.slice E0 s0.length f0,.slice E1 s1.length f1,.slice E2 0 f2,.slice E3 0 f3]] ?_;(with_reducible refine(Nd.eq2 HR1.out HR0.out HE.out).mono ?_);rintro e w15 ⟨rfl,hb⟩;refine⟨_,rfl,?_⟩;replace HC:=zz (Nd.Ch.step HC.out hb);clear hb y0 y1 y2 y3 q0 q1 q2 q3;obtain⟨y0,y1,y2,y3⟩:=zy4 (qM HB6.out (HC.out w14 (by simp))))
  |(refine zL 15 45 Tryz.func15 #[.agg #[.slice G0 s0.length h0_,.slice G1 s1.length h1_,.slice G2 0 h2_,.slice G3 0 h3_],.int .i64 1] ?_;have h2:=(HR1.out.below (HC.out w14 (by simp))).lower (show w.heap.size≤w7.heap.size from Nat.le_trans HS4.out.1 (Nat.le_trans HS5.out (Nat.le_trans HS6.out.2 HS7.out)));(with_reducible refine(Ms.World (P:=fun k=>w6.heap.size≤k∧k<w8.heap.size) (w0:=w) (HC.out w (by simp)) h2.h0 h2.h1 HM0.out HM1.out HSL.out.1 HSL.out.2 HN.out.1 HN.out.2).mono ?_);rintro e w16 ⟨rfl,ho0,ho1,hB,hk⟩;refine⟨_,rfl,?_⟩;have HD1:=zz ((hk.2 g1 (blk_lt (qM HB1.out (HC.out w14 (by simp)))) (fun hp=>by have h1:=hp.1;have h2:=HG1.out.2;have h3:=HS4.out.2;have h4:=HS6.out.1;omega)).trans (qM HB1.out (HC.out w14 (by simp))));have HD4:=zz ((hk.2 g4 (blk_lt (qM HB4.out (HC.out w14 (by simp)))) (fun hp=>by have h1:=hp.1;have h2:=HLT4.out;have h3:=HS6.out.2;omega)).trans (qM HB4.out (HC.out w14 (by simp))));have HD6:=zz ((hk.2 g6 (blk_lt (qM HB6.out (HC.out w14 (by simp)))) (fun hp=>by have h1:=hp.2;have h2:=HGE6.out;omega)).trans (qM HB6.out (HC.out w14 (by simp))));have HT0:=zz ((HR0.out.below (HC.out w14 (by simp))).kept hk (fun k h1 h2=>by have h3:=HS6.out.1;omega));have HO0:=zz ho0;have HO1:=zz ho1;replace HC:=zz (Nd.Ch.new (l:=[w]) (fun x hx=>by rw[List.mem_singleton.1 hx];exact hB));clear h2 ho0 ho1 hB hk HB1 HB4 HB6 HR0 HR1 y0 y1 y2 y3;obtain⟨y0,y1,y2,y3⟩:=zy4 HD6.out)
  |(refine zL 27 48 Tryz.func27 #[.agg #[.slice G0 s0.length h0_,.slice G1 s1.length h1_,.slice G2 0 h2_,.slice G3 0 h3_],.int .i64 1] ?_;(with_reducible refine(Nd.held2 (Kd.vE HO0.out (HC.out w16 (by simp))) (Kd.vE HO1.out (HC.out w16 (by simp))) HH.out).mono ?_);rintro e w17 ⟨rfl,hb⟩;refine⟨_,rfl,?_⟩;replace HC:=zz (Nd.Ch.step HC.out hb);clear hb y0 y1 y2 y3;obtain⟨x0,x1,x2,x3⟩:=zy4 (qM HD1.out (HC.out w16 (by simp))))
  |(refine zL 9 55 Tryz.func9 #[.agg #[.slice A0 l0.length c0,.slice A1 l1.length c1,.slice A2 l2.length c2,.slice A3 l3.length c3]] ?_;(with_reducible refine(Nd.toWorld kt (HL.out.below (HC.out w (by simp))) HT.out).mono ?_);rintro e w18 ⟨J0,a0,J1,a1,J2,a2,J3,a3,rfl,h4,_,hb⟩;refine⟨_,rfl,?_⟩;replace HC:=zz (Nd.Ch.step HC.out hb);have H4:=zz h4;clear hb h4 x0 x1 x2 x3)
  |(refine zL 26 56 Tryz.func26 #[.agg #[.slice J0 r0.length a0,.slice J1 r1.length a1,.slice J2 r2.length a2,.slice J3 r3.length a3]] ?_;(with_reducible refine(Nd.recI H4.out (HG.out.below (HC.out w (by simp))) HI.out).mono ?_);rintro e w19 ⟨K0,i0,K1,i1,K2,i2,K3,i3,rfl,h2,hb⟩;refine⟨_,rfl,?_⟩;replace HC:=zz (Nd.Ch.new (Nd.Ch.step HC.out hb));have HQ2:=zz h2;have m4:=trivial;clear hb h2 H4)
  |(refine zN 57 ?_;clear m4;generalize hw10:w19.alloc (Obj.cells #[Value.slice K0 s0.length i0,Value.slice K1 s1.length i1,Value.slice K2 0 i2,Value.slice K3 0 i3] 35)=w20;generalize hg10:w19.heap.size=g10;have hb10:Below w19.heap.size w19 w20:=hw10 ▸ qX (Below.refl _ _) _;have HX10:=zz (show w20.heap[g10]?=some (.cells #[Value.slice K0 s0.length i0,Value.slice K1 s1.length i1,Value.slice K2 0 i2,Value.slice K3 0 i3] 35 (0,0)) from by rw[←hw10,←hg10];exact blk_new w19 _);have HGE10:=zz hg10;replace HC:=zz (Nd.Ch.new (Nd.Ch.step HC.out hb10));clear hw10 hg10 hb10;obtain⟨y0,y1,y2,y3⟩:=zy4 HX10.out;obtain⟨q0,q1,q2,q3⟩:=zy4 (qM HD4.out (HC.out w16 (by simp))))
  |(refine zL 11 59 Tryz.func11 #[.agg #[.slice K0 s0.length i0,.slice K1 s1.length i1,.slice K2 0 i2,.slice K3 0 i3],.agg #[.slice E0 s0.length f0,.slice E1 s1.length f1,.slice E2 0 f2,.slice E3 0 f3]] ?_;clear y0 y1 y2 y3 q0 q1 q2 q3;(with_reducible refine(Nd.eq2 (HQ2.out.below (HC.out w19 (by simp))) (HT0.out.below (HC.out w16 (by simp))) HE.out).mono ?_);rintro e w21 ⟨rfl,hb⟩;refine⟨_,rfl,?_⟩;replace HC:=zz (Nd.Ch.step HC.out hb);clear hb;obtain⟨y0,y1,y2,y3⟩:=zy4 (qM HD6.out (HC.out w16 (by simp))))
  |(refine zL 27 63 Tryz.func27 #[.agg #[.slice G0 s0.length h0_,.slice G1 s1.length h1_,.slice G2 0 h2_,.slice G3 0 h3_],.int .i64 1] ?_;(with_reducible refine(Nd.held2 (Kd.vE HO0.out (HC.out w16 (by simp))) (Kd.vE HO1.out (HC.out w16 (by simp))) HH.out).mono ?_);rintro e w22 ⟨rfl,hb⟩;refine⟨_,rfl,?_⟩;replace HC:=zz (Nd.Ch.step HC.out hb);clear hb y0 y1 y2 y3))
 go_ret
 exact⟨rfl,by repeat(first|exact HC.out w (by simp)|apply qX|apply vF|apply qJ)⟩
theorem laws_FnExactRecover.much{w:World}{A0 A1 A2 A3:Option Addr}{c0 c1 c2 c3:Nat}{l0:List S103}{l1:List S107}{l2:List S110}{l3:List S112}{lf:Int}{kz:Nat}
 (hL:Nd.L4 w A0 c0 A1 c1 A2 c2 A3 c3 l0 l1 l2 l3) (hz:laws_szWorld.f kz l0 l1 l2 l3 1048576=some lf) (hlf:lf<0):
 Calls Tryz.prog 6 #[.agg #[.slice A0 l0.length c0,.slice A1 l1.length c1,.slice A2 l2.length c2,.slice A3 l3.length c3]] w fun e w'=>e= .returned (.bool true)∧Below w.heap.size w w':=by
 have hu27:=Tryz.underlying27
 have HL:=zz hL
 have HZ:=zz hz
 have n2:=z1 hlf
 clear hL hz hlf
 have HC:=zz (show Nd.Ch [w] w from fun x hx=>by rw[List.mem_singleton.1 hx];exact Below.refl _ _)
 go_enter Tryz.func6,Tryz.ntmps6
 go_wp2_with(first
  |(refine zN 1 ?_;(try(refine z4 ?_;dsimp only));refine zX 1 27 #[.slice A0 l0.length c0,.slice A1 l1.length c1,.slice A2 l2.length c2,.slice A3 l3.length c3] ?_;intro g1 hg w1 hbox hb;replace HC:=zz (Nd.Ch.new (Nd.Ch.step (Nd.zh HC.out) hb));obtain⟨x0,x1,x2,x3⟩:=zy4 hbox;clear hg hb hbox)
  |(refine zL 7 13 Tryz.func7 #[.agg #[.slice A0 l0.length c0,.slice A1 l1.length c1,.slice A2 l2.length c2,.slice A3 l3.length c3],.int .i64 1048576] ?_;have HLw:=HL.out.below (HC.out w (by simp));(with_reducible refine(laws_szWorld.calls kz _ _ l0 _ _ l1 _ _ l2 _ _ l3 1048576 lf _ HLw.h0 HLw.g0 HLw.h1 HLw.g1 HLw.h2 HLw.g2 HLw.h3 HLw.g3 HZ.out).mono ?_);rintro e w2 ⟨rfl,hb⟩;refine⟨_,rfl,?_⟩;replace HC:=zz (Nd.Ch.step HC.out hb);clear hb HLw x0 x1 x2 x3))
 go_ret
 exact⟨rfl,by repeat(first|exact HC.out w (by simp)|apply qX|apply vF|apply qJ)⟩
end Go.Proofs.YtcekmnclmldmmaaGreatDoor.Q
