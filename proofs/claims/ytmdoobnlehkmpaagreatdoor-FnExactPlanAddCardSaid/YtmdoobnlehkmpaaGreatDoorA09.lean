import Derived.Test.YtmdoobnlehkmpaaGreatDoorA08
set_option linter.unusedVariables false
set_option linter.unusedSimpArgs false
namespace Go.Proofs.YtmdoobnlehkmpaaGreatDoor.Q
open Go.RowKit W1 W2 W3
attribute [local go_sem] max2_int min2_int max_two min_two max_three min_three max_four min_four
attribute [local go_sem high] bl_leq bl_gtr bl_geq
set_option maxHeartbeats 8000000
set_option maxRecDepth 100000
def spec_PackTree.l0:Nat→List (S87)→List Int→Int→Option (List Int)
 |0,_,_,_=>none
 |k+1,x0,x3,x4=>if x4<(x0.length:Int) then(if 0≤x4 then(if(qA x0 x4).f3=true then(if x3.length<140737488355328 then((spec_l10Text.f k (x3++[(wrap64 (((qA x0 x4).f1)+16)) % 256]) ((qA x0 x4).f0)).bind fun aa=>((spec_l10Text.f k aa ((qA x0 x4).f2)).bind fun ab=>(spec_PackTree.l0 k x0 ab (wrap64 (x4+1))))) else(none)) else(if x3.length<140737488355328 then((spec_l10Text.f k (x3++[((qA x0 x4).f1) % 256]) ((qA x0 x4).f0)).bind fun ac=>((spec_l10Text.f k ac ((qA x0 x4).f2)).bind fun ad=>(spec_PackTree.l0 k x0 ad (wrap64 (x4+1))))) else(none))) else(none)) else(some x3)
def spec_PackTree.f(k:Nat)(l0:List (S87)):Option (List Int):=(spec_TreeOk.f k l0).bind fun aa=>(if aa=true then((spec_l10Num.f k (([76,65,82,49]:List Int)) (l0.length:Int)).bind fun ab=>(spec_PackTree.l0 k l0 ab 0)) else(some (([]:List Int))))
def spec_PackTree.T11:Bool×List (List Nat×List Nat):=(true,[([],[]),([],[]),([],[]),([1,2],[1,2]),([3],[3]),([4],[4]),([0,5],[0,5]),([],[]),([],[]),([7,8],[7,8]),([9],[9]),([10],[10]),([6,11,6],[6,11]),([12,12,0,1,2,3,4,5,6,7,8,9,10,11,12],[0,12])])
def spec_PackTree.B11:List Nat:=[0,0,0,6,14,30,63,0,0,384,896,1920,4095,8191]
theorem spec_PackTree.tab11:rtab .any (opsOf Tryz.f171 11)=spec_PackTree.T11:=by kernel_rfl
theorem spec_PackTree.bits11:waitsOk spec_PackTree.T11.2 spec_PackTree.B11=true:=by kernel_rfl
theorem spec_PackTree.calls(k:Nat)(A0:Option Addr)(c0:Nat)(l0:List (S87))(r:List Int)(w:World)(cb:Kd.C k87 w A0 l0.length l0)(cc:l0.length≤c0)(h:spec_PackTree.f k l0=some r):
 Calls Tryz.prog 171 #[.slice A0 l0.length c0] w fun e w'=>∃cd:Value,e= .returned (cd)∧Kd.R (Kd.int .u8) 5 w' w.heap.size (fun _=>True) cd r∧Below w.heap.size w w':=by
 have aX:=zz cb
 have ce:=zz cc
 clear cb cc
 have HB:=yB w
 unfold spec_PackTree.f at h
 have H:=h
 clear h
 replace H:=zf H
 obtain⟨ck,cf,H⟩:=H
 try dsimp only at H
 have A2:=zz cf
 clear cf
 by_cases c3:ck=true
 case neg=>
  replace c3:=Bool.eq_false_iff.mpr c3
  subst c3
  rw[if_neg (show¬(false=true) by decide)] at H
  obtain⟨cm,aY⟩:∃y_:List Int,y_=(([]:List Int)):=⟨_,rfl⟩
  replace H:(some cm)=some r:=by first|(rw[aY];with_reducible exact H)|(have af:=(Option.bind_some _ _).symm.trans H;rw[aY];with_reducible exact af)|(have af:=(Option.bind_some _ _).symm.trans H;with_reducible exact af)|with_reducible exact H|(rw[aY];exact H)|exact H
  have bJ:=zz aY
  clear aY
  obtain rfl:=zi H
  go_enter Tryz.func171,Tryz.ntmps171
  go_wp2_with(first|(refine zL 93 7 Tryz.func93 #[.slice A0 l0.length c0] ?_;(with_reducible refine(spec_TreeOk.calls k _ _ l0 false _ ?s1 ?s2 A2.out).mono ?_);(case s1=>exact zd aX.out);(case s2=>exact ce.out);rintro e cW ⟨rfl,hb⟩;refine⟨_,rfl,?_⟩;replace HB:=zz (zv zb hb);(try clear hb);(try clear cx);(try clear hk);(try clear hi))|(refine zN 9 ?_;refine Kd.R_lit (Kd.int .u8) _ 5 ?hg (N:=9) ?hd (xs:=([]:List Int)) (inner:=[]) (ok:=fun _=>True) (okp:=fun _=>True) ?hr ?hp (fun _ hk=>hk) trivial (Below.refl _ _) (Nat.le_refl _) (by simp) ?_;(case hd=>rfl);(case hg=>rfl);(case hr=>first|(go_simp;done)|(go_simp;rfl));(case hp=>exact(Reps.none _ _));intro cG cX bh hb hg_ hnew_;clear hg_ hnew_;(first|rw[←bJ.out] at bh|(simp only[Int.reduceToNat] at bh;rw[←bJ.out] at bh));have bY:=zz (Kd.qY bh (qF zb));replace HB:=zz (zv zb hb);clear hb bh))
  go_ret
  exact⟨_,ze,zR bY.out,zb⟩
 subst c3
 rw[if_pos rfl] at H
 obtain⟨bv,aZ⟩:∃y_:List Int,y_=(([76,65,82,49]:List Int)):=⟨_,rfl⟩
 replace H:((spec_l10Num.f k bv (l0.length:Int)).bind fun bw=>(spec_PackTree.l0 k l0 bw 0))=some r:=by first|(rw[aZ];with_reducible exact H)|(have af:=(Option.bind_some _ _).symm.trans H;rw[aZ];with_reducible exact af)|(have af:=(Option.bind_some _ _).symm.trans H;with_reducible exact af)|with_reducible exact H|(rw[aZ];exact H)|exact H
 have bZ:=zz aZ
 clear aZ
 replace H:=zf H
 obtain⟨bw,cg,H⟩:=H
 try dsimp only at H
 have A4:=zz cg
 clear cg
 have H':=zz H
 clear H
 go_enter Tryz.func171,Tryz.ntmps171
 go_wp2_with(first|(refine zL 93 7 Tryz.func93 #[.slice A0 l0.length c0] ?_;(with_reducible refine(spec_TreeOk.calls k _ _ l0 true _ ?s1 ?s2 A2.out).mono ?_);(case s1=>exact zd aX.out);(case s2=>exact ce.out);rintro e w5 ⟨rfl,hb⟩;refine⟨_,rfl,?_⟩;replace HB:=zz (zv zb hb);(try clear hb);(try clear cx);(try clear hk);(try clear hi))|(refine zN 10 ?_;refine lar_event ?hg (N:=10) ?hd (cs:= #[.int .u8 76,.int .u8 65,.int .u8 82,.int .u8 49]) (t:=5) ?hr ?_;(case hd=>rfl);(case hg=>rfl);(case hr=>first|(go_simp;done)|(go_simp;rfl));intro gl hgl w6 hlb hb;have bg:=zz (zv zb hb);have cn:=zz (Nat.le_trans (qF zb) hgl);have bO:=zz hlb;clear HB hb hgl hlb;have HB:=bg;clear bg)|(refine zN 11 ?_;refine mark_event rfl rfl Tryz.underlying153 Tryz.underlying5 (g:=gl) rfl bO.out ?_;intro w7 hlc hb;have bg:=zz (HB.out.trans (hb.mono cn.out));have hT:=zz (show RT 5 w.heap.size w7 (.slice (some ⟨gl,0,none⟩) 4 4) bv by rw[bZ.out];exact .inr ⟨gl,rfl,_,_,_,hlc,rfl⟩);clear HB hb hlc bO;have HB:=bg;clear bg)|(refine zL 189 14 Tryz.func189 #[.slice (some ⟨gl,0,none⟩) 4 4,.int .i64 (l0.length:Int)] ?_;(with_reducible refine(spec_l10Num.lar k _ bv _ _ w _ HB.out hT.out A4.out).mono ?_);rintro e w9 ⟨cH,rfl,ah,hb⟩;refine⟨_,rfl,?_⟩;have ch:=zz ah;have bg:=zz hb;clear HB;have b0:=ch;have HB:=bg;clear ch bg hb ah))
 go_loopg[3,4] k (fun kq v3 v4 w'=>∃(ag:List Int) (aa:Int),v4= .int .i64 aa∧qC (spec_PackTree.l0 kq l0 ag aa=some r)∧qC (kq≤k)∧qC (Kd.R (Kd.int .u8) 5 w' w.heap.size (fun _=>True) v3 ag)∧qC (Below w.heap.size w w'))
 case atStart=>exact⟨(bw),(0),zr,H',⟨Nat.le_refl _⟩,⟨zR b0.out⟩,⟨zb⟩⟩
 case round=>
  clear H'
  try clear c1
  try clear p2
  try clear c3
  try clear c9
  obtain⟨ag,aa,rfl,HA,bK,bi,HB⟩:=hrel
  cases gk with
  |zero=>exact absurd HA.out (by simp[spec_PackTree.l0])
  |succ k1=>
   have H:=HA.out
   clear HA
   simp only[spec_PackTree.l0] at H
   refine yDn H ?_ ?_<;>clear H<;>intro cE H
   ·obtain rfl:=zi H
    go_wp2
    go_ret
    exact⟨_,ze,zR bi.out,zb⟩
   replace H:=yAD H
   obtain⟨cF,H⟩:=H
   obtain⟨bP,bq⟩:∃b_:Bool,b_=((qA l0 aa).f3):=⟨_,rfl⟩
   replace H:(if bP=true then(if ag.length<140737488355328 then((spec_l10Text.f k1 (ag++[(wrap64 (((qA l0 aa).f1)+16)) % 256]) ((qA l0 aa).f0)).bind fun av=>((spec_l10Text.f k1 av ((qA l0 aa).f2)).bind fun a2=>(spec_PackTree.l0 k1 l0 a2 (wrap64 (aa+1))))) else(none)) else(if ag.length<140737488355328 then((spec_l10Text.f k1 (ag++[((qA l0 aa).f1) % 256]) ((qA l0 aa).f0)).bind fun aw=>((spec_l10Text.f k1 aw ((qA l0 aa).f2)).bind fun a3=>(spec_PackTree.l0 k1 l0 a3 (wrap64 (aa+1))))) else(none)))=some r:=by rw[←bq] at H;exact H
   have ac:=zz bq
   clear bq
   by_cases bL:bP=true
   ·subst bL
    rw[if_pos rfl] at H
    replace H:=yA H
    obtain⟨ci,H⟩:=H
    have b1:=zz ci
    clear ci
    obtain⟨bj,a0⟩:∃y_:List Int,y_=(ag++[(wrap64 (((qA l0 aa).f1)+16)) % 256]):=⟨_,rfl⟩
    replace H:((spec_l10Text.f k1 bj ((qA l0 aa).f0)).bind fun av=>((spec_l10Text.f k1 av ((qA l0 aa).f2)).bind fun a2=>(spec_PackTree.l0 k1 l0 a2 (wrap64 (aa+1)))))=some r:=by first|(rw[a0];with_reducible exact H)|(have af:=(Option.bind_some _ _).symm.trans H;rw[a0];with_reducible exact af)|(have af:=(Option.bind_some _ _).symm.trans H;with_reducible exact af)|with_reducible exact H|(rw[a0];exact H)|exact H
    have b2:=zz a0
    clear a0
    replace H:=zf H
    obtain⟨av,bQ,H⟩:=H
    try dsimp only at H
    have cy:=zz bQ
    clear bQ
    replace H:=zf H
    obtain⟨a2,bR,H⟩:=H
    try dsimp only at H
    have cz:=zz bR
    clear bR
    have H':=zz H
    clear H
    have co:=yt (0≤(aa:Int))
    have cp:=yt (aa<(l0.length:Int))
    obtain⟨ab,bz,ai,aj,ak,ad⟩:=at_T87 aX.out aa z2 z2
    (try rw[←ac.out] at ad);(try rw[←ac.out] at bM)
    cases bz
    replace ai:=z3 HB.out ai
    replace aj:=z3 HB.out aj
    replace ak:=z3 HB.out ak
    replace ad:=z3 HB.out ad
    have cq:=yt (0≤(aa:Int))
    have cr:=yt (aa<(l0.length:Int))
    obtain⟨br,bA,al,am,an,ae⟩:=at_T87 aX.out aa z2 z2
    (try rw[←ac.out] at ae);(try rw[←ac.out] at bN)
    obtain rfl:ab=br:=(by injection bA)
    replace al:=z3 HB.out al
    replace am:=z3 HB.out am
    replace an:=z3 HB.out an
    replace ae:=z3 HB.out ae
    try go_wp2_with(first|((with_reducible refine qT (b:= .append) (xs:= #[.tmp 33,.tmp 36]) rfl ?_);at_builtin;refine Kd.R_append (Kd.int .u8) (w0:=w) w.heap.size rfl (.tmp 33) (.tmp 36) 153 5 (.int .u8 0) 1 rfl Tryz.underlying153 info5 rfl (by decide) (by omega) u3 ag ((wrap64 (((qA l0 aa).f1)+16)) % 256) [.int .u8 ((wrap64 (((qA l0 aa).f1)+16)) % 256)] (fun _=>True) (fun _=>False) rfl rfl ?aP (fun _ hk=>hk.elim) ?aF ?aO ?aB ?aS ?aL ?_;(case aP=>exact rfl);(case aB=>exact zb);(case aF=>exact(fun _ _=>trivial));(case aO=>exact(zR bi.out));(case aS=>exact(qF zb));(case aL=>have:=b1.out;omega);intro cI cA ho hb hg hat;rw[←b2.out] at ho;replace HB:=zz (hb);have az:=zz (ho);clear bi;clear ho hb hg hat))
    replace az:=zz (Kd.R_drew az.out)
    replace HB:=zz (qK HB.out)
    have cJ:=yt (0≤(aa:Int))
    have cK:=yt (aa<(l0.length:Int))
    obtain⟨b3,ct,aA,aC,aD,ao⟩:=at_T87 aX.out aa z2 z2
    have aE:=ao
    have a4:=aD
    have a5:=aC
    have a6:=aA
    (try rw[←ac.out] at ao);(try rw[←ac.out] at aE)
    obtain rfl:ab=b3:=(by injection ct)
    replace aA:=z3 HB.out aA
    replace aC:=z3 HB.out aC
    replace aD:=z3 HB.out aD
    replace ao:=z3 HB.out ao
    have cL:=yt (0≤(aa:Int))
    have cM:=yt (aa<(l0.length:Int))
    obtain⟨b4,cu,aG,aH,aI,ap⟩:=at_T87 aX.out aa z2 z2
    have aJ:=ap
    have a7:=aI
    have a8:=aH
    have a9:=aG
    (try rw[←ac.out] at ap);(try rw[←ac.out] at aJ)
    obtain rfl:ab=b4:=(by injection cu)
    replace aG:=z3 HB.out aG
    replace aH:=z3 HB.out aH
    replace aI:=z3 HB.out aI
    replace ap:=z3 HB.out ap
    obtain⟨bB,bC,bS⟩:=Kd.qZ az.out
    (first|subst bS|(injection bS with ax bk ay;have bl:=ax.symm;have bn:=ay.symm;clear ax bk ay;subst bl;subst bn))
    refine start_ (n:=14) (S:=fun w'=>w'.cell? (ab.add ((aa).toNat*4))=some (.string ((qA l0 aa).f0))∧w'.cell? ⟨(ab.add ((aa).toNat*4)).block,(ab.add ((aa).toNat*4)).off+1,none⟩=some (.int .i64 ((qA l0 aa).f1))∧w'.cell? ⟨(ab.add ((aa).toNat*4)).block,(ab.add ((aa).toNat*4)).off+2,none⟩=some (.string ((qA l0 aa).f2))∧w'.cell? ⟨(ab.add ((aa).toNat*4)).block,(ab.add ((aa).toNat*4)).off+3,none⟩=some (.bool (true))∧w'.cell? (ab.add ((aa).toNat*4))=some (.string ((qA l0 aa).f0))∧w'.cell? ⟨(ab.add ((aa).toNat*4)).block,(ab.add ((aa).toNat*4)).off+1,none⟩=some (.int .i64 ((qA l0 aa).f1))∧w'.cell? ⟨(ab.add ((aa).toNat*4)).block,(ab.add ((aa).toNat*4)).off+2,none⟩=some (.string ((qA l0 aa).f2))∧w'.cell? ⟨(ab.add ((aa).toNat*4)).block,(ab.add ((aa).toNat*4)).off+3,none⟩=some (.bool (true))) (ds:=[]) (bp 0 14) zk rfl rfl ⟨(z3 HB.out a6),(z3 HB.out a5),(z3 HB.out a4),(z3 HB.out aE),(z3 HB.out a9),(z3 HB.out a8),(z3 HB.out a7),(z3 HB.out aJ)⟩ (fun hHeld=>?_);refine with_tabW spec_PackTree.tab11 spec_PackTree.bits11 (fun HT_ HW_=>?_)
    generalize cA.drew=cY at az HB aA aC aD ao aG aH aI ap hHeld⊢
    refine zp 0 38 (bp 1 13) ?_
    refine zp 1 39 (bp 2 12) ?_
    refine zp 2 40 (bp 3 11) ?_
    refine zp 3 41 (bp 4 10) ?_
    refine zp 4 42 (bp 5 9) ?_
    refine zp 7 45 (bm 14 159) ?_
    refine zp 8 46 (bm 14 415) ?_
    refine zp 9 47 (bm 14 927) ?_
    refine zp 10 48 (bm 14 1951) ?_
    refine zt 5 43 (bm 14 1983) ?_
    refine zt 11 49 (bm 14 4031) ?_
    refine zo 6 44 (bp 12 2) fun K hK=>?_
    refine zh Tryz.func190 #[.slice bB bj.length bC,.string ((qA l0 aa).f0)] ?_
    with_reducible refine(spec_l10Text.calls k1 (fun k_=>some k_=(.slice bB bj.length bC:Value).ownBlock) (.slice bB bj.length bC) bj ((qA l0 aa).f0) av w _ ?s1 ?s2 cy.out).mono ?_
    (case s1=>repeat(first|(with_reducible first|exact HB.out|apply qX|apply qW|apply qK)|exact HB.out))
    (case s2=>exact Kd.R_tight rfl az.out)
    rintro e cZ ⟨cN,rfl,ah,hb,hkp⟩
    refine⟨_,rfl,?_⟩
    have bs:=zz (Kd.vC (ok':=fun k_=>True) ah (fun k_ hk_=>trivial))
    replace HB:=zz (hb)
    clear az
    (try clear hb)
    (try clear hkp)
    (try clear ah)
    obtain⟨bD,bE,bT⟩:=Kd.qZ bs.out
    (first|subst bT|(injection bT with ax bk ay;have bl:=ax.symm;have bn:=ay.symm;clear ax bk ay;subst bl;subst bn))
    refine hK.out _ _ ⟨(z3 HB.out a6),(z3 HB.out a5),(z3 HB.out a4),(z3 HB.out aE),(z3 HB.out a9),(z3 HB.out a8),(z3 HB.out a7),(z3 HB.out aJ)⟩ (fun hHeld=>?_)
    clear hK K
    refine zn 44 ?_
    refine zo 12 50 (bp 13 1) fun K hK=>?_
    refine zh Tryz.func190 #[.slice bD av.length bE,.string ((qA l0 aa).f2)] ?_
    with_reducible refine(spec_l10Text.calls k1 (fun k_=>some k_=(.slice bD av.length bE:Value).ownBlock) (.slice bD av.length bE) av ((qA l0 aa).f2) a2 w _ ?s1 ?s2 cz.out).mono ?_
    (case s1=>repeat(first|(with_reducible first|exact HB.out|apply qX|apply qW|apply qK)|exact HB.out))
    (case s2=>exact Kd.R_tight rfl bs.out)
    rintro e c5 ⟨cO,rfl,ah,hb,hkp⟩
    refine⟨_,rfl,?_⟩
    have b5:=zz (Kd.vC (ok':=fun k_=>True) ah (fun k_ hk_=>trivial))
    replace HB:=zz (hb)
    clear bs
    (try clear hb)
    (try clear hkp)
    (try clear ah)
    refine hK.out _ _ ⟨(z3 HB.out a6),(z3 HB.out a5),(z3 HB.out a4),(z3 HB.out aE),(z3 HB.out a9),(z3 HB.out a8),(z3 HB.out a7),(z3 HB.out aJ)⟩ (fun hHeld=>?_)
    clear hK K
    refine zn 50 ?_
    refine zp 13 3 (bp 14 0) ?_
    refine done_ (done_of HT_.out zk) ?_
    try go_wp2
    go_roundg k1
    case measure=>have:=bK.out;omega
    case rel=>exact⟨(a2),(wrap64 (aa+1)),zr,H',⟨by have:=bK.out;omega⟩,⟨zR b5.out⟩,⟨zb⟩⟩
   replace bL:=Bool.eq_false_iff.mpr bL
   subst bL
   rw[if_neg (show¬(false=true) by decide)] at H
   replace H:=yA H
   obtain⟨cj,H⟩:=H
   have b6:=zz cj
   clear cj
   obtain⟨bo,a1⟩:∃y_:List Int,y_=(ag++[((qA l0 aa).f1) % 256]):=⟨_,rfl⟩
   replace H:((spec_l10Text.f k1 bo ((qA l0 aa).f0)).bind fun aw=>((spec_l10Text.f k1 aw ((qA l0 aa).f2)).bind fun a3=>(spec_PackTree.l0 k1 l0 a3 (wrap64 (aa+1)))))=some r:=by first|(rw[a1];with_reducible exact H)|(have af:=(Option.bind_some _ _).symm.trans H;rw[a1];with_reducible exact af)|(have af:=(Option.bind_some _ _).symm.trans H;with_reducible exact af)|with_reducible exact H|(rw[a1];exact H)|exact H
   have b7:=zz a1
   clear a1
   replace H:=zf H
   obtain⟨aw,bU,H⟩:=H
   try dsimp only at H
   have cB:=zz bU
   clear bU
   replace H:=zf H
   obtain⟨a3,bV,H⟩:=H
   try dsimp only at H
   have cC:=zz bV
   clear bV
   have H':=zz H
   clear H
   have co:=yt (0≤(aa:Int))
   have cp:=yt (aa<(l0.length:Int))
   obtain⟨ab,bz,ai,aj,ak,ad⟩:=at_T87 aX.out aa z2 z2
   (try rw[←ac.out] at ad);(try rw[←ac.out] at bM)
   cases bz
   replace ai:=z3 HB.out ai
   replace aj:=z3 HB.out aj
   replace ak:=z3 HB.out ak
   replace ad:=z3 HB.out ad
   have cq:=yt (0≤(aa:Int))
   have cr:=yt (aa<(l0.length:Int))
   obtain⟨br,bA,al,am,an,ae⟩:=at_T87 aX.out aa z2 z2
   (try rw[←ac.out] at ae);(try rw[←ac.out] at bN)
   obtain rfl:ab=br:=(by injection bA)
   replace al:=z3 HB.out al
   replace am:=z3 HB.out am
   replace an:=z3 HB.out an
   replace ae:=z3 HB.out ae
   try go_wp2_with(first|((with_reducible refine qT (b:= .append) (xs:= #[.tmp 33,.tmp 36]) rfl ?_);at_builtin;refine Kd.R_append (Kd.int .u8) (w0:=w) w.heap.size rfl (.tmp 33) (.tmp 36) 153 5 (.int .u8 0) 1 rfl Tryz.underlying153 info5 rfl (by decide) (by omega) u3 ag (((qA l0 aa).f1) % 256) [.int .u8 (((qA l0 aa).f1) % 256)] (fun _=>True) (fun _=>False) rfl rfl ?aP (fun _ hk=>hk.elim) ?aF ?aO ?aB ?aS ?aL ?_;(case aP=>exact rfl);(case aB=>exact zb);(case aF=>exact(fun _ _=>trivial));(case aO=>exact(zR bi.out));(case aS=>exact(qF zb));(case aL=>have:=b6.out;omega);intro cP cD ho hb hg hat;rw[←b7.out] at ho;replace HB:=zz (hb);have aK:=zz (ho);clear bi;clear ho hb hg hat))
   replace aK:=zz (Kd.R_drew aK.out)
   replace HB:=zz (qK HB.out)
   have cQ:=yt (0≤(aa:Int))
   have cR:=yt (aa<(l0.length:Int))
   obtain⟨b8,cv,aM,aN,aQ,ar⟩:=at_T87 aX.out aa z2 z2
   have aR:=ar
   have ba:=aQ
   have bb:=aN
   have bc:=aM
   (try rw[←ac.out] at ar);(try rw[←ac.out] at aR)
   obtain rfl:ab=b8:=(by injection cv)
   replace aM:=z3 HB.out aM
   replace aN:=z3 HB.out aN
   replace aQ:=z3 HB.out aQ
   replace ar:=z3 HB.out ar
   have cS:=yt (0≤(aa:Int))
   have cT:=yt (aa<(l0.length:Int))
   obtain⟨b9,cw,aT,aU,aV,au⟩:=at_T87 aX.out aa z2 z2
   have aW:=au
   have bd:=aV
   have be:=aU
   have bf:=aT
   (try rw[←ac.out] at au);(try rw[←ac.out] at aW)
   obtain rfl:ab=b9:=(by injection cw)
   replace aT:=z3 HB.out aT
   replace aU:=z3 HB.out aU
   replace aV:=z3 HB.out aV
   replace au:=z3 HB.out au
   obtain⟨bF,bG,bW⟩:=Kd.qZ aK.out
   (first|subst bW|(injection bW with ax bk ay;have bl:=ax.symm;have bn:=ay.symm;clear ax bk ay;subst bl;subst bn))
   refine start_ (n:=14) (S:=fun w'=>w'.cell? (ab.add ((aa).toNat*4))=some (.string ((qA l0 aa).f0))∧w'.cell? ⟨(ab.add ((aa).toNat*4)).block,(ab.add ((aa).toNat*4)).off+1,none⟩=some (.int .i64 ((qA l0 aa).f1))∧w'.cell? ⟨(ab.add ((aa).toNat*4)).block,(ab.add ((aa).toNat*4)).off+2,none⟩=some (.string ((qA l0 aa).f2))∧w'.cell? ⟨(ab.add ((aa).toNat*4)).block,(ab.add ((aa).toNat*4)).off+3,none⟩=some (.bool (false))∧w'.cell? (ab.add ((aa).toNat*4))=some (.string ((qA l0 aa).f0))∧w'.cell? ⟨(ab.add ((aa).toNat*4)).block,(ab.add ((aa).toNat*4)).off+1,none⟩=some (.int .i64 ((qA l0 aa).f1))∧w'.cell? ⟨(ab.add ((aa).toNat*4)).block,(ab.add ((aa).toNat*4)).off+2,none⟩=some (.string ((qA l0 aa).f2))∧w'.cell? ⟨(ab.add ((aa).toNat*4)).block,(ab.add ((aa).toNat*4)).off+3,none⟩=some (.bool (false))) (ds:=[]) (bp 0 14) zk rfl rfl ⟨(z3 HB.out bc),(z3 HB.out bb),(z3 HB.out ba),(z3 HB.out aR),(z3 HB.out bf),(z3 HB.out be),(z3 HB.out bd),(z3 HB.out aW)⟩ (fun hHeld=>?_);refine with_tabW spec_PackTree.tab11 spec_PackTree.bits11 (fun HT_ HW_=>?_)
   generalize cD.drew=c6 at aK HB aM aN aQ ar aT aU aV au hHeld⊢
   refine zp 0 38 (bp 1 13) ?_
   refine zp 1 39 (bp 2 12) ?_
   refine zp 2 40 (bp 3 11) ?_
   refine zp 3 41 (bp 4 10) ?_
   refine zp 4 42 (bp 5 9) ?_
   refine zp 7 45 (bm 14 159) ?_
   refine zp 8 46 (bm 14 415) ?_
   refine zp 9 47 (bm 14 927) ?_
   refine zp 10 48 (bm 14 1951) ?_
   refine zt 5 43 (bm 14 1983) ?_
   refine zt 11 49 (bm 14 4031) ?_
   refine zo 6 44 (bp 12 2) fun K hK=>?_
   refine zh Tryz.func190 #[.slice bF bo.length bG,.string ((qA l0 aa).f0)] ?_
   with_reducible refine(spec_l10Text.calls k1 (fun k_=>some k_=(.slice bF bo.length bG:Value).ownBlock) (.slice bF bo.length bG) bo ((qA l0 aa).f0) aw w _ ?s1 ?s2 cB.out).mono ?_
   (case s1=>repeat(first|(with_reducible first|exact HB.out|apply qX|apply qW|apply qK)|exact HB.out))
   (case s2=>exact Kd.R_tight rfl aK.out)
   rintro e c7 ⟨cU,rfl,ah,hb,hkp⟩
   refine⟨_,rfl,?_⟩
   have bu:=zz (Kd.vC (ok':=fun k_=>True) ah (fun k_ hk_=>trivial))
   replace HB:=zz (hb)
   clear aK
   (try clear hb)
   (try clear hkp)
   (try clear ah)
   obtain⟨bH,bI,bX⟩:=Kd.qZ bu.out
   (first|subst bX|(injection bX with ax bk ay;have bl:=ax.symm;have bn:=ay.symm;clear ax bk ay;subst bl;subst bn))
   refine hK.out _ _ ⟨(z3 HB.out bc),(z3 HB.out bb),(z3 HB.out ba),(z3 HB.out aR),(z3 HB.out bf),(z3 HB.out be),(z3 HB.out bd),(z3 HB.out aW)⟩ (fun hHeld=>?_)
   clear hK K
   refine zn 44 ?_
   refine zo 12 50 (bp 13 1) fun K hK=>?_
   refine zh Tryz.func190 #[.slice bH aw.length bI,.string ((qA l0 aa).f2)] ?_
   with_reducible refine(spec_l10Text.calls k1 (fun k_=>some k_=(.slice bH aw.length bI:Value).ownBlock) (.slice bH aw.length bI) aw ((qA l0 aa).f2) a3 w _ ?s1 ?s2 cC.out).mono ?_
   (case s1=>repeat(first|(with_reducible first|exact HB.out|apply qX|apply qW|apply qK)|exact HB.out))
   (case s2=>exact Kd.R_tight rfl bu.out)
   rintro e c8 ⟨cV,rfl,ah,hb,hkp⟩
   refine⟨_,rfl,?_⟩
   have ca:=zz (Kd.vC (ok':=fun k_=>True) ah (fun k_ hk_=>trivial))
   replace HB:=zz (hb)
   clear bu
   (try clear hb)
   (try clear hkp)
   (try clear ah)
   refine hK.out _ _ ⟨(z3 HB.out bc),(z3 HB.out bb),(z3 HB.out ba),(z3 HB.out aR),(z3 HB.out bf),(z3 HB.out be),(z3 HB.out bd),(z3 HB.out aW)⟩ (fun hHeld=>?_)
   clear hK K
   refine zn 50 ?_
   refine zp 13 3 (bp 14 0) ?_
   refine done_ (done_of HT_.out zk) ?_
   try go_wp2
   go_roundg k1
   case measure=>have:=bK.out;omega
   case rel=>exact⟨(a3),(wrap64 (aa+1)),zr,H',⟨by have:=bK.out;omega⟩,⟨zR ca.out⟩,⟨zb⟩⟩
def spec_TreeSum.f(k:Nat)(l0:List (S87)):Option (ByteArray):=(spec_TreeOk.f k l0).bind fun aa=>(if aa=true then((spec_PackTree.f k l0).bind fun ab=>((spec_Sum.f k ab).bind fun ac=>((spec_Word32.f k ac).bind fun ad=>(some ad)))) else(some (⟨#[]⟩:ByteArray)))
theorem spec_TreeSum.calls(k:Nat)(A0:Option Addr)(c0:Nat)(l0:List (S87))(r:ByteArray)(w:World)(ad:Kd.C k87 w A0 l0.length l0)(ae:l0.length≤c0)(h:spec_TreeSum.f k l0=some r):
 Calls Tryz.prog 133 #[.slice A0 l0.length c0] w fun e w'=>e= .returned (.string r)∧Below w.heap.size w w':=by
 have aa:=zz ad
 have ac:=zz ae
 clear ad ae
 have HB:=yB w
 unfold spec_TreeSum.f at h
 have H:=h
 clear h
 replace HB:=HB.out
 have HW:=yB w
 go_enter Tryz.func133,Tryz.ntmps133
 replace H:=yf H
 obtain⟨al,A2,H⟩:=H
 refine yF H ?_ ?_<;>clear H<;>rintro rfl H
 ·go_wp2_with(fail)
  refine(spec_TreeOk.calls k _ _ _ _ _ (Kd.qB aa.out HB) ac.out A2.out).mono ?_
  rintro e ap ⟨rfl,hb⟩
  replace HB:=zv HB hb
  clear hb
  obtain rfl:=zi H
  exact yR
 go_wp2_with(fail)
 refine(spec_TreeOk.calls k _ _ _ _ _ (Kd.qB aa.out HB) ac.out A2.out).mono ?_
 rintro e w5 ⟨rfl,hb⟩
 replace HB:=zv HB hb
 clear hb
 replace H:=yf H
 obtain⟨am,A6,H⟩:=H
 go_wp2_with(fail)
 refine(spec_PackTree.calls k _ _ _ _ _ (Kd.qB aa.out HB) ac.out A6.out).mono ?_
 rintro e w7 ⟨ah,rfl,ab,hb⟩
 replace HB:=zv HB hb
 clear hb
 have hst:=HB
 replace HW:=zz (zv HW.out hst)
 replace aa:=zz (Kd.qB aa.out hst)
 clear hst
 replace HB:=Below.refl w7.heap.size w7
 obtain⟨aj,ak,rfl,hl_,hC_⟩:=Kd.R_reads ab
 have af:=zz hC_
 have ag:=zz hl_
 clear hl_ hC_ ab
 replace H:=yf H
 obtain⟨an,A9,H⟩:=H
 go_wp2_with(fail)
 refine(spec_Sum.calls k _ _ _ _ _ (Kd.qB af.out HB) ag.out A9.out).mono ?_
 rintro e ar ⟨rfl,hd⟩
 replace HB:=zv HB hd.below
 clear hd
 replace H:=yf H
 obtain⟨ao,ai,H⟩:=H
 go_wp2_with(fail)
 refine(spec_Word32.calls k _ _ _ ai.out).mono ?_
 rintro e au ⟨rfl,hb⟩
 replace HB:=zv HB hb
 clear hb
 obtain rfl:=zi H
 exact yR
end Go.Proofs.YtmdoobnlehkmpaaGreatDoor.Q
