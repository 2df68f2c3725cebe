import Derived.Test.YtcekmnclmldmmaaGreatDoorN09
import Derived.Test.YtcekmnclmldmmaaGreatDoorN07
set_option linter.unusedVariables false
set_option linter.unusedSimpArgs false
namespace Go.Proofs.YtcekmnclmldmmaaGreatDoor.Q
open Go.RowKit W1 W2 W3
attribute [local go_sem] max2_int min2_int max_two min_two max_three min_three max_four min_four
attribute [local go_sem high] bl_leq bl_gtr bl_geq
set_option maxHeartbeats 8000000
set_option maxRecDepth 100000
def spec_PackTree.l0:Nat→List (S96)→List Int→Int→Option (List Int)
 |0,_,_,_=>none
 |k+1,x0,x3,x4=>if x4<(x0.length:Int) then(if 0≤x4 then(if(qA x0 x4).f3=true then(if x3.length<140737488355328 then((spec_l10Text.f k (x3++[(wrap64 (((qA x0 x4).f1)+16)) % 256]) ((qA x0 x4).f0)).bind fun t347=>((spec_l10Text.f k t347 ((qA x0 x4).f2)).bind fun t351=>(spec_PackTree.l0 k x0 t351 (wrap64 (x4+1))))) else(none)) else(if x3.length<140737488355328 then((spec_l10Text.f k (x3++[((qA x0 x4).f1) % 256]) ((qA x0 x4).f0)).bind fun t358=>((spec_l10Text.f k t358 ((qA x0 x4).f2)).bind fun t362=>(spec_PackTree.l0 k x0 t362 (wrap64 (x4+1))))) else(none))) else(none)) else(some x3)
def spec_PackTree.f(k:Nat)(l0:List (S96)):Option (List Int):=(spec_TreeOk.f k l0).bind fun t331=>(if t331=true then((spec_l10Num.f k (([76,65,82,49]:List Int)) (l0.length:Int)).bind fun t338=>(spec_PackTree.l0 k l0 t338 0)) else(some (([]:List Int))))
def spec_PackTree.T11:Bool×List (List Nat×List Nat):=(true,[([],[]),([],[]),([],[]),([1,2],[1,2]),([3],[3]),([4],[4]),([0,5],[0,5]),([],[]),([],[]),([7,8],[7,8]),([9],[9]),([10],[10]),([6,11,6],[6,11]),([12,12,0,1,2,3,4,5,6,7,8,9,10,11,12],[0,12])])
def spec_PackTree.B11:List Nat:=[0,0,0,6,14,30,63,0,0,384,896,1920,4095,8191]
theorem spec_PackTree.tab11:rtab .any (opsOf Tryz.f140 11)=spec_PackTree.T11:=by kernel_rfl
theorem spec_PackTree.bits11:waitsOk spec_PackTree.T11.2 spec_PackTree.B11=true:=by kernel_rfl
theorem spec_PackTree.calls(k:Nat)(A0:Option Addr)(c0:Nat)(l0:List (S96))(r:List Int)(w:World)(hr0:Kd.C k96 w A0 l0.length l0)(hc0:l0.length≤c0)(h:spec_PackTree.f k l0=some r):
 Calls Tryz.prog 140 #[.slice A0 l0.length c0] w fun e w'=>∃v0_:Value,e= .returned (v0_)∧Kd.R (Kd.int .u8) 5 w' w.heap.size (fun _=>True) v0_ r∧Below w.heap.size w w':=by
 have HR0:=zz hr0
 have HC0:=zz hc0
 clear hr0 hc0
 have HB:=zz (Below.refl w.heap.size w)
 unfold spec_PackTree.f at h
 have H:=h
 clear h
 replace H:=zf H
 obtain⟨t331,A20,H⟩:=H
 try dsimp only at H
 have A2:=zz A20
 clear A20
 by_cases c3:t331=true
 case neg=>
  replace c3:=Bool.eq_false_iff.mpr c3
  subst c3
  rw[if_neg (show¬(false=true) by decide)] at H
  obtain⟨y332,hy332⟩:∃y_:List Int,y_=(([]:List Int)):=⟨_,rfl⟩
  replace H:(some y332)=some r:=by first|(rw[hy332];with_reducible exact H)|(have H2_:=(Option.bind_some _ _).symm.trans H;rw[hy332];with_reducible exact H2_)|(have H2_:=(Option.bind_some _ _).symm.trans H;with_reducible exact H2_)|with_reducible exact H|(rw[hy332];exact H)|exact H
  have Ny332:=zz hy332
  clear hy332
  obtain rfl:=zi H
  go_enter Tryz.func140,Tryz.ntmps140
  go_wp2_with(first|(refine zL 81 7 Tryz.func81 #[.slice A0 l0.length c0] ?_;(with_reducible refine(spec_TreeOk.calls k _ _ l0 false _ ?s1 ?s2 A2.out).mono ?_);(case s1=>exact zd HR0.out);(case s2=>exact HC0.out);rintro e w32 ⟨rfl,hb⟩;refine⟨_,rfl,?_⟩;replace HB:=zz (zv zb hb);(try clear hb);(try clear hb2);(try clear hk);(try clear hi))|(refine zN 9 ?_;refine Kd.R_lit (Kd.int .u8) _ 5 ?hg (N:=9) ?hd (xs:=([]:List Int)) (inner:=[]) (ok:=fun _=>True) (okp:=fun _=>True) ?hr ?hp (fun _ hk=>hk) trivial (Below.refl _ _) (Nat.le_refl _) (by simp) ?_;(case hd=>rfl);(case hg=>rfl);(case hr=>first|(go_simp;done)|(go_simp;rfl));(case hp=>exact(Reps.none _ _));intro v333 w33 ho34 hb hg_ hnew_;clear hg_ hnew_;(first|rw[←Ny332.out] at ho34|(simp only[Int.reduceToNat] at ho34;rw[←Ny332.out] at ho34));have HO334:=zz (Kd.vH ho34 (qG zb));replace HB:=zz (zv zb hb);clear hb ho34))
  go_ret
  exact⟨_,ze,by(with_reducible repeat(first|apply Kd.qU|apply Kd.qT|apply Kd.qX));exact HO334.out,zb⟩
 subst c3
 rw[if_pos rfl] at H
 obtain⟨y335,hy335⟩:∃y_:List Int,y_=(([76,65,82,49]:List Int)):=⟨_,rfl⟩
 replace H:((spec_l10Num.f k y335 (l0.length:Int)).bind fun t338=>(spec_PackTree.l0 k l0 t338 0))=some r:=by first|(rw[hy335];with_reducible exact H)|(have H2_:=(Option.bind_some _ _).symm.trans H;rw[hy335];with_reducible exact H2_)|(have H2_:=(Option.bind_some _ _).symm.trans H;with_reducible exact H2_)|with_reducible exact H|(rw[hy335];exact H)|exact H
 have Ny335:=zz hy335
 clear hy335
 replace H:=zf H
 obtain⟨t338,A40,H⟩:=H
 try dsimp only at H
 have A4:=zz A40
 clear A40
 have H':=zz H
 clear H
 go_enter Tryz.func140,Tryz.ntmps140
 go_wp2_with(first|(refine zL 81 7 Tryz.func81 #[.slice A0 l0.length c0] ?_;(with_reducible refine(spec_TreeOk.calls k _ _ l0 true _ ?s1 ?s2 A2.out).mono ?_);(case s1=>exact zd HR0.out);(case s2=>exact HC0.out);rintro e w5 ⟨rfl,hb⟩;refine⟨_,rfl,?_⟩;replace HB:=zz (zv zb hb);(try clear hb);(try clear hb2);(try clear hk);(try clear hi))|(refine zN 10 ?_;refine lar_event ?hg (N:=10) ?hd (cs:= #[.int .u8 76,.int .u8 65,.int .u8 82,.int .u8 49]) (t:=5) ?hr ?_;(case hd=>rfl);(case hg=>rfl);(case hr=>first|(go_simp;done)|(go_simp;rfl));intro gl hgl w6 hlb hb;have n1_:=zz (zv zb hb);have hgl2:=zz (Nat.le_trans (qG zb) hgl);have hlb2:=zz hlb;clear HB hb hgl hlb;have HB:=n1_;clear n1_)|(refine zN 11 ?_;refine mark_event rfl rfl Tryz.underlying133 Tryz.underlying5 (g:=gl) rfl hlb2.out ?_;intro w7 hlc hb;have n1_:=zz (HB.out.trans (hb.mono hgl2.out));have hT:=zz (show RT 5 w.heap.size w7 (.slice (some ⟨gl,0,none⟩) 4 4) y335 by rw[Ny335.out];exact .inr ⟨gl,rfl,_,_,_,hlc,rfl⟩);clear HB hb hlc hlb2;have HB:=n1_;clear n1_)|(refine zL 158 14 Tryz.func158 #[.slice (some ⟨gl,0,none⟩) 4 4,.int .i64 (l0.length:Int)] ?_;(with_reducible refine(spec_l10Num.lar k _ y335 _ _ w _ HB.out hT.out A4.out).mono ?_);rintro e w9 ⟨v190,rfl,ho0,hb⟩;refine⟨_,rfl,?_⟩;have n0_:=zz ho0;have n1_:=zz hb;clear HB;have HO340:=n0_;have HB:=n1_;clear n0_ n1_ hb ho0))
 go_loopg[3,4] k (fun kq v3 v4 w'=>∃(x3_1:List Int) (x4_1:Int),v4= .int .i64 x4_1∧qB (spec_PackTree.l0 kq l0 x3_1 x4_1=some r)∧qB (kq≤k)∧qB (Kd.R (Kd.int .u8) 5 w' w.heap.size (fun _=>True) v3 x3_1)∧qB (Below w.heap.size w w'))
 case atStart=>exact⟨(t338),(0),zr,H',⟨Nat.le_refl _⟩,⟨by(with_reducible repeat(first|apply Kd.qU|apply Kd.qT|apply Kd.qX));exact HO340.out⟩,⟨zb⟩⟩
 case round=>
  clear H'
  try clear c1
  try clear p2
  try clear c3
  try clear c8
  obtain⟨x3_1,x4_1,rfl,HA,HK1,HO_3,HB⟩:=hrel
  cases gk with
  |zero=>exact absurd HA.out (by simp[spec_PackTree.l0])
  |succ k1=>
   have H:=HA.out
   clear HA
   simp only[spec_PackTree.l0] at H
   by_cases c10:x4_1<(l0.length:Int)
   case neg=>
    rw[if_neg c10] at H
    have c10b0:=z0 c10
    clear c10
    obtain rfl:=zi H
    go_wp2
    go_ret
    exact⟨_,ze,by(with_reducible repeat(first|apply Kd.qU|apply Kd.qT|apply Kd.qX));exact HO_3.out,zb⟩
   rw[if_pos c10] at H
   have c10b0:=z1 c10
   clear c10
   by_cases c11:0≤x4_1
   case neg=>exact zno H c11
   rw[if_pos c11] at H
   have c11b0:=z1 c11
   clear c11
   obtain⟨bq12,hbq12⟩:∃b_:Bool,b_=((qA l0 x4_1).f3):=⟨_,rfl⟩
   replace H:(if bq12=true then(if x3_1.length<140737488355328 then((spec_l10Text.f k1 (x3_1++[(wrap64 (((qA l0 x4_1).f1)+16)) % 256]) ((qA l0 x4_1).f0)).bind fun t347=>((spec_l10Text.f k1 t347 ((qA l0 x4_1).f2)).bind fun t351=>(spec_PackTree.l0 k1 l0 t351 (wrap64 (x4_1+1))))) else(none)) else(if x3_1.length<140737488355328 then((spec_l10Text.f k1 (x3_1++[((qA l0 x4_1).f1) % 256]) ((qA l0 x4_1).f0)).bind fun t358=>((spec_l10Text.f k1 t358 ((qA l0 x4_1).f2)).bind fun t362=>(spec_PackTree.l0 k1 l0 t362 (wrap64 (x4_1+1))))) else(none)))=some r:=by rw[←hbq12] at H;exact H
   have Nbq12:=zz hbq12
   clear hbq12
   by_cases c13:bq12=true
   ·subst c13
    rw[if_pos rfl] at H
    by_cases c14:x3_1.length<140737488355328
    case neg=>exact zno H c14
    rw[if_pos c14] at H
    have LMc14:=zz c14
    clear c14
    obtain⟨y343,hy343⟩:∃y_:List Int,y_=(x3_1++[(wrap64 (((qA l0 x4_1).f1)+16)) % 256]):=⟨_,rfl⟩
    replace H:((spec_l10Text.f k1 y343 ((qA l0 x4_1).f0)).bind fun t347=>((spec_l10Text.f k1 t347 ((qA l0 x4_1).f2)).bind fun t351=>(spec_PackTree.l0 k1 l0 t351 (wrap64 (x4_1+1)))))=some r:=by first|(rw[hy343];with_reducible exact H)|(have H2_:=(Option.bind_some _ _).symm.trans H;rw[hy343];with_reducible exact H2_)|(have H2_:=(Option.bind_some _ _).symm.trans H;with_reducible exact H2_)|with_reducible exact H|(rw[hy343];exact H)|exact H
    have Ny343:=zz hy343
    clear hy343
    replace H:=zf H
    obtain⟨t347,A150,H⟩:=H
    try dsimp only at H
    have A15:=zz A150
    clear A150
    replace H:=zf H
    obtain⟨t351,A160,H⟩:=H
    try dsimp only at H
    have A16:=zz A160
    clear A160
    have H':=zz H
    clear H
    have p341:0≤(x4_1:Int):=z2
    have q341:x4_1<(l0.length:Int):=z2
    obtain⟨ad341,e341,hx341_0,hx341_1,hx341_2,hx341_3⟩:=at_T96 HR0.out x4_1 p341 q341
    (try rw[←Nbq12.out] at hx341_3);(try rw[←Nbq12.out] at hw341_3)
    cases e341
    replace hx341_0:=z3 HB.out hx341_0
    replace hx341_1:=z3 HB.out hx341_1
    replace hx341_2:=z3 HB.out hx341_2
    replace hx341_3:=z3 HB.out hx341_3
    replace p341:=eq_true p341
    replace q341:=eq_true q341
    have p342:0≤(x4_1:Int):=z2
    have q342:x4_1<(l0.length:Int):=z2
    obtain⟨ad342,e342,hx342_0,hx342_1,hx342_2,hx342_3⟩:=at_T96 HR0.out x4_1 p342 q342
    (try rw[←Nbq12.out] at hx342_3);(try rw[←Nbq12.out] at hw342_3)
    obtain rfl:ad341=ad342:=(by injection e342)
    replace hx342_0:=z3 HB.out hx342_0
    replace hx342_1:=z3 HB.out hx342_1
    replace hx342_2:=z3 HB.out hx342_2
    replace hx342_3:=z3 HB.out hx342_3
    replace p342:=eq_true p342
    replace q342:=eq_true q342
    try go_wp2_with(first|((with_reducible refine vJ (b:= .append) (xs:= #[.tmp 33,.tmp 36]) rfl ?_);at_builtin;refine Kd.R_append (Kd.int .u8) (w0:=w) w.heap.size rfl (.tmp 33) (.tmp 36) 133 5 (.int .u8 0) 1 rfl Tryz.underlying133 info5 rfl (by decide) (by omega) u3 x3_1 ((wrap64 (((qA l0 x4_1).f1)+16)) % 256) [.int .u8 ((wrap64 (((qA l0 x4_1).f1)+16)) % 256)] (fun _=>True) (fun _=>False) rfl rfl ?aP (fun _ hk=>hk.elim) ?aF ?aO ?aB ?aS ?aL ?_;(case aP=>exact rfl);(case aB=>exact zb);(case aF=>exact(fun _ _=>trivial));(case aO=>exact(zR HO_3.out));(case aS=>exact(qG zb));(case aL=>have:=LMc14.out;omega);intro v344 w17 ho hb hg hat;rw[←Ny343.out] at ho;replace HB:=zz (hb);have HO345:=zz (ho);clear HO_3;clear ho hb hg hat))
    replace HO345:=zz (Kd.qX HO345.out)
    replace HB:=zz (qQ HB.out)
    have p346:0≤(x4_1:Int):=z2
    have q346:x4_1<(l0.length:Int):=z2
    obtain⟨ad346,e346,hx346_0,hx346_1,hx346_2,hx346_3⟩:=at_T96 HR0.out x4_1 p346 q346
    have hw346_3:=hx346_3
    have hw346_2:=hx346_2
    have hw346_1:=hx346_1
    have hw346_0:=hx346_0
    (try rw[←Nbq12.out] at hx346_3);(try rw[←Nbq12.out] at hw346_3)
    obtain rfl:ad341=ad346:=(by injection e346)
    replace hx346_0:=z3 HB.out hx346_0
    replace hx346_1:=z3 HB.out hx346_1
    replace hx346_2:=z3 HB.out hx346_2
    replace hx346_3:=z3 HB.out hx346_3
    replace p346:=eq_true p346
    replace q346:=eq_true q346
    have p350:0≤(x4_1:Int):=z2
    have q350:x4_1<(l0.length:Int):=z2
    obtain⟨ad350,e350,hx350_0,hx350_1,hx350_2,hx350_3⟩:=at_T96 HR0.out x4_1 p350 q350
    have hw350_3:=hx350_3
    have hw350_2:=hx350_2
    have hw350_1:=hx350_1
    have hw350_0:=hx350_0
    (try rw[←Nbq12.out] at hx350_3);(try rw[←Nbq12.out] at hw350_3)
    obtain rfl:ad341=ad350:=(by injection e350)
    replace hx350_0:=z3 HB.out hx350_0
    replace hx350_1:=z3 HB.out hx350_1
    replace hx350_2:=z3 HB.out hx350_2
    replace hx350_3:=z3 HB.out hx350_3
    replace p350:=eq_true p350
    replace q350:=eq_true q350
    obtain⟨Ao19,co19,eo19⟩:=Kd.vG HO345.out
    (first|subst eo19|(injection eo19 with f1_ f2_ f3_;have f4_:=f1_.symm;have f5_:=f3_.symm;clear f1_ f2_ f3_;subst f4_;subst f5_))
    refine start_ (n:=14) (S:=fun w'=>w'.cell? (ad341.add ((x4_1).toNat*4))=some (.string ((qA l0 x4_1).f0))∧w'.cell? ⟨(ad341.add ((x4_1).toNat*4)).block,(ad341.add ((x4_1).toNat*4)).off+1,none⟩=some (.int .i64 ((qA l0 x4_1).f1))∧w'.cell? ⟨(ad341.add ((x4_1).toNat*4)).block,(ad341.add ((x4_1).toNat*4)).off+2,none⟩=some (.string ((qA l0 x4_1).f2))∧w'.cell? ⟨(ad341.add ((x4_1).toNat*4)).block,(ad341.add ((x4_1).toNat*4)).off+3,none⟩=some (.bool (true))∧w'.cell? (ad341.add ((x4_1).toNat*4))=some (.string ((qA l0 x4_1).f0))∧w'.cell? ⟨(ad341.add ((x4_1).toNat*4)).block,(ad341.add ((x4_1).toNat*4)).off+1,none⟩=some (.int .i64 ((qA l0 x4_1).f1))∧w'.cell? ⟨(ad341.add ((x4_1).toNat*4)).block,(ad341.add ((x4_1).toNat*4)).off+2,none⟩=some (.string ((qA l0 x4_1).f2))∧w'.cell? ⟨(ad341.add ((x4_1).toNat*4)).block,(ad341.add ((x4_1).toNat*4)).off+3,none⟩=some (.bool (true))) (ds:=[]) (bp 0 14) zk rfl rfl ⟨(z3 HB.out hw346_0),(z3 HB.out hw346_1),(z3 HB.out hw346_2),(z3 HB.out hw346_3),(z3 HB.out hw350_0),(z3 HB.out hw350_1),(z3 HB.out hw350_2),(z3 HB.out hw350_3)⟩ (fun hHeld=>?_);refine with_tabW spec_PackTree.tab11 spec_PackTree.bits11 (fun HT_ HW_=>?_)
    generalize w17.drew=w18 at HO345 HB hx346_0 hx346_1 hx346_2 hx346_3 hx350_0 hx350_1 hx350_2 hx350_3 hHeld⊢
    refine zp 0 38 (bp 1 13) ?_
    refine zp 1 39 (bp 2 12) ?_
    refine zp 2 40 (bp 3 11) ?_
    refine zp 3 41 (bp 4 10) ?_
    refine zp 4 42 (bp 5 9) ?_
    refine zp 7 45 (bm 14 159) ?_
    refine zp 8 46 (bm 14 415) ?_
    refine zp 9 47 (bm 14 927) ?_
    refine zp 10 48 (bm 14 1951) ?_
    refine zt 5 43 (bm 14 1983) ?_
    refine zt 11 49 (bm 14 4031) ?_
    refine zo 6 44 (bp 12 2) fun K hK=>?_
    refine zh Tryz.func159 #[.slice Ao19 y343.length co19,.string ((qA l0 x4_1).f0)] ?_
    with_reducible refine(spec_l10Text.calls k1 (fun k_=>some k_=(.slice Ao19 y343.length co19:Value).ownBlock) (.slice Ao19 y343.length co19) y343 ((qA l0 x4_1).f0) t347 w _ ?s1 ?s2 A15.out).mono ?_
    (case s1=>repeat(first|(with_reducible first|exact HB.out|apply vA|apply qZ|apply qQ)|exact HB.out))
    (case s2=>exact Kd.R_tight rfl HO345.out)
    rintro e w20 ⟨v348,rfl,ho0,hb,hkp⟩
    refine⟨_,rfl,?_⟩
    have HO349:=zz (Kd.vF (ok':=fun k_=>True) ho0 (fun k_ hk_=>trivial))
    replace HB:=zz (hb)
    clear HO345
    (try clear hb)
    (try clear hkp)
    (try clear ho0)
    obtain⟨Ao21,co21,eo21⟩:=Kd.vG HO349.out
    (first|subst eo21|(injection eo21 with f1_ f2_ f3_;have f4_:=f1_.symm;have f5_:=f3_.symm;clear f1_ f2_ f3_;subst f4_;subst f5_))
    refine hK.out _ _ ⟨(z3 HB.out hw346_0),(z3 HB.out hw346_1),(z3 HB.out hw346_2),(z3 HB.out hw346_3),(z3 HB.out hw350_0),(z3 HB.out hw350_1),(z3 HB.out hw350_2),(z3 HB.out hw350_3)⟩ (fun hHeld=>?_)
    clear hK K
    refine zn 44 ?_
    refine zo 12 50 (bp 13 1) fun K hK=>?_
    refine zh Tryz.func159 #[.slice Ao21 t347.length co21,.string ((qA l0 x4_1).f2)] ?_
    with_reducible refine(spec_l10Text.calls k1 (fun k_=>some k_=(.slice Ao21 t347.length co21:Value).ownBlock) (.slice Ao21 t347.length co21) t347 ((qA l0 x4_1).f2) t351 w _ ?s1 ?s2 A16.out).mono ?_
    (case s1=>repeat(first|(with_reducible first|exact HB.out|apply vA|apply qZ|apply qQ)|exact HB.out))
    (case s2=>exact Kd.R_tight rfl HO349.out)
    rintro e w22 ⟨v352,rfl,ho0,hb,hkp⟩
    refine⟨_,rfl,?_⟩
    have HO353:=zz (Kd.vF (ok':=fun k_=>True) ho0 (fun k_ hk_=>trivial))
    replace HB:=zz (hb)
    clear HO349
    (try clear hb)
    (try clear hkp)
    (try clear ho0)
    refine hK.out _ _ ⟨(z3 HB.out hw346_0),(z3 HB.out hw346_1),(z3 HB.out hw346_2),(z3 HB.out hw346_3),(z3 HB.out hw350_0),(z3 HB.out hw350_1),(z3 HB.out hw350_2),(z3 HB.out hw350_3)⟩ (fun hHeld=>?_)
    clear hK K
    refine zn 50 ?_
    refine zp 13 3 (bp 14 0) ?_
    refine done_ (done_of HT_.out zk) ?_
    try go_wp2
    go_roundg k1
    case measure=>have:=HK1.out;omega
    case rel=>exact⟨(t351),(wrap64 (x4_1+1)),zr,H',⟨by have:=HK1.out;omega⟩,⟨by(with_reducible repeat(first|apply Kd.qU|apply Kd.qT|apply Kd.qX));exact HO353.out⟩,⟨zb⟩⟩
   replace c13:=Bool.eq_false_iff.mpr c13
   subst c13
   rw[if_neg (show¬(false=true) by decide)] at H
   by_cases c23:x3_1.length<140737488355328
   case neg=>exact zno H c23
   rw[if_pos c23] at H
   have LMc23:=zz c23
   clear c23
   obtain⟨y354,hy354⟩:∃y_:List Int,y_=(x3_1++[((qA l0 x4_1).f1) % 256]):=⟨_,rfl⟩
   replace H:((spec_l10Text.f k1 y354 ((qA l0 x4_1).f0)).bind fun t358=>((spec_l10Text.f k1 t358 ((qA l0 x4_1).f2)).bind fun t362=>(spec_PackTree.l0 k1 l0 t362 (wrap64 (x4_1+1)))))=some r:=by first|(rw[hy354];with_reducible exact H)|(have H2_:=(Option.bind_some _ _).symm.trans H;rw[hy354];with_reducible exact H2_)|(have H2_:=(Option.bind_some _ _).symm.trans H;with_reducible exact H2_)|with_reducible exact H|(rw[hy354];exact H)|exact H
   have Ny354:=zz hy354
   clear hy354
   replace H:=zf H
   obtain⟨t358,A240,H⟩:=H
   try dsimp only at H
   have A24:=zz A240
   clear A240
   replace H:=zf H
   obtain⟨t362,A250,H⟩:=H
   try dsimp only at H
   have A25:=zz A250
   clear A250
   have H':=zz H
   clear H
   have p341:0≤(x4_1:Int):=z2
   have q341:x4_1<(l0.length:Int):=z2
   obtain⟨ad341,e341,hx341_0,hx341_1,hx341_2,hx341_3⟩:=at_T96 HR0.out x4_1 p341 q341
   (try rw[←Nbq12.out] at hx341_3);(try rw[←Nbq12.out] at hw341_3)
   cases e341
   replace hx341_0:=z3 HB.out hx341_0
   replace hx341_1:=z3 HB.out hx341_1
   replace hx341_2:=z3 HB.out hx341_2
   replace hx341_3:=z3 HB.out hx341_3
   replace p341:=eq_true p341
   replace q341:=eq_true q341
   have p342:0≤(x4_1:Int):=z2
   have q342:x4_1<(l0.length:Int):=z2
   obtain⟨ad342,e342,hx342_0,hx342_1,hx342_2,hx342_3⟩:=at_T96 HR0.out x4_1 p342 q342
   (try rw[←Nbq12.out] at hx342_3);(try rw[←Nbq12.out] at hw342_3)
   obtain rfl:ad341=ad342:=(by injection e342)
   replace hx342_0:=z3 HB.out hx342_0
   replace hx342_1:=z3 HB.out hx342_1
   replace hx342_2:=z3 HB.out hx342_2
   replace hx342_3:=z3 HB.out hx342_3
   replace p342:=eq_true p342
   replace q342:=eq_true q342
   try go_wp2_with(first|((with_reducible refine vJ (b:= .append) (xs:= #[.tmp 33,.tmp 36]) rfl ?_);at_builtin;refine Kd.R_append (Kd.int .u8) (w0:=w) w.heap.size rfl (.tmp 33) (.tmp 36) 133 5 (.int .u8 0) 1 rfl Tryz.underlying133 info5 rfl (by decide) (by omega) u3 x3_1 (((qA l0 x4_1).f1) % 256) [.int .u8 (((qA l0 x4_1).f1) % 256)] (fun _=>True) (fun _=>False) rfl rfl ?aP (fun _ hk=>hk.elim) ?aF ?aO ?aB ?aS ?aL ?_;(case aP=>exact rfl);(case aB=>exact zb);(case aF=>exact(fun _ _=>trivial));(case aO=>exact(zR HO_3.out));(case aS=>exact(qG zb));(case aL=>have:=LMc23.out;omega);intro v355 w26 ho hb hg hat;rw[←Ny354.out] at ho;replace HB:=zz (hb);have HO356:=zz (ho);clear HO_3;clear ho hb hg hat))
   replace HO356:=zz (Kd.qX HO356.out)
   replace HB:=zz (qQ HB.out)
   have p357:0≤(x4_1:Int):=z2
   have q357:x4_1<(l0.length:Int):=z2
   obtain⟨ad357,e357,hx357_0,hx357_1,hx357_2,hx357_3⟩:=at_T96 HR0.out x4_1 p357 q357
   have hw357_3:=hx357_3
   have hw357_2:=hx357_2
   have hw357_1:=hx357_1
   have hw357_0:=hx357_0
   (try rw[←Nbq12.out] at hx357_3);(try rw[←Nbq12.out] at hw357_3)
   obtain rfl:ad341=ad357:=(by injection e357)
   replace hx357_0:=z3 HB.out hx357_0
   replace hx357_1:=z3 HB.out hx357_1
   replace hx357_2:=z3 HB.out hx357_2
   replace hx357_3:=z3 HB.out hx357_3
   replace p357:=eq_true p357
   replace q357:=eq_true q357
   have p361:0≤(x4_1:Int):=z2
   have q361:x4_1<(l0.length:Int):=z2
   obtain⟨ad361,e361,hx361_0,hx361_1,hx361_2,hx361_3⟩:=at_T96 HR0.out x4_1 p361 q361
   have hw361_3:=hx361_3
   have hw361_2:=hx361_2
   have hw361_1:=hx361_1
   have hw361_0:=hx361_0
   (try rw[←Nbq12.out] at hx361_3);(try rw[←Nbq12.out] at hw361_3)
   obtain rfl:ad341=ad361:=(by injection e361)
   replace hx361_0:=z3 HB.out hx361_0
   replace hx361_1:=z3 HB.out hx361_1
   replace hx361_2:=z3 HB.out hx361_2
   replace hx361_3:=z3 HB.out hx361_3
   replace p361:=eq_true p361
   replace q361:=eq_true q361
   obtain⟨Ao28,co28,eo28⟩:=Kd.vG HO356.out
   (first|subst eo28|(injection eo28 with f1_ f2_ f3_;have f4_:=f1_.symm;have f5_:=f3_.symm;clear f1_ f2_ f3_;subst f4_;subst f5_))
   refine start_ (n:=14) (S:=fun w'=>w'.cell? (ad341.add ((x4_1).toNat*4))=some (.string ((qA l0 x4_1).f0))∧w'.cell? ⟨(ad341.add ((x4_1).toNat*4)).block,(ad341.add ((x4_1).toNat*4)).off+1,none⟩=some (.int .i64 ((qA l0 x4_1).f1))∧w'.cell? ⟨(ad341.add ((x4_1).toNat*4)).block,(ad341.add ((x4_1).toNat*4)).off+2,none⟩=some (.string ((qA l0 x4_1).f2))∧w'.cell? ⟨(ad341.add ((x4_1).toNat*4)).block,(ad341.add ((x4_1).toNat*4)).off+3,none⟩=some (.bool (false))∧w'.cell? (ad341.add ((x4_1).toNat*4))=some (.string ((qA l0 x4_1).f0))∧w'.cell? ⟨(ad341.add ((x4_1).toNat*4)).block,(ad341.add ((x4_1).toNat*4)).off+1,none⟩=some (.int .i64 ((qA l0 x4_1).f1))∧w'.cell? ⟨(ad341.add ((x4_1).toNat*4)).block,(ad341.add ((x4_1).toNat*4)).off+2,none⟩=some (.string ((qA l0 x4_1).f2))∧w'.cell? ⟨(ad341.add ((x4_1).toNat*4)).block,(ad341.add ((x4_1).toNat*4)).off+3,none⟩=some (.bool (false))) (ds:=[]) (bp 0 14) zk rfl rfl ⟨(z3 HB.out hw357_0),(z3 HB.out hw357_1),(z3 HB.out hw357_2),(z3 HB.out hw357_3),(z3 HB.out hw361_0),(z3 HB.out hw361_1),(z3 HB.out hw361_2),(z3 HB.out hw361_3)⟩ (fun hHeld=>?_);refine with_tabW spec_PackTree.tab11 spec_PackTree.bits11 (fun HT_ HW_=>?_)
   generalize w26.drew=w27 at HO356 HB hx357_0 hx357_1 hx357_2 hx357_3 hx361_0 hx361_1 hx361_2 hx361_3 hHeld⊢
   refine zp 0 38 (bp 1 13) ?_
   refine zp 1 39 (bp 2 12) ?_
   refine zp 2 40 (bp 3 11) ?_
   refine zp 3 41 (bp 4 10) ?_
   refine zp 4 42 (bp 5 9) ?_
   refine zp 7 45 (bm 14 159) ?_
   refine zp 8 46 (bm 14 415) ?_
   refine zp 9 47 (bm 14 927) ?_
   refine zp 10 48 (bm 14 1951) ?_
   refine zt 5 43 (bm 14 1983) ?_
   refine zt 11 49 (bm 14 4031) ?_
   refine zo 6 44 (bp 12 2) fun K hK=>?_
   refine zh Tryz.func159 #[.slice Ao28 y354.length co28,.string ((qA l0 x4_1).f0)] ?_
   with_reducible refine(spec_l10Text.calls k1 (fun k_=>some k_=(.slice Ao28 y354.length co28:Value).ownBlock) (.slice Ao28 y354.length co28) y354 ((qA l0 x4_1).f0) t358 w _ ?s1 ?s2 A24.out).mono ?_
   (case s1=>repeat(first|(with_reducible first|exact HB.out|apply vA|apply qZ|apply qQ)|exact HB.out))
   (case s2=>exact Kd.R_tight rfl HO356.out)
   rintro e w29 ⟨v359,rfl,ho0,hb,hkp⟩
   refine⟨_,rfl,?_⟩
   have HO360:=zz (Kd.vF (ok':=fun k_=>True) ho0 (fun k_ hk_=>trivial))
   replace HB:=zz (hb)
   clear HO356
   (try clear hb)
   (try clear hkp)
   (try clear ho0)
   obtain⟨Ao30,co30,eo30⟩:=Kd.vG HO360.out
   (first|subst eo30|(injection eo30 with f1_ f2_ f3_;have f4_:=f1_.symm;have f5_:=f3_.symm;clear f1_ f2_ f3_;subst f4_;subst f5_))
   refine hK.out _ _ ⟨(z3 HB.out hw357_0),(z3 HB.out hw357_1),(z3 HB.out hw357_2),(z3 HB.out hw357_3),(z3 HB.out hw361_0),(z3 HB.out hw361_1),(z3 HB.out hw361_2),(z3 HB.out hw361_3)⟩ (fun hHeld=>?_)
   clear hK K
   refine zn 44 ?_
   refine zo 12 50 (bp 13 1) fun K hK=>?_
   refine zh Tryz.func159 #[.slice Ao30 t358.length co30,.string ((qA l0 x4_1).f2)] ?_
   with_reducible refine(spec_l10Text.calls k1 (fun k_=>some k_=(.slice Ao30 t358.length co30:Value).ownBlock) (.slice Ao30 t358.length co30) t358 ((qA l0 x4_1).f2) t362 w _ ?s1 ?s2 A25.out).mono ?_
   (case s1=>repeat(first|(with_reducible first|exact HB.out|apply vA|apply qZ|apply qQ)|exact HB.out))
   (case s2=>exact Kd.R_tight rfl HO360.out)
   rintro e w31 ⟨v363,rfl,ho0,hb,hkp⟩
   refine⟨_,rfl,?_⟩
   have HO364:=zz (Kd.vF (ok':=fun k_=>True) ho0 (fun k_ hk_=>trivial))
   replace HB:=zz (hb)
   clear HO360
   (try clear hb)
   (try clear hkp)
   (try clear ho0)
   refine hK.out _ _ ⟨(z3 HB.out hw357_0),(z3 HB.out hw357_1),(z3 HB.out hw357_2),(z3 HB.out hw357_3),(z3 HB.out hw361_0),(z3 HB.out hw361_1),(z3 HB.out hw361_2),(z3 HB.out hw361_3)⟩ (fun hHeld=>?_)
   clear hK K
   refine zn 50 ?_
   refine zp 13 3 (bp 14 0) ?_
   refine done_ (done_of HT_.out zk) ?_
   try go_wp2
   go_roundg k1
   case measure=>have:=HK1.out;omega
   case rel=>exact⟨(t362),(wrap64 (x4_1+1)),zr,H',⟨by have:=HK1.out;omega⟩,⟨by(with_reducible repeat(first|apply Kd.qU|apply Kd.qT|apply Kd.qX));exact HO364.out⟩,⟨zb⟩⟩
def spec_TreeSum.f(k:Nat)(l0:List (S96)):Option (ByteArray):=(spec_TreeOk.f k l0).bind fun t365=>(if t365=true then((spec_PackTree.f k l0).bind fun t366=>((spec_Sum.f k t366).bind fun t369=>((spec_Word32.f k t369).bind fun t370=>(some t370)))) else(some (⟨#[]⟩:ByteArray)))
theorem spec_TreeSum.calls(k:Nat)(A0:Option Addr)(c0:Nat)(l0:List (S96))(r:ByteArray)(w:World)(hr0:Kd.C k96 w A0 l0.length l0)(hc0:l0.length≤c0)(h:spec_TreeSum.f k l0=some r):
 Calls Tryz.prog 116 #[.slice A0 l0.length c0] w fun e w'=>e= .returned (.string r)∧Below w.heap.size w w':=by
 have HR0:=zz hr0
 have HC0:=zz hc0
 clear hr0 hc0
 have HB:=zz (Below.refl w.heap.size w)
 unfold spec_TreeSum.f at h
 have H:=h
 clear h
 replace HB:=HB.out
 have HW:=zz (Below.refl w.heap.size w)
 go_enter Tryz.func116,Tryz.ntmps116
 replace H:=zf H
 obtain⟨t365,A2,H⟩:=H
 try dsimp only at H
 replace A2:=zz A2
 by_cases c3:t365=true
 case neg=>
  replace c3:=Bool.eq_false_iff.mpr c3
  subst c3
  rw[if_neg (by decide)] at H
  go_wp2_with(fail)
  refine(spec_TreeOk.calls k _ _ _ _ _ (Kd.qC HR0.out HB) HC0.out A2.out).mono ?_
  rintro e w15 ⟨rfl,hb⟩
  replace HB:=zv HB hb
  clear hb
  obtain rfl:=zi H
  go_wp2_with(fail)
  go_ret
  exact⟨ze,zv HW.out HB⟩
 subst c3
 rw[if_pos rfl] at H
 go_wp2_with(fail)
 refine(spec_TreeOk.calls k _ _ _ _ _ (Kd.qC HR0.out HB) HC0.out A2.out).mono ?_
 rintro e w5 ⟨rfl,hb⟩
 replace HB:=zv HB hb
 clear hb
 replace H:=zf H
 obtain⟨t366,A6,H⟩:=H
 try dsimp only at H
 replace A6:=zz A6
 go_wp2_with(fail)
 refine(spec_PackTree.calls k _ _ _ _ _ (Kd.qC HR0.out HB) HC0.out A6.out).mono ?_
 rintro e w7 ⟨vHO368,rfl,hHO368,hb⟩
 replace HB:=zv HB hb
 clear hb
 have hst:=HB
 replace HW:=zz (zv HW.out hst)
 replace HR0:=zz (Kd.qC HR0.out hst)
 clear hst
 replace HB:=Below.refl w7.heap.size w7
 obtain⟨AHRo8,cHRo8,rfl,hl_,hC_⟩:=Kd.R_reads hHO368
 have HRo8:=zz hC_
 have HCo8:=zz hl_
 clear hl_ hC_ hHO368
 replace H:=zf H
 obtain⟨t369,A9,H⟩:=H
 try dsimp only at H
 replace A9:=zz A9
 go_wp2_with(fail)
 refine(spec_Sum.calls k _ _ _ _ _ (Kd.qC HRo8.out HB) HCo8.out A9.out).mono ?_
 rintro e w10 ⟨rfl,hd⟩
 replace HB:=zv HB hd.below
 clear hd
 replace H:=zf H
 obtain⟨t370,A11,H⟩:=H
 try dsimp only at H
 replace A11:=zz A11
 go_wp2_with(fail)
 refine(spec_Word32.calls k _ _ _ A11.out).mono ?_
 rintro e w13 ⟨rfl,hb⟩
 replace HB:=zv HB hb
 clear hb
 obtain rfl:=zi H
 go_wp2_with(fail)
 go_ret
 exact⟨ze,zv HW.out HB⟩
end Go.Proofs.YtcekmnclmldmmaaGreatDoor.Q
