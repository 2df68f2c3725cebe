import Derived.Test.YtcekmnclmldmmaaGreatDoorN20
set_option linter.unusedVariables false
set_option linter.unusedSimpArgs false
namespace Go.Proofs.YtcekmnclmldmmaaGreatDoor.Q
open Go.RowKit W1 W2 W3
attribute [local go_sem] max2_int min2_int max_two min_two max_three min_three max_four min_four
attribute [local go_sem high] bl_leq bl_gtr bl_geq
set_option maxHeartbeats 8000000
set_option maxRecDepth 100000
def spec_l12Closure.l0:Nat→List (S94)→List ByteArray→List ByteArray→Option (List ByteArray)
 |0,_,_,_=>none
 |k+1,x0,x5,x6=>if(x6.length:Int)>0 then(if 0≤(wrap64 ((x6.length:Int) - 1)) then(if(wrap64 ((x6.length:Int) - 1))<(x6.length:Int) then(if(wrap64 ((x6.length:Int) - 1))≤(x6.length:Int) then((some (x6.take ((wrap64 ((x6.length:Int) - 1)):Int).toNat:List ByteArray)).bind fun y493=>((spec_l12Find.f k x0 (rdOf ByteArray.empty x6 (wrap64 ((x6.length:Int) - 1)))).bind fun t496=>(if t496<0 then(spec_l12Closure.l0 k x0 x5 y493) else((spec_l3Has.f k x5 (rdOf ByteArray.empty x6 (wrap64 ((x6.length:Int) - 1)))).bind fun t497=>(if t497=true then(spec_l12Closure.l0 k x0 x5 y493) else((spec_l3Add.f k x5 (rdOf ByteArray.empty x6 (wrap64 ((x6.length:Int) - 1)))).bind fun t498=>(if 0≤t496 then(if t496<(x0.length:Int) then(if y493.length+((qL x0 t496).f2).length<8796093022208 then(spec_l12Closure.l0 k x0 t498 (y493++((qL x0 t496).f2))) else(none)) else(none)) else(none)))))))) else(none)) else(none)) else(none)) else(some x5)
def spec_l12Closure.f(k:Nat)(l0:List (S94))(l1:List ByteArray):Option (List ByteArray):=(some (([]:List ByteArray):List ByteArray)).bind fun y486=>(if y486.length+l1.length<8796093022208 then(spec_l12Closure.l0 k l0 (([]:List ByteArray)) (y486++l1)) else(none))
theorem spec_l12Closure.calls(k:Nat)(A0:Option Addr)(c0:Nat)(l0:List (S94))(A1:Option Addr)(c1:Nat)(l1:List ByteArray)(r:List ByteArray)(w:World)(hr0:Kd.C k94 w A0 l0.length l0)(hc0:l0.length≤c0)(hr1:Kd.C Kd.string w A1 l1.length l1)(hc1:l1.length≤c1)(h:spec_l12Closure.f k l0 l1=some r):
 Calls Tryz.prog 53 #[.slice A0 l0.length c0,.slice A1 l1.length c1] w fun e w'=>∃v0_:Value,e= .returned (v0_)∧Kd.R Kd.string 9 w' w.heap.size (fun _=>True) v0_ r∧Below w.heap.size w w':=by
 have HR0:=zz hr0
 have HC0:=zz hc0
 clear hr0 hc0
 have HR1:=zz hr1
 have HC1:=zz hc1
 clear hr1 hc1
 have HB:=zz (Below.refl w.heap.size w)
 unfold spec_l12Closure.f at h
 have H:=h
 clear h
 obtain⟨y483,hy483⟩:∃y_:List ByteArray,y_=(([]:List ByteArray)):=⟨_,rfl⟩
 replace H:((some (([]:List ByteArray):List ByteArray)).bind fun y486=>(if y486.length+l1.length<8796093022208 then(spec_l12Closure.l0 k l0 y483 (y486++l1)) else(none)))=some r:=by first|(rw[hy483];with_reducible exact H)|(have H2_:=(Option.bind_some _ _).symm.trans H;rw[hy483];with_reducible exact H2_)|(have H2_:=(Option.bind_some _ _).symm.trans H;with_reducible exact H2_)|with_reducible exact H|(rw[hy483];exact H)|exact H
 have Ny483:=zz hy483
 clear hy483
 obtain⟨y486,hy486⟩:∃y_:List ByteArray,y_=(([]:List ByteArray)):=⟨_,rfl⟩
 replace H:(if y486.length+l1.length<8796093022208 then(spec_l12Closure.l0 k l0 y483 (y486++l1)) else(none))=some r:=by first|(rw[hy486];with_reducible exact H)|(have H2_:=(Option.bind_some _ _).symm.trans H;rw[hy486];with_reducible exact H2_)|(have H2_:=(Option.bind_some _ _).symm.trans H;with_reducible exact H2_)|with_reducible exact H|(rw[hy486];exact H)|exact H
 have Ny486:=zz hy486
 clear hy486
 by_cases c3:y486.length+l1.length<8796093022208
 case neg=>exact zno H c3
 rw[if_pos c3] at H
 have LMc3:=zz c3
 clear c3
 obtain⟨y489,hy489⟩:∃y_:List ByteArray,y_=(y486++l1):=⟨_,rfl⟩
 replace H:(spec_l12Closure.l0 k l0 y483 y489)=some r:=by first|(rw[hy489];with_reducible exact H)|(have H2_:=(Option.bind_some _ _).symm.trans H;rw[hy489];with_reducible exact H2_)|(have H2_:=(Option.bind_some _ _).symm.trans H;with_reducible exact H2_)|with_reducible exact H|(rw[hy489];exact H)|exact H
 have Ny489:=zz hy489
 clear hy489
 have H':=zz H
 clear H
 go_enter Tryz.func53,Tryz.ntmps53
 go_wp2_with(first|(refine zN 9 ?_;refine Kd.R_lit Kd.string _ 9 ?hg (N:=9) ?hd (xs:=([]:List ByteArray)) (inner:=[]) (ok:=fun _=>True) (okp:=fun _=>True) ?hr ?hp (fun _ hk=>hk) trivial (Below.refl _ _) (Nat.le_refl _) (by simp) ?_;(case hd=>rfl);(case hg=>rfl);(case hr=>first|(go_simp;done)|(go_simp;rfl));(case hp=>exact(Reps.none _ _));intro v484 w4 ho5 hb hg_ hnew_;clear hg_ hnew_;(first|rw[←Ny483.out] at ho5|(simp only[Int.reduceToNat] at ho5;rw[←Ny483.out] at ho5));have HO485:=zz (Kd.vH ho5 (qG zb));replace HB:=zz (zv zb hb);clear hb ho5)|(refine zN 10 ?_;refine Kd.R_lit Kd.string _ 9 ?hg (N:=10) ?hd (xs:=([]:List ByteArray)) (inner:=[]) (ok:=fun _=>True) (okp:=fun _=>True) ?hr ?hp (fun _ hk=>hk) trivial (Below.refl _ _) (Nat.le_refl _) (by simp) ?_;(case hd=>rfl);(case hg=>rfl);(case hr=>first|(go_simp;done)|(go_simp;rfl));(case hp=>exact(Reps.none _ _));intro v487 w6 ho7 hb hg_ hnew_;clear hg_ hnew_;(first|rw[←Ny486.out] at ho7|(simp only[Int.reduceToNat] at ho7;rw[←Ny486.out] at ho7));have HO488:=zz (Kd.vH (Kd.R_new' ho7 (Kd.R_lt (zR HO485.out))) (qG zb));replace HO485:=zz (Kd.R_elder' (zR HO485.out) (Kd.R_base ho7) hb);replace HB:=zz (zv zb hb);clear hb ho7)|((with_reducible refine vJ (b:= .append) (xs:= #[.tmp 10,.tmp 11]) rfl ?_);at_builtin;refine Kd.R_append_rows Kd.string (w0:=w) w.heap.size rfl (.tmp 10) (.tmp 11) 39 9 (.string ⟨#[]⟩) 16 rfl Tryz.underlying39 info9 rfl (by decide) (by omega) v487 y486 l1 _ _ _ (fun k_=>some k_≠(v484:Value).ownBlock) (fun _=>False) rfl rfl ?aO ?aR (fun _ _ h=>h) (fun _ h=>h.elim) ?aF ?aB ?aS ?aL ?_;(case aR=>exact zc HR1.out);(case aB=>exact zb);(case aF=>exact(fun k_ hk=>Kd.fresh' (Kd.R_lt (zR HO485.out)) k_ hk));(case aO=>exact(by(with_reducible repeat(first|apply Kd.qU|apply Kd.qT|apply Kd.qX));exact Kd.vF HO488.out (fun _ hk=>hk.2)));(case aS=>exact(qG zb));(case aL=>have:=LMc3.out;omega);intro v490 w8 ho hb hg hat;rw[←Ny489.out] at ho;replace HO485:=zz (Kd.R_after (ok:=(fun _=>True)) (zR HO485.out) hg hat);replace HB:=zz (hb);have HO491:=zz (ho);clear HO488;clear ho hb hg hat))
 go_loopg[5,6] k (fun kq v5 v6 w'=>∃(x5_1:List ByteArray) (x6_1:List ByteArray),qB (spec_l12Closure.l0 kq l0 x5_1 x6_1=some r)∧qB (kq≤k)∧qB (Kd.R Kd.string 9 w' w.heap.size (fun k_=>some k_≠(v6:Value).ownBlock) v5 x5_1)∧qB (Kd.R Kd.string 9 w' w.heap.size (fun k_=>some k_≠(v5:Value).ownBlock) v6 x6_1)∧qB (Below w.heap.size w w'))
 case atStart=>exact⟨(y483),(y489),H',⟨Nat.le_refl _⟩,⟨by(with_reducible repeat(first|apply Kd.qU|apply Kd.qT|apply Kd.qX));exact Kd.vF HO485.out (fun _ hk=>hk.2)⟩,⟨by(with_reducible repeat(first|apply Kd.qU|apply Kd.qT|apply Kd.qX));exact HO491.out⟩,⟨zb⟩⟩
 case round=>
  clear H'
  try clear c1
  try clear p2
  try clear c3
  try clear c5
  obtain⟨x5_1,x6_1,HA,HK1,HO_5,HO_6,HB⟩:=hrel
  cases gk with
  |zero=>exact absurd HA.out (by simp[spec_l12Closure.l0])
  |succ k1=>
   have H:=HA.out
   clear HA
   simp only[spec_l12Closure.l0] at H
   by_cases c9:(x6_1.length:Int)>0
   case neg=>
    rw[if_neg c9] at H
    have c9b0:=zgtn c9
    have c9b1:decide (0<x6_1.length)=false:=z0 (by omega)
    clear c9
    obtain rfl:=zi H
    obtain⟨Ao32,co32,eo32⟩:=Kd.vG HO_6.out
    subst eo32
    go_wp2
    go_ret
    exact⟨_,ze,by(with_reducible repeat(first|apply Kd.qU|apply Kd.qT|apply Kd.qX));exact Kd.vF HO_5.out (fun _ hk=>trivial),zb⟩
   rw[if_pos c9] at H
   have c9b0:=zgt c9
   have c9b1:decide (0<x6_1.length)=true:=z1 (by omega)
   clear c9
   obtain⟨ji10,hji10⟩:∃j_:Int,(wrap64 ((x6_1.length:Int) - 1))=j_:=⟨_,rfl⟩
   replace H:(if 0≤(ji10) then(if(ji10)<(x6_1.length:Int) then(if(ji10)≤(x6_1.length:Int) then((some (x6_1.take ((ji10):Int).toNat:List ByteArray)).bind fun y493=>((spec_l12Find.f k1 l0 (rdOf ByteArray.empty x6_1 (ji10))).bind fun t496=>(if t496<0 then(spec_l12Closure.l0 k1 l0 x5_1 y493) else((spec_l3Has.f k1 x5_1 (rdOf ByteArray.empty x6_1 (ji10))).bind fun t497=>(if t497=true then(spec_l12Closure.l0 k1 l0 x5_1 y493) else((spec_l3Add.f k1 x5_1 (rdOf ByteArray.empty x6_1 (ji10))).bind fun t498=>(if 0≤t496 then(if t496<(l0.length:Int) then(if y493.length+((qL l0 t496).f2).length<8796093022208 then(spec_l12Closure.l0 k1 l0 t498 (y493++((qL l0 t496).f2))) else(none)) else(none)) else(none)))))))) else(none)) else(none)) else(none))=some r:=by first|(rw[hji10] at H;exact H)|(simp only[hji10] at H⊢;exact H)
   have hji10w:(IntKind.i64.wrap ((x6_1.length:Int) - 1))=ji10:=(i64_w _).trans hji10
   by_cases c11:0≤(ji10)
   case neg=>exact zno H c11
   rw[if_pos c11] at H
   have c11b0:=z1 c11
   clear c11
   by_cases c12:(ji10)<(x6_1.length:Int)
   case neg=>exact zno H c12
   rw[if_pos c12] at H
   have c12b0:=z1 c12
   clear c12
   by_cases c13:(ji10)≤(x6_1.length:Int)
   case neg=>exact zno H c13
   rw[if_pos c13] at H
   have c13b0:=eq_true c13
   have c13b1:=z1 c13
   clear c13
   obtain⟨y493,hy493⟩:∃y_:List ByteArray,y_=(x6_1.take ((ji10):Int).toNat):=⟨_,rfl⟩
   replace H:((spec_l12Find.f k1 l0 (rdOf ByteArray.empty x6_1 (ji10))).bind fun t496=>(if t496<0 then(spec_l12Closure.l0 k1 l0 x5_1 y493) else((spec_l3Has.f k1 x5_1 (rdOf ByteArray.empty x6_1 (ji10))).bind fun t497=>(if t497=true then(spec_l12Closure.l0 k1 l0 x5_1 y493) else((spec_l3Add.f k1 x5_1 (rdOf ByteArray.empty x6_1 (ji10))).bind fun t498=>(if 0≤t496 then(if t496<(l0.length:Int) then(if y493.length+((qL l0 t496).f2).length<8796093022208 then(spec_l12Closure.l0 k1 l0 t498 (y493++((qL l0 t496).f2))) else(none)) else(none)) else(none)))))))=some r:=by first|(rw[hy493];with_reducible exact H)|(have H2_:=(Option.bind_some _ _).symm.trans H;rw[hy493];with_reducible exact H2_)|(have H2_:=(Option.bind_some _ _).symm.trans H;with_reducible exact H2_)|with_reducible exact H|(rw[hy493];exact H)|exact H
   have Ny493:=zz hy493
   clear hy493
   replace H:=zf H
   obtain⟨t496,A140,H⟩:=H
   try dsimp only at H
   have A14:=zz A140
   clear A140
   by_cases c15:t496<0
   ·rw[if_pos c15] at H
    have c15b0:=z1 c15
    clear c15
    have H':=zz H
    clear H
    obtain⟨Ao16,co16,eo16⟩:=Kd.vG HO_6.out
    subst eo16
    have p492:0≤((ji10):Int):=z2
    have q492:(ji10)<(x6_1.length:Int):=z2
    obtain⟨ad492,e492,hx492_0⟩:=Kd.vC (Kd.qS HO_6.out).2.2 (ji10) p492 q492
    cases e492
    replace p492:=eq_true p492
    replace q492:=eq_true q492
    have q17:((ji10):Int)≤((x6_1.length:Int):Int):=z2
    obtain⟨i017,hi017,_,hsz17,_⟩:=info_parts info9
    have hcut17:=cut_to (P:=Tryz.prog) 39 9 .i64 Tryz.underlying39 hi017 (some ad492) x6_1.length co16 (ji10) (z2) q17 (Kd.qS HO_6.out).2.1
    have hr17:=Kd.R_take (m:=((ji10):Int).toNat) HO_6.out (by omega)
    have hy17:y493.length=((ji10):Int).toNat:=(by rw[Ny493.out,List.length_take];omega)
    rw[←Ny493.out] at hr17
    rw[←hy17] at hr17 hcut17
    clear hy17 hi017 hsz17 HO_6
    have HO495:=zz hr17
    clear hr17
    replace q17:=eq_true q17
    go_wp2_with(first|((with_reducible refine gate_callee (f:=37) rfl ?_);refine goesL_ (some 29) rfl rfl Tryz.func37 zk rfl #[.slice A0 l0.length c0,.string (rdOf ByteArray.empty x6_1 (ji10))] rfl (by(try simp only[List.map_toArray,List.map_cons,List.map_nil]);first|done|(simp only[hji10];rfl)|rfl|(simp only[List.length_drop,List.length_take];rfl)) ?_;(with_reducible refine(spec_l12Find.calls k1 _ _ l0 (rdOf ByteArray.empty x6_1 (ji10)) t496 _ ?s1 ?s2 A14.out).mono ?_);(case s1=>exact zc HR0.out);(case s2=>exact HC0.out);rintro e w' ⟨rfl,⟨nd,rfl⟩⟩;refine⟨_,rfl,?_⟩))
    go_roundg k1
    case measure=>have:=HK1.out;omega
    case rel=>exact⟨(x5_1),(y493),H',⟨by have:=HK1.out;omega⟩,⟨by(with_reducible repeat(first|apply Kd.qU|apply Kd.qT|apply Kd.qX));exact HO_5.out⟩,⟨by(with_reducible repeat(first|apply Kd.qU|apply Kd.qT|apply Kd.qX));exact HO495.out⟩,⟨zb⟩⟩
   rw[if_neg c15] at H
   have c15b0:=z0 c15
   clear c15
   replace H:=zf H
   obtain⟨t497,A180,H⟩:=H
   try dsimp only at H
   have A18:=zz A180
   clear A180
   by_cases c19:t497=true
   ·subst c19
    rw[if_pos rfl] at H
    have H':=zz H
    clear H
    obtain⟨Ao20,co20,eo20⟩:=Kd.vG HO_6.out
    subst eo20
    have p492:0≤((ji10):Int):=z2
    have q492:(ji10)<(x6_1.length:Int):=z2
    obtain⟨ad492,e492,hx492_0⟩:=Kd.vC (Kd.qS HO_6.out).2.2 (ji10) p492 q492
    cases e492
    replace p492:=eq_true p492
    replace q492:=eq_true q492
    have q21:((ji10):Int)≤((x6_1.length:Int):Int):=z2
    obtain⟨i021,hi021,_,hsz21,_⟩:=info_parts info9
    have hcut21:=cut_to (P:=Tryz.prog) 39 9 .i64 Tryz.underlying39 hi021 (some ad492) x6_1.length co20 (ji10) (z2) q21 (Kd.qS HO_6.out).2.1
    have hr21:=Kd.R_take (m:=((ji10):Int).toNat) HO_6.out (by omega)
    have hy21:y493.length=((ji10):Int).toNat:=(by rw[Ny493.out,List.length_take];omega)
    rw[←Ny493.out] at hr21
    rw[←hy21] at hr21 hcut21
    clear hy21 hi021 hsz21 HO_6
    have HO495:=zz hr21
    clear hr21
    replace q21:=eq_true q21
    go_wp2_with(first|((with_reducible refine gate_callee (f:=37) rfl ?_);refine goesL_ (some 29) rfl rfl Tryz.func37 zk rfl #[.slice A0 l0.length c0,.string (rdOf ByteArray.empty x6_1 (ji10))] rfl (by(try simp only[List.map_toArray,List.map_cons,List.map_nil]);first|done|(simp only[hji10];rfl)|rfl|(simp only[List.length_drop,List.length_take];rfl)) ?_;(with_reducible refine(spec_l12Find.calls k1 _ _ l0 (rdOf ByteArray.empty x6_1 (ji10)) t496 _ ?s1 ?s2 A14.out).mono ?_);(case s1=>exact zc HR0.out);(case s2=>exact HC0.out);rintro e w' ⟨rfl,⟨nd,rfl⟩⟩;refine⟨_,rfl,?_⟩;obtain⟨Ao22,co22,eo22⟩:=Kd.vG HO_5.out;subst eo22)|(go_at_call 100;(with_reducible refine(spec_l3Has.calls k1 _ _ x5_1 (rdOf ByteArray.empty x6_1 (ji10)) true _ ?s1 ?s2 A18.out).mono ?_);(case s1=>repeat(first|exact(Kd.qS HO_5.out).2.2|(with_reducible refine Kd.C_alloc ?_ _)|(with_reducible refine Kd.C_drewN ?_ _)|(with_reducible refine Kd.C_drew ?_)));(case s2=>exact(Kd.qS HO_5.out).2.1);rintro e w' ⟨rfl,⟨nd,rfl⟩⟩))
    go_roundg k1
    case measure=>have:=HK1.out;omega
    case rel=>exact⟨(x5_1),(y493),H',⟨by have:=HK1.out;omega⟩,⟨by(with_reducible repeat(first|apply Kd.qU|apply Kd.qT|apply Kd.qX));exact HO_5.out⟩,⟨by(with_reducible repeat(first|apply Kd.qU|apply Kd.qT|apply Kd.qX));exact HO495.out⟩,⟨zb⟩⟩
   replace c19:=Bool.eq_false_iff.mpr c19
   subst c19
   rw[if_neg (show¬(false=true) by decide)] at H
   replace H:=zf H
   obtain⟨t498,A230,H⟩:=H
   try dsimp only at H
   have A23:=zz A230
   clear A230
   by_cases c24:0≤t496
   case neg=>exact zno H c24
   rw[if_pos c24] at H
   have c24b0:=z1 c24
   clear c24
   by_cases c25:t496<(l0.length:Int)
   case neg=>exact zno H c25
   rw[if_pos c25] at H
   have c25b0:=z1 c25
   clear c25
   by_cases c26:y493.length+((qL l0 t496).f2).length<8796093022208
   case neg=>exact zno H c26
   rw[if_pos c26] at H
   have LMc26:=zz c26
   clear c26
   obtain⟨y502,hy502⟩:∃y_:List ByteArray,y_=(y493++((qL l0 t496).f2)):=⟨_,rfl⟩
   replace H:(spec_l12Closure.l0 k1 l0 t498 y502)=some r:=by first|(rw[hy502];with_reducible exact H)|(have H2_:=(Option.bind_some _ _).symm.trans H;rw[hy502];with_reducible exact H2_)|(have H2_:=(Option.bind_some _ _).symm.trans H;with_reducible exact H2_)|with_reducible exact H|(rw[hy502];exact H)|exact H
   have Ny502:=zz hy502
   clear hy502
   have H':=zz H
   clear H
   obtain⟨Ao27,co27,eo27⟩:=Kd.vG HO_6.out
   subst eo27
   have p492:0≤((ji10):Int):=z2
   have q492:(ji10)<(x6_1.length:Int):=z2
   obtain⟨ad492,e492,hx492_0⟩:=Kd.vC (Kd.qS HO_6.out).2.2 (ji10) p492 q492
   cases e492
   replace p492:=eq_true p492
   replace q492:=eq_true q492
   have q28:((ji10):Int)≤((x6_1.length:Int):Int):=z2
   obtain⟨i028,hi028,_,hsz28,_⟩:=info_parts info9
   have hcut28:=cut_to (P:=Tryz.prog) 39 9 .i64 Tryz.underlying39 hi028 (some ad492) x6_1.length co27 (ji10) (z2) q28 (Kd.qS HO_6.out).2.1
   have hr28:=Kd.R_take (m:=((ji10):Int).toNat) HO_6.out (by omega)
   have hy28:y493.length=((ji10):Int).toNat:=(by rw[Ny493.out,List.length_take];omega)
   rw[←Ny493.out] at hr28
   rw[←hy28] at hr28 hcut28
   clear hy28 hi028 hsz28 HO_6
   have HO495:=zz hr28
   clear hr28
   replace q28:=eq_true q28
   go_wp2_with(first|((with_reducible refine gate_callee (f:=37) rfl ?_);refine goesL_ (some 29) rfl rfl Tryz.func37 zk rfl #[.slice A0 l0.length c0,.string (rdOf ByteArray.empty x6_1 (ji10))] rfl (by(try simp only[List.map_toArray,List.map_cons,List.map_nil]);first|done|(simp only[hji10];rfl)|rfl|(simp only[List.length_drop,List.length_take];rfl)) ?_;(with_reducible refine(spec_l12Find.calls k1 _ _ l0 (rdOf ByteArray.empty x6_1 (ji10)) t496 _ ?s1 ?s2 A14.out).mono ?_);(case s1=>exact zc HR0.out);(case s2=>exact HC0.out);rintro e w' ⟨rfl,⟨nd,rfl⟩⟩;refine⟨_,rfl,?_⟩;obtain⟨Ao29,co29,eo29⟩:=Kd.vG HO_5.out;subst eo29)|(go_at_call 100;(with_reducible refine(spec_l3Has.calls k1 _ _ x5_1 (rdOf ByteArray.empty x6_1 (ji10)) false _ ?s1 ?s2 A18.out).mono ?_);(case s1=>repeat(first|exact(Kd.qS HO_5.out).2.2|(with_reducible refine Kd.C_alloc ?_ _)|(with_reducible refine Kd.C_drewN ?_ _)|(with_reducible refine Kd.C_drew ?_)));(case s2=>exact(Kd.qS HO_5.out).2.1);rintro e w' ⟨rfl,⟨nd,rfl⟩⟩)|((with_reducible refine gate_callee (f:=101) rfl ?_);refine goesL_ (some 39) rfl rfl Tryz.func101 zk rfl #[.slice Ao29 x5_1.length co29,.string (rdOf ByteArray.empty x6_1 (ji10))] rfl (by(try simp only[List.map_toArray,List.map_cons,List.map_nil]);first|done|(simp only[hji10];rfl)|rfl|(simp only[List.length_drop,List.length_take];rfl)) ?_;(with_reducible refine(spec_l3Add.calls k1 (fun k_=>some k_=(.slice Ao29 x5_1.length co29:Value).ownBlock) (.slice Ao29 x5_1.length co29) x5_1 (rdOf ByteArray.empty x6_1 (ji10)) t498 w _ ?s1 ?s2 A23.out).mono ?_);(case s1=>repeat(first|(with_reducible first|exact HB.out|apply vA|apply qZ|apply qQ)|exact HB.out));(case s2=>exact Kd.R_tight rfl HO_5.out);rintro e w30 ⟨v499,rfl,ho0,hb,hkp⟩;refine⟨_,rfl,?_⟩;have HO500:=zz (Kd.vF (ok':=fun k_=>some k_≠(.slice (some ad492) y493.length co27:Value).ownBlock) ho0 (fun k_ hk_=>Or.elim hk_ (fun hs_=>fun e_=>(((HO495.out).1 k_ e_.symm)) hs_) (fun hn_=>(Kd.fresh' (Kd.R_lt (zR HO495.out)) k_ hn_))));replace HO495:=zz (Kd.vF (ok':=fun k_=>some k_≠(v499:Value).ownBlock) (Kd.R_keptB (HO495.out) hkp (fun k_ hk_ hs_=>(hk_) hs_)) (fun k_ hk_=>fun e_=>Or.elim (ho0.1 k_ e_.symm) (fun hs_=>hk_.2.1 hs_) (fun hn_=>Nat.not_le.2 hk_.2.2 hn_)));replace HB:=zz (hb);clear HO_5;(try clear hb);(try clear hkp);(try clear ho0);have p501:0≤(t496:Int):=z2;have q501:t496<(l0.length:Int):=z2;obtain⟨ad501,A501_2,c501_2,A501_4,c501_4,e501,hx501_0,hx501_1,hx501_2,hx501_3,hx501_4,hl501_2,hi501_2,hl501_4,hi501_4⟩:=at_T94 HR0.out t496 p501 q501;cases e501;replace hx501_0:=z3 HB.out hx501_0;replace hx501_1:=z3 HB.out hx501_1;replace hx501_2:=z3 HB.out hx501_2;replace hx501_3:=z3 HB.out hx501_3;replace hx501_4:=z3 HB.out hx501_4;have HR501_2:=zz hi501_2;have HC501_2:=zz hl501_2;clear hi501_2 hl501_2;have HR501_4:=zz hi501_4;have HC501_4:=zz hl501_4;clear hi501_4 hl501_4;replace p501:=eq_true p501;replace q501:=eq_true q501)|((with_reducible refine vJ (b:= .append) (xs:= #[.tmp 40,.tmp 45]) rfl ?_);at_builtin;refine Kd.R_append_rows Kd.string (w0:=w) w.heap.size rfl (.tmp 40) (.tmp 45) 39 9 (.string ⟨#[]⟩) 16 rfl Tryz.underlying39 info9 rfl (by decide) (by omega) (.slice (some ad492) y493.length co27) y493 ((qL l0 t496).f2) _ _ _ (fun k_=>some k_≠(v499:Value).ownBlock) (fun _=>False) rfl rfl ?aO ?aR (fun _ _ h=>h) (fun _ h=>h.elim) ?aF ?aB ?aS ?aL ?_;(case aR=>exact zc HR501_2.out);(case aB=>exact zb);(case aF=>exact(fun k_ hk=>Kd.fresh' (Kd.R_lt (zR HO500.out)) k_ hk));(case aO=>exact(zR HO495.out));(case aS=>exact(qG zb));(case aL=>have:=LMc26.out;omega);intro v503 w31 ho hb hg hat;rw[←Ny502.out] at ho;replace HO500:=zz (Kd.R_after (ok:=(fun _=>True)) (by(with_reducible repeat(first|apply Kd.qU|apply Kd.qT|apply Kd.qX));exact Kd.vF HO500.out (fun _ hk=>⟨trivial,hk⟩)) hg hat);replace HB:=zz (hb);have HO504:=zz (ho);clear HO495;clear ho hb hg hat))
   go_roundg k1
   case measure=>have:=HK1.out;omega
   case rel=>exact⟨(t498),(y502),H',⟨by have:=HK1.out;omega⟩,⟨by(with_reducible repeat(first|apply Kd.qU|apply Kd.qT|apply Kd.qX));exact Kd.vF HO500.out (fun _ hk=>hk.2)⟩,⟨by(with_reducible repeat(first|apply Kd.qU|apply Kd.qT|apply Kd.qX));exact HO504.out⟩,⟨zb⟩⟩
def spec_l13Current.f(k:Nat)(a0_0:ByteArray)(a0_1:Int)(l0_2:List (S70)):Option (ByteArray):=(spec_l13Gen.f k a0_0 a0_1 l0_2 a0_1).bind fun t506=>(if t506<0 then(some (⟨#[]⟩:ByteArray)) else(if 0≤t506 then(if t506<(l0_2.length:Int) then(some ((qN l0_2 t506).f1)) else(none)) else(none)))
theorem spec_l13Current.calls(k:Nat)(a0_0:ByteArray)(a0_1:Int)(A0_2:Option Addr)(c0_2:Nat)(l0_2:List (S70))(r:ByteArray)(w:World)(hr0_2:Kd.C k70 w A0_2 l0_2.length l0_2)(hc0_2:l0_2.length≤c0_2)(h:spec_l13Current.f k a0_0 a0_1 l0_2=some r):
 Calls Tryz.prog 54 #[.agg #[.string a0_0,.int .i64 a0_1,.slice A0_2 l0_2.length c0_2]] w fun e w'=>e= .returned (.string r)∧Below w.heap.size w w':=by
 have hu67:=Tryz.underlying67
 have HR0_2:=zz hr0_2
 have HC0_2:=zz hc0_2
 clear hr0_2 hc0_2
 have HB:=zz (Below.refl w.heap.size w)
 unfold spec_l13Current.f at h
 have H:=h
 clear h
 replace HB:=HB.out
 have HW:=zz (Below.refl w.heap.size w)
 go_enter Tryz.func54,Tryz.ntmps54
 replace H:=zf H
 obtain⟨t506,A2,H⟩:=H
 try dsimp only at H
 replace A2:=zz A2
 by_cases c3:t506<0
 ·rw[if_pos c3] at H
  have c3b0:=z1 c3
  clear c3
  go_wp2_with(first|(refine zN 1 ?_;(try(refine z4 ?_;dsimp only));refine zX 1 67 #[.string a0_0,.int .i64 a0_1,.slice A0_2 l0_2.length c0_2] ?_;intro gb505 hg w5 hbox hb;have hst:=zv HB hb;clear hg hb HB;replace HW:=zz (zv HW.out hst);replace HR0_2:=zz (Kd.qC HR0_2.out hst);obtain⟨hbx505_0,hbx505_1,hbx505_2⟩:=zx3 hbox;have HB:=Below.refl w5.heap.size w5;clear hbox hst))
  refine(spec_l13Gen.calls k _ _ _ _ _ _ _ _ (Kd.qC HR0_2.out HB) HC0_2.out A2.out).mono ?_
  rintro e w6 ⟨rfl,hb⟩
  replace HB:=zv HB hb
  clear hb
  obtain rfl:=zi H
  go_wp2_with(fail)
  go_ret
  exact⟨ze,zv HW.out HB⟩
 rw[if_neg c3] at H
 have c3b0:=z0 c3
 clear c3
 by_cases c7:0≤t506
 case neg=>exact zno H c7
 rw[if_pos c7] at H
 have c7b0:=z1 c7
 clear c7
 by_cases c8:t506<(l0_2.length:Int)
 case neg=>exact zno H c8
 rw[if_pos c8] at H
 have c8b0:=z1 c8
 clear c8
 have p507:0≤(t506:Int):=z2
 have q507:(t506:Int)<(l0_2.length:Int):=z2
 obtain⟨ad507,e507,hx507_0,hx507_1⟩:=at_T70 HR0_2.out t506 p507 q507
 cases e507
 replace hx507_0:=qR hx507_0
 replace hx507_1:=qR hx507_1
 replace p507:=eq_true p507
 replace q507:=eq_true q507
 go_wp2_with(first|(refine zN 1 ?_;(try(refine z4 ?_;dsimp only));refine zX 1 67 #[.string a0_0,.int .i64 a0_1,.slice (some ad507) l0_2.length c0_2] ?_;intro gb505 hg w10 hbox hb;have hst:=zv HB hb;clear hg hb HB;replace HW:=zz (zv HW.out hst);replace HR0_2:=zz (Kd.qC HR0_2.out hst);replace hx507_0:=qH hx507_0 hst;replace hx507_1:=qH hx507_1 hst;obtain⟨hbx505_0,hbx505_1,hbx505_2⟩:=zx3 hbox;have HB:=Below.refl w10.heap.size w10;clear hbox hst))
 refine(spec_l13Gen.calls k _ _ _ _ _ _ _ _ (Kd.qC HR0_2.out HB) HC0_2.out A2.out).mono ?_
 rintro e w11 ⟨rfl,hb⟩
 replace HB:=zv HB hb
 clear hb
 obtain rfl:=zi H
 go_wp2_with(fail)
 go_ret
 exact⟨ze,zv HW.out HB⟩
def spec_Needed.f(k:Nat)(l0_0:List (S94))(l0_1:List (S67))(l0_2:List (S61))(l0_3:List (S64))(a1:ByteArray):Option (List ByteArray):=(spec_WorldOk.f k l0_0 l0_1 l0_2 l0_3).bind fun t509=>(if t509=true then((spec_l13Find.f k l0_1 a1).bind fun t513=>(if t513<0 then(some (([]:List ByteArray))) else(if 0≤t513 then(if t513<(l0_1.length:Int) then((spec_l13Current.f k ((qD l0_1 t513).f0) ((qD l0_1 t513).f1) ((qD l0_1 t513).f2)).bind fun t518=>((spec_l12Closure.f k l0_0 (([t518]:List ByteArray))).bind fun t522=>(some t522))) else(none)) else(none)))) else(some (([]:List ByteArray))))
def spec_Needed.T6:Bool×List (List Nat×List Nat):=(true,[([],[]),([0],[0]),([],[]),([2],[2]),([],[]),([3,4],[3,4]),([5],[5]),([6],[6]),([7],[7]),([1,8,7],[1,8]),([9,9,0,1,2,3,4,5,6,7,8,9],[9])])
def spec_Needed.B6:List Nat:=[0,1,0,4,0,28,60,124,252,511,1023]
theorem spec_Needed.tab6:rtab .any (opsOf Tryz.f12 6)=spec_Needed.T6:=by kernel_rfl
theorem spec_Needed.bits6:waitsOk spec_Needed.T6.2 spec_Needed.B6=true:=by kernel_rfl
theorem spec_Needed.calls(k:Nat)(A0_0:Option Addr)(c0_0:Nat)(l0_0:List (S94))(A0_1:Option Addr)(c0_1:Nat)(l0_1:List (S67))(A0_2:Option Addr)(c0_2:Nat)(l0_2:List (S61))(A0_3:Option Addr)(c0_3:Nat)(l0_3:List (S64))(a1:ByteArray)(r:List ByteArray)(w:World)(hr0_0:Kd.C k94 w A0_0 l0_0.length l0_0)(hc0_0:l0_0.length≤c0_0)(hr0_1:Kd.C k67 w A0_1 l0_1.length l0_1)(hc0_1:l0_1.length≤c0_1)(hr0_2:Kd.C k61 w A0_2 l0_2.length l0_2)(hc0_2:l0_2.length≤c0_2)(hr0_3:Kd.C k64 w A0_3 l0_3.length l0_3)(hc0_3:l0_3.length≤c0_3)(h:spec_Needed.f k l0_0 l0_1 l0_2 l0_3 a1=some r):
 Calls Tryz.prog 12 #[.agg #[.slice A0_0 l0_0.length c0_0,.slice A0_1 l0_1.length c0_1,.slice A0_2 l0_2.length c0_2,.slice A0_3 l0_3.length c0_3],.string a1] w fun e w'=>∃v0_:Value,e= .returned (v0_)∧Kd.R Kd.string 9 w' w.heap.size (fun _=>True) v0_ r∧Below w.heap.size w w':=by
 have hu35:=Tryz.underlying35
 have hu67:=Tryz.underlying67
 have HR0_0:=zz hr0_0
 have HC0_0:=zz hc0_0
 clear hr0_0 hc0_0
 have HR0_1:=zz hr0_1
 have HC0_1:=zz hc0_1
 clear hr0_1 hc0_1
 have HR0_2:=zz hr0_2
 have HC0_2:=zz hc0_2
 clear hr0_2 hc0_2
 have HR0_3:=zz hr0_3
 have HC0_3:=zz hc0_3
 clear hr0_3 hc0_3
 have HB:=zz (Below.refl w.heap.size w)
 unfold spec_Needed.f at h
 have H:=h
 clear h
 replace H:=zf H
 obtain⟨t509,A30,H⟩:=H
 try dsimp only at H
 have A3:=zz A30
 clear A30
 by_cases c4:t509=true
 case neg=>
  replace c4:=Bool.eq_false_iff.mpr c4
  subst c4
  rw[if_neg (show¬(false=true) by decide)] at H
  obtain⟨y510,hy510⟩:∃y_:List ByteArray,y_=(([]:List ByteArray)):=⟨_,rfl⟩
  replace H:(some y510)=some r:=by first|(rw[hy510];with_reducible exact H)|(have H2_:=(Option.bind_some _ _).symm.trans H;rw[hy510];with_reducible exact H2_)|(have H2_:=(Option.bind_some _ _).symm.trans H;with_reducible exact H2_)|with_reducible exact H|(rw[hy510];exact H)|exact H
  have Ny510:=zz hy510
  clear hy510
  obtain rfl:=zi H
  go_enter Tryz.func12,Tryz.ntmps12
  go_wp2_with(first|(refine zX 2 35 #[.slice A0_0 l0_0.length c0_0,.slice A0_1 l0_1.length c0_1,.slice A0_2 l0_2.length c0_2,.slice A0_3 l0_3.length c0_3] ?_;intro gb508 hg w27 hbox hb;have BK508:=zz (hbox);have GW508:=zz ((zg:w.heap.size≤gb508));have GE508:=zz ((zg:w.heap.size≤gb508));replace HB:=zz (zv zb hb);clear hb hbox hg;obtain⟨hcz28_0,hcz28_1,hcz28_2,hcz28_3,hfz28_0,hfz28_1,hfz28_2,hfz28_3⟩:=zc4 BK508.out)|(refine zL 8 7 Tryz.func8 #[.agg #[.slice A0_0 l0_0.length c0_0,.slice A0_1 l0_1.length c0_1,.slice A0_2 l0_2.length c0_2,.slice A0_3 l0_3.length c0_3]] ?_;(with_reducible refine(spec_WorldOk.calls k _ _ l0_0 _ _ l0_1 _ _ l0_2 _ _ l0_3 false _ ?s1 ?s2 ?s3 ?s4 ?s5 ?s6 ?s7 ?s8 A3.out).mono ?_);(case s1=>exact zc HR0_0.out);(case s2=>exact HC0_0.out);(case s3=>exact zc HR0_1.out);(case s4=>exact HC0_1.out);(case s5=>exact zc HR0_2.out);(case s6=>exact HC0_2.out);(case s7=>exact zc HR0_3.out);(case s8=>exact HC0_3.out);rintro e w29 ⟨rfl,hb⟩;refine⟨_,rfl,?_⟩;replace BK508:=zz (zJ BK508 hb);replace HB:=zz (zv zb hb);(try clear hb);(try clear hb2);(try clear hk);(try clear hi))|(refine zN 9 ?_;refine Kd.R_lit Kd.string _ 9 ?hg (N:=9) ?hd (xs:=([]:List ByteArray)) (inner:=[]) (ok:=fun _=>True) (okp:=fun _=>True) ?hr ?hp (fun _ hk=>hk) trivial (Below.refl _ _) (Nat.le_refl _) (by simp) ?_;(case hd=>rfl);(case hg=>rfl);(case hr=>first|(go_simp;done)|(go_simp;rfl));(case hp=>exact(Reps.none _ _));intro v511 w30 ho31 hb hg_ hnew_;clear hg_ hnew_;(first|rw[←Ny510.out] at ho31|(simp only[Int.reduceToNat] at ho31;rw[←Ny510.out] at ho31));have HO512:=zz (Kd.vH ho31 (qG zb));replace BK508:=zz (zJ BK508 hb);replace HB:=zz (zv zb hb);clear hb ho31))
  go_ret
  exact⟨_,ze,by(with_reducible repeat(first|apply Kd.qU|apply Kd.qT|apply Kd.qX));exact HO512.out,zb⟩
 subst c4
 rw[if_pos rfl] at H
 replace H:=zf H
 obtain⟨t513,A50,H⟩:=H
 try dsimp only at H
 have A5:=zz A50
 clear A50
 by_cases c6:t513<0
 ·rw[if_pos c6] at H
  have c6b0:=z1 c6
  clear c6
  obtain⟨y514,hy514⟩:∃y_:List ByteArray,y_=(([]:List ByteArray)):=⟨_,rfl⟩
  replace H:(some y514)=some r:=by first|(rw[hy514];with_reducible exact H)|(have H2_:=(Option.bind_some _ _).symm.trans H;rw[hy514];with_reducible exact H2_)|(have H2_:=(Option.bind_some _ _).symm.trans H;with_reducible exact H2_)|with_reducible exact H|(rw[hy514];exact H)|exact H
  have Ny514:=zz hy514
  clear hy514
  obtain rfl:=zi H
  go_enter Tryz.func12,Tryz.ntmps12
  go_wp2_with(first|(refine zX 2 35 #[.slice A0_0 l0_0.length c0_0,.slice A0_1 l0_1.length c0_1,.slice A0_2 l0_2.length c0_2,.slice A0_3 l0_3.length c0_3] ?_;intro gb508 hg w7 hbox hb;have BK508:=zz (hbox);have GW508:=zz ((zg:w.heap.size≤gb508));have GE508:=zz ((zg:w.heap.size≤gb508));replace HB:=zz (zv zb hb);clear hb hbox hg;obtain⟨hcz8_0,hcz8_1,hcz8_2,hcz8_3,hfz8_0,hfz8_1,hfz8_2,hfz8_3⟩:=zc4 BK508.out)|(refine zL 8 7 Tryz.func8 #[.agg #[.slice A0_0 l0_0.length c0_0,.slice A0_1 l0_1.length c0_1,.slice A0_2 l0_2.length c0_2,.slice A0_3 l0_3.length c0_3]] ?_;(with_reducible refine(spec_WorldOk.calls k _ _ l0_0 _ _ l0_1 _ _ l0_2 _ _ l0_3 true _ ?s1 ?s2 ?s3 ?s4 ?s5 ?s6 ?s7 ?s8 A3.out).mono ?_);(case s1=>exact zc HR0_0.out);(case s2=>exact HC0_0.out);(case s3=>exact zc HR0_1.out);(case s4=>exact HC0_1.out);(case s5=>exact zc HR0_2.out);(case s6=>exact HC0_2.out);(case s7=>exact zc HR0_3.out);(case s8=>exact HC0_3.out);rintro e w9 ⟨rfl,hb⟩;refine⟨_,rfl,?_⟩;replace BK508:=zz (zJ BK508 hb);replace HB:=zz (zv zb hb);(try clear hb);(try clear hb2);(try clear hk);(try clear hi);obtain⟨hcz10_0,hcz10_1,hcz10_2,hcz10_3,hfz10_0,hfz10_1,hfz10_2,hfz10_3⟩:=zc4 BK508.out)|(refine zL 52 13 Tryz.func52 #[.slice A0_1 l0_1.length c0_1,.string a1] ?_;(with_reducible refine(spec_l13Find.calls k _ _ l0_1 a1 t513 _ ?s1 ?s2 A5.out).mono ?_);(case s1=>exact zc HR0_1.out);(case s2=>exact HC0_1.out);rintro e w' ⟨rfl,⟨nd,rfl⟩⟩;refine⟨_,rfl,?_⟩)|(refine zN 16 ?_;refine Kd.R_lit Kd.string _ 9 ?hg (N:=16) ?hd (xs:=([]:List ByteArray)) (inner:=[]) (ok:=fun _=>True) (okp:=fun _=>True) ?hr ?hp (fun _ hk=>hk) trivial (Below.refl _ _) (Nat.le_refl _) (by simp) ?_;(case hd=>rfl);(case hg=>rfl);(case hr=>first|(go_simp;done)|(go_simp;rfl));(case hp=>exact(Reps.none _ _));intro v515 w11 ho12 hb hg_ hnew_;clear hg_ hnew_;(first|rw[←Ny514.out] at ho12|(simp only[Int.reduceToNat] at ho12;rw[←Ny514.out] at ho12));have HO516:=zz (Kd.vH ho12 (qG zb));replace BK508:=zz (zJ BK508 hb);replace HB:=zz (zv zb hb);clear hb ho12))
  go_ret
  exact⟨_,ze,by(with_reducible repeat(first|apply Kd.qU|apply Kd.qT|apply Kd.qX));exact HO516.out,zb⟩
 rw[if_neg c6] at H
 have c6b0:=z0 c6
 clear c6
 by_cases c13:0≤t513
 case neg=>exact zno H c13
 rw[if_pos c13] at H
 have c13b0:=z1 c13
 clear c13
 by_cases c14:t513<(l0_1.length:Int)
 case neg=>exact zno H c14
 rw[if_pos c14] at H
 have c14b0:=z1 c14
 clear c14
 replace H:=zf H
 obtain⟨t518,A150,H⟩:=H
 try dsimp only at H
 have A15:=zz A150
 clear A150
 obtain⟨y519,hy519⟩:∃y_:List ByteArray,y_=(([t518]:List ByteArray)):=⟨_,rfl⟩
 replace H:((spec_l12Closure.f k l0_0 y519).bind fun t522=>(some t522))=some r:=by first|(rw[hy519];with_reducible exact H)|(have H2_:=(Option.bind_some _ _).symm.trans H;rw[hy519];with_reducible exact H2_)|(have H2_:=(Option.bind_some _ _).symm.trans H;with_reducible exact H2_)|with_reducible exact H|(rw[hy519];exact H)|exact H
 have Ny519:=zz hy519
 clear hy519
 replace H:=zf H
 obtain⟨t522,A160,H⟩:=H
 try dsimp only at H
 have A16:=zz A160
 clear A160
 obtain rfl:=zi H
 go_enter Tryz.func12,Tryz.ntmps12
 try go_wp2_with(first|(refine zX 2 35 #[.slice A0_0 l0_0.length c0_0,.slice A0_1 l0_1.length c0_1,.slice A0_2 l0_2.length c0_2,.slice A0_3 l0_3.length c0_3] ?_;intro gb508 hg w17 hbox hb;have BK508:=zz (hbox);have GW508:=zz ((zg:w.heap.size≤gb508));have GE508:=zz ((zg:w.heap.size≤gb508));replace HB:=zz (zv zb hb);clear hb hbox hg;obtain⟨hcz18_0,hcz18_1,hcz18_2,hcz18_3,hfz18_0,hfz18_1,hfz18_2,hfz18_3⟩:=zc4 BK508.out)|(refine zL 8 7 Tryz.func8 #[.agg #[.slice A0_0 l0_0.length c0_0,.slice A0_1 l0_1.length c0_1,.slice A0_2 l0_2.length c0_2,.slice A0_3 l0_3.length c0_3]] ?_;(with_reducible refine(spec_WorldOk.calls k _ _ l0_0 _ _ l0_1 _ _ l0_2 _ _ l0_3 true _ ?s1 ?s2 ?s3 ?s4 ?s5 ?s6 ?s7 ?s8 A3.out).mono ?_);(case s1=>exact zc HR0_0.out);(case s2=>exact HC0_0.out);(case s3=>exact zc HR0_1.out);(case s4=>exact HC0_1.out);(case s5=>exact zc HR0_2.out);(case s6=>exact HC0_2.out);(case s7=>exact zc HR0_3.out);(case s8=>exact HC0_3.out);rintro e w19 ⟨rfl,hb⟩;refine⟨_,rfl,?_⟩;replace BK508:=zz (zJ BK508 hb);replace HB:=zz (zv zb hb);(try clear hb);(try clear hb2);(try clear hk);(try clear hi);obtain⟨hcz20_0,hcz20_1,hcz20_2,hcz20_3,hfz20_0,hfz20_1,hfz20_2,hfz20_3⟩:=zc4 BK508.out)|(refine zL 52 13 Tryz.func52 #[.slice A0_1 l0_1.length c0_1,.string a1] ?_;(with_reducible refine(spec_l13Find.calls k _ _ l0_1 a1 t513 _ ?s1 ?s2 A5.out).mono ?_);(case s1=>exact zc HR0_1.out);(case s2=>exact HC0_1.out);rintro e w' ⟨rfl,⟨nd,rfl⟩⟩;refine⟨_,rfl,?_⟩))
 (try(rw[drewN_self w19];generalize hq_:World.drewN w19 _=w19;have n0_:qB (w19.heap[gb508]?=some (.cells #[.slice A0_0 l0_0.length c0_0,.slice A0_1 l0_1.length c0_1,.slice A0_2 l0_2.length c0_2,.slice A0_3 l0_3.length c0_3] 35 (0,0))):=⟨by rw[←hq_];exact(zB BK508.out)⟩;have n1_:qB (Below w.heap.size w w19):=⟨by rw[←hq_];exact zb⟩;clear BK508 HB hq_;have BK508:=n0_;have HB:=n1_;clear n0_ n1_))
 replace BK508:=zz (qK BK508.out)
 replace HB:=zz (qQ HB.out)
 have p517:0≤(t513:Int):=z2
 have q517:t513<(l0_1.length:Int):=z2
 obtain⟨ad517,A517_2,c517_2,e517,hx517_0,hx517_1,hx517_2,hl517_2,hi517_2⟩:=at_T67 HR0_1.out t513 p517 q517
 have hw517_2:=hx517_2
 have hw517_1:=hx517_1
 have hw517_0:=hx517_0
 cases e517
 replace hx517_0:=z3 HB.out hx517_0
 replace hx517_1:=z3 HB.out hx517_1
 replace hx517_2:=z3 HB.out hx517_2
 have HR517_2:=zz hi517_2
 have HC517_2:=zz hl517_2
 clear hi517_2 hl517_2
 replace p517:=eq_true p517
 replace q517:=eq_true q517
 refine start_ (n:=11) (S:=fun w'=>w'.cell? ⟨gb508,0,none⟩=some (.slice A0_0 l0_0.length c0_0)∧w'.cell? ⟨gb508,1,none⟩=some (.slice (some ad517) l0_1.length c0_1)∧w'.cell? ⟨gb508,2,none⟩=some (.slice A0_2 l0_2.length c0_2)∧w'.cell? ⟨gb508,3,none⟩=some (.slice A0_3 l0_3.length c0_3)∧w'.cell? (ad517.add ((t513).toNat*3))=some (.string ((qD l0_1 t513).f0))∧w'.cell? ⟨(ad517.add ((t513).toNat*3)).block,(ad517.add ((t513).toNat*3)).off+1,none⟩=some (.int .i64 ((qD l0_1 t513).f1))∧w'.cell? ⟨(ad517.add ((t513).toNat*3)).block,(ad517.add ((t513).toNat*3)).off+2,none⟩=some (.slice A517_2 ((qD l0_1 t513).f2).length c517_2)) (ds:=[]) (bp 0 11) zk rfl rfl ⟨(qW BK508.out 0).trans rfl,(qW BK508.out 1).trans rfl,(qW BK508.out 2).trans rfl,(qW BK508.out 3).trans rfl,(z3 HB.out hw517_0),(z3 HB.out hw517_1),(z3 HB.out hw517_2)⟩ (fun hHeld=>?_);refine with_tabW spec_Needed.tab6 spec_Needed.bits6 (fun HT_ HW_=>?_)
 generalize w19.drew=w21 at BK508 HB HR517_2 hx517_0 hx517_1 hx517_2 hHeld⊢
 refine zp 0 17 (bp 1 10) ?_
 refine zp 2 19 (bm 11 5) ?_
 refine zp 4 21 (bm 11 21) ?_
 refine zt 1 18 (bm 11 23) ?_
 refine zt 3 20 (bp 5 6) ?_
 refine zp 5 22 (bp 6 5) ?_
 refine zt 6 23 (bp 7 4) ?_
 refine zo 7 24 (bp 8 3) fun K hK=>?_
 refine zh Tryz.func54 #[.agg #[.string ((qD l0_1 t513).f0),.int .i64 ((qD l0_1 t513).f1),.slice A517_2 ((qD l0_1 t513).f2).length c517_2]] ?_
 with_reducible refine(spec_l13Current.calls k ((qD l0_1 t513).f0) ((qD l0_1 t513).f1) _ _ ((qD l0_1 t513).f2) t518 _ ?s1 ?s2 A15.out).mono ?_
 (case s1=>exact zc HR517_2.out)
 (case s2=>exact HC517_2.out)
 rintro e w22 ⟨rfl,hb⟩
 refine⟨_,rfl,?_⟩
 replace BK508:=zz (zJ BK508 hb)
 replace HB:=zz (zv zb hb)
 (try clear hb)
 (try clear hb2)
 (try clear hk)
 (try clear hi)
 refine hK.out _ _ ⟨(qW BK508.out 0).trans rfl,(qW BK508.out 1).trans rfl,(qW BK508.out 2).trans rfl,(qW BK508.out 3).trans rfl,(z3 HB.out hw517_0),(z3 HB.out hw517_1),(z3 HB.out hw517_2)⟩ (fun hHeld=>?_)
 clear hK K
 refine zn 24 ?_
 refine zo 8 25 (bp 9 2) fun K hK=>?_
 refine Kd.R_lit_step Kd.string _ 9 ?hg (N:=25) ?hd (xs:=([t518]:List ByteArray)) (inner:=[.string t518]) (ok:=fun _=>True) (okp:=fun _=>True) ?hr ?hp (fun _ hk=>hk) trivial (Below.refl _ _) (Nat.le_refl _) (by simp) ?_;(case hd=>rfl);(case hg=>rfl);(case hr=>first|(go_simp;done)|(go_simp;rfl));(case hp=>exact(Reps.one (show Kd.M Kd.string _ _ _ t518 [.string t518] from rfl) (Reps.none _ _)))
 intro v520 w23 ho24 hb hg_ hnew_
 clear hg_ hnew_
 (first|rw[←Ny519.out] at ho24|(simp only[Int.reduceToNat] at ho24;rw[←Ny519.out] at ho24))
 have HO521:=zz (Kd.vH ho24 (qG zb))
 replace BK508:=zz (zJ BK508 hb)
 replace HB:=zz (zv zb hb)
 clear hb ho24
 obtain⟨Ao25,co25,eo25⟩:=Kd.vG HO521.out
 (first|subst eo25|(injection eo25 with f1_ f2_ f3_;have f4_:=f1_.symm;have f5_:=f3_.symm;clear f1_ f2_ f3_;subst f4_;subst f5_))
 refine hK.out _ _ ⟨(qW BK508.out 0).trans rfl,(qW BK508.out 1).trans rfl,(qW BK508.out 2).trans rfl,(qW BK508.out 3).trans rfl,(z3 HB.out hw517_0),(z3 HB.out hw517_1),(z3 HB.out hw517_2)⟩ (fun hHeld=>?_)
 clear hK K
 refine zn 25 ?_
 refine zo 9 26 (bp 10 1) fun K hK=>?_
 refine zh Tryz.func53 #[.slice A0_0 l0_0.length c0_0,.slice Ao25 y519.length co25] ?_
 with_reducible refine(spec_l12Closure.calls k _ _ l0_0 _ _ y519 t522 _ ?s1 ?s2 ?s3 ?s4 A16.out).mono ?_
 (case s1=>exact zc HR0_0.out)
 (case s2=>exact HC0_0.out)
 (case s3=>repeat(first|exact(Kd.qS HO521.out).2.2|(with_reducible refine Kd.C_alloc ?_ _)|(with_reducible refine Kd.C_drewN ?_ _)|(with_reducible refine Kd.C_drew ?_)))
 (case s4=>exact(Kd.qS HO521.out).2.1)
 rintro e w26 ⟨v523,rfl,ho0,hb⟩
 refine⟨_,rfl,?_⟩
 have HO524:=zz (Kd.vH (Kd.R_new' ho0 (Kd.R_lt (zR HO521.out))) (qG zb))
 replace HO521:=zz (Kd.R_elder' (zR HO521.out) (Kd.R_base ho0) hb)
 replace BK508:=zz (zJ BK508 hb)
 replace HB:=zz (zv zb hb)
 (try clear hb)
 (try clear hb2)
 (try clear hk)
 (try clear hi)
 (try clear ho0)
 refine hK.out _ _ ⟨(qW BK508.out 0).trans rfl,(qW BK508.out 1).trans rfl,(qW BK508.out 2).trans rfl,(qW BK508.out 3).trans rfl,(z3 HB.out hw517_0),(z3 HB.out hw517_1),(z3 HB.out hw517_2)⟩ (fun hHeld=>?_)
 clear hK K
 refine zn 26 ?_
 refine zp 10 4 (bp 11 0) ?_
 refine done_ (done_of HT_.out zk) ?_
 try go_wp2
 go_ret
 exact⟨_,ze,by(with_reducible repeat(first|apply Kd.qU|apply Kd.qT|apply Kd.qX));exact Kd.vF HO524.out (fun _ hk=>trivial),zb⟩
end Go.Proofs.YtcekmnclmldmmaaGreatDoor.Q
