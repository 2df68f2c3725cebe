import Derived.Test.YtcekmnclmldmmaaGreatDoorN23
set_option linter.unusedVariables false
set_option linter.unusedSimpArgs false
namespace Go.Proofs.YtcekmnclmldmmaaGreatDoor.Q
open Go.RowKit W1 W2 W3
attribute [local go_sem] max2_int min2_int max_two min_two max_three min_three max_four min_four
attribute [local go_sem high] bl_leq bl_gtr bl_geq
set_option maxHeartbeats 8000000
set_option maxRecDepth 100000
def laws_toGenS.l0:Nat→List (S161)→List (S70)→Int→Option ((List (S70)))
 |0,_,_,_=>none
 |k+1,x0,x3,x4=>if x4<(x0.length:Int) then(if 0≤x4 then((laws_toGen.f ((rd_T161 x0 x4).f0) ((rd_T161 x0 x4).f1)).bind fun bt176=>(if x4<(x3.length:Int) then(laws_toGenS.l0 k x0 (x3.set (x4:Int).toNat (⟨bt176.1,bt176.2⟩:S70)) (wrap64 (x4+1))) else(none))) else(none)) else(some x3)
def laws_toGenS.f(k:Nat)(l0:List (S161)):Option ((List (S70))):=if 0≤(l0.length:Int) then(if((l0.length:Int):Int).toNat≤11728124029610 then(laws_toGenS.l0 k l0 (List.replicate ((l0.length:Int):Int).toNat z70) 0) else(none)) else(none)
theorem laws_toGenS.calls(k:Nat)(A0:Option Addr)(c0:Nat)(l0:List (S161))(r:List (S70))(w:World)(hr0:Kd.C k161 w A0 l0.length l0)(hc0:l0.length≤c0)(h:laws_toGenS.f k l0=some r):
 Calls Tryz.prog 124 #[.slice A0 l0.length c0] w fun e w'=>∃v0_:Value,e= .returned (v0_)∧Kd.R k70 70 w' w.heap.size (fun _=>True) v0_ r∧Below w.heap.size w w':=by
 have hu161:=Tryz.underlying161
 have hu70:=Tryz.underlying70
 have HR0:=zz hr0
 have HC0:=zz hc0
 clear hr0 hc0
 have HB:=zz (Below.refl w.heap.size w)
 unfold laws_toGenS.f at h
 have H:=h
 clear h
 by_cases c2:0≤(l0.length:Int)
 case neg=>exact zno H c2
 rw[if_pos c2] at H
 have c2b0:=eq_true c2
 have c2b1:=z1 c2
 clear c2
 by_cases c3:((l0.length:Int):Int).toNat≤11728124029610
 case neg=>exact zno H c3
 rw[if_pos c3] at H
 have c3b0:=eq_true c3
 have c3b1:=z1 c3
 clear c3
 obtain⟨y172,hy172⟩:∃y_:List (S70),y_=(List.replicate ((l0.length:Int):Int).toNat z70):=⟨_,rfl⟩
 replace H:(laws_toGenS.l0 k l0 y172 0)=some r:=by first|(rw[hy172];with_reducible exact H)|(have H2_:=(Option.bind_some _ _).symm.trans H;rw[hy172];with_reducible exact H2_)|(have H2_:=(Option.bind_some _ _).symm.trans H;with_reducible exact H2_)|with_reducible exact H|(rw[hy172];exact H)|exact H
 have Ny172:=zz hy172
 clear hy172
 have H':=zz H
 clear H
 go_enter Tryz.func124,Tryz.ntmps124
 go_wp2_with(first|(refine zN 7 ?_;refine Kd.R_make k70 _ 70 rfl (N:=7) rfl 65 _ _ rfl (l0.length:Int) rfl rfl Tryz.underlying65 (.agg #[(.int .i64 0),(.string ⟨#[]⟩)]) 24 info70 rfl (by decide) (by omega) z70 (ok:=fun _=>True) (okp:=fun _=>True) (k70_mkM _ _ _ z70) (fun _ hk=>hk) trivial (z2) (Nat.le_trans (Nat.mul_le_mul_right _ (z2:(l0.length:Int).toNat≤11728124029610)) (by omega)) (Below.refl _ _) (Nat.le_refl _) ?_;intro v173 w4 ho5 hb hg_ hnew_;clear hg_ hnew_;(first|rw[←Ny172.out] at ho5|(simp only[Int.reduceToNat] at ho5;rw[←Ny172.out] at ho5));have HO174:=zz (Kd.vH ho5 (qG zb));replace HB:=zz (zv zb hb);clear hb ho5))
 go_loopg[4] k (fun kq v4 w'=>∃(x3_1:List (S70)) (x4_1:Int),v4= .int .i64 x4_1∧qB (laws_toGenS.l0 kq l0 x3_1 x4_1=some r)∧qB (kq≤k)∧qB (Kd.R k70 70 w' w.heap.size (fun _=>True) v173 x3_1)∧qB (Below w.heap.size w w'))
 case atStart=>exact⟨(y172),(0),zr,H',⟨Nat.le_refl _⟩,⟨by(with_reducible repeat(first|apply Kd.qU|apply Kd.qT|apply Kd.qX));exact HO174.out⟩,⟨zb⟩⟩
 case round=>
  clear H'
  try clear c1
  try clear c2
  try clear c2b0
  try clear c2b1
  try clear p2
  try clear c3
  try clear c3b0
  try clear c3b1
  obtain⟨x3_1,x4_1,rfl,HA,HK1,HO_3,HB⟩:=hrel
  cases gk with
  |zero=>exact absurd HA.out (by simp[laws_toGenS.l0])
  |succ k1=>
   have H:=HA.out
   clear HA
   simp only[laws_toGenS.l0] at H
   by_cases c6:x4_1<(l0.length:Int)
   case neg=>
    rw[if_neg c6] at H
    have c6b0:=z0 c6
    clear c6
    obtain rfl:=zi H
    go_wp2
    go_ret
    exact⟨_,ze,by(with_reducible repeat(first|apply Kd.qU|apply Kd.qT|apply Kd.qX));exact HO_3.out,zb⟩
   rw[if_pos c6] at H
   have c6b0:=z1 c6
   clear c6
   by_cases c7:0≤x4_1
   case neg=>exact zno H c7
   rw[if_pos c7] at H
   have c7b0:=z1 c7
   clear c7
   replace H:=zf H
   obtain⟨⟨t176,t177⟩,A80,H⟩:=H
   try dsimp only at H
   have A8:=zz A80
   clear A80
   by_cases c9:x4_1<(x3_1.length:Int)
   case neg=>exact zno H c9
   rw[if_pos c9] at H
   have c9b0:=z1 c9
   clear c9
   obtain⟨y178,hy178⟩:∃y_:List (S70),y_=(x3_1.set (x4_1:Int).toNat (⟨t176,t177⟩:S70)):=⟨_,rfl⟩
   replace H:(laws_toGenS.l0 k1 l0 y178 (wrap64 (x4_1+1)))=some r:=by first|(rw[hy178];with_reducible exact H)|(have H2_:=(Option.bind_some _ _).symm.trans H;rw[hy178];with_reducible exact H2_)|(have H2_:=(Option.bind_some _ _).symm.trans H;with_reducible exact H2_)|with_reducible exact H|(rw[hy178];exact H)|exact H
   have Ny178:=zz hy178
   clear hy178
   have H':=zz H
   clear H
   have p175:0≤(x4_1:Int):=z2
   have q175:x4_1<(l0.length:Int):=z2
   obtain⟨ad175,e175,hx175_0,hx175_1⟩:=at_T161 HR0.out x4_1 p175 q175
   cases e175
   replace hx175_0:=z3 HB.out hx175_0
   replace hx175_1:=z3 HB.out hx175_1
   replace p175:=eq_true p175
   replace q175:=eq_true q175
   go_wp2_with(first|(refine zL 144 20 Tryz.func144 #[.agg #[.int .i64 ((rd_T161 l0 x4_1).f0),.string ((rd_T161 l0 x4_1).f1)]] ?_;(with_reducible refine(laws_toGen.calls ((rd_T161 l0 x4_1).f0) ((rd_T161 l0 x4_1).f1) t176 t177 _ A8.out).mono ?_);rintro e w11 ⟨rfl,hb⟩;refine⟨_,rfl,?_⟩;replace HO_3:=zz (Kd.R_below (zR HO_3.out) hb);replace HB:=zz (zv zb hb);(try clear hb);(try clear hb2);(try clear hk);(try clear hi);have p10:0≤(x4_1:Int):=z2;have q10:(x4_1:Int)<((x3_1.length:Int):Int):=z2;obtain⟨go10,co10,eo10,gb10,gl10,cl10,HG10⟩:=Kd.R_form HO_3.out (by omega);(first|cases eo10|(injection eo10 with ea_ en_ ec_;(first|subst ea_|(injection ea_ with ea_;subst ea_));subst ec_;clear en_));have GB10:=zz gb10;have GG10:=zz HG10;clear gb10 gl10 HG10;obtain⟨ce10,hcl10,hM10,hcc10,hfr10⟩:=Kd.R_elem HO_3.out z70 (x4_1:Int) p10 q10;obtain rfl:=k70_openM hM10;have hx10_0:w11.cell? ⟨go10,(x4_1:Int).toNat*2,none⟩=some (.int .i64 ((qN x3_1 x4_1).f0)):=hcc10 0 _ rfl;have hx10_1:w11.cell? ⟨go10,(x4_1:Int).toNat*2+1,none⟩=some (.string ((qN x3_1 x4_1).f1)):=hcc10 1 _ rfl;have hf10_0:w11.frozen? ⟨go10,(x4_1:Int).toNat*2,none⟩=false:=hfr10 0;have hf10_1:w11.frozen? ⟨go10,(x4_1:Int).toNat*2+1,none⟩=false:=hfr10 1;clear hcl10 hcc10 hfr10 hM10;replace p10:=eq_true p10;replace q10:=eq_true q10;have HX12:=zz (show Kd.R k70 70 w11 w.heap.size (fun _=>True) (.slice (some ⟨go10,0,none⟩) x3_1.length co10) x3_1 from(zR HO_3.out));obtain⟨ce12,hcl12,hM12,hcc12,hfr12⟩:=Kd.R_elem HX12.out z70 (x4_1:Int) (z2) (by have h_:(x4_1:Int)<((x3_1.length:Int):Int):=z2;first|exact h_|(have e_:=(Kd.qS HO_3.out).1;omega)|simpa using h_);obtain rfl:=k70_openM hM12;have HP12:=Kd.R_seg HX12.out (x4_1:Int) (z2) (by have h_:(x4_1:Int)<((x3_1.length:Int):Int):=z2;first|exact h_|(have e_:=(Kd.qS HO_3.out).1;omega)|simpa using h_) (seg:=[.int .i64 t176,.string t177]) (j:=0) hcl12 hcc12 (show 2≤2 from by decide) (x':=(⟨t176,t177⟩:S70)) (k70_mkM _ _ _ (⟨t176,t177⟩:S70)) (fun _ hk=>hk);have hx12_0:=hcc12 0 _ rfl;(try simp only[show(k70).sz=2 from rfl,Nat.mul_one,Nat.add_zero] at hx12_0);have hf12_0:=hfr12 0;(try simp only[show(k70).sz=2 from rfl,Nat.mul_one,Nat.add_zero] at hf12_0);have hx12_1:=hcc12 1 _ rfl;(try simp only[show(k70).sz=2 from rfl,Nat.mul_one,Nat.add_zero] at hx12_1);have hf12_1:=hfr12 1;(try simp only[show(k70).sz=2 from rfl,Nat.mul_one,Nat.add_zero] at hf12_1);clear hcl12 hcc12 hfr12 hM12)|((with_reducible refine qY (t:=70) (p:=21) rfl ?_);refine qV (t:=70) (p:=21) (v:=?vo_w13) (w1:=((w11.setCell ⟨go10,(x4_1:Int).toNat*2,none⟩ (.int .i64 t176)).setCell ⟨go10,(x4_1:Int).toNat*2+1,none⟩ (.string t177))) ?hg ?ho ?hn ?hr ?_;(case ho=>rfl);(case hg=>rfl);(case hn=>rfl);(case hr=>first|(go_simp;done)|(go_simp;rfl));intro w13 hw;have hg:w11.grownBy w13 (some go10):=(by rw[hw];exact HP12.2);have hp_:Kd.R k70 70 w13 w.heap.size (fun _=>True) (.slice (some ⟨go10,0,none⟩) x3_1.length co10) y178:=(by rw[hw,Ny178.out];exact HP12.1);clear HP12;replace HO_3:=zz (hp_);replace HB:=zz ((by rw[hw];exact qM (qM (HB.out) GB10.out) GB10.out:Below w.heap.size w w13));clear hg hw hp_))
   go_roundg k1
   case measure=>have:=HK1.out;omega
   case rel=>exact⟨(y178),(wrap64 (x4_1+1)),zr,H',⟨by have:=HK1.out;omega⟩,⟨by(with_reducible repeat(first|apply Kd.qU|apply Kd.qT|apply Kd.qX));exact HO_3.out⟩,⟨zb⟩⟩
def laws_toProfile.f(k:Nat)(a0_0:ByteArray)(a0_1:Int)(l0_2:List (S161)):Option (ByteArray×Int×(List (S70))):=(laws_toGenS.f k l0_2).bind fun t182=>(some (a0_0,a0_1,t182))
theorem laws_toProfile.calls(k:Nat)(a0_0:ByteArray)(a0_1:Int)(A0_2:Option Addr)(c0_2:Nat)(l0_2:List (S161))(r1:ByteArray)(r2:Int)(r3:List (S70))(w:World)(hr0_2:Kd.C k161 w A0_2 l0_2.length l0_2)(hc0_2:l0_2.length≤c0_2)(h:laws_toProfile.f k a0_0 a0_1 l0_2=some (r1,r2,r3)):
 Calls Tryz.prog 86 #[.agg #[.string a0_0,.int .i64 a0_1,.slice A0_2 l0_2.length c0_2]] w fun e w'=>∃v2_:Value,e= .returned (.agg #[.string r1,.int .i64 r2,v2_])∧Kd.R k70 70 w' w.heap.size (fun _=>True) v2_ r3∧Below w.heap.size w w':=by
 have hu107:=Tryz.underlying107
 have hu67:=Tryz.underlying67
 have HR0_2:=zz hr0_2
 have HC0_2:=zz hc0_2
 clear hr0_2 hc0_2
 have HB:=zz (Below.refl w.heap.size w)
 unfold laws_toProfile.f at h
 have H:=h
 clear h
 replace H:=zf H
 obtain⟨t182,A20,H⟩:=H
 try dsimp only at H
 have A2:=zz A20
 clear A20
 simp only[Option.some.injEq,Prod.mk.injEq] at H
 obtain⟨rfl,rfl,rfl⟩:=H
 go_enter Tryz.func86,Tryz.ntmps86
 go_wp2_with(first|(refine zX 1 107 #[.string a0_0,.int .i64 a0_1,.slice A0_2 l0_2.length c0_2] ?_;intro gb179 hg w3 hbox hb;have BK179:=zz (hbox);have GW179:=zz ((zg:w.heap.size≤gb179));have GE179:=zz ((zg:w.heap.size≤gb179));replace HB:=zz (zv zb hb);clear hb hbox hg)|(refine zX 2 67 #[.string (⟨#[]⟩:ByteArray),.int .i64 0,.slice none 0 0] ?_;intro gb180 hg w4 hbox hb;have BK180:=zz (hbox);have GW180:=zz ((zg:w.heap.size≤gb180));have GE180:=zz ((zg:w.heap.size≤gb180));replace HB:=zz (zv zb hb);have NB179_180:=zz (zH BK179 hg);have NB180_179:=zz (zI BK179 hg);replace BK179:=zz (zJ BK179 hb);clear hb hbox hg)|(refine zX 3 67 #[.string (⟨#[]⟩:ByteArray),.int .i64 0,.slice none 0 0] ?_;intro gb181 hg w5 hbox hb;have BK181:=zz (hbox);have GW181:=zz ((zg:w.heap.size≤gb181));have GE181:=zz ((zg:w.heap.size≤gb181));replace HB:=zz (zv zb hb);have NB179_181:=zz (zH BK179 hg);have NB181_179:=zz (zI BK179 hg);replace BK179:=zz (zJ BK179 hb);have NB180_181:=zz (zH BK180 hg);have NB181_180:=zz (zI BK180 hg);replace BK180:=zz (zJ BK180 hb);clear hb hbox hg;have hnb6:=NB179_180.out;have hnc6:=NB180_179.out;have hnb7:=NB179_181.out;have hnc7:=NB181_179.out;obtain⟨hcz8_0,hcz8_1,hcz8_2,hfz8_0,hfz8_1,hfz8_2⟩:=zc3 BK179.out;have hnb9:=NB181_180.out;have hnc9:=NB180_181.out;obtain⟨hcz10_0,hcz10_1,hcz10_2,hfz10_0,hfz10_1,hfz10_2⟩:=zc3 BK181.out)|(refine zL 124 12 Tryz.func124 #[.slice A0_2 l0_2.length c0_2] ?_;(with_reducible refine(laws_toGenS.calls k _ _ l0_2 t182 _ ?s1 ?s2 A2.out).mono ?_);(case s1=>exact Kd.qC HR0_2.out zb);(case s2=>exact HC0_2.out);rintro e w11 ⟨v183,rfl,ho0,hb⟩;refine⟨_,rfl,?_⟩;have HO184:=zz (Kd.vH ho0 (qG zb));replace BK179:=zz (vE (g:=gb179) (o:= .cells #[.string a0_0,.int .i64 a0_1,.slice A0_2 l0_2.length c0_2] 107 (0,0)) (by(with_reducible repeat(first|refine qJ ?_ _|refine qK ?_|refine qF ?_ _));refine blk_far ?_ NB179_181.out _;(with_reducible repeat(first|refine qJ ?_ _|refine qK ?_|refine qF ?_ _));refine blk_far ?_ NB179_181.out _;(with_reducible repeat(first|refine qJ ?_ _|refine qK ?_|refine qF ?_ _));exact BK179.out) hb);replace BK180:=zz (vE (g:=gb180) (o:= .cells #[.string (⟨#[]⟩:ByteArray),.int .i64 0,.slice none 0 0] 67 (0,0)) (by(with_reducible repeat(first|refine qJ ?_ _|refine qK ?_|refine qF ?_ _));refine blk_far ?_ NB180_181.out _;(with_reducible repeat(first|refine qJ ?_ _|refine qK ?_|refine qF ?_ _));refine blk_far ?_ NB180_181.out _;(with_reducible repeat(first|refine qJ ?_ _|refine qK ?_|refine qF ?_ _));exact BK180.out) hb);replace BK181:=zz (vE (g:=gb181) (o:= .cells #[.string a0_0,.int .i64 a0_1,.slice none 0 0] 67 (0,0)) (by(with_reducible repeat(first|refine qJ ?_ _|refine qK ?_|refine qF ?_ _));refine qP (cs:= #[.string a0_0,.int .i64 0,.slice none 0 0]) ?_ 1 _ rfl;(with_reducible repeat(first|refine qJ ?_ _|refine qK ?_|refine qF ?_ _));refine qP (cs:= #[.string (⟨#[]⟩:ByteArray),.int .i64 0,.slice none 0 0]) ?_ 0 _ rfl;(with_reducible repeat(first|refine qJ ?_ _|refine qK ?_|refine qF ?_ _));exact BK181.out) hb);replace HB:=zz (zv zb hb);(try clear hb);(try clear hb2);(try clear hk);(try clear hi);(try clear ho0);obtain⟨Ao12,co12,eo12⟩:=Kd.vG HO184.out;subst eo12;obtain⟨hcz13_0,hcz13_1,hcz13_2,hfz13_0,hfz13_1,hfz13_2⟩:=zc3 BK181.out;obtain⟨hcz14_0,hcz14_1,hcz14_2,hfz14_0,hfz14_1,hfz14_2⟩:=zc3 BK180.out))
 refine bodyPost_ret (results_cell_row rfl _ _ gb180 67 #[.string a0_0,.int .i64 a0_1,.slice Ao12 t182.length co12] (0,0) _ rfl (by(with_reducible repeat(first|refine qJ ?_ _|refine qK ?_|refine qF ?_ _));refine qP (cs:= #[.string a0_0,.int .i64 a0_1,.slice none 0 0]) ?_ 2 _ rfl;(with_reducible repeat(first|refine qJ ?_ _|refine qK ?_|refine qF ?_ _));refine qP (cs:= #[.string a0_0,.int .i64 0,.slice none 0 0]) ?_ 1 _ rfl;(with_reducible repeat(first|refine qJ ?_ _|refine qK ?_|refine qF ?_ _));refine qP (cs:= #[.string (⟨#[]⟩:ByteArray),.int .i64 0,.slice none 0 0]) ?_ 0 _ rfl;(with_reducible repeat(first|refine qJ ?_ _|refine qK ?_|refine qF ?_ _));refine blk_far ?_ NB180_181.out _;(with_reducible repeat(first|refine qJ ?_ _|refine qK ?_|refine qF ?_ _));exact BK180.out) Tryz.underlying67 rfl zk) rfl ?_
 exact⟨_,ze,by(with_reducible repeat(first|apply Kd.qU|apply Kd.qT|apply Kd.qX));exact Kd.vF (Kd.R_far (p:=⟨gb180,2,none⟩) (Kd.R_far (p:=⟨gb180,1,none⟩) (Kd.R_far (p:=⟨gb180,0,none⟩) (Kd.R_far (p:=⟨gb181,2,none⟩) (Kd.R_types (Kd.R_types HO184.out BK181.out (by decide)) BK180.out (by decide)) (fun _ hk=>hk.1.2) (.slice Ao12 t182.length co12)) (fun _ hk=>hk.2) (.string a0_0)) (fun _ hk=>hk.2) (.int .i64 a0_1)) (fun _ hk=>hk.2) (.slice Ao12 t182.length co12)) (fun _ hk=>trivial),zb⟩
section
attribute [local go_sem] run_store_one
def laws_toProfileS.l0:Nat→List (S107)→List (S67)→Int→Option ((List (S67)))
 |0,_,_,_=>none
 |k+1,x0,x3,x4=>if x4<(x0.length:Int) then(if 0≤x4 then((laws_toProfile.f k ((rd_T107 x0 x4).f0) ((rd_T107 x0 x4).f1) ((rd_T107 x0 x4).f2)).bind fun bt189=>(if x4<(x3.length:Int) then(laws_toProfileS.l0 k x0 (x3.set (x4:Int).toNat (⟨bt189.1,bt189.2.1,bt189.2.2⟩:S67)) (wrap64 (x4+1))) else(none))) else(none)) else(some x3)
def laws_toProfileS.f(k:Nat)(l0:List (S107)):Option ((List (S67))):=if 0≤(l0.length:Int) then(if((l0.length:Int):Int).toNat≤5864062014805 then(laws_toProfileS.l0 k l0 (List.replicate ((l0.length:Int):Int).toNat z67) 0) else(none)) else(none)
theorem laws_toProfileS.calls(k:Nat)(A0:Option Addr)(c0:Nat)(l0:List (S107))(r:List (S67))(w:World)(hr0:Kd.C k107 w A0 l0.length l0)(hc0:l0.length≤c0)(h:laws_toProfileS.f k l0=some r):
 Calls Tryz.prog 39 #[.slice A0 l0.length c0] w fun e w'=>∃v0_:Value,e= .returned (v0_)∧Kd.S k67 67 w' w.heap.size (fun _=>True) v0_ r∧Below w.heap.size w w':=by
 have hu107:=Tryz.underlying107
 have hu67:=Tryz.underlying67
 have HR0:=zz hr0
 have HC0:=zz hc0
 clear hr0 hc0
 have HB:=zz (Below.refl w.heap.size w)
 unfold laws_toProfileS.f at h
 have H:=h
 clear h
 by_cases c2:0≤(l0.length:Int)
 case neg=>exact zno H c2
 rw[if_pos c2] at H
 have c2b0:=eq_true c2
 have c2b1:=z1 c2
 clear c2
 by_cases c3:((l0.length:Int):Int).toNat≤5864062014805
 case neg=>exact zno H c3
 rw[if_pos c3] at H
 have c3b0:=eq_true c3
 have c3b1:=z1 c3
 clear c3
 obtain⟨y185,hy185⟩:∃y_:List (S67),y_=(List.replicate ((l0.length:Int):Int).toNat z67):=⟨_,rfl⟩
 replace H:(laws_toProfileS.l0 k l0 y185 0)=some r:=by first|(rw[hy185];with_reducible exact H)|(have H2_:=(Option.bind_some _ _).symm.trans H;rw[hy185];with_reducible exact H2_)|(have H2_:=(Option.bind_some _ _).symm.trans H;with_reducible exact H2_)|with_reducible exact H|(rw[hy185];exact H)|exact H
 have Ny185:=zz hy185
 clear hy185
 have H':=zz H
 clear H
 go_enter Tryz.func39,Tryz.ntmps39
 go_wp2_with(first|(refine zN 7 ?_;refine Kd.S_make k67 _ 67 rfl (N:=7) rfl 31 _ _ rfl (l0.length:Int) rfl rfl Tryz.underlying31 (.agg #[(.string ⟨#[]⟩),(.int .i64 0),(.slice none 0 0)]) 48 info67 rfl (by decide) (by omega) z67 (ok:=fun _=>True) (okp:=fun _=>True) (k67_mkM _ _ _ z67 (Kd.R_nil _ _ _ _ _)) (fun _ hk=>hk) trivial (z2) (Nat.le_trans (Nat.mul_le_mul_right _ (z2:(l0.length:Int).toNat≤5864062014805)) (by omega)) (Below.refl _ _) (Nat.le_refl _) ?_;intro v186 w4 ho5 hb hg_ hnew_;clear hg_ hnew_;(first|rw[←Ny185.out] at ho5|(simp only[Int.reduceToNat] at ho5;rw[←Ny185.out] at ho5));have HO187:=zz (Kd.S_lower ho5 (qG zb));replace HB:=zz (zv zb hb);clear hb ho5))
 go_loopg[4] k (fun kq v4 w'=>∃(x3_1:List (S67)) (x4_1:Int),v4= .int .i64 x4_1∧qB (laws_toProfileS.l0 kq l0 x3_1 x4_1=some r)∧qB (kq≤k)∧qB (Kd.S k67 67 w' w.heap.size (fun _=>True) v186 x3_1)∧qB (Below w.heap.size w w'))
 case atStart=>exact⟨(y185),(0),zr,H',⟨Nat.le_refl _⟩,⟨by(with_reducible repeat(first|apply Kd.S_alloc|apply Kd.S_drewN|apply Kd.S_drew));exact HO187.out⟩,⟨zb⟩⟩
 case round=>
  clear H'
  try clear c2
  try clear c2b0
  try clear c2b1
  try clear p2
  try clear c3
  try clear c3b0
  try clear c3b1
  obtain⟨x3_1,x4_1,rfl,HA,HK1,HO_3,HB⟩:=hrel
  cases gk with
  |zero=>exact absurd HA.out (by simp[laws_toProfileS.l0])
  |succ k1=>
   have H:=HA.out
   clear HA
   simp only[laws_toProfileS.l0] at H
   by_cases c6:x4_1<(l0.length:Int)
   case neg=>
    rw[if_neg c6] at H
    have c6b0:=z0 c6
    clear c6
    obtain rfl:=zi H
    go_wp2
    go_ret
    exact⟨_,ze,by(with_reducible repeat(first|apply Kd.S_alloc|apply Kd.S_drewN|apply Kd.S_drew));exact HO_3.out,zb⟩
   rw[if_pos c6] at H
   have c6b0:=z1 c6
   clear c6
   by_cases c7:0≤x4_1
   case neg=>exact zno H c7
   rw[if_pos c7] at H
   have c7b0:=z1 c7
   clear c7
   replace H:=zf H
   obtain⟨⟨t189,t190,t191⟩,A80,H⟩:=H
   try dsimp only at H
   have A8:=zz A80
   clear A80
   by_cases c9:x4_1<(x3_1.length:Int)
   case neg=>exact zno H c9
   rw[if_pos c9] at H
   have c9b0:=z1 c9
   clear c9
   obtain⟨y194,hy194⟩:∃y_:List (S67),y_=(x3_1.set (x4_1:Int).toNat (⟨t189,t190,t191⟩:S67)):=⟨_,rfl⟩
   replace H:(laws_toProfileS.l0 k1 l0 y194 (wrap64 (x4_1+1)))=some r:=by first|(rw[hy194];with_reducible exact H)|(have H2_:=(Option.bind_some _ _).symm.trans H;rw[hy194];with_reducible exact H2_)|(have H2_:=(Option.bind_some _ _).symm.trans H;with_reducible exact H2_)|with_reducible exact H|(rw[hy194];exact H)|exact H
   have Ny194:=zz hy194
   clear hy194
   have H':=zz H
   clear H
   have p188:0≤(x4_1:Int):=z2
   have q188:x4_1<(l0.length:Int):=z2
   obtain⟨ad188,A188_2,c188_2,e188,hx188_0,hx188_1,hx188_2,hl188_2,hi188_2⟩:=at_T107 HR0.out x4_1 p188 q188
   cases e188
   replace hx188_0:=z3 HB.out hx188_0
   replace hx188_1:=z3 HB.out hx188_1
   replace hx188_2:=z3 HB.out hx188_2
   have HR188_2:=zz hi188_2
   have HC188_2:=zz hl188_2
   clear hi188_2 hl188_2
   replace p188:=eq_true p188
   replace q188:=eq_true q188
   go_wp2_with(first|(refine zL 86 20 Tryz.func86 #[.agg #[.string ((rd_T107 l0 x4_1).f0),.int .i64 ((rd_T107 l0 x4_1).f1),.slice A188_2 ((rd_T107 l0 x4_1).f2).length c188_2]] ?_;(with_reducible refine(laws_toProfile.calls k1 ((rd_T107 l0 x4_1).f0) ((rd_T107 l0 x4_1).f1) _ _ ((rd_T107 l0 x4_1).f2) t189 t190 t191 _ ?s1 ?s2 A8.out).mono ?_);(case s1=>exact zc HR188_2.out);(case s2=>exact HC188_2.out);rintro e w11 ⟨v192,rfl,ho0,hb⟩;refine⟨_,rfl,?_⟩;replace HO_3:=zz (Kd.S_elder' (zS HO_3.out) (Kd.R_base ho0) hb);have HO193:=zz (Kd.vH ho0 (qG zb));replace HB:=zz (zv zb hb);(try clear hb);(try clear hb2);(try clear hk);(try clear hi);(try clear ho0);have p10:0≤(x4_1:Int):=z2;have q10:(x4_1:Int)<((x3_1.length:Int):Int):=z2;obtain⟨go10,co10,eo10,gb10,gl10,cl10,HG10⟩:=Kd.S_form HO_3.out (by omega);(first|cases eo10|(injection eo10 with ea_ en_ ec_;(first|subst ea_|(injection ea_ with ea_;subst ea_));subst ec_;clear en_));have GB10:=zz gb10;have GG10:=zz HG10;clear gb10 gl10 HG10;obtain⟨_,ce10,hcl10,hM10,hcc10,hfr10,_,_⟩:=Kd.S_elem HO_3.out z67 (x4_1:Int) p10 q10;obtain⟨ve10_2,rfl,ge10_2⟩:=k67_openM hM10;have hx10_0:w11.cell? ⟨go10,(x4_1:Int).toNat*3,none⟩=some (.string ((qD x3_1 x4_1).f0)):=hcc10 0 _ rfl;have hx10_1:w11.cell? ⟨go10,(x4_1:Int).toNat*3+1,none⟩=some (.int .i64 ((qD x3_1 x4_1).f1)):=hcc10 1 _ rfl;have hx10_2:w11.cell? ⟨go10,(x4_1:Int).toNat*3+2,none⟩=some (ve10_2):=hcc10 2 _ rfl;have hf10_0:w11.frozen? ⟨go10,(x4_1:Int).toNat*3,none⟩=false:=hfr10 0;have hf10_1:w11.frozen? ⟨go10,(x4_1:Int).toNat*3+1,none⟩=false:=hfr10 1;have hf10_2:w11.frozen? ⟨go10,(x4_1:Int).toNat*3+2,none⟩=false:=hfr10 2;clear hcl10 hcc10 hfr10 hM10;replace p10:=eq_true p10;replace q10:=eq_true q10;have n_:=zz (Kd.S_mono (ok':=(fun k_=>some k_≠(v192:Value).ownBlock)) HO_3.out (fun k_ hk=>hk.2));clear HO_3;have HO_3:=n_;clear n_;have HX12:=zz (show Kd.S k67 67 w11 w.heap.size (fun k_=>((fun _=>True)) k_∧¬((fun k_=>some k_=(v192:Value).ownBlock)) k_) (.slice (some ⟨go10,0,none⟩) x3_1.length co10) x3_1 from(by(with_reducible repeat(first|apply Kd.S_alloc|apply Kd.S_drewN|apply Kd.S_drew));exact Kd.S_mono HO_3.out (fun k_ hk=>⟨trivial,fun e_=>hk e_⟩)));obtain⟨oki12,ce12,hcl12,hM12,hcc12,hfr12,hoki12,hH12⟩:=Kd.S_elem HX12.out z67 (x4_1:Int) (z2) (by have h_:(x4_1:Int)<((x3_1.length:Int):Int):=z2;first|exact h_|(have e_:=(Kd.S_reads' HO_3.out).1;omega)|simpa using h_);obtain⟨ve12_2,rfl,ge12_2⟩:=k67_openM hM12;have HP12:=Kd.S_seg hH12 (z2) (by have h_:(x4_1:Int)<((x3_1.length:Int):Int):=z2;first|exact h_|(have e_:=(Kd.S_reads' HO_3.out).1;omega)|simpa using h_) (seg:=[.string t189,.int .i64 t190,v192]) (j:=0) (show 3≤3 from by decide) (x':=(⟨t189,t190,t191⟩:S67)) (k67_mkM _ _ _ (⟨t189,t190,t191⟩:S67) (Kd.vF (Kd.R_tight rfl (Kd.vF (ok':=fun k_=>((fun _=>True)) k_∧k_≠go10) (Kd.R_apart' (HO193.out) (Kd.S_typed HO_3.out) (by decide)) (fun k_ hk=>⟨trivial,fun e_=>(hk.2) (by rw[e_];rfl)⟩))) (fun _ h_=>Or.inr (h_)))) (fun _ hk=>hk) (fun k_ hk_=>((Kd.vF (ok':=fun k_=>((fun _=>True)) k_∧k_≠go10) (Kd.R_apart' (HO193.out) (Kd.S_typed HO_3.out) (by decide)) (fun k_ hk=>⟨trivial,fun e_=>(hk.2) (by rw[e_];rfl)⟩))).1 k_ hk_.symm);have hx12_0:=hcc12 0 _ rfl;(try simp only[show(k67).sz=3 from rfl,Nat.mul_one,Nat.add_zero] at hx12_0);have hf12_0:=hfr12 0;(try simp only[show(k67).sz=3 from rfl,Nat.mul_one,Nat.add_zero] at hf12_0);have hx12_1:=hcc12 1 _ rfl;(try simp only[show(k67).sz=3 from rfl,Nat.mul_one,Nat.add_zero] at hx12_1);have hf12_1:=hfr12 1;(try simp only[show(k67).sz=3 from rfl,Nat.mul_one,Nat.add_zero] at hf12_1);have hx12_2:=hcc12 2 _ rfl;(try simp only[show(k67).sz=3 from rfl,Nat.mul_one,Nat.add_zero] at hx12_2);have hf12_2:=hfr12 2;(try simp only[show(k67).sz=3 from rfl,Nat.mul_one,Nat.add_zero] at hf12_2);clear hcl12 hcc12 hfr12 hM12 hoki12 hH12;have hone12_2:=R_one HO193.out)|((with_reducible refine qY (t:=67) (p:=21) rfl ?_);refine qV (t:=67) (p:=21) (v:=?vo_w13) (w1:=(((w11.setCell ⟨go10,(x4_1:Int).toNat*3,none⟩ (.string t189)).setCell ⟨go10,(x4_1:Int).toNat*3+1,none⟩ (.int .i64 t190)).setCell ⟨go10,(x4_1:Int).toNat*3+2,none⟩ (v192))) ?hg ?ho ?hn ?hr ?_;(case ho=>rfl);(case hg=>rfl);(case hn=>rfl);(case hr=>first|(go_simp;done)|(go_simp;rfl));intro w13 hw;have hg:w11.grownBy w13 (some go10):=(by rw[hw];exact HP12.2);have hp_:Kd.S k67 67 w13 w.heap.size (fun _=>True) (.slice (some ⟨go10,0,none⟩) x3_1.length co10) y194:=(by rw[hw,Ny194.out];exact HP12.1);clear HP12;replace HO_3:=zz (hp_);replace HB:=zz ((by rw[hw];exact qM (qM (qM (HB.out) GB10.out) GB10.out) GB10.out:Below w.heap.size w w13));clear HO193;clear hg hw hp_))
   go_roundg k1
   case measure=>have:=HK1.out;omega
   case rel=>exact⟨(y194),(wrap64 (x4_1+1)),zr,H',⟨by have:=HK1.out;omega⟩,⟨by(with_reducible repeat(first|apply Kd.S_alloc|apply Kd.S_drewN|apply Kd.S_drew));exact HO_3.out⟩,⟨zb⟩⟩
end
def laws_toPending.f(k:Nat)(a0_0:ByteArray)(l0_1:List (S159))(a0_2:ByteArray):Option (ByteArray×(List (S96))×ByteArray):=(laws_toEntryS.f k l0_1).bind fun t198=>(some (a0_0,t198,a0_2))
theorem laws_toPending.calls(k:Nat)(a0_0:ByteArray)(A0_1:Option Addr)(c0_1:Nat)(l0_1:List (S159))(a0_2:ByteArray)(r1:ByteArray)(r2:List (S96))(r3:ByteArray)(w:World)(hr0_1:Kd.C k159 w A0_1 l0_1.length l0_1)(hc0_1:l0_1.length≤c0_1)(h:laws_toPending.f k a0_0 l0_1 a0_2=some (r1,r2,r3)):
 Calls Tryz.prog 87 #[.agg #[.string a0_0,.slice A0_1 l0_1.length c0_1,.string a0_2]] w fun e w'=>∃v1_:Value,e= .returned (.agg #[.string r1,v1_,.string r3])∧Kd.R k96 96 w' w.heap.size (fun _=>True) v1_ r2∧Below w.heap.size w w':=by
 have hu110:=Tryz.underlying110
 have hu61:=Tryz.underlying61
 have HR0_1:=zz hr0_1
 have HC0_1:=zz hc0_1
 clear hr0_1 hc0_1
 have HB:=zz (Below.refl w.heap.size w)
 unfold laws_toPending.f at h
 have H:=h
 clear h
 replace H:=zf H
 obtain⟨t198,A20,H⟩:=H
 try dsimp only at H
 have A2:=zz A20
 clear A20
 simp only[Option.some.injEq,Prod.mk.injEq] at H
 obtain⟨rfl,rfl,rfl⟩:=H
 go_enter Tryz.func87,Tryz.ntmps87
 go_wp2_with(first|(refine zX 1 110 #[.string a0_0,.slice A0_1 l0_1.length c0_1,.string a0_2] ?_;intro gb195 hg w3 hbox hb;have BK195:=zz (hbox);have GW195:=zz ((zg:w.heap.size≤gb195));have GE195:=zz ((zg:w.heap.size≤gb195));replace HB:=zz (zv zb hb);clear hb hbox hg)|(refine zX 2 61 #[.string (⟨#[]⟩:ByteArray),.slice none 0 0,.string (⟨#[]⟩:ByteArray)] ?_;intro gb196 hg w4 hbox hb;have BK196:=zz (hbox);have GW196:=zz ((zg:w.heap.size≤gb196));have GE196:=zz ((zg:w.heap.size≤gb196));replace HB:=zz (zv zb hb);have NB195_196:=zz (zH BK195 hg);have NB196_195:=zz (zI BK195 hg);replace BK195:=zz (zJ BK195 hb);clear hb hbox hg)|(refine zX 3 61 #[.string (⟨#[]⟩:ByteArray),.slice none 0 0,.string (⟨#[]⟩:ByteArray)] ?_;intro gb197 hg w5 hbox hb;have BK197:=zz (hbox);have GW197:=zz ((zg:w.heap.size≤gb197));have GE197:=zz ((zg:w.heap.size≤gb197));replace HB:=zz (zv zb hb);have NB195_197:=zz (zH BK195 hg);have NB197_195:=zz (zI BK195 hg);replace BK195:=zz (zJ BK195 hb);have NB196_197:=zz (zH BK196 hg);have NB197_196:=zz (zI BK196 hg);replace BK196:=zz (zJ BK196 hb);clear hb hbox hg;have hnb6:=NB195_196.out;have hnc6:=NB196_195.out;have hnb7:=NB195_197.out;have hnc7:=NB197_195.out;obtain⟨hcz8_0,hcz8_1,hcz8_2,hfz8_0,hfz8_1,hfz8_2⟩:=zc3 BK195.out;have hnb9:=NB197_196.out;have hnc9:=NB196_197.out;obtain⟨hcz10_0,hcz10_1,hcz10_2,hfz10_0,hfz10_1,hfz10_2⟩:=zc3 BK197.out)|(refine zL 123 9 Tryz.func123 #[.slice A0_1 l0_1.length c0_1] ?_;(with_reducible refine(laws_toEntryS.calls k _ _ l0_1 t198 _ ?s1 ?s2 A2.out).mono ?_);(case s1=>exact Kd.qC HR0_1.out zb);(case s2=>exact HC0_1.out);rintro e w11 ⟨v199,rfl,ho0,hb⟩;refine⟨_,rfl,?_⟩;have HO200:=zz (Kd.vH ho0 (qG zb));replace BK195:=zz (vE (g:=gb195) (o:= .cells #[.string a0_0,.slice A0_1 l0_1.length c0_1,.string a0_2] 110 (0,0)) (by(with_reducible repeat(first|refine qJ ?_ _|refine qK ?_|refine qF ?_ _));refine blk_far ?_ NB195_197.out _;(with_reducible repeat(first|refine qJ ?_ _|refine qK ?_|refine qF ?_ _));exact BK195.out) hb);replace BK196:=zz (vE (g:=gb196) (o:= .cells #[.string (⟨#[]⟩:ByteArray),.slice none 0 0,.string (⟨#[]⟩:ByteArray)] 61 (0,0)) (by(with_reducible repeat(first|refine qJ ?_ _|refine qK ?_|refine qF ?_ _));refine blk_far ?_ NB196_197.out _;(with_reducible repeat(first|refine qJ ?_ _|refine qK ?_|refine qF ?_ _));exact BK196.out) hb);replace BK197:=zz (vE (g:=gb197) (o:= .cells #[.string a0_0,.slice none 0 0,.string (⟨#[]⟩:ByteArray)] 61 (0,0)) (by(with_reducible repeat(first|refine qJ ?_ _|refine qK ?_|refine qF ?_ _));refine qP (cs:= #[.string (⟨#[]⟩:ByteArray),.slice none 0 0,.string (⟨#[]⟩:ByteArray)]) ?_ 0 _ rfl;(with_reducible repeat(first|refine qJ ?_ _|refine qK ?_|refine qF ?_ _));exact BK197.out) hb);replace HB:=zz (zv zb hb);(try clear hb);(try clear hb2);(try clear hk);(try clear hi);(try clear ho0);obtain⟨Ao12,co12,eo12⟩:=Kd.vG HO200.out;subst eo12;obtain⟨hcz13_0,hcz13_1,hcz13_2,hfz13_0,hfz13_1,hfz13_2⟩:=zc3 BK197.out;obtain⟨hcz14_0,hcz14_1,hcz14_2,hfz14_0,hfz14_1,hfz14_2⟩:=zc3 BK195.out;obtain⟨hcz15_0,hcz15_1,hcz15_2,hfz15_0,hfz15_1,hfz15_2⟩:=zc3 BK196.out))
 refine bodyPost_ret (results_cell_row rfl _ _ gb196 61 #[.string a0_0,.slice Ao12 t198.length co12,.string a0_2] (0,0) _ rfl (by(with_reducible repeat(first|refine qJ ?_ _|refine qK ?_|refine qF ?_ _));refine qP (cs:= #[.string a0_0,.slice Ao12 t198.length co12,.string (⟨#[]⟩:ByteArray)]) ?_ 2 _ rfl;(with_reducible repeat(first|refine qJ ?_ _|refine qK ?_|refine qF ?_ _));refine qP (cs:= #[.string a0_0,.slice none 0 0,.string (⟨#[]⟩:ByteArray)]) ?_ 1 _ rfl;(with_reducible repeat(first|refine qJ ?_ _|refine qK ?_|refine qF ?_ _));refine qP (cs:= #[.string (⟨#[]⟩:ByteArray),.slice none 0 0,.string (⟨#[]⟩:ByteArray)]) ?_ 0 _ rfl;(with_reducible repeat(first|refine qJ ?_ _|refine qK ?_|refine qF ?_ _));refine blk_far ?_ NB196_197.out _;(with_reducible repeat(first|refine qJ ?_ _|refine qK ?_|refine qF ?_ _));refine blk_far ?_ NB196_197.out _;(with_reducible repeat(first|refine qJ ?_ _|refine qK ?_|refine qF ?_ _));exact BK196.out) Tryz.underlying61 rfl zk) rfl ?_
 exact⟨_,ze,by(with_reducible repeat(first|apply Kd.qU|apply Kd.qT|apply Kd.qX));exact Kd.vF (Kd.R_far (p:=⟨gb196,2,none⟩) (Kd.R_far (p:=⟨gb196,1,none⟩) (Kd.R_far (p:=⟨gb196,0,none⟩) (Kd.R_far (p:=⟨gb197,2,none⟩) (Kd.R_far (p:=⟨gb197,1,none⟩) (Kd.R_types (Kd.R_types HO200.out BK197.out (by decide)) BK196.out (by decide)) (fun _ hk=>hk.1.2) (.slice Ao12 t198.length co12)) (fun _ hk=>hk.1.2) (.string a0_2)) (fun _ hk=>hk.2) (.string a0_0)) (fun _ hk=>hk.2) (.slice Ao12 t198.length co12)) (fun _ hk=>hk.2) (.string a0_2)) (fun _ hk=>trivial),zb⟩
section
attribute [local go_sem] run_store_one
def laws_toPendingS.l0:Nat→List (S110)→List (S61)→Int→Option ((List (S61)))
 |0,_,_,_=>none
 |k+1,x0,x3,x4=>if x4<(x0.length:Int) then(if 0≤x4 then((laws_toPending.f k ((rd_T110 x0 x4).f0) ((rd_T110 x0 x4).f1) ((rd_T110 x0 x4).f2)).bind fun bt205=>(if x4<(x3.length:Int) then(laws_toPendingS.l0 k x0 (x3.set (x4:Int).toNat (⟨bt205.1,bt205.2.1,bt205.2.2⟩:S61)) (wrap64 (x4+1))) else(none))) else(none)) else(some x3)
def laws_toPendingS.f(k:Nat)(l0:List (S110)):Option ((List (S61))):=if 0≤(l0.length:Int) then(if((l0.length:Int):Int).toNat≤5026338869833 then(laws_toPendingS.l0 k l0 (List.replicate ((l0.length:Int):Int).toNat z61) 0) else(none)) else(none)
theorem laws_toPendingS.calls(k:Nat)(A0:Option Addr)(c0:Nat)(l0:List (S110))(r:List (S61))(w:World)(hr0:Kd.C k110 w A0 l0.length l0)(hc0:l0.length≤c0)(h:laws_toPendingS.f k l0=some r):
 Calls Tryz.prog 40 #[.slice A0 l0.length c0] w fun e w'=>∃v0_:Value,e= .returned (v0_)∧Kd.S k61 61 w' w.heap.size (fun _=>True) v0_ r∧Below w.heap.size w w':=by
 have hu110:=Tryz.underlying110
 have hu61:=Tryz.underlying61
 have HR0:=zz hr0
 have HC0:=zz hc0
 clear hr0 hc0
 have HB:=zz (Below.refl w.heap.size w)
 unfold laws_toPendingS.f at h
 have H:=h
 clear h
 by_cases c2:0≤(l0.length:Int)
 case neg=>exact zno H c2
 rw[if_pos c2] at H
 have c2b0:=eq_true c2
 have c2b1:=z1 c2
 clear c2
 by_cases c3:((l0.length:Int):Int).toNat≤5026338869833
 case neg=>exact zno H c3
 rw[if_pos c3] at H
 have c3b0:=eq_true c3
 have c3b1:=z1 c3
 clear c3
 obtain⟨y201,hy201⟩:∃y_:List (S61),y_=(List.replicate ((l0.length:Int):Int).toNat z61):=⟨_,rfl⟩
 replace H:(laws_toPendingS.l0 k l0 y201 0)=some r:=by first|(rw[hy201];with_reducible exact H)|(have H2_:=(Option.bind_some _ _).symm.trans H;rw[hy201];with_reducible exact H2_)|(have H2_:=(Option.bind_some _ _).symm.trans H;with_reducible exact H2_)|with_reducible exact H|(rw[hy201];exact H)|exact H
 have Ny201:=zz hy201
 clear hy201
 have H':=zz H
 clear H
 go_enter Tryz.func40,Tryz.ntmps40
 go_wp2_with(first|(refine zN 7 ?_;refine Kd.S_make k61 _ 61 rfl (N:=7) rfl 32 _ _ rfl (l0.length:Int) rfl rfl Tryz.underlying32 (.agg #[(.string ⟨#[]⟩),(.slice none 0 0),(.string ⟨#[]⟩)]) 56 info61 rfl (by decide) (by omega) z61 (ok:=fun _=>True) (okp:=fun _=>True) (k61_mkM _ _ _ z61 (Kd.R_nil _ _ _ _ _)) (fun _ hk=>hk) trivial (z2) (Nat.le_trans (Nat.mul_le_mul_right _ (z2:(l0.length:Int).toNat≤5026338869833)) (by omega)) (Below.refl _ _) (Nat.le_refl _) ?_;intro v202 w4 ho5 hb hg_ hnew_;clear hg_ hnew_;(first|rw[←Ny201.out] at ho5|(simp only[Int.reduceToNat] at ho5;rw[←Ny201.out] at ho5));have HO203:=zz (Kd.S_lower ho5 (qG zb));replace HB:=zz (zv zb hb);clear hb ho5))
 go_loopg[4] k (fun kq v4 w'=>∃(x3_1:List (S61)) (x4_1:Int),v4= .int .i64 x4_1∧qB (laws_toPendingS.l0 kq l0 x3_1 x4_1=some r)∧qB (kq≤k)∧qB (Kd.S k61 61 w' w.heap.size (fun _=>True) v202 x3_1)∧qB (Below w.heap.size w w'))
 case atStart=>exact⟨(y201),(0),zr,H',⟨Nat.le_refl _⟩,⟨by(with_reducible repeat(first|apply Kd.S_alloc|apply Kd.S_drewN|apply Kd.S_drew));exact HO203.out⟩,⟨zb⟩⟩
 case round=>
  clear H'
  try clear c2
  try clear c2b0
  try clear c2b1
  try clear p2
  try clear c3
  try clear c3b0
  try clear c3b1
  try clear c4
  obtain⟨x3_1,x4_1,rfl,HA,HK1,HO_3,HB⟩:=hrel
  cases gk with
  |zero=>exact absurd HA.out (by simp[laws_toPendingS.l0])
  |succ k1=>
   have H:=HA.out
   clear HA
   simp only[laws_toPendingS.l0] at H
   by_cases c6:x4_1<(l0.length:Int)
   case neg=>
    rw[if_neg c6] at H
    have c6b0:=z0 c6
    clear c6
    obtain rfl:=zi H
    go_wp2
    go_ret
    exact⟨_,ze,by(with_reducible repeat(first|apply Kd.S_alloc|apply Kd.S_drewN|apply Kd.S_drew));exact HO_3.out,zb⟩
   rw[if_pos c6] at H
   have c6b0:=z1 c6
   clear c6
   by_cases c7:0≤x4_1
   case neg=>exact zno H c7
   rw[if_pos c7] at H
   have c7b0:=z1 c7
   clear c7
   replace H:=zf H
   obtain⟨⟨t205,t206,t209⟩,A80,H⟩:=H
   try dsimp only at H
   have A8:=zz A80
   clear A80
   by_cases c9:x4_1<(x3_1.length:Int)
   case neg=>exact zno H c9
   rw[if_pos c9] at H
   have c9b0:=z1 c9
   clear c9
   obtain⟨y210,hy210⟩:∃y_:List (S61),y_=(x3_1.set (x4_1:Int).toNat (⟨t205,t206,t209⟩:S61)):=⟨_,rfl⟩
   replace H:(laws_toPendingS.l0 k1 l0 y210 (wrap64 (x4_1+1)))=some r:=by first|(rw[hy210];with_reducible exact H)|(have H2_:=(Option.bind_some _ _).symm.trans H;rw[hy210];with_reducible exact H2_)|(have H2_:=(Option.bind_some _ _).symm.trans H;with_reducible exact H2_)|with_reducible exact H|(rw[hy210];exact H)|exact H
   have Ny210:=zz hy210
   clear hy210
   have H':=zz H
   clear H
   have p204:0≤(x4_1:Int):=z2
   have q204:x4_1<(l0.length:Int):=z2
   obtain⟨ad204,A204_1,c204_1,e204,hx204_0,hx204_1,hx204_2,hl204_1,hi204_1⟩:=at_T110 HR0.out x4_1 p204 q204
   cases e204
   replace hx204_0:=z3 HB.out hx204_0
   replace hx204_1:=z3 HB.out hx204_1
   replace hx204_2:=z3 HB.out hx204_2
   have HR204_1:=zz hi204_1
   have HC204_1:=zz hl204_1
   clear hi204_1 hl204_1
   replace p204:=eq_true p204
   replace q204:=eq_true q204
   go_wp2_with(first|(refine zL 87 20 Tryz.func87 #[.agg #[.string ((rd_T110 l0 x4_1).f0),.slice A204_1 ((rd_T110 l0 x4_1).f1).length c204_1,.string ((rd_T110 l0 x4_1).f2)]] ?_;(with_reducible refine(laws_toPending.calls k1 ((rd_T110 l0 x4_1).f0) _ _ ((rd_T110 l0 x4_1).f1) ((rd_T110 l0 x4_1).f2) t205 t206 t209 _ ?s1 ?s2 A8.out).mono ?_);(case s1=>exact zc HR204_1.out);(case s2=>exact HC204_1.out);rintro e w11 ⟨v207,rfl,ho0,hb⟩;refine⟨_,rfl,?_⟩;replace HO_3:=zz (Kd.S_elder' (zS HO_3.out) (Kd.R_base ho0) hb);have HO208:=zz (Kd.vH ho0 (qG zb));replace HB:=zz (zv zb hb);(try clear hb);(try clear hb2);(try clear hk);(try clear hi);(try clear ho0);have p10:0≤(x4_1:Int):=z2;have q10:(x4_1:Int)<((x3_1.length:Int):Int):=z2;obtain⟨go10,co10,eo10,gb10,gl10,cl10,HG10⟩:=Kd.S_form HO_3.out (by omega);(first|cases eo10|(injection eo10 with ea_ en_ ec_;(first|subst ea_|(injection ea_ with ea_;subst ea_));subst ec_;clear en_));have GB10:=zz gb10;have GG10:=zz HG10;clear gb10 gl10 HG10;obtain⟨_,ce10,hcl10,hM10,hcc10,hfr10,_,_⟩:=Kd.S_elem HO_3.out z61 (x4_1:Int) p10 q10;obtain⟨ve10_1,rfl,ge10_1⟩:=k61_openM hM10;have hx10_0:w11.cell? ⟨go10,(x4_1:Int).toNat*3,none⟩=some (.string ((rd_T61 x3_1 x4_1).f0)):=hcc10 0 _ rfl;have hx10_1:w11.cell? ⟨go10,(x4_1:Int).toNat*3+1,none⟩=some (ve10_1):=hcc10 1 _ rfl;have hx10_2:w11.cell? ⟨go10,(x4_1:Int).toNat*3+2,none⟩=some (.string ((rd_T61 x3_1 x4_1).f2)):=hcc10 2 _ rfl;have hf10_0:w11.frozen? ⟨go10,(x4_1:Int).toNat*3,none⟩=false:=hfr10 0;have hf10_1:w11.frozen? ⟨go10,(x4_1:Int).toNat*3+1,none⟩=false:=hfr10 1;have hf10_2:w11.frozen? ⟨go10,(x4_1:Int).toNat*3+2,none⟩=false:=hfr10 2;clear hcl10 hcc10 hfr10 hM10;replace p10:=eq_true p10;replace q10:=eq_true q10;have n_:=zz (Kd.S_mono (ok':=(fun k_=>some k_≠(v207:Value).ownBlock)) HO_3.out (fun k_ hk=>hk.2));clear HO_3;have HO_3:=n_;clear n_;have HX12:=zz (show Kd.S k61 61 w11 w.heap.size (fun k_=>((fun _=>True)) k_∧¬((fun k_=>some k_=(v207:Value).ownBlock)) k_) (.slice (some ⟨go10,0,none⟩) x3_1.length co10) x3_1 from(by(with_reducible repeat(first|apply Kd.S_alloc|apply Kd.S_drewN|apply Kd.S_drew));exact Kd.S_mono HO_3.out (fun k_ hk=>⟨trivial,fun e_=>hk e_⟩)));obtain⟨oki12,ce12,hcl12,hM12,hcc12,hfr12,hoki12,hH12⟩:=Kd.S_elem HX12.out z61 (x4_1:Int) (z2) (by have h_:(x4_1:Int)<((x3_1.length:Int):Int):=z2;first|exact h_|(have e_:=(Kd.S_reads' HO_3.out).1;omega)|simpa using h_);obtain⟨ve12_1,rfl,ge12_1⟩:=k61_openM hM12;have HP12:=Kd.S_seg hH12 (z2) (by have h_:(x4_1:Int)<((x3_1.length:Int):Int):=z2;first|exact h_|(have e_:=(Kd.S_reads' HO_3.out).1;omega)|simpa using h_) (seg:=[.string t205,v207,.string t209]) (j:=0) (show 3≤3 from by decide) (x':=(⟨t205,t206,t209⟩:S61)) (k61_mkM _ _ _ (⟨t205,t206,t209⟩:S61) (Kd.vF (Kd.R_tight rfl (Kd.vF (ok':=fun k_=>((fun _=>True)) k_∧k_≠go10) (Kd.R_apart' (HO208.out) (Kd.S_typed HO_3.out) (by decide)) (fun k_ hk=>⟨trivial,fun e_=>(hk.2) (by rw[e_];rfl)⟩))) (fun _ h_=>Or.inr (h_)))) (fun _ hk=>hk) (fun k_ hk_=>((Kd.vF (ok':=fun k_=>((fun _=>True)) k_∧k_≠go10) (Kd.R_apart' (HO208.out) (Kd.S_typed HO_3.out) (by decide)) (fun k_ hk=>⟨trivial,fun e_=>(hk.2) (by rw[e_];rfl)⟩))).1 k_ hk_.symm);have hx12_0:=hcc12 0 _ rfl;(try simp only[show(k61).sz=3 from rfl,Nat.mul_one,Nat.add_zero] at hx12_0);have hf12_0:=hfr12 0;(try simp only[show(k61).sz=3 from rfl,Nat.mul_one,Nat.add_zero] at hf12_0);have hx12_1:=hcc12 1 _ rfl;(try simp only[show(k61).sz=3 from rfl,Nat.mul_one,Nat.add_zero] at hx12_1);have hf12_1:=hfr12 1;(try simp only[show(k61).sz=3 from rfl,Nat.mul_one,Nat.add_zero] at hf12_1);have hx12_2:=hcc12 2 _ rfl;(try simp only[show(k61).sz=3 from rfl,Nat.mul_one,Nat.add_zero] at hx12_2);have hf12_2:=hfr12 2;(try simp only[show(k61).sz=3 from rfl,Nat.mul_one,Nat.add_zero] at hf12_2);clear hcl12 hcc12 hfr12 hM12 hoki12 hH12;have hone12_1:=R_one HO208.out)|((with_reducible refine qY (t:=61) (p:=21) rfl ?_);refine qV (t:=61) (p:=21) (v:=?vo_w13) (w1:=(((w11.setCell ⟨go10,(x4_1:Int).toNat*3,none⟩ (.string t205)).setCell ⟨go10,(x4_1:Int).toNat*3+1,none⟩ (v207)).setCell ⟨go10,(x4_1:Int).toNat*3+2,none⟩ (.string t209))) ?hg ?ho ?hn ?hr ?_;(case ho=>rfl);(case hg=>rfl);(case hn=>rfl);(case hr=>first|(go_simp;done)|(go_simp;rfl));intro w13 hw;have hg:w11.grownBy w13 (some go10):=(by rw[hw];exact HP12.2);have hp_:Kd.S k61 61 w13 w.heap.size (fun _=>True) (.slice (some ⟨go10,0,none⟩) x3_1.length co10) y210:=(by rw[hw,Ny210.out];exact HP12.1);clear HP12;replace HO_3:=zz (hp_);replace HB:=zz ((by rw[hw];exact qM (qM (qM (HB.out) GB10.out) GB10.out) GB10.out:Below w.heap.size w w13));clear HO208;clear hg hw hp_))
   go_roundg k1
   case measure=>have:=HK1.out;omega
   case rel=>exact⟨(y210),(wrap64 (x4_1+1)),zr,H',⟨by have:=HK1.out;omega⟩,⟨by(with_reducible repeat(first|apply Kd.S_alloc|apply Kd.S_drewN|apply Kd.S_drew));exact HO_3.out⟩,⟨zb⟩⟩
end
def laws_toNext.f(a0_0:ByteArray)(a0_1:ByteArray):Option (ByteArray×ByteArray):=some (a0_0,a0_1)
theorem laws_toNext.calls(a0_0:ByteArray)(a0_1:ByteArray)(r1:ByteArray)(r2:ByteArray)(w:World)(h:laws_toNext.f a0_0 a0_1=some (r1,r2)):
 Calls Tryz.prog 88 #[.agg #[.string a0_0,.string a0_1]] w fun e w'=>e= .returned (.agg #[.string r1,.string r2])∧Below w.heap.size w w':=by
 have hu112:=Tryz.underlying112
 have hu64:=Tryz.underlying64
 have HB:=zz (Below.refl w.heap.size w)
 unfold laws_toNext.f at h
 have H:=h
 clear h
 simp only[Option.some.injEq,Prod.mk.injEq] at H
 obtain⟨rfl,rfl⟩:=H
 go_enter Tryz.func88,Tryz.ntmps88
 go_wp2_with(first|(refine zX 1 112 #[.string a0_0,.string a0_1] ?_;intro gb211 hg w2 hbox hb;have BK211:=zz (hbox);have GW211:=zz ((zg:w.heap.size≤gb211));have GE211:=zz ((zg:w.heap.size≤gb211));replace HB:=zz (zv zb hb);clear hb hbox hg)|(refine zX 2 64 #[.string (⟨#[]⟩:ByteArray),.string (⟨#[]⟩:ByteArray)] ?_;intro gb212 hg w3 hbox hb;have BK212:=zz (hbox);have GW212:=zz ((zg:w.heap.size≤gb212));have GE212:=zz ((zg:w.heap.size≤gb212));replace HB:=zz (zv zb hb);have NB211_212:=zz (zH BK211 hg);have NB212_211:=zz (zI BK211 hg);replace BK211:=zz (zJ BK211 hb);clear hb hbox hg)|(refine zX 3 64 #[.string (⟨#[]⟩:ByteArray),.string (⟨#[]⟩:ByteArray)] ?_;intro gb213 hg w4 hbox hb;have BK213:=zz (hbox);have GW213:=zz ((zg:w.heap.size≤gb213));have GE213:=zz ((zg:w.heap.size≤gb213));replace HB:=zz (zv zb hb);have NB211_213:=zz (zH BK211 hg);have NB213_211:=zz (zI BK211 hg);replace BK211:=zz (zJ BK211 hb);have NB212_213:=zz (zH BK212 hg);have NB213_212:=zz (zI BK212 hg);replace BK212:=zz (zJ BK212 hb);clear hb hbox hg;have hnb5:=NB211_212.out;have hnc5:=NB212_211.out;have hnb6:=NB211_213.out;have hnc6:=NB213_211.out;obtain⟨hcz7_0,hcz7_1,hfz7_0,hfz7_1⟩:=zc2 BK211.out;have hnb8:=NB213_212.out;have hnc8:=NB212_213.out;obtain⟨hcz9_0,hcz9_1,hfz9_0,hfz9_1⟩:=zc2 BK213.out;obtain⟨hcz10_0,hcz10_1,hfz10_0,hfz10_1⟩:=zc2 BK212.out))
 refine bodyPost_ret (results_cell_row rfl _ _ gb212 64 #[.string a0_0,.string a0_1] (0,0) _ rfl (by(with_reducible repeat(first|refine qJ ?_ _|refine qK ?_|refine qF ?_ _));refine qP (cs:= #[.string a0_0,.string (⟨#[]⟩:ByteArray)]) ?_ 1 _ rfl;(with_reducible repeat(first|refine qJ ?_ _|refine qK ?_|refine qF ?_ _));refine qP (cs:= #[.string (⟨#[]⟩:ByteArray),.string (⟨#[]⟩:ByteArray)]) ?_ 0 _ rfl;(with_reducible repeat(first|refine qJ ?_ _|refine qK ?_|refine qF ?_ _));refine blk_far ?_ NB212_213.out _;(with_reducible repeat(first|refine qJ ?_ _|refine qK ?_|refine qF ?_ _));refine blk_far ?_ NB212_213.out _;(with_reducible repeat(first|refine qJ ?_ _|refine qK ?_|refine qF ?_ _));exact BK212.out) Tryz.underlying64 rfl zk) rfl ?_
 exact⟨ze,zb⟩
def laws_toNextS.l0:Nat→List (S112)→List (S64)→Int→Option ((List (S64)))
 |0,_,_,_=>none
 |k+1,x0,x3,x4=>if x4<(x0.length:Int) then(if 0≤x4 then((laws_toNext.f ((rd_T112 x0 x4).f0) ((rd_T112 x0 x4).f1)).bind fun bt218=>(if x4<(x3.length:Int) then(laws_toNextS.l0 k x0 (x3.set (x4:Int).toNat (⟨bt218.1,bt218.2⟩:S64)) (wrap64 (x4+1))) else(none))) else(none)) else(some x3)
def laws_toNextS.f(k:Nat)(l0:List (S112)):Option ((List (S64))):=if 0≤(l0.length:Int) then(if((l0.length:Int):Int).toNat≤8796093022208 then(laws_toNextS.l0 k l0 (List.replicate ((l0.length:Int):Int).toNat z64) 0) else(none)) else(none)
theorem laws_toNextS.calls(k:Nat)(A0:Option Addr)(c0:Nat)(l0:List (S112))(r:List (S64))(w:World)(hr0:Kd.C k112 w A0 l0.length l0)(hc0:l0.length≤c0)(h:laws_toNextS.f k l0=some r):
 Calls Tryz.prog 41 #[.slice A0 l0.length c0] w fun e w'=>∃v0_:Value,e= .returned (v0_)∧Kd.R k64 64 w' w.heap.size (fun _=>True) v0_ r∧Below w.heap.size w w':=by
 have hu112:=Tryz.underlying112
 have hu64:=Tryz.underlying64
 have HR0:=zz hr0
 have HC0:=zz hc0
 clear hr0 hc0
 have HB:=zz (Below.refl w.heap.size w)
 unfold laws_toNextS.f at h
 have H:=h
 clear h
 by_cases c2:0≤(l0.length:Int)
 case neg=>exact zno H c2
 rw[if_pos c2] at H
 have c2b0:=eq_true c2
 have c2b1:=z1 c2
 clear c2
 by_cases c3:((l0.length:Int):Int).toNat≤8796093022208
 case neg=>exact zno H c3
 rw[if_pos c3] at H
 have c3b0:=eq_true c3
 have c3b1:=z1 c3
 clear c3
 obtain⟨y214,hy214⟩:∃y_:List (S64),y_=(List.replicate ((l0.length:Int):Int).toNat z64):=⟨_,rfl⟩
 replace H:(laws_toNextS.l0 k l0 y214 0)=some r:=by first|(rw[hy214];with_reducible exact H)|(have H2_:=(Option.bind_some _ _).symm.trans H;rw[hy214];with_reducible exact H2_)|(have H2_:=(Option.bind_some _ _).symm.trans H;with_reducible exact H2_)|with_reducible exact H|(rw[hy214];exact H)|exact H
 have Ny214:=zz hy214
 clear hy214
 have H':=zz H
 clear H
 go_enter Tryz.func41,Tryz.ntmps41
 go_wp2_with(first|(refine zN 7 ?_;refine Kd.R_make k64 _ 64 rfl (N:=7) rfl 33 _ _ rfl (l0.length:Int) rfl rfl Tryz.underlying33 (.agg #[(.string ⟨#[]⟩),(.string ⟨#[]⟩)]) 32 info64 rfl (by decide) (by omega) z64 (ok:=fun _=>True) (okp:=fun _=>True) (k64_mkM _ _ _ z64) (fun _ hk=>hk) trivial (z2) (Nat.le_trans (Nat.mul_le_mul_right _ (z2:(l0.length:Int).toNat≤8796093022208)) (by omega)) (Below.refl _ _) (Nat.le_refl _) ?_;intro v215 w4 ho5 hb hg_ hnew_;clear hg_ hnew_;(first|rw[←Ny214.out] at ho5|(simp only[Int.reduceToNat] at ho5;rw[←Ny214.out] at ho5));have HO216:=zz (Kd.vH ho5 (qG zb));replace HB:=zz (zv zb hb);clear hb ho5))
 go_loopg[4] k (fun kq v4 w'=>∃(x3_1:List (S64)) (x4_1:Int),v4= .int .i64 x4_1∧qB (laws_toNextS.l0 kq l0 x3_1 x4_1=some r)∧qB (kq≤k)∧qB (Kd.R k64 64 w' w.heap.size (fun _=>True) v215 x3_1)∧qB (Below w.heap.size w w'))
 case atStart=>exact⟨(y214),(0),zr,H',⟨Nat.le_refl _⟩,⟨by(with_reducible repeat(first|apply Kd.qU|apply Kd.qT|apply Kd.qX));exact HO216.out⟩,⟨zb⟩⟩
 case round=>
  clear H'
  try clear c2
  try clear c2b0
  try clear c2b1
  try clear p2
  try clear c3
  try clear c3b0
  try clear c3b1
  try clear c4
  obtain⟨x3_1,x4_1,rfl,HA,HK1,HO_3,HB⟩:=hrel
  cases gk with
  |zero=>exact absurd HA.out (by simp[laws_toNextS.l0])
  |succ k1=>
   have H:=HA.out
   clear HA
   simp only[laws_toNextS.l0] at H
   by_cases c6:x4_1<(l0.length:Int)
   case neg=>
    rw[if_neg c6] at H
    have c6b0:=z0 c6
    clear c6
    obtain rfl:=zi H
    go_wp2
    go_ret
    exact⟨_,ze,by(with_reducible repeat(first|apply Kd.qU|apply Kd.qT|apply Kd.qX));exact HO_3.out,zb⟩
   rw[if_pos c6] at H
   have c6b0:=z1 c6
   clear c6
   by_cases c7:0≤x4_1
   case neg=>exact zno H c7
   rw[if_pos c7] at H
   have c7b0:=z1 c7
   clear c7
   replace H:=zf H
   obtain⟨⟨t218,t219⟩,A80,H⟩:=H
   try dsimp only at H
   have A8:=zz A80
   clear A80
   by_cases c9:x4_1<(x3_1.length:Int)
   case neg=>exact zno H c9
   rw[if_pos c9] at H
   have c9b0:=z1 c9
   clear c9
   obtain⟨y220,hy220⟩:∃y_:List (S64),y_=(x3_1.set (x4_1:Int).toNat (⟨t218,t219⟩:S64)):=⟨_,rfl⟩
   replace H:(laws_toNextS.l0 k1 l0 y220 (wrap64 (x4_1+1)))=some r:=by first|(rw[hy220];with_reducible exact H)|(have H2_:=(Option.bind_some _ _).symm.trans H;rw[hy220];with_reducible exact H2_)|(have H2_:=(Option.bind_some _ _).symm.trans H;with_reducible exact H2_)|with_reducible exact H|(rw[hy220];exact H)|exact H
   have Ny220:=zz hy220
   clear hy220
   have H':=zz H
   clear H
   have p217:0≤(x4_1:Int):=z2
   have q217:x4_1<(l0.length:Int):=z2
   obtain⟨ad217,e217,hx217_0,hx217_1⟩:=at_T112 HR0.out x4_1 p217 q217
   cases e217
   replace hx217_0:=z3 HB.out hx217_0
   replace hx217_1:=z3 HB.out hx217_1
   replace p217:=eq_true p217
   replace q217:=eq_true q217
   go_wp2_with(first|(refine zL 88 20 Tryz.func88 #[.agg #[.string ((rd_T112 l0 x4_1).f0),.string ((rd_T112 l0 x4_1).f1)]] ?_;(with_reducible refine(laws_toNext.calls ((rd_T112 l0 x4_1).f0) ((rd_T112 l0 x4_1).f1) t218 t219 _ A8.out).mono ?_);rintro e w11 ⟨rfl,hb⟩;refine⟨_,rfl,?_⟩;replace HO_3:=zz (Kd.R_below (zR HO_3.out) hb);replace HB:=zz (zv zb hb);(try clear hb);(try clear hb2);(try clear hk);(try clear hi);have p10:0≤(x4_1:Int):=z2;have q10:(x4_1:Int)<((x3_1.length:Int):Int):=z2;obtain⟨go10,co10,eo10,gb10,gl10,cl10,HG10⟩:=Kd.R_form HO_3.out (by omega);(first|cases eo10|(injection eo10 with ea_ en_ ec_;(first|subst ea_|(injection ea_ with ea_;subst ea_));subst ec_;clear en_));have GB10:=zz gb10;have GG10:=zz HG10;clear gb10 gl10 HG10;obtain⟨ce10,hcl10,hM10,hcc10,hfr10⟩:=Kd.R_elem HO_3.out z64 (x4_1:Int) p10 q10;obtain rfl:=k64_openM hM10;have hx10_0:w11.cell? ⟨go10,(x4_1:Int).toNat*2,none⟩=some (.string ((rd_T64 x3_1 x4_1).f0)):=hcc10 0 _ rfl;have hx10_1:w11.cell? ⟨go10,(x4_1:Int).toNat*2+1,none⟩=some (.string ((rd_T64 x3_1 x4_1).f1)):=hcc10 1 _ rfl;have hf10_0:w11.frozen? ⟨go10,(x4_1:Int).toNat*2,none⟩=false:=hfr10 0;have hf10_1:w11.frozen? ⟨go10,(x4_1:Int).toNat*2+1,none⟩=false:=hfr10 1;clear hcl10 hcc10 hfr10 hM10;replace p10:=eq_true p10;replace q10:=eq_true q10;have HX12:=zz (show Kd.R k64 64 w11 w.heap.size (fun _=>True) (.slice (some ⟨go10,0,none⟩) x3_1.length co10) x3_1 from(zR HO_3.out));obtain⟨ce12,hcl12,hM12,hcc12,hfr12⟩:=Kd.R_elem HX12.out z64 (x4_1:Int) (z2) (by have h_:(x4_1:Int)<((x3_1.length:Int):Int):=z2;first|exact h_|(have e_:=(Kd.qS HO_3.out).1;omega)|simpa using h_);obtain rfl:=k64_openM hM12;have HP12:=Kd.R_seg HX12.out (x4_1:Int) (z2) (by have h_:(x4_1:Int)<((x3_1.length:Int):Int):=z2;first|exact h_|(have e_:=(Kd.qS HO_3.out).1;omega)|simpa using h_) (seg:=[.string t218,.string t219]) (j:=0) hcl12 hcc12 (show 2≤2 from by decide) (x':=(⟨t218,t219⟩:S64)) (k64_mkM _ _ _ (⟨t218,t219⟩:S64)) (fun _ hk=>hk);have hx12_0:=hcc12 0 _ rfl;(try simp only[show(k64).sz=2 from rfl,Nat.mul_one,Nat.add_zero] at hx12_0);have hf12_0:=hfr12 0;(try simp only[show(k64).sz=2 from rfl,Nat.mul_one,Nat.add_zero] at hf12_0);have hx12_1:=hcc12 1 _ rfl;(try simp only[show(k64).sz=2 from rfl,Nat.mul_one,Nat.add_zero] at hx12_1);have hf12_1:=hfr12 1;(try simp only[show(k64).sz=2 from rfl,Nat.mul_one,Nat.add_zero] at hf12_1);clear hcl12 hcc12 hfr12 hM12)|((with_reducible refine qY (t:=64) (p:=21) rfl ?_);refine qV (t:=64) (p:=21) (v:=?vo_w13) (w1:=((w11.setCell ⟨go10,(x4_1:Int).toNat*2,none⟩ (.string t218)).setCell ⟨go10,(x4_1:Int).toNat*2+1,none⟩ (.string t219))) ?hg ?ho ?hn ?hr ?_;(case ho=>rfl);(case hg=>rfl);(case hn=>rfl);(case hr=>first|(go_simp;done)|(go_simp;rfl));intro w13 hw;have hg:w11.grownBy w13 (some go10):=(by rw[hw];exact HP12.2);have hp_:Kd.R k64 64 w13 w.heap.size (fun _=>True) (.slice (some ⟨go10,0,none⟩) x3_1.length co10) y220:=(by rw[hw,Ny220.out];exact HP12.1);clear HP12;replace HO_3:=zz (hp_);replace HB:=zz ((by rw[hw];exact qM (qM (HB.out) GB10.out) GB10.out:Below w.heap.size w w13));clear hg hw hp_))
   go_roundg k1
   case measure=>have:=HK1.out;omega
   case rel=>exact⟨(y220),(wrap64 (x4_1+1)),zr,H',⟨by have:=HK1.out;omega⟩,⟨by(with_reducible repeat(first|apply Kd.qU|apply Kd.qT|apply Kd.qX));exact HO_3.out⟩,⟨zb⟩⟩
def laws_toWorld.f(k:Nat)(l0_0:List (S103))(l0_1:List (S107))(l0_2:List (S110))(l0_3:List (S112)):Option ((List (S94))×(List (S67))×(List (S61))×(List (S64))):=(laws_toItemS.f k l0_0).bind fun t224=>((laws_toProfileS.f k l0_1).bind fun t227=>((laws_toPendingS.f k l0_2).bind fun t230=>((laws_toNextS.f k l0_3).bind fun t233=>(some (t224,t227,t230,t233)))))
theorem laws_toWorld.calls(k:Nat)(A0_0:Option Addr)(c0_0:Nat)(l0_0:List (S103))(A0_1:Option Addr)(c0_1:Nat)(l0_1:List (S107))(A0_2:Option Addr)(c0_2:Nat)(l0_2:List (S110))(A0_3:Option Addr)(c0_3:Nat)(l0_3:List (S112))(r1:List (S94))(r2:List (S67))(r3:List (S61))(r4:List (S64))(w:World)(hr0_0:Kd.C k103 w A0_0 l0_0.length l0_0)(hc0_0:l0_0.length≤c0_0)(hr0_1:Kd.C k107 w A0_1 l0_1.length l0_1)(hc0_1:l0_1.length≤c0_1)(hr0_2:Kd.C k110 w A0_2 l0_2.length l0_2)(hc0_2:l0_2.length≤c0_2)(hr0_3:Kd.C k112 w A0_3 l0_3.length l0_3)(hc0_3:l0_3.length≤c0_3)(h:laws_toWorld.f k l0_0 l0_1 l0_2 l0_3=some (r1,r2,r3,r4)):
 Calls Tryz.prog 9 #[.agg #[.slice A0_0 l0_0.length c0_0,.slice A0_1 l0_1.length c0_1,.slice A0_2 l0_2.length c0_2,.slice A0_3 l0_3.length c0_3]] w fun e w'=>∃v0_ v1_ v2_ v3_:Value,e= .returned (.agg #[v0_,v1_,v2_,v3_])∧Kd.S k94 94 w' w.heap.size (fun _=>True) v0_ r1∧Kd.S k67 67 w' w.heap.size (fun _=>True) v1_ r2∧Kd.S k61 61 w' w.heap.size (fun _=>True) v2_ r3∧Kd.R k64 64 w' w.heap.size (fun _=>True) v3_ r4∧Below w.heap.size w w':=by
 have hu27:=Tryz.underlying27
 have hu35:=Tryz.underlying35
 have HR0_0:=zz hr0_0
 have HC0_0:=zz hc0_0
 clear hr0_0 hc0_0
 have HR0_1:=zz hr0_1
 have HC0_1:=zz hc0_1
 clear hr0_1 hc0_1
 have HR0_2:=zz hr0_2
 have HC0_2:=zz hc0_2
 clear hr0_2 hc0_2
 have HR0_3:=zz hr0_3
 have HC0_3:=zz hc0_3
 clear hr0_3 hc0_3
 have HB:=zz (Below.refl w.heap.size w)
 unfold laws_toWorld.f at h
 have H:=h
 clear h
 replace H:=zf H
 obtain⟨t224,A20,H⟩:=H
 try dsimp only at H
 have A2:=zz A20
 clear A20
 replace H:=zf H
 obtain⟨t227,A30,H⟩:=H
 try dsimp only at H
 have A3:=zz A30
 clear A30
 replace H:=zf H
 obtain⟨t230,A40,H⟩:=H
 try dsimp only at H
 have A4:=zz A40
 clear A40
 replace H:=zf H
 obtain⟨t233,A50,H⟩:=H
 try dsimp only at H
 have A5:=zz A50
 clear A50
 simp only[Option.some.injEq,Prod.mk.injEq] at H
 obtain⟨rfl,rfl,rfl,rfl⟩:=H
 go_enter Tryz.func9,Tryz.ntmps9
 go_wp2_with(first|(refine zX 1 27 #[.slice A0_0 l0_0.length c0_0,.slice A0_1 l0_1.length c0_1,.slice A0_2 l0_2.length c0_2,.slice A0_3 l0_3.length c0_3] ?_;intro gb221 hg w6 hbox hb;have BK221:=zz (hbox);have GW221:=zz ((zg:w.heap.size≤gb221));have GE221:=zz ((zg:w.heap.size≤gb221));replace HB:=zz (zv zb hb);clear hb hbox hg)|(refine zX 2 35 #[.slice none 0 0,.slice none 0 0,.slice none 0 0,.slice none 0 0] ?_;intro gb222 hg w7 hbox hb;have BK222:=zz (hbox);have GW222:=zz ((zg:w.heap.size≤gb222));have GE222:=zz ((zg:w.heap.size≤gb222));replace HB:=zz (zv zb hb);have NB221_222:=zz (zH BK221 hg);have NB222_221:=zz (zI BK221 hg);replace BK221:=zz (zJ BK221 hb);clear hb hbox hg)|(refine zX 3 35 #[.slice none 0 0,.slice none 0 0,.slice none 0 0,.slice none 0 0] ?_;intro gb223 hg w8 hbox hb;have BK223:=zz (hbox);have GW223:=zz ((zg:w.heap.size≤gb223));have GE223:=zz ((zg:w.heap.size≤gb223));replace HB:=zz (zv zb hb);have NB221_223:=zz (zH BK221 hg);have NB223_221:=zz (zI BK221 hg);replace BK221:=zz (zJ BK221 hb);have NB222_223:=zz (zH BK222 hg);have NB223_222:=zz (zI BK222 hg);replace BK222:=zz (zJ BK222 hb);clear hb hbox hg;have hnb9:=NB221_222.out;have hnc9:=NB222_221.out;have hnb10:=NB221_223.out;have hnc10:=NB223_221.out;obtain⟨hcz11_0,hcz11_1,hcz11_2,hcz11_3,hfz11_0,hfz11_1,hfz11_2,hfz11_3⟩:=zc4 BK221.out)|(refine zL 38 6 Tryz.func38 #[.slice A0_0 l0_0.length c0_0] ?_;(with_reducible refine(laws_toItemS.calls k _ _ l0_0 t224 _ ?s1 ?s2 A2.out).mono ?_);(case s1=>exact zc HR0_0.out);(case s2=>exact HC0_0.out);rintro e w12 ⟨v225,rfl,ho0,hb⟩;refine⟨_,rfl,?_⟩;have HO226:=zz (Kd.S_lower ho0 (qG zb));replace BK221:=zz (zJ BK221 hb);replace BK222:=zz (zJ BK222 hb);replace BK223:=zz (zJ BK223 hb);replace HB:=zz (zv zb hb);(try clear hb);(try clear hb2);(try clear hk);(try clear hi);(try clear ho0);obtain⟨Ao13,co13,eo13⟩:=Kd.S_slice HO226.out;subst eo13;have hnb14:=NB223_222.out;have hnc14:=NB222_223.out;obtain⟨hcz15_0,hcz15_1,hcz15_2,hcz15_3,hfz15_0,hfz15_1,hfz15_2,hfz15_3⟩:=zc4 BK223.out;obtain⟨hcz16_0,hcz16_1,hcz16_2,hcz16_3,hfz16_0,hfz16_1,hfz16_2,hfz16_3⟩:=zc4 BK221.out)|(refine zL 39 10 Tryz.func39 #[.slice A0_1 l0_1.length c0_1] ?_;(with_reducible refine(laws_toProfileS.calls k _ _ l0_1 t227 _ ?s1 ?s2 A3.out).mono ?_);(case s1=>exact Kd.qC HR0_1.out zb);(case s2=>exact HC0_1.out);rintro e w17 ⟨v228,rfl,ho0,hb⟩;refine⟨_,rfl,?_⟩;replace HO226:=zz (Kd.S_below (by(with_reducible repeat(first|apply Kd.S_alloc|apply Kd.S_drewN|apply Kd.S_drew));exact(Kd.S_mono (Kd.S_far (p:=⟨gb223,0,none⟩) (Kd.S_types HO226.out BK223.out (by decide)) (fun _ hk=>hk.2) (.slice Ao13 t224.length co13)) (fun _ h_=>h_.1))) hb);have HO229:=zz (Kd.S_lower ho0 (qG zb));replace BK221:=zz (vE (g:=gb221) (o:= .cells #[.slice A0_0 l0_0.length c0_0,.slice A0_1 l0_1.length c0_1,.slice A0_2 l0_2.length c0_2,.slice A0_3 l0_3.length c0_3] 27 (0,0)) (by(with_reducible repeat(first|refine qJ ?_ _|refine qK ?_|refine qF ?_ _));refine blk_far ?_ NB221_223.out _;(with_reducible repeat(first|refine qJ ?_ _|refine qK ?_|refine qF ?_ _));exact BK221.out) hb);replace BK222:=zz (vE (g:=gb222) (o:= .cells #[.slice none 0 0,.slice none 0 0,.slice none 0 0,.slice none 0 0] 35 (0,0)) (by(with_reducible repeat(first|refine qJ ?_ _|refine qK ?_|refine qF ?_ _));refine blk_far ?_ NB222_223.out _;(with_reducible repeat(first|refine qJ ?_ _|refine qK ?_|refine qF ?_ _));exact BK222.out) hb);replace BK223:=zz (vE (g:=gb223) (o:= .cells #[.slice Ao13 t224.length co13,.slice none 0 0,.slice none 0 0,.slice none 0 0] 35 (0,0)) (by(with_reducible repeat(first|refine qJ ?_ _|refine qK ?_|refine qF ?_ _));refine qP (cs:= #[.slice none 0 0,.slice none 0 0,.slice none 0 0,.slice none 0 0]) ?_ 0 _ rfl;(with_reducible repeat(first|refine qJ ?_ _|refine qK ?_|refine qF ?_ _));exact BK223.out) hb);replace HB:=zz (zv zb hb);(try clear hb);(try clear hb2);(try clear hk);(try clear hi);(try clear ho0);obtain⟨Ao18,co18,eo18⟩:=Kd.S_slice HO229.out;subst eo18;obtain⟨hcz19_0,hcz19_1,hcz19_2,hcz19_3,hfz19_0,hfz19_1,hfz19_2,hfz19_3⟩:=zc4 BK223.out;obtain⟨hcz20_0,hcz20_1,hcz20_2,hcz20_3,hfz20_0,hfz20_1,hfz20_2,hfz20_3⟩:=zc4 BK221.out)|(refine zL 40 14 Tryz.func40 #[.slice A0_2 l0_2.length c0_2] ?_;(with_reducible refine(laws_toPendingS.calls k _ _ l0_2 t230 _ ?s1 ?s2 A4.out).mono ?_);(case s1=>exact Kd.qC HR0_2.out zb);(case s2=>exact HC0_2.out);rintro e w21 ⟨v231,rfl,ho0,hb⟩;refine⟨_,rfl,?_⟩;replace HO226:=zz (Kd.S_below (by(with_reducible repeat(first|apply Kd.S_alloc|apply Kd.S_drewN|apply Kd.S_drew));exact(Kd.S_mono (Kd.S_far (p:=⟨gb223,1,none⟩) (Kd.S_types HO226.out BK223.out (by decide)) (fun _ hk=>hk.2) (.slice Ao18 t227.length co18)) (fun _ h_=>h_.1))) hb);replace HO229:=zz (Kd.S_below (by(with_reducible repeat(first|apply Kd.S_alloc|apply Kd.S_drewN|apply Kd.S_drew));exact(Kd.S_mono (Kd.S_far (p:=⟨gb223,1,none⟩) (Kd.S_types HO229.out BK223.out (by decide)) (fun _ hk=>hk.2) (.slice Ao18 t227.length co18)) (fun _ h_=>h_.1))) hb);have HO232:=zz (Kd.S_lower ho0 (qG zb));replace BK221:=zz (vE (g:=gb221) (o:= .cells #[.slice A0_0 l0_0.length c0_0,.slice A0_1 l0_1.length c0_1,.slice A0_2 l0_2.length c0_2,.slice A0_3 l0_3.length c0_3] 27 (0,0)) (by(with_reducible repeat(first|refine qJ ?_ _|refine qK ?_|refine qF ?_ _));refine blk_far ?_ NB221_223.out _;(with_reducible repeat(first|refine qJ ?_ _|refine qK ?_|refine qF ?_ _));exact BK221.out) hb);replace BK222:=zz (vE (g:=gb222) (o:= .cells #[.slice none 0 0,.slice none 0 0,.slice none 0 0,.slice none 0 0] 35 (0,0)) (by(with_reducible repeat(first|refine qJ ?_ _|refine qK ?_|refine qF ?_ _));refine blk_far ?_ NB222_223.out _;(with_reducible repeat(first|refine qJ ?_ _|refine qK ?_|refine qF ?_ _));exact BK222.out) hb);replace BK223:=zz (vE (g:=gb223) (o:= .cells #[.slice Ao13 t224.length co13,.slice Ao18 t227.length co18,.slice none 0 0,.slice none 0 0] 35 (0,0)) (by(with_reducible repeat(first|refine qJ ?_ _|refine qK ?_|refine qF ?_ _));refine qP (cs:= #[.slice Ao13 t224.length co13,.slice none 0 0,.slice none 0 0,.slice none 0 0]) ?_ 1 _ rfl;(with_reducible repeat(first|refine qJ ?_ _|refine qK ?_|refine qF ?_ _));exact BK223.out) hb);replace HB:=zz (zv zb hb);(try clear hb);(try clear hb2);(try clear hk);(try clear hi);(try clear ho0);obtain⟨Ao22,co22,eo22⟩:=Kd.S_slice HO232.out;subst eo22;obtain⟨hcz23_0,hcz23_1,hcz23_2,hcz23_3,hfz23_0,hfz23_1,hfz23_2,hfz23_3⟩:=zc4 BK223.out;obtain⟨hcz24_0,hcz24_1,hcz24_2,hcz24_3,hfz24_0,hfz24_1,hfz24_2,hfz24_3⟩:=zc4 BK221.out)|(refine zL 41 18 Tryz.func41 #[.slice A0_3 l0_3.length c0_3] ?_;(with_reducible refine(laws_toNextS.calls k _ _ l0_3 t233 _ ?s1 ?s2 A5.out).mono ?_);(case s1=>exact Kd.qC HR0_3.out zb);(case s2=>exact HC0_3.out);rintro e w25 ⟨v234,rfl,ho0,hb⟩;refine⟨_,rfl,?_⟩;replace HO226:=zz (Kd.S_below (by(with_reducible repeat(first|apply Kd.S_alloc|apply Kd.S_drewN|apply Kd.S_drew));exact(Kd.S_mono (Kd.S_far (p:=⟨gb223,2,none⟩) (Kd.S_types HO226.out BK223.out (by decide)) (fun _ hk=>hk.2) (.slice Ao22 t230.length co22)) (fun _ h_=>h_.1))) hb);replace HO229:=zz (Kd.S_below (by(with_reducible repeat(first|apply Kd.S_alloc|apply Kd.S_drewN|apply Kd.S_drew));exact(Kd.S_mono (Kd.S_far (p:=⟨gb223,2,none⟩) (Kd.S_types HO229.out BK223.out (by decide)) (fun _ hk=>hk.2) (.slice Ao22 t230.length co22)) (fun _ h_=>h_.1))) hb);replace HO232:=zz (Kd.S_below (by(with_reducible repeat(first|apply Kd.S_alloc|apply Kd.S_drewN|apply Kd.S_drew));exact(Kd.S_mono (Kd.S_far (p:=⟨gb223,2,none⟩) (Kd.S_types HO232.out BK223.out (by decide)) (fun _ hk=>hk.2) (.slice Ao22 t230.length co22)) (fun _ h_=>h_.1))) hb);have HO235:=zz (Kd.vH ho0 (qG zb));replace BK221:=zz (vE (g:=gb221) (o:= .cells #[.slice A0_0 l0_0.length c0_0,.slice A0_1 l0_1.length c0_1,.slice A0_2 l0_2.length c0_2,.slice A0_3 l0_3.length c0_3] 27 (0,0)) (by(with_reducible repeat(first|refine qJ ?_ _|refine qK ?_|refine qF ?_ _));refine blk_far ?_ NB221_223.out _;(with_reducible repeat(first|refine qJ ?_ _|refine qK ?_|refine qF ?_ _));exact BK221.out) hb);replace BK222:=zz (vE (g:=gb222) (o:= .cells #[.slice none 0 0,.slice none 0 0,.slice none 0 0,.slice none 0 0] 35 (0,0)) (by(with_reducible repeat(first|refine qJ ?_ _|refine qK ?_|refine qF ?_ _));refine blk_far ?_ NB222_223.out _;(with_reducible repeat(first|refine qJ ?_ _|refine qK ?_|refine qF ?_ _));exact BK222.out) hb);replace BK223:=zz (vE (g:=gb223) (o:= .cells #[.slice Ao13 t224.length co13,.slice Ao18 t227.length co18,.slice Ao22 t230.length co22,.slice none 0 0] 35 (0,0)) (by(with_reducible repeat(first|refine qJ ?_ _|refine qK ?_|refine qF ?_ _));refine qP (cs:= #[.slice Ao13 t224.length co13,.slice Ao18 t227.length co18,.slice none 0 0,.slice none 0 0]) ?_ 2 _ rfl;(with_reducible repeat(first|refine qJ ?_ _|refine qK ?_|refine qF ?_ _));exact BK223.out) hb);replace HB:=zz (zv zb hb);(try clear hb);(try clear hb2);(try clear hk);(try clear hi);(try clear ho0);obtain⟨Ao26,co26,eo26⟩:=Kd.vG HO235.out;subst eo26;obtain⟨hcz27_0,hcz27_1,hcz27_2,hcz27_3,hfz27_0,hfz27_1,hfz27_2,hfz27_3⟩:=zc4 BK223.out;obtain⟨hcz28_0,hcz28_1,hcz28_2,hcz28_3,hfz28_0,hfz28_1,hfz28_2,hfz28_3⟩:=zc4 BK222.out))
 refine bodyPost_ret (results_cell_row rfl _ _ gb222 35 #[.slice Ao13 t224.length co13,.slice Ao18 t227.length co18,.slice Ao22 t230.length co22,.slice Ao26 t233.length co26] (0,0) _ rfl (by(with_reducible repeat(first|refine qJ ?_ _|refine qK ?_|refine qF ?_ _));refine qP (cs:= #[.slice Ao13 t224.length co13,.slice Ao18 t227.length co18,.slice Ao22 t230.length co22,.slice none 0 0]) ?_ 3 _ rfl;(with_reducible repeat(first|refine qJ ?_ _|refine qK ?_|refine qF ?_ _));refine qP (cs:= #[.slice Ao13 t224.length co13,.slice Ao18 t227.length co18,.slice none 0 0,.slice none 0 0]) ?_ 2 _ rfl;(with_reducible repeat(first|refine qJ ?_ _|refine qK ?_|refine qF ?_ _));refine qP (cs:= #[.slice Ao13 t224.length co13,.slice none 0 0,.slice none 0 0,.slice none 0 0]) ?_ 1 _ rfl;(with_reducible repeat(first|refine qJ ?_ _|refine qK ?_|refine qF ?_ _));refine qP (cs:= #[.slice none 0 0,.slice none 0 0,.slice none 0 0,.slice none 0 0]) ?_ 0 _ rfl;(with_reducible repeat(first|refine qJ ?_ _|refine qK ?_|refine qF ?_ _));refine blk_far ?_ NB222_223.out _;(with_reducible repeat(first|refine qJ ?_ _|refine qK ?_|refine qF ?_ _));exact BK222.out) Tryz.underlying35 rfl zk) rfl ?_
 exact⟨_,_,_,_,ze,by(with_reducible repeat(first|apply Kd.S_alloc|apply Kd.S_drewN|apply Kd.S_drew));exact Kd.S_mono (Kd.S_far (p:=⟨gb222,3,none⟩) (Kd.S_far (p:=⟨gb222,2,none⟩) (Kd.S_far (p:=⟨gb222,1,none⟩) (Kd.S_far (p:=⟨gb222,0,none⟩) (Kd.S_far (p:=⟨gb223,3,none⟩) (Kd.S_types (Kd.S_types HO226.out BK223.out (by decide)) BK222.out (by decide)) (fun _ hk=>hk.1.2) (.slice Ao26 t233.length co26)) (fun _ hk=>hk.2) (.slice Ao13 t224.length co13)) (fun _ hk=>hk.2) (.slice Ao18 t227.length co18)) (fun _ hk=>hk.2) (.slice Ao22 t230.length co22)) (fun _ hk=>hk.2) (.slice Ao26 t233.length co26)) (fun _ hk=>trivial),by(with_reducible repeat(first|apply Kd.S_alloc|apply Kd.S_drewN|apply Kd.S_drew));exact Kd.S_mono (Kd.S_far (p:=⟨gb222,3,none⟩) (Kd.S_far (p:=⟨gb222,2,none⟩) (Kd.S_far (p:=⟨gb222,1,none⟩) (Kd.S_far (p:=⟨gb222,0,none⟩) (Kd.S_far (p:=⟨gb223,3,none⟩) (Kd.S_types (Kd.S_types HO229.out BK223.out (by decide)) BK222.out (by decide)) (fun _ hk=>hk.1.2) (.slice Ao26 t233.length co26)) (fun _ hk=>hk.2) (.slice Ao13 t224.length co13)) (fun _ hk=>hk.2) (.slice Ao18 t227.length co18)) (fun _ hk=>hk.2) (.slice Ao22 t230.length co22)) (fun _ hk=>hk.2) (.slice Ao26 t233.length co26)) (fun _ hk=>trivial),by(with_reducible repeat(first|apply Kd.S_alloc|apply Kd.S_drewN|apply Kd.S_drew));exact Kd.S_mono (Kd.S_far (p:=⟨gb222,3,none⟩) (Kd.S_far (p:=⟨gb222,2,none⟩) (Kd.S_far (p:=⟨gb222,1,none⟩) (Kd.S_far (p:=⟨gb222,0,none⟩) (Kd.S_far (p:=⟨gb223,3,none⟩) (Kd.S_types (Kd.S_types HO232.out BK223.out (by decide)) BK222.out (by decide)) (fun _ hk=>hk.1.2) (.slice Ao26 t233.length co26)) (fun _ hk=>hk.2) (.slice Ao13 t224.length co13)) (fun _ hk=>hk.2) (.slice Ao18 t227.length co18)) (fun _ hk=>hk.2) (.slice Ao22 t230.length co22)) (fun _ hk=>hk.2) (.slice Ao26 t233.length co26)) (fun _ hk=>trivial),by(with_reducible repeat(first|apply Kd.qU|apply Kd.qT|apply Kd.qX));exact Kd.vF (Kd.R_far (p:=⟨gb222,3,none⟩) (Kd.R_far (p:=⟨gb222,2,none⟩) (Kd.R_far (p:=⟨gb222,1,none⟩) (Kd.R_far (p:=⟨gb222,0,none⟩) (Kd.R_far (p:=⟨gb223,3,none⟩) (Kd.R_types (Kd.R_types HO235.out BK223.out (by decide)) BK222.out (by decide)) (fun _ hk=>hk.1.2) (.slice Ao26 t233.length co26)) (fun _ hk=>hk.2) (.slice Ao13 t224.length co13)) (fun _ hk=>hk.2) (.slice Ao18 t227.length co18)) (fun _ hk=>hk.2) (.slice Ao22 t230.length co22)) (fun _ hk=>hk.2) (.slice Ao26 t233.length co26)) (fun _ hk=>trivial),zb⟩
def laws_eqStringS.l0:Nat→List ByteArray→List ByteArray→Int→Option (Bool)
 |0,_,_,_=>none
 |k+1,x0,x1,x5=>if x5<(x0.length:Int) then(if 0≤x5 then(if x5<(x1.length:Int) then(if(rdOf ByteArray.empty x0 x5).toList=(rdOf ByteArray.empty x1 x5).toList then(laws_eqStringS.l0 k x0 x1 (wrap64 (x5+1))) else(some false)) else(none)) else(none)) else(some true)
def laws_eqStringS.f(k:Nat)(l0:List ByteArray)(l1:List ByteArray):Option (Bool):=if(l0.length:Int)=(l1.length:Int) then(laws_eqStringS.l0 k l0 l1 0) else(some false)
theorem laws_eqStringS.calls(k:Nat)(A0:Option Addr)(c0:Nat)(l0:List ByteArray)(A1:Option Addr)(c1:Nat)(l1:List ByteArray)(r:Bool)(w:World)(hr0:Kd.C Kd.string w A0 l0.length l0)(hc0:l0.length≤c0)(hr1:Kd.C Kd.string w A1 l1.length l1)(hc1:l1.length≤c1)(h:laws_eqStringS.f k l0 l1=some r):
 Calls Tryz.prog 14 #[.slice A0 l0.length c0,.slice A1 l1.length c1] w fun e w'=>e= .returned (.bool r)∧Below w.heap.size w w':=by
 have HR0:=zz hr0
 have HC0:=zz hc0
 clear hr0 hc0
 have HR1:=zz hr1
 have HC1:=zz hc1
 clear hr1 hc1
 have HB:=zz (Below.refl w.heap.size w)
 unfold laws_eqStringS.f at h
 have H:=h
 clear h
 replace HB:=HB.out
 have HW:=zz (Below.refl w.heap.size w)
 go_enter Tryz.func14,Tryz.ntmps14
 by_cases c3:(l0.length:Int)=(l1.length:Int)
 case neg=>
  rw[if_neg c3] at H
  obtain⟨c3b0,c3b1⟩:=zw c3
  have c3b2:(l0.length==l1.length)=false:=by first|simpa using c3|(simp at c3⊢;omega)
  obtain rfl:=zi H
  go_wp2_with(fail)
  go_ret
  exact⟨ze,zv HW.out HB⟩
 rw[if_pos c3] at H
 obtain⟨c3b0,c3b1⟩:=zq c3
 have c3b2:(l0.length==l1.length)=true:=by first|simpa using c3|(simp at c3⊢;omega)
 clear c3
 go_wp2_with(fail)
 go_loopg[5] k (fun kq v5 w'=>∃(x5_kl4:Int),v5= .int .i64 x5_kl4∧qB (laws_eqStringS.l0 kq l0 l1 x5_kl4=some r)∧qB (kq≤k)∧qB (Below w.heap.size w w'))
 case atStart=>exact⟨(0),zr,⟨H⟩,⟨Nat.le_refl _⟩,⟨HB⟩⟩
 case round=>
  clear H HB
  obtain⟨x5_kl4,rfl,H,HKkl4,HB⟩:=hrel
  replace HB:=HB.out
  replace H:=H.out
  have HLkl4:=zz (Below.refl w.heap.size w)
  cases gk with
  |zero=>exact absurd H (by simp[laws_eqStringS.l0])
  |succ kl4=>
   simp only[laws_eqStringS.l0] at H
   by_cases c5:x5_kl4<(l0.length:Int)
   case neg=>
    rw[if_neg c5] at H
    have c5b0:=z0 c5
    clear c5
    obtain rfl:=zi H
    go_wp2_with(fail)
    go_ret
    exact⟨ze,zv HW.out HB⟩
   rw[if_pos c5] at H
   have c5b0:=z1 c5
   clear c5
   go_wp2_with(fail)
   try simp only[Act.put,List.setIfInBounds_toArray,List.set_cons_zero,List.set_cons_succ]
   refine vB (C:=fun W_=>Below w.heap.size w W_) zk zk (qQ HB) ?_
   by_cases c6:0≤x5_kl4
   case neg=>exact zno H c6
   rw[if_pos c6] at H
   have c6b0:=z1 c6
   clear c6
   have p236:0≤(x5_kl4:Int):=z2
   have q236:(x5_kl4:Int)<(l0.length:Int):=z2
   obtain⟨ad236,e236,hx236_0⟩:=Kd.vC HR0.out x5_kl4 p236 q236
   cases e236
   replace hx236_0:=qR hx236_0
   replace p236:=eq_true p236
   replace q236:=eq_true q236
   by_cases c7:x5_kl4<(l1.length:Int)
   case neg=>exact zno H c7
   rw[if_pos c7] at H
   have c7b0:=z1 c7
   clear c7
   have p237:0≤(x5_kl4:Int):=z2
   have q237:(x5_kl4:Int)<(l1.length:Int):=z2
   obtain⟨ad237,e237,hx237_0⟩:=Kd.vC HR1.out x5_kl4 p237 q237
   cases e237
   replace hx237_0:=qR hx237_0
   replace p237:=eq_true p237
   replace q237:=eq_true q237
   by_cases c8:(rdOf ByteArray.empty l0 x5_kl4).toList=(rdOf ByteArray.empty l1 x5_kl4).toList
   case neg=>
    rw[if_neg c8] at H
    obtain⟨c8b0,c8b1⟩:=zw c8
    obtain rfl:=zi H
    repeat(first|go_big_quiet_skip|(go_big_quiet_want;go_big_quiet_op;first|go_big_quiet_on|(refine zE ?_;go_big_quiet_on)))
    clear HB
    refine zW fun w10 (HB:Below w.heap.size w w10)=>?_
    go_wp2_with(fail)
    go_ret
    exact⟨ze,zv HW.out HB⟩
   rw[if_pos c8] at H
   obtain⟨c8b0,c8b1⟩:=zq c8
   clear c8
   repeat(first|go_big_quiet_skip|(go_big_quiet_want;go_big_quiet_op;first|go_big_quiet_on|(refine zE ?_;go_big_quiet_on)))
   clear HB
   refine zW fun w9 (HB:Below w.heap.size w w9)=>?_
   go_wp2_with(fail)
   go_roundg kl4
   case measure=>have:=HKkl4.out;omega
   case rel=>exact⟨(wrap64 (x5_kl4+1)),zr,⟨H⟩,⟨by have:=HKkl4.out;omega⟩,⟨zv HLkl4.out HB⟩⟩
def laws_eqEntry.f(a0_0:ByteArray)(a0_1:Int)(a0_2:ByteArray)(a0_3:Bool)(a1_0:ByteArray)(a1_1:Int)(a1_2:ByteArray)(a1_3:Bool):Option (Bool):=if a0_0.toList=a1_0.toList then(if a0_1=a1_1 then(if a0_2.toList=a1_2.toList then(if(a0_3 !=a1_3)=true then(some false) else(some true)) else(some false)) else(some false)) else(some false)
theorem laws_eqEntry.calls(a0_0:ByteArray)(a0_1:Int)(a0_2:ByteArray)(a0_3:Bool)(a1_0:ByteArray)(a1_1:Int)(a1_2:ByteArray)(a1_3:Bool)(r:Bool)(w:World)(h:laws_eqEntry.f a0_0 a0_1 a0_2 a0_3 a1_0 a1_1 a1_2 a1_3=some r):
 Calls Tryz.prog 67 #[.agg #[.string a0_0,.int .i64 a0_1,.string a0_2,.bool a0_3],.agg #[.string a1_0,.int .i64 a1_1,.string a1_2,.bool a1_3]] w fun e w'=>e= .returned (.bool r)∧Below w.heap.size w w':=by
 have hu96:=Tryz.underlying96
 have HB:=zz (Below.refl w.heap.size w)
 unfold laws_eqEntry.f at h
 have H:=h
 clear h
 replace HB:=HB.out
 have HW:=zz (Below.refl w.heap.size w)
 go_enter Tryz.func67,Tryz.ntmps67
 by_cases c3:a0_0.toList=a1_0.toList
 case neg=>
  rw[if_neg c3] at H
  obtain⟨c3b0,c3b1⟩:=zw c3
  obtain rfl:=zi H
  go_wp2_with(first|(refine zN 2 ?_;(try(refine z4 ?_;dsimp only));refine zX 2 96 #[.string a0_0,.int .i64 a0_1,.string a0_2,.bool a0_3] ?_;intro gb238 hg w15 hbox hb;have hst:=zv HB hb;clear hg hb HB;replace HW:=zz (zv HW.out hst);obtain⟨hbx238_0,hbx238_1,hbx238_2,hbx238_3⟩:=zx4 hbox;have HB:=Below.refl w15.heap.size w15;clear hbox hst)|(refine zN 3 ?_;(try(refine z4 ?_;dsimp only));refine zX 3 96 #[.string a1_0,.int .i64 a1_1,.string a1_2,.bool a1_3] ?_;intro gb239 hg w16 hbox hb;have hst:=zv HB hb;clear hg hb HB;replace HW:=zz (zv HW.out hst);replace hbx238_0:=qH hbx238_0 hst;replace hbx238_1:=qH hbx238_1 hst;replace hbx238_2:=qH hbx238_2 hst;replace hbx238_3:=qH hbx238_3 hst;obtain⟨hbx239_0,hbx239_1,hbx239_2,hbx239_3⟩:=zx4 hbox;have HB:=Below.refl w16.heap.size w16;clear hbox hst))
  go_ret
  exact⟨ze,zv HW.out HB⟩
 rw[if_pos c3] at H
 obtain⟨c3b0,c3b1⟩:=zq c3
 clear c3
 by_cases c4:a0_1=a1_1
 case neg=>
  rw[if_neg c4] at H
  obtain⟨c4b0,c4b1⟩:=zw c4
  obtain rfl:=zi H
  go_wp2_with(first|(refine zN 2 ?_;(try(refine z4 ?_;dsimp only));refine zX 2 96 #[.string a0_0,.int .i64 a0_1,.string a0_2,.bool a0_3] ?_;intro gb238 hg w13 hbox hb;have hst:=zv HB hb;clear hg hb HB;replace HW:=zz (zv HW.out hst);obtain⟨hbx238_0,hbx238_1,hbx238_2,hbx238_3⟩:=zx4 hbox;have HB:=Below.refl w13.heap.size w13;clear hbox hst)|(refine zN 3 ?_;(try(refine z4 ?_;dsimp only));refine zX 3 96 #[.string a1_0,.int .i64 a1_1,.string a1_2,.bool a1_3] ?_;intro gb239 hg w14 hbox hb;have hst:=zv HB hb;clear hg hb HB;replace HW:=zz (zv HW.out hst);replace hbx238_0:=qH hbx238_0 hst;replace hbx238_1:=qH hbx238_1 hst;replace hbx238_2:=qH hbx238_2 hst;replace hbx238_3:=qH hbx238_3 hst;obtain⟨hbx239_0,hbx239_1,hbx239_2,hbx239_3⟩:=zx4 hbox;have HB:=Below.refl w14.heap.size w14;clear hbox hst))
  go_ret
  exact⟨ze,zv HW.out HB⟩
 rw[if_pos c4] at H
 obtain⟨c4b0,c4b1⟩:=zq c4
 clear c4
 by_cases c5:a0_2.toList=a1_2.toList
 case neg=>
  rw[if_neg c5] at H
  obtain⟨c5b0,c5b1⟩:=zw c5
  obtain rfl:=zi H
  go_wp2_with(first|(refine zN 2 ?_;(try(refine z4 ?_;dsimp only));refine zX 2 96 #[.string a0_0,.int .i64 a0_1,.string a0_2,.bool a0_3] ?_;intro gb238 hg w11 hbox hb;have hst:=zv HB hb;clear hg hb HB;replace HW:=zz (zv HW.out hst);obtain⟨hbx238_0,hbx238_1,hbx238_2,hbx238_3⟩:=zx4 hbox;have HB:=Below.refl w11.heap.size w11;clear hbox hst)|(refine zN 3 ?_;(try(refine z4 ?_;dsimp only));refine zX 3 96 #[.string a1_0,.int .i64 a1_1,.string a1_2,.bool a1_3] ?_;intro gb239 hg w12 hbox hb;have hst:=zv HB hb;clear hg hb HB;replace HW:=zz (zv HW.out hst);replace hbx238_0:=qH hbx238_0 hst;replace hbx238_1:=qH hbx238_1 hst;replace hbx238_2:=qH hbx238_2 hst;replace hbx238_3:=qH hbx238_3 hst;obtain⟨hbx239_0,hbx239_1,hbx239_2,hbx239_3⟩:=zx4 hbox;have HB:=Below.refl w12.heap.size w12;clear hbox hst))
  go_ret
  exact⟨ze,zv HW.out HB⟩
 rw[if_pos c5] at H
 obtain⟨c5b0,c5b1⟩:=zq c5
 clear c5
 by_cases c6:(a0_3 !=a1_3)=true
 case neg=>
  rw[if_neg c6] at H
  have c6b0:(a0_3 !=a1_3)=false:=by simpa using c6
  (try(have c6b1:decide (a0_3=a1_3)=true:=by simpa using c6))
  (try(have c6b2:(a0_3==a1_3)=true:=by simpa using c6))
  clear c6
  obtain rfl:=zi H
  go_wp2_with(first|(refine zN 2 ?_;(try(refine z4 ?_;dsimp only));refine zX 2 96 #[.string a0_0,.int .i64 a0_1,.string a0_2,.bool a0_3] ?_;intro gb238 hg w9 hbox hb;have hst:=zv HB hb;clear hg hb HB;replace HW:=zz (zv HW.out hst);obtain⟨hbx238_0,hbx238_1,hbx238_2,hbx238_3⟩:=zx4 hbox;have HB:=Below.refl w9.heap.size w9;clear hbox hst)|(refine zN 3 ?_;(try(refine z4 ?_;dsimp only));refine zX 3 96 #[.string a1_0,.int .i64 a1_1,.string a1_2,.bool a1_3] ?_;intro gb239 hg w10 hbox hb;have hst:=zv HB hb;clear hg hb HB;replace HW:=zz (zv HW.out hst);replace hbx238_0:=qH hbx238_0 hst;replace hbx238_1:=qH hbx238_1 hst;replace hbx238_2:=qH hbx238_2 hst;replace hbx238_3:=qH hbx238_3 hst;obtain⟨hbx239_0,hbx239_1,hbx239_2,hbx239_3⟩:=zx4 hbox;have HB:=Below.refl w10.heap.size w10;clear hbox hst))
  go_ret
  exact⟨ze,zv HW.out HB⟩
 rw[if_pos c6] at H
 have c6b0:(a0_3 !=a1_3)=true:=c6
 (try(have c6b1:decide (a0_3=a1_3)=false:=by simpa using c6))
 (try(have c6b2:(a0_3==a1_3)=false:=by simpa using c6))
 (try(have c6b3:¬(a0_3=a1_3):=by simpa using c6))
 clear c6
 obtain rfl:=zi H
 go_wp2_with(first|(refine zN 2 ?_;(try(refine z4 ?_;dsimp only));refine zX 2 96 #[.string a0_0,.int .i64 a0_1,.string a0_2,.bool a0_3] ?_;intro gb238 hg w7 hbox hb;have hst:=zv HB hb;clear hg hb HB;replace HW:=zz (zv HW.out hst);obtain⟨hbx238_0,hbx238_1,hbx238_2,hbx238_3⟩:=zx4 hbox;have HB:=Below.refl w7.heap.size w7;clear hbox hst)|(refine zN 3 ?_;(try(refine z4 ?_;dsimp only));refine zX 3 96 #[.string a1_0,.int .i64 a1_1,.string a1_2,.bool a1_3] ?_;intro gb239 hg w8 hbox hb;have hst:=zv HB hb;clear hg hb HB;replace HW:=zz (zv HW.out hst);replace hbx238_0:=qH hbx238_0 hst;replace hbx238_1:=qH hbx238_1 hst;replace hbx238_2:=qH hbx238_2 hst;replace hbx238_3:=qH hbx238_3 hst;obtain⟨hbx239_0,hbx239_1,hbx239_2,hbx239_3⟩:=zx4 hbox;have HB:=Below.refl w8.heap.size w8;clear hbox hst))
 go_ret
 exact⟨ze,zv HW.out HB⟩
def laws_eqEntryS.l0:Nat→List (S96)→List (S96)→Int→Option (Bool)
 |0,_,_,_=>none
 |k+1,x0,x1,x5=>if x5<(x0.length:Int) then(if 0≤x5 then(if x5<(x1.length:Int) then((laws_eqEntry.f ((qA x0 x5).f0) ((qA x0 x5).f1) ((qA x0 x5).f2) ((qA x0 x5).f3) ((qA x1 x5).f0) ((qA x1 x5).f1) ((qA x1 x5).f2) ((qA x1 x5).f3)).bind fun t242=>(if t242=true then(laws_eqEntryS.l0 k x0 x1 (wrap64 (x5+1))) else(some false))) else(none)) else(none)) else(some true)
def laws_eqEntryS.f(k:Nat)(l0:List (S96))(l1:List (S96)):Option (Bool):=if(l0.length:Int)=(l1.length:Int) then(laws_eqEntryS.l0 k l0 l1 0) else(some false)
theorem laws_eqEntryS.calls(k:Nat)(A0:Option Addr)(c0:Nat)(l0:List (S96))(A1:Option Addr)(c1:Nat)(l1:List (S96))(r:Bool)(w:World)(hr0:Kd.C k96 w A0 l0.length l0)(hc0:l0.length≤c0)(hr1:Kd.C k96 w A1 l1.length l1)(hc1:l1.length≤c1)(h:laws_eqEntryS.f k l0 l1=some r):
 Calls Tryz.prog 22 #[.slice A0 l0.length c0,.slice A1 l1.length c1] w fun e w'=>e= .returned (.bool r)∧Below w.heap.size w w':=by
 have hu96:=Tryz.underlying96
 have HR0:=zz hr0
 have HC0:=zz hc0
 clear hr0 hc0
 have HR1:=zz hr1
 have HC1:=zz hc1
 clear hr1 hc1
 have HB:=zz (Below.refl w.heap.size w)
 unfold laws_eqEntryS.f at h
 have H:=h
 clear h
 replace HB:=HB.out
 have HW:=zz (Below.refl w.heap.size w)
 go_enter Tryz.func22,Tryz.ntmps22
 by_cases c3:(l0.length:Int)=(l1.length:Int)
 case neg=>
  rw[if_neg c3] at H
  obtain⟨c3b0,c3b1⟩:=zw c3
  have c3b2:(l0.length==l1.length)=false:=by first|simpa using c3|(simp at c3⊢;omega)
  obtain rfl:=zi H
  go_wp2_with(fail)
  go_ret
  exact⟨ze,zv HW.out HB⟩
 rw[if_pos c3] at H
 obtain⟨c3b0,c3b1⟩:=zq c3
 have c3b2:(l0.length==l1.length)=true:=by first|simpa using c3|(simp at c3⊢;omega)
 clear c3
 go_wp2_with(fail)
 go_loopg[5] k (fun kq v5 w'=>∃(x5_kl4:Int),v5= .int .i64 x5_kl4∧qB (laws_eqEntryS.l0 kq l0 l1 x5_kl4=some r)∧qB (kq≤k)∧qB (Below w.heap.size w w'))
 case atStart=>exact⟨(0),zr,⟨H⟩,⟨Nat.le_refl _⟩,⟨HB⟩⟩
 case round=>
  clear H HB
  obtain⟨x5_kl4,rfl,H,HKkl4,HB⟩:=hrel
  replace HB:=HB.out
  replace H:=H.out
  have HLkl4:=zz (Below.refl w.heap.size w)
  cases gk with
  |zero=>exact absurd H (by simp[laws_eqEntryS.l0])
  |succ kl4=>
   simp only[laws_eqEntryS.l0] at H
   by_cases c5:x5_kl4<(l0.length:Int)
   case neg=>
    rw[if_neg c5] at H
    have c5b0:=z0 c5
    clear c5
    obtain rfl:=zi H
    go_wp2_with(fail)
    go_ret
    exact⟨ze,zv HW.out HB⟩
   rw[if_pos c5] at H
   have c5b0:=z1 c5
   clear c5
   go_wp2_with(fail)
   try simp only[Act.put,List.setIfInBounds_toArray,List.set_cons_zero,List.set_cons_succ]
   refine vB (C:=fun W_=>Below w.heap.size w W_) zk zk (qQ HB) ?_
   by_cases c6:0≤x5_kl4
   case neg=>exact zno H c6
   rw[if_pos c6] at H
   have c6b0:=z1 c6
   clear c6
   have p240:0≤(x5_kl4:Int):=z2
   have q240:(x5_kl4:Int)<(l0.length:Int):=z2
   obtain⟨ad240,e240,hx240_0,hx240_1,hx240_2,hx240_3⟩:=at_T96 HR0.out x5_kl4 p240 q240
   cases e240
   replace hx240_0:=qR hx240_0
   replace hx240_1:=qR hx240_1
   replace hx240_2:=qR hx240_2
   replace hx240_3:=qR hx240_3
   replace p240:=eq_true p240
   replace q240:=eq_true q240
   by_cases c7:x5_kl4<(l1.length:Int)
   case neg=>exact zno H c7
   rw[if_pos c7] at H
   have c7b0:=z1 c7
   clear c7
   have p241:0≤(x5_kl4:Int):=z2
   have q241:(x5_kl4:Int)<(l1.length:Int):=z2
   obtain⟨ad241,e241,hx241_0,hx241_1,hx241_2,hx241_3⟩:=at_T96 HR1.out x5_kl4 p241 q241
   cases e241
   replace hx241_0:=qR hx241_0
   replace hx241_1:=qR hx241_1
   replace hx241_2:=qR hx241_2
   replace hx241_3:=qR hx241_3
   replace p241:=eq_true p241
   replace q241:=eq_true q241
   replace H:=zf H
   obtain⟨t242,A8,H⟩:=H
   try dsimp only at H
   replace A8:=zz A8
   by_cases c9:t242=true
   ·subst c9
    rw[if_pos rfl] at H
    repeat(first|go_big_quiet_skip|(go_big_quiet_want;go_big_quiet_op;first|go_big_quiet_on|(with_reducible apply Exists.intro;refine⟨fun W hW=>?_,?_⟩;(first|with_reducible rfl|(go_at_call 67;exact callB (laws_eqEntry.calls _ _ _ _ _ _ _ _ _ _ A8.out) hW)|(go_simp;with_reducible rfl));go_big_quiet_on)))
    clear HB
    refine zW fun w10 (HB:Below w.heap.size w w10)=>?_
    go_wp2_with(fail)
    go_roundg kl4
    case measure=>have:=HKkl4.out;omega
    case rel=>exact⟨(wrap64 (x5_kl4+1)),zr,⟨H⟩,⟨by have:=HKkl4.out;omega⟩,⟨zv HLkl4.out HB⟩⟩
   replace c9:=Bool.eq_false_iff.mpr c9
   subst c9
   rw[if_neg (by decide)] at H
   obtain rfl:=zi H
   repeat(first|go_big_quiet_skip|(go_big_quiet_want;go_big_quiet_op;first|go_big_quiet_on|(with_reducible apply Exists.intro;refine⟨fun W hW=>?_,?_⟩;(first|with_reducible rfl|(go_at_call 67;exact callB (laws_eqEntry.calls _ _ _ _ _ _ _ _ _ _ A8.out) hW)|(go_simp;with_reducible rfl));go_big_quiet_on)))
   clear HB
   refine zW fun w11 (HB:Below w.heap.size w w11)=>?_
   go_wp2_with(fail)
   go_ret
   exact⟨ze,zv HW.out HB⟩
def laws_eqItem.f(k:Nat)(a0_0:ByteArray)(a0_1:ByteArray)(l0_2:List ByteArray)(a0_3:ByteArray)(l0_4:List (S96))(a1_0:ByteArray)(a1_1:ByteArray)(l1_2:List ByteArray)(a1_3:ByteArray)(l1_4:List (S96)):Option (Bool):=if a0_0.toList=a1_0.toList then(if a0_1.toList=a1_1.toList then((laws_eqStringS.f k l0_2 l1_2).bind fun t245=>(if t245=true then(if a0_3.toList=a1_3.toList then((laws_eqEntryS.f k l0_4 l1_4).bind fun t246=>(if t246=true then(some true) else(some false))) else(some false)) else(some false))) else(some false)) else(some false)
theorem laws_eqItem.calls(k:Nat)(a0_0:ByteArray)(a0_1:ByteArray)(A0_2:Option Addr)(c0_2:Nat)(l0_2:List ByteArray)(a0_3:ByteArray)(A0_4:Option Addr)(c0_4:Nat)(l0_4:List (S96))(a1_0:ByteArray)(a1_1:ByteArray)(A1_2:Option Addr)(c1_2:Nat)(l1_2:List ByteArray)(a1_3:ByteArray)(A1_4:Option Addr)(c1_4:Nat)(l1_4:List (S96))(r:Bool)(w:World)(hr0_2:Kd.C Kd.string w A0_2 l0_2.length l0_2)(hc0_2:l0_2.length≤c0_2)(hr0_4:Kd.C k96 w A0_4 l0_4.length l0_4)(hc0_4:l0_4.length≤c0_4)(hr1_2:Kd.C Kd.string w A1_2 l1_2.length l1_2)(hc1_2:l1_2.length≤c1_2)(hr1_4:Kd.C k96 w A1_4 l1_4.length l1_4)(hc1_4:l1_4.length≤c1_4)(h:laws_eqItem.f k a0_0 a0_1 l0_2 a0_3 l0_4 a1_0 a1_1 l1_2 a1_3 l1_4=some r):
 Calls Tryz.prog 96 #[.agg #[.string a0_0,.string a0_1,.slice A0_2 l0_2.length c0_2,.string a0_3,.slice A0_4 l0_4.length c0_4],.agg #[.string a1_0,.string a1_1,.slice A1_2 l1_2.length c1_2,.string a1_3,.slice A1_4 l1_4.length c1_4]] w fun e w'=>e= .returned (.bool r)∧Below w.heap.size w w':=by
 have hu94:=Tryz.underlying94
 have HR0_2:=zz hr0_2
 have HC0_2:=zz hc0_2
 clear hr0_2 hc0_2
 have HR0_4:=zz hr0_4
 have HC0_4:=zz hc0_4
 clear hr0_4 hc0_4
 have HR1_2:=zz hr1_2
 have HC1_2:=zz hc1_2
 clear hr1_2 hc1_2
 have HR1_4:=zz hr1_4
 have HC1_4:=zz hc1_4
 clear hr1_4 hc1_4
 have HB:=zz (Below.refl w.heap.size w)
 unfold laws_eqItem.f at h
 have H:=h
 clear h
 replace HB:=HB.out
 have HW:=zz (Below.refl w.heap.size w)
 go_enter Tryz.func96,Tryz.ntmps96
 by_cases c3:a0_0.toList=a1_0.toList
 case neg=>
  rw[if_neg c3] at H
  obtain⟨c3b0,c3b1⟩:=zw c3
  obtain rfl:=zi H
  go_wp2_with(first|(refine zN 2 ?_;(try(refine z4 ?_;dsimp only));refine zX 2 94 #[.string a0_0,.string a0_1,.slice A0_2 l0_2.length c0_2,.string a0_3,.slice A0_4 l0_4.length c0_4] ?_;intro gb243 hg w28 hbox hb;have hst:=zv HB hb;clear hg hb HB;replace HW:=zz (zv HW.out hst);replace HR0_2:=zz (Kd.qC HR0_2.out hst);replace HR0_4:=zz (Kd.qC HR0_4.out hst);replace HR1_2:=zz (Kd.qC HR1_2.out hst);replace HR1_4:=zz (Kd.qC HR1_4.out hst);obtain⟨hbx243_0,hbx243_1,hbx243_2,hbx243_3,hbx243_4⟩:=zx5 hbox;have HB:=Below.refl w28.heap.size w28;clear hbox hst)|(refine zN 3 ?_;(try(refine z4 ?_;dsimp only));refine zX 3 94 #[.string a1_0,.string a1_1,.slice A1_2 l1_2.length c1_2,.string a1_3,.slice A1_4 l1_4.length c1_4] ?_;intro gb244 hg w29 hbox hb;have hst:=zv HB hb;clear hg hb HB;replace HW:=zz (zv HW.out hst);replace HR0_2:=zz (Kd.qC HR0_2.out hst);replace HR0_4:=zz (Kd.qC HR0_4.out hst);replace HR1_2:=zz (Kd.qC HR1_2.out hst);replace HR1_4:=zz (Kd.qC HR1_4.out hst);replace hbx243_0:=qH hbx243_0 hst;replace hbx243_1:=qH hbx243_1 hst;replace hbx243_2:=qH hbx243_2 hst;replace hbx243_3:=qH hbx243_3 hst;replace hbx243_4:=qH hbx243_4 hst;obtain⟨hbx244_0,hbx244_1,hbx244_2,hbx244_3,hbx244_4⟩:=zx5 hbox;have HB:=Below.refl w29.heap.size w29;clear hbox hst))
  go_ret
  exact⟨ze,zv HW.out HB⟩
 rw[if_pos c3] at H
 obtain⟨c3b0,c3b1⟩:=zq c3
 clear c3
 by_cases c4:a0_1.toList=a1_1.toList
 case neg=>
  rw[if_neg c4] at H
  obtain⟨c4b0,c4b1⟩:=zw c4
  obtain rfl:=zi H
  go_wp2_with(first|(refine zN 2 ?_;(try(refine z4 ?_;dsimp only));refine zX 2 94 #[.string a0_0,.string a0_1,.slice A0_2 l0_2.length c0_2,.string a0_3,.slice A0_4 l0_4.length c0_4] ?_;intro gb243 hg w26 hbox hb;have hst:=zv HB hb;clear hg hb HB;replace HW:=zz (zv HW.out hst);replace HR0_2:=zz (Kd.qC HR0_2.out hst);replace HR0_4:=zz (Kd.qC HR0_4.out hst);replace HR1_2:=zz (Kd.qC HR1_2.out hst);replace HR1_4:=zz (Kd.qC HR1_4.out hst);obtain⟨hbx243_0,hbx243_1,hbx243_2,hbx243_3,hbx243_4⟩:=zx5 hbox;have HB:=Below.refl w26.heap.size w26;clear hbox hst)|(refine zN 3 ?_;(try(refine z4 ?_;dsimp only));refine zX 3 94 #[.string a1_0,.string a1_1,.slice A1_2 l1_2.length c1_2,.string a1_3,.slice A1_4 l1_4.length c1_4] ?_;intro gb244 hg w27 hbox hb;have hst:=zv HB hb;clear hg hb HB;replace HW:=zz (zv HW.out hst);replace HR0_2:=zz (Kd.qC HR0_2.out hst);replace HR0_4:=zz (Kd.qC HR0_4.out hst);replace HR1_2:=zz (Kd.qC HR1_2.out hst);replace HR1_4:=zz (Kd.qC HR1_4.out hst);replace hbx243_0:=qH hbx243_0 hst;replace hbx243_1:=qH hbx243_1 hst;replace hbx243_2:=qH hbx243_2 hst;replace hbx243_3:=qH hbx243_3 hst;replace hbx243_4:=qH hbx243_4 hst;obtain⟨hbx244_0,hbx244_1,hbx244_2,hbx244_3,hbx244_4⟩:=zx5 hbox;have HB:=Below.refl w27.heap.size w27;clear hbox hst))
  go_ret
  exact⟨ze,zv HW.out HB⟩
 rw[if_pos c4] at H
 obtain⟨c4b0,c4b1⟩:=zq c4
 clear c4
 replace H:=zf H
 obtain⟨t245,A5,H⟩:=H
 try dsimp only at H
 replace A5:=zz A5
 go_wp2_with(first|(refine zN 2 ?_;(try(refine z4 ?_;dsimp only));refine zX 2 94 #[.string a0_0,.string a0_1,.slice A0_2 l0_2.length c0_2,.string a0_3,.slice A0_4 l0_4.length c0_4] ?_;intro gb243 hg w9 hbox hb;have hst:=zv HB hb;clear hg hb HB;replace HW:=zz (zv HW.out hst);replace HR0_2:=zz (Kd.qC HR0_2.out hst);replace HR0_4:=zz (Kd.qC HR0_4.out hst);replace HR1_2:=zz (Kd.qC HR1_2.out hst);replace HR1_4:=zz (Kd.qC HR1_4.out hst);obtain⟨hbx243_0,hbx243_1,hbx243_2,hbx243_3,hbx243_4⟩:=zx5 hbox;have HB:=Below.refl w9.heap.size w9;clear hbox hst)|(refine zN 3 ?_;(try(refine z4 ?_;dsimp only));refine zX 3 94 #[.string a1_0,.string a1_1,.slice A1_2 l1_2.length c1_2,.string a1_3,.slice A1_4 l1_4.length c1_4] ?_;intro gb244 hg w10 hbox hb;have hst:=zv HB hb;clear hg hb HB;replace HW:=zz (zv HW.out hst);replace HR0_2:=zz (Kd.qC HR0_2.out hst);replace HR0_4:=zz (Kd.qC HR0_4.out hst);replace HR1_2:=zz (Kd.qC HR1_2.out hst);replace HR1_4:=zz (Kd.qC HR1_4.out hst);replace hbx243_0:=qH hbx243_0 hst;replace hbx243_1:=qH hbx243_1 hst;replace hbx243_2:=qH hbx243_2 hst;replace hbx243_3:=qH hbx243_3 hst;replace hbx243_4:=qH hbx243_4 hst;obtain⟨hbx244_0,hbx244_1,hbx244_2,hbx244_3,hbx244_4⟩:=zx5 hbox;have HB:=Below.refl w10.heap.size w10;clear hbox hst))
 refine(laws_eqStringS.calls k _ _ _ _ _ _ _ _ (Kd.qC HR0_2.out HB) HC0_2.out (Kd.qC HR1_2.out HB) HC1_2.out A5.out).mono ?_
 rintro e w11 ⟨rfl,hb⟩
 replace HB:=zv HB hb
 clear hb
 by_cases c6:t245=true
 case neg=>
  replace c6:=Bool.eq_false_iff.mpr c6
  subst c6
  rw[if_neg (by decide)] at H
  obtain rfl:=zi H
  go_wp2_with(fail)
  go_ret
  exact⟨ze,zv HW.out HB⟩
 subst c6
 rw[if_pos rfl] at H
 by_cases c7:a0_3.toList=a1_3.toList
 case neg=>
  rw[if_neg c7] at H
  obtain⟨c7b0,c7b1⟩:=zw c7
  obtain rfl:=zi H
  go_wp2_with(fail)
  go_ret
  exact⟨ze,zv HW.out HB⟩
 rw[if_pos c7] at H
 obtain⟨c7b0,c7b1⟩:=zq c7
 clear c7
 replace H:=zf H
 obtain⟨t246,A12,H⟩:=H
 try dsimp only at H
 replace A12:=zz A12
 by_cases c13:t246=true
 ·subst c13
  rw[if_pos rfl] at H
  go_wp2_with(fail)
  refine(laws_eqEntryS.calls k _ _ _ _ _ _ _ _ (Kd.qC HR0_4.out HB) HC0_4.out (Kd.qC HR1_4.out HB) HC1_4.out A12.out).mono ?_
  rintro e w15 ⟨rfl,hb⟩
  replace HB:=zv HB hb
  clear hb
  obtain rfl:=zi H
  go_wp2_with(fail)
  go_ret
  exact⟨ze,zv HW.out HB⟩
 replace c13:=Bool.eq_false_iff.mpr c13
 subst c13
 rw[if_neg (by decide)] at H
 go_wp2_with(fail)
 refine(laws_eqEntryS.calls k _ _ _ _ _ _ _ _ (Kd.qC HR0_4.out HB) HC0_4.out (Kd.qC HR1_4.out HB) HC1_4.out A12.out).mono ?_
 rintro e w17 ⟨rfl,hb⟩
 replace HB:=zv HB hb
 clear hb
 obtain rfl:=zi H
 go_wp2_with(fail)
 go_ret
 exact⟨ze,zv HW.out HB⟩
end Go.Proofs.YtcekmnclmldmmaaGreatDoor.Q
