import Derived.Test.YtcekmnclmldmmaaGreatDoorN06
set_option linter.unusedVariables false
set_option linter.unusedSimpArgs false
namespace Go.Proofs.YtcekmnclmldmmaaGreatDoor.Q
open Go.RowKit W1 W2 W3
attribute [local go_sem] max2_int min2_int max_two min_two max_three min_three max_four min_four
attribute [local go_sem high] bl_leq bl_gtr bl_geq
set_option maxHeartbeats 8000000
set_option maxRecDepth 100000
mutual
def spec_TreeOk.l0:Nat→List (S96)→Int→Option (Bool)
 |0,_,_=>none
 |k+1,x0,x3=>if x3<(x0.length:Int) then(if 0≤x3 then((spec_l10EntryOk.f k ((qA x0 x3).f0) ((qA x0 x3).f1) ((qA x0 x3).f2) ((qA x0 x3).f3)).bind fun t308=>(if t308=true then(if x3>0 then(if 0≤(wrap64 (x3 - 1)) then(if(wrap64 (x3 - 1))<(x0.length:Int) then(spec_TreeOk.j1 k x0 x3 (!(Op.bytesLess (((qA x0 (wrap64 (x3 - 1))).f0).toList) (((qA x0 x3).f0).toList)))) else(none)) else(none)) else(spec_TreeOk.j1 k x0 x3 false)) else(spec_TreeOk.j1 k x0 x3 true))) else(none)) else(some true)
def spec_TreeOk.j1:Nat→List (S96)→Int→Bool→Option (Bool)
 |0,_,_,_=>none
 |k+1,x0,x3,x37=>if x37=true then(some false) else(if 0≤x3 then(if x3<(x0.length:Int) then((spec_l10Up.f k ((qA x0 x3).f0)).bind fun t312=>(if t312.toList=([]:List UInt8) then(spec_TreeOk.l0 k x0 (wrap64 (x3+1))) else(if x3≤(x0.length:Int) then((spec_l10Dir.f k (x0.take (x3:Int).toNat) t312).bind fun t317=>(if t317=true then(spec_TreeOk.l0 k x0 (wrap64 (x3+1))) else(some false))) else(none)))) else(none)) else(none))
end
def spec_TreeOk.f(k:Nat)(l0:List (S96)):Option (Bool):=if(l0.length:Int)>500 then(some false) else(spec_TreeOk.l0 k l0 0)
def spec_TreeOk.T6:Bool×List (List Nat×List Nat):=(true,[([],[]),([],[]),([0,1],[0,1]),([2],[2]),([3],[3]),([4],[4]),([5,4],[5]),([6],[6]),([7,6],[6,7]),([8,6,6],[6,8]),([9],[9]),([9],[9]),([11,9],[9,11]),([10,12,9],[9,10,12]),([13,9],[9,13]),([14,9],[9,14]),([9],[9]),([9],[9]),([16,17,9],[9,16,17]),([18,9],[9,18]),([19,9],[9,19]),([15,20,9],[9,15,20]),([9,21,6],[6,9,21]),([6,22],[6,22])])
def spec_TreeOk.B6:List Nat:=[0,0,3,7,15,31,63,127,255,511,1023,1023,3071,8191,16383,32767,1023,1023,197631,459775,984063,2097151,4194303,8388607]
theorem spec_TreeOk.tab6:rtab .any (opsOf Tryz.f81 6)=spec_TreeOk.T6:=by kernel_rfl
theorem spec_TreeOk.bits6:waitsOk spec_TreeOk.T6.2 spec_TreeOk.B6=true:=by kernel_rfl
theorem spec_TreeOk.calls(k:Nat)(A0:Option Addr)(c0:Nat)(l0:List (S96))(r:Bool)(w:World)(hr0:Kd.C k96 w A0 l0.length l0)(hc0:l0.length≤c0)(h:spec_TreeOk.f k l0=some r):
 Calls Tryz.prog 81 #[.slice A0 l0.length c0] w fun e w'=>e= .returned (.bool r)∧Below w.heap.size w w':=by
 have hu96:=Tryz.underlying96
 have HR0:=zz hr0
 have HC0:=zz hc0
 clear hr0 hc0
 have HB:=zz (Below.refl w.heap.size w)
 unfold spec_TreeOk.f at h
 have H:=h
 clear h
 by_cases c2:(l0.length:Int)>500
 ·rw[if_pos c2] at H
  have c2b0:=zgt c2
  have c2b1:decide (500<l0.length)=true:=z1 (by omega)
  clear c2
  obtain rfl:=zi H
  go_enter Tryz.func81,Tryz.ntmps81
  go_wp2
  go_ret
  exact⟨ze,zb⟩
 rw[if_neg c2] at H
 have c2b0:=zgtn c2
 have c2b1:decide (500<l0.length)=false:=z0 (by omega)
 clear c2
 have H':=zz H
 clear H
 go_enter Tryz.func81,Tryz.ntmps81
 go_wp2
 go_loopg[3] k (fun kq v3 w'=>∃(x3_1:Int),v3= .int .i64 x3_1∧qB (spec_TreeOk.l0 kq l0 x3_1=some r)∧qB (kq≤k)∧qB (Below w.heap.size w w'))
 case atStart=>exact⟨(0),zr,H',⟨Nat.le_refl _⟩,⟨zb⟩⟩
 case round=>
  clear H'
  try clear c2
  try clear c2b0
  try clear c2b1
  try clear p2
  obtain⟨x3_1,rfl,HA,HK1,HB⟩:=hrel
  cases gk with
  |zero=>exact absurd HA.out (by simp[spec_TreeOk.l0])
  |succ k1=>
   have H:=HA.out
   clear HA
   simp only[spec_TreeOk.l0] at H
   by_cases c3:x3_1<(l0.length:Int)
   case neg=>
    rw[if_neg c3] at H
    have c3b0:=z0 c3
    clear c3
    obtain rfl:=zi H
    go_wp2
    go_ret
    exact⟨ze,zb⟩
   rw[if_pos c3] at H
   have c3b0:=z1 c3
   clear c3
   have HC4:=zz H
   clear H
   go_upto_region 6 with(fail)
   go_cut [37] (fun v37 wc=>∃(kq:Nat) (x37_3:Bool),v37= .bool x37_3∧qB (spec_TreeOk.j1 kq l0 x3_1 x37_3=some r)∧qB (kq≤k1)∧qB (Below w.heap.size w wc))
   case first=>
    have H:=HC4.out
    clear HC4
    by_cases c5:0≤x3_1
    ·rw[if_pos c5] at H
     have c5b0:=z1 c5
     clear c5
     (first|rw[c5b0]|(simp only[i64_w,i32_w];rw[c5b0])|skip)
     replace H:=zf H
     obtain⟨t308,A60,H⟩:=H
     try dsimp only at H
     have A6:=zz A60
     clear A60
     by_cases c7:t308=true
     ·subst c7
      rw[if_pos rfl] at H
      by_cases c8:x3_1>0
      ·rw[if_pos c8] at H
       have c8b0:=zgt c8
       clear c8
       obtain⟨ji9,hji9⟩:∃j_:Int,(wrap64 (x3_1 - 1))=j_:=⟨_,rfl⟩
       replace H:(if 0≤(ji9) then(if(ji9)<(l0.length:Int) then(spec_TreeOk.j1 k1 l0 x3_1 (!(Op.bytesLess (((qA l0 (ji9)).f0).toList) (((qA l0 x3_1).f0).toList)))) else(none)) else(none))=some r:=by first|(rw[hji9] at H;exact H)|(simp only[hji9] at H⊢;exact H)
       (try rw[hji9] at A6)
       have hji9w:(IntKind.i64.wrap (x3_1 - 1))=ji9:=(i64_w _).trans hji9
       by_cases c10:0≤(ji9)
       ·rw[if_pos c10] at H
        have c10b0:=z1 c10
        clear c10
        by_cases c11:(ji9)<(l0.length:Int)
        ·rw[if_pos c11] at H
         have c11b0:=z1 c11
         clear c11
         have H':=zz H
         clear H
         try go_wp2
         replace HB:=zz (qQ HB.out)
         have p307:0≤(x3_1:Int):=z2
         have q307:x3_1<(l0.length:Int):=z2
         obtain⟨ad307,e307,hx307_0,hx307_1,hx307_2,hx307_3⟩:=at_T96 HR0.out x3_1 p307 q307
         have hw307_3:=hx307_3
         have hw307_2:=hx307_2
         have hw307_1:=hx307_1
         have hw307_0:=hx307_0
         cases e307
         replace hx307_0:=z3 HB.out hx307_0
         replace hx307_1:=z3 HB.out hx307_1
         replace hx307_2:=z3 HB.out hx307_2
         replace hx307_3:=z3 HB.out hx307_3
         replace p307:=eq_true p307
         replace q307:=eq_true q307
         have p309:0≤((ji9):Int):=z2
         have q309:(ji9)<(l0.length:Int):=z2
         obtain⟨ad309,e309,hx309_0,hx309_1,hx309_2,hx309_3⟩:=at_T96 HR0.out (ji9) p309 q309
         have hw309_3:=hx309_3
         have hw309_2:=hx309_2
         have hw309_1:=hx309_1
         have hw309_0:=hx309_0
         obtain rfl:ad307=ad309:=(by injection e309)
         replace hx309_0:=z3 HB.out hx309_0
         replace hx309_1:=z3 HB.out hx309_1
         replace hx309_2:=z3 HB.out hx309_2
         replace hx309_3:=z3 HB.out hx309_3
         replace p309:=eq_true p309
         replace q309:=eq_true q309
         have p310:0≤(x3_1:Int):=z2
         have q310:x3_1<(l0.length:Int):=z2
         obtain⟨ad310,e310,hx310_0,hx310_1,hx310_2,hx310_3⟩:=at_T96 HR0.out x3_1 p310 q310
         have hw310_3:=hx310_3
         have hw310_2:=hx310_2
         have hw310_1:=hx310_1
         have hw310_0:=hx310_0
         obtain rfl:ad307=ad310:=(by injection e310)
         replace hx310_0:=z3 HB.out hx310_0
         replace hx310_1:=z3 HB.out hx310_1
         replace hx310_2:=z3 HB.out hx310_2
         replace hx310_3:=z3 HB.out hx310_3
         replace p310:=eq_true p310
         replace q310:=eq_true q310
         refine start_ (n:=24) (S:=fun w'=>w'.cell? (ad307.add ((x3_1).toNat*4))=some (.string ((qA l0 x3_1).f0))∧w'.cell? ⟨(ad307.add ((x3_1).toNat*4)).block,(ad307.add ((x3_1).toNat*4)).off+1,none⟩=some (.int .i64 ((qA l0 x3_1).f1))∧w'.cell? ⟨(ad307.add ((x3_1).toNat*4)).block,(ad307.add ((x3_1).toNat*4)).off+2,none⟩=some (.string ((qA l0 x3_1).f2))∧w'.cell? ⟨(ad307.add ((x3_1).toNat*4)).block,(ad307.add ((x3_1).toNat*4)).off+3,none⟩=some (.bool ((qA l0 x3_1).f3))∧w'.cell? (ad307.add (((ji9)).toNat*4))=some (.string ((qA l0 (ji9)).f0))∧w'.cell? ⟨(ad307.add (((ji9)).toNat*4)).block,(ad307.add (((ji9)).toNat*4)).off+1,none⟩=some (.int .i64 ((qA l0 (ji9)).f1))∧w'.cell? ⟨(ad307.add (((ji9)).toNat*4)).block,(ad307.add (((ji9)).toNat*4)).off+2,none⟩=some (.string ((qA l0 (ji9)).f2))∧w'.cell? ⟨(ad307.add (((ji9)).toNat*4)).block,(ad307.add (((ji9)).toNat*4)).off+3,none⟩=some (.bool ((qA l0 (ji9)).f3))∧w'.cell? (ad307.add ((x3_1).toNat*4))=some (.string ((qA l0 x3_1).f0))∧w'.cell? ⟨(ad307.add ((x3_1).toNat*4)).block,(ad307.add ((x3_1).toNat*4)).off+1,none⟩=some (.int .i64 ((qA l0 x3_1).f1))∧w'.cell? ⟨(ad307.add ((x3_1).toNat*4)).block,(ad307.add ((x3_1).toNat*4)).off+2,none⟩=some (.string ((qA l0 x3_1).f2))∧w'.cell? ⟨(ad307.add ((x3_1).toNat*4)).block,(ad307.add ((x3_1).toNat*4)).off+3,none⟩=some (.bool ((qA l0 x3_1).f3))) (ds:=[]) (bp 0 24) zk rfl rfl ⟨(z3 HB.out hw307_0),(z3 HB.out hw307_1),(z3 HB.out hw307_2),(z3 HB.out hw307_3),(z3 HB.out hw309_0),(z3 HB.out hw309_1),(z3 HB.out hw309_2),(z3 HB.out hw309_3),(z3 HB.out hw310_0),(z3 HB.out hw310_1),(z3 HB.out hw310_2),(z3 HB.out hw310_3)⟩ (fun hHeld=>?_);refine with_tabW spec_TreeOk.tab6 spec_TreeOk.bits6 (fun HT_ HW_=>?_)
         generalize wr.drew=w12 at HB hx307_0 hx307_1 hx307_2 hx307_3 hx309_0 hx309_1 hx309_2 hx309_3 hx310_0 hx310_1 hx310_2 hx310_3 hHeld⊢
         refine zp 0 14 (bp 1 23) ?_
         refine zp 1 15 (bp 2 22) ?_
         refine zp 2 16 (bp 3 21) ?_
         refine zt 3 17 (bp 4 20) ?_
         refine zo 4 18 (bp 5 19) fun K hK=>?_
         refine zh Tryz.func119 #[.agg #[.string ((qA l0 x3_1).f0),.int .i64 ((qA l0 x3_1).f1),.string ((qA l0 x3_1).f2),.bool ((qA l0 x3_1).f3)]] ?_
         with_reducible refine(spec_l10EntryOk.calls k1 ((qA l0 x3_1).f0) ((qA l0 x3_1).f1) ((qA l0 x3_1).f2) ((qA l0 x3_1).f3) true _ A6.out).mono ?_
         rintro e w13 ⟨rfl,hb⟩
         refine⟨_,rfl,?_⟩
         replace HB:=zz (zv zb hb)
         (try clear hb)
         (try clear hb2)
         (try clear hk)
         (try clear hi)
         refine hK.out _ _ ⟨(z3 HB.out hw307_0),(z3 HB.out hw307_1),(z3 HB.out hw307_2),(z3 HB.out hw307_3),(z3 HB.out hw309_0),(z3 HB.out hw309_1),(z3 HB.out hw309_2),(z3 HB.out hw309_3),(z3 HB.out hw310_0),(z3 HB.out hw310_1),(z3 HB.out hw310_2),(z3 HB.out hw310_3)⟩ (fun hHeld=>?_)
         clear hK K
         refine zn 18 ?_
         refine zp 5 19 (bp 6 18) ?_
         refine zp 6 20 (bp 7 17) ?_
         refine zp 7 21 (bp 8 16) ?_
         refine zp 8 22 (bp 9 15) ?_
         refine zp 9 23 (bp 10 14) ?_
         refine zp 10 24 (bp 11 13) ?_
         refine zp 11 25 (bp 12 12) ?_
         refine zp 12 26 (bp 13 11) ?_
         refine zp 13 27 (bp 14 10) ?_
         refine zp 14 28 (bp 15 9) ?_
         refine zp 16 30 (bm 24 98303) ?_
         refine zp 17 31 (bm 24 229375) ?_
         refine zp 18 32 (bm 24 491519) ?_
         refine zp 19 33 (bm 24 1015807) ?_
         refine zt 15 29 (bp 20 4) ?_
         refine zt 20 34 (bp 21 3) ?_
         refine zp 21 35 (bp 22 2) ?_
         refine zp 22 36 (bp 23 1) ?_
         refine zp 23 37 (bp 24 0) ?_
         refine done_ (done_of HT_.out zk) ?_
         try go_wp2
         go_meet
         case rel=>exact⟨_,(!(Op.bytesLess (((qA l0 (ji9)).f0).toList) (((qA l0 x3_1).f0).toList))),(by first|rfl|(simp;done)|(simp only[←hji9]<;>(first|rfl|simp))|(simp[*];done)),H',⟨by have:=HK1.out;first|omega|exact Nat.le_refl _⟩,⟨zb⟩⟩
        ·rw[if_neg c11] at H
         exact absurd H (by simp)
       ·rw[if_neg c10] at H
        exact absurd H (by simp)
      ·rw[if_neg c8] at H
       have c8b0:=zgtn c8
       clear c8
       have H':=zz H
       clear H
       try go_wp2
       replace HB:=zz (qQ HB.out)
       have p307:0≤(x3_1:Int):=z2
       have q307:x3_1<(l0.length:Int):=z2
       obtain⟨ad307,e307,hx307_0,hx307_1,hx307_2,hx307_3⟩:=at_T96 HR0.out x3_1 p307 q307
       have hw307_3:=hx307_3
       have hw307_2:=hx307_2
       have hw307_1:=hx307_1
       have hw307_0:=hx307_0
       cases e307
       replace hx307_0:=z3 HB.out hx307_0
       replace hx307_1:=z3 HB.out hx307_1
       replace hx307_2:=z3 HB.out hx307_2
       replace hx307_3:=z3 HB.out hx307_3
       replace p307:=eq_true p307
       replace q307:=eq_true q307
       refine start_ (n:=24) (S:=fun w'=>w'.cell? (ad307.add ((x3_1).toNat*4))=some (.string ((qA l0 x3_1).f0))∧w'.cell? ⟨(ad307.add ((x3_1).toNat*4)).block,(ad307.add ((x3_1).toNat*4)).off+1,none⟩=some (.int .i64 ((qA l0 x3_1).f1))∧w'.cell? ⟨(ad307.add ((x3_1).toNat*4)).block,(ad307.add ((x3_1).toNat*4)).off+2,none⟩=some (.string ((qA l0 x3_1).f2))∧w'.cell? ⟨(ad307.add ((x3_1).toNat*4)).block,(ad307.add ((x3_1).toNat*4)).off+3,none⟩=some (.bool ((qA l0 x3_1).f3))) (ds:=[]) (bp 0 24) zk rfl rfl ⟨(z3 HB.out hw307_0),(z3 HB.out hw307_1),(z3 HB.out hw307_2),(z3 HB.out hw307_3)⟩ (fun hHeld=>?_);refine with_tabW spec_TreeOk.tab6 spec_TreeOk.bits6 (fun HT_ HW_=>?_)
       generalize wr.drew=w14 at HB hx307_0 hx307_1 hx307_2 hx307_3 hHeld⊢
       refine zp 0 14 (bp 1 23) ?_
       refine zp 1 15 (bp 2 22) ?_
       refine zp 2 16 (bp 3 21) ?_
       refine zt 3 17 (bp 4 20) ?_
       refine zo 4 18 (bp 5 19) fun K hK=>?_
       refine zh Tryz.func119 #[.agg #[.string ((qA l0 x3_1).f0),.int .i64 ((qA l0 x3_1).f1),.string ((qA l0 x3_1).f2),.bool ((qA l0 x3_1).f3)]] ?_
       with_reducible refine(spec_l10EntryOk.calls k1 ((qA l0 x3_1).f0) ((qA l0 x3_1).f1) ((qA l0 x3_1).f2) ((qA l0 x3_1).f3) true _ A6.out).mono ?_
       rintro e w15 ⟨rfl,hb⟩
       refine⟨_,rfl,?_⟩
       replace HB:=zz (zv zb hb)
       (try clear hb)
       (try clear hb2)
       (try clear hk)
       (try clear hi)
       refine hK.out _ _ ⟨(z3 HB.out hw307_0),(z3 HB.out hw307_1),(z3 HB.out hw307_2),(z3 HB.out hw307_3)⟩ (fun hHeld=>?_)
       clear hK K
       refine zn 18 ?_
       refine zp 5 19 (bp 6 18) ?_
       refine zp 6 20 (bp 7 17) ?_
       refine zp 7 21 (bp 8 16) ?_
       refine zp 8 22 (bp 9 15) ?_
       refine zp 9 23 (bp 10 14) ?_
       refine zu 10 24 (bp 11 13) ?_
       refine zu 11 25 (bp 12 12) ?_
       refine zu 12 26 (bp 13 11) ?_
       refine zu 13 27 (bp 14 10) ?_
       refine zu 14 28 (bp 15 9) ?_
       refine zu 15 29 (bp 16 8) ?_
       refine zu 16 30 (bp 17 7) ?_
       refine zu 17 31 (bp 18 6) ?_
       refine zu 18 32 (bp 19 5) ?_
       refine zu 19 33 (bp 20 4) ?_
       refine zu 20 34 (bp 21 3) ?_
       refine zu 21 35 (bp 22 2) ?_
       refine zp 22 36 (bp 23 1) ?_
       refine zp 23 37 (bp 24 0) ?_
       refine done_ (done_of HT_.out zk) ?_
       try go_wp2
       go_meet
       case rel=>exact⟨_,(false),zr,H',⟨by have:=HK1.out;first|omega|exact Nat.le_refl _⟩,⟨zb⟩⟩
     ·replace c7:=Bool.eq_false_iff.mpr c7
      subst c7
      rw[if_neg (show¬(false=true) by decide)] at H
      have H':=zz H
      clear H
      try go_wp2
      replace HB:=zz (qQ HB.out)
      have p307:0≤(x3_1:Int):=z2
      have q307:x3_1<(l0.length:Int):=z2
      obtain⟨ad307,e307,hx307_0,hx307_1,hx307_2,hx307_3⟩:=at_T96 HR0.out x3_1 p307 q307
      have hw307_3:=hx307_3
      have hw307_2:=hx307_2
      have hw307_1:=hx307_1
      have hw307_0:=hx307_0
      cases e307
      replace hx307_0:=z3 HB.out hx307_0
      replace hx307_1:=z3 HB.out hx307_1
      replace hx307_2:=z3 HB.out hx307_2
      replace hx307_3:=z3 HB.out hx307_3
      replace p307:=eq_true p307
      replace q307:=eq_true q307
      refine start_ (n:=24) (S:=fun w'=>w'.cell? (ad307.add ((x3_1).toNat*4))=some (.string ((qA l0 x3_1).f0))∧w'.cell? ⟨(ad307.add ((x3_1).toNat*4)).block,(ad307.add ((x3_1).toNat*4)).off+1,none⟩=some (.int .i64 ((qA l0 x3_1).f1))∧w'.cell? ⟨(ad307.add ((x3_1).toNat*4)).block,(ad307.add ((x3_1).toNat*4)).off+2,none⟩=some (.string ((qA l0 x3_1).f2))∧w'.cell? ⟨(ad307.add ((x3_1).toNat*4)).block,(ad307.add ((x3_1).toNat*4)).off+3,none⟩=some (.bool ((qA l0 x3_1).f3))) (ds:=[]) (bp 0 24) zk rfl rfl ⟨(z3 HB.out hw307_0),(z3 HB.out hw307_1),(z3 HB.out hw307_2),(z3 HB.out hw307_3)⟩ (fun hHeld=>?_);refine with_tabW spec_TreeOk.tab6 spec_TreeOk.bits6 (fun HT_ HW_=>?_)
      generalize wr.drew=w16 at HB hx307_0 hx307_1 hx307_2 hx307_3 hHeld⊢
      refine zp 0 14 (bp 1 23) ?_
      refine zp 1 15 (bp 2 22) ?_
      refine zp 2 16 (bp 3 21) ?_
      refine zt 3 17 (bp 4 20) ?_
      refine zo 4 18 (bp 5 19) fun K hK=>?_
      refine zh Tryz.func119 #[.agg #[.string ((qA l0 x3_1).f0),.int .i64 ((qA l0 x3_1).f1),.string ((qA l0 x3_1).f2),.bool ((qA l0 x3_1).f3)]] ?_
      with_reducible refine(spec_l10EntryOk.calls k1 ((qA l0 x3_1).f0) ((qA l0 x3_1).f1) ((qA l0 x3_1).f2) ((qA l0 x3_1).f3) false _ A6.out).mono ?_
      rintro e w17 ⟨rfl,hb⟩
      refine⟨_,rfl,?_⟩
      replace HB:=zz (zv zb hb)
      (try clear hb)
      (try clear hb2)
      (try clear hk)
      (try clear hi)
      refine hK.out _ _ ⟨(z3 HB.out hw307_0),(z3 HB.out hw307_1),(z3 HB.out hw307_2),(z3 HB.out hw307_3)⟩ (fun hHeld=>?_)
      clear hK K
      refine zn 18 ?_
      refine zp 5 19 (bp 6 18) ?_
      refine zp 6 20 (bp 7 17) ?_
      refine zu 7 21 (bp 8 16) ?_
      refine zu 8 22 (bp 9 15) ?_
      refine zu 9 23 (bp 10 14) ?_
      refine zu 10 24 (bp 11 13) ?_
      refine zu 11 25 (bp 12 12) ?_
      refine zu 12 26 (bp 13 11) ?_
      refine zu 13 27 (bp 14 10) ?_
      refine zu 14 28 (bp 15 9) ?_
      refine zu 15 29 (bp 16 8) ?_
      refine zu 16 30 (bp 17 7) ?_
      refine zu 17 31 (bp 18 6) ?_
      refine zu 18 32 (bp 19 5) ?_
      refine zu 19 33 (bp 20 4) ?_
      refine zu 20 34 (bp 21 3) ?_
      refine zu 21 35 (bp 22 2) ?_
      refine zu 22 36 (bp 23 1) ?_
      refine zp 23 37 (bp 24 0) ?_
      refine done_ (done_of HT_.out zk) ?_
      try go_wp2
      go_meet
      case rel=>exact⟨_,(true),zr,H',⟨by have:=HK1.out;first|omega|exact Nat.le_refl _⟩,⟨zb⟩⟩
    ·rw[if_neg c5] at H
     exact absurd H (by simp)
   case rest=>
    clear HC4
    try clear c1
    try clear p2
    try clear p3
    try clear q3
    try clear hx3
    try clear c5
    try clear c7
    try clear c8
    try clear c8b0
    try clear c10
    try clear c11
    try clear hx307_0
    try clear hx307_1
    try clear hx307_2
    try clear hx307_3
    try clear hx309_0
    try clear hx309_1
    try clear hx309_2
    try clear hx309_3
    try clear hx310_0
    try clear hx310_1
    try clear hx310_2
    try clear hx310_3
    try clear p307
    try clear p309
    try clear p310
    try clear q307
    try clear q309
    try clear q310
    obtain⟨kq,x37_3,rfl,HA,HJ3,HB⟩:=hcut
    cases kq with
    |zero=>exact absurd HA.out (by simp[spec_TreeOk.j1])
    |succ kj3=>
     have H:=HA.out
     clear HA
     simp only[spec_TreeOk.j1] at H
     by_cases c18:x37_3=true
     ·subst c18
      rw[if_pos rfl] at H
      obtain rfl:=zi H
      go_wp2
      go_ret
      exact⟨ze,zb⟩
     replace c18:=Bool.eq_false_iff.mpr c18
     subst c18
     rw[if_neg (show¬(false=true) by decide)] at H
     by_cases c19:0≤x3_1
     case neg=>exact zno H c19
     rw[if_pos c19] at H
     have c19b0:=z1 c19
     clear c19
     by_cases c20:x3_1<(l0.length:Int)
     case neg=>exact zno H c20
     rw[if_pos c20] at H
     have c20b0:=z1 c20
     clear c20
     replace H:=zf H
     obtain⟨t312,A210,H⟩:=H
     try dsimp only at H
     have A21:=zz A210
     clear A210
     by_cases c22:t312.toList=([]:List UInt8)
     ·rw[if_pos c22] at H
      obtain⟨c22b0,c22b1⟩:=zq c22
      clear c22
      have H':=zz H
      clear H
      have p311:0≤(x3_1:Int):=z2
      have q311:x3_1<(l0.length:Int):=z2
      obtain⟨ad311,e311,hx311_0,hx311_1,hx311_2,hx311_3⟩:=at_T96 HR0.out x3_1 p311 q311
      cases e311
      replace hx311_0:=z3 HB.out hx311_0
      replace hx311_1:=z3 HB.out hx311_1
      replace hx311_2:=z3 HB.out hx311_2
      replace hx311_3:=z3 HB.out hx311_3
      replace p311:=eq_true p311
      replace q311:=eq_true q311
      go_wp2_with(first|(refine zL 120 43 Tryz.func120 #[.string ((qA l0 x3_1).f0)] ?_;(with_reducible refine(spec_l10Up.calls kj3 ((qA l0 x3_1).f0) t312 _ A21.out).mono ?_);rintro e w' ⟨rfl,⟨nd,rfl⟩⟩;refine⟨_,rfl,?_⟩))
      go_roundg kj3
      case measure=>have:=HK1.out;have:=HJ3.out;omega
      case rel=>exact⟨(wrap64 (x3_1+1)),zr,H',⟨by have:=HK1.out;have:=HJ3.out;omega⟩,⟨zb⟩⟩
     rw[if_neg c22] at H
     obtain⟨c22b0,c22b1⟩:=zw c22
     have c23b0:=eq_true (z2:0≤x3_1)
     by_cases c24:x3_1≤(l0.length:Int)
     case neg=>exact zno H c24
     rw[if_pos c24] at H
     have c24b0:=eq_true c24
     have c24b1:=z1 c24
     clear c24
     obtain⟨y313,hy313⟩:∃y_:List (S96),y_=(l0.take (x3_1:Int).toNat):=⟨_,rfl⟩
     replace H:((spec_l10Dir.f kj3 y313 t312).bind fun t317=>(if t317=true then(spec_TreeOk.l0 kj3 l0 (wrap64 (x3_1+1))) else(some false)))=some r:=by first|(rw[hy313];with_reducible exact H)|(have H2_:=(Option.bind_some _ _).symm.trans H;rw[hy313];with_reducible exact H2_)|(have H2_:=(Option.bind_some _ _).symm.trans H;with_reducible exact H2_)|with_reducible exact H|(rw[hy313];exact H)|exact H
     have Ny313:=zz hy313
     clear hy313
     replace H:=zf H
     obtain⟨t317,A250,H⟩:=H
     try dsimp only at H
     have A25:=zz A250
     clear A250
     by_cases c26:t317=true
     case neg=>
      replace c26:=Bool.eq_false_iff.mpr c26
      subst c26
      rw[if_neg (show¬(false=true) by decide)] at H
      obtain rfl:=zi H
      have p311:0≤(x3_1:Int):=z2
      have q311:x3_1<(l0.length:Int):=z2
      obtain⟨ad311,e311,hx311_0,hx311_1,hx311_2,hx311_3⟩:=at_T96 HR0.out x3_1 p311 q311
      cases e311
      replace hx311_0:=z3 HB.out hx311_0
      replace hx311_1:=z3 HB.out hx311_1
      replace hx311_2:=z3 HB.out hx311_2
      replace hx311_3:=z3 HB.out hx311_3
      replace p311:=eq_true p311
      replace q311:=eq_true q311
      go_wp2_with(first|(refine zL 120 43 Tryz.func120 #[.string ((qA l0 x3_1).f0)] ?_;(with_reducible refine(spec_l10Up.calls kj3 ((qA l0 x3_1).f0) t312 _ A21.out).mono ?_);rintro e w' ⟨rfl,⟨nd,rfl⟩⟩;refine⟨_,rfl,?_⟩;have q28:(x3_1:Int)≤((l0.length:Int):Int):=z2;obtain⟨i028,hi028,_,hsz28,_⟩:=info_parts info96;have hroom28:l0.length≤c0:=HC0.out;have hC28:Kd.C k96 _ (some ad311) l0.length l0:=HR0.out;have hcut28:=cut_to (P:=Tryz.prog) 45 96 .i64 Tryz.underlying45 hi028 (some ad311) l0.length c0 x3_1 (z2) q28 hroom28;have hr28:=Kd.C_take (m:=(x3_1:Int).toNat) hC28 (by omega);have hy28:y313.length=(x3_1:Int).toNat:=(by rw[Ny313.out,List.length_take];omega);rw[←Ny313.out] at hr28;rw[←hy28] at hcut28;have HR316:=zz hr28;have HC316:=zz (show y313.length≤c0 from by omega);clear hr28 hC28 hroom28 hi028 hsz28;have KY28:=zz hy28;clear hy28;replace q28:=eq_true q28)|(go_at_call 121;(with_reducible refine(spec_l10Dir.calls kj3 _ _ y313 t312 false _ ?s1 ?s2 A25.out).mono ?_);(case s1=>exact zC HR316.out);(case s2=>exact HC316.out);rintro e w' ⟨rfl,⟨nd,rfl⟩⟩))
      go_ret
      exact⟨ze,zb⟩
     subst c26
     rw[if_pos rfl] at H
     have H':=zz H
     clear H
     have p311:0≤(x3_1:Int):=z2
     have q311:x3_1<(l0.length:Int):=z2
     obtain⟨ad311,e311,hx311_0,hx311_1,hx311_2,hx311_3⟩:=at_T96 HR0.out x3_1 p311 q311
     cases e311
     replace hx311_0:=z3 HB.out hx311_0
     replace hx311_1:=z3 HB.out hx311_1
     replace hx311_2:=z3 HB.out hx311_2
     replace hx311_3:=z3 HB.out hx311_3
     replace p311:=eq_true p311
     replace q311:=eq_true q311
     go_wp2_with(first|(refine zL 120 43 Tryz.func120 #[.string ((qA l0 x3_1).f0)] ?_;(with_reducible refine(spec_l10Up.calls kj3 ((qA l0 x3_1).f0) t312 _ A21.out).mono ?_);rintro e w' ⟨rfl,⟨nd,rfl⟩⟩;refine⟨_,rfl,?_⟩;have q27:(x3_1:Int)≤((l0.length:Int):Int):=z2;obtain⟨i027,hi027,_,hsz27,_⟩:=info_parts info96;have hroom27:l0.length≤c0:=HC0.out;have hC27:Kd.C k96 _ (some ad311) l0.length l0:=HR0.out;have hcut27:=cut_to (P:=Tryz.prog) 45 96 .i64 Tryz.underlying45 hi027 (some ad311) l0.length c0 x3_1 (z2) q27 hroom27;have hr27:=Kd.C_take (m:=(x3_1:Int).toNat) hC27 (by omega);have hy27:y313.length=(x3_1:Int).toNat:=(by rw[Ny313.out,List.length_take];omega);rw[←Ny313.out] at hr27;rw[←hy27] at hcut27;have HR316:=zz hr27;have HC316:=zz (show y313.length≤c0 from by omega);clear hr27 hC27 hroom27 hi027 hsz27;have KY27:=zz hy27;clear hy27;replace q27:=eq_true q27)|(go_at_call 121;(with_reducible refine(spec_l10Dir.calls kj3 _ _ y313 t312 true _ ?s1 ?s2 A25.out).mono ?_);(case s1=>exact zC HR316.out);(case s2=>exact HC316.out);rintro e w' ⟨rfl,⟨nd,rfl⟩⟩))
     go_roundg kj3
     case measure=>have:=HK1.out;have:=HJ3.out;omega
     case rel=>exact⟨(wrap64 (x3_1+1)),zr,H',⟨by have:=HK1.out;have:=HJ3.out;omega⟩,⟨zb⟩⟩
end Go.Proofs.YtcekmnclmldmmaaGreatDoor.Q
