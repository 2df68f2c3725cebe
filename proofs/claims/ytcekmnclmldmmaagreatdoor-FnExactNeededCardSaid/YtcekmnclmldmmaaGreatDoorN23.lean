import Derived.Test.YtcekmnclmldmmaaGreatDoorN02
set_option linter.unusedVariables false
set_option linter.unusedSimpArgs false
namespace Go.Proofs.YtcekmnclmldmmaaGreatDoor.Q
open Go.RowKit W1 W2 W3
attribute [local go_sem] max2_int min2_int max_two min_two max_three min_three max_four min_four
attribute [local go_sem high] bl_leq bl_gtr bl_geq
set_option maxHeartbeats 8000000
set_option maxRecDepth 100000
def laws_szEntry.f(a0_0:ByteArray)(a0_1:Int)(a0_2:ByteArray)(a0_3:Bool)(a1:Int):Option (Int):=if(wrap64 (a1 - (a0_0.size:Int)))<0 then(some (-1)) else(if(wrap64 ((wrap64 (a1 - (a0_0.size:Int))) - (a0_2.size:Int)))<0 then(some (-1)) else(some (wrap64 ((wrap64 (a1 - (a0_0.size:Int))) - (a0_2.size:Int)))))
theorem laws_szEntry.calls(a0_0:ByteArray)(a0_1:Int)(a0_2:ByteArray)(a0_3:Bool)(a1:Int)(r:Int)(w:World)(h:laws_szEntry.f a0_0 a0_1 a0_2 a0_3 a1=some r):
 Calls Tryz.prog 136 #[.agg #[.string a0_0,.int .i64 a0_1,.string a0_2,.bool a0_3],.int .i64 a1] w fun e w'=>e= .returned (.int .i64 r)∧Below w.heap.size w w':=by
 have hu159:=Tryz.underlying159
 have HB:=zz (Below.refl w.heap.size w)
 unfold laws_szEntry.f at h
 have H:=h
 clear h
 replace HB:=HB.out
 have HW:=zz (Below.refl w.heap.size w)
 go_enter Tryz.func136,Tryz.ntmps136
 by_cases c3:(wrap64 (a1 - (a0_0.size:Int)))<0
 ·rw[if_pos c3] at H
  have c3b0:=z1 c3
  clear c3
  obtain rfl:=zi H
  go_wp2_with(first|(refine zN 2 ?_;(try(refine z4 ?_;dsimp only));refine zX 2 159 #[.string a0_0,.int .i64 a0_1,.string a0_2,.bool a0_3] ?_;intro gb102 hg w4 hbox hb;have hst:=zv HB hb;clear hg hb HB;replace HW:=zz (zv HW.out hst);obtain⟨hbx102_0,hbx102_1,hbx102_2,hbx102_3⟩:=zx4 hbox;have HB:=Below.refl w4.heap.size w4;clear hbox hst))
  go_ret
  exact⟨ze,zv HW.out HB⟩
 rw[if_neg c3] at H
 have c3b0:=z0 c3
 clear c3
 by_cases c5:(wrap64 ((wrap64 (a1 - (a0_0.size:Int))) - (a0_2.size:Int)))<0
 ·rw[if_pos c5] at H
  have c5b0:=z1 c5
  clear c5
  obtain rfl:=zi H
  go_wp2_with(first|(refine zN 2 ?_;(try(refine z4 ?_;dsimp only));refine zX 2 159 #[.string a0_0,.int .i64 a0_1,.string a0_2,.bool a0_3] ?_;intro gb102 hg w6 hbox hb;have hst:=zv HB hb;clear hg hb HB;replace HW:=zz (zv HW.out hst);obtain⟨hbx102_0,hbx102_1,hbx102_2,hbx102_3⟩:=zx4 hbox;have HB:=Below.refl w6.heap.size w6;clear hbox hst))
  go_ret
  exact⟨ze,zv HW.out HB⟩
 rw[if_neg c5] at H
 have c5b0:=z0 c5
 clear c5
 obtain rfl:=zi H
 go_wp2_with(first|(refine zN 2 ?_;(try(refine z4 ?_;dsimp only));refine zX 2 159 #[.string a0_0,.int .i64 a0_1,.string a0_2,.bool a0_3] ?_;intro gb102 hg w7 hbox hb;have hst:=zv HB hb;clear hg hb HB;replace HW:=zz (zv HW.out hst);obtain⟨hbx102_0,hbx102_1,hbx102_2,hbx102_3⟩:=zx4 hbox;have HB:=Below.refl w7.heap.size w7;clear hbox hst))
 go_ret
 exact⟨ze,zv HW.out HB⟩
def laws_szEntryS.l0:Nat→List (S159)→Int→Int→Option (Int)
 |0,_,_,_=>none
 |k+1,x0,x1,x5=>if x5<(x0.length:Int) then(if 0≤x5 then((laws_szEntry.f ((rd_T159 x0 x5).f0) ((rd_T159 x0 x5).f1) ((rd_T159 x0 x5).f2) ((rd_T159 x0 x5).f3) x1).bind fun t104=>(if t104<0 then(some (-1)) else(laws_szEntryS.l0 k x0 t104 (wrap64 (x5+1))))) else(none)) else(some x1)
def laws_szEntryS.f(k:Nat)(l0:List (S159))(a1:Int):Option (Int):=if(wrap64 (a1 - (l0.length:Int)))<0 then(some (-1)) else(laws_szEntryS.l0 k l0 (wrap64 (a1 - (l0.length:Int))) 0)
theorem laws_szEntryS.calls(k:Nat)(A0:Option Addr)(c0:Nat)(l0:List (S159))(a1:Int)(r:Int)(w:World)(hr0:Kd.C k159 w A0 l0.length l0)(hc0:l0.length≤c0)(h:laws_szEntryS.f k l0 a1=some r):
 Calls Tryz.prog 114 #[.slice A0 l0.length c0,.int .i64 a1] w fun e w'=>e= .returned (.int .i64 r)∧Below w.heap.size w w':=by
 have hu159:=Tryz.underlying159
 have HR0:=zz hr0
 have HC0:=zz hc0
 clear hr0 hc0
 have HB:=zz (Below.refl w.heap.size w)
 unfold laws_szEntryS.f at h
 have H:=h
 clear h
 replace HB:=HB.out
 have HW:=zz (Below.refl w.heap.size w)
 go_enter Tryz.func114,Tryz.ntmps114
 by_cases c3:(wrap64 (a1 - (l0.length:Int)))<0
 ·rw[if_pos c3] at H
  have c3b0:=z1 c3
  clear c3
  obtain rfl:=zi H
  go_wp2_with(fail)
  go_ret
  exact⟨ze,zv HW.out HB⟩
 rw[if_neg c3] at H
 have c3b0:=z0 c3
 clear c3
 go_wp2_with(fail)
 go_loopg[1,5] k (fun kq v1 v5 w'=>∃(x1_kl4:Int) (x5_kl4:Int),v1= .int .i64 x1_kl4∧v5= .int .i64 x5_kl4∧qB (laws_szEntryS.l0 kq l0 x1_kl4 x5_kl4=some r)∧qB (kq≤k)∧qB (Below w.heap.size w w'))
 case atStart=>exact⟨(wrap64 (a1 - (l0.length:Int))),(0),zr,zr,⟨H⟩,⟨Nat.le_refl _⟩,⟨HB⟩⟩
 case round=>
  clear H HB
  obtain⟨x1_kl4,x5_kl4,rfl,rfl,H,HKkl4,HB⟩:=hrel
  replace HB:=HB.out
  replace H:=H.out
  have HLkl4:=zz (Below.refl w.heap.size w)
  cases gk with
  |zero=>exact absurd H (by simp[laws_szEntryS.l0])
  |succ kl4=>
   simp only[laws_szEntryS.l0] at H
   by_cases c5:x5_kl4<(l0.length:Int)
   case neg=>
    rw[if_neg c5] at H
    have c5b0:=z0 c5
    clear c5
    obtain rfl:=zi H
    go_wp2_with(fail)
    go_ret
    exact⟨ze,zv HW.out HB⟩
   rw[if_pos c5] at H
   have c5b0:=z1 c5
   clear c5
   by_cases c6:0≤x5_kl4
   case neg=>exact zno H c6
   rw[if_pos c6] at H
   have c6b0:=z1 c6
   clear c6
   have p103:0≤(x5_kl4:Int):=z2
   have q103:(x5_kl4:Int)<(l0.length:Int):=z2
   obtain⟨ad103,e103,hx103_0,hx103_1,hx103_2,hx103_3⟩:=at_T159 HR0.out x5_kl4 p103 q103
   cases e103
   replace hx103_0:=qR hx103_0
   replace hx103_1:=qR hx103_1
   replace hx103_2:=qR hx103_2
   replace hx103_3:=qR hx103_3
   replace p103:=eq_true p103
   replace q103:=eq_true q103
   replace H:=zf H
   obtain⟨t104,A7,H⟩:=H
   try dsimp only at H
   replace A7:=zz A7
   by_cases c8:t104<0
   ·rw[if_pos c8] at H
    have c8b0:=z1 c8
    clear c8
    go_wp2_with(fail)
    refine(laws_szEntry.calls _ _ _ _ _ _ _ A7.out).mono ?_
    rintro e w10 ⟨rfl,hb⟩
    replace HB:=zv HB hb
    clear hb
    obtain rfl:=zi H
    go_wp2_with(fail)
    go_ret
    exact⟨ze,zv HW.out HB⟩
   rw[if_neg c8] at H
   have c8b0:=z0 c8
   clear c8
   go_wp2_with(fail)
   refine(laws_szEntry.calls _ _ _ _ _ _ _ A7.out).mono ?_
   rintro e w12 ⟨rfl,hb⟩
   replace HB:=zv HB hb
   clear hb
   go_wp2_with(fail)
   go_roundg kl4
   case measure=>have:=HKkl4.out;omega
   case rel=>exact⟨(t104),(wrap64 (x5_kl4+1)),zr,zr,⟨H⟩,⟨by have:=HKkl4.out;omega⟩,⟨zv HLkl4.out HB⟩⟩
def laws_szStringS.l0:Nat→List ByteArray→Int→Int→Option (Int)
 |0,_,_,_=>none
 |k+1,x0,x1,x5=>if x5<(x0.length:Int) then(if 0≤x5 then(if(wrap64 (x1 - ((rdOf ByteArray.empty x0 x5).size:Int)))<0 then(some (-1)) else(laws_szStringS.l0 k x0 (wrap64 (x1 - ((rdOf ByteArray.empty x0 x5).size:Int))) (wrap64 (x5+1)))) else(none)) else(some x1)
def laws_szStringS.f(k:Nat)(l0:List ByteArray)(a1:Int):Option (Int):=if(wrap64 (a1 - (l0.length:Int)))<0 then(some (-1)) else(laws_szStringS.l0 k l0 (wrap64 (a1 - (l0.length:Int))) 0)
theorem laws_szStringS.calls(k:Nat)(A0:Option Addr)(c0:Nat)(l0:List ByteArray)(a1:Int)(r:Int)(w:World)(hr0:Kd.C Kd.string w A0 l0.length l0)(hc0:l0.length≤c0)(h:laws_szStringS.f k l0 a1=some r):
 Calls Tryz.prog 18 #[.slice A0 l0.length c0,.int .i64 a1] w fun e w'=>e= .returned (.int .i64 r)∧Below w.heap.size w w':=by
 have HR0:=zz hr0
 have HC0:=zz hc0
 clear hr0 hc0
 have HB:=zz (Below.refl w.heap.size w)
 unfold laws_szStringS.f at h
 have H:=h
 clear h
 replace HB:=HB.out
 have HW:=zz (Below.refl w.heap.size w)
 go_enter Tryz.func18,Tryz.ntmps18
 by_cases c3:(wrap64 (a1 - (l0.length:Int)))<0
 ·rw[if_pos c3] at H
  have c3b0:=z1 c3
  clear c3
  obtain rfl:=zi H
  go_wp2_with(fail)
  go_ret
  exact⟨ze,zv HW.out HB⟩
 rw[if_neg c3] at H
 have c3b0:=z0 c3
 clear c3
 go_wp2_with(fail)
 go_loopg[1,5] k (fun kq v1 v5 w'=>∃(x1_kl4:Int) (x5_kl4:Int),v1= .int .i64 x1_kl4∧v5= .int .i64 x5_kl4∧qB (laws_szStringS.l0 kq l0 x1_kl4 x5_kl4=some r)∧qB (kq≤k)∧qB (Below w.heap.size w w'))
 case atStart=>exact⟨(wrap64 (a1 - (l0.length:Int))),(0),zr,zr,⟨H⟩,⟨Nat.le_refl _⟩,⟨HB⟩⟩
 case round=>
  clear H HB
  obtain⟨x1_kl4,x5_kl4,rfl,rfl,H,HKkl4,HB⟩:=hrel
  replace HB:=HB.out
  replace H:=H.out
  have HLkl4:=zz (Below.refl w.heap.size w)
  cases gk with
  |zero=>exact absurd H (by simp[laws_szStringS.l0])
  |succ kl4=>
   simp only[laws_szStringS.l0] at H
   by_cases c5:x5_kl4<(l0.length:Int)
   case neg=>
    rw[if_neg c5] at H
    have c5b0:=z0 c5
    clear c5
    obtain rfl:=zi H
    go_wp2_with(fail)
    go_ret
    exact⟨ze,zv HW.out HB⟩
   rw[if_pos c5] at H
   have c5b0:=z1 c5
   clear c5
   by_cases c6:0≤x5_kl4
   case neg=>exact zno H c6
   rw[if_pos c6] at H
   have c6b0:=z1 c6
   clear c6
   have p101:0≤(x5_kl4:Int):=z2
   have q101:(x5_kl4:Int)<(l0.length:Int):=z2
   obtain⟨ad101,e101,hx101_0⟩:=Kd.vC HR0.out x5_kl4 p101 q101
   cases e101
   replace hx101_0:=qR hx101_0
   replace p101:=eq_true p101
   replace q101:=eq_true q101
   by_cases c7:(wrap64 (x1_kl4 - ((rdOf ByteArray.empty l0 x5_kl4).size:Int)))<0
   ·rw[if_pos c7] at H
    have c7b0:=z1 c7
    clear c7
    obtain rfl:=zi H
    go_wp2_with(fail)
    go_ret
    exact⟨ze,zv HW.out HB⟩
   rw[if_neg c7] at H
   have c7b0:=z0 c7
   clear c7
   go_wp2_with(fail)
   go_roundg kl4
   case measure=>have:=HKkl4.out;omega
   case rel=>exact⟨(wrap64 (x1_kl4 - ((rdOf ByteArray.empty l0 x5_kl4).size:Int))),(wrap64 (x5_kl4+1)),zr,zr,⟨H⟩,⟨by have:=HKkl4.out;omega⟩,⟨zv HLkl4.out HB⟩⟩
def laws_szItem.f(k:Nat)(a0_0:ByteArray)(a0_1:ByteArray)(l0_2:List ByteArray)(a0_3:ByteArray)(l0_4:List (S159))(a1:Int):Option (Int):=if(wrap64 (a1 - (a0_0.size:Int)))<0 then(some (-1)) else(if(wrap64 ((wrap64 (a1 - (a0_0.size:Int))) - (a0_1.size:Int)))<0 then(some (-1)) else((laws_szStringS.f k l0_2 (wrap64 ((wrap64 (a1 - (a0_0.size:Int))) - (a0_1.size:Int)))).bind fun t106=>(if t106<0 then(some (-1)) else(if(wrap64 (t106 - (a0_3.size:Int)))<0 then(some (-1)) else((laws_szEntryS.f k l0_4 (wrap64 (t106 - (a0_3.size:Int)))).bind fun t107=>(if t107<0 then(some (-1)) else(some t107)))))))
theorem laws_szItem.calls(k:Nat)(a0_0:ByteArray)(a0_1:ByteArray)(A0_2:Option Addr)(c0_2:Nat)(l0_2:List ByteArray)(a0_3:ByteArray)(A0_4:Option Addr)(c0_4:Nat)(l0_4:List (S159))(a1:Int)(r:Int)(w:World)(hr0_2:Kd.C Kd.string w A0_2 l0_2.length l0_2)(hc0_2:l0_2.length≤c0_2)(hr0_4:Kd.C k159 w A0_4 l0_4.length l0_4)(hc0_4:l0_4.length≤c0_4)(h:laws_szItem.f k a0_0 a0_1 l0_2 a0_3 l0_4 a1=some r):
 Calls Tryz.prog 74 #[.agg #[.string a0_0,.string a0_1,.slice A0_2 l0_2.length c0_2,.string a0_3,.slice A0_4 l0_4.length c0_4],.int .i64 a1] w fun e w'=>e= .returned (.int .i64 r)∧Below w.heap.size w w':=by
 have hu103:=Tryz.underlying103
 have HR0_2:=zz hr0_2
 have HC0_2:=zz hc0_2
 clear hr0_2 hc0_2
 have HR0_4:=zz hr0_4
 have HC0_4:=zz hc0_4
 clear hr0_4 hc0_4
 have HB:=zz (Below.refl w.heap.size w)
 unfold laws_szItem.f at h
 have H:=h
 clear h
 replace HB:=HB.out
 have HW:=zz (Below.refl w.heap.size w)
 go_enter Tryz.func74,Tryz.ntmps74
 by_cases c3:(wrap64 (a1 - (a0_0.size:Int)))<0
 ·rw[if_pos c3] at H
  have c3b0:=z1 c3
  clear c3
  obtain rfl:=zi H
  go_wp2_with(first|(refine zN 2 ?_;(try(refine z4 ?_;dsimp only));refine zX 2 103 #[.string a0_0,.string a0_1,.slice A0_2 l0_2.length c0_2,.string a0_3,.slice A0_4 l0_4.length c0_4] ?_;intro gb105 hg w4 hbox hb;have hst:=zv HB hb;clear hg hb HB;replace HW:=zz (zv HW.out hst);replace HR0_2:=zz (Kd.qC HR0_2.out hst);replace HR0_4:=zz (Kd.qC HR0_4.out hst);obtain⟨hbx105_0,hbx105_1,hbx105_2,hbx105_3,hbx105_4⟩:=zx5 hbox;have HB:=Below.refl w4.heap.size w4;clear hbox hst))
  go_ret
  exact⟨ze,zv HW.out HB⟩
 rw[if_neg c3] at H
 have c3b0:=z0 c3
 clear c3
 by_cases c5:(wrap64 ((wrap64 (a1 - (a0_0.size:Int))) - (a0_1.size:Int)))<0
 ·rw[if_pos c5] at H
  have c5b0:=z1 c5
  clear c5
  obtain rfl:=zi H
  go_wp2_with(first|(refine zN 2 ?_;(try(refine z4 ?_;dsimp only));refine zX 2 103 #[.string a0_0,.string a0_1,.slice A0_2 l0_2.length c0_2,.string a0_3,.slice A0_4 l0_4.length c0_4] ?_;intro gb105 hg w6 hbox hb;have hst:=zv HB hb;clear hg hb HB;replace HW:=zz (zv HW.out hst);replace HR0_2:=zz (Kd.qC HR0_2.out hst);replace HR0_4:=zz (Kd.qC HR0_4.out hst);obtain⟨hbx105_0,hbx105_1,hbx105_2,hbx105_3,hbx105_4⟩:=zx5 hbox;have HB:=Below.refl w6.heap.size w6;clear hbox hst))
  go_ret
  exact⟨ze,zv HW.out HB⟩
 rw[if_neg c5] at H
 have c5b0:=z0 c5
 clear c5
 replace H:=zf H
 obtain⟨t106,A7,H⟩:=H
 try dsimp only at H
 replace A7:=zz A7
 go_wp2_with(first|(refine zN 2 ?_;(try(refine z4 ?_;dsimp only));refine zX 2 103 #[.string a0_0,.string a0_1,.slice A0_2 l0_2.length c0_2,.string a0_3,.slice A0_4 l0_4.length c0_4] ?_;intro gb105 hg w10 hbox hb;have hst:=zv HB hb;clear hg hb HB;replace HW:=zz (zv HW.out hst);replace HR0_2:=zz (Kd.qC HR0_2.out hst);replace HR0_4:=zz (Kd.qC HR0_4.out hst);obtain⟨hbx105_0,hbx105_1,hbx105_2,hbx105_3,hbx105_4⟩:=zx5 hbox;have HB:=Below.refl w10.heap.size w10;clear hbox hst))
 refine(laws_szStringS.calls k _ _ _ _ _ _ (Kd.qC HR0_2.out HB) HC0_2.out A7.out).mono ?_
 rintro e w11 ⟨rfl,hb⟩
 replace HB:=zv HB hb
 clear hb
 by_cases c8:t106<0
 ·rw[if_pos c8] at H
  have c8b0:=z1 c8
  clear c8
  obtain rfl:=zi H
  go_wp2_with(fail)
  go_ret
  exact⟨ze,zv HW.out HB⟩
 rw[if_neg c8] at H
 have c8b0:=z0 c8
 clear c8
 by_cases c12:(wrap64 (t106 - (a0_3.size:Int)))<0
 ·rw[if_pos c12] at H
  have c12b0:=z1 c12
  clear c12
  obtain rfl:=zi H
  go_wp2_with(fail)
  go_ret
  exact⟨ze,zv HW.out HB⟩
 rw[if_neg c12] at H
 have c12b0:=z0 c12
 clear c12
 replace H:=zf H
 obtain⟨t107,A19,H⟩:=H
 try dsimp only at H
 replace A19:=zz A19
 by_cases c20:t107<0
 ·rw[if_pos c20] at H
  have c20b0:=z1 c20
  clear c20
  go_wp2_with(fail)
  refine(laws_szEntryS.calls k _ _ _ _ _ _ (Kd.qC HR0_4.out HB) HC0_4.out A19.out).mono ?_
  rintro e w22 ⟨rfl,hb⟩
  replace HB:=zv HB hb
  clear hb
  obtain rfl:=zi H
  go_wp2_with(fail)
  go_ret
  exact⟨ze,zv HW.out HB⟩
 rw[if_neg c20] at H
 have c20b0:=z0 c20
 clear c20
 go_wp2_with(fail)
 refine(laws_szEntryS.calls k _ _ _ _ _ _ (Kd.qC HR0_4.out HB) HC0_4.out A19.out).mono ?_
 rintro e w24 ⟨rfl,hb⟩
 replace HB:=zv HB hb
 clear hb
 obtain rfl:=zi H
 go_wp2_with(fail)
 go_ret
 exact⟨ze,zv HW.out HB⟩
def laws_szItemS.l0:Nat→List (S103)→Int→Int→Option (Int)
 |0,_,_,_=>none
 |k+1,x0,x1,x5=>if x5<(x0.length:Int) then(if 0≤x5 then((laws_szItem.f k ((rd_T103 x0 x5).f0) ((rd_T103 x0 x5).f1) ((rd_T103 x0 x5).f2) ((rd_T103 x0 x5).f3) ((rd_T103 x0 x5).f4) x1).bind fun t109=>(if t109<0 then(some (-1)) else(laws_szItemS.l0 k x0 t109 (wrap64 (x5+1))))) else(none)) else(some x1)
def laws_szItemS.f(k:Nat)(l0:List (S103))(a1:Int):Option (Int):=if(wrap64 (a1 - (l0.length:Int)))<0 then(some (-1)) else(laws_szItemS.l0 k l0 (wrap64 (a1 - (l0.length:Int))) 0)
theorem laws_szItemS.calls(k:Nat)(A0:Option Addr)(c0:Nat)(l0:List (S103))(a1:Int)(r:Int)(w:World)(hr0:Kd.C k103 w A0 l0.length l0)(hc0:l0.length≤c0)(h:laws_szItemS.f k l0 a1=some r):
 Calls Tryz.prog 28 #[.slice A0 l0.length c0,.int .i64 a1] w fun e w'=>e= .returned (.int .i64 r)∧Below w.heap.size w w':=by
 have hu103:=Tryz.underlying103
 have HR0:=zz hr0
 have HC0:=zz hc0
 clear hr0 hc0
 have HB:=zz (Below.refl w.heap.size w)
 unfold laws_szItemS.f at h
 have H:=h
 clear h
 replace HB:=HB.out
 have HW:=zz (Below.refl w.heap.size w)
 go_enter Tryz.func28,Tryz.ntmps28
 by_cases c3:(wrap64 (a1 - (l0.length:Int)))<0
 ·rw[if_pos c3] at H
  have c3b0:=z1 c3
  clear c3
  obtain rfl:=zi H
  go_wp2_with(fail)
  go_ret
  exact⟨ze,zv HW.out HB⟩
 rw[if_neg c3] at H
 have c3b0:=z0 c3
 clear c3
 go_wp2_with(fail)
 go_loopg[1,5] k (fun kq v1 v5 w'=>∃(x1_kl4:Int) (x5_kl4:Int),v1= .int .i64 x1_kl4∧v5= .int .i64 x5_kl4∧qB (laws_szItemS.l0 kq l0 x1_kl4 x5_kl4=some r)∧qB (kq≤k)∧qB (Below w.heap.size w w'))
 case atStart=>exact⟨(wrap64 (a1 - (l0.length:Int))),(0),zr,zr,⟨H⟩,⟨Nat.le_refl _⟩,⟨HB⟩⟩
 case round=>
  clear H HB
  obtain⟨x1_kl4,x5_kl4,rfl,rfl,H,HKkl4,HB⟩:=hrel
  replace HB:=HB.out
  replace H:=H.out
  have HLkl4:=zz (Below.refl w.heap.size w)
  cases gk with
  |zero=>exact absurd H (by simp[laws_szItemS.l0])
  |succ kl4=>
   simp only[laws_szItemS.l0] at H
   by_cases c5:x5_kl4<(l0.length:Int)
   case neg=>
    rw[if_neg c5] at H
    have c5b0:=z0 c5
    clear c5
    obtain rfl:=zi H
    go_wp2_with(fail)
    go_ret
    exact⟨ze,zv HW.out HB⟩
   rw[if_pos c5] at H
   have c5b0:=z1 c5
   clear c5
   by_cases c6:0≤x5_kl4
   case neg=>exact zno H c6
   rw[if_pos c6] at H
   have c6b0:=z1 c6
   clear c6
   have p108:0≤(x5_kl4:Int):=z2
   have q108:(x5_kl4:Int)<(l0.length:Int):=z2
   obtain⟨ad108,A108_2,c108_2,A108_4,c108_4,e108,hx108_0,hx108_1,hx108_2,hx108_3,hx108_4,hl108_2,hC108_2,hl108_4,hC108_4⟩:=at_T103 HR0.out x5_kl4 p108 q108
   cases e108
   replace hx108_0:=qR hx108_0
   replace hx108_1:=qR hx108_1
   replace hx108_2:=qR hx108_2
   replace hx108_3:=qR hx108_3
   replace hx108_4:=qR hx108_4
   have HR108_2:=zz hC108_2
   have HC108_2:=zz hl108_2
   clear hC108_2 hl108_2
   have HR108_4:=zz hC108_4
   have HC108_4:=zz hl108_4
   clear hC108_4 hl108_4
   replace p108:=eq_true p108
   replace q108:=eq_true q108
   replace H:=zf H
   obtain⟨t109,A7,H⟩:=H
   try dsimp only at H
   replace A7:=zz A7
   by_cases c8:t109<0
   ·rw[if_pos c8] at H
    have c8b0:=z1 c8
    clear c8
    go_wp2_with(fail)
    refine(laws_szItem.calls kl4 _ _ _ _ _ _ _ _ _ _ _ _ (Kd.qC HR108_2.out HB) HC108_2.out (Kd.qC HR108_4.out HB) HC108_4.out A7.out).mono ?_
    rintro e w10 ⟨rfl,hb⟩
    replace HB:=zv HB hb
    clear hb
    obtain rfl:=zi H
    go_wp2_with(fail)
    go_ret
    exact⟨ze,zv HW.out HB⟩
   rw[if_neg c8] at H
   have c8b0:=z0 c8
   clear c8
   go_wp2_with(fail)
   refine(laws_szItem.calls kl4 _ _ _ _ _ _ _ _ _ _ _ _ (Kd.qC HR108_2.out HB) HC108_2.out (Kd.qC HR108_4.out HB) HC108_4.out A7.out).mono ?_
   rintro e w12 ⟨rfl,hb⟩
   replace HB:=zv HB hb
   clear hb
   go_wp2_with(fail)
   go_roundg kl4
   case measure=>have:=HKkl4.out;omega
   case rel=>exact⟨(t109),(wrap64 (x5_kl4+1)),zr,zr,⟨H⟩,⟨by have:=HKkl4.out;omega⟩,⟨zv HLkl4.out HB⟩⟩
def laws_szGen.f(a0_0:Int)(a0_1:ByteArray)(a1:Int):Option (Int):=if(wrap64 (a1 - (a0_1.size:Int)))<0 then(some (-1)) else(some (wrap64 (a1 - (a0_1.size:Int))))
theorem laws_szGen.calls(a0_0:Int)(a0_1:ByteArray)(a1:Int)(r:Int)(w:World)(h:laws_szGen.f a0_0 a0_1 a1=some r):
 Calls Tryz.prog 137 #[.agg #[.int .i64 a0_0,.string a0_1],.int .i64 a1] w fun e w'=>e= .returned (.int .i64 r)∧Below w.heap.size w w':=by
 have hu161:=Tryz.underlying161
 have HB:=zz (Below.refl w.heap.size w)
 unfold laws_szGen.f at h
 have H:=h
 clear h
 replace HB:=HB.out
 have HW:=zz (Below.refl w.heap.size w)
 go_enter Tryz.func137,Tryz.ntmps137
 by_cases c3:(wrap64 (a1 - (a0_1.size:Int)))<0
 ·rw[if_pos c3] at H
  have c3b0:=z1 c3
  clear c3
  obtain rfl:=zi H
  go_wp2_with(first|(refine zN 2 ?_;(try(refine z4 ?_;dsimp only));refine zX 2 161 #[.int .i64 a0_0,.string a0_1] ?_;intro gb110 hg w4 hbox hb;have hst:=zv HB hb;clear hg hb HB;replace HW:=zz (zv HW.out hst);obtain⟨hbx110_0,hbx110_1⟩:=zx2 hbox;have HB:=Below.refl w4.heap.size w4;clear hbox hst))
  go_ret
  exact⟨ze,zv HW.out HB⟩
 rw[if_neg c3] at H
 have c3b0:=z0 c3
 clear c3
 obtain rfl:=zi H
 go_wp2_with(first|(refine zN 2 ?_;(try(refine z4 ?_;dsimp only));refine zX 2 161 #[.int .i64 a0_0,.string a0_1] ?_;intro gb110 hg w5 hbox hb;have hst:=zv HB hb;clear hg hb HB;replace HW:=zz (zv HW.out hst);obtain⟨hbx110_0,hbx110_1⟩:=zx2 hbox;have HB:=Below.refl w5.heap.size w5;clear hbox hst))
 go_ret
 exact⟨ze,zv HW.out HB⟩
def laws_szGenS.l0:Nat→List (S161)→Int→Int→Option (Int)
 |0,_,_,_=>none
 |k+1,x0,x1,x5=>if x5<(x0.length:Int) then(if 0≤x5 then((laws_szGen.f ((rd_T161 x0 x5).f0) ((rd_T161 x0 x5).f1) x1).bind fun t112=>(if t112<0 then(some (-1)) else(laws_szGenS.l0 k x0 t112 (wrap64 (x5+1))))) else(none)) else(some x1)
def laws_szGenS.f(k:Nat)(l0:List (S161))(a1:Int):Option (Int):=if(wrap64 (a1 - (l0.length:Int)))<0 then(some (-1)) else(laws_szGenS.l0 k l0 (wrap64 (a1 - (l0.length:Int))) 0)
theorem laws_szGenS.calls(k:Nat)(A0:Option Addr)(c0:Nat)(l0:List (S161))(a1:Int)(r:Int)(w:World)(hr0:Kd.C k161 w A0 l0.length l0)(hc0:l0.length≤c0)(h:laws_szGenS.f k l0 a1=some r):
 Calls Tryz.prog 115 #[.slice A0 l0.length c0,.int .i64 a1] w fun e w'=>e= .returned (.int .i64 r)∧Below w.heap.size w w':=by
 have hu161:=Tryz.underlying161
 have HR0:=zz hr0
 have HC0:=zz hc0
 clear hr0 hc0
 have HB:=zz (Below.refl w.heap.size w)
 unfold laws_szGenS.f at h
 have H:=h
 clear h
 replace HB:=HB.out
 have HW:=zz (Below.refl w.heap.size w)
 go_enter Tryz.func115,Tryz.ntmps115
 by_cases c3:(wrap64 (a1 - (l0.length:Int)))<0
 ·rw[if_pos c3] at H
  have c3b0:=z1 c3
  clear c3
  obtain rfl:=zi H
  go_wp2_with(fail)
  go_ret
  exact⟨ze,zv HW.out HB⟩
 rw[if_neg c3] at H
 have c3b0:=z0 c3
 clear c3
 go_wp2_with(fail)
 go_loopg[1,5] k (fun kq v1 v5 w'=>∃(x1_kl4:Int) (x5_kl4:Int),v1= .int .i64 x1_kl4∧v5= .int .i64 x5_kl4∧qB (laws_szGenS.l0 kq l0 x1_kl4 x5_kl4=some r)∧qB (kq≤k)∧qB (Below w.heap.size w w'))
 case atStart=>exact⟨(wrap64 (a1 - (l0.length:Int))),(0),zr,zr,⟨H⟩,⟨Nat.le_refl _⟩,⟨HB⟩⟩
 case round=>
  clear H HB
  obtain⟨x1_kl4,x5_kl4,rfl,rfl,H,HKkl4,HB⟩:=hrel
  replace HB:=HB.out
  replace H:=H.out
  have HLkl4:=zz (Below.refl w.heap.size w)
  cases gk with
  |zero=>exact absurd H (by simp[laws_szGenS.l0])
  |succ kl4=>
   simp only[laws_szGenS.l0] at H
   by_cases c5:x5_kl4<(l0.length:Int)
   case neg=>
    rw[if_neg c5] at H
    have c5b0:=z0 c5
    clear c5
    obtain rfl:=zi H
    go_wp2_with(fail)
    go_ret
    exact⟨ze,zv HW.out HB⟩
   rw[if_pos c5] at H
   have c5b0:=z1 c5
   clear c5
   by_cases c6:0≤x5_kl4
   case neg=>exact zno H c6
   rw[if_pos c6] at H
   have c6b0:=z1 c6
   clear c6
   have p111:0≤(x5_kl4:Int):=z2
   have q111:(x5_kl4:Int)<(l0.length:Int):=z2
   obtain⟨ad111,e111,hx111_0,hx111_1⟩:=at_T161 HR0.out x5_kl4 p111 q111
   cases e111
   replace hx111_0:=qR hx111_0
   replace hx111_1:=qR hx111_1
   replace p111:=eq_true p111
   replace q111:=eq_true q111
   replace H:=zf H
   obtain⟨t112,A7,H⟩:=H
   try dsimp only at H
   replace A7:=zz A7
   by_cases c8:t112<0
   ·rw[if_pos c8] at H
    have c8b0:=z1 c8
    clear c8
    go_wp2_with(fail)
    refine(laws_szGen.calls _ _ _ _ _ A7.out).mono ?_
    rintro e w10 ⟨rfl,hb⟩
    replace HB:=zv HB hb
    clear hb
    obtain rfl:=zi H
    go_wp2_with(fail)
    go_ret
    exact⟨ze,zv HW.out HB⟩
   rw[if_neg c8] at H
   have c8b0:=z0 c8
   clear c8
   go_wp2_with(fail)
   refine(laws_szGen.calls _ _ _ _ _ A7.out).mono ?_
   rintro e w12 ⟨rfl,hb⟩
   replace HB:=zv HB hb
   clear hb
   go_wp2_with(fail)
   go_roundg kl4
   case measure=>have:=HKkl4.out;omega
   case rel=>exact⟨(t112),(wrap64 (x5_kl4+1)),zr,zr,⟨H⟩,⟨by have:=HKkl4.out;omega⟩,⟨zv HLkl4.out HB⟩⟩
def laws_szProfile.f(k:Nat)(a0_0:ByteArray)(a0_1:Int)(l0_2:List (S161))(a1:Int):Option (Int):=if(wrap64 (a1 - (a0_0.size:Int)))<0 then(some (-1)) else((laws_szGenS.f k l0_2 (wrap64 (a1 - (a0_0.size:Int)))).bind fun t114=>(if t114<0 then(some (-1)) else(some t114)))
theorem laws_szProfile.calls(k:Nat)(a0_0:ByteArray)(a0_1:Int)(A0_2:Option Addr)(c0_2:Nat)(l0_2:List (S161))(a1:Int)(r:Int)(w:World)(hr0_2:Kd.C k161 w A0_2 l0_2.length l0_2)(hc0_2:l0_2.length≤c0_2)(h:laws_szProfile.f k a0_0 a0_1 l0_2 a1=some r):
 Calls Tryz.prog 75 #[.agg #[.string a0_0,.int .i64 a0_1,.slice A0_2 l0_2.length c0_2],.int .i64 a1] w fun e w'=>e= .returned (.int .i64 r)∧Below w.heap.size w w':=by
 have hu107:=Tryz.underlying107
 have HR0_2:=zz hr0_2
 have HC0_2:=zz hc0_2
 clear hr0_2 hc0_2
 have HB:=zz (Below.refl w.heap.size w)
 unfold laws_szProfile.f at h
 have H:=h
 clear h
 replace HB:=HB.out
 have HW:=zz (Below.refl w.heap.size w)
 go_enter Tryz.func75,Tryz.ntmps75
 by_cases c3:(wrap64 (a1 - (a0_0.size:Int)))<0
 ·rw[if_pos c3] at H
  have c3b0:=z1 c3
  clear c3
  obtain rfl:=zi H
  go_wp2_with(first|(refine zN 2 ?_;(try(refine z4 ?_;dsimp only));refine zX 2 107 #[.string a0_0,.int .i64 a0_1,.slice A0_2 l0_2.length c0_2] ?_;intro gb113 hg w4 hbox hb;have hst:=zv HB hb;clear hg hb HB;replace HW:=zz (zv HW.out hst);replace HR0_2:=zz (Kd.qC HR0_2.out hst);obtain⟨hbx113_0,hbx113_1,hbx113_2⟩:=zx3 hbox;have HB:=Below.refl w4.heap.size w4;clear hbox hst))
  go_ret
  exact⟨ze,zv HW.out HB⟩
 rw[if_neg c3] at H
 have c3b0:=z0 c3
 clear c3
 replace H:=zf H
 obtain⟨t114,A5,H⟩:=H
 try dsimp only at H
 replace A5:=zz A5
 go_wp2_with(first|(refine zN 2 ?_;(try(refine z4 ?_;dsimp only));refine zX 2 107 #[.string a0_0,.int .i64 a0_1,.slice A0_2 l0_2.length c0_2] ?_;intro gb113 hg w8 hbox hb;have hst:=zv HB hb;clear hg hb HB;replace HW:=zz (zv HW.out hst);replace HR0_2:=zz (Kd.qC HR0_2.out hst);obtain⟨hbx113_0,hbx113_1,hbx113_2⟩:=zx3 hbox;have HB:=Below.refl w8.heap.size w8;clear hbox hst))
 refine(laws_szGenS.calls k _ _ _ _ _ _ (Kd.qC HR0_2.out HB) HC0_2.out A5.out).mono ?_
 rintro e w9 ⟨rfl,hb⟩
 replace HB:=zv HB hb
 clear hb
 by_cases c6:t114<0
 ·rw[if_pos c6] at H
  have c6b0:=z1 c6
  clear c6
  obtain rfl:=zi H
  go_wp2_with(fail)
  go_ret
  exact⟨ze,zv HW.out HB⟩
 rw[if_neg c6] at H
 have c6b0:=z0 c6
 clear c6
 obtain rfl:=zi H
 go_wp2_with(fail)
 go_ret
 exact⟨ze,zv HW.out HB⟩
def laws_szProfileS.l0:Nat→List (S107)→Int→Int→Option (Int)
 |0,_,_,_=>none
 |k+1,x0,x1,x5=>if x5<(x0.length:Int) then(if 0≤x5 then((laws_szProfile.f k ((rd_T107 x0 x5).f0) ((rd_T107 x0 x5).f1) ((rd_T107 x0 x5).f2) x1).bind fun t116=>(if t116<0 then(some (-1)) else(laws_szProfileS.l0 k x0 t116 (wrap64 (x5+1))))) else(none)) else(some x1)
def laws_szProfileS.f(k:Nat)(l0:List (S107))(a1:Int):Option (Int):=if(wrap64 (a1 - (l0.length:Int)))<0 then(some (-1)) else(laws_szProfileS.l0 k l0 (wrap64 (a1 - (l0.length:Int))) 0)
theorem laws_szProfileS.calls(k:Nat)(A0:Option Addr)(c0:Nat)(l0:List (S107))(a1:Int)(r:Int)(w:World)(hr0:Kd.C k107 w A0 l0.length l0)(hc0:l0.length≤c0)(h:laws_szProfileS.f k l0 a1=some r):
 Calls Tryz.prog 29 #[.slice A0 l0.length c0,.int .i64 a1] w fun e w'=>e= .returned (.int .i64 r)∧Below w.heap.size w w':=by
 have hu107:=Tryz.underlying107
 have HR0:=zz hr0
 have HC0:=zz hc0
 clear hr0 hc0
 have HB:=zz (Below.refl w.heap.size w)
 unfold laws_szProfileS.f at h
 have H:=h
 clear h
 replace HB:=HB.out
 have HW:=zz (Below.refl w.heap.size w)
 go_enter Tryz.func29,Tryz.ntmps29
 by_cases c3:(wrap64 (a1 - (l0.length:Int)))<0
 ·rw[if_pos c3] at H
  have c3b0:=z1 c3
  clear c3
  obtain rfl:=zi H
  go_wp2_with(fail)
  go_ret
  exact⟨ze,zv HW.out HB⟩
 rw[if_neg c3] at H
 have c3b0:=z0 c3
 clear c3
 go_wp2_with(fail)
 go_loopg[1,5] k (fun kq v1 v5 w'=>∃(x1_kl4:Int) (x5_kl4:Int),v1= .int .i64 x1_kl4∧v5= .int .i64 x5_kl4∧qB (laws_szProfileS.l0 kq l0 x1_kl4 x5_kl4=some r)∧qB (kq≤k)∧qB (Below w.heap.size w w'))
 case atStart=>exact⟨(wrap64 (a1 - (l0.length:Int))),(0),zr,zr,⟨H⟩,⟨Nat.le_refl _⟩,⟨HB⟩⟩
 case round=>
  clear H HB
  obtain⟨x1_kl4,x5_kl4,rfl,rfl,H,HKkl4,HB⟩:=hrel
  replace HB:=HB.out
  replace H:=H.out
  have HLkl4:=zz (Below.refl w.heap.size w)
  cases gk with
  |zero=>exact absurd H (by simp[laws_szProfileS.l0])
  |succ kl4=>
   simp only[laws_szProfileS.l0] at H
   by_cases c5:x5_kl4<(l0.length:Int)
   case neg=>
    rw[if_neg c5] at H
    have c5b0:=z0 c5
    clear c5
    obtain rfl:=zi H
    go_wp2_with(fail)
    go_ret
    exact⟨ze,zv HW.out HB⟩
   rw[if_pos c5] at H
   have c5b0:=z1 c5
   clear c5
   by_cases c6:0≤x5_kl4
   case neg=>exact zno H c6
   rw[if_pos c6] at H
   have c6b0:=z1 c6
   clear c6
   have p115:0≤(x5_kl4:Int):=z2
   have q115:(x5_kl4:Int)<(l0.length:Int):=z2
   obtain⟨ad115,A115_2,c115_2,e115,hx115_0,hx115_1,hx115_2,hl115_2,hC115_2⟩:=at_T107 HR0.out x5_kl4 p115 q115
   cases e115
   replace hx115_0:=qR hx115_0
   replace hx115_1:=qR hx115_1
   replace hx115_2:=qR hx115_2
   have HR115_2:=zz hC115_2
   have HC115_2:=zz hl115_2
   clear hC115_2 hl115_2
   replace p115:=eq_true p115
   replace q115:=eq_true q115
   replace H:=zf H
   obtain⟨t116,A7,H⟩:=H
   try dsimp only at H
   replace A7:=zz A7
   by_cases c8:t116<0
   ·rw[if_pos c8] at H
    have c8b0:=z1 c8
    clear c8
    go_wp2_with(fail)
    refine(laws_szProfile.calls kl4 _ _ _ _ _ _ _ _ (Kd.qC HR115_2.out HB) HC115_2.out A7.out).mono ?_
    rintro e w10 ⟨rfl,hb⟩
    replace HB:=zv HB hb
    clear hb
    obtain rfl:=zi H
    go_wp2_with(fail)
    go_ret
    exact⟨ze,zv HW.out HB⟩
   rw[if_neg c8] at H
   have c8b0:=z0 c8
   clear c8
   go_wp2_with(fail)
   refine(laws_szProfile.calls kl4 _ _ _ _ _ _ _ _ (Kd.qC HR115_2.out HB) HC115_2.out A7.out).mono ?_
   rintro e w12 ⟨rfl,hb⟩
   replace HB:=zv HB hb
   clear hb
   go_wp2_with(fail)
   go_roundg kl4
   case measure=>have:=HKkl4.out;omega
   case rel=>exact⟨(t116),(wrap64 (x5_kl4+1)),zr,zr,⟨H⟩,⟨by have:=HKkl4.out;omega⟩,⟨zv HLkl4.out HB⟩⟩
def laws_szPending.f(k:Nat)(a0_0:ByteArray)(l0_1:List (S159))(a0_2:ByteArray)(a1:Int):Option (Int):=if(wrap64 (a1 - (a0_0.size:Int)))<0 then(some (-1)) else((laws_szEntryS.f k l0_1 (wrap64 (a1 - (a0_0.size:Int)))).bind fun t118=>(if t118<0 then(some (-1)) else(if(wrap64 (t118 - (a0_2.size:Int)))<0 then(some (-1)) else(some (wrap64 (t118 - (a0_2.size:Int)))))))
theorem laws_szPending.calls(k:Nat)(a0_0:ByteArray)(A0_1:Option Addr)(c0_1:Nat)(l0_1:List (S159))(a0_2:ByteArray)(a1:Int)(r:Int)(w:World)(hr0_1:Kd.C k159 w A0_1 l0_1.length l0_1)(hc0_1:l0_1.length≤c0_1)(h:laws_szPending.f k a0_0 l0_1 a0_2 a1=some r):
 Calls Tryz.prog 76 #[.agg #[.string a0_0,.slice A0_1 l0_1.length c0_1,.string a0_2],.int .i64 a1] w fun e w'=>e= .returned (.int .i64 r)∧Below w.heap.size w w':=by
 have hu110:=Tryz.underlying110
 have HR0_1:=zz hr0_1
 have HC0_1:=zz hc0_1
 clear hr0_1 hc0_1
 have HB:=zz (Below.refl w.heap.size w)
 unfold laws_szPending.f at h
 have H:=h
 clear h
 replace HB:=HB.out
 have HW:=zz (Below.refl w.heap.size w)
 go_enter Tryz.func76,Tryz.ntmps76
 by_cases c3:(wrap64 (a1 - (a0_0.size:Int)))<0
 ·rw[if_pos c3] at H
  have c3b0:=z1 c3
  clear c3
  obtain rfl:=zi H
  go_wp2_with(first|(refine zN 2 ?_;(try(refine z4 ?_;dsimp only));refine zX 2 110 #[.string a0_0,.slice A0_1 l0_1.length c0_1,.string a0_2] ?_;intro gb117 hg w4 hbox hb;have hst:=zv HB hb;clear hg hb HB;replace HW:=zz (zv HW.out hst);replace HR0_1:=zz (Kd.qC HR0_1.out hst);obtain⟨hbx117_0,hbx117_1,hbx117_2⟩:=zx3 hbox;have HB:=Below.refl w4.heap.size w4;clear hbox hst))
  go_ret
  exact⟨ze,zv HW.out HB⟩
 rw[if_neg c3] at H
 have c3b0:=z0 c3
 clear c3
 replace H:=zf H
 obtain⟨t118,A5,H⟩:=H
 try dsimp only at H
 replace A5:=zz A5
 go_wp2_with(first|(refine zN 2 ?_;(try(refine z4 ?_;dsimp only));refine zX 2 110 #[.string a0_0,.slice A0_1 l0_1.length c0_1,.string a0_2] ?_;intro gb117 hg w8 hbox hb;have hst:=zv HB hb;clear hg hb HB;replace HW:=zz (zv HW.out hst);replace HR0_1:=zz (Kd.qC HR0_1.out hst);obtain⟨hbx117_0,hbx117_1,hbx117_2⟩:=zx3 hbox;have HB:=Below.refl w8.heap.size w8;clear hbox hst))
 refine(laws_szEntryS.calls k _ _ _ _ _ _ (Kd.qC HR0_1.out HB) HC0_1.out A5.out).mono ?_
 rintro e w9 ⟨rfl,hb⟩
 replace HB:=zv HB hb
 clear hb
 by_cases c6:t118<0
 ·rw[if_pos c6] at H
  have c6b0:=z1 c6
  clear c6
  obtain rfl:=zi H
  go_wp2_with(fail)
  go_ret
  exact⟨ze,zv HW.out HB⟩
 rw[if_neg c6] at H
 have c6b0:=z0 c6
 clear c6
 by_cases c10:(wrap64 (t118 - (a0_2.size:Int)))<0
 ·rw[if_pos c10] at H
  have c10b0:=z1 c10
  clear c10
  obtain rfl:=zi H
  go_wp2_with(fail)
  go_ret
  exact⟨ze,zv HW.out HB⟩
 rw[if_neg c10] at H
 have c10b0:=z0 c10
 clear c10
 obtain rfl:=zi H
 go_wp2_with(fail)
 go_ret
 exact⟨ze,zv HW.out HB⟩
def laws_szPendingS.l0:Nat→List (S110)→Int→Int→Option (Int)
 |0,_,_,_=>none
 |k+1,x0,x1,x5=>if x5<(x0.length:Int) then(if 0≤x5 then((laws_szPending.f k ((rd_T110 x0 x5).f0) ((rd_T110 x0 x5).f1) ((rd_T110 x0 x5).f2) x1).bind fun t120=>(if t120<0 then(some (-1)) else(laws_szPendingS.l0 k x0 t120 (wrap64 (x5+1))))) else(none)) else(some x1)
def laws_szPendingS.f(k:Nat)(l0:List (S110))(a1:Int):Option (Int):=if(wrap64 (a1 - (l0.length:Int)))<0 then(some (-1)) else(laws_szPendingS.l0 k l0 (wrap64 (a1 - (l0.length:Int))) 0)
theorem laws_szPendingS.calls(k:Nat)(A0:Option Addr)(c0:Nat)(l0:List (S110))(a1:Int)(r:Int)(w:World)(hr0:Kd.C k110 w A0 l0.length l0)(hc0:l0.length≤c0)(h:laws_szPendingS.f k l0 a1=some r):
 Calls Tryz.prog 30 #[.slice A0 l0.length c0,.int .i64 a1] w fun e w'=>e= .returned (.int .i64 r)∧Below w.heap.size w w':=by
 have hu110:=Tryz.underlying110
 have HR0:=zz hr0
 have HC0:=zz hc0
 clear hr0 hc0
 have HB:=zz (Below.refl w.heap.size w)
 unfold laws_szPendingS.f at h
 have H:=h
 clear h
 replace HB:=HB.out
 have HW:=zz (Below.refl w.heap.size w)
 go_enter Tryz.func30,Tryz.ntmps30
 by_cases c3:(wrap64 (a1 - (l0.length:Int)))<0
 ·rw[if_pos c3] at H
  have c3b0:=z1 c3
  clear c3
  obtain rfl:=zi H
  go_wp2_with(fail)
  go_ret
  exact⟨ze,zv HW.out HB⟩
 rw[if_neg c3] at H
 have c3b0:=z0 c3
 clear c3
 go_wp2_with(fail)
 go_loopg[1,5] k (fun kq v1 v5 w'=>∃(x1_kl4:Int) (x5_kl4:Int),v1= .int .i64 x1_kl4∧v5= .int .i64 x5_kl4∧qB (laws_szPendingS.l0 kq l0 x1_kl4 x5_kl4=some r)∧qB (kq≤k)∧qB (Below w.heap.size w w'))
 case atStart=>exact⟨(wrap64 (a1 - (l0.length:Int))),(0),zr,zr,⟨H⟩,⟨Nat.le_refl _⟩,⟨HB⟩⟩
 case round=>
  clear H HB
  obtain⟨x1_kl4,x5_kl4,rfl,rfl,H,HKkl4,HB⟩:=hrel
  replace HB:=HB.out
  replace H:=H.out
  have HLkl4:=zz (Below.refl w.heap.size w)
  cases gk with
  |zero=>exact absurd H (by simp[laws_szPendingS.l0])
  |succ kl4=>
   simp only[laws_szPendingS.l0] at H
   by_cases c5:x5_kl4<(l0.length:Int)
   case neg=>
    rw[if_neg c5] at H
    have c5b0:=z0 c5
    clear c5
    obtain rfl:=zi H
    go_wp2_with(fail)
    go_ret
    exact⟨ze,zv HW.out HB⟩
   rw[if_pos c5] at H
   have c5b0:=z1 c5
   clear c5
   by_cases c6:0≤x5_kl4
   case neg=>exact zno H c6
   rw[if_pos c6] at H
   have c6b0:=z1 c6
   clear c6
   have p119:0≤(x5_kl4:Int):=z2
   have q119:(x5_kl4:Int)<(l0.length:Int):=z2
   obtain⟨ad119,A119_1,c119_1,e119,hx119_0,hx119_1,hx119_2,hl119_1,hC119_1⟩:=at_T110 HR0.out x5_kl4 p119 q119
   cases e119
   replace hx119_0:=qR hx119_0
   replace hx119_1:=qR hx119_1
   replace hx119_2:=qR hx119_2
   have HR119_1:=zz hC119_1
   have HC119_1:=zz hl119_1
   clear hC119_1 hl119_1
   replace p119:=eq_true p119
   replace q119:=eq_true q119
   replace H:=zf H
   obtain⟨t120,A7,H⟩:=H
   try dsimp only at H
   replace A7:=zz A7
   by_cases c8:t120<0
   ·rw[if_pos c8] at H
    have c8b0:=z1 c8
    clear c8
    go_wp2_with(fail)
    refine(laws_szPending.calls kl4 _ _ _ _ _ _ _ _ (Kd.qC HR119_1.out HB) HC119_1.out A7.out).mono ?_
    rintro e w10 ⟨rfl,hb⟩
    replace HB:=zv HB hb
    clear hb
    obtain rfl:=zi H
    go_wp2_with(fail)
    go_ret
    exact⟨ze,zv HW.out HB⟩
   rw[if_neg c8] at H
   have c8b0:=z0 c8
   clear c8
   go_wp2_with(fail)
   refine(laws_szPending.calls kl4 _ _ _ _ _ _ _ _ (Kd.qC HR119_1.out HB) HC119_1.out A7.out).mono ?_
   rintro e w12 ⟨rfl,hb⟩
   replace HB:=zv HB hb
   clear hb
   go_wp2_with(fail)
   go_roundg kl4
   case measure=>have:=HKkl4.out;omega
   case rel=>exact⟨(t120),(wrap64 (x5_kl4+1)),zr,zr,⟨H⟩,⟨by have:=HKkl4.out;omega⟩,⟨zv HLkl4.out HB⟩⟩
def laws_szNext.f(a0_0:ByteArray)(a0_1:ByteArray)(a1:Int):Option (Int):=if(wrap64 (a1 - (a0_0.size:Int)))<0 then(some (-1)) else(if(wrap64 ((wrap64 (a1 - (a0_0.size:Int))) - (a0_1.size:Int)))<0 then(some (-1)) else(some (wrap64 ((wrap64 (a1 - (a0_0.size:Int))) - (a0_1.size:Int)))))
theorem laws_szNext.calls(a0_0:ByteArray)(a0_1:ByteArray)(a1:Int)(r:Int)(w:World)(h:laws_szNext.f a0_0 a0_1 a1=some r):
 Calls Tryz.prog 77 #[.agg #[.string a0_0,.string a0_1],.int .i64 a1] w fun e w'=>e= .returned (.int .i64 r)∧Below w.heap.size w w':=by
 have hu112:=Tryz.underlying112
 have HB:=zz (Below.refl w.heap.size w)
 unfold laws_szNext.f at h
 have H:=h
 clear h
 replace HB:=HB.out
 have HW:=zz (Below.refl w.heap.size w)
 go_enter Tryz.func77,Tryz.ntmps77
 by_cases c3:(wrap64 (a1 - (a0_0.size:Int)))<0
 ·rw[if_pos c3] at H
  have c3b0:=z1 c3
  clear c3
  obtain rfl:=zi H
  go_wp2_with(first|(refine zN 2 ?_;(try(refine z4 ?_;dsimp only));refine zX 2 112 #[.string a0_0,.string a0_1] ?_;intro gb121 hg w4 hbox hb;have hst:=zv HB hb;clear hg hb HB;replace HW:=zz (zv HW.out hst);obtain⟨hbx121_0,hbx121_1⟩:=zx2 hbox;have HB:=Below.refl w4.heap.size w4;clear hbox hst))
  go_ret
  exact⟨ze,zv HW.out HB⟩
 rw[if_neg c3] at H
 have c3b0:=z0 c3
 clear c3
 by_cases c5:(wrap64 ((wrap64 (a1 - (a0_0.size:Int))) - (a0_1.size:Int)))<0
 ·rw[if_pos c5] at H
  have c5b0:=z1 c5
  clear c5
  obtain rfl:=zi H
  go_wp2_with(first|(refine zN 2 ?_;(try(refine z4 ?_;dsimp only));refine zX 2 112 #[.string a0_0,.string a0_1] ?_;intro gb121 hg w6 hbox hb;have hst:=zv HB hb;clear hg hb HB;replace HW:=zz (zv HW.out hst);obtain⟨hbx121_0,hbx121_1⟩:=zx2 hbox;have HB:=Below.refl w6.heap.size w6;clear hbox hst))
  go_ret
  exact⟨ze,zv HW.out HB⟩
 rw[if_neg c5] at H
 have c5b0:=z0 c5
 clear c5
 obtain rfl:=zi H
 go_wp2_with(first|(refine zN 2 ?_;(try(refine z4 ?_;dsimp only));refine zX 2 112 #[.string a0_0,.string a0_1] ?_;intro gb121 hg w7 hbox hb;have hst:=zv HB hb;clear hg hb HB;replace HW:=zz (zv HW.out hst);obtain⟨hbx121_0,hbx121_1⟩:=zx2 hbox;have HB:=Below.refl w7.heap.size w7;clear hbox hst))
 go_ret
 exact⟨ze,zv HW.out HB⟩
def laws_szNextS.l0:Nat→List (S112)→Int→Int→Option (Int)
 |0,_,_,_=>none
 |k+1,x0,x1,x5=>if x5<(x0.length:Int) then(if 0≤x5 then((laws_szNext.f ((rd_T112 x0 x5).f0) ((rd_T112 x0 x5).f1) x1).bind fun t123=>(if t123<0 then(some (-1)) else(laws_szNextS.l0 k x0 t123 (wrap64 (x5+1))))) else(none)) else(some x1)
def laws_szNextS.f(k:Nat)(l0:List (S112))(a1:Int):Option (Int):=if(wrap64 (a1 - (l0.length:Int)))<0 then(some (-1)) else(laws_szNextS.l0 k l0 (wrap64 (a1 - (l0.length:Int))) 0)
theorem laws_szNextS.calls(k:Nat)(A0:Option Addr)(c0:Nat)(l0:List (S112))(a1:Int)(r:Int)(w:World)(hr0:Kd.C k112 w A0 l0.length l0)(hc0:l0.length≤c0)(h:laws_szNextS.f k l0 a1=some r):
 Calls Tryz.prog 31 #[.slice A0 l0.length c0,.int .i64 a1] w fun e w'=>e= .returned (.int .i64 r)∧Below w.heap.size w w':=by
 have hu112:=Tryz.underlying112
 have HR0:=zz hr0
 have HC0:=zz hc0
 clear hr0 hc0
 have HB:=zz (Below.refl w.heap.size w)
 unfold laws_szNextS.f at h
 have H:=h
 clear h
 replace HB:=HB.out
 have HW:=zz (Below.refl w.heap.size w)
 go_enter Tryz.func31,Tryz.ntmps31
 by_cases c3:(wrap64 (a1 - (l0.length:Int)))<0
 ·rw[if_pos c3] at H
  have c3b0:=z1 c3
  clear c3
  obtain rfl:=zi H
  go_wp2_with(fail)
  go_ret
  exact⟨ze,zv HW.out HB⟩
 rw[if_neg c3] at H
 have c3b0:=z0 c3
 clear c3
 go_wp2_with(fail)
 go_loopg[1,5] k (fun kq v1 v5 w'=>∃(x1_kl4:Int) (x5_kl4:Int),v1= .int .i64 x1_kl4∧v5= .int .i64 x5_kl4∧qB (laws_szNextS.l0 kq l0 x1_kl4 x5_kl4=some r)∧qB (kq≤k)∧qB (Below w.heap.size w w'))
 case atStart=>exact⟨(wrap64 (a1 - (l0.length:Int))),(0),zr,zr,⟨H⟩,⟨Nat.le_refl _⟩,⟨HB⟩⟩
 case round=>
  clear H HB
  obtain⟨x1_kl4,x5_kl4,rfl,rfl,H,HKkl4,HB⟩:=hrel
  replace HB:=HB.out
  replace H:=H.out
  have HLkl4:=zz (Below.refl w.heap.size w)
  cases gk with
  |zero=>exact absurd H (by simp[laws_szNextS.l0])
  |succ kl4=>
   simp only[laws_szNextS.l0] at H
   by_cases c5:x5_kl4<(l0.length:Int)
   case neg=>
    rw[if_neg c5] at H
    have c5b0:=z0 c5
    clear c5
    obtain rfl:=zi H
    go_wp2_with(fail)
    go_ret
    exact⟨ze,zv HW.out HB⟩
   rw[if_pos c5] at H
   have c5b0:=z1 c5
   clear c5
   by_cases c6:0≤x5_kl4
   case neg=>exact zno H c6
   rw[if_pos c6] at H
   have c6b0:=z1 c6
   clear c6
   have p122:0≤(x5_kl4:Int):=z2
   have q122:(x5_kl4:Int)<(l0.length:Int):=z2
   obtain⟨ad122,e122,hx122_0,hx122_1⟩:=at_T112 HR0.out x5_kl4 p122 q122
   cases e122
   replace hx122_0:=qR hx122_0
   replace hx122_1:=qR hx122_1
   replace p122:=eq_true p122
   replace q122:=eq_true q122
   replace H:=zf H
   obtain⟨t123,A7,H⟩:=H
   try dsimp only at H
   replace A7:=zz A7
   by_cases c8:t123<0
   ·rw[if_pos c8] at H
    have c8b0:=z1 c8
    clear c8
    go_wp2_with(fail)
    refine(laws_szNext.calls _ _ _ _ _ A7.out).mono ?_
    rintro e w10 ⟨rfl,hb⟩
    replace HB:=zv HB hb
    clear hb
    obtain rfl:=zi H
    go_wp2_with(fail)
    go_ret
    exact⟨ze,zv HW.out HB⟩
   rw[if_neg c8] at H
   have c8b0:=z0 c8
   clear c8
   go_wp2_with(fail)
   refine(laws_szNext.calls _ _ _ _ _ A7.out).mono ?_
   rintro e w12 ⟨rfl,hb⟩
   replace HB:=zv HB hb
   clear hb
   go_wp2_with(fail)
   go_roundg kl4
   case measure=>have:=HKkl4.out;omega
   case rel=>exact⟨(t123),(wrap64 (x5_kl4+1)),zr,zr,⟨H⟩,⟨by have:=HKkl4.out;omega⟩,⟨zv HLkl4.out HB⟩⟩
def laws_szWorld.f(k:Nat)(l0_0:List (S103))(l0_1:List (S107))(l0_2:List (S110))(l0_3:List (S112))(a1:Int):Option (Int):=(laws_szItemS.f k l0_0 a1).bind fun t125=>(if t125<0 then(some (-1)) else((laws_szProfileS.f k l0_1 t125).bind fun t126=>(if t126<0 then(some (-1)) else((laws_szPendingS.f k l0_2 t126).bind fun t127=>(if t127<0 then(some (-1)) else((laws_szNextS.f k l0_3 t127).bind fun t128=>(if t128<0 then(some (-1)) else(some t128))))))))
theorem laws_szWorld.calls(k:Nat)(A0_0:Option Addr)(c0_0:Nat)(l0_0:List (S103))(A0_1:Option Addr)(c0_1:Nat)(l0_1:List (S107))(A0_2:Option Addr)(c0_2:Nat)(l0_2:List (S110))(A0_3:Option Addr)(c0_3:Nat)(l0_3:List (S112))(a1:Int)(r:Int)(w:World)(hr0_0:Kd.C k103 w A0_0 l0_0.length l0_0)(hc0_0:l0_0.length≤c0_0)(hr0_1:Kd.C k107 w A0_1 l0_1.length l0_1)(hc0_1:l0_1.length≤c0_1)(hr0_2:Kd.C k110 w A0_2 l0_2.length l0_2)(hc0_2:l0_2.length≤c0_2)(hr0_3:Kd.C k112 w A0_3 l0_3.length l0_3)(hc0_3:l0_3.length≤c0_3)(h:laws_szWorld.f k l0_0 l0_1 l0_2 l0_3 a1=some r):
 Calls Tryz.prog 7 #[.agg #[.slice A0_0 l0_0.length c0_0,.slice A0_1 l0_1.length c0_1,.slice A0_2 l0_2.length c0_2,.slice A0_3 l0_3.length c0_3],.int .i64 a1] w fun e w'=>e= .returned (.int .i64 r)∧Below w.heap.size w w':=by
 have hu27:=Tryz.underlying27
 have HR0_0:=zz hr0_0
 have HC0_0:=zz hc0_0
 clear hr0_0 hc0_0
 have HR0_1:=zz hr0_1
 have HC0_1:=zz hc0_1
 clear hr0_1 hc0_1
 have HR0_2:=zz hr0_2
 have HC0_2:=zz hc0_2
 clear hr0_2 hc0_2
 have HR0_3:=zz hr0_3
 have HC0_3:=zz hc0_3
 clear hr0_3 hc0_3
 have HB:=zz (Below.refl w.heap.size w)
 unfold laws_szWorld.f at h
 have H:=h
 clear h
 replace HB:=HB.out
 have HW:=zz (Below.refl w.heap.size w)
 go_enter Tryz.func7,Tryz.ntmps7
 replace H:=zf H
 obtain⟨t125,A3,H⟩:=H
 try dsimp only at H
 replace A3:=zz A3
 go_wp2_with(first|(refine zN 2 ?_;(try(refine z4 ?_;dsimp only));refine zX 2 27 #[.slice A0_0 l0_0.length c0_0,.slice A0_1 l0_1.length c0_1,.slice A0_2 l0_2.length c0_2,.slice A0_3 l0_3.length c0_3] ?_;intro gb124 hg w6 hbox hb;have hst:=zv HB hb;clear hg hb HB;replace HW:=zz (zv HW.out hst);replace HR0_0:=zz (Kd.qC HR0_0.out hst);replace HR0_1:=zz (Kd.qC HR0_1.out hst);replace HR0_2:=zz (Kd.qC HR0_2.out hst);replace HR0_3:=zz (Kd.qC HR0_3.out hst);obtain⟨hbx124_0,hbx124_1,hbx124_2,hbx124_3⟩:=zx4 hbox;have HB:=Below.refl w6.heap.size w6;clear hbox hst))
 refine(laws_szItemS.calls k _ _ _ _ _ _ (Kd.qC HR0_0.out HB) HC0_0.out A3.out).mono ?_
 rintro e w7 ⟨rfl,hb⟩
 replace HB:=zv HB hb
 clear hb
 by_cases c4:t125<0
 ·rw[if_pos c4] at H
  have c4b0:=z1 c4
  clear c4
  obtain rfl:=zi H
  go_wp2_with(fail)
  go_ret
  exact⟨ze,zv HW.out HB⟩
 rw[if_neg c4] at H
 have c4b0:=z0 c4
 clear c4
 replace H:=zf H
 obtain⟨t126,A11,H⟩:=H
 try dsimp only at H
 replace A11:=zz A11
 by_cases c12:t126<0
 ·rw[if_pos c12] at H
  have c12b0:=z1 c12
  clear c12
  go_wp2_with(fail)
  refine(laws_szProfileS.calls k _ _ _ _ _ _ (Kd.qC HR0_1.out HB) HC0_1.out A11.out).mono ?_
  rintro e w14 ⟨rfl,hb⟩
  replace HB:=zv HB hb
  clear hb
  obtain rfl:=zi H
  go_wp2_with(fail)
  go_ret
  exact⟨ze,zv HW.out HB⟩
 rw[if_neg c12] at H
 have c12b0:=z0 c12
 clear c12
 go_wp2_with(fail)
 refine(laws_szProfileS.calls k _ _ _ _ _ _ (Kd.qC HR0_1.out HB) HC0_1.out A11.out).mono ?_
 rintro e w16 ⟨rfl,hb⟩
 replace HB:=zv HB hb
 clear hb
 replace H:=zf H
 obtain⟨t127,A17,H⟩:=H
 try dsimp only at H
 replace A17:=zz A17
 by_cases c18:t127<0
 ·rw[if_pos c18] at H
  have c18b0:=z1 c18
  clear c18
  go_wp2_with(fail)
  refine(laws_szPendingS.calls k _ _ _ _ _ _ (Kd.qC HR0_2.out HB) HC0_2.out A17.out).mono ?_
  rintro e w20 ⟨rfl,hb⟩
  replace HB:=zv HB hb
  clear hb
  obtain rfl:=zi H
  go_wp2_with(fail)
  go_ret
  exact⟨ze,zv HW.out HB⟩
 rw[if_neg c18] at H
 have c18b0:=z0 c18
 clear c18
 go_wp2_with(fail)
 refine(laws_szPendingS.calls k _ _ _ _ _ _ (Kd.qC HR0_2.out HB) HC0_2.out A17.out).mono ?_
 rintro e w22 ⟨rfl,hb⟩
 replace HB:=zv HB hb
 clear hb
 replace H:=zf H
 obtain⟨t128,A23,H⟩:=H
 try dsimp only at H
 replace A23:=zz A23
 by_cases c24:t128<0
 ·rw[if_pos c24] at H
  have c24b0:=z1 c24
  clear c24
  go_wp2_with(fail)
  refine(laws_szNextS.calls k _ _ _ _ _ _ (Kd.qC HR0_3.out HB) HC0_3.out A23.out).mono ?_
  rintro e w26 ⟨rfl,hb⟩
  replace HB:=zv HB hb
  clear hb
  obtain rfl:=zi H
  go_wp2_with(fail)
  go_ret
  exact⟨ze,zv HW.out HB⟩
 rw[if_neg c24] at H
 have c24b0:=z0 c24
 clear c24
 go_wp2_with(fail)
 refine(laws_szNextS.calls k _ _ _ _ _ _ (Kd.qC HR0_3.out HB) HC0_3.out A23.out).mono ?_
 rintro e w28 ⟨rfl,hb⟩
 replace HB:=zv HB hb
 clear hb
 obtain rfl:=zi H
 go_wp2_with(fail)
 go_ret
 exact⟨ze,zv HW.out HB⟩
def laws_toEntry.f(a0_0:ByteArray)(a0_1:Int)(a0_2:ByteArray)(a0_3:Bool):Option (ByteArray×Int×ByteArray×Bool):=some (a0_0,a0_1,a0_2,a0_3)
theorem laws_toEntry.calls(a0_0:ByteArray)(a0_1:Int)(a0_2:ByteArray)(a0_3:Bool)(r1:ByteArray)(r2:Int)(r3:ByteArray)(r4:Bool)(w:World)(h:laws_toEntry.f a0_0 a0_1 a0_2 a0_3=some (r1,r2,r3,r4)):
 Calls Tryz.prog 143 #[.agg #[.string a0_0,.int .i64 a0_1,.string a0_2,.bool a0_3]] w fun e w'=>e= .returned (.agg #[.string r1,.int .i64 r2,.string r3,.bool r4])∧Below w.heap.size w w':=by
 have hu159:=Tryz.underlying159
 have hu96:=Tryz.underlying96
 have HB:=zz (Below.refl w.heap.size w)
 unfold laws_toEntry.f at h
 have H:=h
 clear h
 simp only[Option.some.injEq,Prod.mk.injEq] at H
 obtain⟨rfl,rfl,rfl,rfl⟩:=H
 go_enter Tryz.func143,Tryz.ntmps143
 go_wp2_with(first|(refine zX 1 159 #[.string a0_0,.int .i64 a0_1,.string a0_2,.bool a0_3] ?_;intro gb134 hg w2 hbox hb;have BK134:=zz (hbox);have GW134:=zz ((zg:w.heap.size≤gb134));have GE134:=zz ((zg:w.heap.size≤gb134));replace HB:=zz (zv zb hb);clear hb hbox hg)|(refine zX 2 96 #[.string (⟨#[]⟩:ByteArray),.int .i64 0,.string (⟨#[]⟩:ByteArray),.bool false] ?_;intro gb135 hg w3 hbox hb;have BK135:=zz (hbox);have GW135:=zz ((zg:w.heap.size≤gb135));have GE135:=zz ((zg:w.heap.size≤gb135));replace HB:=zz (zv zb hb);have NB134_135:=zz (zH BK134 hg);have NB135_134:=zz (zI BK134 hg);replace BK134:=zz (zJ BK134 hb);clear hb hbox hg)|(refine zX 3 96 #[.string (⟨#[]⟩:ByteArray),.int .i64 0,.string (⟨#[]⟩:ByteArray),.bool false] ?_;intro gb136 hg w4 hbox hb;have BK136:=zz (hbox);have GW136:=zz ((zg:w.heap.size≤gb136));have GE136:=zz ((zg:w.heap.size≤gb136));replace HB:=zz (zv zb hb);have NB134_136:=zz (zH BK134 hg);have NB136_134:=zz (zI BK134 hg);replace BK134:=zz (zJ BK134 hb);have NB135_136:=zz (zH BK135 hg);have NB136_135:=zz (zI BK135 hg);replace BK135:=zz (zJ BK135 hb);clear hb hbox hg;have hnb5:=NB134_135.out;have hnc5:=NB135_134.out;have hnb6:=NB134_136.out;have hnc6:=NB136_134.out;obtain⟨hcz7_0,hcz7_1,hcz7_2,hcz7_3,hfz7_0,hfz7_1,hfz7_2,hfz7_3⟩:=zc4 BK134.out;have hnb8:=NB136_135.out;have hnc8:=NB135_136.out;obtain⟨hcz9_0,hcz9_1,hcz9_2,hcz9_3,hfz9_0,hfz9_1,hfz9_2,hfz9_3⟩:=zc4 BK136.out;obtain⟨hcz10_0,hcz10_1,hcz10_2,hcz10_3,hfz10_0,hfz10_1,hfz10_2,hfz10_3⟩:=zc4 BK135.out))
 refine bodyPost_ret (results_cell_row rfl _ _ gb135 96 #[.string a0_0,.int .i64 a0_1,.string a0_2,.bool a0_3] (0,0) _ rfl (by(with_reducible repeat(first|refine qJ ?_ _|refine qK ?_|refine qF ?_ _));refine qP (cs:= #[.string a0_0,.int .i64 a0_1,.string a0_2,.bool false]) ?_ 3 _ rfl;(with_reducible repeat(first|refine qJ ?_ _|refine qK ?_|refine qF ?_ _));refine qP (cs:= #[.string a0_0,.int .i64 a0_1,.string (⟨#[]⟩:ByteArray),.bool false]) ?_ 2 _ rfl;(with_reducible repeat(first|refine qJ ?_ _|refine qK ?_|refine qF ?_ _));refine qP (cs:= #[.string a0_0,.int .i64 0,.string (⟨#[]⟩:ByteArray),.bool false]) ?_ 1 _ rfl;(with_reducible repeat(first|refine qJ ?_ _|refine qK ?_|refine qF ?_ _));refine qP (cs:= #[.string (⟨#[]⟩:ByteArray),.int .i64 0,.string (⟨#[]⟩:ByteArray),.bool false]) ?_ 0 _ rfl;(with_reducible repeat(first|refine qJ ?_ _|refine qK ?_|refine qF ?_ _));refine blk_far ?_ NB135_136.out _;(with_reducible repeat(first|refine qJ ?_ _|refine qK ?_|refine qF ?_ _));refine blk_far ?_ NB135_136.out _;(with_reducible repeat(first|refine qJ ?_ _|refine qK ?_|refine qF ?_ _));refine blk_far ?_ NB135_136.out _;(with_reducible repeat(first|refine qJ ?_ _|refine qK ?_|refine qF ?_ _));refine blk_far ?_ NB135_136.out _;(with_reducible repeat(first|refine qJ ?_ _|refine qK ?_|refine qF ?_ _));exact BK135.out) Tryz.underlying96 rfl zk) rfl ?_
 exact⟨ze,zb⟩
def laws_toEntryS.l0:Nat→List (S159)→List (S96)→Int→Option ((List (S96)))
 |0,_,_,_=>none
 |k+1,x0,x3,x4=>if x4<(x0.length:Int) then(if 0≤x4 then((laws_toEntry.f ((rd_T159 x0 x4).f0) ((rd_T159 x0 x4).f1) ((rd_T159 x0 x4).f2) ((rd_T159 x0 x4).f3)).bind fun bt141=>(if x4<(x3.length:Int) then(laws_toEntryS.l0 k x0 (x3.set (x4:Int).toNat (⟨bt141.1,bt141.2.1,bt141.2.2.1,bt141.2.2.2⟩:S96)) (wrap64 (x4+1))) else(none))) else(none)) else(some x3)
def laws_toEntryS.f(k:Nat)(l0:List (S159)):Option ((List (S96))):=if 0≤(l0.length:Int) then(if((l0.length:Int):Int).toNat≤5864062014805 then(laws_toEntryS.l0 k l0 (List.replicate ((l0.length:Int):Int).toNat z96) 0) else(none)) else(none)
theorem laws_toEntryS.calls(k:Nat)(A0:Option Addr)(c0:Nat)(l0:List (S159))(r:List (S96))(w:World)(hr0:Kd.C k159 w A0 l0.length l0)(hc0:l0.length≤c0)(h:laws_toEntryS.f k l0=some r):
 Calls Tryz.prog 123 #[.slice A0 l0.length c0] w fun e w'=>∃v0_:Value,e= .returned (v0_)∧Kd.R k96 96 w' w.heap.size (fun _=>True) v0_ r∧Below w.heap.size w w':=by
 have hu159:=Tryz.underlying159
 have hu96:=Tryz.underlying96
 have HR0:=zz hr0
 have HC0:=zz hc0
 clear hr0 hc0
 have HB:=zz (Below.refl w.heap.size w)
 unfold laws_toEntryS.f at h
 have H:=h
 clear h
 by_cases c2:0≤(l0.length:Int)
 case neg=>exact zno H c2
 rw[if_pos c2] at H
 have c2b0:=eq_true c2
 have c2b1:=z1 c2
 clear c2
 by_cases c3:((l0.length:Int):Int).toNat≤5864062014805
 case neg=>exact zno H c3
 rw[if_pos c3] at H
 have c3b0:=eq_true c3
 have c3b1:=z1 c3
 clear c3
 obtain⟨y137,hy137⟩:∃y_:List (S96),y_=(List.replicate ((l0.length:Int):Int).toNat z96):=⟨_,rfl⟩
 replace H:(laws_toEntryS.l0 k l0 y137 0)=some r:=by first|(rw[hy137];with_reducible exact H)|(have H2_:=(Option.bind_some _ _).symm.trans H;rw[hy137];with_reducible exact H2_)|(have H2_:=(Option.bind_some _ _).symm.trans H;with_reducible exact H2_)|with_reducible exact H|(rw[hy137];exact H)|exact H
 have Ny137:=zz hy137
 clear hy137
 have H':=zz H
 clear H
 go_enter Tryz.func123,Tryz.ntmps123
 go_wp2_with(first|(refine zN 7 ?_;refine Kd.R_make k96 _ 96 rfl (N:=7) rfl 45 _ _ rfl (l0.length:Int) rfl rfl Tryz.underlying45 (.agg #[(.string ⟨#[]⟩),(.int .i64 0),(.string ⟨#[]⟩),(.bool false)]) 48 info96 rfl (by decide) (by omega) z96 (ok:=fun _=>True) (okp:=fun _=>True) (k96_mkM _ _ _ z96) (fun _ hk=>hk) trivial (z2) (Nat.le_trans (Nat.mul_le_mul_right _ (z2:(l0.length:Int).toNat≤5864062014805)) (by omega)) (Below.refl _ _) (Nat.le_refl _) ?_;intro v138 w4 ho5 hb hg_ hnew_;clear hg_ hnew_;(first|rw[←Ny137.out] at ho5|(simp only[Int.reduceToNat] at ho5;rw[←Ny137.out] at ho5));have HO139:=zz (Kd.vH ho5 (qG zb));replace HB:=zz (zv zb hb);clear hb ho5))
 go_loopg[4] k (fun kq v4 w'=>∃(x3_1:List (S96)) (x4_1:Int),v4= .int .i64 x4_1∧qB (laws_toEntryS.l0 kq l0 x3_1 x4_1=some r)∧qB (kq≤k)∧qB (Kd.R k96 96 w' w.heap.size (fun _=>True) v138 x3_1)∧qB (Below w.heap.size w w'))
 case atStart=>exact⟨(y137),(0),zr,H',⟨Nat.le_refl _⟩,⟨by(with_reducible repeat(first|apply Kd.qU|apply Kd.qT|apply Kd.qX));exact HO139.out⟩,⟨zb⟩⟩
 case round=>
  clear H'
  try clear c1
  try clear c2
  try clear c2b0
  try clear c2b1
  try clear p2
  try clear c3
  try clear c3b0
  try clear c3b1
  obtain⟨x3_1,x4_1,rfl,HA,HK1,HO_3,HB⟩:=hrel
  cases gk with
  |zero=>exact absurd HA.out (by simp[laws_toEntryS.l0])
  |succ k1=>
   have H:=HA.out
   clear HA
   simp only[laws_toEntryS.l0] at H
   by_cases c6:x4_1<(l0.length:Int)
   case neg=>
    rw[if_neg c6] at H
    have c6b0:=z0 c6
    clear c6
    obtain rfl:=zi H
    go_wp2
    go_ret
    exact⟨_,ze,by(with_reducible repeat(first|apply Kd.qU|apply Kd.qT|apply Kd.qX));exact HO_3.out,zb⟩
   rw[if_pos c6] at H
   have c6b0:=z1 c6
   clear c6
   by_cases c7:0≤x4_1
   case neg=>exact zno H c7
   rw[if_pos c7] at H
   have c7b0:=z1 c7
   clear c7
   replace H:=zf H
   obtain⟨⟨t141,t142,t143,t144⟩,A80,H⟩:=H
   try dsimp only at H
   have A8:=zz A80
   clear A80
   by_cases c9:x4_1<(x3_1.length:Int)
   case neg=>exact zno H c9
   rw[if_pos c9] at H
   have c9b0:=z1 c9
   clear c9
   obtain⟨y145,hy145⟩:∃y_:List (S96),y_=(x3_1.set (x4_1:Int).toNat (⟨t141,t142,t143,t144⟩:S96)):=⟨_,rfl⟩
   replace H:(laws_toEntryS.l0 k1 l0 y145 (wrap64 (x4_1+1)))=some r:=by first|(rw[hy145];with_reducible exact H)|(have H2_:=(Option.bind_some _ _).symm.trans H;rw[hy145];with_reducible exact H2_)|(have H2_:=(Option.bind_some _ _).symm.trans H;with_reducible exact H2_)|with_reducible exact H|(rw[hy145];exact H)|exact H
   have Ny145:=zz hy145
   clear hy145
   have H':=zz H
   clear H
   have p140:0≤(x4_1:Int):=z2
   have q140:x4_1<(l0.length:Int):=z2
   obtain⟨ad140,e140,hx140_0,hx140_1,hx140_2,hx140_3⟩:=at_T159 HR0.out x4_1 p140 q140
   cases e140
   replace hx140_0:=z3 HB.out hx140_0
   replace hx140_1:=z3 HB.out hx140_1
   replace hx140_2:=z3 HB.out hx140_2
   replace hx140_3:=z3 HB.out hx140_3
   replace p140:=eq_true p140
   replace q140:=eq_true q140
   go_wp2_with(first|(refine zL 143 20 Tryz.func143 #[.agg #[.string ((rd_T159 l0 x4_1).f0),.int .i64 ((rd_T159 l0 x4_1).f1),.string ((rd_T159 l0 x4_1).f2),.bool ((rd_T159 l0 x4_1).f3)]] ?_;(with_reducible refine(laws_toEntry.calls ((rd_T159 l0 x4_1).f0) ((rd_T159 l0 x4_1).f1) ((rd_T159 l0 x4_1).f2) ((rd_T159 l0 x4_1).f3) t141 t142 t143 t144 _ A8.out).mono ?_);rintro e w11 ⟨rfl,hb⟩;refine⟨_,rfl,?_⟩;replace HO_3:=zz (Kd.R_below (zR HO_3.out) hb);replace HB:=zz (zv zb hb);(try clear hb);(try clear hb2);(try clear hk);(try clear hi);have p10:0≤(x4_1:Int):=z2;have q10:(x4_1:Int)<((x3_1.length:Int):Int):=z2;obtain⟨go10,co10,eo10,gb10,gl10,cl10,HG10⟩:=Kd.R_form HO_3.out (by omega);(first|cases eo10|(injection eo10 with ea_ en_ ec_;(first|subst ea_|(injection ea_ with ea_;subst ea_));subst ec_;clear en_));have GB10:=zz gb10;have GG10:=zz HG10;clear gb10 gl10 HG10;obtain⟨ce10,hcl10,hM10,hcc10,hfr10⟩:=Kd.R_elem HO_3.out z96 (x4_1:Int) p10 q10;obtain rfl:=k96_openM hM10;have hx10_0:w11.cell? ⟨go10,(x4_1:Int).toNat*4,none⟩=some (.string ((qA x3_1 x4_1).f0)):=hcc10 0 _ rfl;have hx10_1:w11.cell? ⟨go10,(x4_1:Int).toNat*4+1,none⟩=some (.int .i64 ((qA x3_1 x4_1).f1)):=hcc10 1 _ rfl;have hx10_2:w11.cell? ⟨go10,(x4_1:Int).toNat*4+2,none⟩=some (.string ((qA x3_1 x4_1).f2)):=hcc10 2 _ rfl;have hx10_3:w11.cell? ⟨go10,(x4_1:Int).toNat*4+3,none⟩=some (.bool ((qA x3_1 x4_1).f3)):=hcc10 3 _ rfl;have hf10_0:w11.frozen? ⟨go10,(x4_1:Int).toNat*4,none⟩=false:=hfr10 0;have hf10_1:w11.frozen? ⟨go10,(x4_1:Int).toNat*4+1,none⟩=false:=hfr10 1;have hf10_2:w11.frozen? ⟨go10,(x4_1:Int).toNat*4+2,none⟩=false:=hfr10 2;have hf10_3:w11.frozen? ⟨go10,(x4_1:Int).toNat*4+3,none⟩=false:=hfr10 3;clear hcl10 hcc10 hfr10 hM10;replace p10:=eq_true p10;replace q10:=eq_true q10;have HX12:=zz (show Kd.R k96 96 w11 w.heap.size (fun _=>True) (.slice (some ⟨go10,0,none⟩) x3_1.length co10) x3_1 from(zR HO_3.out));obtain⟨ce12,hcl12,hM12,hcc12,hfr12⟩:=Kd.R_elem HX12.out z96 (x4_1:Int) (z2) (by have h_:(x4_1:Int)<((x3_1.length:Int):Int):=z2;first|exact h_|(have e_:=(Kd.qS HO_3.out).1;omega)|simpa using h_);obtain rfl:=k96_openM hM12;have HP12:=Kd.R_seg HX12.out (x4_1:Int) (z2) (by have h_:(x4_1:Int)<((x3_1.length:Int):Int):=z2;first|exact h_|(have e_:=(Kd.qS HO_3.out).1;omega)|simpa using h_) (seg:=[.string t141,.int .i64 t142,.string t143,.bool t144]) (j:=0) hcl12 hcc12 (show 4≤4 from by decide) (x':=(⟨t141,t142,t143,t144⟩:S96)) (k96_mkM _ _ _ (⟨t141,t142,t143,t144⟩:S96)) (fun _ hk=>hk);have hx12_0:=hcc12 0 _ rfl;(try simp only[show(k96).sz=4 from rfl,Nat.mul_one,Nat.add_zero] at hx12_0);have hf12_0:=hfr12 0;(try simp only[show(k96).sz=4 from rfl,Nat.mul_one,Nat.add_zero] at hf12_0);have hx12_1:=hcc12 1 _ rfl;(try simp only[show(k96).sz=4 from rfl,Nat.mul_one,Nat.add_zero] at hx12_1);have hf12_1:=hfr12 1;(try simp only[show(k96).sz=4 from rfl,Nat.mul_one,Nat.add_zero] at hf12_1);have hx12_2:=hcc12 2 _ rfl;(try simp only[show(k96).sz=4 from rfl,Nat.mul_one,Nat.add_zero] at hx12_2);have hf12_2:=hfr12 2;(try simp only[show(k96).sz=4 from rfl,Nat.mul_one,Nat.add_zero] at hf12_2);have hx12_3:=hcc12 3 _ rfl;(try simp only[show(k96).sz=4 from rfl,Nat.mul_one,Nat.add_zero] at hx12_3);have hf12_3:=hfr12 3;(try simp only[show(k96).sz=4 from rfl,Nat.mul_one,Nat.add_zero] at hf12_3);clear hcl12 hcc12 hfr12 hM12)|((with_reducible refine qY (t:=96) (p:=21) rfl ?_);refine qV (t:=96) (p:=21) (v:=?vo_w13) (w1:=((((w11.setCell ⟨go10,(x4_1:Int).toNat*4,none⟩ (.string t141)).setCell ⟨go10,(x4_1:Int).toNat*4+1,none⟩ (.int .i64 t142)).setCell ⟨go10,(x4_1:Int).toNat*4+2,none⟩ (.string t143)).setCell ⟨go10,(x4_1:Int).toNat*4+3,none⟩ (.bool t144))) ?hg ?ho ?hn ?hr ?_;(case ho=>rfl);(case hg=>rfl);(case hn=>rfl);(case hr=>first|(go_simp;done)|(go_simp;rfl));intro w13 hw;have hg:w11.grownBy w13 (some go10):=(by rw[hw];exact HP12.2);have hp_:Kd.R k96 96 w13 w.heap.size (fun _=>True) (.slice (some ⟨go10,0,none⟩) x3_1.length co10) y145:=(by rw[hw,Ny145.out];exact HP12.1);clear HP12;replace HO_3:=zz (hp_);replace HB:=zz ((by rw[hw];exact qM (qM (qM (qM (HB.out) GB10.out) GB10.out) GB10.out) GB10.out:Below w.heap.size w w13));clear hg hw hp_))
   go_roundg k1
   case measure=>have:=HK1.out;omega
   case rel=>exact⟨(y145),(wrap64 (x4_1+1)),zr,H',⟨by have:=HK1.out;omega⟩,⟨by(with_reducible repeat(first|apply Kd.qU|apply Kd.qT|apply Kd.qX));exact HO_3.out⟩,⟨zb⟩⟩
def laws_toStringS.l0:Nat→List ByteArray→List ByteArray→Int→Option (List ByteArray)
 |0,_,_,_=>none
 |k+1,x0,x3,x4=>if x4<(x0.length:Int) then(if 0≤x4 then(if x4<(x3.length:Int) then(laws_toStringS.l0 k x0 (x3.set (x4:Int).toNat (rdOf ByteArray.empty x0 x4)) (wrap64 (x4+1))) else(none)) else(none)) else(some x3)
def laws_toStringS.f(k:Nat)(l0:List ByteArray):Option (List ByteArray):=if 0≤(l0.length:Int) then(if((l0.length:Int):Int).toNat≤17592186044416 then(laws_toStringS.l0 k l0 (List.replicate ((l0.length:Int):Int).toNat (⟨#[]⟩:ByteArray)) 0) else(none)) else(none)
theorem laws_toStringS.calls(k:Nat)(A0:Option Addr)(c0:Nat)(l0:List ByteArray)(r:List ByteArray)(w:World)(hr0:Kd.C Kd.string w A0 l0.length l0)(hc0:l0.length≤c0)(h:laws_toStringS.f k l0=some r):
 Calls Tryz.prog 20 #[.slice A0 l0.length c0] w fun e w'=>∃v0_:Value,e= .returned (v0_)∧Kd.R Kd.string 9 w' w.heap.size (fun _=>True) v0_ r∧Below w.heap.size w w':=by
 have HR0:=zz hr0
 have HC0:=zz hc0
 clear hr0 hc0
 have HB:=zz (Below.refl w.heap.size w)
 unfold laws_toStringS.f at h
 have H:=h
 clear h
 by_cases c2:0≤(l0.length:Int)
 case neg=>exact zno H c2
 rw[if_pos c2] at H
 have c2b0:=eq_true c2
 have c2b1:=z1 c2
 clear c2
 by_cases c3:((l0.length:Int):Int).toNat≤17592186044416
 case neg=>exact zno H c3
 rw[if_pos c3] at H
 have c3b0:=eq_true c3
 have c3b1:=z1 c3
 clear c3
 obtain⟨y129,hy129⟩:∃y_:List ByteArray,y_=(List.replicate ((l0.length:Int):Int).toNat (⟨#[]⟩:ByteArray)):=⟨_,rfl⟩
 replace H:(laws_toStringS.l0 k l0 y129 0)=some r:=by first|(rw[hy129];with_reducible exact H)|(have H2_:=(Option.bind_some _ _).symm.trans H;rw[hy129];with_reducible exact H2_)|(have H2_:=(Option.bind_some _ _).symm.trans H;with_reducible exact H2_)|with_reducible exact H|(rw[hy129];exact H)|exact H
 have Ny129:=zz hy129
 clear hy129
 have H':=zz H
 clear H
 go_enter Tryz.func20,Tryz.ntmps20
 go_wp2_with(first|(refine zN 7 ?_;refine Kd.R_make Kd.string _ 9 rfl (N:=7) rfl 39 _ _ rfl (l0.length:Int) rfl rfl Tryz.underlying39 (.string ⟨#[]⟩) 16 info9 rfl (by decide) (by omega) (⟨#[]⟩:ByteArray) (ok:=fun _=>True) (okp:=fun _=>True) rfl (fun _ hk=>hk) trivial (z2) (Nat.le_trans (Nat.mul_le_mul_right _ (z2:(l0.length:Int).toNat≤17592186044416)) (by omega)) (Below.refl _ _) (Nat.le_refl _) ?_;intro v130 w4 ho5 hb hg_ hnew_;clear hg_ hnew_;(first|rw[←Ny129.out] at ho5|(simp only[Int.reduceToNat] at ho5;rw[←Ny129.out] at ho5));have HO131:=zz (Kd.vH ho5 (qG zb));replace HB:=zz (zv zb hb);clear hb ho5))
 go_loopg[4] k (fun kq v4 w'=>∃(x3_1:List ByteArray) (x4_1:Int),v4= .int .i64 x4_1∧qB (laws_toStringS.l0 kq l0 x3_1 x4_1=some r)∧qB (kq≤k)∧qB (Kd.R Kd.string 9 w' w.heap.size (fun _=>True) v130 x3_1)∧qB (Below w.heap.size w w'))
 case atStart=>exact⟨(y129),(0),zr,H',⟨Nat.le_refl _⟩,⟨by(with_reducible repeat(first|apply Kd.qU|apply Kd.qT|apply Kd.qX));exact HO131.out⟩,⟨zb⟩⟩
 case round=>
  clear H'
  try clear c2
  try clear c2b0
  try clear c2b1
  try clear p2
  try clear c3
  try clear c3b0
  try clear c3b1
  obtain⟨x3_1,x4_1,rfl,HA,HK1,HO_3,HB⟩:=hrel
  cases gk with
  |zero=>exact absurd HA.out (by simp[laws_toStringS.l0])
  |succ k1=>
   have H:=HA.out
   clear HA
   simp only[laws_toStringS.l0] at H
   by_cases c6:x4_1<(l0.length:Int)
   case neg=>
    rw[if_neg c6] at H
    have c6b0:=z0 c6
    clear c6
    obtain rfl:=zi H
    go_wp2
    go_ret
    exact⟨_,ze,by(with_reducible repeat(first|apply Kd.qU|apply Kd.qT|apply Kd.qX));exact HO_3.out,zb⟩
   rw[if_pos c6] at H
   have c6b0:=z1 c6
   clear c6
   by_cases c7:0≤x4_1
   case neg=>exact zno H c7
   rw[if_pos c7] at H
   have c7b0:=z1 c7
   clear c7
   by_cases c8:x4_1<(x3_1.length:Int)
   case neg=>exact zno H c8
   rw[if_pos c8] at H
   have c8b0:=z1 c8
   clear c8
   obtain⟨y133,hy133⟩:∃y_:List ByteArray,y_=(x3_1.set (x4_1:Int).toNat (rdOf ByteArray.empty l0 x4_1)):=⟨_,rfl⟩
   replace H:(laws_toStringS.l0 k1 l0 y133 (wrap64 (x4_1+1)))=some r:=by first|(rw[hy133];with_reducible exact H)|(have H2_:=(Option.bind_some _ _).symm.trans H;rw[hy133];with_reducible exact H2_)|(have H2_:=(Option.bind_some _ _).symm.trans H;with_reducible exact H2_)|with_reducible exact H|(rw[hy133];exact H)|exact H
   have Ny133:=zz hy133
   clear hy133
   have H':=zz H
   clear H
   have p132:0≤(x4_1:Int):=z2
   have q132:x4_1<(l0.length:Int):=z2
   obtain⟨ad132,e132,hx132_0⟩:=Kd.vC HR0.out x4_1 p132 q132
   cases e132
   replace hx132_0:=z3 HB.out hx132_0
   replace p132:=eq_true p132
   replace q132:=eq_true q132
   have p9:0≤(x4_1:Int):=z2
   have q9:(x4_1:Int)<((x3_1.length:Int):Int):=z2
   obtain⟨go9,co9,eo9,gb9,gl9,cl9,HG9⟩:=Kd.R_form HO_3.out (by omega)
   (first|cases eo9|(injection eo9 with ea_ en_ ec_;(first|subst ea_|(injection ea_ with ea_;subst ea_));subst ec_;clear en_))
   have GB9:=zz gb9
   have GG9:=zz HG9
   clear gb9 gl9 HG9
   obtain⟨hx9_0,hf9_0⟩:=Kd.R_celln (⟨#[]⟩:ByteArray) HO_3.out (x4_1:Int) p9 q9
   replace p9:=eq_true p9
   replace q9:=eq_true q9
   have HP10:=Kd.R_putg HO_3.out (x4_1:Int) (rdOf ByteArray.empty l0 x4_1)
   go_wp2_with(first|((with_reducible refine qY (t:=9) (p:=20) rfl ?_);refine qV (t:=9) (p:=20) (v:=?vo_w11) (w1:=(wr.setCell ⟨go9,(x4_1:Int).toNat,none⟩ (.string (rdOf ByteArray.empty l0 x4_1)))) ?hg ?ho ?hn ?hr ?_;(case ho=>rfl);(case hg=>rfl);(case hn=>rfl);(case hr=>first|(go_simp;done)|(go_simp;rfl));intro w11 hw;have hg:wr.grownBy w11 (some go9):=(by rw[hw];exact HP10.2);have hp_:Kd.R Kd.string 9 w11 w.heap.size (fun _=>True) (.slice (some ⟨go9,0,none⟩) x3_1.length co9) y133:=(by rw[hw,Ny133.out];exact HP10.1);clear HP10;replace HO_3:=zz (hp_);replace HB:=zz ((by rw[hw];exact qM (HB.out) GB9.out:Below w.heap.size w w11));clear hg hw hp_))
   go_roundg k1
   case measure=>have:=HK1.out;omega
   case rel=>exact⟨(y133),(wrap64 (x4_1+1)),zr,H',⟨by have:=HK1.out;omega⟩,⟨by(with_reducible repeat(first|apply Kd.qU|apply Kd.qT|apply Kd.qX));exact HO_3.out⟩,⟨zb⟩⟩
def laws_toItem.f(k:Nat)(a0_0:ByteArray)(a0_1:ByteArray)(l0_2:List ByteArray)(a0_3:ByteArray)(l0_4:List (S159)):Option (ByteArray×ByteArray×List ByteArray×ByteArray×(List (S96))):=(laws_toStringS.f k l0_2).bind fun t149=>((laws_toEntryS.f k l0_4).bind fun t152=>(some (a0_0,a0_1,t149,a0_3,t152)))
theorem laws_toItem.calls(k:Nat)(a0_0:ByteArray)(a0_1:ByteArray)(A0_2:Option Addr)(c0_2:Nat)(l0_2:List ByteArray)(a0_3:ByteArray)(A0_4:Option Addr)(c0_4:Nat)(l0_4:List (S159))(r1:ByteArray)(r2:ByteArray)(r3:List ByteArray)(r4:ByteArray)(r5:List (S96))(w:World)(hr0_2:Kd.C Kd.string w A0_2 l0_2.length l0_2)(hc0_2:l0_2.length≤c0_2)(hr0_4:Kd.C k159 w A0_4 l0_4.length l0_4)(hc0_4:l0_4.length≤c0_4)(h:laws_toItem.f k a0_0 a0_1 l0_2 a0_3 l0_4=some (r1,r2,r3,r4,r5)):
 Calls Tryz.prog 85 #[.agg #[.string a0_0,.string a0_1,.slice A0_2 l0_2.length c0_2,.string a0_3,.slice A0_4 l0_4.length c0_4]] w fun e w'=>∃v2_ v4_:Value,e= .returned (.agg #[.string r1,.string r2,v2_,.string r4,v4_])∧Kd.R Kd.string 9 w' w.heap.size (fun _=>True) v2_ r3∧Kd.R k96 96 w' w.heap.size (fun _=>True) v4_ r5∧Below w.heap.size w w':=by
 have hu103:=Tryz.underlying103
 have hu94:=Tryz.underlying94
 have HR0_2:=zz hr0_2
 have HC0_2:=zz hc0_2
 clear hr0_2 hc0_2
 have HR0_4:=zz hr0_4
 have HC0_4:=zz hc0_4
 clear hr0_4 hc0_4
 have HB:=zz (Below.refl w.heap.size w)
 unfold laws_toItem.f at h
 have H:=h
 clear h
 replace H:=zf H
 obtain⟨t149,A20,H⟩:=H
 try dsimp only at H
 have A2:=zz A20
 clear A20
 replace H:=zf H
 obtain⟨t152,A30,H⟩:=H
 try dsimp only at H
 have A3:=zz A30
 clear A30
 simp only[Option.some.injEq,Prod.mk.injEq] at H
 obtain⟨rfl,rfl,rfl,rfl,rfl⟩:=H
 go_enter Tryz.func85,Tryz.ntmps85
 go_wp2_with(first|(refine zX 1 103 #[.string a0_0,.string a0_1,.slice A0_2 l0_2.length c0_2,.string a0_3,.slice A0_4 l0_4.length c0_4] ?_;intro gb146 hg w4 hbox hb;have BK146:=zz (hbox);have GW146:=zz ((zg:w.heap.size≤gb146));have GE146:=zz ((zg:w.heap.size≤gb146));replace HB:=zz (zv zb hb);clear hb hbox hg)|(refine zX 2 94 #[.string (⟨#[]⟩:ByteArray),.string (⟨#[]⟩:ByteArray),.slice none 0 0,.string (⟨#[]⟩:ByteArray),.slice none 0 0] ?_;intro gb147 hg w5 hbox hb;have BK147:=zz (hbox);have GW147:=zz ((zg:w.heap.size≤gb147));have GE147:=zz ((zg:w.heap.size≤gb147));replace HB:=zz (zv zb hb);have NB146_147:=zz (zH BK146 hg);have NB147_146:=zz (zI BK146 hg);replace BK146:=zz (zJ BK146 hb);clear hb hbox hg)|(refine zX 3 94 #[.string (⟨#[]⟩:ByteArray),.string (⟨#[]⟩:ByteArray),.slice none 0 0,.string (⟨#[]⟩:ByteArray),.slice none 0 0] ?_;intro gb148 hg w6 hbox hb;have BK148:=zz (hbox);have GW148:=zz ((zg:w.heap.size≤gb148));have GE148:=zz ((zg:w.heap.size≤gb148));replace HB:=zz (zv zb hb);have NB146_148:=zz (zH BK146 hg);have NB148_146:=zz (zI BK146 hg);replace BK146:=zz (zJ BK146 hb);have NB147_148:=zz (zH BK147 hg);have NB148_147:=zz (zI BK147 hg);replace BK147:=zz (zJ BK147 hb);clear hb hbox hg;have hnb7:=NB146_147.out;have hnc7:=NB147_146.out;have hnb8:=NB146_148.out;have hnc8:=NB148_146.out;obtain⟨hcz9_0,hcz9_1,hcz9_2,hcz9_3,hcz9_4,hfz9_0,hfz9_1,hfz9_2,hfz9_3,hfz9_4⟩:=zc5 BK146.out;have hnb10:=NB148_147.out;have hnc10:=NB147_148.out;obtain⟨hcz11_0,hcz11_1,hcz11_2,hcz11_3,hcz11_4,hfz11_0,hfz11_1,hfz11_2,hfz11_3,hfz11_4⟩:=zc5 BK148.out)|(refine zL 20 12 Tryz.func20 #[.slice A0_2 l0_2.length c0_2] ?_;(with_reducible refine(laws_toStringS.calls k _ _ l0_2 t149 _ ?s1 ?s2 A2.out).mono ?_);(case s1=>exact Kd.qC HR0_2.out zb);(case s2=>exact HC0_2.out);rintro e w12 ⟨v150,rfl,ho0,hb⟩;refine⟨_,rfl,?_⟩;have HO151:=zz (Kd.vH ho0 (qG zb));replace BK146:=zz (vE (g:=gb146) (o:= .cells #[.string a0_0,.string a0_1,.slice A0_2 l0_2.length c0_2,.string a0_3,.slice A0_4 l0_4.length c0_4] 103 (0,0)) (by(with_reducible repeat(first|refine qJ ?_ _|refine qK ?_|refine qF ?_ _));refine blk_far ?_ NB146_148.out _;(with_reducible repeat(first|refine qJ ?_ _|refine qK ?_|refine qF ?_ _));refine blk_far ?_ NB146_148.out _;(with_reducible repeat(first|refine qJ ?_ _|refine qK ?_|refine qF ?_ _));exact BK146.out) hb);replace BK147:=zz (vE (g:=gb147) (o:= .cells #[.string (⟨#[]⟩:ByteArray),.string (⟨#[]⟩:ByteArray),.slice none 0 0,.string (⟨#[]⟩:ByteArray),.slice none 0 0] 94 (0,0)) (by(with_reducible repeat(first|refine qJ ?_ _|refine qK ?_|refine qF ?_ _));refine blk_far ?_ NB147_148.out _;(with_reducible repeat(first|refine qJ ?_ _|refine qK ?_|refine qF ?_ _));refine blk_far ?_ NB147_148.out _;(with_reducible repeat(first|refine qJ ?_ _|refine qK ?_|refine qF ?_ _));exact BK147.out) hb);replace BK148:=zz (vE (g:=gb148) (o:= .cells #[.string a0_0,.string a0_1,.slice none 0 0,.string (⟨#[]⟩:ByteArray),.slice none 0 0] 94 (0,0)) (by(with_reducible repeat(first|refine qJ ?_ _|refine qK ?_|refine qF ?_ _));refine qP (cs:= #[.string a0_0,.string (⟨#[]⟩:ByteArray),.slice none 0 0,.string (⟨#[]⟩:ByteArray),.slice none 0 0]) ?_ 1 _ rfl;(with_reducible repeat(first|refine qJ ?_ _|refine qK ?_|refine qF ?_ _));refine qP (cs:= #[.string (⟨#[]⟩:ByteArray),.string (⟨#[]⟩:ByteArray),.slice none 0 0,.string (⟨#[]⟩:ByteArray),.slice none 0 0]) ?_ 0 _ rfl;(with_reducible repeat(first|refine qJ ?_ _|refine qK ?_|refine qF ?_ _));exact BK148.out) hb);replace HB:=zz (zv zb hb);(try clear hb);(try clear hb2);(try clear hk);(try clear hi);(try clear ho0);obtain⟨Ao13,co13,eo13⟩:=Kd.vG HO151.out;subst eo13;obtain⟨hcz14_0,hcz14_1,hcz14_2,hcz14_3,hcz14_4,hfz14_0,hfz14_1,hfz14_2,hfz14_3,hfz14_4⟩:=zc5 BK148.out;obtain⟨hcz15_0,hcz15_1,hcz15_2,hcz15_3,hcz15_4,hfz15_0,hfz15_1,hfz15_2,hfz15_3,hfz15_4⟩:=zc5 BK146.out)|(refine zL 123 19 Tryz.func123 #[.slice A0_4 l0_4.length c0_4] ?_;(with_reducible refine(laws_toEntryS.calls k _ _ l0_4 t152 _ ?s1 ?s2 A3.out).mono ?_);(case s1=>exact Kd.qC HR0_4.out zb);(case s2=>exact HC0_4.out);rintro e w16 ⟨v153,rfl,ho0,hb⟩;refine⟨_,rfl,?_⟩;replace HO151:=zz (Kd.R_below (by(with_reducible repeat(first|apply Kd.qU|apply Kd.qT|apply Kd.qX));exact(Kd.vF (Kd.R_far (p:=⟨gb148,3,none⟩) (Kd.R_far (p:=⟨gb148,2,none⟩) (Kd.R_types HO151.out BK148.out (by decide)) (fun _ hk=>hk.2) (.slice Ao13 t149.length co13)) (fun _ hk=>hk.2) (.string a0_3)) (fun _ h_=>h_.1))) hb);have HO154:=zz (Kd.vH ho0 (qG zb));replace BK146:=zz (vE (g:=gb146) (o:= .cells #[.string a0_0,.string a0_1,.slice A0_2 l0_2.length c0_2,.string a0_3,.slice A0_4 l0_4.length c0_4] 103 (0,0)) (by(with_reducible repeat(first|refine qJ ?_ _|refine qK ?_|refine qF ?_ _));refine blk_far ?_ NB146_148.out _;(with_reducible repeat(first|refine qJ ?_ _|refine qK ?_|refine qF ?_ _));refine blk_far ?_ NB146_148.out _;(with_reducible repeat(first|refine qJ ?_ _|refine qK ?_|refine qF ?_ _));exact BK146.out) hb);replace BK147:=zz (vE (g:=gb147) (o:= .cells #[.string (⟨#[]⟩:ByteArray),.string (⟨#[]⟩:ByteArray),.slice none 0 0,.string (⟨#[]⟩:ByteArray),.slice none 0 0] 94 (0,0)) (by(with_reducible repeat(first|refine qJ ?_ _|refine qK ?_|refine qF ?_ _));refine blk_far ?_ NB147_148.out _;(with_reducible repeat(first|refine qJ ?_ _|refine qK ?_|refine qF ?_ _));refine blk_far ?_ NB147_148.out _;(with_reducible repeat(first|refine qJ ?_ _|refine qK ?_|refine qF ?_ _));exact BK147.out) hb);replace BK148:=zz (vE (g:=gb148) (o:= .cells #[.string a0_0,.string a0_1,.slice Ao13 t149.length co13,.string a0_3,.slice none 0 0] 94 (0,0)) (by(with_reducible repeat(first|refine qJ ?_ _|refine qK ?_|refine qF ?_ _));refine qP (cs:= #[.string a0_0,.string a0_1,.slice Ao13 t149.length co13,.string (⟨#[]⟩:ByteArray),.slice none 0 0]) ?_ 3 _ rfl;(with_reducible repeat(first|refine qJ ?_ _|refine qK ?_|refine qF ?_ _));refine qP (cs:= #[.string a0_0,.string a0_1,.slice none 0 0,.string (⟨#[]⟩:ByteArray),.slice none 0 0]) ?_ 2 _ rfl;(with_reducible repeat(first|refine qJ ?_ _|refine qK ?_|refine qF ?_ _));exact BK148.out) hb);replace HB:=zz (zv zb hb);(try clear hb);(try clear hb2);(try clear hk);(try clear hi);(try clear ho0);obtain⟨Ao17,co17,eo17⟩:=Kd.vG HO154.out;subst eo17;obtain⟨hcz18_0,hcz18_1,hcz18_2,hcz18_3,hcz18_4,hfz18_0,hfz18_1,hfz18_2,hfz18_3,hfz18_4⟩:=zc5 BK148.out;obtain⟨hcz19_0,hcz19_1,hcz19_2,hcz19_3,hcz19_4,hfz19_0,hfz19_1,hfz19_2,hfz19_3,hfz19_4⟩:=zc5 BK147.out))
 refine bodyPost_ret (results_cell_row rfl _ _ gb147 94 #[.string a0_0,.string a0_1,.slice Ao13 t149.length co13,.string a0_3,.slice Ao17 t152.length co17] (0,0) _ rfl (by(with_reducible repeat(first|refine qJ ?_ _|refine qK ?_|refine qF ?_ _));refine qP (cs:= #[.string a0_0,.string a0_1,.slice Ao13 t149.length co13,.string a0_3,.slice none 0 0]) ?_ 4 _ rfl;(with_reducible repeat(first|refine qJ ?_ _|refine qK ?_|refine qF ?_ _));refine qP (cs:= #[.string a0_0,.string a0_1,.slice Ao13 t149.length co13,.string (⟨#[]⟩:ByteArray),.slice none 0 0]) ?_ 3 _ rfl;(with_reducible repeat(first|refine qJ ?_ _|refine qK ?_|refine qF ?_ _));refine qP (cs:= #[.string a0_0,.string a0_1,.slice none 0 0,.string (⟨#[]⟩:ByteArray),.slice none 0 0]) ?_ 2 _ rfl;(with_reducible repeat(first|refine qJ ?_ _|refine qK ?_|refine qF ?_ _));refine qP (cs:= #[.string a0_0,.string (⟨#[]⟩:ByteArray),.slice none 0 0,.string (⟨#[]⟩:ByteArray),.slice none 0 0]) ?_ 1 _ rfl;(with_reducible repeat(first|refine qJ ?_ _|refine qK ?_|refine qF ?_ _));refine qP (cs:= #[.string (⟨#[]⟩:ByteArray),.string (⟨#[]⟩:ByteArray),.slice none 0 0,.string (⟨#[]⟩:ByteArray),.slice none 0 0]) ?_ 0 _ rfl;(with_reducible repeat(first|refine qJ ?_ _|refine qK ?_|refine qF ?_ _));refine blk_far ?_ NB147_148.out _;(with_reducible repeat(first|refine qJ ?_ _|refine qK ?_|refine qF ?_ _));exact BK147.out) Tryz.underlying94 rfl zk) rfl ?_
 exact⟨_,_,ze,by(with_reducible repeat(first|apply Kd.qU|apply Kd.qT|apply Kd.qX));exact Kd.vF (Kd.R_far (p:=⟨gb147,4,none⟩) (Kd.R_far (p:=⟨gb147,3,none⟩) (Kd.R_far (p:=⟨gb147,2,none⟩) (Kd.R_far (p:=⟨gb147,1,none⟩) (Kd.R_far (p:=⟨gb147,0,none⟩) (Kd.R_far (p:=⟨gb148,4,none⟩) (Kd.R_types (Kd.R_types HO151.out BK148.out (by decide)) BK147.out (by decide)) (fun _ hk=>hk.1.2) (.slice Ao17 t152.length co17)) (fun _ hk=>hk.2) (.string a0_0)) (fun _ hk=>hk.2) (.string a0_1)) (fun _ hk=>hk.2) (.slice Ao13 t149.length co13)) (fun _ hk=>hk.2) (.string a0_3)) (fun _ hk=>hk.2) (.slice Ao17 t152.length co17)) (fun _ hk=>trivial),by(with_reducible repeat(first|apply Kd.qU|apply Kd.qT|apply Kd.qX));exact Kd.vF (Kd.R_far (p:=⟨gb147,4,none⟩) (Kd.R_far (p:=⟨gb147,3,none⟩) (Kd.R_far (p:=⟨gb147,2,none⟩) (Kd.R_far (p:=⟨gb147,1,none⟩) (Kd.R_far (p:=⟨gb147,0,none⟩) (Kd.R_far (p:=⟨gb148,4,none⟩) (Kd.R_types (Kd.R_types HO154.out BK148.out (by decide)) BK147.out (by decide)) (fun _ hk=>hk.1.2) (.slice Ao17 t152.length co17)) (fun _ hk=>hk.2) (.string a0_0)) (fun _ hk=>hk.2) (.string a0_1)) (fun _ hk=>hk.2) (.slice Ao13 t149.length co13)) (fun _ hk=>hk.2) (.string a0_3)) (fun _ hk=>hk.2) (.slice Ao17 t152.length co17)) (fun _ hk=>trivial),zb⟩
section
attribute [local go_sem] run_store_one
def laws_toItemS.l0:Nat→List (S103)→List (S94)→Int→Option ((List (S94)))
 |0,_,_,_=>none
 |k+1,x0,x3,x4=>if x4<(x0.length:Int) then(if 0≤x4 then((laws_toItem.f k ((rd_T103 x0 x4).f0) ((rd_T103 x0 x4).f1) ((rd_T103 x0 x4).f2) ((rd_T103 x0 x4).f3) ((rd_T103 x0 x4).f4)).bind fun bt159=>(if x4<(x3.length:Int) then(laws_toItemS.l0 k x0 (x3.set (x4:Int).toNat (⟨bt159.1,bt159.2.1,bt159.2.2.1,bt159.2.2.2.1,bt159.2.2.2.2⟩:S94)) (wrap64 (x4+1))) else(none))) else(none)) else(some x3)
def laws_toItemS.f(k:Nat)(l0:List (S103)):Option ((List (S94))):=if 0≤(l0.length:Int) then(if((l0.length:Int):Int).toNat≤2932031007402 then(laws_toItemS.l0 k l0 (List.replicate ((l0.length:Int):Int).toNat z94) 0) else(none)) else(none)
theorem laws_toItemS.calls(k:Nat)(A0:Option Addr)(c0:Nat)(l0:List (S103))(r:List (S94))(w:World)(hr0:Kd.C k103 w A0 l0.length l0)(hc0:l0.length≤c0)(h:laws_toItemS.f k l0=some r):
 Calls Tryz.prog 38 #[.slice A0 l0.length c0] w fun e w'=>∃v0_:Value,e= .returned (v0_)∧Kd.S k94 94 w' w.heap.size (fun _=>True) v0_ r∧Below w.heap.size w w':=by
 have hu103:=Tryz.underlying103
 have hu94:=Tryz.underlying94
 have HR0:=zz hr0
 have HC0:=zz hc0
 clear hr0 hc0
 have HB:=zz (Below.refl w.heap.size w)
 unfold laws_toItemS.f at h
 have H:=h
 clear h
 by_cases c2:0≤(l0.length:Int)
 case neg=>exact zno H c2
 rw[if_pos c2] at H
 have c2b0:=eq_true c2
 have c2b1:=z1 c2
 clear c2
 by_cases c3:((l0.length:Int):Int).toNat≤2932031007402
 case neg=>exact zno H c3
 rw[if_pos c3] at H
 have c3b0:=eq_true c3
 have c3b1:=z1 c3
 clear c3
 obtain⟨y155,hy155⟩:∃y_:List (S94),y_=(List.replicate ((l0.length:Int):Int).toNat z94):=⟨_,rfl⟩
 replace H:(laws_toItemS.l0 k l0 y155 0)=some r:=by first|(rw[hy155];with_reducible exact H)|(have H2_:=(Option.bind_some _ _).symm.trans H;rw[hy155];with_reducible exact H2_)|(have H2_:=(Option.bind_some _ _).symm.trans H;with_reducible exact H2_)|with_reducible exact H|(rw[hy155];exact H)|exact H
 have Ny155:=zz hy155
 clear hy155
 have H':=zz H
 clear H
 go_enter Tryz.func38,Tryz.ntmps38
 go_wp2_with(first|(refine zN 7 ?_;refine Kd.S_make k94 _ 94 rfl (N:=7) rfl 30 _ _ rfl (l0.length:Int) rfl rfl Tryz.underlying30 (.agg #[(.string ⟨#[]⟩),(.string ⟨#[]⟩),(.slice none 0 0),(.string ⟨#[]⟩),(.slice none 0 0)]) 96 info94 rfl (by decide) (by omega) z94 (ok:=fun _=>True) (okp:=fun _=>True) (k94_mkM _ _ _ z94 (Kd.R_nil _ _ _ _ _) (Kd.R_nil _ _ _ _ _)) (fun _ hk=>hk) trivial (z2) (Nat.le_trans (Nat.mul_le_mul_right _ (z2:(l0.length:Int).toNat≤2932031007402)) (by omega)) (Below.refl _ _) (Nat.le_refl _) ?_;intro v156 w4 ho5 hb hg_ hnew_;clear hg_ hnew_;(first|rw[←Ny155.out] at ho5|(simp only[Int.reduceToNat] at ho5;rw[←Ny155.out] at ho5));have HO157:=zz (Kd.S_lower ho5 (qG zb));replace HB:=zz (zv zb hb);clear hb ho5))
 go_loopg[4] k (fun kq v4 w'=>∃(x3_1:List (S94)) (x4_1:Int),v4= .int .i64 x4_1∧qB (laws_toItemS.l0 kq l0 x3_1 x4_1=some r)∧qB (kq≤k)∧qB (Kd.S k94 94 w' w.heap.size (fun _=>True) v156 x3_1)∧qB (Below w.heap.size w w'))
 case atStart=>exact⟨(y155),(0),zr,H',⟨Nat.le_refl _⟩,⟨by(with_reducible repeat(first|apply Kd.S_alloc|apply Kd.S_drewN|apply Kd.S_drew));exact HO157.out⟩,⟨zb⟩⟩
 case round=>
  clear H'
  try clear c2
  try clear c2b0
  try clear c2b1
  try clear p2
  try clear c3
  try clear c3b0
  try clear c3b1
  obtain⟨x3_1,x4_1,rfl,HA,HK1,HO_3,HB⟩:=hrel
  cases gk with
  |zero=>exact absurd HA.out (by simp[laws_toItemS.l0])
  |succ k1=>
   have H:=HA.out
   clear HA
   simp only[laws_toItemS.l0] at H
   by_cases c6:x4_1<(l0.length:Int)
   case neg=>
    rw[if_neg c6] at H
    have c6b0:=z0 c6
    clear c6
    obtain rfl:=zi H
    go_wp2
    go_ret
    exact⟨_,ze,by(with_reducible repeat(first|apply Kd.S_alloc|apply Kd.S_drewN|apply Kd.S_drew));exact HO_3.out,zb⟩
   rw[if_pos c6] at H
   have c6b0:=z1 c6
   clear c6
   by_cases c7:0≤x4_1
   case neg=>exact zno H c7
   rw[if_pos c7] at H
   have c7b0:=z1 c7
   clear c7
   replace H:=zf H
   obtain⟨⟨t159,t160,t161,t164,t165⟩,A80,H⟩:=H
   try dsimp only at H
   have A8:=zz A80
   clear A80
   by_cases c9:x4_1<(x3_1.length:Int)
   case neg=>exact zno H c9
   rw[if_pos c9] at H
   have c9b0:=z1 c9
   clear c9
   obtain⟨y168,hy168⟩:∃y_:List (S94),y_=(x3_1.set (x4_1:Int).toNat (⟨t159,t160,t161,t164,t165⟩:S94)):=⟨_,rfl⟩
   replace H:(laws_toItemS.l0 k1 l0 y168 (wrap64 (x4_1+1)))=some r:=by first|(rw[hy168];with_reducible exact H)|(have H2_:=(Option.bind_some _ _).symm.trans H;rw[hy168];with_reducible exact H2_)|(have H2_:=(Option.bind_some _ _).symm.trans H;with_reducible exact H2_)|with_reducible exact H|(rw[hy168];exact H)|exact H
   have Ny168:=zz hy168
   clear hy168
   have H':=zz H
   clear H
   have p158:0≤(x4_1:Int):=z2
   have q158:x4_1<(l0.length:Int):=z2
   obtain⟨ad158,A158_2,c158_2,A158_4,c158_4,e158,hx158_0,hx158_1,hx158_2,hx158_3,hx158_4,hl158_2,hi158_2,hl158_4,hi158_4⟩:=at_T103 HR0.out x4_1 p158 q158
   cases e158
   replace hx158_0:=z3 HB.out hx158_0
   replace hx158_1:=z3 HB.out hx158_1
   replace hx158_2:=z3 HB.out hx158_2
   replace hx158_3:=z3 HB.out hx158_3
   replace hx158_4:=z3 HB.out hx158_4
   have HR158_2:=zz hi158_2
   have HC158_2:=zz hl158_2
   clear hi158_2 hl158_2
   have HR158_4:=zz hi158_4
   have HC158_4:=zz hl158_4
   clear hi158_4 hl158_4
   replace p158:=eq_true p158
   replace q158:=eq_true q158
   go_wp2_with(first|(refine zL 85 20 Tryz.func85 #[.agg #[.string ((rd_T103 l0 x4_1).f0),.string ((rd_T103 l0 x4_1).f1),.slice A158_2 ((rd_T103 l0 x4_1).f2).length c158_2,.string ((rd_T103 l0 x4_1).f3),.slice A158_4 ((rd_T103 l0 x4_1).f4).length c158_4]] ?_;(with_reducible refine(laws_toItem.calls k1 ((rd_T103 l0 x4_1).f0) ((rd_T103 l0 x4_1).f1) _ _ ((rd_T103 l0 x4_1).f2) ((rd_T103 l0 x4_1).f3) _ _ ((rd_T103 l0 x4_1).f4) t159 t160 t161 t164 t165 _ ?s1 ?s2 ?s3 ?s4 A8.out).mono ?_);(case s1=>exact zc HR158_2.out);(case s2=>exact HC158_2.out);(case s3=>exact zc HR158_4.out);(case s4=>exact HC158_4.out);rintro e w11 ⟨v162,v166,rfl,ho0,ho1,hb⟩;refine⟨_,rfl,?_⟩;replace HO_3:=zz (Kd.S_mono (Kd.S_told (Kd.S_told (Kd.S_old (zS HO_3.out) hb) (Kd.R_base ho0)) (Kd.R_base ho1)) (fun _ h_=>h_.1));have HO163:=zz (Kd.vH ho0 (qG zb));have HO167:=zz (Kd.vH ho1 (qG zb));replace HB:=zz (zv zb hb);(try clear hb);(try clear hb2);(try clear hk);(try clear hi);(try clear ho0);(try clear ho1);have p10:0≤(x4_1:Int):=z2;have q10:(x4_1:Int)<((x3_1.length:Int):Int):=z2;obtain⟨go10,co10,eo10,gb10,gl10,cl10,HG10⟩:=Kd.S_form HO_3.out (by omega);(first|cases eo10|(injection eo10 with ea_ en_ ec_;(first|subst ea_|(injection ea_ with ea_;subst ea_));subst ec_;clear en_));have GB10:=zz gb10;have GG10:=zz HG10;clear gb10 gl10 HG10;obtain⟨_,ce10,hcl10,hM10,hcc10,hfr10,_,_⟩:=Kd.S_elem HO_3.out z94 (x4_1:Int) p10 q10;obtain⟨ve10_2,ve10_4,rfl,ge10_2,ge10_4⟩:=k94_openM hM10;have hx10_0:w11.cell? ⟨go10,(x4_1:Int).toNat*5,none⟩=some (.string ((qL x3_1 x4_1).f0)):=hcc10 0 _ rfl;have hx10_1:w11.cell? ⟨go10,(x4_1:Int).toNat*5+1,none⟩=some (.string ((qL x3_1 x4_1).f1)):=hcc10 1 _ rfl;have hx10_2:w11.cell? ⟨go10,(x4_1:Int).toNat*5+2,none⟩=some (ve10_2):=hcc10 2 _ rfl;have hx10_3:w11.cell? ⟨go10,(x4_1:Int).toNat*5+3,none⟩=some (.string ((qL x3_1 x4_1).f3)):=hcc10 3 _ rfl;have hx10_4:w11.cell? ⟨go10,(x4_1:Int).toNat*5+4,none⟩=some (ve10_4):=hcc10 4 _ rfl;have hf10_0:w11.frozen? ⟨go10,(x4_1:Int).toNat*5,none⟩=false:=hfr10 0;have hf10_1:w11.frozen? ⟨go10,(x4_1:Int).toNat*5+1,none⟩=false:=hfr10 1;have hf10_2:w11.frozen? ⟨go10,(x4_1:Int).toNat*5+2,none⟩=false:=hfr10 2;have hf10_3:w11.frozen? ⟨go10,(x4_1:Int).toNat*5+3,none⟩=false:=hfr10 3;have hf10_4:w11.frozen? ⟨go10,(x4_1:Int).toNat*5+4,none⟩=false:=hfr10 4;clear hcl10 hcc10 hfr10 hM10;replace p10:=eq_true p10;replace q10:=eq_true q10;have n_:=zz (Kd.S_mono (ok':=(fun k_=>some k_≠(v162:Value).ownBlock∧some k_≠(v166:Value).ownBlock)) HO_3.out (fun k_ hk=>⟨hk.1.2,hk.2⟩));clear HO_3;have HO_3:=n_;clear n_;have HX12:=zz (show Kd.S k94 94 w11 w.heap.size (fun k_=>((fun _=>True)) k_∧¬((fun k_=>some k_=(v162:Value).ownBlock∨some k_=(v166:Value).ownBlock)) k_) (.slice (some ⟨go10,0,none⟩) x3_1.length co10) x3_1 from(by(with_reducible repeat(first|apply Kd.S_alloc|apply Kd.S_drewN|apply Kd.S_drew));exact Kd.S_mono HO_3.out (fun k_ hk=>⟨trivial,fun e_=>e_.elim (fun h_=>hk.1 h_) (fun h_=>hk.2 h_)⟩)));obtain⟨oki12,ce12,hcl12,hM12,hcc12,hfr12,hoki12,hH12⟩:=Kd.S_elem HX12.out z94 (x4_1:Int) (z2) (by have h_:(x4_1:Int)<((x3_1.length:Int):Int):=z2;first|exact h_|(have e_:=(Kd.S_reads' HO_3.out).1;omega)|simpa using h_);obtain⟨ve12_2,ve12_4,rfl,ge12_2,ge12_4⟩:=k94_openM hM12;have HP12:=Kd.S_seg hH12 (z2) (by have h_:(x4_1:Int)<((x3_1.length:Int):Int):=z2;first|exact h_|(have e_:=(Kd.S_reads' HO_3.out).1;omega)|simpa using h_) (seg:=[.string t159,.string t160,v162,.string t164,v166]) (j:=0) (show 5≤5 from by decide) (x':=(⟨t159,t160,t161,t164,t165⟩:S94)) (k94_mkM _ _ _ (⟨t159,t160,t161,t164,t165⟩:S94) (Kd.vF (Kd.R_tight rfl (Kd.vF (ok':=fun k_=>((fun _=>True)) k_∧k_≠go10) (Kd.R_apart' (HO163.out) (Kd.S_typed HO_3.out) (by decide)) (fun k_ hk=>⟨trivial,fun e_=>(hk.2) (by rw[e_];rfl)⟩))) (fun _ h_=>Or.inr (Or.inl h_))) (Kd.vF (Kd.R_tight rfl (Kd.vF (ok':=fun k_=>((fun _=>True)) k_∧k_≠go10) (Kd.R_apart' (HO167.out) (Kd.S_typed HO_3.out) (by decide)) (fun k_ hk=>⟨trivial,fun e_=>(hk.2) (by rw[e_];rfl)⟩))) (fun _ h_=>Or.inr (Or.inr (h_))))) (fun _ hk=>hk) (fun k_ hk_=>hk_.elim (fun h_=>((Kd.vF (ok':=fun k_=>((fun _=>True)) k_∧k_≠go10) (Kd.R_apart' (HO163.out) (Kd.S_typed HO_3.out) (by decide)) (fun k_ hk=>⟨trivial,fun e_=>(hk.2) (by rw[e_];rfl)⟩))).1 k_ h_.symm) (fun h_=>((Kd.vF (ok':=fun k_=>((fun _=>True)) k_∧k_≠go10) (Kd.R_apart' (HO167.out) (Kd.S_typed HO_3.out) (by decide)) (fun k_ hk=>⟨trivial,fun e_=>(hk.2) (by rw[e_];rfl)⟩))).1 k_ h_.symm));have hx12_0:=hcc12 0 _ rfl;(try simp only[show(k94).sz=5 from rfl,Nat.mul_one,Nat.add_zero] at hx12_0);have hf12_0:=hfr12 0;(try simp only[show(k94).sz=5 from rfl,Nat.mul_one,Nat.add_zero] at hf12_0);have hx12_1:=hcc12 1 _ rfl;(try simp only[show(k94).sz=5 from rfl,Nat.mul_one,Nat.add_zero] at hx12_1);have hf12_1:=hfr12 1;(try simp only[show(k94).sz=5 from rfl,Nat.mul_one,Nat.add_zero] at hf12_1);have hx12_2:=hcc12 2 _ rfl;(try simp only[show(k94).sz=5 from rfl,Nat.mul_one,Nat.add_zero] at hx12_2);have hf12_2:=hfr12 2;(try simp only[show(k94).sz=5 from rfl,Nat.mul_one,Nat.add_zero] at hf12_2);have hx12_3:=hcc12 3 _ rfl;(try simp only[show(k94).sz=5 from rfl,Nat.mul_one,Nat.add_zero] at hx12_3);have hf12_3:=hfr12 3;(try simp only[show(k94).sz=5 from rfl,Nat.mul_one,Nat.add_zero] at hf12_3);have hx12_4:=hcc12 4 _ rfl;(try simp only[show(k94).sz=5 from rfl,Nat.mul_one,Nat.add_zero] at hx12_4);have hf12_4:=hfr12 4;(try simp only[show(k94).sz=5 from rfl,Nat.mul_one,Nat.add_zero] at hf12_4);clear hcl12 hcc12 hfr12 hM12 hoki12 hH12;have hone12_2:=R_one HO163.out;have hone12_4:=R_one HO167.out)|((with_reducible refine qY (t:=94) (p:=21) rfl ?_);refine qV (t:=94) (p:=21) (v:=?vo_w13) (w1:=(((((w11.setCell ⟨go10,(x4_1:Int).toNat*5,none⟩ (.string t159)).setCell ⟨go10,(x4_1:Int).toNat*5+1,none⟩ (.string t160)).setCell ⟨go10,(x4_1:Int).toNat*5+2,none⟩ (v162)).setCell ⟨go10,(x4_1:Int).toNat*5+3,none⟩ (.string t164)).setCell ⟨go10,(x4_1:Int).toNat*5+4,none⟩ (v166))) ?hg ?ho ?hn ?hr ?_;(case ho=>rfl);(case hg=>rfl);(case hn=>rfl);(case hr=>first|(go_simp;done)|(go_simp;rfl));intro w13 hw;have hg:w11.grownBy w13 (some go10):=(by rw[hw];exact HP12.2);have hp_:Kd.S k94 94 w13 w.heap.size (fun _=>True) (.slice (some ⟨go10,0,none⟩) x3_1.length co10) y168:=(by rw[hw,Ny168.out];exact HP12.1);clear HP12;replace HO_3:=zz (hp_);replace HB:=zz ((by rw[hw];exact qM (qM (qM (qM (qM (HB.out) GB10.out) GB10.out) GB10.out) GB10.out) GB10.out:Below w.heap.size w w13));clear HO163 HO167;clear hg hw hp_))
   go_roundg k1
   case measure=>have:=HK1.out;omega
   case rel=>exact⟨(y168),(wrap64 (x4_1+1)),zr,H',⟨by have:=HK1.out;omega⟩,⟨by(with_reducible repeat(first|apply Kd.S_alloc|apply Kd.S_drewN|apply Kd.S_drew));exact HO_3.out⟩,⟨zb⟩⟩
end
def laws_toGen.f(a0_0:Int)(a0_1:ByteArray):Option (Int×ByteArray):=some (a0_0,a0_1)
theorem laws_toGen.calls(a0_0:Int)(a0_1:ByteArray)(r1:Int)(r2:ByteArray)(w:World)(h:laws_toGen.f a0_0 a0_1=some (r1,r2)):
 Calls Tryz.prog 144 #[.agg #[.int .i64 a0_0,.string a0_1]] w fun e w'=>e= .returned (.agg #[.int .i64 r1,.string r2])∧Below w.heap.size w w':=by
 have hu161:=Tryz.underlying161
 have hu70:=Tryz.underlying70
 have HB:=zz (Below.refl w.heap.size w)
 unfold laws_toGen.f at h
 have H:=h
 clear h
 simp only[Option.some.injEq,Prod.mk.injEq] at H
 obtain⟨rfl,rfl⟩:=H
 go_enter Tryz.func144,Tryz.ntmps144
 go_wp2_with(first|(refine zX 1 161 #[.int .i64 a0_0,.string a0_1] ?_;intro gb169 hg w2 hbox hb;have BK169:=zz (hbox);have GW169:=zz ((zg:w.heap.size≤gb169));have GE169:=zz ((zg:w.heap.size≤gb169));replace HB:=zz (zv zb hb);clear hb hbox hg)|(refine zX 2 70 #[.int .i64 0,.string (⟨#[]⟩:ByteArray)] ?_;intro gb170 hg w3 hbox hb;have BK170:=zz (hbox);have GW170:=zz ((zg:w.heap.size≤gb170));have GE170:=zz ((zg:w.heap.size≤gb170));replace HB:=zz (zv zb hb);have NB169_170:=zz (zH BK169 hg);have NB170_169:=zz (zI BK169 hg);replace BK169:=zz (zJ BK169 hb);clear hb hbox hg)|(refine zX 3 70 #[.int .i64 0,.string (⟨#[]⟩:ByteArray)] ?_;intro gb171 hg w4 hbox hb;have BK171:=zz (hbox);have GW171:=zz ((zg:w.heap.size≤gb171));have GE171:=zz ((zg:w.heap.size≤gb171));replace HB:=zz (zv zb hb);have NB169_171:=zz (zH BK169 hg);have NB171_169:=zz (zI BK169 hg);replace BK169:=zz (zJ BK169 hb);have NB170_171:=zz (zH BK170 hg);have NB171_170:=zz (zI BK170 hg);replace BK170:=zz (zJ BK170 hb);clear hb hbox hg;have hnb5:=NB169_170.out;have hnc5:=NB170_169.out;have hnb6:=NB169_171.out;have hnc6:=NB171_169.out;obtain⟨hcz7_0,hcz7_1,hfz7_0,hfz7_1⟩:=zc2 BK169.out;have hnb8:=NB171_170.out;have hnc8:=NB170_171.out;obtain⟨hcz9_0,hcz9_1,hfz9_0,hfz9_1⟩:=zc2 BK171.out;obtain⟨hcz10_0,hcz10_1,hfz10_0,hfz10_1⟩:=zc2 BK170.out))
 refine bodyPost_ret (results_cell_row rfl _ _ gb170 70 #[.int .i64 a0_0,.string a0_1] (0,0) _ rfl (by(with_reducible repeat(first|refine qJ ?_ _|refine qK ?_|refine qF ?_ _));refine qP (cs:= #[.int .i64 a0_0,.string (⟨#[]⟩:ByteArray)]) ?_ 1 _ rfl;(with_reducible repeat(first|refine qJ ?_ _|refine qK ?_|refine qF ?_ _));refine qP (cs:= #[.int .i64 0,.string (⟨#[]⟩:ByteArray)]) ?_ 0 _ rfl;(with_reducible repeat(first|refine qJ ?_ _|refine qK ?_|refine qF ?_ _));refine blk_far ?_ NB170_171.out _;(with_reducible repeat(first|refine qJ ?_ _|refine qK ?_|refine qF ?_ _));refine blk_far ?_ NB170_171.out _;(with_reducible repeat(first|refine qJ ?_ _|refine qK ?_|refine qF ?_ _));exact BK170.out) Tryz.underlying70 rfl zk) rfl ?_
 exact⟨ze,zb⟩
end Go.Proofs.YtcekmnclmldmmaaGreatDoor.Q
